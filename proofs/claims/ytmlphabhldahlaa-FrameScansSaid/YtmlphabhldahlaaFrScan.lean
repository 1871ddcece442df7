/- What a scan of frames comes to, in plain numbers and lists. -/
import Derived.Test.YtmlphabhldahlaaFrMake
import Derived.Test.YtmlphabhldahlaaPFkx19
import Derived.Test.YtmlphabhldahlaaPFkx20
namespace Go.Proofs.Ytmlphabhldahlaa.Fr
open Go.RowKit Go.Proofs.Ytmlphabhldahlaa.PFk Go.Proofs.YtmlphabhldahlaaW.PrintWords Go.Proofs.YtmlphabhldahlaaW.PrintLast
theorem nx_zero {b : List Int} {p : Nat} (he : (nx b p).2.2 = 0) : nx b p = (bod b p, ((p + 8 + num b p : Nat) : Int), 0) ∧ p + 8 + num b p ≤ b.length := by
  unfold nx at he ⊢
  by_cases h1 : p = b.length
  · rw [if_pos h1] at he; simp at he
  rw [if_neg h1] at he ⊢
  by_cases h2 : b.length < p + 8
  · rw [if_pos h2] at he; simp at he
  rw [if_neg h2] at he ⊢
  by_cases h3 : 4096 < num b p
  · rw [if_pos h3] at he; simp at he
  rw [if_neg h3] at he ⊢
  by_cases h4 : b.length < p + 8 + num b p
  · rw [if_pos h4] at he; simp at he
  rw [if_neg h4] at he ⊢
  by_cases h5 : hd (bod b p) = (b.drop p).take 8
  · rw [if_pos h5]
    exact ⟨rfl, by omega⟩
  · rw [if_neg h5] at he; simp at he
theorem nextS_in {b : List Int} {p : Nat} (hp : p ≤ b.length) : nextS b (p : Int) = nx b p := by
  unfold nextS
  rw [if_neg (by omega), Int.toNat_natCast]
theorem scan_eq {b : List Int} (hb : Crc.Bytes b) (hl : b.length ≤ 1000000) : ∀ (d p k : Nat) (acc : List (List Int)), b.length - p ≤ d → p ≤ b.length → acc.length + d ≤ 5000000 → d + 20 ≤ k →
    ∃ (l : List (List Int)) (q : Nat), frame_Scan.l0 k b acc (p : Int) = some (acc ++ l, (q : Int)) ∧ rollbacknetref11_Scan.l0 k b acc (p : Int) = some (acc ++ l, (q : Int)) ∧ p ≤ q ∧ q ≤ b.length ∧ (∀ y ∈ l, y.length ≤ b.length) ∧ l.length ≤ d := by
  intro d
  induction d with
  | zero =>
    intro p k acc h1 h2 h3 hk
    obtain ⟨k, rfl⟩ : ∃ m, k = m + 1 := ⟨k - 1, by omega⟩
    simp only [frame_Scan.l0, rollbacknetref11_Scan.l0]
    have e : nx b p = ([], 0, 11) := by unfold nx; rw [if_pos (by omega)]
    rw [bind_of (next_eq hb (by omega) (p : Int) (by omega)), bind_of (ref_eq hb (by omega) (p : Int) (by omega)), nextS_in h2, e]
    exact ⟨[], p, by rw [if_neg (by decide), List.append_nil], by rw [if_neg (by decide), List.append_nil], Nat.le_refl _, h2, fun y hy => by simp at hy, Nat.zero_le _⟩
  | succ d ih =>
    intro p k acc h1 h2 h3 hk
    obtain ⟨k, rfl⟩ : ∃ m, k = m + 1 := ⟨k - 1, by omega⟩
    simp only [frame_Scan.l0, rollbacknetref11_Scan.l0]
    rw [bind_of (next_eq hb (by omega) (p : Int) (by omega)), bind_of (ref_eq hb (by omega) (p : Int) (by omega)), nextS_in h2]
    by_cases he : (nx b p).2.2 = 0
    · obtain ⟨e, h5⟩ := nx_zero he
      obtain ⟨l, q, e1, e2, q1, q2, q3, q4⟩ := ih (p + 8 + num b p) k (acc ++ [bod b p]) (by omega) h5 (by simp; omega) (by omega)
      have hlt : acc.length < 5864062014805 := by omega
      rw [e]
      refine ⟨bod b p :: l, q, ?_, ?_, by omega, q2, ?_, by simp; omega⟩
      · rw [if_pos rfl, if_pos hlt, e1, List.append_assoc]
        rfl
      · rw [if_pos rfl, if_pos hlt, e2, List.append_assoc]
        rfl
      · intro y hy
        rcases List.mem_cons.1 hy with rfl | hy
        · rw [bod_length h5]; omega
        · exact q3 y hy
    · refine ⟨[], p, by rw [if_neg he, List.append_nil], by rw [if_neg he, List.append_nil], Nat.le_refl _, h2, fun y hy => by simp at hy, Nat.zero_le _⟩
theorem num_at (pre : List Int) {y : List Int} (r : List Int) (hy : y.length ≤ 4096) : num (pre ++ (hd y ++ r)) pre.length = y.length := by
  have hgd : ∀ j, j < 4 → (pre ++ (hd y ++ r)).getD (pre.length + j) 0 = (frame_Seal.le (y.length : Int)).getD j 0 := by
    intro j hj
    rw [List.getD_eq_getElem?_getD, List.getD_eq_getElem?_getD, List.getElem?_append_right (by omega), Nat.add_sub_cancel_left, List.getElem?_append_left (by rw [hd_length]; omega)]
    unfold hd
    rw [List.getElem?_append_left (by show j < 4; exact hj)]
  unfold num
  have h0 := hgd 0 (by omega)
  rw [Nat.add_zero] at h0
  rw [h0, hgd 1 (by omega), hgd 2 (by omega), hgd 3 (by omega)]
  show ((y.length : Int) % 256 + ((y.length : Int) / 256 % 256) * 256 + ((y.length : Int) / 65536 % 256) * 65536 + ((y.length : Int) / 16777216 % 256) * 16777216).toNat = _
  omega
theorem nx_at (pre : List Int) {y : List Int} (r : List Int) (hy : y.length ≤ 4096) : nx (pre ++ (hd y ++ (y ++ r))) pre.length = (y, ((pre.length + 8 + y.length : Nat) : Int), 0) := by
  have hn := num_at pre (y ++ r) hy
  have hlen : (pre ++ (hd y ++ (y ++ r))).length = pre.length + (8 + (y.length + r.length)) := by rw [List.length_append, List.length_append, List.length_append, hd_length]
  have hbod : bod (pre ++ (hd y ++ (y ++ r))) pre.length = y := by
    unfold bod
    rw [hn, ← List.append_assoc, ← List.append_assoc, List.take_append_of_le_length (by simp [hd_length] <;> omega), List.take_of_length_le (by simp [hd_length] <;> omega), List.drop_append_of_le_length (by simp [hd_length] <;> omega), List.drop_eq_nil_of_le (by simp [hd_length] <;> omega)]
    rfl
  have htk : ((pre ++ (hd y ++ (y ++ r))).drop pre.length).take 8 = hd y := by
    rw [List.drop_append_of_le_length (Nat.le_refl _), List.drop_eq_nil_of_le (Nat.le_refl _), List.nil_append, List.take_append_of_le_length (by rw [hd_length]; omega), List.take_of_length_le (by rw [hd_length]; omega)]
  unfold nx
  rw [if_neg (by omega), if_neg (by omega), hn, if_neg (by omega), if_neg (by omega), hbod, htk, if_pos rfl]
theorem seals_cons (y : List Int) (x : List (List Int)) : seals (y :: x) = hd y ++ (y ++ seals x) := by
  show List.flatMap (fun y => hd y ++ y) (y :: x) = _
  rw [List.flatMap_cons, List.append_assoc]
  rfl
theorem seals_append (x z : List (List Int)) : seals (x ++ z) = seals x ++ seals z := by
  unfold seals
  rw [List.flatMap_append]
theorem scan_seals {more : List Int} (hm : Crc.Bytes more) (hml : more.length ≤ 3000) : ∀ (x : List (List Int)) (pre : List Int) (acc : List (List Int)) (k : Nat), Bodies x → Crc.Bytes pre → pre.length + 20 * x.length ≤ 3000 → acc.length + x.length ≤ 3000 → 1 ≤ k →
    frame_Scan.l0 (k + x.length) (pre ++ (seals x ++ more)) acc (pre.length : Int) = frame_Scan.l0 k (pre ++ (seals x ++ more)) (acc ++ x) ((pre.length + (seals x).length : Nat) : Int) := by
  intro x
  induction x with
  | nil =>
    intro pre acc k _ _ _ _ _
    simp [seals]
  | cons y x ih =>
    intro pre acc k hx hp hl ha hk
    have hy := hx y (by simp)
    have hx' : Bodies x := fun z hz => hx z (by simp [hz])
    have hsl := seals_length hx
    rw [List.length_cons] at hl ha
    have hb : Crc.Bytes (pre ++ (seals (y :: x) ++ more)) := hp.append ((seals_bytes hx).append hm)
    have hbl : (pre ++ (seals (y :: x) ++ more)).length ≤ 10000 := by
      rw [List.length_append, List.length_append]
      rw [List.length_cons] at hsl
      omega
    have e0 : pre ++ (seals (y :: x) ++ more) = pre ++ (hd y ++ (y ++ (seals x ++ more))) := by rw [seals_cons]; simp [List.append_assoc]
    have e1 : pre ++ (seals (y :: x) ++ more) = (pre ++ (hd y ++ y)) ++ (seals x ++ more) := by rw [seals_cons]; simp [List.append_assoc]
    have el : (pre ++ (hd y ++ y)).length = pre.length + 8 + y.length := by rw [List.length_append, List.length_append, hd_length]; omega
    have hsc : (seals (y :: x)).length = 8 + y.length + (seals x).length := by rw [seals_cons, List.length_append, List.length_append, hd_length]; omega
    show frame_Scan.l0 (k + x.length + 1) _ _ _ = _
    simp only [frame_Scan.l0]
    rw [bind_of (next_eq hb (by omega) (pre.length : Int) (by omega)), nextS_in (by rw [List.length_append]; omega), e0, nx_at pre _ (by omega), if_pos rfl, if_pos (by omega), ← e0, e1]
    have := ih (pre ++ (hd y ++ y)) (acc ++ [y]) k hx' (hp.append ((hd_bytes y).append hy.1)) (by rw [el]; have := hy.2; omega) (by simp; omega) hk
    rw [el] at this
    rw [this, hsc, List.append_assoc acc [y] x, show pre.length + 8 + y.length + (seals x).length = pre.length + (8 + y.length + (seals x).length) by omega]
    rfl
theorem zero_next {n : Nat} (hn : 8 ≤ n) (hl : n ≤ 1000) {k : Nat} (hk : 1 ≤ k) : frame_Next.f k (List.replicate n 0) 0 = some ([], 0, 10) := by
  have hb : Crc.Bytes (List.replicate n (0 : Int)) := fun x hx => by rw [List.eq_of_mem_replicate hx]; omega
  have hg : ∀ j, (List.replicate n (0 : Int)).getD j 0 = 0 := by
    intro j
    rw [List.getD_eq_getElem?_getD, List.getElem?_replicate]
    split <;> rfl
  have hnum : num (List.replicate n (0 : Int)) 0 = 0 := by
    unfold num
    rw [hg, hg, hg, hg]
    rfl
  have hbod : bod (List.replicate n (0 : Int)) 0 = [] := by
    unfold bod
    rw [hnum]
    exact List.drop_eq_nil_of_le (by rw [List.length_take]; omega)
  have hh : hd [] = [0, 0, 0, 0, 28, 223, 68, 33] := by kernel_rfl
  have ht : ((List.replicate n (0 : Int)).drop 0).take 8 = List.replicate 8 0 := by rw [List.drop_zero, List.take_replicate, Nat.min_eq_left hn]
  rw [next_eq hb (by rw [List.length_replicate]; omega) 0 hk]
  rw [show nextS (List.replicate n 0) 0 = nx (List.replicate n 0) 0 from nextS_in (Nat.zero_le _)]
  unfold nx
  rw [List.length_replicate, if_neg (by omega), if_neg (by omega), hnum, if_neg (by omega), if_neg (by omega), hbod, hh, ht, if_neg (by decide)]
end Go.Proofs.Ytmlphabhldahlaa.Fr
