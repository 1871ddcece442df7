/- Of a beginning of frames just those are found that lie completely in it, and zero bytes are no frame (FrameCuts; no condition). -/
import Derived.Test.YtmlphabhldahlaaPFkpFrameCuts
import Derived.Test.YtmlphabhldahlaaFrScan
namespace Go.Proofs.Ytmlphabhldahlaa.Pure
open Go.RowKit Go.Proofs.Ytmlphabhldahlaa.PFk Go.Proofs.YtmlphabhldahlaaW.PrintWords Go.Proofs.YtmlphabhldahlaaW.PrintLast Go.Proofs.Ytmlphabhldahlaa.Fr
/-- A frame that is cut off is none. -/
theorem nx_cut (pre : List Int) {y : List Int} (r : List Int) (hy : y.length ≤ 4096) {m : Nat} (hm : m < 8 + y.length) : (nx (pre ++ (hd y ++ (y ++ r)).take m) pre.length).2.2 ≠ 0 := by
  have hlen : (pre ++ (hd y ++ (y ++ r)).take m).length = pre.length + m := by
    rw [List.length_append, List.length_take, List.length_append, List.length_append, hd_length]
    omega
  unfold nx
  rw [hlen]
  by_cases h0 : m = 0
  · rw [if_pos (by omega)]; decide
  rw [if_neg (by omega)]
  by_cases h8 : m < 8
  · rw [if_pos (by omega)]; decide
  rw [if_neg (by omega)]
  have e : (hd y ++ (y ++ r)).take m = hd y ++ (y ++ r).take (m - 8) := by
    rw [List.take_append, List.take_of_length_le (by rw [hd_length]; omega), hd_length]
  rw [e, num_at pre _ hy, if_neg (by omega), if_pos (by omega)]
  decide
theorem nx_end (pre : List Int) : (nx pre pre.length).2.2 ≠ 0 := by
  unfold nx
  rw [if_pos rfl]
  decide
theorem scan_cut {x : List (List Int)} (hx : Bodies x) (hl : x.length ≤ 10) {rest : List Int} (hr : Crc.Bytes rest) (hrl : rest.length ≤ 100) (he : (nx (seals x ++ rest) (seals x).length).2.2 ≠ 0) {k : Nat} (hk : 100 ≤ k) : frame_Scan.f k (seals x ++ rest) = some (x, ((seals x).length : Int)) := by
  obtain ⟨k, rfl⟩ : ∃ q, k = (q + 1) + x.length := ⟨k - x.length - 1, by omega⟩
  have hsl := seals_length hx
  have hle : (seals x ++ rest).length = (seals x).length + rest.length := List.length_append ..
  have h1 := scan_seals hr (by omega) x [] [] (k + 1) hx Crc.Bytes.nil (by simp; omega) (by simp; omega) (by omega)
  simp only [List.nil_append, List.length_nil, Nat.zero_add] at h1
  unfold frame_Scan.f
  refine Eq.trans h1 ?_
  simp only [frame_Scan.l0]
  rw [bind_of (next_eq ((seals_bytes hx).append hr) (by omega) _ (by omega)), nextS_in (by omega), if_neg he]
theorem bodies_take {x : List (List Int)} (hx : Bodies x) (i : Nat) : Bodies (x.take i) := fun y hy => hx y (List.mem_of_mem_take hy)
theorem cuts_l0 {x : List (List Int)} (hx : Bodies x) (hl : x.length ≤ 10) {c : Nat} (hc : c ≤ (seals x).length) : ∀ (n i k : Nat), x.length - i ≤ n → n + 200 < k → i ≤ x.length → (seals (x.take i)).length ≤ c →
    rollbacknetlaw11_FrameCuts.l0 k x (seals x) (c : Int) (i : Int) ((seals (x.take i)).length : Int) (x.length : Int) (i : Int) = some true := by
  have hsl := seals_length hx
  have ht : Int.tmod (c : Int) 40 = ((c % 40 : Nat) : Int) := by rw [Int.tmod_eq_emod_of_nonneg (by omega)]; omega
  have hz : ∀ k, 1 ≤ k → frame_Next.f k (List.replicate (8 + ((c % 40 : Nat) : Int)).toNat 0) 0 = some ([], 0, 10) := fun k hk => zero_next (by omega) (by omega) hk
  -- what is asked when the frames are counted
  have fin : ∀ (i k : Nat), 150 < k → i ≤ x.length → (seals (x.take i)).length ≤ c → (i = x.length ∨ ∃ h : i < x.length, c < (seals (x.take i)).length + 8 + x[i].length) → frame_Scan.f k ((seals x).take c) = some (x.take i, ((seals (x.take i)).length : Int)) := by
    intro i k hk hi hle hor
    have hbt := bodies_take hx i
    rcases hor with rfl | ⟨h, hlt⟩
    · have e : (seals x).take c = seals (x.take x.length) ++ [] := by
        rw [List.take_of_length_le (Nat.le_refl x.length)] at hle ⊢
        rw [List.append_nil, List.take_of_length_le (by omega)]
      rw [e]
      exact scan_cut hbt (by rw [List.length_take]; omega) Crc.Bytes.nil (by simp) (by rw [List.append_nil]; exact nx_end _) (by omega)
    · have hy := hx _ (List.getElem_mem h)
      have ex : seals x = seals (x.take i) ++ (hd x[i] ++ (x[i] ++ seals (x.drop (i + 1)))) := by
        rw [← seals_cons, ← List.drop_eq_getElem_cons h, ← seals_append, List.take_append_drop]
      have e : (seals x).take c = seals (x.take i) ++ (hd x[i] ++ (x[i] ++ seals (x.drop (i + 1)))).take (c - (seals (x.take i)).length) := by
        conv => lhs; rw [ex]
        rw [List.take_append, List.take_of_length_le hle]
      rw [e]
      refine scan_cut hbt (by rw [List.length_take]; omega) ?_ ?_ (nx_cut _ _ (by omega) (by omega)) (by omega)
      · refine Crc.Bytes.take ?_ _
        exact (hd_bytes _).append (hy.1.append (seals_bytes (fun z hz => hx z (List.mem_of_mem_drop hz))))
      · rw [List.length_take]
        have := hy.2
        omega
  intro n
  induction n with
  | zero =>
    intro i k h1 h2 h3 h4
    obtain ⟨k, rfl⟩ : ∃ q, k = q + 1 := ⟨k - 1, by omega⟩
    have hf := fin i k (by omega) h3 h4 (.inl (by omega))
    have hz1 := hz k (by omega)
    rw [rollbacknetlaw11_FrameCuts.l0, if_neg (by omega), if_pos (by omega), if_pos (by omega), Int.toNat_natCast, bind_of hf, ht, w64 (x := 8 + ((c % 40 : Nat) : Int)) (by omega), if_pos (by omega), if_pos (by omega), bind_of hz1, if_pos (by rw [List.length_take]; omega), if_pos rfl]
    rfl
  | succ n ih =>
    intro i k h1 h2 h3 h4
    by_cases he : i = x.length
    · exact ih i k (by omega) (by omega) h3 h4
    have hi : i < x.length := by omega
    obtain ⟨k, rfl⟩ : ∃ q, k = q + 1 := ⟨k - 1, by omega⟩
    have hr : rd_L2 x (i : Int) = x[i] := by simp [rd_L2, List.getD_eq_getElem?_getD, List.getElem?_eq_getElem hi]
    have hy := (hx _ (List.getElem_mem hi)).2
    have hs1 : (seals (x.take (i + 1))).length = (seals (x.take i)).length + (8 + x[i].length) := by
      rw [List.take_succ_eq_append_getElem hi, seals_append, List.length_append, seals_cons, List.length_append, List.length_append, hd_length]
      show _ + (8 + (x[i].length + 0)) = _
      omega
    rw [rollbacknetlaw11_FrameCuts.l0, if_pos (by omega), if_pos (by omega), if_pos (by omega), hr, w64 (x := ((seals (x.take i)).length : Int) + 8) (by omega), w64 (x := ((seals (x.take i)).length : Int) + 8 + (x[i].length : Int)) (by omega)]
    by_cases hgt : c < (seals (x.take i)).length + 8 + x[i].length
    · rw [if_pos (by omega), if_pos (by omega), if_pos (by omega), Int.toNat_natCast, bind_of (fin i k (by omega) h3 h4 (.inr ⟨hi, hgt⟩)), ht, w64 (x := 8 + ((c % 40 : Nat) : Int)) (by omega), if_pos (by omega), if_pos (by omega), bind_of (hz k (by omega)), if_pos (by rw [List.length_take]; omega), if_pos rfl]
      rfl
    · rw [if_neg (by omega), w64n (by omega), w64 (x := 8 + (x[i].length : Int)) (by omega), w64 (by omega), show ((seals (x.take i)).length : Int) + (8 + (x[i].length : Int)) = ((seals (x.take (i + 1))).length : Int) by rw [hs1]; omega]
      exact ih (i + 1) k (by omega) (by omega) (by omega) (by rw [hs1]; omega)
theorem FrameCuts : rollbacknetlaw11_FrameCuts.Pure := by
  intro l a _ _ hl ha
  have ha := wf_i64 ha
  obtain ⟨K, hK⟩ : ∃ K : Nat, 1000 ≤ K := ⟨1000, Nat.le_refl _⟩
  refine ⟨K, ?_⟩
  unfold rollbacknetlaw11_FrameCuts.f
  rw [bind_of (awake_f (by omega)), if_pos rfl]
  obtain ⟨bs, e1, h1, h2⟩ := bodies_ok hl (k := K) (by omega)
  have hcl := seals_length h1
  have m1 := mod_ok (n := ((seals bs).length : Int) + 1) ha (by omega) (by omega)
  have q0 := Int.emod_nonneg a (b := ((seals bs).length : Int) + 1) (by omega)
  have q1 := Int.emod_lt_of_pos a (b := ((seals bs).length : Int) + 1) (by omega)
  obtain ⟨c, hc⟩ := Int.eq_ofNat_of_zero_le q0
  rw [bind_of e1, bind_of (seal_ok h1 (by omega) (by omega)), w64 (by omega), bind_of m1, hc]
  exact cuts_l0 h1 (by omega) (by omega) bs.length 0 K (by omega) (by omega) (by omega) (by simp [seals])
end Go.Proofs.Ytmlphabhldahlaa.Pure
