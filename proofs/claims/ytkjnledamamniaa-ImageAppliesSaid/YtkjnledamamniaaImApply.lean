/- What pages make of cells, on both sides (for the laws of chapter 07; no condition but sizes). -/
import Derived.Test.YtkjnledamamniaaImRef
import Derived.Test.YtkjnledamamniaaPImx16
import Derived.Test.YtkjnledamamniaaPImx17
namespace Go.Proofs.Ytkjnledamamniaa.Im
open Go.RowKit Go.Proofs.Ytkjnledamamniaa.PIm Go.Proofs.YtkjnledamamniaaW.PrintWords Go.Proofs.YtkjnledamamniaaW.PrintLast
theorem pg_length (l : List Int) (n : Nat) : (pg l n).length = min (4 * n + 4) l.length - 4 * n := by simp [pg]
theorem go_len : ∀ (t : List Page) (b : List Int), (image_Apply.go b t).1.length ≤ b.length
  | [], b => by rw [image_Apply.go]; exact Nat.le_refl _
  | p :: t, b => by
    rw [image_Apply.go]
    split
    · exact Nat.zero_le _
    · split
      · exact Nat.zero_le _
      · split
        · have h := go_len t (image_Apply.fill b (4 * p.f0.toNat) p.f1)
          rw [image_Apply.fill_length] at h
          exact h
        · exact Nat.zero_le _
theorem apply_f {a : List Int} (ha : a.length ≤ 200) (t : List Page) : image_Apply.f a t = some (image_Apply.go a t) := by
  unfold image_Apply.f
  rw [if_pos (by omega)]
theorem lay_l1 {x0 : List Int} {t : List Page} {i p : Nat} (hi : i < t.length) (ht : t.length ≤ 1000) (hp : p ≤ 1000) (hf : t[i].f1.length ≤ 4) : ∀ (n j k : Nat) (b : List Int), b.length ≤ 1000 → j + n = t[i].f1.length → 4 * p + t[i].f1.length ≤ b.length →
    rollbacknetref07_Apply.l1 (k + n + 1) x0 t b (i : Int) (p : Int) (j : Int) = rollbacknetref07_Apply.l0 k x0 t (image_Apply.fill b (4 * p + j) (t[i].f1.drop j)) ((i + 1 : Nat) : Int) := by
  intro n
  induction n with
  | zero =>
    intro j k b hb hj hl
    rw [rollbacknetref07_Apply.l1, rdp_at hi, if_pos (by omega), if_pos (by omega), if_neg (by omega), w64n (by omega), List.drop_eq_nil_of_le (by omega), image_Apply.fill]
  | succ n ih =>
    intro j k b hb hj hl
    have hjl : j < t[i].f1.length := by omega
    rw [show k + (n + 1) + 1 = (k + n + 1) + 1 by omega, rollbacknetref07_Apply.l1, rdp_at hi, if_pos (by omega), if_pos (by omega), if_pos (by omega), if_pos (by omega), w64 (x := (p : Int) * 4) (by omega), w64 (x := (p : Int) * 4 + (j : Int)) (by omega), if_pos (by omega), if_pos (by omega), w64n (by omega),
      show ((p : Int) * 4 + (j : Int)).toNat = 4 * p + j by omega, rd_at hjl]
    have g := ih (j + 1) k (b.set (4 * p + j) t[i].f1[j]) (by rw [List.length_set]; exact hb) (by omega) (by rw [List.length_set]; exact hl)
    rw [g, List.drop_eq_getElem_cons hjl, image_Apply.fill]
    rfl
theorem rapply_l0 {x0 : List Int} (hx : x0.length ≤ 200) {t : List Page} (ht : t.length ≤ 1000) : ∀ (n i k : Nat) (b : List Int), i + n = t.length → 10 * n + 10 ≤ k → b.length = x0.length →
    rollbacknetref07_Apply.l0 k x0 t b (i : Int) = some (image_Apply.go b (t.drop i)) := by
  intro n
  induction n with
  | zero =>
    intro i k b hn hk hb
    obtain ⟨k, rfl⟩ : ∃ q, k = q + 1 := ⟨k - 1, by omega⟩
    rw [rollbacknetref07_Apply.l0, if_neg (by omega), List.drop_eq_nil_of_le (by omega), image_Apply.go]
  | succ n ih =>
    intro i k b hn hk hb
    have hi : i < t.length := by omega
    obtain ⟨k, rfl⟩ : ∃ q, k = q + 2 := ⟨k - 2, by omega⟩
    rw [rollbacknetref07_Apply.l0, rdp_at hi, if_pos (by omega), if_pos (by omega), List.drop_eq_getElem_cons hi, image_Apply.go]
    by_cases h0 : t[i].f0 < 0
    · rw [if_pos h0, if_pos h0, rollbacknetref07_Apply.j1, if_pos rfl]
    rw [if_neg h0, if_neg h0, bind_of (rcount_f (by omega))]
    have hc : ((b.length + 3) / 4 : Nat) = cnt x0 := by unfold cnt; rw [hb]
    rw [hc]
    by_cases h1 : (cnt x0 : Int) ≤ t[i].f0
    · rw [if_pos h1, decide_eq_true h1, rollbacknetref07_Apply.j1, if_pos rfl]
    rw [if_neg h1, decide_eq_false h1, rollbacknetref07_Apply.j1, if_neg (by simp), if_pos (by omega), if_pos (by omega), rdp_at hi]
    obtain ⟨p, hp⟩ := Int.eq_ofNat_of_zero_le (Int.not_lt.1 h0)
    rw [hp] at h1 ⊢
    have hpc : p < cnt x0 := by omega
    have hpc2 : 4 * p < x0.length := by unfold cnt at hpc; omega
    have hpl := pg_length x0 p
    rw [bind_of (rpage_f (by omega) (by omega)), Int.toNat_natCast, hb]
    by_cases h2 : min (4 * p + 4) x0.length - 4 * p = t[i].f1.length
    · rw [if_pos h2, if_pos (by omega)]
      have g := lay_l1 (x0 := x0) hi ht (p := p) (by omega) (by omega) t[i].f1.length 0 (k - t[i].f1.length - 1) b (by omega) (by omega) (by omega)
      rw [show k - t[i].f1.length - 1 + t[i].f1.length + 1 = k by omega] at g
      refine g.trans ?_
      rw [List.drop_zero, Nat.add_zero]
      exact ih (i + 1) _ _ (by omega) (by omega) (by rw [image_Apply.fill_length]; exact hb)
    · rw [if_neg h2, if_neg (by omega)]
theorem rapply_f {a : List Int} (ha : a.length ≤ 200) {t : List Page} (ht : t.length ≤ 1000) {k : Nat} (hk : 10 * t.length + 10 ≤ k) : rollbacknetref07_Apply.f k a t = some (image_Apply.go a t) := by
  unfold rollbacknetref07_Apply.f
  rw [if_pos (by simp; omega), List.nil_append]
  exact rapply_l0 ha ht t.length 0 k a (by omega) hk rfl
end Go.Proofs.Ytkjnledamamniaa.Im
