/- The next event that has to be confirmed, and up to which index events are confirmed by it: the program and the document agree at any events and index (SenderlogNexts; no condition). -/
import Derived.Test.YtpcfgpghfegjkaaSl
namespace Go.Proofs.Ytpcfgpghfegjkaa.Pure
open Go.RowKit Go.Proofs.Ytpcfgpghfegjkaa.PSl Go.Proofs.YtpcfgpghfegjkaaW.PrintWords Go.Proofs.YtpcfgpghfegjkaaW.PrintLast Go.Proofs.Ytpcfgpghfegjkaa.Mk Go.Proofs.Ytpcfgpghfegjkaa.Sl

theorem rnext_l0 (l : List S34) (c : Int) (hl : l.length ≤ 1000000000000) : ∀ (n i k : Nat), l.length - i ≤ n → n < k → i ≤ l.length →
    rollbacknetref29_Next.l0 k l c (i : Int) = some (nx (l.drop i) c i) := by
  intro n
  induction n with
  | zero =>
    intro i k h hk hi
    obtain ⟨k, rfl⟩ : ∃ m, k = m + 1 := ⟨k - 1, by omega⟩
    simp only [rollbacknetref29_Next.l0]
    rw [if_neg (by omega), List.drop_eq_nil_of_le (by omega)]
    rfl
  | succ n ih =>
    intro i k h hk hi
    obtain ⟨k, rfl⟩ : ∃ m, k = m + 1 := ⟨k - 1, by omega⟩
    by_cases hlt : i < l.length
    · simp only [rollbacknetref29_Next.l0]
      rw [if_pos (by omega), w64 (by omega), drop_at hlt]
      have hn := ih (i + 1) k (by omega) (by omega) (by omega)
      simp only [Int.natCast_add, Int.cast_ofNat_Int] at hn
      simp only [nx]
      by_cases h2 : (i : Int) + 1 > c
      · rw [if_pos h2, if_pos (by omega)]
        by_cases h1 : (rd_T34 l (i : Int)).f0 = 1
        · rw [if_pos h1, if_pos ⟨h1, h2⟩]
        · rw [if_neg h1, if_neg (fun h => h1 h.1)]
          exact hn
      · rw [if_neg h2, if_neg (fun h => h2 h.2)]
        exact hn
    · simp only [rollbacknetref29_Next.l0]
      rw [if_neg (by omega), List.drop_eq_nil_of_le (by omega)]
      rfl

theorem rnext_f (l : List S34) (c : Int) (hl : l.length ≤ 1000000000000) {k : Nat} (hk : l.length < k) : rollbacknetref29_Next.f k l c = some (nx l c 0) := by
  unfold rollbacknetref29_Next.f
  exact rnext_l0 l c hl l.length 0 k (by omega) hk (by omega)

theorem rconfirm_f (l : List S34) (c : Int) (hl : l.length ≤ 1000000000000) {k : Nat} (hk : l.length < k) : rollbacknetref29_Confirm.f k l c = some (cf l c) := by
  unfold rollbacknetref29_Confirm.f cf
  rw [bind_of (rnext_f l c hl hk)]
  split
  · rfl
  · rw [bind_of (rnext_f l _ hl hk)]
    have := nx_le l (nx l c 0)
    by_cases h : nx l (nx l c 0) 0 = 0
    · rw [if_neg (by omega), if_pos h]
    · rw [if_pos (by omega), if_neg h, w64 (by omega)]

theorem SenderlogNexts : rollbacknetlaw29_SenderlogNexts.Pure := by
  intro l0 a1 l2 _ hl _ ha _ _ hb
  obtain ⟨K, hK⟩ : ∃ K : Nat, l0.length + 2000 ≤ K := ⟨_, Nat.le_refl _⟩
  refine ⟨K + 1, ?_⟩
  unfold rollbacknetlaw29_SenderlogNexts.f
  rw [bind_of (awake_f (by omega)), if_pos rfl]
  simp only [rollbacknetlaw29_SenderlogNexts.j0]
  by_cases h80 : (l0.length : Int) > 80
  · rw [if_pos (by simpa using h80)]
    simpa using h80
  · rw [if_neg (by simpa using h80)]
    obtain ⟨l, e1, h1⟩ := new_ok hb (m := 100) (by omega) (by omega)
    obtain ⟨ys, q, hy, h2, e2⟩ := events_ok h1 (n := 14) (by omega) (by omega)
    have e3 := mod_ok (n := (ys.length : Int) + 3) (wf_i64 ha) (by omega) (by omega)
    rw [bind_of e1, bind_of (e2 K (by omega)), w64 (by dsimp only; omega), bind_of e3]
    dsimp only
    rw [bind_of (next_f l0 a1 (by omega) (by omega)), bind_of (rnext_f l0 a1 (by omega) (by omega)), if_pos rfl]
    rw [bind_of (next_f ys _ (by omega) (by omega)), bind_of (rnext_f ys _ (by omega) (by omega)), if_pos rfl]
    rw [bind_of (confirm_f l0 a1 (by omega) (by omega)), bind_of (rconfirm_f l0 a1 (by omega) (by omega)), if_pos rfl]
    rw [bind_of (confirm_f ys _ (by omega) (by omega)), bind_of (rconfirm_f ys _ (by omega) (by omega))]
    simp
end Go.Proofs.Ytpcfgpghfegjkaa.Pure
