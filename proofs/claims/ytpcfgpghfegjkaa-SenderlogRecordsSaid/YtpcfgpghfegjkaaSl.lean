/- The next event that has to be confirmed, as a function of a list. -/
import Derived.Test.YtpcfgpghfegjkaaMk
namespace Go.Proofs.Ytpcfgpghfegjkaa.Sl
open Go.RowKit Go.Proofs.Ytpcfgpghfegjkaa.PSl Go.Proofs.YtpcfgpghfegjkaaW.PrintWords Go.Proofs.YtpcfgpghfegjkaaW.PrintLast Go.Proofs.Ytpcfgpghfegjkaa.Mk

/-- The next event to be confirmed: of the events from place i on. -/
def nx : List S34 → Int → Int → Int
  | [], _, _ => 0
  | e :: l, c, i => if e.f0 = 1 ∧ i + 1 > c then i + 1 else nx l c (i + 1)

theorem drop_at {xs : List S34} {i : Nat} (h : i < xs.length) : xs.drop i = rd_T34 xs (i : Int) :: xs.drop (i + 1) := by
  rw [List.drop_eq_getElem_cons h]
  simp [rd_T34, List.getD_eq_getElem?_getD, List.getElem?_eq_getElem h]

theorem next_l0 (l : List S34) (c : Int) (hl : l.length ≤ 1000000000000) : ∀ (n i k : Nat), l.length - i ≤ n → n < k → i ≤ l.length →
    senderlog_Next.l0 k c l (l.length : Int) (i : Int) = some (nx (l.drop i) c i) := by
  intro n
  induction n with
  | zero =>
    intro i k h hk hi
    obtain ⟨k, rfl⟩ : ∃ m, k = m + 1 := ⟨k - 1, by omega⟩
    simp only [senderlog_Next.l0]
    rw [if_neg (by omega), List.drop_eq_nil_of_le (by omega)]
    rfl
  | succ n ih =>
    intro i k h hk hi
    obtain ⟨k, rfl⟩ : ∃ m, k = m + 1 := ⟨k - 1, by omega⟩
    by_cases hlt : i < l.length
    · simp only [senderlog_Next.l0]
      rw [if_pos (by omega), if_pos (by omega), if_pos (by omega), w64 (by omega), drop_at hlt]
      have hn := ih (i + 1) k (by omega) (by omega) (by omega)
      simp only [Int.natCast_add, Int.cast_ofNat_Int] at hn
      simp only [nx]
      by_cases h1 : (rd_T34 l (i : Int)).f0 = 1
      · rw [if_pos h1]
        by_cases h2 : (i : Int) + 1 > c
        · rw [if_pos h2, if_pos ⟨h1, h2⟩]
        · rw [if_neg h2, if_neg (fun h => h2 h.2)]
          exact hn
      · rw [if_neg h1, if_neg (fun h => h1 h.1)]
        exact hn
    · simp only [senderlog_Next.l0]
      rw [if_neg (by omega), List.drop_eq_nil_of_le (by omega)]
      rfl

theorem next_f (l : List S34) (c : Int) (hl : l.length ≤ 1000000000000) {k : Nat} (hk : l.length < k) : senderlog_Next.f k l c = some (nx l c 0) := by
  unfold senderlog_Next.f
  exact next_l0 l c hl l.length 0 k (by omega) hk (by omega)

/-- Where it lies. -/
theorem nx_tells (c : Int) : ∀ (l : List S34) (i : Int), 0 ≤ i → (nx l c i = 0 ∧ ∀ j : Nat, j < l.length → i + j + 1 > c → (rd_T34 l j).f0 ≠ 1) ∨
    ∃ j : Nat, j < l.length ∧ nx l c i = i + j + 1 ∧ i + j + 1 > c ∧ (rd_T34 l j).f0 = 1 ∧ ∀ m : Nat, m < j → i + m + 1 > c → (rd_T34 l m).f0 ≠ 1 := by
  intro l
  induction l with
  | nil => intro i _; exact .inl ⟨rfl, fun j h => by simp at h⟩
  | cons e l ih =>
    intro i hi
    have h0 : (rd_T34 (e :: l) ((0 : Nat) : Int)) = e := rfl
    have hs : ∀ j : Nat, rd_T34 (e :: l) ((j + 1 : Nat) : Int) = rd_T34 l (j : Int) := fun j => by simp [rd_T34]
    simp only [nx]
    by_cases h : e.f0 = 1 ∧ i + 1 > c
    · rw [if_pos h]
      exact .inr ⟨0, by simp, by simp, by simpa using h.2, by rw [h0]; exact h.1, fun m hm => by omega⟩
    · rw [if_neg h]
      rcases ih (i + 1) (by omega) with ⟨e1, h1⟩ | ⟨j, hj, e1, h2, h3, h4⟩
      · refine .inl ⟨e1, fun j hj hc => ?_⟩
        cases j with
        | zero => rw [h0]; exact fun h5 => h ⟨h5, by simpa using hc⟩
        | succ j => rw [hs]; exact h1 j (by simpa using hj) (by omega)
      · refine .inr ⟨j + 1, by simpa using hj, by omega, by omega, by rw [hs]; exact h3, fun m hm hc => ?_⟩
        cases m with
        | zero => rw [h0]; exact fun h5 => h ⟨h5, by simpa using hc⟩
        | succ m => rw [hs]; exact h4 m (by omega) (by omega)

/-- Up to which event is confirmed by the next confirmation. -/
def cf (l : List S34) (c : Int) : Int := if nx l c 0 = 0 then c else if nx l (nx l c 0) 0 = 0 then (l.length : Int) else nx l (nx l c 0) 0 - 1

theorem nx_le (l : List S34) (c : Int) : 0 ≤ nx l c 0 ∧ nx l c 0 ≤ l.length := by
  rcases nx_tells c l 0 (by omega) with ⟨h, _⟩ | ⟨j, hj, h, _⟩ <;> omega

theorem confirm_f (l : List S34) (c : Int) (hl : l.length ≤ 1000000000000) {k : Nat} (hk : l.length < k) : senderlog_Confirm.f k l c = some (cf l c) := by
  unfold senderlog_Confirm.f cf
  rw [next_f l c hl hk]
  simp only [Option.bind_some]
  split
  · rfl
  · rw [next_f l _ hl hk]
    simp only [Option.bind_some]
    have := nx_le l (nx l c 0)
    split
    · rfl
    · rw [w64 (by omega)]

theorem awake_f {k : Nat} (hk : 5 ≤ k) : rollbacknetlaw29_awake.f k = some true := by
  unfold rollbacknetlaw29_awake.f
  simp only [Option.bind_some]
  rw [next_f _ _ (by simp) (by simp; omega), confirm_f _ _ (by simp) (by simp; omega), confirm_f _ _ (by simp) (by simp; omega), next_f _ _ (by simp) (by simp; omega)]
  simp [nx, cf]

end Go.Proofs.Ytpcfgpghfegjkaa.Sl
