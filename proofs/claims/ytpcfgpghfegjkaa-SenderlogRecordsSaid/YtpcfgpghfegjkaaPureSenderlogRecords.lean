/- The table of a sender with a further copy: the program and the document agree at any table (SenderlogRecords; no condition). -/
import Derived.Test.YtpcfgpghfegjkaaSl
namespace Go.Proofs.Ytpcfgpghfegjkaa.Pure
open Go.RowKit Go.Proofs.Ytpcfgpghfegjkaa.PSl Go.Proofs.YtpcfgpghfegjkaaW.PrintWords Go.Proofs.YtpcfgpghfegjkaaW.PrintLast Go.Proofs.Ytpcfgpghfegjkaa.Mk Go.Proofs.Ytpcfgpghfegjkaa.Sl

/-- A table with one more copy. -/
def put (c : S50) : List S50 → List S50
  | [] => [c]
  | x :: l => if x.f0 = c.f0 ∧ x.f1 = c.f1 then c :: l else x :: put c l
theorem put_length (c : S50) : ∀ l, (put c l).length ≤ l.length + 1 := by
  intro l
  induction l with
  | nil => simp [put]
  | cons x l ih =>
    simp only [put]
    split
    · simp
    · simp only [List.length_cons]; omega
theorem copy_at {xs : List S50} {i : Nat} (h : i < xs.length) : xs.drop i = rd_T50 xs (i : Int) :: xs.drop (i + 1) := by
  rw [List.drop_eq_getElem_cons h]
  simp [rd_T50, List.getD_eq_getElem?_getD, List.getElem?_eq_getElem h]
theorem set_take {α : Type} (xs : List α) (i : Nat) (c : α) (h : i < xs.length) : xs.set i c = xs.take i ++ c :: xs.drop (i + 1) := List.set_eq_take_append_cons_drop.trans (if_pos h)
theorem rd_at {xs : List S50} {i : Nat} (h : i < xs.length) : rd_T50 xs (i : Int) = xs[i] := by
  simp [rd_T50, List.getD_eq_getElem?_getD, List.getElem?_eq_getElem h]
theorem take_next {xs : List S50} {i : Nat} (h : i < xs.length) (l : List S50) : xs.take i ++ rd_T50 xs (i : Int) :: l = xs.take (i + 1) ++ l := by
  rw [rd_at h, List.take_succ_eq_append_getElem h, List.append_assoc, List.singleton_append]

theorem record_l0 (l : List S50) (c : S50) (hl : l.length ≤ 1000000) : ∀ (n i k : Nat), l.length - i ≤ n → n < k → i ≤ l.length →
    senderlog_Record.l0 k l (l.length : Int) (i : Int) c.f0 c.f1 c.f2 c.f3 = some (l.take i ++ put c (l.drop i)) := by
  intro n
  induction n with
  | zero =>
    intro i k h hk hi
    obtain ⟨k, rfl⟩ : ∃ m, k = m + 1 := ⟨k - 1, by omega⟩
    obtain rfl : i = l.length := by omega
    simp only [senderlog_Record.l0]
    rw [if_neg (by omega), if_pos (by omega), List.drop_length, List.take_length]
    rfl
  | succ n ih =>
    intro i k h hk hi
    obtain ⟨k, rfl⟩ : ∃ m, k = m + 1 := ⟨k - 1, by omega⟩
    by_cases hlt : i < l.length
    · have g := ih (i + 1) k (by omega) (by omega) (by omega)
      have hi : ((i : Int) + 1) = ((i + 1 : Nat) : Int) := rfl
      have hn : ((i : Nat) : Int).toNat = i := by omega
      simp only [senderlog_Record.l0]
      rw [if_pos (by omega), if_pos (by omega), if_pos (by omega), w64 (by omega), copy_at hlt, hi, g, hn, set_take l i _ hlt]
      simp only [put]
      by_cases h0 : (rd_T50 l (i : Int)).f0 = c.f0
      · rw [if_pos h0]
        by_cases h1 : (rd_T50 l (i : Int)).f1 = c.f1
        · rw [if_pos h1, if_pos ⟨h0, h1⟩]
        · rw [if_neg h1, if_neg (fun h => h1 h.2), take_next hlt]
      · rw [if_neg h0, if_neg (fun h => h0 h.1), take_next hlt]
    · obtain rfl : i = l.length := by omega
      simp only [senderlog_Record.l0]
      rw [if_neg (by omega), if_pos (by omega), List.drop_length, List.take_length]
      rfl

theorem rrecord_l0 (l : List S50) (c : S50) (hl : l.length ≤ 1000000) : ∀ (n i k : Nat), l.length - i ≤ n → n < k → i ≤ l.length →
    rollbacknetref29_Record.l0 k l (i : Int) c.f0 c.f1 c.f2 c.f3 = some (l.take i ++ put c (l.drop i)) := by
  intro n
  induction n with
  | zero =>
    intro i k h hk hi
    obtain ⟨k, rfl⟩ : ∃ m, k = m + 1 := ⟨k - 1, by omega⟩
    obtain rfl : i = l.length := by omega
    simp only [rollbacknetref29_Record.l0]
    rw [if_neg (by omega), if_pos (by omega), List.drop_length, List.take_length]
    rfl
  | succ n ih =>
    intro i k h hk hi
    obtain ⟨k, rfl⟩ : ∃ m, k = m + 1 := ⟨k - 1, by omega⟩
    by_cases hlt : i < l.length
    · have g := ih (i + 1) k (by omega) (by omega) (by omega)
      have hi : ((i : Int) + 1) = ((i + 1 : Nat) : Int) := rfl
      have hn : ((i : Nat) : Int).toNat = i := by omega
      simp only [rollbacknetref29_Record.l0]
      rw [if_pos (by omega), if_pos (by omega), w64 (by omega), copy_at hlt, hi, g, hn, set_take l i _ hlt]
      simp only [put]
      by_cases h0 : (rd_T50 l (i : Int)).f0 = c.f0
      · rw [if_pos h0]
        by_cases h1 : (rd_T50 l (i : Int)).f1 = c.f1
        · rw [if_pos h1, if_pos ⟨h0, h1⟩]
        · rw [if_neg h1, if_neg (fun h => h1 h.2), take_next hlt]
      · rw [if_neg h0, if_neg (fun h => h0 h.1), take_next hlt]
    · obtain rfl : i = l.length := by omega
      simp only [rollbacknetref29_Record.l0]
      rw [if_neg (by omega), if_pos (by omega), List.drop_length, List.take_length]
      rfl

theorem record_f (l : List S50) (c : S50) (hl : l.length ≤ 1000000) {k : Nat} (hk : l.length < k) :
    senderlog_Record.f k l c.f0 c.f1 c.f2 c.f3 = some (put c l) ∧ rollbacknetref29_Record.f k l c.f0 c.f1 c.f2 c.f3 = some (put c l) := by
  have g1 := record_l0 l c hl l.length 0 k (by omega) hk (by omega)
  have g2 := rrecord_l0 l c hl l.length 0 k (by omega) hk (by omega)
  unfold senderlog_Record.f rollbacknetref29_Record.f
  rw [if_pos (by simp; omega), if_pos (by simp; omega)]
  simp only [List.nil_append]
  exact ⟨(bind_of rfl).trans g1, g2⟩

theorem same_l0 (l : List S50) (hl : l.length ≤ 1000000000) : ∀ (n i k : Nat), l.length - i ≤ n → n < k → i ≤ l.length → rollbacknetref29_SameCopies.l0 k l l (i : Int) = some true := by
  intro n
  induction n with
  | zero =>
    intro i k h hk hi
    obtain ⟨k, rfl⟩ : ∃ m, k = m + 1 := ⟨k - 1, by omega⟩
    simp only [rollbacknetref29_SameCopies.l0]
    rw [if_neg (by omega)]
  | succ n ih =>
    intro i k h hk hi
    obtain ⟨k, rfl⟩ : ∃ m, k = m + 1 := ⟨k - 1, by omega⟩
    by_cases hlt : i < l.length
    · simp only [rollbacknetref29_SameCopies.l0]
      rw [if_pos (by omega), if_pos (by omega), if_pos (by omega), if_neg (by simp), w64 (by omega)]
      exact ih (i + 1) k (by omega) (by omega) (by omega)
    · simp only [rollbacknetref29_SameCopies.l0]
      rw [if_neg (by omega)]

theorem same_f (l : List S50) (hl : l.length ≤ 1000000000) {k : Nat} (hk : l.length < k) : rollbacknetref29_SameCopies.f k l l = some true := by
  unfold rollbacknetref29_SameCopies.f
  rw [if_pos rfl]
  exact same_l0 l hl l.length 0 k (by omega) hk (by omega)

theorem SenderlogRecords : rollbacknetlaw29_SenderlogRecords.Pure := by
  intro l0 c a2 _ hl _ _ ha
  obtain ⟨K, hK⟩ : ∃ K : Nat, l0.length + 2000 ≤ K := ⟨_, Nat.le_refl _⟩
  refine ⟨K + 1, ?_⟩
  unfold rollbacknetlaw29_SenderlogRecords.f
  rw [bind_of (awake_f (by omega)), if_pos rfl]
  simp only [rollbacknetlaw29_SenderlogRecords.j0]
  by_cases h60 : (l0.length : Int) > 60
  · rw [if_pos (by simpa using h60)]
    simpa using h60
  · rw [if_neg (by simpa using h60)]
    obtain ⟨g1, g2⟩ := record_f l0 c (by omega) (k := K) (by omega)
    have p1 := put_length c l0
    rw [bind_of g1, bind_of g2, bind_of (same_f _ (by omega) (by omega)), if_pos rfl]
    by_cases h0 : (l0.length : Int) = 0
    · rw [if_pos h0]
    · rw [if_neg h0]
      have e3 := mod_ok (n := (l0.length : Int)) (wf_i64 ha) (by omega) (by omega)
      have m0 := Int.emod_nonneg a2 (b := (l0.length : Int)) (by omega)
      have m1 := Int.emod_lt_of_pos a2 (b := (l0.length : Int)) (by omega)
      rw [bind_of e3, if_pos m0, if_pos m1]
      obtain ⟨c', hc'⟩ : ∃ c' : S50, c' = ⟨(rd_T50 l0 (a2 % (l0.length : Int))).f0, (rd_T50 l0 (a2 % (l0.length : Int))).f1, c.f2, c.f3⟩ := ⟨_, rfl⟩
      obtain ⟨g1, g2⟩ := record_f l0 c' (by omega) (k := K) (by omega)
      have p2 := put_length c' l0
      rw [hc'] at g1 g2
      rw [bind_of g1, bind_of g2, bind_of (same_f _ (by rw [← hc']; omega) (by rw [← hc']; omega))]
end Go.Proofs.Ytpcfgpghfegjkaa.Pure
