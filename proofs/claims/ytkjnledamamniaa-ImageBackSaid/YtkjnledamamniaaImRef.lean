/- What the image's answers in the document come to: pages, differences, costs (for the laws of chapter 07; no condition but sizes). -/
import Derived.Test.YtkjnledamamniaaImLib
import Derived.Test.YtkjnledamamniaaPImx13
import Derived.Test.YtkjnledamamniaaPImx11
import Derived.Test.YtkjnledamamniaaPImx14
import Derived.Test.YtkjnledamamniaaPImx14
namespace Go.Proofs.Ytkjnledamamniaa.Im
open Go.RowKit Go.Proofs.Ytkjnledamamniaa.PIm Go.Proofs.YtkjnledamamniaaW.PrintWords Go.Proofs.YtkjnledamamniaaW.PrintLast
theorem ints_l0 (l m : List Int) (hl : l.length ≤ 1000000) (hm : l.length = m.length) : ∀ (n i k : Nat), l.length - i ≤ n → n < k → i ≤ l.length → rollbacknetref03_SameInts.l0 k l m (i : Int) = some (decide (l.drop i = m.drop i)) := by
  intro n
  induction n with
  | zero =>
    intro i k hn hk hi
    obtain ⟨k, rfl⟩ : ∃ q, k = q + 1 := ⟨k - 1, by omega⟩
    simp only [rollbacknetref03_SameInts.l0]
    rw [if_neg (by omega), List.drop_eq_nil_of_le (by omega), List.drop_eq_nil_of_le (by omega)]
    rfl
  | succ n ih =>
    intro i k hn hk hi
    obtain ⟨k, rfl⟩ : ∃ q, k = q + 1 := ⟨k - 1, by omega⟩
    simp only [rollbacknetref03_SameInts.l0]
    by_cases hlt : i < l.length
    · have hlt2 : i < m.length := by omega
      rw [if_pos (by omega), if_pos (by omega), if_pos (by omega), rd_at hlt, rd_at hlt2, List.drop_eq_getElem_cons hlt, List.drop_eq_getElem_cons hlt2]
      by_cases he : l[i] = m[i]
      · rw [if_pos he, w64n (by omega), ih (i + 1) k (by omega) (by omega) (by omega), he]
        simp only [List.cons.injEq, true_and]
      · rw [if_neg he]
        simp only [List.cons.injEq, he, false_and, decide_false]
    · rw [if_neg (by omega), List.drop_eq_nil_of_le (by omega), List.drop_eq_nil_of_le (by omega)]
      rfl
theorem ints_f {l m : List Int} (hl : l.length ≤ 1000000) {k : Nat} (hk : l.length < k) : rollbacknetref03_SameInts.f k l m = some (decide (l = m)) := by
  unfold rollbacknetref03_SameInts.f
  by_cases h : (l.length : Int) = (m.length : Int)
  · rw [if_pos h]
    exact ints_l0 l m hl (by omega) l.length 0 k (by omega) hk (by omega)
  · rw [if_neg h, decide_eq_false (fun e => h (by rw [e]))]
theorem rcount_f {l : List Int} (h : l.length ≤ 1000000) : rollbacknetref07_Count.f l = some (cnt l : Int) := by
  unfold rollbacknetref07_Count.f cnt
  rw [w64 (x := (l.length : Int) / 4) (by omega), w64 (x := (l.length : Int) / 4 + 1) (by omega)]
  by_cases h4 : (l.length : Int) % 4 = 0
  · rw [if_pos h4]
    congr 1
    omega
  · rw [if_neg h4]
    congr 1
    omega
theorem rpage_f {l : List Int} (h : l.length ≤ 1000000) {n : Nat} (hn : n ≤ 1000000) : rollbacknetref07_page.f l (n : Int) = some (pg l n) := by
  unfold rollbacknetref07_page.f
  rw [if_neg (by omega), bind_of (rcount_f h)]
  by_cases hc : cnt l ≤ n
  · rw [if_pos (by omega), pg_none hc]
  rw [if_neg (by omega)]
  unfold cnt at hc
  have e : (n : Int) * 4 = ((4 * n : Nat) : Int) := by omega
  rw [e, w64 (x := ((4 * n : Nat) : Int)) (by omega), w64 (by omega), if_pos (by omega)]
  by_cases h4 : ((4 * n : Nat) : Int) + 4 < (l.length : Int)
  · have em : mn (l.length : Int) (((4 * n : Nat) : Int) + 4) = ((4 * n : Nat) : Int) + 4 := if_pos h4
    rw [em, if_pos (by omega), if_pos (by omega)]
    rfl
  · have em : mn (l.length : Int) (((4 * n : Nat) : Int) + 4) = (l.length : Int) := if_neg h4
    rw [em, if_pos (by omega), if_pos (by omega)]
    congr 1
    unfold pg
    rw [List.take_of_length_le (by omega), List.take_of_length_le (by omega)]
    rfl
theorem rdiff_l0 {a b : List Int} (ha : a.length ≤ 10000) (hb : b.length ≤ 10000) : ∀ (n i k : Nat) (acc : List Page), i + n = cnt b → n + 10 < k → acc.length ≤ i →
    rollbacknetref07_Diff.l0 k a b acc (i : Int) = some (acc ++ dif a b i n) := by
  have hc : cnt b ≤ 10000 := by unfold cnt; omega
  intro n
  induction n with
  | zero =>
    intro i k acc hn hk hacc
    obtain ⟨k, rfl⟩ : ∃ q, k = q + 1 := ⟨k - 1, by omega⟩
    simp only [rollbacknetref07_Diff.l0]
    rw [bind_of (rcount_f (by omega)), if_neg (by omega)]
    simp [dif]
  | succ n ih =>
    intro i k acc hn hk hacc
    obtain ⟨k, rfl⟩ : ∃ q, k = q + 1 := ⟨k - 1, by omega⟩
    simp only [rollbacknetref07_Diff.l0]
    have hp := pg_len b i
    have hq := pg_len a i
    rw [bind_of (rcount_f (by omega)), if_pos (by omega), bind_of (rpage_f (by omega) (by omega)), bind_of (rpage_f (by omega) (by omega)), List.nil_append, w64n (by omega)]
    by_cases hl : (a.length : Int) = (b.length : Int)
    · rw [if_pos hl, bind_of (ints_f (by omega) (by omega))]
      by_cases he : pg a i = pg b i
      · rw [decide_eq_true he, if_pos rfl, ih (i + 1) k _ (by omega) (by omega) (by omega), dif, show dl a b i = [] from if_pos ⟨by omega, he⟩]
        rfl
      · rw [decide_eq_false he, if_neg (by simp), if_pos (by simp; omega), if_pos (by omega), ih (i + 1) k _ (by omega) (by omega) (by simp; omega), dif, show dl a b i = [⟨(i : Int), pg b i⟩] from if_neg (fun h => he h.2), List.append_assoc]
    · rw [if_neg hl, if_pos (by simp; omega), if_pos (by omega), ih (i + 1) k _ (by omega) (by omega) (by simp; omega), dif, show dl a b i = [⟨(i : Int), pg b i⟩] from if_neg (fun h => hl (by omega)), List.append_assoc]
theorem rdiff_f {a b : List Int} (ha : a.length ≤ 10000) (hb : b.length ≤ 10000) {k : Nat} (hk : cnt b + 10 < k) : rollbacknetref07_Diff.f k a b = some (dif a b 0 (cnt b)) := by
  unfold rollbacknetref07_Diff.f
  exact rdiff_l0 ha hb (cnt b) 0 k [] (by omega) hk (by simp)
theorem rdp_at {t : List Page} {i : Nat} (h : i < t.length) : rd_T28 t (i : Int) = t[i] := by
  simp [rd_T28, List.getD_eq_getElem?_getD, List.getElem?_eq_getElem h]
theorem same_l0 {t : List Page} (hl : t.length ≤ 1000000) (h : ∀ p ∈ t, p.f1.length ≤ 4) : ∀ (n i k : Nat), t.length - i ≤ n → n + 10 < k → i ≤ t.length → rollbacknetref07_Same.l0 k t t (i : Int) = some true := by
  intro n
  induction n with
  | zero =>
    intro i k hn hk hi
    obtain ⟨k, rfl⟩ : ∃ q, k = q + 1 := ⟨k - 1, by omega⟩
    simp only [rollbacknetref07_Same.l0]
    rw [if_neg (by omega)]
  | succ n ih =>
    intro i k hn hk hi
    obtain ⟨k, rfl⟩ : ∃ q, k = q + 1 := ⟨k - 1, by omega⟩
    simp only [rollbacknetref07_Same.l0]
    by_cases hlt : i < t.length
    · have hp := h _ (List.getElem_mem hlt)
      rw [if_pos (by omega), if_pos (by omega), if_pos (by omega), rdp_at hlt, if_pos trivial, bind_of (ints_f (by omega) (by omega)), decide_eq_true rfl, if_pos rfl, w64n (by omega)]
      exact ih (i + 1) k (by omega) (by omega) (by omega)
    · rw [if_neg (by omega)]
theorem same_f {t : List Page} (hl : t.length ≤ 1000000) (h : ∀ p ∈ t, p.f1.length ≤ 4) {k : Nat} (hk : t.length + 10 < k) : rollbacknetref07_Same.f k t t = some true := by
  unfold rollbacknetref07_Same.f
  rw [if_pos rfl]
  exact same_l0 hl h t.length 0 k (by omega) hk (by omega)
theorem cost_l0 {t : List Page} (hl : t.length ≤ 1000000) : ∀ (n i k : Nat) (s : Int), t.length - i ≤ n → n < k → i ≤ t.length →
    ∃ r, image_Cost.l0 k s t (t.length : Int) (i : Int) = some r ∧ rollbacknetref07_Cost.l0 k t s (i : Int) = some r := by
  intro n
  induction n with
  | zero =>
    intro i k s hn hk hi
    obtain ⟨k, rfl⟩ : ∃ q, k = q + 1 := ⟨k - 1, by omega⟩
    refine ⟨s, ?_, ?_⟩
    · simp only [image_Cost.l0]
      rw [if_neg (by omega)]
    · simp only [rollbacknetref07_Cost.l0]
      rw [if_neg (by omega)]
  | succ n ih =>
    intro i k s hn hk hi
    obtain ⟨k, rfl⟩ : ∃ q, k = q + 1 := ⟨k - 1, by omega⟩
    by_cases hlt : i < t.length
    · obtain ⟨r, g1, g2⟩ := ih (i + 1) k (wrap64 (s + ((rd_T28 t (i : Int)).f1.length : Int))) (by omega) (by omega) (by omega)
      refine ⟨r, ?_, ?_⟩
      · simp only [image_Cost.l0]
        rw [if_pos (by omega), if_pos (by omega), if_pos (by omega), w64n (by omega)]
        exact g1
      · simp only [rollbacknetref07_Cost.l0]
        rw [if_pos (by omega), if_pos (by omega), w64n (by omega)]
        exact g2
    · refine ⟨s, ?_, ?_⟩
      · simp only [image_Cost.l0]
        rw [if_neg (by omega)]
      · simp only [rollbacknetref07_Cost.l0]
        rw [if_neg (by omega)]
theorem cost_f {t : List Page} (hl : t.length ≤ 1000000) {k : Nat} (hk : t.length < k) : ∃ r, image_Cost.f k t = some r ∧ rollbacknetref07_Cost.f k t = some r := cost_l0 hl t.length 0 k 0 (by omega) hk (by omega)
end Go.Proofs.Ytkjnledamamniaa.Im
