/- What the image's functions come to, on both sides: pages and differences (for the laws of chapter 07; no condition but sizes). -/
import Derived.Test.YtkjnledamamniaaPImx3
import Derived.Test.YtkjnledamamniaaPImx9
import Derived.Test.YtkjnledamamniaaPImx7
import Derived.Test.YtkjnledamamniaaPImx4
namespace Go.Proofs.Ytkjnledamamniaa.Im
open Go.RowKit Go.Proofs.Ytkjnledamamniaa.PIm Go.Proofs.YtkjnledamamniaaW.PrintWords Go.Proofs.YtkjnledamamniaaW.PrintLast
theorem w64 {x : Int} (h : -9223372036854775808 ≤ x ∧ x ≤ 9223372036854775807) : wrap64 x = x := by unfold wrap64; omega

theorem rd_mem {l : List Int} {i : Int} (h0 : 0 ≤ i) (h1 : i < (l.length : Int)) : rd l i ∈ l := by
  unfold rd
  rw [List.getD_eq_getElem?_getD, List.getElem?_eq_getElem (by omega)]
  simp

theorem wf_u8 {x : Int} (h : (Lit.int .u8 x).wf = true) : 0 ≤ x ∧ x < 256 := by
  simp [Lit.wf, IntKind.min, IntKind.max, IntKind.bits, IntKind.signed] at h
  omega
theorem wf_i64 {x : Int} (h : (Lit.int .i64 x).wf = true) : -9223372036854775808 ≤ x ∧ x ≤ 9223372036854775807 := by
  simp [Lit.wf, IntKind.min, IntKind.max, IntKind.bits, IntKind.signed] at h
  omega
theorem bind_of {α β : Type} {o : Option α} {a : α} {f : α → Option β} (h : o = some a) : o.bind f = f a := by rw [h]; rfl
/-- A state of the choices. -/
structure Ok (l : List Int) (p : Int) : Prop where
  lo : 0 ≤ p
  hi : p ≤ (l.length : Int)
  len : (l.length : Int) ≤ 1000000
  byte : ∀ x ∈ l, 0 ≤ x ∧ x < 256

theorem left_eq (l : List Int) (p : Int) : rollbacknetmake_Codes_Left.f l p = some (decide (p < (l.length : Int)), p) := rfl

theorem next_ok {l : List Int} {p : Int} (h : Ok l p) {n : Int} (h1 : 1 ≤ n) (h2 : n ≤ 256) :
    ∃ r q, rollbacknetmake_Codes_Next.f l p n = some (r, q) ∧ 0 ≤ r ∧ r < n ∧ Ok l q := by
  obtain ⟨a, b, c, d⟩ := h
  unfold rollbacknetmake_Codes_Next.f
  rw [left_eq]
  simp only [Option.bind_some]
  by_cases hl : p < (l.length : Int)
  · have e1 : wrap64 (p + 1) = p + 1 := w64 (by omega)
    have e2 : wrap64 (p + 1 - 1) = p := by rw [w64 (by omega)]; omega
    have hb := d _ (rd_mem a hl)
    rw [if_pos (by simpa using hl), e1, e2, if_pos a, if_pos hl, if_neg (by omega), w64 (by omega)]
    rw [Int.tmod_eq_emod_of_nonneg hb.1]
    exact ⟨_, _, rfl, Int.emod_nonneg _ (by omega), Int.emod_lt_of_pos _ (by omega), by omega, by omega, c, d⟩
  · rw [if_neg (by simpa using hl)]
    exact ⟨_, _, rfl, by omega, by omega, a, b, c, d⟩

theorem new_ok {l : List Int} {m : Int} (hl : ∀ x ∈ l, (Lit.int .u8 x).wf = true) (h0 : 0 ≤ m) (h1 : m ≤ 1000000) :
    ∃ l', rollbacknetmake_New.f l m = some (l', 0) ∧ Ok l' 0 := by
  have hb : ∀ x ∈ l, 0 ≤ x ∧ x < 256 := by
    intro x hx
    exact wf_u8 (hl x hx)
  unfold rollbacknetmake_New.f
  by_cases h : (l.length : Int) > m
  · rw [if_pos h, if_pos h0, if_pos (by omega)]
    refine ⟨_, rfl, by omega, by omega, ?_, fun x hx => hb x (List.mem_of_mem_take hx)⟩
    simp only [List.length_take]
    omega
  · rw [if_neg h]
    exact ⟨_, rfl, by omega, by omega, by omega, hb⟩
abbrev Page := S28
theorem w64n {n : Nat} (h : n < 140737488355328) : wrap64 ((n : Int) + 1) = ((n + 1 : Nat) : Int) := by rw [w64 (by omega)]; rfl
theorem rd_at {l : List Int} {i : Nat} (h : i < l.length) : rd l (i : Int) = l[i] := by
  simp [rd, List.getD_eq_getElem?_getD, List.getElem?_eq_getElem h]
theorem awake_f {k : Nat} (hk : 200 ≤ k) : rollbacknetlaw07_awake.f k = some true :=
  at_rounds (g := fun k => rollbacknetlaw07_awake.f k) rollbacknetlaw07_awake.mono hk (by kernel_rfl)

/-- The pages' number, and a page. -/
def cnt (l : List Int) : Nat := (l.length + 3) / 4
def pg (l : List Int) (n : Nat) : List Int := (l.take (4 * n + 4)).drop (4 * n)
theorem pg_len (l : List Int) (n : Nat) : (pg l n).length ≤ 4 := by simp [pg]; omega
theorem pg_get (l : List Int) (n j : Nat) : (pg l n)[j]? = if j < 4 then l[4 * n + j]? else none := by
  unfold pg
  rw [List.getElem?_drop, List.getElem?_take]
  by_cases h : j < 4
  · rw [if_pos h, if_pos (by omega)]
  · rw [if_neg h, if_neg (by omega)]
theorem pg_none {l : List Int} {n : Nat} (h : cnt l ≤ n) : pg l n = [] := by
  unfold pg
  unfold cnt at h
  rw [List.drop_eq_nil_iff]
  simp
  omega
theorem count_f {l : List Int} (h : l.length ≤ 1000000) : image_Count.f l = some (cnt l : Int) := by
  unfold image_Count.f cnt
  rw [w64 (x := (l.length : Int) + 4) (by omega), w64 (x := (l.length : Int) + 4 - 1) (by omega), Int.tdiv_eq_ediv_of_nonneg (by omega), w64 (by omega)]
  congr 1
  omega
theorem page_f {l : List Int} (h : l.length ≤ 1000000) {n : Nat} (hn : n < cnt l) : image_page.f l (n : Int) = some (pg l n) := by
  unfold cnt at hn
  unfold image_page.f
  have e : (n : Int) * 4 = ((4 * n : Nat) : Int) := by omega
  rw [e, w64 (x := ((4 * n : Nat) : Int)) (by omega), w64 (by omega), if_pos (by omega)]
  by_cases h4 : (l.length : Int) < ((4 * n : Nat) : Int) + 4
  · have em : mn (((4 * n : Nat) : Int) + 4) (l.length : Int) = (l.length : Int) := if_pos h4
    rw [em, if_pos (by omega), if_pos (by omega)]
    congr 1
    unfold pg
    rw [List.take_of_length_le (by omega), List.take_of_length_le (by omega)]
    rfl
  · have em : mn (((4 * n : Nat) : Int) + 4) (l.length : Int) = ((4 * n : Nat) : Int) + 4 := if_neg h4
    rw [em, if_pos (by omega), if_pos (by omega)]
    rfl
theorem equal_l0 (l m : List Int) (hl : l.length ≤ 1000000) (hm : l.length = m.length) : ∀ (n i k : Nat), l.length - i ≤ n → n < k → i ≤ l.length → slices_Equal_int_int.l0 k l m (l.length : Int) (i : Int) = some (decide (l.drop i = m.drop i)) := by
  intro n
  induction n with
  | zero =>
    intro i k hn hk hi
    obtain ⟨k, rfl⟩ : ∃ q, k = q + 1 := ⟨k - 1, by omega⟩
    simp only [slices_Equal_int_int.l0]
    rw [if_neg (by omega), List.drop_eq_nil_of_le (by omega), List.drop_eq_nil_of_le (by omega)]
    rfl
  | succ n ih =>
    intro i k hn hk hi
    obtain ⟨k, rfl⟩ : ∃ q, k = q + 1 := ⟨k - 1, by omega⟩
    simp only [slices_Equal_int_int.l0]
    by_cases hlt : i < l.length
    · have hlt2 : i < m.length := by omega
      rw [if_pos (by omega), if_pos (by omega), if_pos (by omega), if_pos (by omega), rd_at hlt, rd_at hlt2, List.drop_eq_getElem_cons hlt, List.drop_eq_getElem_cons hlt2]
      by_cases he : l[i] = m[i]
      · rw [if_pos he, w64n (by omega), ih (i + 1) k (by omega) (by omega) (by omega), he]
        simp only [List.cons.injEq, true_and]
      · rw [if_neg he]
        simp only [List.cons.injEq, he, false_and, decide_false]
    · rw [if_neg (by omega), List.drop_eq_nil_of_le (by omega), List.drop_eq_nil_of_le (by omega)]
      rfl
theorem equal_f {l m : List Int} (hl : l.length ≤ 1000000) {k : Nat} (hk : l.length < k) : slices_Equal_int_int.f k l m = some (decide (l = m)) := by
  unfold slices_Equal_int_int.f
  by_cases h : (l.length : Int) = (m.length : Int)
  · rw [if_pos h]
    exact equal_l0 l m hl (by omega) l.length 0 k (by omega) hk (by omega)
  · rw [if_neg h, decide_eq_false (fun e => h (by rw [e]))]
/-- What one page adds to the difference, and the difference from a page on. -/
def dl (a b : List Int) (n : Nat) : List Page := if a.length = b.length ∧ pg a n = pg b n then [] else [⟨(n : Int), pg b n⟩]
def dif (a b : List Int) : Nat → Nat → List Page
  | _, 0 => []
  | i, m + 1 => dl a b i ++ dif a b (i + 1) m
theorem dl_len (a b : List Int) (n : Nat) : (dl a b n).length ≤ 1 := by unfold dl; split <;> simp
theorem dif_len (a b : List Int) : ∀ m i : Nat, (dif a b i m).length ≤ m := by
  intro m
  induction m with
  | zero => intro i; simp [dif]
  | succ m ih => intro i; have := ih (i + 1); have := dl_len a b i; simp [dif]; omega
theorem dif_cells (a b : List Int) : ∀ m i : Nat, ∀ p ∈ dif a b i m, p.f1.length ≤ 4 := by
  intro m
  induction m with
  | zero => intro i p hp; simp [dif] at hp
  | succ m ih =>
    intro i p hp
    simp only [dif, List.mem_append] at hp
    rcases hp with hp | hp
    · unfold dl at hp
      split at hp
      · simp at hp
      · rw [List.mem_singleton.1 hp]; exact pg_len b i
    · exact ih (i + 1) p hp
theorem diff_l0 {a b : List Int} (ha : a.length ≤ 10000) (hb : b.length ≤ 10000) : ∀ (n i k : Nat) (acc : List Page), i + n = cnt b → 2 * n + 10 < k → acc.length ≤ i →
    image_Diff.l0 k a b acc (cnt b : Int) (i : Int) = some (acc ++ dif a b i n) := by
  have hc : cnt b ≤ 10000 := by unfold cnt; omega
  intro n
  induction n with
  | zero =>
    intro i k acc hn hk hacc
    obtain ⟨k, rfl⟩ : ∃ q, k = q + 1 := ⟨k - 1, by omega⟩
    simp only [image_Diff.l0]
    rw [if_neg (by omega)]
    simp [dif]
  | succ n ih =>
    intro i k acc hn hk hacc
    obtain ⟨k, rfl⟩ : ∃ q, k = q + 2 := ⟨k - 2, by omega⟩
    have hib : i < cnt b := by omega
    have j1 : ∀ t : Bool, image_Diff.j1 (k + 1) a b acc (i : Int) (cnt b : Int) (i : Int) t = some ((acc ++ (if t = true then [(⟨(i : Int), pg b i⟩ : Page)] else [])) ++ dif a b (i + 1) n) := by
      intro t
      simp only [image_Diff.j1]
      cases t with
      | true =>
        have hp := pg_len b i
        rw [if_pos rfl, bind_of (page_f (by omega) hib), bind_of (show slices_Clone_int_int.f (pg b i) = some (pg b i) from if_pos (by omega)), if_pos (by omega), w64n (by omega)]
        exact ih (i + 1) k _ (by omega) (by omega) (by simp; omega)
      | false =>
        rw [if_neg (by simp), w64n (by omega), ih (i + 1) k _ (by omega) (by omega) (by omega)]
        simp
    simp only [image_Diff.l0]
    rw [if_pos (by omega)]
    by_cases hl : (a.length : Int) = (b.length : Int)
    · have hia : i < cnt a := by unfold cnt at *; omega
      have hp := pg_len a i
      rw [if_pos hl, bind_of (page_f (by omega) hia), bind_of (page_f (by omega) hib), bind_of (equal_f (by omega) (by omega)), j1]
      congr 1
      rw [dif, ← List.append_assoc]
      congr 2
      by_cases he : pg a i = pg b i
      · rw [show dl a b i = [] from if_pos ⟨by omega, he⟩]; simp [he]
      · rw [show dl a b i = [⟨(i : Int), pg b i⟩] from if_neg (fun h => he h.2)]; simp [he]
    · rw [if_neg hl, j1]
      congr 1
      rw [dif, ← List.append_assoc]
      congr 2
      rw [show dl a b i = [⟨(i : Int), pg b i⟩] from if_neg (fun h => hl (by omega))]
      rfl
theorem diff_f {a b : List Int} (ha : a.length ≤ 10000) (hb : b.length ≤ 10000) {k : Nat} (hk : 2 * cnt b + 10 < k) : image_Diff.f k a b = some (dif a b 0 (cnt b)) := by
  unfold image_Diff.f
  rw [bind_of (count_f (by omega))]
  exact diff_l0 ha hb (cnt b) 0 k [] (by omega) hk (by simp)
end Go.Proofs.Ytkjnledamamniaa.Im
