/- What the makers of inputs give: choices and events. -/
import Derived.Test.YtpcfgpghfegjkaaPSlg
namespace Go.Proofs.Ytpcfgpghfegjkaa.Mk
open Go.RowKit Go.Proofs.Ytpcfgpghfegjkaa.PSl Go.Proofs.YtpcfgpghfegjkaaW.PrintWords Go.Proofs.YtpcfgpghfegjkaaW.PrintLast

-- what the makers of inputs give
theorem w64 {x : Int} (h : -9223372036854775808 ≤ x ∧ x ≤ 9223372036854775807) : wrap64 x = x := by unfold wrap64; omega

/-- A state of the choices. -/
structure Ok (l : List Int) (p : Int) : Prop where
  lo : 0 ≤ p
  hi : p ≤ (l.length : Int)
  len : (l.length : Int) ≤ 1000000
  byte : ∀ x ∈ l, 0 ≤ x ∧ x < 256

theorem rd_mem {l : List Int} {i : Int} (h0 : 0 ≤ i) (h1 : i < (l.length : Int)) : rd l i ∈ l := by
  unfold rd
  rw [List.getD_eq_getElem?_getD, List.getElem?_eq_getElem (by omega)]
  simp

theorem left_eq (l : List Int) (p : Int) : rollbacknetmake_Codes_Left.f l p = some (decide (p < (l.length : Int)), p) := rfl

theorem next_ok {l : List Int} {p : Int} (h : Ok l p) {n : Int} (h1 : 1 ≤ n) (h2 : n ≤ 256) :
    ∃ r q, rollbacknetmake_Codes_Next.f l p n = some (r, q) ∧ 0 ≤ r ∧ r < n ∧ Ok l q := by
  obtain ⟨a, b, c, d⟩ := h
  unfold rollbacknetmake_Codes_Next.f
  rw [left_eq]
  simp only [Option.bind_some]
  by_cases hl : p < (l.length : Int)
  · have e1 : wrap64 (p + 1) = p + 1 := w64 (by omega)
    have e2 : wrap64 (p + 1 - 1) = p := by rw [w64 (by omega)]; omega
    have hb := d _ (rd_mem a hl)
    rw [if_pos (by simpa using hl), e1, e2, if_pos a, if_pos hl, if_neg (by omega), w64 (by omega)]
    rw [Int.tmod_eq_emod_of_nonneg hb.1]
    exact ⟨_, _, rfl, Int.emod_nonneg _ (by omega), Int.emod_lt_of_pos _ (by omega), by omega, by omega, c, d⟩
  · rw [if_neg (by simpa using hl)]
    exact ⟨_, _, rfl, by omega, by omega, a, b, c, d⟩

theorem wf_u8 {x : Int} (h : (Lit.int .u8 x).wf = true) : 0 ≤ x ∧ x < 256 := by
  simp [Lit.wf, IntKind.min, IntKind.max, IntKind.bits, IntKind.signed] at h
  omega
theorem wf_i64 {x : Int} (h : (Lit.int .i64 x).wf = true) : -9223372036854775808 ≤ x ∧ x ≤ 9223372036854775807 := by
  simp [Lit.wf, IntKind.min, IntKind.max, IntKind.bits, IntKind.signed] at h
  omega
theorem bind_of {α β : Type} {o : Option α} {a : α} {f : α → Option β} (h : o = some a) : o.bind f = f a := by rw [h]; rfl
theorem new_ok {l : List Int} {m : Int} (hl : ∀ x ∈ l, (Lit.int .u8 x).wf = true) (h0 : 0 ≤ m) (h1 : m ≤ 1000000) :
    ∃ l', rollbacknetmake_New.f l m = some (l', 0) ∧ Ok l' 0 := by
  have hb : ∀ x ∈ l, 0 ≤ x ∧ x < 256 := by
    intro x hx
    exact wf_u8 (hl x hx)
  unfold rollbacknetmake_New.f
  by_cases h : (l.length : Int) > m
  · rw [if_pos h, if_pos h0, if_pos (by omega)]
    refine ⟨_, rfl, by omega, by omega, ?_, fun x hx => hb x (List.mem_of_mem_take hx)⟩
    simp only [List.length_take]
    omega
  · rw [if_neg h]
    exact ⟨_, rfl, by omega, by omega, by omega, hb⟩

theorem int_ok {l : List Int} {p : Int} (h : Ok l p) : ∃ r q, rollbacknetmake_Codes_Int.f l p = some (r, q) ∧ (-9223372036854775808 ≤ r ∧ r ≤ 9223372036854775807) ∧ Ok l q := by
  obtain ⟨r, q, e, a, b, h1⟩ := next_ok h (n := 6) (by omega) (by omega)
  unfold rollbacknetmake_Codes_Int.f
  simp only [Option.bind_some]
  rw [e]
  simp only [Option.bind_some]
  by_cases h5 : r = 5
  · rw [if_pos h5]
    obtain ⟨r2, q2, e2, a2, b2, h2⟩ := next_ok h1 (n := 10) (by omega) (by omega)
    refine ⟨_, _, (bind_of (f := _) e2).trans ((if_pos a2).trans (if_pos b2)), ?_, h2⟩
    have : r2 = 0 ∨ r2 = 1 ∨ r2 = 2 ∨ r2 = 3 ∨ r2 = 4 ∨ r2 = 5 ∨ r2 = 6 ∨ r2 = 7 ∨ r2 = 8 ∨ r2 = 9 := by omega
    rcases this with rfl | rfl | rfl | rfl | rfl | rfl | rfl | rfl | rfl | rfl <;> simp [rd]
  · rw [if_neg h5]
    obtain ⟨r2, q2, e2, a2, b2, h2⟩ := next_ok h1 (n := 12) (by omega) (by omega)
    rw [e2]
    simp only [Option.bind_some]
    exact ⟨_, _, rfl, by rw [w64 (by omega)]; omega, h2⟩

theorem mod_ok {x n : Int} (hx : -9223372036854775808 ≤ x ∧ x ≤ 9223372036854775807) (h0 : 0 < n) (h1 : n ≤ 4611686018427387904) :
    rollbacknetmake_Mod.f x n = some (x % n) := by
  unfold rollbacknetmake_Mod.f
  rw [if_neg (by omega)]
  have e := Int.tmod_eq_emod (a := x) (b := n)
  have a := Int.emod_nonneg x (b := n) (by omega)
  have b := Int.emod_lt_of_pos x h0
  by_cases hn : 0 ≤ x
  · rw [Int.tmod_eq_emod_of_nonneg hn, if_neg (by omega)]
  · by_cases hd : n ∣ x
    · rw [Int.tmod_eq_zero_of_dvd hd, if_neg (by omega), Int.emod_eq_zero_of_dvd hd]
    · rw [if_neg (by simp [hd]; omega)] at e
      have hab : (n.natAbs : Int) = n := by omega
      rw [hab] at e
      have hz : x % n ≠ 0 := fun h => hd (Int.dvd_of_emod_eq_zero h)
      rw [if_pos (by omega), w64 (by omega)]
      congr 1
      omega
theorem event_ok {l : List Int} {p : Int} (h : Ok l p) : ∃ a b c d e f g q, rollbacknetmake_Codes_Event.f l p = some (a, b, c, d, e, f, g, q) ∧ Ok l q := by
  obtain ⟨r1, q1, e1, a1, b1, h1⟩ := next_ok h (n := 3) (by omega) (by omega)
  obtain ⟨r2, q2, e2, a2, b2, h2⟩ := next_ok h1 (n := 3) (by omega) (by omega)
  obtain ⟨r3, q3, e3, a3, h3⟩ := int_ok h2
  unfold rollbacknetmake_Codes_Event.f
  simp only [e1, e2, e3, Option.bind_some]
  by_cases hr : wrap64 (1 + r1) = 1
  · rw [if_pos hr]
    obtain ⟨r4, q4, e4, a4, b4, h4⟩ := next_ok h3 (n := 3) (by omega) (by omega)
    obtain ⟨r5, q5, e5, a5, b5, h5⟩ := next_ok h4 (n := 2) (by omega) (by omega)
    obtain ⟨r6, q6, e6, a6, b6, h6⟩ := next_ok h5 (n := 5) (by omega) (by omega)
    obtain ⟨r7, q7, e7, a7, b7, h7⟩ := next_ok h6 (n := 3) (by omega) (by omega)
    simp only [e4, e5, e6, e7, Option.bind_some]
    exact ⟨_, _, _, _, _, _, _, _, rfl, h7⟩
  · rw [if_neg hr]
    exact ⟨_, _, _, _, _, _, _, _, rfl, h3⟩

theorem events_l0 (l : List Int) : ∀ (n : Nat) (k : Nat) (xs : List S34) (p : Int), n < k → xs.length + n ≤ 1000000 → Ok l p →
    ∃ ys q, rollbacknetmake_Codes_Events.l0 k xs (n : Int) l p = some (ys, q) ∧ ys.length = xs.length + n ∧ Ok l q := by
  intro n
  induction n with
  | zero =>
    intro k xs p hk _ h
    obtain ⟨k, rfl⟩ : ∃ m, k = m + 1 := ⟨k - 1, by omega⟩
    exact ⟨xs, p, by simp only [rollbacknetmake_Codes_Events.l0]; rw [if_neg (by omega)], rfl, h⟩
  | succ n ih =>
    intro k xs p hk hn h
    obtain ⟨k, rfl⟩ : ∃ m, k = m + 1 := ⟨k - 1, by omega⟩
    obtain ⟨a, b, c, d, e, f, g, q, he, hq⟩ := event_ok h
    obtain ⟨ys, q2, e2, hy, h2⟩ := ih k (xs ++ [⟨a, b, c, ⟨d, e⟩, f, g⟩]) q (by omega) (by simp; omega) hq
    refine ⟨ys, q2, ?_, by rw [hy]; simp; omega, h2⟩
    simp only [rollbacknetmake_Codes_Events.l0]
    rw [if_pos (by omega), he]
    simp only [Option.bind_some]
    rw [if_pos (by omega), w64 (by omega), show ((n + 1 : Nat) : Int) - 1 = (n : Int) by omega]
    exact e2

theorem events_ok {l : List Int} {p : Int} (h : Ok l p) {n : Int} (h0 : 0 ≤ n) (h1 : n ≤ 255) :
    ∃ ys q, ys.length ≤ 255 ∧ Ok l q ∧ ∀ k, 256 ≤ k → rollbacknetmake_Codes_Events.f k l p n = some (ys, q) := by
  obtain ⟨r, q, e, a, b, hq⟩ := next_ok h (n := n + 1) (by omega) (by omega)
  obtain ⟨m, rfl⟩ := Int.eq_ofNat_of_zero_le a
  obtain ⟨ys, q2, e2, hy, h2⟩ := events_l0 l m 256 [] q (by omega) (by simp; omega) hq
  refine ⟨ys, q2, by rw [hy]; simp; omega, h2, fun k hk => at_rounds (fun k => rollbacknetmake_Codes_Events.mono l p n k) hk ?_⟩
  unfold rollbacknetmake_Codes_Events.f
  rw [w64 (by omega), e]
  exact e2
end Go.Proofs.Ytpcfgpghfegjkaa.Mk
