/- The choices (chapter 10; no condition but sizes). -/
import Derived.Test.YtnfbjdnflifcoaaDkLib
import Derived.Test.YtnfbjdnflifcoaaPDkx17
import Derived.Test.YtnfbjdnflifcoaaPDkx19
namespace Go.Proofs.Ytnfbjdnflifcoaa.Dk
open Go.RowKit Go.Proofs.Ytnfbjdnflifcoaa.PDk Go.Proofs.YtnfbjdnflifcoaaW.PrintWords Go.Proofs.YtnfbjdnflifcoaaW.PrintLast
/-- A state of the choices. -/
structure Ok (l : List Int) (p : Int) : Prop where
  lo : 0 ≤ p
  hi : p ≤ (l.length : Int)
  len : (l.length : Int) ≤ 1000000
  byte : ∀ x ∈ l, 0 ≤ x ∧ x < 256

theorem left_eq (l : List Int) (p : Int) : rollbacknetmake_Codes_Left.f l p = some (decide (p < (l.length : Int)), p) := rfl

theorem next_ok {l : List Int} {p : Int} (h : Ok l p) {n : Int} (h1 : 1 ≤ n) (h2 : n ≤ 256) :
    ∃ r q, rollbacknetmake_Codes_Next.f l p n = some (r, q) ∧ 0 ≤ r ∧ r < n ∧ Ok l q := by
  obtain ⟨a, b, c, d⟩ := h
  unfold rollbacknetmake_Codes_Next.f
  rw [left_eq]
  simp only [Option.bind_some]
  by_cases hl : p < (l.length : Int)
  · have e1 : wrap64 (p + 1) = p + 1 := w64 (by omega)
    have e2 : wrap64 (p + 1 - 1) = p := by rw [w64 (by omega)]; omega
    have hb := d _ (rd_mem a hl)
    rw [if_pos (by simpa using hl), e1, e2, if_pos a, if_pos hl, if_neg (by omega), w64 (by omega)]
    rw [Int.tmod_eq_emod_of_nonneg hb.1]
    exact ⟨_, _, rfl, Int.emod_nonneg _ (by omega), Int.emod_lt_of_pos _ (by omega), by omega, by omega, c, d⟩
  · rw [if_neg (by simpa using hl)]
    exact ⟨_, _, rfl, by omega, by omega, a, b, c, d⟩

theorem new_ok {l : List Int} {m : Int} (hl : ∀ x ∈ l, (Lit.int .u8 x).wf = true) (h0 : 0 ≤ m) (h1 : m ≤ 1000000) :
    ∃ l', rollbacknetmake_New.f l m = some (l', 0) ∧ Ok l' 0 := by
  have hb : ∀ x ∈ l, 0 ≤ x ∧ x < 256 := by
    intro x hx
    exact wf_u8 (hl x hx)
  unfold rollbacknetmake_New.f
  by_cases h : (l.length : Int) > m
  · rw [if_pos h, if_pos h0, if_pos (by omega)]
    refine ⟨_, rfl, by omega, by omega, ?_, fun x hx => hb x (List.mem_of_mem_take hx)⟩
    simp only [List.length_take]
    omega
  · rw [if_neg h]
    exact ⟨_, rfl, by omega, by omega, by omega, hb⟩
end Go.Proofs.Ytnfbjdnflifcoaa.Dk
