/- What is known of the laws' arguments. -/
import Derived.Test.YtkjnledamamniaaPImx0
import Derived.Test.YtkjnledamamniaaXOpen
namespace Go.Proofs.Ytkjnledamamniaa.PIm
open Go.RowKit Go.Proofs.YtkjnledamamniaaX Go.Proofs.YtkjnledamamniaaW.PrintWords
def G28 (x : S28) : Prop := (Lit.int .i64 x.f0).wf = true ∧ (x.f1.length ≤ maxLen ∧ x.f1.length * 8 ≤ 140737488351232 ∧ ∀ y0_ ∈ x.f1, (Lit.int .i64 y0_).wf = true)
theorem open28 : Opens Try.prog 28 k28 G28 := by
  intro H enc w base spare held fuel cs x h hs
  obtain ⟨xs, n, _, rfl, hlen0, hl, hf⟩ := DataW.trod_struct Try.underlying28 h
  have hlen : cs.length = 2 := hlen0.trans (by kernel_rfl)
  obtain ⟨v0, K0, g0⟩ := field_of hl Try.underlying28 hs hf (i := 0) rfl (d := (Kd.int .i64)) (Opens.int Try.underlying3) (by kernel_rfl)
  obtain ⟨v1, K1, g1⟩ := field_of hl Try.underlying28 hs hf (i := 1) rfl (d := (Kd.slice 3 (Kd.int .i64))) (Opens.slice (B := 8) Try.underlying22 (by kernel_rfl) (by kernel_rfl) (Opens.int Try.underlying3)) (by kernel_rfl)
  have KL : ((Kd.slice 3 (Kd.int .i64))).K w v1 (cs.drop 1) := by have z : ((Kd.slice 3 (Kd.int .i64))).K w v1 ((cs.drop 1).take 1) := K1; rwa [cutlast (by omega)] at z
  exact ⟨⟨v0, v1⟩, ⟨(cs.drop 0).take 1, cs.drop 1, cut2 cs 0 1, K0, KL⟩, g0, g1⟩
end Go.Proofs.Ytkjnledamamniaa.PIm
