/- What is known of the laws' arguments. -/
import Derived.Test.YtiflebfnhjlfdaaPNkx0
import Derived.Test.YtiflebfnhjlfdaaXOpen
namespace Go.Proofs.Ytiflebfnhjlfdaa.PNk
open Go.RowKit Go.Proofs.YtiflebfnhjlfdaaX Go.Proofs.YtiflebfnhjlfdaaW.PrintWords
def G24 (x : S24) : Prop := (Lit.int .i64 x.f0).wf = true ∧ (Lit.int .i64 x.f1).wf = true
theorem open24 : Opens Try.prog 24 k24 G24 := by
  intro H enc w base spare held fuel cs x h hs
  obtain ⟨xs, n, _, rfl, hlen0, hl, hf⟩ := DataW.trod_struct Try.underlying24 h
  have hlen : cs.length = 2 := hlen0.trans (by kernel_rfl)
  obtain ⟨v0, K0, g0⟩ := field_of hl Try.underlying24 hs hf (i := 0) rfl (d := (Kd.int .i64)) (Opens.int Try.underlying3) (by kernel_rfl)
  obtain ⟨v1, K1, g1⟩ := field_of hl Try.underlying24 hs hf (i := 1) rfl (d := (Kd.int .i64)) (Opens.int Try.underlying3) (by kernel_rfl)
  have KL : ((Kd.int .i64)).K w v1 (cs.drop 1) := by have z : ((Kd.int .i64)).K w v1 ((cs.drop 1).take 1) := K1; rwa [cutlast (by omega)] at z
  exact ⟨⟨v0, v1⟩, ⟨(cs.drop 0).take 1, cs.drop 1, cut2 cs 0 1, K0, KL⟩, g0, g1⟩
end Go.Proofs.Ytiflebfnhjlfdaa.PNk
