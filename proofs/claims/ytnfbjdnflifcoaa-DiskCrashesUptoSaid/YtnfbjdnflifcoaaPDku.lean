/- What is known of the laws' arguments, of bounded bulk. -/
import Derived.Test.YtnfbjdnflifcoaaPDkx0
import Derived.Test.YtnfbjdnflifcoaaXOpenU
namespace Go.Proofs.Ytnfbjdnflifcoaa.PDk
open Go.RowKit Go.Proofs.YtnfbjdnflifcoaaXU Go.Proofs.YtnfbjdnflifcoaaW.PrintWords
def U48 (x : S48) : Prop := (x.f0.length ≤ 1048576 ∧ ∀ y0_ ∈ x.f0, (Lit.int .u8 y0_).wf = true) ∧ (x.f1.length ≤ 1048576 ∧ ∀ y0_ ∈ x.f1, (Lit.int .u8 y0_).wf = true)
theorem openU48 : Opens Try.prog 48 k48 U48 := by
  intro H enc w base spare held fuel cs x h hs
  obtain ⟨xs, n, _, rfl, hlen0, hl, hf⟩ := DataW.trod_struct Try.underlying48 h
  have hlen : cs.length = 2 := hlen0.trans (by kernel_rfl)
  obtain ⟨v0, K0, g0⟩ := field_of hl hs hf (i := 0) rfl (d := (Kd.slice 5 (Kd.int .u8))) (Opens.slice Try.underlying30 (by kernel_rfl) (Opens.int Try.underlying5)) (by kernel_rfl)
  obtain ⟨v1, K1, g1⟩ := field_of hl hs hf (i := 1) rfl (d := (Kd.slice 5 (Kd.int .u8))) (Opens.slice Try.underlying30 (by kernel_rfl) (Opens.int Try.underlying5)) (by kernel_rfl)
  have KL : ((Kd.slice 5 (Kd.int .u8))).K w v1 (cs.drop 1) := by have z : ((Kd.slice 5 (Kd.int .u8))).K w v1 ((cs.drop 1).take 1) := K1; rwa [cutlast (by omega)] at z
  exact ⟨⟨v0, v1⟩, ⟨(cs.drop 0).take 1, cs.drop 1, cut2 cs 0 1, K0, KL⟩, g0, g1⟩
def U24 (x : S24) : Prop := (x.f0.length ≤ 1048576 ∧ ∀ y0_ ∈ x.f0, U48 y0_)
theorem openU24 : Opens Try.prog 24 k24 U24 := by
  intro H enc w base spare held fuel cs x h hs
  obtain ⟨xs, n, _, rfl, hlen0, hl, hf⟩ := DataW.trod_struct Try.underlying24 h
  have hlen : cs.length = 1 := hlen0.trans (by kernel_rfl)
  obtain ⟨v0, K0, g0⟩ := field_of hl hs hf (i := 0) rfl (d := (Kd.slice 48 k48)) (Opens.slice Try.underlying22 (by kernel_rfl) openU48) (by kernel_rfl)
  have KL : ((Kd.slice 48 k48)).K w v0 (cs.drop 0) := by have z : ((Kd.slice 48 k48)).K w v0 ((cs.drop 0).take 1) := K0; rwa [cutlast (by omega)] at z
  exact ⟨⟨v0⟩, KL, g0⟩
def U39 (x : S39) : Prop := (Lit.int .i64 x.f0).wf = true ∧ (x.f1.length ≤ 1048576 ∧ ∀ y0_ ∈ x.f1, (Lit.int .i64 y0_).wf = true)
theorem openU39 : Opens Try.prog 39 k39 U39 := by
  intro H enc w base spare held fuel cs x h hs
  obtain ⟨xs, n, _, rfl, hlen0, hl, hf⟩ := DataW.trod_struct Try.underlying39 h
  have hlen : cs.length = 2 := hlen0.trans (by kernel_rfl)
  obtain ⟨v0, K0, g0⟩ := field_of hl hs hf (i := 0) rfl (d := (Kd.int .i64)) (Opens.int Try.underlying3) (by kernel_rfl)
  obtain ⟨v1, K1, g1⟩ := field_of hl hs hf (i := 1) rfl (d := (Kd.slice 3 (Kd.int .i64))) (Opens.slice Try.underlying31 (by kernel_rfl) (Opens.int Try.underlying3)) (by kernel_rfl)
  have KL : ((Kd.slice 3 (Kd.int .i64))).K w v1 (cs.drop 1) := by have z : ((Kd.slice 3 (Kd.int .i64))).K w v1 ((cs.drop 1).take 1) := K1; rwa [cutlast (by omega)] at z
  exact ⟨⟨v0, v1⟩, ⟨(cs.drop 0).take 1, cs.drop 1, cut2 cs 0 1, K0, KL⟩, g0, g1⟩
end Go.Proofs.Ytnfbjdnflifcoaa.PDk
