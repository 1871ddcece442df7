/- What is known of the laws' arguments, and the laws' pure statements. -/
import Derived.Test.YtpcfgpghfegjkaaPSlx3
import Derived.Test.YtpcfgpghfegjkaaPSlx4
import Derived.Test.YtpcfgpghfegjkaaPSlx6
import Derived.Test.YtpcfgpghfegjkaaXOpen
namespace Go.Proofs.Ytpcfgpghfegjkaa.PSl
open Go.RowKit Go.Proofs.YtpcfgpghfegjkaaX Go.Proofs.YtpcfgpghfegjkaaW.PrintWords
def G32 (x : S32) : Prop := (Lit.int .i64 x.f0).wf = true ∧ (Lit.int .i64 x.f1).wf = true
theorem open32 : Opens Try.prog 32 k32 G32 := by
  intro H enc w base spare held fuel cs x h
  obtain ⟨xs, n, _, _, hlen0, hl, hf⟩ := DataW.trod_struct Try.underlying32 h
  have hlen : cs.length = 2 := hlen0.trans (by kernel_rfl)
  obtain ⟨v0, K0, g0⟩ := field_of hl hf (i := 0) rfl (d := (Kd.int .i64)) (Opens.int Try.underlying3) (by kernel_rfl)
  obtain ⟨v1, K1, g1⟩ := field_of hl hf (i := 1) rfl (d := (Kd.int .i64)) (Opens.int Try.underlying3) (by kernel_rfl)
  have KL : ((Kd.int .i64)).K w v1 (cs.drop 1) := by have z : ((Kd.int .i64)).K w v1 ((cs.drop 1).take 1) := K1; rwa [cutlast (by omega)] at z
  exact ⟨⟨v0, v1⟩, ⟨(cs.drop 0).take 1, cs.drop 1, cut2 cs 0 1, K0, KL⟩, g0, g1⟩
def G34 (x : S34) : Prop := (Lit.int .i64 x.f0).wf = true ∧ (Lit.int .i64 x.f1).wf = true ∧ (Lit.int .i64 x.f2).wf = true ∧ G32 x.f3 ∧ (Lit.int .i64 x.f4).wf = true ∧ (Lit.int .i64 x.f5).wf = true
theorem open34 : Opens Try.prog 34 k34 G34 := by
  intro H enc w base spare held fuel cs x h
  obtain ⟨xs, n, _, _, hlen0, hl, hf⟩ := DataW.trod_struct Try.underlying34 h
  have hlen : cs.length = 7 := hlen0.trans (by kernel_rfl)
  obtain ⟨v0, K0, g0⟩ := field_of hl hf (i := 0) rfl (d := (Kd.int .i64)) (Opens.int Try.underlying3) (by kernel_rfl)
  obtain ⟨v1, K1, g1⟩ := field_of hl hf (i := 1) rfl (d := (Kd.int .i64)) (Opens.int Try.underlying3) (by kernel_rfl)
  obtain ⟨v2, K2, g2⟩ := field_of hl hf (i := 2) rfl (d := (Kd.int .i64)) (Opens.int Try.underlying3) (by kernel_rfl)
  obtain ⟨v3, K3, g3⟩ := field_of hl hf (i := 3) rfl (d := k32) open32 (by kernel_rfl)
  obtain ⟨v4, K4, g4⟩ := field_of hl hf (i := 4) rfl (d := (Kd.int .i64)) (Opens.int Try.underlying3) (by kernel_rfl)
  obtain ⟨v5, K5, g5⟩ := field_of hl hf (i := 5) rfl (d := (Kd.int .i64)) (Opens.int Try.underlying3) (by kernel_rfl)
  have KL : ((Kd.int .i64)).K w v5 (cs.drop 6) := by have z : ((Kd.int .i64)).K w v5 ((cs.drop 6).take 1) := K5; rwa [cutlast (by omega)] at z
  exact ⟨⟨v0, v1, v2, v3, v4, v5⟩, ⟨(cs.drop 0).take 1, cs.drop 1, cut2 cs 0 1, K0, (cs.drop 1).take 1, cs.drop 2, cut2 cs 1 1, K1, (cs.drop 2).take 1, cs.drop 3, cut2 cs 2 1, K2, (cs.drop 3).take 2, cs.drop 5, cut2 cs 3 2, K3, (cs.drop 5).take 1, cs.drop 6, cut2 cs 5 1, K4, KL⟩, g0, g1, g2, g3, g4, g5⟩
def G50 (x : S50) : Prop := (Lit.int .i64 x.f0).wf = true ∧ (Lit.int .i64 x.f1).wf = true ∧ (Lit.int .i64 x.f2).wf = true ∧ (Lit.int .i64 x.f3).wf = true
theorem open50 : Opens Try.prog 50 k50 G50 := by
  intro H enc w base spare held fuel cs x h
  obtain ⟨xs, n, _, _, hlen0, hl, hf⟩ := DataW.trod_struct Try.underlying50 h
  have hlen : cs.length = 4 := hlen0.trans (by kernel_rfl)
  obtain ⟨v0, K0, g0⟩ := field_of hl hf (i := 0) rfl (d := (Kd.int .i64)) (Opens.int Try.underlying3) (by kernel_rfl)
  obtain ⟨v1, K1, g1⟩ := field_of hl hf (i := 1) rfl (d := (Kd.int .i64)) (Opens.int Try.underlying3) (by kernel_rfl)
  obtain ⟨v2, K2, g2⟩ := field_of hl hf (i := 2) rfl (d := (Kd.int .i64)) (Opens.int Try.underlying3) (by kernel_rfl)
  obtain ⟨v3, K3, g3⟩ := field_of hl hf (i := 3) rfl (d := (Kd.int .i64)) (Opens.int Try.underlying3) (by kernel_rfl)
  have KL : ((Kd.int .i64)).K w v3 (cs.drop 3) := by have z : ((Kd.int .i64)).K w v3 ((cs.drop 3).take 1) := K3; rwa [cutlast (by omega)] at z
  exact ⟨⟨v0, v1, v2, v3⟩, ⟨(cs.drop 0).take 1, cs.drop 1, cut2 cs 0 1, K0, (cs.drop 1).take 1, cs.drop 2, cut2 cs 1 1, K1, (cs.drop 2).take 1, cs.drop 3, cut2 cs 2 1, K2, KL⟩, g0, g1, g2, g3⟩
/-- The pure statement of SenderlogNexts. -/
def rollbacknetlaw29_SenderlogNexts.Pure : Prop := ∀ (l0 : List (S34)) (a1 : Int) (l2 : List Int), l0.length ≤ maxLen → l0.length * 56 ≤ 140737488351232 → (∀ y0_ ∈ l0, G34 y0_) → (Lit.int .i64 a1).wf = true → l2.length ≤ maxLen → l2.length * 1 ≤ 140737488351232 → (∀ y0_ ∈ l2, (Lit.int .u8 y0_).wf = true) → ∃ k, rollbacknetlaw29_SenderlogNexts.f k l0 a1 l2 = some true
/-- The pure statement of SenderlogRaises. -/
def rollbacknetlaw29_SenderlogRaises.Pure : Prop := ∀ (l0 : List (S34)) (a1 : Int) (l2 : List Int), l0.length ≤ maxLen → l0.length * 56 ≤ 140737488351232 → (∀ y0_ ∈ l0, G34 y0_) → (Lit.int .i64 a1).wf = true → l2.length ≤ maxLen → l2.length * 1 ≤ 140737488351232 → (∀ y0_ ∈ l2, (Lit.int .u8 y0_).wf = true) → ∃ k, rollbacknetlaw29_SenderlogRaises.f k l0 a1 l2 = some true
/-- The pure statement of SenderlogEnds. -/
def rollbacknetlaw29_SenderlogEnds.Pure : Prop := ∀ (l0 : List Int) (a1 : Int), l0.length ≤ maxLen → l0.length * 1 ≤ 140737488351232 → (∀ y0_ ∈ l0, (Lit.int .u8 y0_).wf = true) → (Lit.int .i64 a1).wf = true → ∃ k, rollbacknetlaw29_SenderlogEnds.f k l0 a1 = some true
/-- The pure statement of SenderlogRecords. -/
def rollbacknetlaw29_SenderlogRecords.Pure : Prop := ∀ (l0 : List (S50)) (x1 : S50) (a2 : Int), l0.length ≤ maxLen → l0.length * 32 ≤ 140737488351232 → (∀ y0_ ∈ l0, G50 y0_) → G50 x1 → (Lit.int .i64 a2).wf = true → ∃ k, rollbacknetlaw29_SenderlogRecords.f k l0 x1.f0 x1.f1 x1.f2 x1.f3 a2 = some true
end Go.Proofs.Ytpcfgpghfegjkaa.PSl
