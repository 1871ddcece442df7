/- The law DiskCrashes, for every input, with no condition: out of its pure statement and the walk of what it calls. -/
import Derived.Test.YtnfbjdnflifcoaaRows
import Derived.Test.YtnfbjdnflifcoaaPDkpDiskCrashes
import Derived.Test.YtnfbjdnflifcoaaPureDiskCrashes
import Derived.WalkKit
import Derived.ProofKit
import Derived.OpenShut
import Derived.ShutString
import Derived.ChangeOld
import Derived.Below
import Derived.SizedLaws
import Derived.JoinedCond
namespace Go.Proofs.Ytnfbjdnflifcoaa.diskCrashes
open Go.ChangeShapes Go.WideShapes Go.ChangeAt Go.RowKit Go.Proofs.Ytnfbjdnflifcoaa.PDk Go.Proofs.YtnfbjdnflifcoaaXU Go.Proofs.YtnfbjdnflifcoaaW.PrintWords
open Go.ChangeMaps (open_string shut_string)
set_option linter.unusedVariables false
theorem own : ownKnob Try.prog.godebug = none := by kernel_rfl
theorem laidOut : laidOutB Try.prog = true := by kernel_rfl
set_option maxRecDepth 100000 in
theorem lifted (os : Os) (started : os.Started) (H : Type) (enc : TypeId × Value → H) (F : Stop.Interp) :
    ReturnsInHanded {} Try.checked os 3 .any ((Rows.OpenSpec.upto Rows.diskCrashesSpec).pre6 enc Try.prog Try.f3 Rows.diskCrashesUptoRow.domain false) (((Rows.OpenSpec.upto Rows.diskCrashesSpec).at F).post enc Try.prog Try.f3 false true false false) := by
  refine returnsInHanded_of_cond (C := Try.checked) (s := Rows.OpenSpec.upto Rows.diskCrashesSpec) (k := Rows.uptoSmall) rfl own started (by kernel_rfl) Try.func3
    (OpenSpec.witness (enc := enc) (C := Try.checked) (s := Rows.OpenSpec.upto Rows.diskCrashesSpec) (k := Rows.uptoSmall) rfl false ⟨#[], #[(.agg #[(.slice none 0 0)]), .slice none 0 0], []⟩ 8 (by kernel_rfl) (by kernel_rfl) (by kernel_rfl) (x := ([.agg [.nil], .nil], [], [])) (by kernel_rfl) rfl (by kernel_rfl)) ?_
  intro W base args ds gs before hval0 hW _ hk _
  have hval : ∀ (j : Nat) t v, Try.f3.params[j]? = some t → args[j]? = some v → Value.okWide Try.prog W .any base t v := hval0
  have hW' := hW
  obtain ⟨p, q, hA0, hV, rfl, hfz, hnd⟩ := hW
  have hA : DataW.TrodAll enc Try.prog W 0 (fun _ => true) true Try.f3.params.toList args.toList ds p := hA0
  rw [Try.params3] at hA hval
  obtain ⟨v0, vs0, d0, ds0, p0, q0, hargs, rfl, rfl, h0, r0⟩ := trodAll_cons hA
  obtain ⟨v1, vs1, d1, ds1, p1, q1, rfl, rfl, rfl, h1, r1⟩ := trodAll_cons r0
  obtain ⟨rfl, rfl, rfl⟩ := trodAll_nil r1
  obtain rfl : args = #[v0, v1] := by cases args; simp_all
  obtain ⟨rfl, rfl⟩ := trodVars_none hV
  have k0 := h0
  have lt0 : ∀ x ∈ p0, x.block < W.heap.size := by obtain ⟨m, hm⟩ := k0; exact DataW.trod_lt m _ _ _ hm
  obtain ⟨x0, cs0, rfl, hK0, hg0⟩ := arg_struct Try.underlying24 (hval 0 24 v0 rfl rfl) openU24 (Light.of hk (j := 0) rfl) h0
  obtain ⟨As0_0, Cs0_0, rfl, ls0_0, gs0_0⟩ := k24_open hK0
  obtain ⟨a1, len1, cap1, rfl⟩ := okWide_slice Try.underlying25 (hval 1 25 v1 rfl rfl)
  have k1 := h1
  have lt1 : ∀ x ∈ p1, x.block < W.heap.size := by obtain ⟨m, hm⟩ := k1; exact DataW.trod_lt m _ _ _ hm
  obtain ⟨l1, rfl, hr1, hc1, hm1, hg1⟩ := arg_slice (d := k39) Try.underlying25 (by kernel_rfl) openU39 (Light.of hk (j := 1) rfl) h1
  clear hA0 hval0
  obtain ⟨k, h⟩ := Pure.DiskCrashes x0 l1 hg0 hm1 hg1
  refine (rollbacknetlaw10_DiskCrashes.calls k _ _ x0.f0 _ _ l1 true W gs0_0 ls0_0 hr1 hc1 h).mono fun e W' ⟨he, bel⟩ => ?_
  subst he
  exact ⟨_, rfl, _, _, _, [], _, [], hW', trodAll_mk1 (shut_bool Try.underlying4 _), (trodAll_cons_mk (Below.trod laidOut (by kernel_rfl) (of_decide_eq_true (by kernel_rfl)) k0 bel lt0) (trodAll_cons_mk (Below.trod laidOut (by kernel_rfl) (of_decide_eq_true (by kernel_rfl)) k1 bel lt1) trodAll_mk0)), rfl, bel.frame _, fun h => by cases h⟩
theorem over : Rows.diskCrashesUptoRow.holds Try.pinned (Rows.OpenSpec.upto Rows.diskCrashesSpec) :=
  OpenClaim.holds_of_cond 3 Try.f3 rfl rfl rfl rfl rfl rfl rfl ⟨rfl, rfl, rfl, rfl, rfl⟩ rfl rfl rfl rfl rfl (by kernel_rfl) Try.func3 (by kernel_rfl)
    (of_decide_eq_true (by kernel_rfl)) (by unfold Func.isWrapper; first | (rw [if_pos (by decide +kernel)]; kernel_rfl) | (rw [if_neg (by decide +kernel)]; exact ⟨rfl, rfl⟩))
    (fun os started H enc _ F => lifted os started H enc F)
theorem proved : Rows.DiskCrashesUptoSaid := over
#print axioms proved
end Go.Proofs.Ytnfbjdnflifcoaa.diskCrashes
namespace Go.Proofs.Ytnfbjdnflifcoaa
/-- The law, under a short name, for the claim. -/
theorem diskCrashesUpto_holds : Rows.DiskCrashesUptoSaid := diskCrashes.proved
end Go.Proofs.Ytnfbjdnflifcoaa
