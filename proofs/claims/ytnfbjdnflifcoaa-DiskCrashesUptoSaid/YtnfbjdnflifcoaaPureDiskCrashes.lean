/- What any crash leaves of any disk (DiskCrashes, for what is together of bulk at most 1048576; no other condition). -/
import Derived.Test.YtnfbjdnflifcoaaPDkpDiskCrashes
import Derived.Test.YtnfbjdnflifcoaaDkRCrash
import Derived.Test.YtnfbjdnflifcoaaDkSame
import Derived.Test.YtnfbjdnflifcoaaDkAwake
namespace Go.Proofs.Ytnfbjdnflifcoaa.Pure
open Go.RowKit Go.Proofs.Ytnfbjdnflifcoaa.PDk Go.Proofs.YtnfbjdnflifcoaaW.PrintWords Go.Proofs.YtnfbjdnflifcoaaW.PrintLast Go.Proofs.Ytnfbjdnflifcoaa.Dk

theorem DiskCrashes : rollbacknetlaw10_DiskCrashes.Pure := by
  intro x0 l1 hx _ hl
  obtain ⟨K, hK⟩ : ∃ K : Nat, 4000000 ≤ K := ⟨4000000, Nat.le_refl _⟩
  refine ⟨K, ?_⟩
  unfold rollbacknetlaw10_DiskCrashes.f
  rw [bind_of (awake_f (by omega)), if_pos rfl]
  obtain ⟨K, rfl⟩ : ∃ q, K = q + 1 := ⟨K - 1, by omega⟩
  by_cases h1 : (x0.f0.length : Int) > 20
  · rw [if_pos h1]
    simp only [rollbacknetlaw10_DiskCrashes.j0]
    rw [if_pos trivial]
  · rw [if_neg h1]
    simp only [rollbacknetlaw10_DiskCrashes.j0]
    by_cases h2 : (l1.length : Int) > 30
    · rw [if_pos (decide_eq_true h2)]
    · have hg : DGood 1048576 x0.f0 := ⟨by omega, fun f hf => ⟨(hx.2 f hf).1.1, (hx.2 f hf).2.1⟩⟩
      have ht : ∀ x ∈ l1, x.f1.length ≤ 1048576 := fun x h => (hl x h).2.1
      rw [decide_eq_false h2, if_neg (by simp), bind_of (crash_f hg (by omega) ht (by omega) (by omega) (by omega) (by omega)), bind_of (rcrash_f hg (by omega) ht (by omega) (by omega)),
        bind_of (same_f (crash_good hg) (by omega) (by omega))]
end Go.Proofs.Ytnfbjdnflifcoaa.Pure
