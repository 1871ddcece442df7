/- How long a file may become (DiskLimits; no condition). -/
import Derived.Test.YtnfbjdnflifcoaaPDkpDiskLimits
import Derived.Test.YtnfbjdnflifcoaaDkAppend
import Derived.Test.YtnfbjdnflifcoaaDkReplace
import Derived.Test.YtnfbjdnflifcoaaDkAwake
namespace Go.Proofs.Ytnfbjdnflifcoaa.Pure
open Go.RowKit Go.Proofs.Ytnfbjdnflifcoaa.PDk Go.Proofs.YtnfbjdnflifcoaaW.PrintWords Go.Proofs.YtnfbjdnflifcoaaW.PrintLast Go.Proofs.Ytnfbjdnflifcoaa.Dk

theorem DiskLimits : rollbacknetlaw10_DiskLimits.Pure := by
  intro a0 a1 h0 h1
  obtain ⟨b0, b1⟩ := wf_u8 h0
  obtain ⟨c0, c1⟩ := wf_u8 h1
  obtain ⟨K, hK⟩ : ∃ K : Nat, 100000 ≤ K := ⟨100000, Nat.le_refl _⟩
  refine ⟨K, ?_⟩
  unfold rollbacknetlaw10_DiskLimits.f
  have w0 : wrap64 a0 = a0 := w64 (by omega)
  have w1 : wrap64 a1 = a1 := w64 (by omega)
  rw [bind_of (awake_f (by omega)), if_pos rfl, bind_of new_one, w0, w1, w64 (x := 65536 - a0) (by omega), w64 (x := 65536 + a1) (by omega), if_pos (by omega), if_pos (by omega), bind_of rfl]
  have g0 : DGood 70000 (List.replicate 1 z48) := DGood.new 70000 1 (by omega)
  obtain ⟨n, hn⟩ : ∃ n : Nat, (65536 - a0).toNat = n := ⟨_, rfl⟩
  obtain ⟨m, hm⟩ : ∃ m : Nat, a1.toNat = m := ⟨_, rfl⟩
  have hn2 : (n : Int) = 65536 - a0 := by omega
  have hm2 : (m : Int) = a1 := by omega
  have e1 : apd (List.replicate 1 z48) 0 (List.replicate n 0) = ([⟨[], List.replicate n 0⟩], 0) := by
    unfold apd
    rw [if_pos (by simp), if_neg (by simp [at_, z48]; omega)]
    rfl
  simp only [hn, hm]
  rw [bind_of (append_f g0 (by omega) 0 (by rw [List.length_replicate]; omega) (by omega)), e1]
  simp only []
  have g1 : DGood 70000 [(⟨[], List.replicate n 0⟩ : File)] := ⟨by simp, fun f hf => by rw [List.mem_singleton.1 hf]; simp; omega⟩
  rw [if_pos (by omega), if_pos (by omega), bind_of (append_f g1 (by omega) 0 (by rw [List.length_replicate]; omega) (by omega)), if_pos (by omega), if_pos (by omega), bind_of (replace_f g1 (by omega) 0 (by rw [List.length_replicate]; omega) (by omega)), if_pos trivial]
  have e2 : apd [(⟨[], List.replicate n 0⟩ : File)] 0 (List.replicate m 0) = if a1 > a0 then ([], 5) else ([⟨[], List.replicate n 0 ++ List.replicate m 0⟩], 0) := by
    unfold apd
    rw [if_pos (by simp)]
    simp only [at_, List.getD_cons_zero, show (0 : Int).toNat = 0 from rfl, List.length_nil, List.length_replicate]
    by_cases h : a1 > a0
    · rw [if_pos h, if_pos (by omega)]
    · rw [if_neg h, if_neg (by omega)]
      rfl
  have e3 : (rep [(⟨[], List.replicate n 0⟩ : File)] 0 (List.replicate (65536 + a1).toNat 0)).2 = if a1 = 0 then 0 else 5 := by
    unfold rep
    rw [if_pos (by simp), List.length_replicate]
    by_cases h : a1 = 0
    · rw [if_neg (by omega), if_pos h]
    · rw [if_pos (by omega), if_neg h]
  have fin : ∀ K : Nat, 1 ≤ K → rollbacknetlaw10_DiskLimits.j0 K a0 a1 (List.replicate n 0) (apd [(⟨[], List.replicate n 0⟩ : File)] 0 (List.replicate m 0)).2 false (apd [(⟨[], List.replicate n 0⟩ : File)] 0 (List.replicate m 0)).1 = some true := by
    intro K hK
    obtain ⟨K, rfl⟩ : ∃ q, K = q + 1 := ⟨K - 1, by omega⟩
    simp only [rollbacknetlaw10_DiskLimits.j0]
    rw [if_neg (by simp), w0, w1, e2]
    by_cases h : a1 > a0
    · rw [if_pos h, if_pos h, if_pos rfl]
      rfl
    · rw [if_neg h, if_neg h, if_pos rfl]
      simp only [List.length_singleton]
      rw [if_pos (by omega), if_pos (by omega)]
      have e4 : (rd_T48 [(⟨[], List.replicate n 0 ++ List.replicate m 0⟩ : File)] 0).f1.length = n + m := by
        simp [rd_T48]
      rw [e4, List.length_replicate, w64 (by omega)]
      congr 1
      rw [beq_iff_eq]
      omega
  rw [e3]
  by_cases h : a1 = 0
  · rw [if_pos h, if_neg (by simp [h]), if_pos rfl]
    exact fin K (by omega)
  · rw [if_neg h, if_neg (by simp [h]), if_neg (by omega)]
    exact fin K (by omega)
end Go.Proofs.Ytnfbjdnflifcoaa.Pure
