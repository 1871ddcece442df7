/- What is synchronized survives every crash, a crash behind a Sync changes nothing, and a second crash changes nothing (DiskSafe; no condition). -/
import Derived.Test.YtnfbjdnflifcoaaPDkpDiskSafe
import Derived.Test.YtnfbjdnflifcoaaDkCrash
import Derived.Test.YtnfbjdnflifcoaaDkAppend
import Derived.Test.YtnfbjdnflifcoaaDkSync
import Derived.Test.YtnfbjdnflifcoaaDkRead
import Derived.Test.YtnfbjdnflifcoaaDkBytes
import Derived.Test.YtnfbjdnflifcoaaDkMakeT
import Derived.Test.YtnfbjdnflifcoaaDkAwake
namespace Go.Proofs.Ytnfbjdnflifcoaa.Pure
open Go.RowKit Go.Proofs.Ytnfbjdnflifcoaa.PDk Go.Proofs.YtnfbjdnflifcoaaW.PrintWords Go.Proofs.YtnfbjdnflifcoaaW.PrintLast Go.Proofs.Ytnfbjdnflifcoaa.Dk

theorem two {m : Nat} {a b : File} (ha : a.f0.length ≤ m ∧ a.f1.length ≤ m) (hb : b.f0.length ≤ m ∧ b.f1.length ≤ m) : DGood m [a, b] :=
  ⟨by simp, fun f hf => by
    rcases List.mem_cons.1 hf with rfl | hf
    · exact ha
    · rw [List.mem_singleton.1 hf]
      exact hb⟩
theorem apd2 (a b : File) (x : List Int) (h : b.f0.length + b.f1.length + x.length ≤ 65536) : apd [a, b] 1 x = ([a, ⟨b.f0, b.f1 ++ x⟩], 0) := by
  unfold apd
  rw [if_pos (by simp), if_neg (by simp only [at_, show (1 : Int).toNat = 1 from rfl, List.getD_cons_succ, List.getD_cons_zero]; omega)]
  rfl
theorem syn2 (a b : File) : syn [a, b] 1 = ([a, ⟨b.f0 ++ b.f1, []⟩], 0) := by
  unfold syn
  rw [if_pos (by simp)]
  rfl
theorem rdd2 (a b : File) : rdd [a, b] 1 = (b.f0 ++ b.f1, 0) := by
  unfold rdd
  rw [if_pos (by simp)]
  rfl
theorem crash2 (l : List Tear) (a b : File) : crash l [a, b] = [⟨a.f0 ++ torn (tear l 0) a.f1, []⟩, ⟨b.f0 ++ torn (tear l 1) b.f1, []⟩] := rfl
theorem torn_nil (t : Tear) : torn t [] = [] := List.length_eq_zero_iff.1 (by rw [torn_length]; have := keep_le t []; simpa using this)

theorem DiskSafe : rollbacknetlaw10_DiskSafe.Pure := by
  intro l0 l1 l2 _ _ hb _ _ _ _ _ _
  obtain ⟨K, hK⟩ : ∃ K : Nat, 100000 ≤ K := ⟨100000, Nat.le_refl _⟩
  refine ⟨K, ?_⟩
  unfold rollbacknetlaw10_DiskSafe.f
  rw [bind_of (awake_f (by omega)), if_pos rfl]
  obtain ⟨K, rfl⟩ : ∃ q, K = q + 1 := ⟨K - 1, by omega⟩
  by_cases h1 : (l1.length : Int) > 500
  · rw [if_pos h1]
    simp only [rollbacknetlaw10_DiskSafe.j0]
    rw [if_pos trivial]
  · rw [if_neg h1]
    simp only [rollbacknetlaw10_DiskSafe.j0]
    by_cases h2 : (l2.length : Int) > 500
    · rw [if_pos (decide_eq_true h2)]
    · obtain ⟨l, el, hl⟩ := new_ok (l := l0) (m := 100) hb (by omega) (by omega)
      rw [decide_eq_false h2, if_neg (by simp), bind_of el, bind_of new_two]
      obtain ⟨z, hz⟩ : ∃ z, z = z48 := ⟨_, rfl⟩
      have z0 : z.f0.length = 0 ∧ z.f1.length = 0 := by rw [hz]; exact ⟨rfl, rfl⟩
      have er : List.replicate 2 z48 = [z, z] := by rw [hz]; rfl
      have g0 : DGood 1000 [z, z] := two (by omega) (by omega)
      simp only [er]
      rw [bind_of (append_f g0 (by omega) 1 (by omega) (by omega)), apd2 z z l1 (by omega)]
      have ez : z.f0 = [] := List.length_eq_zero_iff.1 z0.1
      have ez1 : z.f1 = [] := List.length_eq_zero_iff.1 z0.2
      simp only [ez, ez1, List.nil_append]
      have g1 : DGood 1000 [z, (⟨[], l1⟩ : File)] := two (by omega) (by simp only [List.length_nil]; omega)
      rw [bind_of (sync_f g1 (by omega) 1 (by omega)), syn2]
      simp only [List.nil_append]
      rw [if_pos trivial]
      obtain ⟨K, rfl⟩ : ∃ q, K = q + 1 := ⟨K - 1, by omega⟩
      simp only [rollbacknetlaw10_DiskSafe.j1]
      rw [if_neg (by simp)]
      obtain ⟨L, q, eL, hq, hL⟩ := mktears hl (n := 2) (by omega) (by omega) (k := K) (by omega)
      obtain ⟨L2, q2, eL2, hq2, hL2⟩ := mktears hq (n := 2) (by omega) (by omega) (k := K) (by omega)
      have g2 : DGood 1000 [z, (⟨l1, []⟩ : File)] := two (by omega) (by simp only [List.length_nil]; omega)
      have t0 : torn (tear L 0) z.f1 = [] := by rw [ez1, torn_nil]
      have t0' : torn (tear L2 0) [] = [] := torn_nil _
      have t1 := torn_length (tear L 1) l2
      have t2 := keep_le (tear L 1) l2
      have g3 : DGood 1000 [z, (⟨l1, l2⟩ : File)] := two (by omega) (by simp only []; omega)
      rw [bind_of eL, bind_of (crash_f (q := 2) g2 (by omega) hL (by omega) (by omega) (by omega) (by omega)), crash2]
      simp only [torn_nil, List.append_nil, ez, ez1]
      have g4 : DGood 1000 [(⟨[], []⟩ : File), (⟨l1, []⟩ : File)] := two ⟨Nat.zero_le _, Nat.zero_le _⟩ (by simp only [List.length_nil]; omega)
      rw [bind_of (read_f g4 (by omega) 1), rdd2, bind_of (append_f g2 (by omega) 1 (by omega) (by omega)), apd2 _ _ _ (by simp only [List.length_nil]; omega)]
      simp only [List.nil_append]
      rw [bind_of (crash_f (q := 2) g3 (by omega) hL (by omega) (by omega) (by omega) (by omega)), crash2]
      simp only [torn_nil, List.append_nil, ez, ez1]
      have g5 : DGood 1000 [(⟨[], []⟩ : File), (⟨l1 ++ torn (tear L 1) l2, []⟩ : File)] := two ⟨Nat.zero_le _, Nat.zero_le _⟩ (by simp only [List.length_append, List.length_nil]; omega)
      rw [bind_of (read_f g5 (by omega) 1), rdd2, bind_of eL2, bind_of (crash_f (q := 2) g5 (by omega) hL2 (by omega) (by omega) (by omega) (by omega)), crash2]
      simp only [torn_nil, List.append_nil]
      rw [bind_of (read_f g5 (by omega) 1), rdd2]
      simp only [List.append_nil]
      rw [if_pos trivial, if_pos trivial, bind_of (bytes_f (by omega) (by omega)), if_pos rfl, if_pos (by rw [List.length_append]; omega), w64 (by omega), if_pos (by rw [List.length_append]; omega), if_pos (by omega), if_pos (by rw [List.length_append]; omega), Int.toNat_natCast, List.take_left,
        bind_of (bytes_f (by omega) (by omega)), if_pos rfl, bind_of (bytes_f (by rw [List.length_append]; omega) (by rw [List.length_append]; omega))]
end Go.Proofs.Ytnfbjdnflifcoaa.Pure
