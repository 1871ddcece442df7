/- Which pending bytes a crash keeps, and which ones become zero, byte by byte (DiskTears; no condition). -/
import Derived.Test.YtnfbjdnflifcoaaPDkpDiskTears
import Derived.Test.YtnfbjdnflifcoaaDkCrash
import Derived.Test.YtnfbjdnflifcoaaDkAppend
import Derived.Test.YtnfbjdnflifcoaaDkRead
import Derived.Test.YtnfbjdnflifcoaaDkAwake
namespace Go.Proofs.Ytnfbjdnflifcoaa.Pure
open Go.RowKit Go.Proofs.Ytnfbjdnflifcoaa.PDk Go.Proofs.YtnfbjdnflifcoaaW.PrintWords Go.Proofs.YtnfbjdnflifcoaaW.PrintLast Go.Proofs.Ytnfbjdnflifcoaa.Dk

theorem tears_l1 (x0 x2 x10 : List Int) (i len N : Nat) (hx : x2.length ≤ 50) (hi : i < x10.length) (hi2 : i < 1000) (hnext : ∀ k, N ≤ k → rollbacknetlaw10_DiskTears.l0 k x0 x2 x10 (len : Int) ((i + 1 : Nat) : Int) = some true) :
    ∀ (n j k : Nat) (v : Int), x2.length - j ≤ n → N + n < k → j ≤ x2.length → (rd x10 (i : Int) = if ((i / 16 : Nat) : Int) ∈ x2.drop j then 0 else v) →
    rollbacknetlaw10_DiskTears.l1 k x0 x2 x10 (i : Int) v (len : Int) (i : Int) x2 (x2.length : Int) (j : Int) = some true := by
  intro n
  induction n with
  | zero =>
    intro j k v hn hk hj hv
    obtain ⟨k, rfl⟩ : ∃ q, k = q + 1 := ⟨k - 1, by omega⟩
    rw [List.drop_of_length_le (by omega), if_neg (by simp)] at hv
    simp only [rollbacknetlaw10_DiskTears.l1]
    rw [if_neg (by omega), if_pos (by omega), if_pos (by omega), if_pos hv, w64n (by omega)]
    exact hnext k (by omega)
  | succ n ih =>
    intro j k v hn hk hj hv
    by_cases hlt : j < x2.length
    · obtain ⟨k, rfl⟩ : ∃ q, k = q + 1 := ⟨k - 1, by omega⟩
      have e : wrap64 (Int.tdiv (i : Int) 16) = ((i / 16 : Nat) : Int) := by rw [Int.tdiv_eq_ediv_of_nonneg (by omega), w64 (by omega)]; omega
      simp only [rollbacknetlaw10_DiskTears.l1]
      rw [if_pos (by omega), if_pos (by omega), if_pos (by omega), rd_at hlt, e]
      by_cases hs : x2[j] = ((i / 16 : Nat) : Int)
      · rw [if_pos ((mem_drop hlt).2 (.inl hs.symm))] at hv
        rw [if_pos hs, w64n (by omega)]
        exact ih (j + 1) k 0 (by omega) (by omega) (by omega) (by rw [hv]; split <;> rfl)
      · rw [if_neg hs, w64n (by omega)]
        refine ih (j + 1) k v (by omega) (by omega) (by omega) ?_
        rw [hv]
        by_cases hm : ((i / 16 : Nat) : Int) ∈ x2.drop (j + 1)
        · rw [if_pos hm, if_pos ((mem_drop hlt).2 (.inr hm))]
        · rw [if_neg hm, if_neg (fun h => hm (((mem_drop hlt).1 h).resolve_left (fun e => hs e.symm)))]
    · exact ih j k v (by omega) (by omega) hj hv
theorem tears_l0 (x0 x2 x10 : List Int) (hx : x2.length ≤ 50) (hl : x10.length ≤ x0.length) (h0 : x0.length ≤ 500) (hv : ∀ i : Nat, i < x10.length → rd x10 (i : Int) = if ((i / 16 : Nat) : Int) ∈ x2 then 0 else rd x0 (i : Int)) :
    ∀ (n i k : Nat), x10.length - i ≤ n → n * 60 < k → i ≤ x10.length → rollbacknetlaw10_DiskTears.l0 k x0 x2 x10 (x10.length : Int) (i : Int) = some true := by
  intro n
  induction n with
  | zero =>
    intro i k hn hk hi
    obtain ⟨k, rfl⟩ : ∃ q, k = q + 1 := ⟨k - 1, by omega⟩
    simp only [rollbacknetlaw10_DiskTears.l0]
    rw [if_neg (by omega)]
  | succ n ih =>
    intro i k hn hk hi
    obtain ⟨k, rfl⟩ : ∃ q, k = q + 1 := ⟨k - 1, by omega⟩
    simp only [rollbacknetlaw10_DiskTears.l0]
    by_cases hlt : i < x10.length
    · rw [if_pos (by omega), if_pos (by omega), if_pos (by omega)]
      exact tears_l1 x0 x2 x10 i x10.length (n * 60 + 1) hx hlt (by omega) (fun k hk => ih (i + 1) k (by omega) (by omega) (by omega)) x2.length 0 k _ (by omega) (by omega) (by omega) (by rw [List.drop_zero]; exact hv i hlt)
    · rw [if_neg (by omega)]

theorem torn_rd (t : Tear) (p : List Int) {i : Nat} (h : i < (torn t p).length) : rd (torn t p) (i : Int) = if ((i / 16 : Nat) : Int) ∈ t.f1 then 0 else rd p (i : Int) := by
  have hk := torn_length t p
  have hkp := keep_le t p
  have h1 := zp_at t.f1 (keep t p) 0 (p.take (keep t p)) i
  have h2 : (torn t p)[i]? = some ((torn t p)[i]) := List.getElem?_eq_getElem h
  rw [rd_at h, rd_at (show i < p.length by omega)]
  change (torn t p)[i]? = _ at h1
  rw [h2, List.getElem?_take_of_lt (by omega), List.getElem?_eq_getElem (by omega)] at h1
  simp only [Option.map_some, Option.some.injEq] at h1
  rw [h1]
  by_cases hs : ((i / 16 : Nat) : Int) ∈ t.f1
  · rw [if_pos hs, if_pos ⟨Nat.zero_le _, by omega, hs⟩]
  · rw [if_neg hs, if_neg (fun h => hs h.2.2)]

theorem DiskTears : rollbacknetlaw10_DiskTears.Pure := by
  intro l0 a1 l2 _ _ _ ha _ _ _
  obtain ⟨K, hK⟩ : ∃ K : Nat, 100000 ≤ K := ⟨100000, Nat.le_refl _⟩
  refine ⟨K, ?_⟩
  have hw := wf_i64 ha
  unfold rollbacknetlaw10_DiskTears.f
  rw [bind_of (awake_f (by omega)), if_pos rfl]
  obtain ⟨K, rfl⟩ : ∃ q, K = q + 1 := ⟨K - 1, by omega⟩
  by_cases h1 : (l0.length : Int) > 500
  · rw [if_pos h1]
    simp only [rollbacknetlaw10_DiskTears.j0]
    rw [if_pos trivial]
  · rw [if_neg h1]
    simp only [rollbacknetlaw10_DiskTears.j0]
    by_cases h2 : (l2.length : Int) > 50
    · rw [if_pos (decide_eq_true h2)]
    · rw [decide_eq_false h2, if_neg (by simp), bind_of new_one]
      have g0 : DGood 500 (List.replicate 1 z48) := DGood.new 500 1 (by omega)
      have e1 : apd (List.replicate 1 z48) 0 l0 = ([⟨[], l0⟩], 0) := by
        unfold apd
        rw [if_pos (by simp), if_neg (by simp [at_, z48]; omega)]
        rfl
      simp only []
      rw [bind_of (append_f g0 (by omega) 0 (by omega) (by omega)), e1]
      have g1 : DGood 500 [(⟨[], l0⟩ : File)] := ⟨by simp, fun f hf => by rw [List.mem_singleton.1 hf]; simp; omega⟩
      simp only []
      rw [bind_of (crash_f (q := 50) g1 (by omega) (fun x hx => by rw [List.mem_singleton.1 hx]; simp; omega) (by omega) (by omega) (by omega) (by omega))]
      have e2 : crash [(⟨a1, l2⟩ : Tear)] [(⟨[], l0⟩ : File)] = [⟨torn ⟨a1, l2⟩ l0, []⟩] := rfl
      have hk := torn_length ⟨a1, l2⟩ l0
      have hkp := keep_le ⟨a1, l2⟩ l0
      have g2 : DGood 500 [(⟨torn ⟨a1, l2⟩ l0, []⟩ : File)] := ⟨by simp, fun f hf => by rw [List.mem_singleton.1 hf]; simp; omega⟩
      have e3 : rdd [(⟨torn ⟨a1, l2⟩ l0, []⟩ : File)] 0 = (torn ⟨a1, l2⟩ l0, 0) := by
        unfold rdd
        rw [if_pos (by simp)]
        simp [at_]
      rw [e2, bind_of (read_f g2 (by omega) 0), e3]
      simp only []
      rw [if_pos trivial, if_pos trivial]
      have e4 : (((torn ⟨a1, l2⟩ l0).length : Int) != mn (mx a1 0) (l0.length : Int)) = false := by
        have e5 : ((torn ⟨a1, l2⟩ l0).length : Int) = mn (mx a1 0) (l0.length : Int) := by
          rw [hk]
          unfold mn mx keep
          simp only []
          split <;> split <;> omega
        rw [e5]
        simp
      rw [e4]
      obtain ⟨K, rfl⟩ : ∃ q, K = q + 1 := ⟨K - 1, by omega⟩
      simp only [rollbacknetlaw10_DiskTears.j1]
      rw [if_neg (by simp)]
      exact tears_l0 l0 l2 _ (by omega) (by omega) (by omega) (fun i hi => torn_rd ⟨a1, l2⟩ l0 hi) 500 0 K (by omega) (by omega) (by omega)
end Go.Proofs.Ytnfbjdnflifcoaa.Pure
