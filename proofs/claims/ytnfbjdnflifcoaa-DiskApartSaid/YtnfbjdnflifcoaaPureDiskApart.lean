/- A call on one file changes no other one (DiskApart; no condition). -/
import Derived.Test.YtnfbjdnflifcoaaPDkpDiskApart
import Derived.Test.YtnfbjdnflifcoaaDkAppend
import Derived.Test.YtnfbjdnflifcoaaDkSync
import Derived.Test.YtnfbjdnflifcoaaDkReplace
import Derived.Test.YtnfbjdnflifcoaaDkRead
import Derived.Test.YtnfbjdnflifcoaaDkBytes
import Derived.Test.YtnfbjdnflifcoaaDkMakeB
import Derived.Test.YtnfbjdnflifcoaaDkAwake
namespace Go.Proofs.Ytnfbjdnflifcoaa.Pure
open Go.RowKit Go.Proofs.Ytnfbjdnflifcoaa.PDk Go.Proofs.YtnfbjdnflifcoaaW.PrintWords Go.Proofs.YtnfbjdnflifcoaaW.PrintLast Go.Proofs.Ytnfbjdnflifcoaa.Dk

theorem at_set_ne {t : List File} {i j : Int} (h0 : 0 ≤ i) (h1 : 0 ≤ j) (h : i ≠ j) (f : File) : at_ (t.set i.toNat f) j = at_ t j := by
  unfold at_
  rw [List.getD_eq_getElem?_getD, List.getD_eq_getElem?_getD, List.getElem?_set_ne (by omega)]
theorem at_set_eq {t : List File} {i : Int} (h0 : 0 ≤ i) (h1 : i < t.length) (f : File) : at_ (t.set i.toNat f) i = f := by
  unfold at_
  rw [List.getD_eq_getElem?_getD, List.getElem?_set_self (by omega)]
  rfl
theorem rdd_set_ne {t : List File} {i j : Int} (h0 : 0 ≤ i) (h1 : 0 ≤ j) (h : i ≠ j) (f : File) : rdd (t.set i.toNat f) j = rdd t j := by
  unfold rdd
  rw [at_set_ne h0 h1 h, List.length_set]
theorem apd_ok {m : Nat} {t : List File} (h : DGood m t) {i : Int} (h0 : 0 ≤ i) (h1 : i < t.length) {b : List Int} (hm : m + m + b.length ≤ 65536) : apd t i b = (t.set i.toNat ⟨(at_ t i).f0, (at_ t i).f1 ++ b⟩, 0) := by
  have := h.at_ i
  unfold apd
  rw [if_pos ⟨h0, h1⟩, if_neg (by omega)]
theorem syn_ok {t : List File} {i : Int} (h0 : 0 ≤ i) (h1 : i < t.length) : syn t i = (t.set i.toNat ⟨(at_ t i).f0 ++ (at_ t i).f1, []⟩, 0) := by
  unfold syn
  rw [if_pos ⟨h0, h1⟩]
theorem rep_ok {t : List File} {i : Int} (h0 : 0 ≤ i) (h1 : i < t.length) {b : List Int} (hb : b.length ≤ 65536) : rep t i b = (t.set i.toNat ⟨b, []⟩, 0) := by
  unfold rep
  rw [if_pos ⟨h0, h1⟩, if_neg (by omega)]
theorem rdd_ok {t : List File} {i : Int} (h0 : 0 ≤ i) (h1 : i < t.length) : rdd t i = ((at_ t i).f0 ++ (at_ t i).f1, 0) := by
  unfold rdd
  rw [if_pos ⟨h0, h1⟩]

theorem apart_end {l : List Int} {p : Int} (h : Ok l p) {t : List File} (ht : t.length = 4) (hg : DGood 1000 t) {x1 x2 : Int} (a0 : 0 ≤ x1) (a1 : x1 < 256) (b0 : 0 ≤ x2) (b1 : x2 < 256) {k : Nat} (hk : 50000 ≤ k) :
    rollbacknetlaw10_DiskApart.l0 k x1 x2 4 l p t = some true := by
  obtain ⟨k, rfl⟩ : ∃ q, k = q + 1 := ⟨k - 1, by omega⟩
  simp only [rollbacknetlaw10_DiskApart.l0]
  rw [if_neg (by omega), w64 (x := x1) (by omega), w64 (x := x2) (by omega), Int.tmod_eq_emod_of_nonneg a0, Int.tmod_eq_emod_of_nonneg b0]
  have i0 : 0 ≤ x1 % 4 := by omega
  have i1 : x1 % 4 < (t.length : Int) := by omega
  have j0 : 0 ≤ x2 % 4 := by omega
  have j1 : x2 % 4 < (t.length : Int) := by omega
  generalize x1 % 4 = i at *
  generalize x2 % 4 = j at *
  obtain ⟨b, q, eb, hb, hq⟩ := mkbytes h (n := 20) (by omega) (by omega) (k := k) (by omega)
  obtain ⟨b2, q2, eb2, hb2, hq2⟩ := mkbytes hq (n := 20) (by omega) (by omega) (k := k) (by omega)
  have ha := hg.at_ i
  have haj := hg.at_ j
  have g1 : DGood 3000 (t.set i.toNat ⟨(at_ t i).f0, (at_ t i).f1 ++ b⟩) := (hg.mono (by omega)).set (by simp only [List.length_append]; omega)
  rw [bind_of (read_f hg (by omega) j), bind_of eb]
  simp only []
  rw [bind_of (append_f hg (by omega) i (by omega) (by omega)), apd_ok hg i0 i1 (by omega)]
  simp only []
  rw [bind_of (sync_f g1 (by omega) i (by omega)), syn_ok i0 (by rw [List.length_set]; exact i1), at_set_eq i0 i1]
  simp only [List.set_set]
  have g2 : DGood 3000 (t.set i.toNat ⟨(at_ t i).f0 ++ ((at_ t i).f1 ++ b), []⟩) := (hg.mono (by omega)).set (by simp only [List.length_append, List.length_nil]; omega)
  rw [bind_of eb2]
  simp only []
  rw [bind_of (replace_f g2 (by omega) i (by omega) (by omega)), rep_ok i0 (by rw [List.length_set]; exact i1) (by omega)]
  simp only [List.set_set]
  have g3 : DGood 3000 (t.set i.toNat ⟨b2, []⟩) := (hg.mono (by omega)).set (by simp only [List.length_nil]; omega)
  rw [bind_of (read_f g3 (by omega) j), if_pos trivial]
  have e : (rdd (t.set i.toNat ⟨b2, []⟩) j).2 = 0 := by rw [rdd_ok j0 (by rw [List.length_set]; exact j1)]
  rw [if_pos e]
  by_cases hij : i = j
  · rw [if_pos hij]
  · rw [if_neg hij, rdd_set_ne i0 j0 hij, rdd_ok j0 j1, bind_of (bytes_f (by simp only [List.length_append]; omega) (by simp only [List.length_append]; omega))]
theorem apart_l0 {l : List Int} {x1 x2 : Int} (a0 : 0 ≤ x1) (a1 : x1 < 256) (b0 : 0 ≤ x2) (b1 : x2 < 256) : ∀ (n i k : Nat) (p : Int) (t : List File), 4 - i ≤ n → i ≤ 4 → 50000 + n < k → Ok l p → t.length = 4 → DGood (20 * i) t →
    rollbacknetlaw10_DiskApart.l0 k x1 x2 (i : Int) l p t = some true := by
  intro n
  induction n with
  | zero =>
    intro i k p t hn hi hk h ht hg
    obtain rfl : i = 4 := by omega
    exact apart_end h ht (hg.mono (by omega)) a0 a1 b0 b1 (by omega)
  | succ n ih =>
    intro i k p t hn hi hk h ht hg
    by_cases hlt : i < 4
    · obtain ⟨k, rfl⟩ : ∃ q, k = q + 1 := ⟨k - 1, by omega⟩
      obtain ⟨b, q, eb, hb, hq⟩ := mkbytes h (n := 20) (by omega) (by omega) (k := k) (by omega)
      have ha := hg.at_ (i : Int)
      simp only [rollbacknetlaw10_DiskApart.l0]
      rw [if_pos (by omega), bind_of eb]
      simp only []
      rw [bind_of (append_f hg (by omega) (i : Int) (by omega) (by omega)), apd_ok hg (by omega) (by omega) (by omega)]
      simp only []
      rw [if_pos trivial, w64n (by omega)]
      exact ih (i + 1) k q _ (by omega) (by omega) (by omega) hq (by rw [List.length_set]; exact ht) ((hg.mono (by omega)).set (by simp only [List.length_append]; omega))
    · obtain rfl : i = 4 := by omega
      exact apart_end h ht (hg.mono (by omega)) a0 a1 b0 b1 (by omega)

theorem DiskApart : rollbacknetlaw10_DiskApart.Pure := by
  intro l0 a1 a2 _ _ hb h1 h2
  obtain ⟨c0, c1⟩ := wf_u8 h1
  obtain ⟨d0, d1⟩ := wf_u8 h2
  obtain ⟨K, hK⟩ : ∃ K : Nat, 100000 ≤ K := ⟨100000, Nat.le_refl _⟩
  refine ⟨K, ?_⟩
  obtain ⟨l, el, hl⟩ := new_ok (l := l0) (m := 200) hb (by omega) (by omega)
  unfold rollbacknetlaw10_DiskApart.f
  rw [bind_of (awake_f (by omega)), if_pos rfl, bind_of el, bind_of new_four]
  exact apart_l0 c0 c1 d0 d1 4 0 K 0 _ (by omega) (by omega) (by omega) hl (by simp) (DGood.new _ 4 (by omega))
end Go.Proofs.Ytnfbjdnflifcoaa.Pure
