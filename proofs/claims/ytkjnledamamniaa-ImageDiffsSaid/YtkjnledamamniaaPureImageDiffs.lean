/- The pages by which two images differ, their number and cost (ImageDiffs; no condition). -/
import Derived.Test.YtkjnledamamniaaPImpImageDiffs
import Derived.Test.YtkjnledamamniaaImRef
import Derived.Test.YtkjnledamamniaaImChange
namespace Go.Proofs.Ytkjnledamamniaa.Pure
open Go.RowKit Go.Proofs.Ytkjnledamamniaa.PIm Go.Proofs.YtkjnledamamniaaW.PrintWords Go.Proofs.YtkjnledamamniaaW.PrintLast Go.Proofs.Ytkjnledamamniaa.Im
theorem diffs_step {a x : List Int} {t : List (List Int)} {i k : Nat} (ha : a.length ≤ 200) (hx : x.length ≤ 200) (hi : i < 2) (ht : t.length = 2) (hr : rd_L1 t (i : Int) = x) (hk : 1000 ≤ k) :
    rollbacknetlaw07_ImageDiffs.l0 (k + 1) a t 2 (i : Int) = rollbacknetlaw07_ImageDiffs.l0 k a t 2 ((i + 1 : Nat) : Int) := by
  have hc : cnt x ≤ 60 := by unfold cnt; omega
  have hl := dif_len a x (cnt x) 0
  obtain ⟨r, g1, g2⟩ := cost_f (t := dif a x 0 (cnt x)) (by omega) (k := k) (by omega)
  rw [rollbacknetlaw07_ImageDiffs.l0]
  rw [if_pos (by omega), if_pos (by omega), if_pos (by omega), hr, bind_of (diff_f (by omega) (by omega) (by omega)), bind_of (rdiff_f (by omega) (by omega) (by omega)),
    bind_of (same_f (by omega) (fun p hp => dif_cells a x _ _ p hp) (by omega)), if_pos rfl, bind_of g1, bind_of g2, if_pos rfl, bind_of (count_f (by omega)), bind_of (rcount_f (by omega)), if_pos rfl, w64n (by omega)]

theorem ImageDiffs : rollbacknetlaw07_ImageDiffs.Pure := by
  intro a b l _ _ _ _ _ _ _ _ hl
  refine ⟨2000, ?_⟩
  unfold rollbacknetlaw07_ImageDiffs.f
  rw [bind_of (awake_f (by omega)), if_pos rfl]
  by_cases h1 : (a.length : Int) > 200
  · rw [if_pos h1]
    rfl
  rw [if_neg h1]
  by_cases h2 : (b.length : Int) > 200
  · rw [decide_eq_true h2]
    rfl
  rw [decide_eq_false h2]
  obtain ⟨l', e, ok⟩ := new_ok hl (m := 40) (by omega) (by omega)
  obtain ⟨d, q, e2, hd, _⟩ := change_f ok (a := a) (by omega) (k := 1999) (by omega)
  rw [rollbacknetlaw07_ImageDiffs.j0]
  rw [if_neg (by simp), bind_of e]
  simp only []
  rw [bind_of e2]
  simp only []
  rw [bind_of rfl]
  have s1 := diffs_step (a := a) (x := b) (t := [b, d]) (i := 0) (k := 1998) (by omega) (by omega) (by omega) rfl rfl (by omega)
  have s2 := diffs_step (a := a) (x := d) (t := [b, d]) (i := 1) (k := 1997) (by omega) (by omega) (by omega) rfl rfl (by omega)
  have s3 : rollbacknetlaw07_ImageDiffs.l0 1997 a [b, d] 2 2 = some true := by
    rw [rollbacknetlaw07_ImageDiffs.l0]
    rw [if_neg (by omega)]
  exact s1.trans (s2.trans s3)
end Go.Proofs.Ytkjnledamamniaa.Pure
