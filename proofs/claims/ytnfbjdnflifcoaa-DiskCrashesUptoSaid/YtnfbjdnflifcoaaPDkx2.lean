-- Laid by wip/tools/xprint.py, a program of this session over the kit's print: functions as Lean functions, each with its contract.
import Derived.Test.YtnfbjdnflifcoaaPDkx0
import Derived.Test.YtnfbjdnflifcoaaPDkx1
namespace Go.Proofs.Ytnfbjdnflifcoaa.PDk
open Go.RowKit Go.Proofs.YtnfbjdnflifcoaaW.PrintWords Go.Proofs.YtnfbjdnflifcoaaW.PrintLast Go.Proofs.YtnfbjdnflifcoaaW.PrintMore
attribute [local go_sem] max2_int min2_int max_two min_two max_three min_three max_four min_four   -- for this text's walks alone
set_option linter.unusedVariables false
set_option linter.unusedSimpArgs false

/-! ### disk_clone: function 24 -/
def disk_clone.l0 : Nat → Int → Int → List (S48) → List (S48) → Option ((List (S48)))
 | 0, _, _, _, _ => none
 | k + 1, x8, x9, x102000, x104000 => if x9 < x8 then (if 0 ≤ x9 then (if x9 < (x102000.length : Int) then ((slices_Clone_byte_byte.f ((rd_T48 x102000 x9).f0)).bind fun t106 => ((slices_Clone_byte_byte.f ((rd_T48 x102000 x9).f1)).bind fun t109 => (if x104000.length < 2932031007402 then (disk_clone.l0 k x8 (wrap64 (x9 + 1)) x102000 (x104000 ++ [(⟨t106, t109⟩ : S48)])) else (none)))) else (none)) else (none)) else (some x104000)
def disk_clone.f (k : Nat) (l0_0 : List (S48)) : Option ((List (S48))) := disk_clone.l0 k (l0_0.length : Int) 0 l0_0 ([] : List (S48))
theorem disk_clone.mono_l : ∀ k, (∀ y0 y1 y2 y3, LeO (disk_clone.l0 k y0 y1 y2 y3) (disk_clone.l0 (k + 1) y0 y1 y2 y3))
 | 0 => fun _ _ _ _ r h => by simp [disk_clone.l0] at h
 | k + 1 => by
  have ih0 := disk_clone.mono_l k
  ·intro y0 y1 y2 y3
   unfold disk_clone.l0
   repeat' first
   | (with_reducible exact ih0 _ _ _ _)
   | (with_reducible exact LeO.refl _)
   | (with_reducible exact LeO.none _)
   | (with_reducible refine LeO.ite ?_ ?_)
   | (with_reducible refine LeO.bind ?_ (fun _ => ?_))
   | exact ih0 _ _ _ _
   | exact LeO.none _
   | refine LeO.ite ?_ ?_
   | refine LeO.bind ?_ (fun _ => ?_)
theorem disk_clone.mono : ∀ a0 k, LeO (disk_clone.f k a0) (disk_clone.f (k + 1) a0) := by
 intro a0 k
 have ih0 := disk_clone.mono_l k
 unfold disk_clone.f
 repeat' first
   | (with_reducible exact ih0 _ _ _ _)
   | (with_reducible exact LeO.refl _)
   | (with_reducible exact LeO.none _)
   | (with_reducible refine LeO.ite ?_ ?_)
   | (with_reducible refine LeO.bind ?_ (fun _ => ?_))
   | exact ih0 _ _ _ _
   | exact LeO.none _
   | refine LeO.ite ?_ ?_
   | refine LeO.bind ?_ (fun _ => ?_)
def disk_clone.T6 : Bool × List (List Nat × List Nat) := (true, [([], []), ([0], [0]), ([], []), ([2], [2]), ([3], [3]), ([], []), ([5], [5]), ([6, 4], [6]), ([4, 7], [4, 7]), ([8], [8]), ([1, 9, 7], [1, 9]), ([0, 1, 2, 3, 4, 5, 6, 7, 8, 9, 10], []), ([11, 10, 10, 0, 1, 2, 3, 4, 5, 6, 7, 8, 9, 10], [10, 11])])
def disk_clone.B6 : List Nat := [0, 1, 0, 4, 12, 0, 32, 124, 252, 508, 1023, 2047, 4095]
theorem disk_clone.tab6 : rtab .any (opsOf Try.f24 6) = disk_clone.T6 := by kernel_rfl
theorem disk_clone.bits6 : waitsOk disk_clone.T6.2 disk_clone.B6 = true := by kernel_rfl
set_option maxHeartbeats 8000000 in
set_option maxRecDepth 100000 in
theorem disk_clone.calls (k : Nat) (A0_0 : Option Addr) (c0_0 : Nat) (l0_0 : List (S48)) (r : List (S48)) (w : World) (hr0_0 : Kd.C k48 w A0_0 l0_0.length l0_0) (hc0_0 : l0_0.length ≤ c0_0) (h : disk_clone.f k l0_0 = some r) :
  Calls Try.prog 24 #[.agg #[.slice A0_0 l0_0.length c0_0]] w fun e w' => ∃ v0_ : Value, e = .returned (.agg #[v0_]) ∧ Kd.S k48 48 w' w.heap.size (fun _ => True) v0_ r ∧ Below w.heap.size w w' := by
 have hu24 := Try.underlying24
 have hu48 := Try.underlying48
 have HR0_0 := aM hr0_0
 have HC0_0 := aM hc0_0
 clear hr0_0 hc0_0
 have HB := aM (Below.refl w.heap.size w)
 have H : (disk_clone.l0 k (l0_0.length : Int) 0 l0_0 ([] : List (S48))) = some r := h
 clear h
 have H' := aM H
 clear H
 go_enter Try.func24, Try.ntmps24
 go_wp2_with (first | ((with_reducible refine gate_dst (N := 1) rfl ?_); refine box_event ?hg (N := 1) ?hd (cs := #[.slice A0_0 l0_0.length c0_0]) (t := 24) ?hr ?_; (case hd => rfl); (case hg => rfl); (case hr => first | (go_simp; done) | (go_simp; rfl)); intro gb101 hg w2 hbox hb; have n0_ := aM (below_step (by repeat (first | (with_reducible first | exact HB.out | apply wA | apply wN | apply wD) | exact HB.out)) hb); have n1_ := aM (hbox); have n2_ := aM ((by rw [hg]; exact (below_size (by repeat (first | (with_reducible first | exact HB.out | apply wA | apply wN | apply wD) | exact HB.out))) : w.heap.size ≤ gb101)); have n3_ := aM ((by rw [hg]; exact (below_size (by repeat (first | (with_reducible first | exact HB.out | apply wA | apply wN | apply wD) | exact HB.out))) : w.heap.size ≤ gb101)); clear HB; have HB := n0_; have BK101 := n1_; have GW101 := n2_; have GE101 := n3_; clear n0_ n1_ n2_ n3_; clear hb hbox hg) | ((with_reducible refine gate_dst (N := 2) rfl ?_); refine box_event ?hg (N := 2) ?hd (cs := #[.slice none 0 0]) (t := 24) ?hr ?_; (case hd => rfl); (case hg => rfl); (case hr => first | (go_simp; done) | (go_simp; rfl)); intro gb102 hg w3 hbox hb; have n0_ := aM (blk_below (g := gb101) (o := .cells #[.slice A0_0 l0_0.length c0_0] 24 (0, 0)) (by (with_reducible repeat (first | refine bN ?_ _ | refine bD ?_ | refine bA ?_ _)); exact BK101.out) hb); have n1_ := aM (below_step (by repeat (first | (with_reducible first | exact HB.out | apply wA | apply wN | apply wD | refine below_set ?_ GE101.out) | exact HB.out)) hb); have n2_ := aM (hbox); have n3_ := aM ((by rw [hg]; exact (below_size (by repeat (first | (with_reducible first | exact HB.out | apply wA | apply wN | apply wD | refine below_set ?_ GE101.out) | exact HB.out))) : w.heap.size ≤ gb102)); have n4_ := aM ((by rw [hg]; exact (below_size (by repeat (first | (with_reducible first | exact HB.out | apply wA | apply wN | apply wD | refine below_set ?_ GE101.out) | exact HB.out))) : w.heap.size ≤ gb102)); have n5_ := aM ((by rw [hg]; exact Nat.ne_of_lt (blk_lt (g := gb101) (o := .cells #[.slice A0_0 l0_0.length c0_0] 24 (0, 0)) (by (with_reducible repeat (first | refine bN ?_ _ | refine bD ?_ | refine bA ?_ _)); exact BK101.out)) : gb101 ≠ gb102)); have n6_ := aM ((by rw [hg]; exact Nat.ne_of_gt (blk_lt (g := gb101) (o := .cells #[.slice A0_0 l0_0.length c0_0] 24 (0, 0)) (by (with_reducible repeat (first | refine bN ?_ _ | refine bD ?_ | refine bA ?_ _)); exact BK101.out)) : gb102 ≠ gb101)); clear BK101; clear HB; have BK101 := n0_; have HB := n1_; have BK102 := n2_; have GW102 := n3_; have GE102 := n4_; have NB101_102 := n5_; have NB102_101 := n6_; clear n0_ n1_ n2_ n3_ n4_ n5_ n6_; clear hb hbox hg) | ((with_reducible refine gate_dst (N := 3) rfl ?_); refine box_event ?hg (N := 3) ?hd (cs := #[.slice none 0 0]) (t := 24) ?hr ?_; (case hd => rfl); (case hg => rfl); (case hr => first | (go_simp; done) | (go_simp; rfl)); intro gb103 hg w4 hbox hb; have n0_ := aM (blk_below (g := gb101) (o := .cells #[.slice A0_0 l0_0.length c0_0] 24 (0, 0)) (by (with_reducible repeat (first | refine bN ?_ _ | refine bD ?_ | refine bA ?_ _)); exact BK101.out) hb); have n1_ := aM (blk_below (g := gb102) (o := .cells #[.slice none 0 0] 24 (0, 0)) (by (with_reducible repeat (first | refine bN ?_ _ | refine bD ?_ | refine bA ?_ _)); exact BK102.out) hb); have n2_ := aM (below_step (by repeat (first | (with_reducible first | exact HB.out | apply wA | apply wN | apply wD | refine below_set ?_ GE101.out | refine below_set ?_ GE102.out) | exact HB.out)) hb); have n3_ := aM (hbox); have n4_ := aM ((by rw [hg]; exact (below_size (by repeat (first | (with_reducible first | exact HB.out | apply wA | apply wN | apply wD | refine below_set ?_ GE101.out | refine below_set ?_ GE102.out) | exact HB.out))) : w.heap.size ≤ gb103)); have n5_ := aM ((by rw [hg]; exact (below_size (by repeat (first | (with_reducible first | exact HB.out | apply wA | apply wN | apply wD | refine below_set ?_ GE101.out | refine below_set ?_ GE102.out) | exact HB.out))) : w.heap.size ≤ gb103)); have n6_ := aM ((by rw [hg]; exact Nat.ne_of_lt (blk_lt (g := gb101) (o := .cells #[.slice A0_0 l0_0.length c0_0] 24 (0, 0)) (by (with_reducible repeat (first | refine bN ?_ _ | refine bD ?_ | refine bA ?_ _)); exact BK101.out)) : gb101 ≠ gb103)); have n7_ := aM ((by rw [hg]; exact Nat.ne_of_gt (blk_lt (g := gb101) (o := .cells #[.slice A0_0 l0_0.length c0_0] 24 (0, 0)) (by (with_reducible repeat (first | refine bN ?_ _ | refine bD ?_ | refine bA ?_ _)); exact BK101.out)) : gb103 ≠ gb101)); have n8_ := aM ((by rw [hg]; exact Nat.ne_of_lt (blk_lt (g := gb102) (o := .cells #[.slice none 0 0] 24 (0, 0)) (by (with_reducible repeat (first | refine bN ?_ _ | refine bD ?_ | refine bA ?_ _)); exact BK102.out)) : gb102 ≠ gb103)); have n9_ := aM ((by rw [hg]; exact Nat.ne_of_gt (blk_lt (g := gb102) (o := .cells #[.slice none 0 0] 24 (0, 0)) (by (with_reducible repeat (first | refine bN ?_ _ | refine bD ?_ | refine bA ?_ _)); exact BK102.out)) : gb103 ≠ gb102)); clear BK101; clear BK102; clear HB; have BK101 := n0_; have BK102 := n1_; have HB := n2_; have BK103 := n3_; have GW103 := n4_; have GE103 := n5_; have NB101_103 := n6_; have NB103_101 := n7_; have NB102_103 := n8_; have NB103_102 := n9_; clear n0_ n1_ n2_ n3_ n4_ n5_ n6_ n7_ n8_ n9_; clear hb hbox hg; have hnb5 := NB101_102.out; have hnc5 := NB102_101.out; have hnb6 := NB101_103.out; have hnc6 := NB103_101.out; have hcz7_0 : w4.cell? ⟨gb101, 0, none⟩ = some (.slice A0_0 l0_0.length c0_0) := (blk_cell BK101.out 0).trans rfl; have hfz7_0 := blk_frozen BK101.out 0))
 go_loopg [9] k (fun kq v9 w' => ∃ (x9_1 : Int) (x104000_1 : List (S48)) (u104000 : Value), v9 = .int .i64 x9_1 ∧ Aside0 (disk_clone.l0 kq (l0_0.length : Int) x9_1 l0_0 x104000_1 = some r) ∧ Aside0 (kq ≤ k) ∧ Aside0 (Kd.S k48 48 w' w.heap.size (fun _ => True) u104000 x104000_1) ∧ Aside0 (w'.heap[gb101]? = some (.cells #[(.slice A0_0 l0_0.length c0_0)] 24 (0, 0))) ∧ Aside0 (w'.heap[gb102]? = some (.cells #[(.slice none 0 0)] 24 (0, 0))) ∧ Aside0 (w'.heap[gb103]? = some (.cells #[u104000] 24 (0, 0))) ∧ Aside0 (Below w.heap.size w w'))
 case atStart => exact ⟨(0), (([] : List (S48))), (.slice none 0 0), (by first | rfl | (simp; done) | (simp [*]; done)), H', ⟨Nat.le_refl _⟩, ⟨by first | exact Kd.S_nil _ _ _ _ _ | exact Kd.N_nil _ _ _ _ _ | exact Kd.V_nil _ _ _ _ _ | exact Kd.Q_nil _ _ _ _ _ | exact Kd.R_nil _ _ _ _ _⟩, ⟨by (with_reducible repeat (first | refine bN ?_ _ | refine bD ?_ | refine bA ?_ _)); exact BK101.out⟩, ⟨by (with_reducible repeat (first | refine bN ?_ _ | refine bD ?_ | refine bA ?_ _)); exact BK102.out⟩, ⟨by (with_reducible repeat (first | refine bN ?_ _ | refine bD ?_ | refine bA ?_ _)); exact BK103.out⟩, ⟨by repeat (first | (with_reducible first | exact HB.out | apply wA | apply wN | apply wD | refine below_set ?_ GE101.out | refine below_set ?_ GE102.out | refine below_set ?_ GE103.out) | exact HB.out)⟩⟩
 case round =>
  clear H'
  try clear c2
  try clear p2
  try clear c5
  try clear c6
  try clear hcz7_0
  try clear hfz7_0
  obtain ⟨x9_1, x104000_1, u104000, rfl, HA, HK1, HO_104000, BK101, BK102, BK103, HB⟩ := hrel
  cases gk with
  | zero => exact absurd HA.out (by simp [disk_clone.l0])
  | succ k1 =>
   have H := HA.out
   clear HA
   simp only [disk_clone.l0] at H
   by_cases c8 : x9_1 < (l0_0.length : Int)
   ·rw [if_pos c8] at H
    have c8b0 : decide (x9_1 < (l0_0.length : Int)) = true := decide_eq_true c8
    clear c8
    by_cases c9 : 0 ≤ x9_1
    ·rw [if_pos c9] at H
     have c9b0 : decide (0 ≤ x9_1) = true := decide_eq_true c9
     clear c9
     by_cases c10 : x9_1 < (l0_0.length : Int)
     ·rw [if_pos c10] at H
      have c10b0 : decide (x9_1 < (l0_0.length : Int)) = true := decide_eq_true c10
      clear c10
      replace H := Option.bind_eq_some_iff.mp H
      obtain ⟨t106, A110, H⟩ := H
      replace H : ((slices_Clone_byte_byte.f ((rd_T48 l0_0 x9_1).f1)).bind fun t109 => (if x104000_1.length < 2932031007402 then (disk_clone.l0 k1 (l0_0.length : Int) (wrap64 (x9_1 + 1)) l0_0 (x104000_1 ++ [(⟨t106, t109⟩ : S48)])) else (none))) = some r := H
      have A11 := aM A110
      clear A110
      replace H := Option.bind_eq_some_iff.mp H
      obtain ⟨t109, A120, H⟩ := H
      replace H : (if x104000_1.length < 2932031007402 then (disk_clone.l0 k1 (l0_0.length : Int) (wrap64 (x9_1 + 1)) l0_0 (x104000_1 ++ [(⟨t106, t109⟩ : S48)])) else (none)) = some r := H
      have A12 := aM A120
      clear A120
      by_cases c13 : x104000_1.length < 2932031007402
      ·rw [if_pos c13] at H
       have LMc13 := aM c13
       clear c13
       obtain ⟨y112, hy112⟩ : ∃ y_ : List (S48), y_ = (x104000_1 ++ [(⟨t106, t109⟩ : S48)]) := ⟨_, rfl⟩
       replace H : (disk_clone.l0 k1 (l0_0.length : Int) (wrap64 (x9_1 + 1)) l0_0 y112) = some r := by first | (rw [hy112]; with_reducible exact H) | (have H2_ := (Option.bind_some _ _).symm.trans H; rw [hy112]; with_reducible exact H2_) | (have H2_ := (Option.bind_some _ _).symm.trans H; with_reducible exact H2_) | with_reducible exact H | (rw [hy112]; exact H) | exact H
       have Ny112 := aM hy112
       clear hy112
       have H' := aM H
       clear H
       have hnb14 := NB101_102.out
       have hnc14 := NB102_101.out
       have hnb15 := NB101_103.out
       have hnc15 := NB103_101.out
       have hcz16_0 : wr.cell? ⟨gb101, 0, none⟩ = some (.slice A0_0 l0_0.length c0_0) := (blk_cell BK101.out 0).trans rfl
       have hfz16_0 := blk_frozen BK101.out 0
       have p104 : 0 ≤ (x9_1 : Int) := of_decide_eq_true (by first | (with_reducible assumption) | assumption)
       have q104 : x9_1 < (l0_0.length : Int) := of_decide_eq_true (by first | (with_reducible assumption) | assumption)
       obtain ⟨ad104, A104_0, c104_0, A104_1, c104_1, e104, hx104_0, hx104_1, hl104_0, hi104_0, hl104_1, hi104_1⟩ := at_T48 HR0_0.out x9_1 p104 q104
       cases e104
       replace hx104_0 := (HB.out.cell (World.block_lt_of_cell? w _ hx104_0)).trans hx104_0
       replace hx104_1 := (HB.out.cell (World.block_lt_of_cell? w _ hx104_1)).trans hx104_1
       have HR104_0 := aM hi104_0
       have HC104_0 := aM hl104_0
       clear hi104_0 hl104_0
       have HR104_1 := aM hi104_1
       have HC104_1 := aM hl104_1
       clear hi104_1 hl104_1
       replace p104 := eq_true p104
       replace q104 := eq_true q104
       try go_wp2_with (first | ((with_reducible refine gate_dst (N := 5) rfl ?_); refine box_event ?hg (N := 5) ?hd (cs := #[.slice none 0 0, .slice none 0 0]) (t := 48) ?hr ?_; (case hd => rfl); (case hg => rfl); (case hr => first | (go_simp; done) | (go_simp; rfl)); intro gb105 hg w17 hbox hb; have n0_ := aM (Kd.S_below (Kd.S_elderB (by (with_reducible repeat (first | apply Kd.S_alloc | apply Kd.S_drewN | apply Kd.S_drew)); exact HO_104000.out) gb105 (Nat.le_of_eq hg.symm)) hb); have n1_ := aM (blk_below (g := gb101) (o := .cells #[.slice (some ad104) l0_0.length c0_0] 24 (0, 0)) (by (with_reducible repeat (first | refine bN ?_ _ | refine bD ?_ | refine bA ?_ _)); exact BK101.out) hb); have n2_ := aM (blk_below (g := gb102) (o := .cells #[.slice none 0 0] 24 (0, 0)) (by (with_reducible repeat (first | refine bN ?_ _ | refine bD ?_ | refine bA ?_ _)); exact BK102.out) hb); have n3_ := aM (blk_below (g := gb103) (o := .cells #[u104000] 24 (0, 0)) (by (with_reducible repeat (first | refine bN ?_ _ | refine bD ?_ | refine bA ?_ _)); exact BK103.out) hb); have n4_ := aM (below_step (by repeat (first | (with_reducible first | exact HB.out | apply wA | apply wN | apply wD | refine below_set ?_ GE101.out | refine below_set ?_ GE102.out | refine below_set ?_ GE103.out) | exact HB.out)) hb); have n5_ := aM (hbox); have n6_ := aM ((by rw [hg]; exact (below_size (by repeat (first | (with_reducible first | exact HB.out | apply wA | apply wN | apply wD | refine below_set ?_ GE101.out | refine below_set ?_ GE102.out | refine below_set ?_ GE103.out) | exact HB.out))) : w.heap.size ≤ gb105)); have n7_ := aM ((by rw [hg]; exact (below_size (by repeat (first | (with_reducible first | exact HB.out | apply wA | apply wN | apply wD | refine below_set ?_ GE101.out | refine below_set ?_ GE102.out | refine below_set ?_ GE103.out) | exact HB.out))) : w.heap.size ≤ gb105)); have n8_ := aM ((by rw [hg]; exact Nat.ne_of_lt (blk_lt (g := gb101) (o := .cells #[.slice (some ad104) l0_0.length c0_0] 24 (0, 0)) (by (with_reducible repeat (first | refine bN ?_ _ | refine bD ?_ | refine bA ?_ _)); exact BK101.out)) : gb101 ≠ gb105)); have n9_ := aM ((by rw [hg]; exact Nat.ne_of_gt (blk_lt (g := gb101) (o := .cells #[.slice (some ad104) l0_0.length c0_0] 24 (0, 0)) (by (with_reducible repeat (first | refine bN ?_ _ | refine bD ?_ | refine bA ?_ _)); exact BK101.out)) : gb105 ≠ gb101)); have n10_ := aM ((by rw [hg]; exact Nat.ne_of_lt (blk_lt (g := gb102) (o := .cells #[.slice none 0 0] 24 (0, 0)) (by (with_reducible repeat (first | refine bN ?_ _ | refine bD ?_ | refine bA ?_ _)); exact BK102.out)) : gb102 ≠ gb105)); have n11_ := aM ((by rw [hg]; exact Nat.ne_of_gt (blk_lt (g := gb102) (o := .cells #[.slice none 0 0] 24 (0, 0)) (by (with_reducible repeat (first | refine bN ?_ _ | refine bD ?_ | refine bA ?_ _)); exact BK102.out)) : gb105 ≠ gb102)); have n12_ := aM ((by rw [hg]; exact Nat.ne_of_lt (blk_lt (g := gb103) (o := .cells #[u104000] 24 (0, 0)) (by (with_reducible repeat (first | refine bN ?_ _ | refine bD ?_ | refine bA ?_ _)); exact BK103.out)) : gb103 ≠ gb105)); have n13_ := aM ((by rw [hg]; exact Nat.ne_of_gt (blk_lt (g := gb103) (o := .cells #[u104000] 24 (0, 0)) (by (with_reducible repeat (first | refine bN ?_ _ | refine bD ?_ | refine bA ?_ _)); exact BK103.out)) : gb105 ≠ gb103)); clear HO_104000; clear BK101; clear BK102; clear BK103; clear HB; have HO_104000 := n0_; have BK101 := n1_; have BK102 := n2_; have BK103 := n3_; have HB := n4_; have BK105 := n5_; have GW105 := n6_; have GE105 := n7_; have NB101_105 := n8_; have NB105_101 := n9_; have NB102_105 := n10_; have NB105_102 := n11_; have NB103_105 := n12_; have NB105_103 := n13_; clear n0_ n1_ n2_ n3_ n4_ n5_ n6_ n7_ n8_ n9_ n10_ n11_ n12_ n13_; clear hb hbox hg; have hnb18 := NB105_101.out; have hnc18 := NB101_105.out; have hnb19 := NB105_102.out; have hnc19 := NB102_105.out; have hnb20 := NB105_103.out; have hnc20 := NB103_105.out; have hcz21_0 : w17.cell? ⟨gb105, 0, none⟩ = some (.slice none 0 0) := (blk_cell BK105.out 0).trans rfl; have hcz21_1 : w17.cell? ⟨gb105, 1, none⟩ = some (.slice none 0 0) := (blk_cell BK105.out 1).trans rfl; have hfz21_0 := blk_frozen BK105.out 0; have hfz21_1 := blk_frozen BK105.out 1))
       have n0_ : Aside0 (Kd.S k48 48 ((w17.setCell ⟨gb105, 0, none⟩ (.slice A104_0 ((rd_T48 l0_0 x9_1).f0).length c104_0)).setCell ⟨gb105, 1, none⟩ (.slice A104_1 ((rd_T48 l0_0 x9_1).f1).length c104_1)) w.heap.size (fun k_ => k_ ≠ gb105) u104000 x104000_1) := ⟨by (with_reducible repeat (first | apply Kd.S_alloc | apply Kd.S_drewN | apply Kd.S_drew)); exact Kd.S_mono (Kd.S_far (p := ⟨gb105, 1, none⟩) (Kd.S_far (p := ⟨gb105, 0, none⟩) (Kd.S_mono HO_104000.out (fun k_ hk => (⟨hk, hk.2⟩ : _ ∧ k_ ≠ gb105))) (fun _ hk => hk.2) (.slice A104_0 ((rd_T48 l0_0 x9_1).f0).length c104_0)) (fun _ hk => hk.2) (.slice A104_1 ((rd_T48 l0_0 x9_1).f1).length c104_1)) (fun _ hk => hk.1.2)⟩
       have n1_ : Aside0 (((w17.setCell ⟨gb105, 0, none⟩ (.slice A104_0 ((rd_T48 l0_0 x9_1).f0).length c104_0)).setCell ⟨gb105, 1, none⟩ (.slice A104_1 ((rd_T48 l0_0 x9_1).f1).length c104_1)).heap[gb101]? = some (.cells #[.slice (some ad104) l0_0.length c0_0] 24 (0, 0))) := ⟨by (with_reducible repeat (first | refine bN ?_ _ | refine bD ?_ | refine bA ?_ _)); refine blk_far ?_ NB101_105.out _; (with_reducible repeat (first | refine bN ?_ _ | refine bD ?_ | refine bA ?_ _)); refine blk_far ?_ NB101_105.out _; (with_reducible repeat (first | refine bN ?_ _ | refine bD ?_ | refine bA ?_ _)); exact BK101.out⟩
       have n2_ : Aside0 (((w17.setCell ⟨gb105, 0, none⟩ (.slice A104_0 ((rd_T48 l0_0 x9_1).f0).length c104_0)).setCell ⟨gb105, 1, none⟩ (.slice A104_1 ((rd_T48 l0_0 x9_1).f1).length c104_1)).heap[gb102]? = some (.cells #[.slice none 0 0] 24 (0, 0))) := ⟨by (with_reducible repeat (first | refine bN ?_ _ | refine bD ?_ | refine bA ?_ _)); refine blk_far ?_ NB102_105.out _; (with_reducible repeat (first | refine bN ?_ _ | refine bD ?_ | refine bA ?_ _)); refine blk_far ?_ NB102_105.out _; (with_reducible repeat (first | refine bN ?_ _ | refine bD ?_ | refine bA ?_ _)); exact BK102.out⟩
       have n3_ : Aside0 (((w17.setCell ⟨gb105, 0, none⟩ (.slice A104_0 ((rd_T48 l0_0 x9_1).f0).length c104_0)).setCell ⟨gb105, 1, none⟩ (.slice A104_1 ((rd_T48 l0_0 x9_1).f1).length c104_1)).heap[gb103]? = some (.cells #[u104000] 24 (0, 0))) := ⟨by (with_reducible repeat (first | refine bN ?_ _ | refine bD ?_ | refine bA ?_ _)); refine blk_far ?_ NB103_105.out _; (with_reducible repeat (first | refine bN ?_ _ | refine bD ?_ | refine bA ?_ _)); refine blk_far ?_ NB103_105.out _; (with_reducible repeat (first | refine bN ?_ _ | refine bD ?_ | refine bA ?_ _)); exact BK103.out⟩
       have n4_ : Aside0 (((w17.setCell ⟨gb105, 0, none⟩ (.slice A104_0 ((rd_T48 l0_0 x9_1).f0).length c104_0)).setCell ⟨gb105, 1, none⟩ (.slice A104_1 ((rd_T48 l0_0 x9_1).f1).length c104_1)).heap[gb105]? = some (.cells #[.slice A104_0 ((rd_T48 l0_0 x9_1).f0).length c104_0, .slice A104_1 ((rd_T48 l0_0 x9_1).f1).length c104_1] 48 (0, 0))) := ⟨by (with_reducible repeat (first | refine bN ?_ _ | refine bD ?_ | refine bA ?_ _)); refine blk_put (cs := #[.slice A104_0 ((rd_T48 l0_0 x9_1).f0).length c104_0, .slice none 0 0]) ?_ 1 _ rfl; (with_reducible repeat (first | refine bN ?_ _ | refine bD ?_ | refine bA ?_ _)); refine blk_put (cs := #[.slice none 0 0, .slice none 0 0]) ?_ 0 _ rfl; (with_reducible repeat (first | refine bN ?_ _ | refine bD ?_ | refine bA ?_ _)); exact BK105.out⟩
       have n5_ : Aside0 (Below w.heap.size w ((w17.setCell ⟨gb105, 0, none⟩ (.slice A104_0 ((rd_T48 l0_0 x9_1).f0).length c104_0)).setCell ⟨gb105, 1, none⟩ (.slice A104_1 ((rd_T48 l0_0 x9_1).f1).length c104_1))) := ⟨by repeat (first | (with_reducible first | exact HB.out | apply wA | apply wN | apply wD | refine below_set ?_ GE101.out | refine below_set ?_ GE102.out | refine below_set ?_ GE103.out | refine below_set ?_ GE105.out) | exact HB.out)⟩
       (try clear HO_104000)
       (try clear BK101)
       (try clear BK102)
       (try clear BK103)
       (try clear BK105)
       (try clear HB)
       generalize ((w17.setCell ⟨gb105, 0, none⟩ (.slice A104_0 ((rd_T48 l0_0 x9_1).f0).length c104_0)).setCell ⟨gb105, 1, none⟩ (.slice A104_1 ((rd_T48 l0_0 x9_1).f1).length c104_1)) = w22 at n0_ n1_ n2_ n3_ n4_ n5_ ⊢
       have HO_104000 := n0_
       have BK101 := n1_
       have BK102 := n2_
       have BK103 := n3_
       have BK105 := n4_
       have HB := n5_
       clear n0_ n1_ n2_ n3_ n4_ n5_
       have n0_ := aM (Kd.S_drew HO_104000.out)
       have n1_ := aM (bD BK101.out)
       have n2_ := aM (bD BK102.out)
       have n3_ := aM (bD BK103.out)
       have n4_ := aM (bD BK105.out)
       have n5_ := aM (wD HB.out)
       clear HO_104000
       clear BK101
       clear BK102
       clear BK103
       clear BK105
       clear HB
       have HO_104000 := n0_
       have BK101 := n1_
       have BK102 := n2_
       have BK103 := n3_
       have BK105 := n4_
       have HB := n5_
       clear n0_ n1_ n2_ n3_ n4_ n5_
       refine start_ (n := 13) (S := fun w' => w'.cell? ⟨gb103, 0, none⟩ = some (u104000) ∧ w'.cell? ⟨gb105, 0, none⟩ = some (.slice A104_0 ((rd_T48 l0_0 x9_1).f0).length c104_0) ∧ w'.cell? ⟨gb105, 1, none⟩ = some (.slice A104_1 ((rd_T48 l0_0 x9_1).f1).length c104_1)) (ds := [12]) #[false, false, false, false, false, false, false, false, false, false, false, false, false] (by kernel_rfl) rfl rfl ⟨(blk_cell BK103.out 0).trans rfl, (blk_cell BK105.out 0).trans rfl, (blk_cell BK105.out 1).trans rfl⟩ (fun hHeld => ?_); refine with_tabW disk_clone.tab6 disk_clone.bits6 (fun HT_ HW_ => ?_)
       generalize w22.drew = w23 at HO_104000 BK101 BK102 BK103 BK105 HB hHeld ⊢
       refine pure_ (i := 0) (N := some 17) (v := ?_) (a' := ?_) #[true, false, false, false, false, false, false, false, false, false, false, false, false] rfl rfl (any_of HT_.out (by kernel_rfl)) (fun _ _ _ h => h) (Or.inl ⟨by rfl, ?_⟩) ?_ ?_
       rotate_left
       ·intro w'
        go_simp
        with_reducible rfl
       rotate_left
       ·simp only [Act.put, List.setIfInBounds_toArray, List.set_cons_zero, List.set_cons_succ, i64_w, i32_w]
        rfl
       refine pure_ (i := 2) (N := some 19) (v := ?_) (a' := ?_) #[true, false, true, false, false, false, false, false, false, false, false, false, false] rfl rfl (any_of HT_.out (by kernel_rfl)) (fun _ _ _ h => h) (Or.inl ⟨by rfl, ?_⟩) ?_ ?_
       rotate_left
       ·intro w'
        go_simp
        with_reducible rfl
       rotate_left
       ·simp only [Act.put, List.setIfInBounds_toArray, List.set_cons_zero, List.set_cons_succ, i64_w, i32_w]
        rfl
       refine pure_ (i := 5) (N := some 22) (v := ?_) (a' := ?_) #[true, false, true, false, false, true, false, false, false, false, false, false, false] rfl rfl (any_of HT_.out (by kernel_rfl)) (fun _ _ _ h => h) (Or.inl ⟨by rfl, ?_⟩) ?_ ?_
       rotate_left
       ·intro w'
        go_simp
        with_reducible rfl
       rotate_left
       ·simp only [Act.put, List.setIfInBounds_toArray, List.set_cons_zero, List.set_cons_succ, i64_w, i32_w]
        rfl
       refine take_ (i := 1) (N := some 18) (v := ?_) (a' := ?_) #[true, true, true, false, false, true, false, false, false, false, false, false, false] rfl rfl (take_ofW HT_.out HW_.out (by kernel_rfl)) (fun _ _ _ h => h) (Or.inl ⟨by rfl, ?_⟩) hHeld ?_ ?_
       rotate_left
       ·rintro w' ⟨s0, s1, s2⟩
        go_simp
        with_reducible rfl
       rotate_left
       ·simp only [Act.put, List.setIfInBounds_toArray, List.set_cons_zero, List.set_cons_succ, i64_w, i32_w]
        rfl
       refine take_ (i := 3) (N := some 20) (v := ?_) (a' := ?_) #[true, true, true, true, false, true, false, false, false, false, false, false, false] rfl rfl (take_ofW HT_.out HW_.out (by kernel_rfl)) (fun _ _ _ h => h) (Or.inl ⟨by rfl, ?_⟩) hHeld ?_ ?_
       rotate_left
       ·rintro w' ⟨s0, s1, s2⟩
        go_simp
        with_reducible rfl
       rotate_left
       ·simp only [Act.put, List.setIfInBounds_toArray, List.set_cons_zero, List.set_cons_succ, i64_w, i32_w]
        rfl
       refine take_ (i := 6) (N := some 23) (v := ?_) (a' := ?_) #[true, true, true, true, false, true, true, false, false, false, false, false, false] rfl rfl (take_ofW HT_.out HW_.out (by kernel_rfl)) (fun _ _ _ h => h) (Or.inl ⟨by rfl, ?_⟩) hHeld ?_ ?_
       rotate_left
       ·rintro w' ⟨s0, s1, s2⟩
        go_simp
        with_reducible rfl
       rotate_left
       ·simp only [Act.put, List.setIfInBounds_toArray, List.set_cons_zero, List.set_cons_succ, i64_w, i32_w]
        rfl
       refine one_ (i := 4) (N := some 21) #[true, true, true, true, true, true, true, false, false, false, false, false, false] rfl rfl (one_of HT_.out (by kernel_rfl)) (by decide) (fun K hK => ?_)
       refine goes_ Try.func30 (by kernel_rfl) rfl #[.slice A104_0 ((rd_T48 l0_0 x9_1).f0).length c104_0] (by rfl) rfl rfl (by (try simp only [List.map_toArray, List.map_cons, List.map_nil]); first | done | rfl | (simp only [List.length_drop, List.length_take]; rfl)) ?_
       with_reducible refine (slices_Clone_byte_byte.calls _ _ ((rd_T48 l0_0 x9_1).f0) t106 _ ?side1 ?side2 A11.out).mono ?_
       (case side1 => repeat (first | exact (Kd.C_below HR104_0.out HB.out) | (with_reducible refine Kd.C_alloc ?_ _) | (with_reducible refine Kd.C_drewN ?_ _) | (with_reducible refine Kd.C_drew ?_)))
       (case side2 => exact HC104_0.out)
       rintro e w24 ⟨v107, rfl, ho0, hb⟩
       refine ⟨_, rfl, ?_⟩
       have n0_ := aM (Kd.S_elder' (by (with_reducible repeat (first | apply Kd.S_alloc | apply Kd.S_drewN | apply Kd.S_drew)); exact HO_104000.out) (Kd.R_base ho0) hb)
       have n1_ := aM (Kd.R_lower ho0 (below_size (by repeat (first | (with_reducible first | exact HB.out | apply wA | apply wN | apply wD | refine below_set ?_ GE101.out | refine below_set ?_ GE102.out | refine below_set ?_ GE103.out | refine below_set ?_ GE105.out) | exact HB.out))))
       have n2_ := aM (blk_below (g := gb101) (o := .cells #[.slice (some ad104) l0_0.length c0_0] 24 (0, 0)) (by (with_reducible repeat (first | refine bN ?_ _ | refine bD ?_ | refine bA ?_ _)); exact BK101.out) hb)
       have n3_ := aM (blk_below (g := gb102) (o := .cells #[.slice none 0 0] 24 (0, 0)) (by (with_reducible repeat (first | refine bN ?_ _ | refine bD ?_ | refine bA ?_ _)); exact BK102.out) hb)
       have n4_ := aM (blk_below (g := gb103) (o := .cells #[u104000] 24 (0, 0)) (by (with_reducible repeat (first | refine bN ?_ _ | refine bD ?_ | refine bA ?_ _)); exact BK103.out) hb)
       have n5_ := aM (blk_below (g := gb105) (o := .cells #[.slice A104_0 ((rd_T48 l0_0 x9_1).f0).length c104_0, .slice A104_1 ((rd_T48 l0_0 x9_1).f1).length c104_1] 48 (0, 0)) (by (with_reducible repeat (first | refine bN ?_ _ | refine bD ?_ | refine bA ?_ _)); exact BK105.out) hb)
       have n6_ := aM (below_step (by repeat (first | (with_reducible first | exact HB.out | apply wA | apply wN | apply wD | refine below_set ?_ GE101.out | refine below_set ?_ GE102.out | refine below_set ?_ GE103.out | refine below_set ?_ GE105.out) | exact HB.out)) hb)
       clear HO_104000
       clear BK101
       clear BK102
       clear BK103
       clear BK105
       clear HB
       have HO_104000 := n0_
       have HO108 := n1_
       have BK101 := n2_
       have BK102 := n3_
       have BK103 := n4_
       have BK105 := n5_
       have HB := n6_
       clear n0_ n1_ n2_ n3_ n4_ n5_ n6_
       (try clear hb)
       (try clear hb2)
       (try clear hk)
       (try clear hi)
       (try clear ho0)
       refine hK.out _ _ ⟨(blk_cell BK103.out 0).trans rfl, (blk_cell BK105.out 0).trans rfl, (blk_cell BK105.out 1).trans rfl⟩ (fun hHeld => ?_)
       clear hK K
       refine norm_ (a' := ?_) ?_ ?_
       rotate_left
       ·show Act.put _ (some 21) _ = _
        simp only [Act.put, List.setIfInBounds_toArray, List.set_cons_zero, List.set_cons_succ, i64_w, i32_w]
        rfl
       refine one_ (i := 7) (N := some 24) #[true, true, true, true, true, true, true, true, false, false, false, false, false] rfl rfl (one_of HT_.out (by kernel_rfl)) (by decide) (fun K hK => ?_)
       refine goes_ Try.func30 (by kernel_rfl) rfl #[.slice A104_1 ((rd_T48 l0_0 x9_1).f1).length c104_1] (by rfl) rfl rfl (by (try simp only [List.map_toArray, List.map_cons, List.map_nil]); first | done | rfl | (simp only [List.length_drop, List.length_take]; rfl)) ?_
       with_reducible refine (slices_Clone_byte_byte.calls _ _ ((rd_T48 l0_0 x9_1).f1) t109 _ ?side1 ?side2 A12.out).mono ?_
       (case side1 => repeat (first | exact (Kd.C_below HR104_1.out HB.out) | (with_reducible refine Kd.C_alloc ?_ _) | (with_reducible refine Kd.C_drewN ?_ _) | (with_reducible refine Kd.C_drew ?_)))
       (case side2 => exact HC104_1.out)
       rintro e w25 ⟨v110, rfl, ho0, hb⟩
       refine ⟨_, rfl, ?_⟩
       have n0_ := aM (Kd.S_elder' (by (with_reducible repeat (first | apply Kd.S_alloc | apply Kd.S_drewN | apply Kd.S_drew)); exact HO_104000.out) (Kd.R_base ho0) hb)
       have n1_ := aM (Kd.R_elder' (by (with_reducible repeat (first | apply Kd.R_alloc | apply Kd.R_drewN | apply Kd.R_drew)); exact HO108.out) (Kd.R_base ho0) hb)
       have n2_ := aM (Kd.R_lower (Kd.R_new' ho0 (Kd.R_lt (by (with_reducible repeat (first | apply Kd.R_alloc | apply Kd.R_drewN | apply Kd.R_drew)); exact HO108.out))) (below_size (by repeat (first | (with_reducible first | exact HB.out | apply wA | apply wN | apply wD | refine below_set ?_ GE101.out | refine below_set ?_ GE102.out | refine below_set ?_ GE103.out | refine below_set ?_ GE105.out) | exact HB.out))))
       have n3_ := aM (blk_below (g := gb101) (o := .cells #[.slice (some ad104) l0_0.length c0_0] 24 (0, 0)) (by (with_reducible repeat (first | refine bN ?_ _ | refine bD ?_ | refine bA ?_ _)); exact BK101.out) hb)
       have n4_ := aM (blk_below (g := gb102) (o := .cells #[.slice none 0 0] 24 (0, 0)) (by (with_reducible repeat (first | refine bN ?_ _ | refine bD ?_ | refine bA ?_ _)); exact BK102.out) hb)
       have n5_ := aM (blk_below (g := gb103) (o := .cells #[u104000] 24 (0, 0)) (by (with_reducible repeat (first | refine bN ?_ _ | refine bD ?_ | refine bA ?_ _)); exact BK103.out) hb)
       have n6_ := aM (blk_below (g := gb105) (o := .cells #[.slice A104_0 ((rd_T48 l0_0 x9_1).f0).length c104_0, .slice A104_1 ((rd_T48 l0_0 x9_1).f1).length c104_1] 48 (0, 0)) (by (with_reducible repeat (first | refine bN ?_ _ | refine bD ?_ | refine bA ?_ _)); exact BK105.out) hb)
       have n7_ := aM (below_step (by repeat (first | (with_reducible first | exact HB.out | apply wA | apply wN | apply wD | refine below_set ?_ GE101.out | refine below_set ?_ GE102.out | refine below_set ?_ GE103.out | refine below_set ?_ GE105.out) | exact HB.out)) hb)
       clear HO_104000
       clear HO108
       clear BK101
       clear BK102
       clear BK103
       clear BK105
       clear HB
       have HO_104000 := n0_
       have HO108 := n1_
       have HO111 := n2_
       have BK101 := n3_
       have BK102 := n4_
       have BK103 := n5_
       have BK105 := n6_
       have HB := n7_
       clear n0_ n1_ n2_ n3_ n4_ n5_ n6_ n7_
       (try clear hb)
       (try clear hb2)
       (try clear hk)
       (try clear hi)
       (try clear ho0)
       obtain ⟨Ao26, co26, eo26⟩ := Kd.R_slice HO111.out
       (first | subst eo26 | (injection eo26 with f1_ f2_ f3_; have f4_ := f1_.symm; have f5_ := f3_.symm; clear f1_ f2_ f3_; subst f4_; subst f5_))
       obtain ⟨Ao27, co27, eo27⟩ := Kd.R_slice HO108.out
       (first | subst eo27 | (injection eo27 with f1_ f2_ f3_; have f4_ := f1_.symm; have f5_ := f3_.symm; clear f1_ f2_ f3_; subst f4_; subst f5_))
       refine hK.out _ _ ⟨(blk_cell BK103.out 0).trans rfl, (blk_cell BK105.out 0).trans rfl, (blk_cell BK105.out 1).trans rfl⟩ (fun hHeld => ?_)
       clear hK K
       refine norm_ (a' := ?_) ?_ ?_
       rotate_left
       ·show Act.put _ (some 24) _ = _
        simp only [Act.put, List.setIfInBounds_toArray, List.set_cons_zero, List.set_cons_succ, i64_w, i32_w]
        rfl
       refine pure_ (i := 8) (N := some 25) (v := ?_) (a' := ?_) #[true, true, true, true, true, true, true, true, true, false, false, false, false] rfl rfl (any_of HT_.out (by kernel_rfl)) (fun _ _ _ h => h) (Or.inl ⟨by rfl, ?_⟩) ?_ ?_
       rotate_left
       ·intro w'
        go_simp
        with_reducible rfl
       rotate_left
       ·simp only [Act.put, List.setIfInBounds_toArray, List.set_cons_zero, List.set_cons_succ, i64_w, i32_w]
        rfl
       refine one_ (i := 9) (N := some 26) #[true, true, true, true, true, true, true, true, true, true, false, false, false] rfl rfl (one_of HT_.out (by kernel_rfl)) (by decide) (fun K hK => ?_)
       refine value_ (w1 := ?_) (v := ?_) (by rfl) rfl ?_ ?_
       rotate_left 2
       ·go_simp
        constructor
        ·rfl
        ·rfl
       refine hK.out _ _ ⟨(blk_cell (bA BK103.out _) 0).trans rfl, (blk_cell (bA BK105.out _) 0).trans rfl, (blk_cell (bA BK105.out _) 1).trans rfl⟩ (fun hHeld => ?_)
       clear hK K
       refine norm_ (a' := ?_) ?_ ?_
       rotate_left
       ·show Act.put _ (some 26) _ = _
        simp only [Act.put, List.setIfInBounds_toArray, List.set_cons_zero, List.set_cons_succ, i64_w, i32_w]
        rfl
       refine one_ (i := 10) (N := some 27) #[true, true, true, true, true, true, true, true, true, true, true, false, false] rfl rfl (one_of HT_.out (by kernel_rfl)) (by decide) (fun K hK => ?_)
       refine Kd.S_append_step k48 (w0 := w) w.heap.size (by rfl) (.tmp 18) (.tmp 26) 22 48 (.agg #[(.slice none 0 0), (.slice none 0 0)]) 48 rfl Try.underlying22 info48 rfl (by decide) (by omega) u104000 x104000_1 (⟨t106, t109⟩ : S48) [.slice Ao27 t106.length co27, .slice Ao26 t109.length co26] (fun k_ => k_ ≠ gb105) (fun k_ => some k_ = (.slice Ao27 t106.length co27 : Value).ownBlock ∨ some k_ = (.slice Ao26 t109.length co26 : Value).ownBlock) rfl rfl ?aP (fun k_ hk_ => hk_.elim (fun h_ => ((Kd.R_mono (ok' := fun k_ => ((fun k_ => k_ ≠ gb105)) k_ ∧ some k_ ≠ (u104000 : Value).ownBlock) (Kd.R_types (Kd.R_apart' (HO108.out) (Kd.S_typed HO_104000.out) (by decide)) BK105.out (by decide)) (fun k_ hk => ⟨hk.2, hk.1.2⟩))).1 k_ h_.symm) (fun h_ => ((Kd.R_mono (ok' := fun k_ => ((fun k_ => k_ ≠ gb105)) k_ ∧ some k_ ≠ (u104000 : Value).ownBlock) (Kd.R_types (Kd.R_apart' (HO111.out) (Kd.S_typed HO_104000.out) (by decide)) BK105.out (by decide)) (fun k_ hk => ⟨hk.2, hk.1.2⟩))).1 k_ h_.symm)) ?aF ?aO ?aB ?aS ?aL ?_
       (case aP => exact k48_mkM _ _ _ (⟨t106, t109⟩ : S48) (Kd.R_mono (Kd.R_tight rfl (Kd.R_mono (ok' := fun k_ => ((fun k_ => k_ ≠ gb105)) k_ ∧ some k_ ≠ (u104000 : Value).ownBlock) (Kd.R_types (Kd.R_apart' (HO108.out) (Kd.S_typed HO_104000.out) (by decide)) BK105.out (by decide)) (fun k_ hk => ⟨hk.2, hk.1.2⟩))) (fun _ h_ => Or.inl h_)) (Kd.R_mono (Kd.R_tight rfl (Kd.R_mono (ok' := fun k_ => ((fun k_ => k_ ≠ gb105)) k_ ∧ some k_ ≠ (u104000 : Value).ownBlock) (Kd.R_types (Kd.R_apart' (HO111.out) (Kd.S_typed HO_104000.out) (by decide)) BK105.out (by decide)) (fun k_ hk => ⟨hk.2, hk.1.2⟩))) (fun _ h_ => Or.inr (h_))))
       (case aB => exact (by repeat (first | (with_reducible first | exact HB.out | apply wA | apply wN | apply wD | refine below_set ?_ GE101.out | refine below_set ?_ GE102.out | refine below_set ?_ GE103.out | refine below_set ?_ GE105.out) | exact HB.out)))
       (case aF => exact (fun k_ hk => Kd.freshB (g := gb105) (o := .cells #[.slice A104_0 ((rd_T48 l0_0 x9_1).f0).length c104_0, .slice A104_1 ((rd_T48 l0_0 x9_1).f1).length c104_1] 48 (0, 0)) (by (with_reducible repeat (first | refine bN ?_ _ | refine bD ?_ | refine bA ?_ _)); exact BK105.out) k_ hk))
       (case aO => exact (by (with_reducible repeat (first | apply Kd.S_alloc | apply Kd.S_drewN | apply Kd.S_drew)); exact Kd.S_mono HO_104000.out (fun k_ hk => ⟨hk.1.1, fun e_ => e_.elim (fun h_ => hk.1.2 h_) (fun h_ => hk.2 h_)⟩)))
       (case aS => exact (below_size (by repeat (first | (with_reducible first | exact HB.out | apply wA | apply wN | apply wD | refine below_set ?_ GE101.out | refine below_set ?_ GE102.out | refine below_set ?_ GE103.out | refine below_set ?_ GE105.out) | exact HB.out))))
       (case aL => have := LMc13.out; omega)
       intro v113 w28 ho hb hg hat
       rw [← Ny112.out] at ho
       have n0_ := aM (blk_grown (g := gb101) (o := .cells #[.slice (some ad104) l0_0.length c0_0] 24 (0, 0)) (by (with_reducible repeat (first | refine bN ?_ _ | refine bD ?_ | refine bA ?_ _)); exact BK101.out) hg (Kd.S_ne HO_104000.out BK101.out (by decide)))
       have n1_ := aM (blk_grown (g := gb102) (o := .cells #[.slice none 0 0] 24 (0, 0)) (by (with_reducible repeat (first | refine bN ?_ _ | refine bD ?_ | refine bA ?_ _)); exact BK102.out) hg (Kd.S_ne HO_104000.out BK102.out (by decide)))
       have n2_ := aM (blk_grown (g := gb103) (o := .cells #[u104000] 24 (0, 0)) (by (with_reducible repeat (first | refine bN ?_ _ | refine bD ?_ | refine bA ?_ _)); exact BK103.out) hg (Kd.S_ne HO_104000.out BK103.out (by decide)))
       have n3_ := aM (blk_grown (g := gb105) (o := .cells #[.slice A104_0 ((rd_T48 l0_0 x9_1).f0).length c104_0, .slice A104_1 ((rd_T48 l0_0 x9_1).f1).length c104_1] 48 (0, 0)) (by (with_reducible repeat (first | refine bN ?_ _ | refine bD ?_ | refine bA ?_ _)); exact BK105.out) hg (Kd.S_away HO_104000.out (fun _ hk => hk.1.1)))
       have n4_ := aM (hb)
       have n5_ := aM (ho)
       clear BK101
       clear BK102
       clear BK103
       clear BK105
       clear HB
       clear HO_104000
       clear HO108
       clear HO111
       have BK101 := n0_
       have BK102 := n1_
       have BK103 := n2_
       have BK105 := n3_
       have HB := n4_
       have HO114 := n5_
       clear n0_ n1_ n2_ n3_ n4_ n5_
       clear ho hb hg hat
       obtain ⟨Ao29, co29, eo29⟩ := Kd.S_slice HO114.out
       (first | subst eo29 | (injection eo29 with f1_ f2_ f3_; have f4_ := f1_.symm; have f5_ := f3_.symm; clear f1_ f2_ f3_; subst f4_; subst f5_))
       refine hK.out _ _ ⟨(blk_cell BK103.out 0).trans rfl, (blk_cell BK105.out 0).trans rfl, (blk_cell BK105.out 1).trans rfl⟩ (fun hHeld => ?_)
       clear hK K
       refine norm_ (a' := ?_) ?_ ?_
       rotate_left
       ·show Act.put _ (some 27) _ = _
        simp only [Act.put, List.setIfInBounds_toArray, List.set_cons_zero, List.set_cons_succ, i64_w, i32_w]
        rfl
       refine pure_ (i := 11) (N := some 28) (v := ?_) (a' := ?_) #[true, true, true, true, true, true, true, true, true, true, true, true, false] rfl rfl (any_of HT_.out (by kernel_rfl)) (fun _ _ _ h => h) (Or.inl ⟨by rfl, ?_⟩) ?_ ?_
       rotate_left
       ·intro w'
        go_simp
        with_reducible rfl
       rotate_left
       ·simp only [Act.put, List.setIfInBounds_toArray, List.set_cons_zero, List.set_cons_succ, i64_w, i32_w]
        rfl
       refine last_ (i := 12) (N := none) #[true, true, true, true, true, true, true, true, true, true, true, true, true] rfl rfl (one_of HT_.out (by kernel_rfl)) (by decide) (fun K hK => ?_)
       have hs30 : w28.cell? ⟨gb103, 0, none⟩ = some (u104000) := (blk_cell BK103.out 0).trans rfl
       have hfs30 := blk_frozen BK103.out 0
       have hns30_0 := NB101_103.out
       have hns30_1 := NB102_103.out
       have hns30_3 := NB105_103.out
       have hms30_0 := NB103_101.out
       have hms30_1 := NB103_102.out
       have hms30_3 := NB103_105.out
       refine skip_ (w1 := ?_) (by rfl) rfl ?_ ?_
       rotate_left
       ·go_simp
        rfl
       refine hK.out _ _ ?_
       clear hK K
       refine done_ (done_of HT_.out (by kernel_rfl)) ?_
       try go_wp2
       go_roundg k1
       case measure => have := HK1.out; omega
       case rel => exact ⟨(wrap64 (x9_1 + 1)), (y112), (.slice Ao29 y112.length co29), (by first | rfl | (simp; done) | (simp [*]; done)), H', ⟨by have := HK1.out; omega⟩, ⟨by (with_reducible repeat (first | apply Kd.S_alloc | apply Kd.S_drewN | apply Kd.S_drew)); exact Kd.S_mono (Kd.S_far (p := ⟨gb103, 0, none⟩) (Kd.S_types HO114.out BK103.out (by decide)) (fun _ hk => hk.2) (.slice Ao29 y112.length co29)) (fun _ hk => trivial)⟩, ⟨by (with_reducible repeat (first | refine bN ?_ _ | refine bD ?_ | refine bA ?_ _)); refine blk_far ?_ NB101_103.out _; (with_reducible repeat (first | refine bN ?_ _ | refine bD ?_ | refine bA ?_ _)); exact BK101.out⟩, ⟨by (with_reducible repeat (first | refine bN ?_ _ | refine bD ?_ | refine bA ?_ _)); refine blk_far ?_ NB102_103.out _; (with_reducible repeat (first | refine bN ?_ _ | refine bD ?_ | refine bA ?_ _)); exact BK102.out⟩, ⟨by (with_reducible repeat (first | refine bN ?_ _ | refine bD ?_ | refine bA ?_ _)); refine blk_put (cs := #[u104000]) ?_ 0 _ rfl; (with_reducible repeat (first | refine bN ?_ _ | refine bD ?_ | refine bA ?_ _)); exact BK103.out⟩, ⟨by repeat (first | (with_reducible first | exact HB.out | apply wA | apply wN | apply wD | refine below_set ?_ GE101.out | refine below_set ?_ GE102.out | refine below_set ?_ GE103.out | refine below_set ?_ GE105.out) | exact HB.out)⟩⟩
      ·rw [if_neg c13] at H
       exact absurd H (by simp)
     ·rw [if_neg c10] at H
      exact absurd H (by simp)
    ·rw [if_neg c9] at H
     exact absurd H (by simp)
   ·rw [if_neg c8] at H
    have c8b0 : decide (x9_1 < (l0_0.length : Int)) = false := decide_eq_false c8
    clear c8
    obtain rfl := Option.some.inj H
    have hnb31 := NB103_101.out
    have hnc31 := NB101_103.out
    have hnb32 := NB103_102.out
    have hnc32 := NB102_103.out
    have hcz33_0 : wr.cell? ⟨gb103, 0, none⟩ = some (u104000) := (blk_cell BK103.out 0).trans rfl
    have hfz33_0 := blk_frozen BK103.out 0
    obtain ⟨Ao34, co34, eo34⟩ := Kd.S_slice HO_104000.out
    subst eo34
    have hnb35 := NB102_101.out
    have hnc35 := NB101_102.out
    have hcz36_0 : wr.cell? ⟨gb102, 0, none⟩ = some (.slice none 0 0) := (blk_cell BK102.out 0).trans rfl
    have hfz36_0 := blk_frozen BK102.out 0
    go_wp2
    refine bodyPost_ret (results_cell_row rfl _ _ gb102 24 #[.slice Ao34 x104000_1.length co34] (0, 0) _ rfl (by (with_reducible repeat (first | refine bN ?_ _ | refine bD ?_ | refine bA ?_ _)); refine blk_put (cs := #[.slice none 0 0]) ?_ 0 _ rfl; (with_reducible repeat (first | refine bN ?_ _ | refine bD ?_ | refine bA ?_ _)); exact BK102.out) Try.underlying24 rfl (by kernel_rfl)) rfl ?_
    exact ⟨_, by first | rfl | (simp [errW_none, errW_some] <;> rfl) | (simp [*, errW_none, errW_some] <;> rfl), by (with_reducible repeat (first | apply Kd.S_alloc | apply Kd.S_drewN | apply Kd.S_drew)); exact Kd.S_mono (Kd.S_far (p := ⟨gb102, 0, none⟩) (Kd.S_types HO_104000.out BK102.out (by decide)) (fun _ hk => hk.2) (.slice Ao34 x104000_1.length co34)) (fun _ hk => trivial), by repeat (first | (with_reducible first | exact HB.out | apply wA | apply wN | apply wD | refine below_set ?_ GE101.out | refine below_set ?_ GE102.out | refine below_set ?_ GE103.out) | exact HB.out)⟩

/-! A file whose two rows lie apart. -/
/-- Two in line, no block of the one being a block of the other. -/
def duo {α β : Type} (a : Kd α) (b : Kd β) : Kd (α × β) where
  sz := a.sz + b.sz
  E := a.E ++ b.E
  K := fun w x cs => ∃ c0 c1, cs = c0 ++ c1 ∧ a.K w x.1 c0 ∧ b.K w x.2 c1
  M := fun w base ok x cs => ∃ (f : Nat → Bool) (c0 c1 : List Value), cs = c0 ++ c1 ∧ a.M w base (fun k => ok k ∧ f k = true) x.1 c0 ∧ b.M w base (fun k => ok k ∧ f k = false) x.2 c1
  K_len := by
    rintro w x cs ⟨c0, c1, rfl, h0, h1⟩
    rw [List.length_append, a.K_len h0, b.K_len h1]
  K_one := by
    rintro w x cs ⟨c0, c1, rfl, h0, h1⟩ u hu
    rcases List.mem_append.1 hu with hu | hu
    · exact a.K_one h0 u hu
    · exact b.K_one h1 u hu
  K_below := by
    rintro w w1 x cs hb ⟨c0, c1, rfl, h0, h1⟩
    exact ⟨c0, c1, rfl, a.K_below hb h0, b.K_below hb h1⟩
  K_of_M := by
    rintro w base ok x cs ⟨f, c0, c1, rfl, h0, h1⟩
    exact ⟨c0, c1, rfl, a.K_of_M h0, b.K_of_M h1⟩
  M_mono := by
    rintro w base ok ok' x cs hok ⟨f, c0, c1, rfl, h0, h1⟩
    exact ⟨f, c0, c1, rfl, a.M_mono (fun k hk => ⟨hok k hk.1, hk.2⟩) h0, b.M_mono (fun k hk => ⟨hok k hk.1, hk.2⟩) h1⟩
  M_bound := by
    rintro w base ok x cs ⟨f, c0, c1, rfl, h0, h1⟩
    refine ⟨f, c0, c1, rfl, a.M_mono ?_ (a.M_bound h0), b.M_mono ?_ (b.M_bound h1)⟩
    · rintro k ⟨h2, h3, h4, q, hq, hc⟩
      exact ⟨⟨h2.1, h3, h4, q, List.mem_append_left _ hq, hc⟩, h2.2⟩
    · rintro k ⟨h2, h3, h4, q, hq, hc⟩
      exact ⟨⟨h2.1, h3, h4, q, List.mem_append_right _ hq, hc⟩, h2.2⟩
  M_move := by
    rintro w w1 base ok x cs hm ⟨f, c0, c1, rfl, h0, h1⟩
    exact ⟨f, c0, c1, rfl, a.M_move (fun k hk => hm k hk.1) h0, b.M_move (fun k hk => hm k hk.1) h1⟩
  M_lower := by
    rintro w base base' ok x cs hb ⟨f, c0, c1, rfl, h0, h1⟩
    exact ⟨f, c0, c1, rfl, a.M_lower hb h0, b.M_lower hb h1⟩
def k48a : Kd S48 := Kd.iso (duo (Kd.slice 5 (Kd.int .u8)) (Kd.slice 5 (Kd.int .u8))) (fun x : S48 => (x.f0, x.f1))
theorem k48a_mkM {w : World} {base : Nat} (x : S48) {v0 v1 : Value} (g0 : (Kd.int .u8).R 5 w base (fun k => some k = v0.ownBlock) v0 x.f0) (g1 : (Kd.int .u8).R 5 w base (fun k => some k = v1.ownBlock) v1 x.f1) (hap : ∀ k, some k = v1.ownBlock → v0.ownBlock ≠ some k) :
    k48a.M w base (fun k => some k = v0.ownBlock ∨ some k = v1.ownBlock) x [v0, v1] :=
  ⟨fun k => decide (some k = v0.ownBlock), [v0], [v1], rfl, ⟨v0, rfl, Kd.R_mono g0 (fun k hk => ⟨.inl hk, decide_eq_true hk⟩)⟩, ⟨v1, rfl, Kd.R_mono g1 (fun k hk => ⟨.inr hk, decide_eq_false (fun h => hap k hk h.symm)⟩)⟩⟩
/-- The same, of rows told with more. -/
theorem k48a_mk {w : World} {base : Nat} (x : S48) {v0 v1 : Value} {ok0 ok1 : Nat → Prop} (g0 : (Kd.int .u8).R 5 w base ok0 v0 x.f0) (g1 : (Kd.int .u8).R 5 w base ok1 v1 x.f1) (hap : ∀ k, ok0 k → ok1 k → False) :
    k48a.M w base (fun k => ok0 k ∨ ok1 k) x [v0, v1] :=
  k48a.M_mono (fun k hk => hk.elim (fun h => .inl (g0.1 k h.symm)) (fun h => .inr (g1.1 k h.symm))) (k48a_mkM x (Kd.R_tight rfl g0) (Kd.R_tight rfl g1) (fun k h1 h0 => hap k (g0.1 k h0) (g1.1 k h1.symm)))
theorem k48a_openM {w : World} {base : Nat} {ok : Nat → Prop} {x : S48} {cs : List Value} (h : k48a.M w base ok x cs) : ∃ (f : Nat → Bool) (v0 v1 : Value), cs = [v0, v1] ∧ (Kd.int .u8).R 5 w base (fun k => ok k ∧ f k = true) v0 x.f0 ∧ (Kd.int .u8).R 5 w base (fun k => ok k ∧ f k = false) v1 x.f1 := by
  obtain ⟨f, _, _, rfl, ⟨v0, rfl, g0⟩, ⟨v1, rfl, g1⟩⟩ := h
  exact ⟨f, v0, v1, rfl, g0, g1⟩
theorem k48a_S {w : World} {base : Nat} {ok : Nat → Prop} {v : Value} {xs : List S48} (h : Kd.S k48a 48 w base ok v xs) : Kd.S k48 48 w base ok v xs := by
  obtain ⟨f, h0, inner, ho, hr⟩ := h
  refine ⟨f, h0, inner, ho, hr.1, fun j p hj => ?_⟩
  obtain ⟨g, v0, v1, he, g0, g1⟩ := k48a_openM (hr.2 j p hj)
  have he2 : List.take (Kd.tag f k48).sz (List.drop (j * (Kd.tag f k48).sz) inner) = [v0, v1] := he
  rw [he2]
  exact k48_mkM _ _ _ _ (Kd.R_mono g0 (fun _ hk => hk.1)) (Kd.R_mono g1 (fun _ hk => hk.1))
set_option maxHeartbeats 8000000 in
set_option maxRecDepth 100000 in
theorem disk_clone.callsA (k : Nat) (A0_0 : Option Addr) (c0_0 : Nat) (l0_0 : List (S48)) (r : List (S48)) (w : World) (hr0_0 : Kd.C k48 w A0_0 l0_0.length l0_0) (hc0_0 : l0_0.length ≤ c0_0) (h : disk_clone.f k l0_0 = some r) :
  Calls Try.prog 24 #[.agg #[.slice A0_0 l0_0.length c0_0]] w fun e w' => ∃ v0_ : Value, e = .returned (.agg #[v0_]) ∧ Kd.S k48a 48 w' w.heap.size (fun _ => True) v0_ r ∧ Below w.heap.size w w' := by
 have hu24 := Try.underlying24
 have hu48 := Try.underlying48
 have HR0_0 := aM hr0_0
 have HC0_0 := aM hc0_0
 clear hr0_0 hc0_0
 have HB := aM (Below.refl w.heap.size w)
 have H : (disk_clone.l0 k (l0_0.length : Int) 0 l0_0 ([] : List (S48))) = some r := h
 clear h
 have H' := aM H
 clear H
 go_enter Try.func24, Try.ntmps24
 go_wp2_with (first | ((with_reducible refine gate_dst (N := 1) rfl ?_); refine box_event ?hg (N := 1) ?hd (cs := #[.slice A0_0 l0_0.length c0_0]) (t := 24) ?hr ?_; (case hd => rfl); (case hg => rfl); (case hr => first | (go_simp; done) | (go_simp; rfl)); intro gb101 hg w2 hbox hb; have n0_ := aM (below_step (by repeat (first | (with_reducible first | exact HB.out | apply wA | apply wN | apply wD) | exact HB.out)) hb); have n1_ := aM (hbox); have n2_ := aM ((by rw [hg]; exact (below_size (by repeat (first | (with_reducible first | exact HB.out | apply wA | apply wN | apply wD) | exact HB.out))) : w.heap.size ≤ gb101)); have n3_ := aM ((by rw [hg]; exact (below_size (by repeat (first | (with_reducible first | exact HB.out | apply wA | apply wN | apply wD) | exact HB.out))) : w.heap.size ≤ gb101)); clear HB; have HB := n0_; have BK101 := n1_; have GW101 := n2_; have GE101 := n3_; clear n0_ n1_ n2_ n3_; clear hb hbox hg) | ((with_reducible refine gate_dst (N := 2) rfl ?_); refine box_event ?hg (N := 2) ?hd (cs := #[.slice none 0 0]) (t := 24) ?hr ?_; (case hd => rfl); (case hg => rfl); (case hr => first | (go_simp; done) | (go_simp; rfl)); intro gb102 hg w3 hbox hb; have n0_ := aM (blk_below (g := gb101) (o := .cells #[.slice A0_0 l0_0.length c0_0] 24 (0, 0)) (by (with_reducible repeat (first | refine bN ?_ _ | refine bD ?_ | refine bA ?_ _)); exact BK101.out) hb); have n1_ := aM (below_step (by repeat (first | (with_reducible first | exact HB.out | apply wA | apply wN | apply wD | refine below_set ?_ GE101.out) | exact HB.out)) hb); have n2_ := aM (hbox); have n3_ := aM ((by rw [hg]; exact (below_size (by repeat (first | (with_reducible first | exact HB.out | apply wA | apply wN | apply wD | refine below_set ?_ GE101.out) | exact HB.out))) : w.heap.size ≤ gb102)); have n4_ := aM ((by rw [hg]; exact (below_size (by repeat (first | (with_reducible first | exact HB.out | apply wA | apply wN | apply wD | refine below_set ?_ GE101.out) | exact HB.out))) : w.heap.size ≤ gb102)); have n5_ := aM ((by rw [hg]; exact Nat.ne_of_lt (blk_lt (g := gb101) (o := .cells #[.slice A0_0 l0_0.length c0_0] 24 (0, 0)) (by (with_reducible repeat (first | refine bN ?_ _ | refine bD ?_ | refine bA ?_ _)); exact BK101.out)) : gb101 ≠ gb102)); have n6_ := aM ((by rw [hg]; exact Nat.ne_of_gt (blk_lt (g := gb101) (o := .cells #[.slice A0_0 l0_0.length c0_0] 24 (0, 0)) (by (with_reducible repeat (first | refine bN ?_ _ | refine bD ?_ | refine bA ?_ _)); exact BK101.out)) : gb102 ≠ gb101)); clear BK101; clear HB; have BK101 := n0_; have HB := n1_; have BK102 := n2_; have GW102 := n3_; have GE102 := n4_; have NB101_102 := n5_; have NB102_101 := n6_; clear n0_ n1_ n2_ n3_ n4_ n5_ n6_; clear hb hbox hg) | ((with_reducible refine gate_dst (N := 3) rfl ?_); refine box_event ?hg (N := 3) ?hd (cs := #[.slice none 0 0]) (t := 24) ?hr ?_; (case hd => rfl); (case hg => rfl); (case hr => first | (go_simp; done) | (go_simp; rfl)); intro gb103 hg w4 hbox hb; have n0_ := aM (blk_below (g := gb101) (o := .cells #[.slice A0_0 l0_0.length c0_0] 24 (0, 0)) (by (with_reducible repeat (first | refine bN ?_ _ | refine bD ?_ | refine bA ?_ _)); exact BK101.out) hb); have n1_ := aM (blk_below (g := gb102) (o := .cells #[.slice none 0 0] 24 (0, 0)) (by (with_reducible repeat (first | refine bN ?_ _ | refine bD ?_ | refine bA ?_ _)); exact BK102.out) hb); have n2_ := aM (below_step (by repeat (first | (with_reducible first | exact HB.out | apply wA | apply wN | apply wD | refine below_set ?_ GE101.out | refine below_set ?_ GE102.out) | exact HB.out)) hb); have n3_ := aM (hbox); have n4_ := aM ((by rw [hg]; exact (below_size (by repeat (first | (with_reducible first | exact HB.out | apply wA | apply wN | apply wD | refine below_set ?_ GE101.out | refine below_set ?_ GE102.out) | exact HB.out))) : w.heap.size ≤ gb103)); have n5_ := aM ((by rw [hg]; exact (below_size (by repeat (first | (with_reducible first | exact HB.out | apply wA | apply wN | apply wD | refine below_set ?_ GE101.out | refine below_set ?_ GE102.out) | exact HB.out))) : w.heap.size ≤ gb103)); have n6_ := aM ((by rw [hg]; exact Nat.ne_of_lt (blk_lt (g := gb101) (o := .cells #[.slice A0_0 l0_0.length c0_0] 24 (0, 0)) (by (with_reducible repeat (first | refine bN ?_ _ | refine bD ?_ | refine bA ?_ _)); exact BK101.out)) : gb101 ≠ gb103)); have n7_ := aM ((by rw [hg]; exact Nat.ne_of_gt (blk_lt (g := gb101) (o := .cells #[.slice A0_0 l0_0.length c0_0] 24 (0, 0)) (by (with_reducible repeat (first | refine bN ?_ _ | refine bD ?_ | refine bA ?_ _)); exact BK101.out)) : gb103 ≠ gb101)); have n8_ := aM ((by rw [hg]; exact Nat.ne_of_lt (blk_lt (g := gb102) (o := .cells #[.slice none 0 0] 24 (0, 0)) (by (with_reducible repeat (first | refine bN ?_ _ | refine bD ?_ | refine bA ?_ _)); exact BK102.out)) : gb102 ≠ gb103)); have n9_ := aM ((by rw [hg]; exact Nat.ne_of_gt (blk_lt (g := gb102) (o := .cells #[.slice none 0 0] 24 (0, 0)) (by (with_reducible repeat (first | refine bN ?_ _ | refine bD ?_ | refine bA ?_ _)); exact BK102.out)) : gb103 ≠ gb102)); clear BK101; clear BK102; clear HB; have BK101 := n0_; have BK102 := n1_; have HB := n2_; have BK103 := n3_; have GW103 := n4_; have GE103 := n5_; have NB101_103 := n6_; have NB103_101 := n7_; have NB102_103 := n8_; have NB103_102 := n9_; clear n0_ n1_ n2_ n3_ n4_ n5_ n6_ n7_ n8_ n9_; clear hb hbox hg; have hnb5 := NB101_102.out; have hnc5 := NB102_101.out; have hnb6 := NB101_103.out; have hnc6 := NB103_101.out; have hcz7_0 : w4.cell? ⟨gb101, 0, none⟩ = some (.slice A0_0 l0_0.length c0_0) := (blk_cell BK101.out 0).trans rfl; have hfz7_0 := blk_frozen BK101.out 0))
 go_loopg [9] k (fun kq v9 w' => ∃ (x9_1 : Int) (x104000_1 : List (S48)) (u104000 : Value), v9 = .int .i64 x9_1 ∧ Aside0 (disk_clone.l0 kq (l0_0.length : Int) x9_1 l0_0 x104000_1 = some r) ∧ Aside0 (kq ≤ k) ∧ Aside0 (Kd.S k48a 48 w' w.heap.size (fun _ => True) u104000 x104000_1) ∧ Aside0 (w'.heap[gb101]? = some (.cells #[(.slice A0_0 l0_0.length c0_0)] 24 (0, 0))) ∧ Aside0 (w'.heap[gb102]? = some (.cells #[(.slice none 0 0)] 24 (0, 0))) ∧ Aside0 (w'.heap[gb103]? = some (.cells #[u104000] 24 (0, 0))) ∧ Aside0 (Below w.heap.size w w'))
 case atStart => exact ⟨(0), (([] : List (S48))), (.slice none 0 0), (by first | rfl | (simp; done) | (simp [*]; done)), H', ⟨Nat.le_refl _⟩, ⟨by first | exact Kd.S_nil _ _ _ _ _ | exact Kd.N_nil _ _ _ _ _ | exact Kd.V_nil _ _ _ _ _ | exact Kd.Q_nil _ _ _ _ _ | exact Kd.R_nil _ _ _ _ _⟩, ⟨by (with_reducible repeat (first | refine bN ?_ _ | refine bD ?_ | refine bA ?_ _)); exact BK101.out⟩, ⟨by (with_reducible repeat (first | refine bN ?_ _ | refine bD ?_ | refine bA ?_ _)); exact BK102.out⟩, ⟨by (with_reducible repeat (first | refine bN ?_ _ | refine bD ?_ | refine bA ?_ _)); exact BK103.out⟩, ⟨by repeat (first | (with_reducible first | exact HB.out | apply wA | apply wN | apply wD | refine below_set ?_ GE101.out | refine below_set ?_ GE102.out | refine below_set ?_ GE103.out) | exact HB.out)⟩⟩
 case round =>
  clear H'
  try clear c2
  try clear p2
  try clear c5
  try clear c6
  try clear hcz7_0
  try clear hfz7_0
  obtain ⟨x9_1, x104000_1, u104000, rfl, HA, HK1, HO_104000, BK101, BK102, BK103, HB⟩ := hrel
  cases gk with
  | zero => exact absurd HA.out (by simp [disk_clone.l0])
  | succ k1 =>
   have H := HA.out
   clear HA
   simp only [disk_clone.l0] at H
   by_cases c8 : x9_1 < (l0_0.length : Int)
   ·rw [if_pos c8] at H
    have c8b0 : decide (x9_1 < (l0_0.length : Int)) = true := decide_eq_true c8
    clear c8
    by_cases c9 : 0 ≤ x9_1
    ·rw [if_pos c9] at H
     have c9b0 : decide (0 ≤ x9_1) = true := decide_eq_true c9
     clear c9
     by_cases c10 : x9_1 < (l0_0.length : Int)
     ·rw [if_pos c10] at H
      have c10b0 : decide (x9_1 < (l0_0.length : Int)) = true := decide_eq_true c10
      clear c10
      replace H := Option.bind_eq_some_iff.mp H
      obtain ⟨t106, A110, H⟩ := H
      replace H : ((slices_Clone_byte_byte.f ((rd_T48 l0_0 x9_1).f1)).bind fun t109 => (if x104000_1.length < 2932031007402 then (disk_clone.l0 k1 (l0_0.length : Int) (wrap64 (x9_1 + 1)) l0_0 (x104000_1 ++ [(⟨t106, t109⟩ : S48)])) else (none))) = some r := H
      have A11 := aM A110
      clear A110
      replace H := Option.bind_eq_some_iff.mp H
      obtain ⟨t109, A120, H⟩ := H
      replace H : (if x104000_1.length < 2932031007402 then (disk_clone.l0 k1 (l0_0.length : Int) (wrap64 (x9_1 + 1)) l0_0 (x104000_1 ++ [(⟨t106, t109⟩ : S48)])) else (none)) = some r := H
      have A12 := aM A120
      clear A120
      by_cases c13 : x104000_1.length < 2932031007402
      ·rw [if_pos c13] at H
       have LMc13 := aM c13
       clear c13
       obtain ⟨y112, hy112⟩ : ∃ y_ : List (S48), y_ = (x104000_1 ++ [(⟨t106, t109⟩ : S48)]) := ⟨_, rfl⟩
       replace H : (disk_clone.l0 k1 (l0_0.length : Int) (wrap64 (x9_1 + 1)) l0_0 y112) = some r := by first | (rw [hy112]; with_reducible exact H) | (have H2_ := (Option.bind_some _ _).symm.trans H; rw [hy112]; with_reducible exact H2_) | (have H2_ := (Option.bind_some _ _).symm.trans H; with_reducible exact H2_) | with_reducible exact H | (rw [hy112]; exact H) | exact H
       have Ny112 := aM hy112
       clear hy112
       have H' := aM H
       clear H
       have hnb14 := NB101_102.out
       have hnc14 := NB102_101.out
       have hnb15 := NB101_103.out
       have hnc15 := NB103_101.out
       have hcz16_0 : wr.cell? ⟨gb101, 0, none⟩ = some (.slice A0_0 l0_0.length c0_0) := (blk_cell BK101.out 0).trans rfl
       have hfz16_0 := blk_frozen BK101.out 0
       have p104 : 0 ≤ (x9_1 : Int) := of_decide_eq_true (by first | (with_reducible assumption) | assumption)
       have q104 : x9_1 < (l0_0.length : Int) := of_decide_eq_true (by first | (with_reducible assumption) | assumption)
       obtain ⟨ad104, A104_0, c104_0, A104_1, c104_1, e104, hx104_0, hx104_1, hl104_0, hi104_0, hl104_1, hi104_1⟩ := at_T48 HR0_0.out x9_1 p104 q104
       cases e104
       replace hx104_0 := (HB.out.cell (World.block_lt_of_cell? w _ hx104_0)).trans hx104_0
       replace hx104_1 := (HB.out.cell (World.block_lt_of_cell? w _ hx104_1)).trans hx104_1
       have HR104_0 := aM hi104_0
       have HC104_0 := aM hl104_0
       clear hi104_0 hl104_0
       have HR104_1 := aM hi104_1
       have HC104_1 := aM hl104_1
       clear hi104_1 hl104_1
       replace p104 := eq_true p104
       replace q104 := eq_true q104
       try go_wp2_with (first | ((with_reducible refine gate_dst (N := 5) rfl ?_); refine box_event ?hg (N := 5) ?hd (cs := #[.slice none 0 0, .slice none 0 0]) (t := 48) ?hr ?_; (case hd => rfl); (case hg => rfl); (case hr => first | (go_simp; done) | (go_simp; rfl)); intro gb105 hg w17 hbox hb; have n0_ := aM (Kd.S_below (Kd.S_elderB (by (with_reducible repeat (first | apply Kd.S_alloc | apply Kd.S_drewN | apply Kd.S_drew)); exact HO_104000.out) gb105 (Nat.le_of_eq hg.symm)) hb); have n1_ := aM (blk_below (g := gb101) (o := .cells #[.slice (some ad104) l0_0.length c0_0] 24 (0, 0)) (by (with_reducible repeat (first | refine bN ?_ _ | refine bD ?_ | refine bA ?_ _)); exact BK101.out) hb); have n2_ := aM (blk_below (g := gb102) (o := .cells #[.slice none 0 0] 24 (0, 0)) (by (with_reducible repeat (first | refine bN ?_ _ | refine bD ?_ | refine bA ?_ _)); exact BK102.out) hb); have n3_ := aM (blk_below (g := gb103) (o := .cells #[u104000] 24 (0, 0)) (by (with_reducible repeat (first | refine bN ?_ _ | refine bD ?_ | refine bA ?_ _)); exact BK103.out) hb); have n4_ := aM (below_step (by repeat (first | (with_reducible first | exact HB.out | apply wA | apply wN | apply wD | refine below_set ?_ GE101.out | refine below_set ?_ GE102.out | refine below_set ?_ GE103.out) | exact HB.out)) hb); have n5_ := aM (hbox); have n6_ := aM ((by rw [hg]; exact (below_size (by repeat (first | (with_reducible first | exact HB.out | apply wA | apply wN | apply wD | refine below_set ?_ GE101.out | refine below_set ?_ GE102.out | refine below_set ?_ GE103.out) | exact HB.out))) : w.heap.size ≤ gb105)); have n7_ := aM ((by rw [hg]; exact (below_size (by repeat (first | (with_reducible first | exact HB.out | apply wA | apply wN | apply wD | refine below_set ?_ GE101.out | refine below_set ?_ GE102.out | refine below_set ?_ GE103.out) | exact HB.out))) : w.heap.size ≤ gb105)); have n8_ := aM ((by rw [hg]; exact Nat.ne_of_lt (blk_lt (g := gb101) (o := .cells #[.slice (some ad104) l0_0.length c0_0] 24 (0, 0)) (by (with_reducible repeat (first | refine bN ?_ _ | refine bD ?_ | refine bA ?_ _)); exact BK101.out)) : gb101 ≠ gb105)); have n9_ := aM ((by rw [hg]; exact Nat.ne_of_gt (blk_lt (g := gb101) (o := .cells #[.slice (some ad104) l0_0.length c0_0] 24 (0, 0)) (by (with_reducible repeat (first | refine bN ?_ _ | refine bD ?_ | refine bA ?_ _)); exact BK101.out)) : gb105 ≠ gb101)); have n10_ := aM ((by rw [hg]; exact Nat.ne_of_lt (blk_lt (g := gb102) (o := .cells #[.slice none 0 0] 24 (0, 0)) (by (with_reducible repeat (first | refine bN ?_ _ | refine bD ?_ | refine bA ?_ _)); exact BK102.out)) : gb102 ≠ gb105)); have n11_ := aM ((by rw [hg]; exact Nat.ne_of_gt (blk_lt (g := gb102) (o := .cells #[.slice none 0 0] 24 (0, 0)) (by (with_reducible repeat (first | refine bN ?_ _ | refine bD ?_ | refine bA ?_ _)); exact BK102.out)) : gb105 ≠ gb102)); have n12_ := aM ((by rw [hg]; exact Nat.ne_of_lt (blk_lt (g := gb103) (o := .cells #[u104000] 24 (0, 0)) (by (with_reducible repeat (first | refine bN ?_ _ | refine bD ?_ | refine bA ?_ _)); exact BK103.out)) : gb103 ≠ gb105)); have n13_ := aM ((by rw [hg]; exact Nat.ne_of_gt (blk_lt (g := gb103) (o := .cells #[u104000] 24 (0, 0)) (by (with_reducible repeat (first | refine bN ?_ _ | refine bD ?_ | refine bA ?_ _)); exact BK103.out)) : gb105 ≠ gb103)); clear HO_104000; clear BK101; clear BK102; clear BK103; clear HB; have HO_104000 := n0_; have BK101 := n1_; have BK102 := n2_; have BK103 := n3_; have HB := n4_; have BK105 := n5_; have GW105 := n6_; have GE105 := n7_; have NB101_105 := n8_; have NB105_101 := n9_; have NB102_105 := n10_; have NB105_102 := n11_; have NB103_105 := n12_; have NB105_103 := n13_; clear n0_ n1_ n2_ n3_ n4_ n5_ n6_ n7_ n8_ n9_ n10_ n11_ n12_ n13_; clear hb hbox hg; have hnb18 := NB105_101.out; have hnc18 := NB101_105.out; have hnb19 := NB105_102.out; have hnc19 := NB102_105.out; have hnb20 := NB105_103.out; have hnc20 := NB103_105.out; have hcz21_0 : w17.cell? ⟨gb105, 0, none⟩ = some (.slice none 0 0) := (blk_cell BK105.out 0).trans rfl; have hcz21_1 : w17.cell? ⟨gb105, 1, none⟩ = some (.slice none 0 0) := (blk_cell BK105.out 1).trans rfl; have hfz21_0 := blk_frozen BK105.out 0; have hfz21_1 := blk_frozen BK105.out 1))
       have n0_ : Aside0 (Kd.S k48a 48 ((w17.setCell ⟨gb105, 0, none⟩ (.slice A104_0 ((rd_T48 l0_0 x9_1).f0).length c104_0)).setCell ⟨gb105, 1, none⟩ (.slice A104_1 ((rd_T48 l0_0 x9_1).f1).length c104_1)) w.heap.size (fun k_ => k_ ≠ gb105) u104000 x104000_1) := ⟨by (with_reducible repeat (first | apply Kd.S_alloc | apply Kd.S_drewN | apply Kd.S_drew)); exact Kd.S_mono (Kd.S_far (p := ⟨gb105, 1, none⟩) (Kd.S_far (p := ⟨gb105, 0, none⟩) (Kd.S_mono HO_104000.out (fun k_ hk => (⟨hk, hk.2⟩ : _ ∧ k_ ≠ gb105))) (fun _ hk => hk.2) (.slice A104_0 ((rd_T48 l0_0 x9_1).f0).length c104_0)) (fun _ hk => hk.2) (.slice A104_1 ((rd_T48 l0_0 x9_1).f1).length c104_1)) (fun _ hk => hk.1.2)⟩
       have n1_ : Aside0 (((w17.setCell ⟨gb105, 0, none⟩ (.slice A104_0 ((rd_T48 l0_0 x9_1).f0).length c104_0)).setCell ⟨gb105, 1, none⟩ (.slice A104_1 ((rd_T48 l0_0 x9_1).f1).length c104_1)).heap[gb101]? = some (.cells #[.slice (some ad104) l0_0.length c0_0] 24 (0, 0))) := ⟨by (with_reducible repeat (first | refine bN ?_ _ | refine bD ?_ | refine bA ?_ _)); refine blk_far ?_ NB101_105.out _; (with_reducible repeat (first | refine bN ?_ _ | refine bD ?_ | refine bA ?_ _)); refine blk_far ?_ NB101_105.out _; (with_reducible repeat (first | refine bN ?_ _ | refine bD ?_ | refine bA ?_ _)); exact BK101.out⟩
       have n2_ : Aside0 (((w17.setCell ⟨gb105, 0, none⟩ (.slice A104_0 ((rd_T48 l0_0 x9_1).f0).length c104_0)).setCell ⟨gb105, 1, none⟩ (.slice A104_1 ((rd_T48 l0_0 x9_1).f1).length c104_1)).heap[gb102]? = some (.cells #[.slice none 0 0] 24 (0, 0))) := ⟨by (with_reducible repeat (first | refine bN ?_ _ | refine bD ?_ | refine bA ?_ _)); refine blk_far ?_ NB102_105.out _; (with_reducible repeat (first | refine bN ?_ _ | refine bD ?_ | refine bA ?_ _)); refine blk_far ?_ NB102_105.out _; (with_reducible repeat (first | refine bN ?_ _ | refine bD ?_ | refine bA ?_ _)); exact BK102.out⟩
       have n3_ : Aside0 (((w17.setCell ⟨gb105, 0, none⟩ (.slice A104_0 ((rd_T48 l0_0 x9_1).f0).length c104_0)).setCell ⟨gb105, 1, none⟩ (.slice A104_1 ((rd_T48 l0_0 x9_1).f1).length c104_1)).heap[gb103]? = some (.cells #[u104000] 24 (0, 0))) := ⟨by (with_reducible repeat (first | refine bN ?_ _ | refine bD ?_ | refine bA ?_ _)); refine blk_far ?_ NB103_105.out _; (with_reducible repeat (first | refine bN ?_ _ | refine bD ?_ | refine bA ?_ _)); refine blk_far ?_ NB103_105.out _; (with_reducible repeat (first | refine bN ?_ _ | refine bD ?_ | refine bA ?_ _)); exact BK103.out⟩
       have n4_ : Aside0 (((w17.setCell ⟨gb105, 0, none⟩ (.slice A104_0 ((rd_T48 l0_0 x9_1).f0).length c104_0)).setCell ⟨gb105, 1, none⟩ (.slice A104_1 ((rd_T48 l0_0 x9_1).f1).length c104_1)).heap[gb105]? = some (.cells #[.slice A104_0 ((rd_T48 l0_0 x9_1).f0).length c104_0, .slice A104_1 ((rd_T48 l0_0 x9_1).f1).length c104_1] 48 (0, 0))) := ⟨by (with_reducible repeat (first | refine bN ?_ _ | refine bD ?_ | refine bA ?_ _)); refine blk_put (cs := #[.slice A104_0 ((rd_T48 l0_0 x9_1).f0).length c104_0, .slice none 0 0]) ?_ 1 _ rfl; (with_reducible repeat (first | refine bN ?_ _ | refine bD ?_ | refine bA ?_ _)); refine blk_put (cs := #[.slice none 0 0, .slice none 0 0]) ?_ 0 _ rfl; (with_reducible repeat (first | refine bN ?_ _ | refine bD ?_ | refine bA ?_ _)); exact BK105.out⟩
       have n5_ : Aside0 (Below w.heap.size w ((w17.setCell ⟨gb105, 0, none⟩ (.slice A104_0 ((rd_T48 l0_0 x9_1).f0).length c104_0)).setCell ⟨gb105, 1, none⟩ (.slice A104_1 ((rd_T48 l0_0 x9_1).f1).length c104_1))) := ⟨by repeat (first | (with_reducible first | exact HB.out | apply wA | apply wN | apply wD | refine below_set ?_ GE101.out | refine below_set ?_ GE102.out | refine below_set ?_ GE103.out | refine below_set ?_ GE105.out) | exact HB.out)⟩
       (try clear HO_104000)
       (try clear BK101)
       (try clear BK102)
       (try clear BK103)
       (try clear BK105)
       (try clear HB)
       generalize ((w17.setCell ⟨gb105, 0, none⟩ (.slice A104_0 ((rd_T48 l0_0 x9_1).f0).length c104_0)).setCell ⟨gb105, 1, none⟩ (.slice A104_1 ((rd_T48 l0_0 x9_1).f1).length c104_1)) = w22 at n0_ n1_ n2_ n3_ n4_ n5_ ⊢
       have HO_104000 := n0_
       have BK101 := n1_
       have BK102 := n2_
       have BK103 := n3_
       have BK105 := n4_
       have HB := n5_
       clear n0_ n1_ n2_ n3_ n4_ n5_
       have n0_ := aM (Kd.S_drew HO_104000.out)
       have n1_ := aM (bD BK101.out)
       have n2_ := aM (bD BK102.out)
       have n3_ := aM (bD BK103.out)
       have n4_ := aM (bD BK105.out)
       have n5_ := aM (wD HB.out)
       clear HO_104000
       clear BK101
       clear BK102
       clear BK103
       clear BK105
       clear HB
       have HO_104000 := n0_
       have BK101 := n1_
       have BK102 := n2_
       have BK103 := n3_
       have BK105 := n4_
       have HB := n5_
       clear n0_ n1_ n2_ n3_ n4_ n5_
       refine start_ (n := 13) (S := fun w' => w'.cell? ⟨gb103, 0, none⟩ = some (u104000) ∧ w'.cell? ⟨gb105, 0, none⟩ = some (.slice A104_0 ((rd_T48 l0_0 x9_1).f0).length c104_0) ∧ w'.cell? ⟨gb105, 1, none⟩ = some (.slice A104_1 ((rd_T48 l0_0 x9_1).f1).length c104_1)) (ds := [12]) #[false, false, false, false, false, false, false, false, false, false, false, false, false] (by kernel_rfl) rfl rfl ⟨(blk_cell BK103.out 0).trans rfl, (blk_cell BK105.out 0).trans rfl, (blk_cell BK105.out 1).trans rfl⟩ (fun hHeld => ?_); refine with_tabW disk_clone.tab6 disk_clone.bits6 (fun HT_ HW_ => ?_)
       generalize w22.drew = w23 at HO_104000 BK101 BK102 BK103 BK105 HB hHeld ⊢
       refine pure_ (i := 0) (N := some 17) (v := ?_) (a' := ?_) #[true, false, false, false, false, false, false, false, false, false, false, false, false] rfl rfl (any_of HT_.out (by kernel_rfl)) (fun _ _ _ h => h) (Or.inl ⟨by rfl, ?_⟩) ?_ ?_
       rotate_left
       ·intro w'
        go_simp
        with_reducible rfl
       rotate_left
       ·simp only [Act.put, List.setIfInBounds_toArray, List.set_cons_zero, List.set_cons_succ, i64_w, i32_w]
        rfl
       refine pure_ (i := 2) (N := some 19) (v := ?_) (a' := ?_) #[true, false, true, false, false, false, false, false, false, false, false, false, false] rfl rfl (any_of HT_.out (by kernel_rfl)) (fun _ _ _ h => h) (Or.inl ⟨by rfl, ?_⟩) ?_ ?_
       rotate_left
       ·intro w'
        go_simp
        with_reducible rfl
       rotate_left
       ·simp only [Act.put, List.setIfInBounds_toArray, List.set_cons_zero, List.set_cons_succ, i64_w, i32_w]
        rfl
       refine pure_ (i := 5) (N := some 22) (v := ?_) (a' := ?_) #[true, false, true, false, false, true, false, false, false, false, false, false, false] rfl rfl (any_of HT_.out (by kernel_rfl)) (fun _ _ _ h => h) (Or.inl ⟨by rfl, ?_⟩) ?_ ?_
       rotate_left
       ·intro w'
        go_simp
        with_reducible rfl
       rotate_left
       ·simp only [Act.put, List.setIfInBounds_toArray, List.set_cons_zero, List.set_cons_succ, i64_w, i32_w]
        rfl
       refine take_ (i := 1) (N := some 18) (v := ?_) (a' := ?_) #[true, true, true, false, false, true, false, false, false, false, false, false, false] rfl rfl (take_ofW HT_.out HW_.out (by kernel_rfl)) (fun _ _ _ h => h) (Or.inl ⟨by rfl, ?_⟩) hHeld ?_ ?_
       rotate_left
       ·rintro w' ⟨s0, s1, s2⟩
        go_simp
        with_reducible rfl
       rotate_left
       ·simp only [Act.put, List.setIfInBounds_toArray, List.set_cons_zero, List.set_cons_succ, i64_w, i32_w]
        rfl
       refine take_ (i := 3) (N := some 20) (v := ?_) (a' := ?_) #[true, true, true, true, false, true, false, false, false, false, false, false, false] rfl rfl (take_ofW HT_.out HW_.out (by kernel_rfl)) (fun _ _ _ h => h) (Or.inl ⟨by rfl, ?_⟩) hHeld ?_ ?_
       rotate_left
       ·rintro w' ⟨s0, s1, s2⟩
        go_simp
        with_reducible rfl
       rotate_left
       ·simp only [Act.put, List.setIfInBounds_toArray, List.set_cons_zero, List.set_cons_succ, i64_w, i32_w]
        rfl
       refine take_ (i := 6) (N := some 23) (v := ?_) (a' := ?_) #[true, true, true, true, false, true, true, false, false, false, false, false, false] rfl rfl (take_ofW HT_.out HW_.out (by kernel_rfl)) (fun _ _ _ h => h) (Or.inl ⟨by rfl, ?_⟩) hHeld ?_ ?_
       rotate_left
       ·rintro w' ⟨s0, s1, s2⟩
        go_simp
        with_reducible rfl
       rotate_left
       ·simp only [Act.put, List.setIfInBounds_toArray, List.set_cons_zero, List.set_cons_succ, i64_w, i32_w]
        rfl
       refine one_ (i := 4) (N := some 21) #[true, true, true, true, true, true, true, false, false, false, false, false, false] rfl rfl (one_of HT_.out (by kernel_rfl)) (by decide) (fun K hK => ?_)
       refine goes_ Try.func30 (by kernel_rfl) rfl #[.slice A104_0 ((rd_T48 l0_0 x9_1).f0).length c104_0] (by rfl) rfl rfl (by (try simp only [List.map_toArray, List.map_cons, List.map_nil]); first | done | rfl | (simp only [List.length_drop, List.length_take]; rfl)) ?_
       with_reducible refine (slices_Clone_byte_byte.calls _ _ ((rd_T48 l0_0 x9_1).f0) t106 _ ?side1 ?side2 A11.out).mono ?_
       (case side1 => repeat (first | exact (Kd.C_below HR104_0.out HB.out) | (with_reducible refine Kd.C_alloc ?_ _) | (with_reducible refine Kd.C_drewN ?_ _) | (with_reducible refine Kd.C_drew ?_)))
       (case side2 => exact HC104_0.out)
       rintro e w24 ⟨v107, rfl, ho0, hb⟩
       refine ⟨_, rfl, ?_⟩
       have n0_ := aM (Kd.S_elder' (by (with_reducible repeat (first | apply Kd.S_alloc | apply Kd.S_drewN | apply Kd.S_drew)); exact HO_104000.out) (Kd.R_base ho0) hb)
       have n1_ := aM (Kd.R_lower ho0 (below_size (by repeat (first | (with_reducible first | exact HB.out | apply wA | apply wN | apply wD | refine below_set ?_ GE101.out | refine below_set ?_ GE102.out | refine below_set ?_ GE103.out | refine below_set ?_ GE105.out) | exact HB.out))))
       have n2_ := aM (blk_below (g := gb101) (o := .cells #[.slice (some ad104) l0_0.length c0_0] 24 (0, 0)) (by (with_reducible repeat (first | refine bN ?_ _ | refine bD ?_ | refine bA ?_ _)); exact BK101.out) hb)
       have n3_ := aM (blk_below (g := gb102) (o := .cells #[.slice none 0 0] 24 (0, 0)) (by (with_reducible repeat (first | refine bN ?_ _ | refine bD ?_ | refine bA ?_ _)); exact BK102.out) hb)
       have n4_ := aM (blk_below (g := gb103) (o := .cells #[u104000] 24 (0, 0)) (by (with_reducible repeat (first | refine bN ?_ _ | refine bD ?_ | refine bA ?_ _)); exact BK103.out) hb)
       have n5_ := aM (blk_below (g := gb105) (o := .cells #[.slice A104_0 ((rd_T48 l0_0 x9_1).f0).length c104_0, .slice A104_1 ((rd_T48 l0_0 x9_1).f1).length c104_1] 48 (0, 0)) (by (with_reducible repeat (first | refine bN ?_ _ | refine bD ?_ | refine bA ?_ _)); exact BK105.out) hb)
       have n6_ := aM (below_step (by repeat (first | (with_reducible first | exact HB.out | apply wA | apply wN | apply wD | refine below_set ?_ GE101.out | refine below_set ?_ GE102.out | refine below_set ?_ GE103.out | refine below_set ?_ GE105.out) | exact HB.out)) hb)
       clear HO_104000
       clear BK101
       clear BK102
       clear BK103
       clear BK105
       clear HB
       have HO_104000 := n0_
       have HO108 := n1_
       have BK101 := n2_
       have BK102 := n3_
       have BK103 := n4_
       have BK105 := n5_
       have HB := n6_
       clear n0_ n1_ n2_ n3_ n4_ n5_ n6_
       (try clear hb)
       (try clear hb2)
       (try clear hk)
       (try clear hi)
       (try clear ho0)
       refine hK.out _ _ ⟨(blk_cell BK103.out 0).trans rfl, (blk_cell BK105.out 0).trans rfl, (blk_cell BK105.out 1).trans rfl⟩ (fun hHeld => ?_)
       clear hK K
       refine norm_ (a' := ?_) ?_ ?_
       rotate_left
       ·show Act.put _ (some 21) _ = _
        simp only [Act.put, List.setIfInBounds_toArray, List.set_cons_zero, List.set_cons_succ, i64_w, i32_w]
        rfl
       refine one_ (i := 7) (N := some 24) #[true, true, true, true, true, true, true, true, false, false, false, false, false] rfl rfl (one_of HT_.out (by kernel_rfl)) (by decide) (fun K hK => ?_)
       refine goes_ Try.func30 (by kernel_rfl) rfl #[.slice A104_1 ((rd_T48 l0_0 x9_1).f1).length c104_1] (by rfl) rfl rfl (by (try simp only [List.map_toArray, List.map_cons, List.map_nil]); first | done | rfl | (simp only [List.length_drop, List.length_take]; rfl)) ?_
       with_reducible refine (slices_Clone_byte_byte.calls _ _ ((rd_T48 l0_0 x9_1).f1) t109 _ ?side1 ?side2 A12.out).mono ?_
       (case side1 => repeat (first | exact (Kd.C_below HR104_1.out HB.out) | (with_reducible refine Kd.C_alloc ?_ _) | (with_reducible refine Kd.C_drewN ?_ _) | (with_reducible refine Kd.C_drew ?_)))
       (case side2 => exact HC104_1.out)
       rintro e w25 ⟨v110, rfl, ho0, hb⟩
       refine ⟨_, rfl, ?_⟩
       have n0_ := aM (Kd.S_elder' (by (with_reducible repeat (first | apply Kd.S_alloc | apply Kd.S_drewN | apply Kd.S_drew)); exact HO_104000.out) (Kd.R_base ho0) hb)
       have n1_ := aM (Kd.R_elder' (by (with_reducible repeat (first | apply Kd.R_alloc | apply Kd.R_drewN | apply Kd.R_drew)); exact HO108.out) (Kd.R_base ho0) hb)
       have n2_ := aM (Kd.R_lower (Kd.R_new' ho0 (Kd.R_lt (by (with_reducible repeat (first | apply Kd.R_alloc | apply Kd.R_drewN | apply Kd.R_drew)); exact HO108.out))) (below_size (by repeat (first | (with_reducible first | exact HB.out | apply wA | apply wN | apply wD | refine below_set ?_ GE101.out | refine below_set ?_ GE102.out | refine below_set ?_ GE103.out | refine below_set ?_ GE105.out) | exact HB.out))))
       have n3_ := aM (blk_below (g := gb101) (o := .cells #[.slice (some ad104) l0_0.length c0_0] 24 (0, 0)) (by (with_reducible repeat (first | refine bN ?_ _ | refine bD ?_ | refine bA ?_ _)); exact BK101.out) hb)
       have n4_ := aM (blk_below (g := gb102) (o := .cells #[.slice none 0 0] 24 (0, 0)) (by (with_reducible repeat (first | refine bN ?_ _ | refine bD ?_ | refine bA ?_ _)); exact BK102.out) hb)
       have n5_ := aM (blk_below (g := gb103) (o := .cells #[u104000] 24 (0, 0)) (by (with_reducible repeat (first | refine bN ?_ _ | refine bD ?_ | refine bA ?_ _)); exact BK103.out) hb)
       have n6_ := aM (blk_below (g := gb105) (o := .cells #[.slice A104_0 ((rd_T48 l0_0 x9_1).f0).length c104_0, .slice A104_1 ((rd_T48 l0_0 x9_1).f1).length c104_1] 48 (0, 0)) (by (with_reducible repeat (first | refine bN ?_ _ | refine bD ?_ | refine bA ?_ _)); exact BK105.out) hb)
       have n7_ := aM (below_step (by repeat (first | (with_reducible first | exact HB.out | apply wA | apply wN | apply wD | refine below_set ?_ GE101.out | refine below_set ?_ GE102.out | refine below_set ?_ GE103.out | refine below_set ?_ GE105.out) | exact HB.out)) hb)
       clear HO_104000
       clear HO108
       clear BK101
       clear BK102
       clear BK103
       clear BK105
       clear HB
       have HO_104000 := n0_
       have HO108 := n1_
       have HO111 := n2_
       have BK101 := n3_
       have BK102 := n4_
       have BK103 := n5_
       have BK105 := n6_
       have HB := n7_
       clear n0_ n1_ n2_ n3_ n4_ n5_ n6_ n7_
       (try clear hb)
       (try clear hb2)
       (try clear hk)
       (try clear hi)
       (try clear ho0)
       obtain ⟨Ao26, co26, eo26⟩ := Kd.R_slice HO111.out
       (first | subst eo26 | (injection eo26 with f1_ f2_ f3_; have f4_ := f1_.symm; have f5_ := f3_.symm; clear f1_ f2_ f3_; subst f4_; subst f5_))
       obtain ⟨Ao27, co27, eo27⟩ := Kd.R_slice HO108.out
       (first | subst eo27 | (injection eo27 with f1_ f2_ f3_; have f4_ := f1_.symm; have f5_ := f3_.symm; clear f1_ f2_ f3_; subst f4_; subst f5_))
       refine hK.out _ _ ⟨(blk_cell BK103.out 0).trans rfl, (blk_cell BK105.out 0).trans rfl, (blk_cell BK105.out 1).trans rfl⟩ (fun hHeld => ?_)
       clear hK K
       refine norm_ (a' := ?_) ?_ ?_
       rotate_left
       ·show Act.put _ (some 24) _ = _
        simp only [Act.put, List.setIfInBounds_toArray, List.set_cons_zero, List.set_cons_succ, i64_w, i32_w]
        rfl
       refine pure_ (i := 8) (N := some 25) (v := ?_) (a' := ?_) #[true, true, true, true, true, true, true, true, true, false, false, false, false] rfl rfl (any_of HT_.out (by kernel_rfl)) (fun _ _ _ h => h) (Or.inl ⟨by rfl, ?_⟩) ?_ ?_
       rotate_left
       ·intro w'
        go_simp
        with_reducible rfl
       rotate_left
       ·simp only [Act.put, List.setIfInBounds_toArray, List.set_cons_zero, List.set_cons_succ, i64_w, i32_w]
        rfl
       refine one_ (i := 9) (N := some 26) #[true, true, true, true, true, true, true, true, true, true, false, false, false] rfl rfl (one_of HT_.out (by kernel_rfl)) (by decide) (fun K hK => ?_)
       refine value_ (w1 := ?_) (v := ?_) (by rfl) rfl ?_ ?_
       rotate_left 2
       ·go_simp
        constructor
        ·rfl
        ·rfl
       refine hK.out _ _ ⟨(blk_cell (bA BK103.out _) 0).trans rfl, (blk_cell (bA BK105.out _) 0).trans rfl, (blk_cell (bA BK105.out _) 1).trans rfl⟩ (fun hHeld => ?_)
       clear hK K
       refine norm_ (a' := ?_) ?_ ?_
       rotate_left
       ·show Act.put _ (some 26) _ = _
        simp only [Act.put, List.setIfInBounds_toArray, List.set_cons_zero, List.set_cons_succ, i64_w, i32_w]
        rfl
       refine one_ (i := 10) (N := some 27) #[true, true, true, true, true, true, true, true, true, true, true, false, false] rfl rfl (one_of HT_.out (by kernel_rfl)) (by decide) (fun K hK => ?_)
       refine Kd.S_append_step k48a (w0 := w) w.heap.size (by rfl) (.tmp 18) (.tmp 26) 22 48 (.agg #[(.slice none 0 0), (.slice none 0 0)]) 48 rfl Try.underlying22 info48 rfl (by decide) (by omega) u104000 x104000_1 (⟨t106, t109⟩ : S48) [.slice Ao27 t106.length co27, .slice Ao26 t109.length co26] (fun k_ => k_ ≠ gb105) (fun k_ => some k_ = (.slice Ao27 t106.length co27 : Value).ownBlock ∨ some k_ = (.slice Ao26 t109.length co26 : Value).ownBlock) rfl rfl ?aP (fun k_ hk_ => hk_.elim (fun h_ => ((Kd.R_mono (ok' := fun k_ => ((fun k_ => k_ ≠ gb105)) k_ ∧ some k_ ≠ (u104000 : Value).ownBlock) (Kd.R_types (Kd.R_apart' (HO108.out) (Kd.S_typed HO_104000.out) (by decide)) BK105.out (by decide)) (fun k_ hk => ⟨hk.2, hk.1.2⟩))).1 k_ h_.symm) (fun h_ => ((Kd.R_mono (ok' := fun k_ => ((fun k_ => k_ ≠ gb105)) k_ ∧ some k_ ≠ (u104000 : Value).ownBlock) (Kd.R_types (Kd.R_apart' (HO111.out) (Kd.S_typed HO_104000.out) (by decide)) BK105.out (by decide)) (fun k_ hk => ⟨hk.2, hk.1.2⟩))).1 k_ h_.symm)) ?aF ?aO ?aB ?aS ?aL ?_
       (case aP => exact k48a_mkM (⟨t106, t109⟩ : S48) (Kd.R_tight rfl (Kd.R_mono (ok' := fun k_ => ((fun k_ => k_ ≠ gb105)) k_ ∧ some k_ ≠ (u104000 : Value).ownBlock) (Kd.R_types (Kd.R_apart' (HO108.out) (Kd.S_typed HO_104000.out) (by decide)) BK105.out (by decide)) (fun k_ hk => ⟨hk.2, hk.1.2⟩))) (Kd.R_tight rfl (Kd.R_mono (ok' := fun k_ => ((fun k_ => k_ ≠ gb105)) k_ ∧ some k_ ≠ (u104000 : Value).ownBlock) (Kd.R_types (Kd.R_apart' (HO111.out) (Kd.S_typed HO_104000.out) (by decide)) BK105.out (by decide)) (fun k_ hk => ⟨hk.2, hk.1.2⟩))) (fun k_ h_ e_ => (HO108.out.1 k_ e_).2 h_))
       (case aB => exact (by repeat (first | (with_reducible first | exact HB.out | apply wA | apply wN | apply wD | refine below_set ?_ GE101.out | refine below_set ?_ GE102.out | refine below_set ?_ GE103.out | refine below_set ?_ GE105.out) | exact HB.out)))
       (case aF => exact (fun k_ hk => Kd.freshB (g := gb105) (o := .cells #[.slice A104_0 ((rd_T48 l0_0 x9_1).f0).length c104_0, .slice A104_1 ((rd_T48 l0_0 x9_1).f1).length c104_1] 48 (0, 0)) (by (with_reducible repeat (first | refine bN ?_ _ | refine bD ?_ | refine bA ?_ _)); exact BK105.out) k_ hk))
       (case aO => exact (by (with_reducible repeat (first | apply Kd.S_alloc | apply Kd.S_drewN | apply Kd.S_drew)); exact Kd.S_mono HO_104000.out (fun k_ hk => ⟨hk.1.1, fun e_ => e_.elim (fun h_ => hk.1.2 h_) (fun h_ => hk.2 h_)⟩)))
       (case aS => exact (below_size (by repeat (first | (with_reducible first | exact HB.out | apply wA | apply wN | apply wD | refine below_set ?_ GE101.out | refine below_set ?_ GE102.out | refine below_set ?_ GE103.out | refine below_set ?_ GE105.out) | exact HB.out))))
       (case aL => have := LMc13.out; omega)
       intro v113 w28 ho hb hg hat
       rw [← Ny112.out] at ho
       have n0_ := aM (blk_grown (g := gb101) (o := .cells #[.slice (some ad104) l0_0.length c0_0] 24 (0, 0)) (by (with_reducible repeat (first | refine bN ?_ _ | refine bD ?_ | refine bA ?_ _)); exact BK101.out) hg (Kd.S_ne HO_104000.out BK101.out (by decide)))
       have n1_ := aM (blk_grown (g := gb102) (o := .cells #[.slice none 0 0] 24 (0, 0)) (by (with_reducible repeat (first | refine bN ?_ _ | refine bD ?_ | refine bA ?_ _)); exact BK102.out) hg (Kd.S_ne HO_104000.out BK102.out (by decide)))
       have n2_ := aM (blk_grown (g := gb103) (o := .cells #[u104000] 24 (0, 0)) (by (with_reducible repeat (first | refine bN ?_ _ | refine bD ?_ | refine bA ?_ _)); exact BK103.out) hg (Kd.S_ne HO_104000.out BK103.out (by decide)))
       have n3_ := aM (blk_grown (g := gb105) (o := .cells #[.slice A104_0 ((rd_T48 l0_0 x9_1).f0).length c104_0, .slice A104_1 ((rd_T48 l0_0 x9_1).f1).length c104_1] 48 (0, 0)) (by (with_reducible repeat (first | refine bN ?_ _ | refine bD ?_ | refine bA ?_ _)); exact BK105.out) hg (Kd.S_away HO_104000.out (fun _ hk => hk.1.1)))
       have n4_ := aM (hb)
       have n5_ := aM (ho)
       clear BK101
       clear BK102
       clear BK103
       clear BK105
       clear HB
       clear HO_104000
       clear HO108
       clear HO111
       have BK101 := n0_
       have BK102 := n1_
       have BK103 := n2_
       have BK105 := n3_
       have HB := n4_
       have HO114 := n5_
       clear n0_ n1_ n2_ n3_ n4_ n5_
       clear ho hb hg hat
       obtain ⟨Ao29, co29, eo29⟩ := Kd.S_slice HO114.out
       (first | subst eo29 | (injection eo29 with f1_ f2_ f3_; have f4_ := f1_.symm; have f5_ := f3_.symm; clear f1_ f2_ f3_; subst f4_; subst f5_))
       refine hK.out _ _ ⟨(blk_cell BK103.out 0).trans rfl, (blk_cell BK105.out 0).trans rfl, (blk_cell BK105.out 1).trans rfl⟩ (fun hHeld => ?_)
       clear hK K
       refine norm_ (a' := ?_) ?_ ?_
       rotate_left
       ·show Act.put _ (some 27) _ = _
        simp only [Act.put, List.setIfInBounds_toArray, List.set_cons_zero, List.set_cons_succ, i64_w, i32_w]
        rfl
       refine pure_ (i := 11) (N := some 28) (v := ?_) (a' := ?_) #[true, true, true, true, true, true, true, true, true, true, true, true, false] rfl rfl (any_of HT_.out (by kernel_rfl)) (fun _ _ _ h => h) (Or.inl ⟨by rfl, ?_⟩) ?_ ?_
       rotate_left
       ·intro w'
        go_simp
        with_reducible rfl
       rotate_left
       ·simp only [Act.put, List.setIfInBounds_toArray, List.set_cons_zero, List.set_cons_succ, i64_w, i32_w]
        rfl
       refine last_ (i := 12) (N := none) #[true, true, true, true, true, true, true, true, true, true, true, true, true] rfl rfl (one_of HT_.out (by kernel_rfl)) (by decide) (fun K hK => ?_)
       have hs30 : w28.cell? ⟨gb103, 0, none⟩ = some (u104000) := (blk_cell BK103.out 0).trans rfl
       have hfs30 := blk_frozen BK103.out 0
       have hns30_0 := NB101_103.out
       have hns30_1 := NB102_103.out
       have hns30_3 := NB105_103.out
       have hms30_0 := NB103_101.out
       have hms30_1 := NB103_102.out
       have hms30_3 := NB103_105.out
       refine skip_ (w1 := ?_) (by rfl) rfl ?_ ?_
       rotate_left
       ·go_simp
        rfl
       refine hK.out _ _ ?_
       clear hK K
       refine done_ (done_of HT_.out (by kernel_rfl)) ?_
       try go_wp2
       go_roundg k1
       case measure => have := HK1.out; omega
       case rel => exact ⟨(wrap64 (x9_1 + 1)), (y112), (.slice Ao29 y112.length co29), (by first | rfl | (simp; done) | (simp [*]; done)), H', ⟨by have := HK1.out; omega⟩, ⟨by (with_reducible repeat (first | apply Kd.S_alloc | apply Kd.S_drewN | apply Kd.S_drew)); exact Kd.S_mono (Kd.S_far (p := ⟨gb103, 0, none⟩) (Kd.S_types HO114.out BK103.out (by decide)) (fun _ hk => hk.2) (.slice Ao29 y112.length co29)) (fun _ hk => trivial)⟩, ⟨by (with_reducible repeat (first | refine bN ?_ _ | refine bD ?_ | refine bA ?_ _)); refine blk_far ?_ NB101_103.out _; (with_reducible repeat (first | refine bN ?_ _ | refine bD ?_ | refine bA ?_ _)); exact BK101.out⟩, ⟨by (with_reducible repeat (first | refine bN ?_ _ | refine bD ?_ | refine bA ?_ _)); refine blk_far ?_ NB102_103.out _; (with_reducible repeat (first | refine bN ?_ _ | refine bD ?_ | refine bA ?_ _)); exact BK102.out⟩, ⟨by (with_reducible repeat (first | refine bN ?_ _ | refine bD ?_ | refine bA ?_ _)); refine blk_put (cs := #[u104000]) ?_ 0 _ rfl; (with_reducible repeat (first | refine bN ?_ _ | refine bD ?_ | refine bA ?_ _)); exact BK103.out⟩, ⟨by repeat (first | (with_reducible first | exact HB.out | apply wA | apply wN | apply wD | refine below_set ?_ GE101.out | refine below_set ?_ GE102.out | refine below_set ?_ GE103.out | refine below_set ?_ GE105.out) | exact HB.out)⟩⟩
      ·rw [if_neg c13] at H
       exact absurd H (by simp)
     ·rw [if_neg c10] at H
      exact absurd H (by simp)
    ·rw [if_neg c9] at H
     exact absurd H (by simp)
   ·rw [if_neg c8] at H
    have c8b0 : decide (x9_1 < (l0_0.length : Int)) = false := decide_eq_false c8
    clear c8
    obtain rfl := Option.some.inj H
    have hnb31 := NB103_101.out
    have hnc31 := NB101_103.out
    have hnb32 := NB103_102.out
    have hnc32 := NB102_103.out
    have hcz33_0 : wr.cell? ⟨gb103, 0, none⟩ = some (u104000) := (blk_cell BK103.out 0).trans rfl
    have hfz33_0 := blk_frozen BK103.out 0
    obtain ⟨Ao34, co34, eo34⟩ := Kd.S_slice HO_104000.out
    subst eo34
    have hnb35 := NB102_101.out
    have hnc35 := NB101_102.out
    have hcz36_0 : wr.cell? ⟨gb102, 0, none⟩ = some (.slice none 0 0) := (blk_cell BK102.out 0).trans rfl
    have hfz36_0 := blk_frozen BK102.out 0
    go_wp2
    refine bodyPost_ret (results_cell_row rfl _ _ gb102 24 #[.slice Ao34 x104000_1.length co34] (0, 0) _ rfl (by (with_reducible repeat (first | refine bN ?_ _ | refine bD ?_ | refine bA ?_ _)); refine blk_put (cs := #[.slice none 0 0]) ?_ 0 _ rfl; (with_reducible repeat (first | refine bN ?_ _ | refine bD ?_ | refine bA ?_ _)); exact BK102.out) Try.underlying24 rfl (by kernel_rfl)) rfl ?_
    exact ⟨_, by first | rfl | (simp [errW_none, errW_some] <;> rfl) | (simp [*, errW_none, errW_some] <;> rfl), by (with_reducible repeat (first | apply Kd.S_alloc | apply Kd.S_drewN | apply Kd.S_drew)); exact Kd.S_mono (Kd.S_far (p := ⟨gb102, 0, none⟩) (Kd.S_types HO_104000.out BK102.out (by decide)) (fun _ hk => hk.2) (.slice Ao34 x104000_1.length co34)) (fun _ hk => trivial), by repeat (first | (with_reducible first | exact HB.out | apply wA | apply wN | apply wD | refine below_set ?_ GE101.out | refine below_set ?_ GE102.out | refine below_set ?_ GE103.out) | exact HB.out)⟩



end Go.Proofs.Ytnfbjdnflifcoaa.PDk
