-- Laid by wip/tools/xprint.py, a program of this session over the kit's print: functions as Lean functions, each with its contract.
import Derived.Test.YtiflebfnhjlfdaaPNkx0
import Derived.Test.YtiflebfnhjlfdaaPNkx1
namespace Go.Proofs.Ytiflebfnhjlfdaa.PNk
open Go.RowKit Go.Proofs.YtiflebfnhjlfdaaW.PrintWords Go.Proofs.YtiflebfnhjlfdaaW.PrintLast Go.Proofs.YtiflebfnhjlfdaaW.PrintMore
attribute [local go_sem] max2_int min2_int max_two min_two max_three min_three max_four min_four   -- for this text's walks alone
set_option linter.unusedVariables false
set_option linter.unusedSimpArgs false

attribute [local go_sem high] eqA24
/-! ### rollbacknetref14_Find: function 12 -/
def rollbacknetref14_Find.l0 : Nat → List (S32) → Int → Int → Int → Int → Int → Option (Int)
 | 0, _, _, _, _, _, _ => none
 | k + 1, x0, x1, x3, x9, x147000, x147001 => if x9 < (x0.length : Int) then (if 0 ≤ x9 then (if ((rd_T32 x0 x9).f0) = x1 then (if (((rd_T32 x0 x9).f2.f0) == x147000 && (((rd_T32 x0 x9).f2.f1) == x147001)) = true then (if ((rd_T32 x0 x9).f3) = x3 then (some x9) else (rollbacknetref14_Find.l0 k x0 x1 x3 (wrap64 (x9 + 1)) x147000 x147001)) else (rollbacknetref14_Find.l0 k x0 x1 x3 (wrap64 (x9 + 1)) x147000 x147001)) else (rollbacknetref14_Find.l0 k x0 x1 x3 (wrap64 (x9 + 1)) x147000 x147001)) else (none)) else (some (-1))
def rollbacknetref14_Find.f (k : Nat) (l0 : List (S32)) (a1 : Int) (a2_0 : Int) (a2_1 : Int) (a3 : Int) : Option (Int) := rollbacknetref14_Find.l0 k l0 a1 a3 0 a2_0 a2_1
theorem rollbacknetref14_Find.mono_l : ∀ k, (∀ y0 y1 y2 y3 y4 y5, LeO (rollbacknetref14_Find.l0 k y0 y1 y2 y3 y4 y5) (rollbacknetref14_Find.l0 (k + 1) y0 y1 y2 y3 y4 y5))
 | 0 => fun _ _ _ _ _ _ r h => by simp [rollbacknetref14_Find.l0] at h
 | k + 1 => by
  have ih0 := rollbacknetref14_Find.mono_l k
  ·intro y0 y1 y2 y3 y4 y5
   unfold rollbacknetref14_Find.l0
   repeat' first
   | (with_reducible exact ih0 _ _ _ _ _ _)
   | (with_reducible exact LeO.refl _)
   | (with_reducible exact LeO.none _)
   | (with_reducible refine LeO.ite ?_ ?_)
   | (with_reducible refine LeO.bind ?_ (fun _ => ?_))
   | exact ih0 _ _ _ _ _ _
   | exact LeO.none _
   | refine LeO.ite ?_ ?_
   | refine LeO.bind ?_ (fun _ => ?_)
theorem rollbacknetref14_Find.mono : ∀ a0 a1 a2 a3 a4 k, LeO (rollbacknetref14_Find.f k a0 a1 a2 a3 a4) (rollbacknetref14_Find.f (k + 1) a0 a1 a2 a3 a4) := by
 intro a0 a1 a2 a3 a4 k
 have ih0 := rollbacknetref14_Find.mono_l k
 unfold rollbacknetref14_Find.f
 repeat' first
   | (with_reducible exact ih0 _ _ _ _ _ _)
   | (with_reducible exact LeO.refl _)
   | (with_reducible exact LeO.none _)
   | (with_reducible refine LeO.ite ?_ ?_)
   | (with_reducible refine LeO.bind ?_ (fun _ => ?_))
   | exact ih0 _ _ _ _ _ _
   | exact LeO.none _
   | refine LeO.ite ?_ ?_
   | refine LeO.bind ?_ (fun _ => ?_)
set_option maxHeartbeats 8000000 in
set_option maxRecDepth 100000 in
theorem rollbacknetref14_Find.calls (k : Nat) (A0 : Option Addr) (c0 : Nat) (l0 : List (S32)) (a1 : Int) (a2_0 : Int) (a2_1 : Int) (a3 : Int) (r : Int) (w : World) (hr0 : Kd.C k32 w A0 l0.length l0) (hc0 : l0.length ≤ c0) (h : rollbacknetref14_Find.f k l0 a1 a2_0 a2_1 a3 = some r) :
  Calls Try.prog 12 #[.slice A0 l0.length c0, .int .i64 a1, .agg #[.int .i64 a2_0, .int .i64 a2_1], .int .i64 a3] w fun e w' => e = .returned (.int .i64 r) ∧ Below w.heap.size w w' := by
 have hu24 := Try.underlying24
 have HR0 := aM hr0
 have HC0 := aM hc0
 clear hr0 hc0
 have HB := aM (Below.refl w.heap.size w)
 have H : (rollbacknetref14_Find.l0 k l0 a1 a3 0 a2_0 a2_1) = some r := h
 clear h
 have H' := aM H
 clear H
 go_enter Try.func12, Try.ntmps12
 go_wp2_with (first | ((with_reducible refine gate_dst (N := 6) rfl ?_); refine box_event ?hg (N := 6) ?hd (cs := #[.int .i64 a2_0, .int .i64 a2_1]) (t := 24) ?hr ?_; (case hd => rfl); (case hg => rfl); (case hr => first | (go_simp; done) | (go_simp; rfl)); intro gb146 hg w5 hbox hb; have n0_ := aM (below_step (by repeat (first | (with_reducible first | exact HB.out | apply wA | apply wN | apply wD) | exact HB.out)) hb); have n1_ := aM (hbox); have n2_ := aM ((by rw [hg]; exact (below_size (by repeat (first | (with_reducible first | exact HB.out | apply wA | apply wN | apply wD) | exact HB.out))) : w.heap.size ≤ gb146)); have n3_ := aM ((by rw [hg]; exact (below_size (by repeat (first | (with_reducible first | exact HB.out | apply wA | apply wN | apply wD) | exact HB.out))) : w.heap.size ≤ gb146)); clear HB; have HB := n0_; have BK146 := n1_; have GW146 := n2_; have GE146 := n3_; clear n0_ n1_ n2_ n3_; clear hb hbox hg))
 repeat (go_quiet (first | ((with_reducible refine gate_dst (N := 6) rfl ?_); refine box_event ?hg (N := 6) ?hd (cs := #[.int .i64 a2_0, .int .i64 a2_1]) (t := 24) ?hr ?_; (case hd => rfl); (case hg => rfl); (case hr => first | (go_simp; done) | (go_simp; rfl)); intro gb146 hg w5 hbox hb; have n0_ := aM (below_step (by repeat (first | (with_reducible first | exact HB.out | apply wA | apply wN | apply wD) | exact HB.out)) hb); have n1_ := aM (hbox); have n2_ := aM ((by rw [hg]; exact (below_size (by repeat (first | (with_reducible first | exact HB.out | apply wA | apply wN | apply wD) | exact HB.out))) : w.heap.size ≤ gb146)); have n3_ := aM ((by rw [hg]; exact (below_size (by repeat (first | (with_reducible first | exact HB.out | apply wA | apply wN | apply wD) | exact HB.out))) : w.heap.size ≤ gb146)); clear HB; have HB := n0_; have BK146 := n1_; have GW146 := n2_; have GE146 := n3_; clear n0_ n1_ n2_ n3_; clear hb hbox hg)); try go_wp2_with (first | ((with_reducible refine gate_dst (N := 6) rfl ?_); refine box_event ?hg (N := 6) ?hd (cs := #[.int .i64 a2_0, .int .i64 a2_1]) (t := 24) ?hr ?_; (case hd => rfl); (case hg => rfl); (case hr => first | (go_simp; done) | (go_simp; rfl)); intro gb146 hg w5 hbox hb; have n0_ := aM (below_step (by repeat (first | (with_reducible first | exact HB.out | apply wA | apply wN | apply wD) | exact HB.out)) hb); have n1_ := aM (hbox); have n2_ := aM ((by rw [hg]; exact (below_size (by repeat (first | (with_reducible first | exact HB.out | apply wA | apply wN | apply wD) | exact HB.out))) : w.heap.size ≤ gb146)); have n3_ := aM ((by rw [hg]; exact (below_size (by repeat (first | (with_reducible first | exact HB.out | apply wA | apply wN | apply wD) | exact HB.out))) : w.heap.size ≤ gb146)); clear HB; have HB := n0_; have BK146 := n1_; have GW146 := n2_; have GE146 := n3_; clear n0_ n1_ n2_ n3_; clear hb hbox hg)))
 go_loopg [9] k (fun kq v9 w' => ∃ (x9_1 : Int), v9 = .int .i64 x9_1 ∧ Aside0 (rollbacknetref14_Find.l0 kq l0 a1 a3 x9_1 a2_0 a2_1 = some r) ∧ Aside0 (kq ≤ k) ∧ Aside0 (w'.heap[gb146]? = some (.cells #[.int .i64 a2_0, .int .i64 a2_1] 24 (0, 0))) ∧ Aside0 (Below w.heap.size w w'))
 case atStart => exact ⟨(0), (by first | rfl | (simp; done) | (simp [*]; done)), H', ⟨Nat.le_refl _⟩, ⟨by (with_reducible repeat (first | refine bN ?_ _ | refine bD ?_ | refine bA ?_ _)); exact BK146.out⟩, ⟨by repeat (first | (with_reducible first | exact HB.out | apply wA | apply wN | apply wD | refine below_set ?_ GE146.out) | exact HB.out)⟩⟩
 case round =>
  clear H'
  try clear c1
  try clear p2
  obtain ⟨x9_1, rfl, HA, HK1, BK146, HB⟩ := hrel
  cases gk with
  | zero => exact absurd HA.out (by simp [rollbacknetref14_Find.l0])
  | succ k1 =>
   have H := HA.out
   clear HA
   simp only [rollbacknetref14_Find.l0] at H
   by_cases c6 : x9_1 < (l0.length : Int)
   ·rw [if_pos c6] at H
    have c6b0 : decide (x9_1 < (l0.length : Int)) = true := decide_eq_true c6
    clear c6
    by_cases c7 : 0 ≤ x9_1
    ·rw [if_pos c7] at H
     have c7b0 : decide (0 ≤ x9_1) = true := decide_eq_true c7
     clear c7
     by_cases c8 : ((rd_T32 l0 x9_1).f0) = a1
     ·rw [if_pos c8] at H
      have c8b0 : (((rd_T32 l0 x9_1).f0) == a1) = true := beq_iff_eq.mpr c8
      have c8b1 : (((rd_T32 l0 x9_1).f0) != a1) = false := bne_eq_false_iff_eq.mpr c8
      clear c8
      by_cases c9 : (((rd_T32 l0 x9_1).f2.f0) == a2_0 && (((rd_T32 l0 x9_1).f2.f1) == a2_1)) = true
      ·rw [if_pos c9] at H
       have c9b0 : (((rd_T32 l0 x9_1).f2.f0) == a2_0 && (((rd_T32 l0 x9_1).f2.f1) == a2_1)) = true := c9
       (try (have c9b1 : decide (((rd_T32 l0 x9_1).f2.f0) = a2_0 && (((rd_T32 l0 x9_1).f2.f1) == a2_1)) = true := by simpa using c9))
       (try (have c9b2 : (((rd_T32 l0 x9_1).f2.f0) == a2_0 && (((rd_T32 l0 x9_1).f2.f1) == a2_1)) = true := by simpa using c9))
       clear c9
       by_cases c10 : ((rd_T32 l0 x9_1).f3) = a3
       ·rw [if_pos c10] at H
        have c10b0 : (((rd_T32 l0 x9_1).f3) == a3) = true := beq_iff_eq.mpr c10
        have c10b1 : (((rd_T32 l0 x9_1).f3) != a3) = false := bne_eq_false_iff_eq.mpr c10
        clear c10
        obtain rfl := Option.some.inj H
        have p147 : 0 ≤ (x9_1 : Int) := of_decide_eq_true (by first | (with_reducible assumption) | assumption)
        have q147 : x9_1 < (l0.length : Int) := of_decide_eq_true (by first | (with_reducible assumption) | assumption)
        obtain ⟨ad147, A147_7, c147_7, A147_8, c147_8, e147, hx147_0, hx147_1, hx147_2, hx147_3, hx147_4, hx147_5, hx147_6, hx147_7, hx147_8, hl147_7, hi147_7, hl147_8, hi147_8⟩ := at_T32 HR0.out x9_1 p147 q147
        cases e147
        replace hx147_0 := (HB.out.cell (World.block_lt_of_cell? w _ hx147_0)).trans hx147_0
        replace hx147_1 := (HB.out.cell (World.block_lt_of_cell? w _ hx147_1)).trans hx147_1
        replace hx147_2 := (HB.out.cell (World.block_lt_of_cell? w _ hx147_2)).trans hx147_2
        replace hx147_3 := (HB.out.cell (World.block_lt_of_cell? w _ hx147_3)).trans hx147_3
        replace hx147_4 := (HB.out.cell (World.block_lt_of_cell? w _ hx147_4)).trans hx147_4
        replace hx147_5 := (HB.out.cell (World.block_lt_of_cell? w _ hx147_5)).trans hx147_5
        replace hx147_6 := (HB.out.cell (World.block_lt_of_cell? w _ hx147_6)).trans hx147_6
        replace hx147_7 := (HB.out.cell (World.block_lt_of_cell? w _ hx147_7)).trans hx147_7
        replace hx147_8 := (HB.out.cell (World.block_lt_of_cell? w _ hx147_8)).trans hx147_8
        have HR147_7 := aM hi147_7
        have HC147_7 := aM hl147_7
        clear hi147_7 hl147_7
        have HR147_8 := aM hi147_8
        have HC147_8 := aM hl147_8
        clear hi147_8 hl147_8
        replace p147 := eq_true p147
        replace q147 := eq_true q147
        have p148 : 0 ≤ (x9_1 : Int) := of_decide_eq_true (by first | (with_reducible assumption) | assumption)
        have q148 : x9_1 < (l0.length : Int) := of_decide_eq_true (by first | (with_reducible assumption) | assumption)
        obtain ⟨ad148, A148_7, c148_7, A148_8, c148_8, e148, hx148_0, hx148_1, hx148_2, hx148_3, hx148_4, hx148_5, hx148_6, hx148_7, hx148_8, hl148_7, hi148_7, hl148_8, hi148_8⟩ := at_T32 HR0.out x9_1 p148 q148
        obtain rfl : ad147 = ad148 := (by injection e148)
        replace hx148_0 := (HB.out.cell (World.block_lt_of_cell? w _ hx148_0)).trans hx148_0
        replace hx148_1 := (HB.out.cell (World.block_lt_of_cell? w _ hx148_1)).trans hx148_1
        replace hx148_2 := (HB.out.cell (World.block_lt_of_cell? w _ hx148_2)).trans hx148_2
        replace hx148_3 := (HB.out.cell (World.block_lt_of_cell? w _ hx148_3)).trans hx148_3
        replace hx148_4 := (HB.out.cell (World.block_lt_of_cell? w _ hx148_4)).trans hx148_4
        replace hx148_5 := (HB.out.cell (World.block_lt_of_cell? w _ hx148_5)).trans hx148_5
        replace hx148_6 := (HB.out.cell (World.block_lt_of_cell? w _ hx148_6)).trans hx148_6
        replace hx148_7 := (HB.out.cell (World.block_lt_of_cell? w _ hx148_7)).trans hx148_7
        replace hx148_8 := (HB.out.cell (World.block_lt_of_cell? w _ hx148_8)).trans hx148_8
        have HR148_7 := aM hi148_7
        have HC148_7 := aM hl148_7
        clear hi148_7 hl148_7
        have HR148_8 := aM hi148_8
        have HC148_8 := aM hl148_8
        clear hi148_8 hl148_8
        replace p148 := eq_true p148
        replace q148 := eq_true q148
        have ea_ := Option.some.inj (hx147_7.symm.trans hx148_7)
        injection ea_ with ea_ en_ ec_
        subst ea_
        subst ec_
        clear en_
        have ea_ := Option.some.inj (hx147_8.symm.trans hx148_8)
        injection ea_ with ea_ en_ ec_
        subst ea_
        subst ec_
        clear en_
        have hcz11_0 : wr.cell? ⟨gb146, 0, none⟩ = some (.int .i64 a2_0) := (blk_cell BK146.out 0).trans rfl
        have hcz11_1 : wr.cell? ⟨gb146, 1, none⟩ = some (.int .i64 a2_1) := (blk_cell BK146.out 1).trans rfl
        have hfz11_0 := blk_frozen BK146.out 0
        have hfz11_1 := blk_frozen BK146.out 1
        have p149 : 0 ≤ (x9_1 : Int) := of_decide_eq_true (by first | (with_reducible assumption) | assumption)
        have q149 : x9_1 < (l0.length : Int) := of_decide_eq_true (by first | (with_reducible assumption) | assumption)
        obtain ⟨ad149, A149_7, c149_7, A149_8, c149_8, e149, hx149_0, hx149_1, hx149_2, hx149_3, hx149_4, hx149_5, hx149_6, hx149_7, hx149_8, hl149_7, hi149_7, hl149_8, hi149_8⟩ := at_T32 HR0.out x9_1 p149 q149
        obtain rfl : ad147 = ad149 := (by injection e149)
        replace hx149_0 := (HB.out.cell (World.block_lt_of_cell? w _ hx149_0)).trans hx149_0
        replace hx149_1 := (HB.out.cell (World.block_lt_of_cell? w _ hx149_1)).trans hx149_1
        replace hx149_2 := (HB.out.cell (World.block_lt_of_cell? w _ hx149_2)).trans hx149_2
        replace hx149_3 := (HB.out.cell (World.block_lt_of_cell? w _ hx149_3)).trans hx149_3
        replace hx149_4 := (HB.out.cell (World.block_lt_of_cell? w _ hx149_4)).trans hx149_4
        replace hx149_5 := (HB.out.cell (World.block_lt_of_cell? w _ hx149_5)).trans hx149_5
        replace hx149_6 := (HB.out.cell (World.block_lt_of_cell? w _ hx149_6)).trans hx149_6
        replace hx149_7 := (HB.out.cell (World.block_lt_of_cell? w _ hx149_7)).trans hx149_7
        replace hx149_8 := (HB.out.cell (World.block_lt_of_cell? w _ hx149_8)).trans hx149_8
        have HR149_7 := aM hi149_7
        have HC149_7 := aM hl149_7
        clear hi149_7 hl149_7
        have HR149_8 := aM hi149_8
        have HC149_8 := aM hl149_8
        clear hi149_8 hl149_8
        replace p149 := eq_true p149
        replace q149 := eq_true q149
        have ea_ := Option.some.inj (hx147_7.symm.trans hx149_7)
        injection ea_ with ea_ en_ ec_
        subst ea_
        subst ec_
        clear en_
        have ea_ := Option.some.inj (hx147_8.symm.trans hx149_8)
        injection ea_ with ea_ en_ ec_
        subst ea_
        subst ec_
        clear en_
        go_wp2
        repeat (go_quiet (fail); try go_wp2)
        go_ret
        exact ⟨by first | rfl | (simp [errW_none, errW_some] <;> rfl) | (simp [*, errW_none, errW_some] <;> rfl), by repeat (first | (with_reducible first | exact HB.out | apply wA | apply wN | apply wD | refine below_set ?_ GE146.out) | exact HB.out)⟩
       ·rw [if_neg c10] at H
        have c10b0 : (((rd_T32 l0 x9_1).f3) == a3) = false := beq_eq_false_iff_ne.mpr c10
        have c10b1 : (((rd_T32 l0 x9_1).f3) != a3) = true := bne_iff_ne.mpr c10
        have H' := aM H
        clear H
        have p147 : 0 ≤ (x9_1 : Int) := of_decide_eq_true (by first | (with_reducible assumption) | assumption)
        have q147 : x9_1 < (l0.length : Int) := of_decide_eq_true (by first | (with_reducible assumption) | assumption)
        obtain ⟨ad147, A147_7, c147_7, A147_8, c147_8, e147, hx147_0, hx147_1, hx147_2, hx147_3, hx147_4, hx147_5, hx147_6, hx147_7, hx147_8, hl147_7, hi147_7, hl147_8, hi147_8⟩ := at_T32 HR0.out x9_1 p147 q147
        cases e147
        replace hx147_0 := (HB.out.cell (World.block_lt_of_cell? w _ hx147_0)).trans hx147_0
        replace hx147_1 := (HB.out.cell (World.block_lt_of_cell? w _ hx147_1)).trans hx147_1
        replace hx147_2 := (HB.out.cell (World.block_lt_of_cell? w _ hx147_2)).trans hx147_2
        replace hx147_3 := (HB.out.cell (World.block_lt_of_cell? w _ hx147_3)).trans hx147_3
        replace hx147_4 := (HB.out.cell (World.block_lt_of_cell? w _ hx147_4)).trans hx147_4
        replace hx147_5 := (HB.out.cell (World.block_lt_of_cell? w _ hx147_5)).trans hx147_5
        replace hx147_6 := (HB.out.cell (World.block_lt_of_cell? w _ hx147_6)).trans hx147_6
        replace hx147_7 := (HB.out.cell (World.block_lt_of_cell? w _ hx147_7)).trans hx147_7
        replace hx147_8 := (HB.out.cell (World.block_lt_of_cell? w _ hx147_8)).trans hx147_8
        have HR147_7 := aM hi147_7
        have HC147_7 := aM hl147_7
        clear hi147_7 hl147_7
        have HR147_8 := aM hi147_8
        have HC147_8 := aM hl147_8
        clear hi147_8 hl147_8
        replace p147 := eq_true p147
        replace q147 := eq_true q147
        have p148 : 0 ≤ (x9_1 : Int) := of_decide_eq_true (by first | (with_reducible assumption) | assumption)
        have q148 : x9_1 < (l0.length : Int) := of_decide_eq_true (by first | (with_reducible assumption) | assumption)
        obtain ⟨ad148, A148_7, c148_7, A148_8, c148_8, e148, hx148_0, hx148_1, hx148_2, hx148_3, hx148_4, hx148_5, hx148_6, hx148_7, hx148_8, hl148_7, hi148_7, hl148_8, hi148_8⟩ := at_T32 HR0.out x9_1 p148 q148
        obtain rfl : ad147 = ad148 := (by injection e148)
        replace hx148_0 := (HB.out.cell (World.block_lt_of_cell? w _ hx148_0)).trans hx148_0
        replace hx148_1 := (HB.out.cell (World.block_lt_of_cell? w _ hx148_1)).trans hx148_1
        replace hx148_2 := (HB.out.cell (World.block_lt_of_cell? w _ hx148_2)).trans hx148_2
        replace hx148_3 := (HB.out.cell (World.block_lt_of_cell? w _ hx148_3)).trans hx148_3
        replace hx148_4 := (HB.out.cell (World.block_lt_of_cell? w _ hx148_4)).trans hx148_4
        replace hx148_5 := (HB.out.cell (World.block_lt_of_cell? w _ hx148_5)).trans hx148_5
        replace hx148_6 := (HB.out.cell (World.block_lt_of_cell? w _ hx148_6)).trans hx148_6
        replace hx148_7 := (HB.out.cell (World.block_lt_of_cell? w _ hx148_7)).trans hx148_7
        replace hx148_8 := (HB.out.cell (World.block_lt_of_cell? w _ hx148_8)).trans hx148_8
        have HR148_7 := aM hi148_7
        have HC148_7 := aM hl148_7
        clear hi148_7 hl148_7
        have HR148_8 := aM hi148_8
        have HC148_8 := aM hl148_8
        clear hi148_8 hl148_8
        replace p148 := eq_true p148
        replace q148 := eq_true q148
        have ea_ := Option.some.inj (hx147_7.symm.trans hx148_7)
        injection ea_ with ea_ en_ ec_
        subst ea_
        subst ec_
        clear en_
        have ea_ := Option.some.inj (hx147_8.symm.trans hx148_8)
        injection ea_ with ea_ en_ ec_
        subst ea_
        subst ec_
        clear en_
        have hcz12_0 : wr.cell? ⟨gb146, 0, none⟩ = some (.int .i64 a2_0) := (blk_cell BK146.out 0).trans rfl
        have hcz12_1 : wr.cell? ⟨gb146, 1, none⟩ = some (.int .i64 a2_1) := (blk_cell BK146.out 1).trans rfl
        have hfz12_0 := blk_frozen BK146.out 0
        have hfz12_1 := blk_frozen BK146.out 1
        have p149 : 0 ≤ (x9_1 : Int) := of_decide_eq_true (by first | (with_reducible assumption) | assumption)
        have q149 : x9_1 < (l0.length : Int) := of_decide_eq_true (by first | (with_reducible assumption) | assumption)
        obtain ⟨ad149, A149_7, c149_7, A149_8, c149_8, e149, hx149_0, hx149_1, hx149_2, hx149_3, hx149_4, hx149_5, hx149_6, hx149_7, hx149_8, hl149_7, hi149_7, hl149_8, hi149_8⟩ := at_T32 HR0.out x9_1 p149 q149
        obtain rfl : ad147 = ad149 := (by injection e149)
        replace hx149_0 := (HB.out.cell (World.block_lt_of_cell? w _ hx149_0)).trans hx149_0
        replace hx149_1 := (HB.out.cell (World.block_lt_of_cell? w _ hx149_1)).trans hx149_1
        replace hx149_2 := (HB.out.cell (World.block_lt_of_cell? w _ hx149_2)).trans hx149_2
        replace hx149_3 := (HB.out.cell (World.block_lt_of_cell? w _ hx149_3)).trans hx149_3
        replace hx149_4 := (HB.out.cell (World.block_lt_of_cell? w _ hx149_4)).trans hx149_4
        replace hx149_5 := (HB.out.cell (World.block_lt_of_cell? w _ hx149_5)).trans hx149_5
        replace hx149_6 := (HB.out.cell (World.block_lt_of_cell? w _ hx149_6)).trans hx149_6
        replace hx149_7 := (HB.out.cell (World.block_lt_of_cell? w _ hx149_7)).trans hx149_7
        replace hx149_8 := (HB.out.cell (World.block_lt_of_cell? w _ hx149_8)).trans hx149_8
        have HR149_7 := aM hi149_7
        have HC149_7 := aM hl149_7
        clear hi149_7 hl149_7
        have HR149_8 := aM hi149_8
        have HC149_8 := aM hl149_8
        clear hi149_8 hl149_8
        replace p149 := eq_true p149
        replace q149 := eq_true q149
        have ea_ := Option.some.inj (hx147_7.symm.trans hx149_7)
        injection ea_ with ea_ en_ ec_
        subst ea_
        subst ec_
        clear en_
        have ea_ := Option.some.inj (hx147_8.symm.trans hx149_8)
        injection ea_ with ea_ en_ ec_
        subst ea_
        subst ec_
        clear en_
        go_wp2
        repeat (go_quiet (fail); try go_wp2)
        go_roundg k1
        case measure => have := HK1.out; omega
        case rel => exact ⟨(wrap64 (x9_1 + 1)), (by first | rfl | (simp; done) | (simp [*]; done)), H', ⟨by have := HK1.out; omega⟩, ⟨by (with_reducible repeat (first | refine bN ?_ _ | refine bD ?_ | refine bA ?_ _)); exact BK146.out⟩, ⟨by repeat (first | (with_reducible first | exact HB.out | apply wA | apply wN | apply wD | refine below_set ?_ GE146.out) | exact HB.out)⟩⟩
      ·rw [if_neg c9] at H
       have c9b0 : (((rd_T32 l0 x9_1).f2.f0) == a2_0 && (((rd_T32 l0 x9_1).f2.f1) == a2_1)) = false := by simpa using c9
       (try (have c9b1 : decide (((rd_T32 l0 x9_1).f2.f0) = a2_0 && (((rd_T32 l0 x9_1).f2.f1) == a2_1)) = false := by simpa using c9))
       (try (have c9b2 : (((rd_T32 l0 x9_1).f2.f0) == a2_0 && (((rd_T32 l0 x9_1).f2.f1) == a2_1)) = false := by simpa using c9))
       (try (have c9b3 : ¬ (((rd_T32 l0 x9_1).f2.f0) = a2_0 && (((rd_T32 l0 x9_1).f2.f1) == a2_1)) := by simpa using c9))
       clear c9
       have H' := aM H
       clear H
       have p147 : 0 ≤ (x9_1 : Int) := of_decide_eq_true (by first | (with_reducible assumption) | assumption)
       have q147 : x9_1 < (l0.length : Int) := of_decide_eq_true (by first | (with_reducible assumption) | assumption)
       obtain ⟨ad147, A147_7, c147_7, A147_8, c147_8, e147, hx147_0, hx147_1, hx147_2, hx147_3, hx147_4, hx147_5, hx147_6, hx147_7, hx147_8, hl147_7, hi147_7, hl147_8, hi147_8⟩ := at_T32 HR0.out x9_1 p147 q147
       cases e147
       replace hx147_0 := (HB.out.cell (World.block_lt_of_cell? w _ hx147_0)).trans hx147_0
       replace hx147_1 := (HB.out.cell (World.block_lt_of_cell? w _ hx147_1)).trans hx147_1
       replace hx147_2 := (HB.out.cell (World.block_lt_of_cell? w _ hx147_2)).trans hx147_2
       replace hx147_3 := (HB.out.cell (World.block_lt_of_cell? w _ hx147_3)).trans hx147_3
       replace hx147_4 := (HB.out.cell (World.block_lt_of_cell? w _ hx147_4)).trans hx147_4
       replace hx147_5 := (HB.out.cell (World.block_lt_of_cell? w _ hx147_5)).trans hx147_5
       replace hx147_6 := (HB.out.cell (World.block_lt_of_cell? w _ hx147_6)).trans hx147_6
       replace hx147_7 := (HB.out.cell (World.block_lt_of_cell? w _ hx147_7)).trans hx147_7
       replace hx147_8 := (HB.out.cell (World.block_lt_of_cell? w _ hx147_8)).trans hx147_8
       have HR147_7 := aM hi147_7
       have HC147_7 := aM hl147_7
       clear hi147_7 hl147_7
       have HR147_8 := aM hi147_8
       have HC147_8 := aM hl147_8
       clear hi147_8 hl147_8
       replace p147 := eq_true p147
       replace q147 := eq_true q147
       have p148 : 0 ≤ (x9_1 : Int) := of_decide_eq_true (by first | (with_reducible assumption) | assumption)
       have q148 : x9_1 < (l0.length : Int) := of_decide_eq_true (by first | (with_reducible assumption) | assumption)
       obtain ⟨ad148, A148_7, c148_7, A148_8, c148_8, e148, hx148_0, hx148_1, hx148_2, hx148_3, hx148_4, hx148_5, hx148_6, hx148_7, hx148_8, hl148_7, hi148_7, hl148_8, hi148_8⟩ := at_T32 HR0.out x9_1 p148 q148
       obtain rfl : ad147 = ad148 := (by injection e148)
       replace hx148_0 := (HB.out.cell (World.block_lt_of_cell? w _ hx148_0)).trans hx148_0
       replace hx148_1 := (HB.out.cell (World.block_lt_of_cell? w _ hx148_1)).trans hx148_1
       replace hx148_2 := (HB.out.cell (World.block_lt_of_cell? w _ hx148_2)).trans hx148_2
       replace hx148_3 := (HB.out.cell (World.block_lt_of_cell? w _ hx148_3)).trans hx148_3
       replace hx148_4 := (HB.out.cell (World.block_lt_of_cell? w _ hx148_4)).trans hx148_4
       replace hx148_5 := (HB.out.cell (World.block_lt_of_cell? w _ hx148_5)).trans hx148_5
       replace hx148_6 := (HB.out.cell (World.block_lt_of_cell? w _ hx148_6)).trans hx148_6
       replace hx148_7 := (HB.out.cell (World.block_lt_of_cell? w _ hx148_7)).trans hx148_7
       replace hx148_8 := (HB.out.cell (World.block_lt_of_cell? w _ hx148_8)).trans hx148_8
       have HR148_7 := aM hi148_7
       have HC148_7 := aM hl148_7
       clear hi148_7 hl148_7
       have HR148_8 := aM hi148_8
       have HC148_8 := aM hl148_8
       clear hi148_8 hl148_8
       replace p148 := eq_true p148
       replace q148 := eq_true q148
       have ea_ := Option.some.inj (hx147_7.symm.trans hx148_7)
       injection ea_ with ea_ en_ ec_
       subst ea_
       subst ec_
       clear en_
       have ea_ := Option.some.inj (hx147_8.symm.trans hx148_8)
       injection ea_ with ea_ en_ ec_
       subst ea_
       subst ec_
       clear en_
       have hcz13_0 : wr.cell? ⟨gb146, 0, none⟩ = some (.int .i64 a2_0) := (blk_cell BK146.out 0).trans rfl
       have hcz13_1 : wr.cell? ⟨gb146, 1, none⟩ = some (.int .i64 a2_1) := (blk_cell BK146.out 1).trans rfl
       have hfz13_0 := blk_frozen BK146.out 0
       have hfz13_1 := blk_frozen BK146.out 1
       go_wp2
       repeat (go_quiet (fail); try go_wp2)
       go_roundg k1
       case measure => have := HK1.out; omega
       case rel => exact ⟨(wrap64 (x9_1 + 1)), (by first | rfl | (simp; done) | (simp [*]; done)), H', ⟨by have := HK1.out; omega⟩, ⟨by (with_reducible repeat (first | refine bN ?_ _ | refine bD ?_ | refine bA ?_ _)); exact BK146.out⟩, ⟨by repeat (first | (with_reducible first | exact HB.out | apply wA | apply wN | apply wD | refine below_set ?_ GE146.out) | exact HB.out)⟩⟩
     ·rw [if_neg c8] at H
      have c8b0 : (((rd_T32 l0 x9_1).f0) == a1) = false := beq_eq_false_iff_ne.mpr c8
      have c8b1 : (((rd_T32 l0 x9_1).f0) != a1) = true := bne_iff_ne.mpr c8
      have H' := aM H
      clear H
      have p147 : 0 ≤ (x9_1 : Int) := of_decide_eq_true (by first | (with_reducible assumption) | assumption)
      have q147 : x9_1 < (l0.length : Int) := of_decide_eq_true (by first | (with_reducible assumption) | assumption)
      obtain ⟨ad147, A147_7, c147_7, A147_8, c147_8, e147, hx147_0, hx147_1, hx147_2, hx147_3, hx147_4, hx147_5, hx147_6, hx147_7, hx147_8, hl147_7, hi147_7, hl147_8, hi147_8⟩ := at_T32 HR0.out x9_1 p147 q147
      cases e147
      replace hx147_0 := (HB.out.cell (World.block_lt_of_cell? w _ hx147_0)).trans hx147_0
      replace hx147_1 := (HB.out.cell (World.block_lt_of_cell? w _ hx147_1)).trans hx147_1
      replace hx147_2 := (HB.out.cell (World.block_lt_of_cell? w _ hx147_2)).trans hx147_2
      replace hx147_3 := (HB.out.cell (World.block_lt_of_cell? w _ hx147_3)).trans hx147_3
      replace hx147_4 := (HB.out.cell (World.block_lt_of_cell? w _ hx147_4)).trans hx147_4
      replace hx147_5 := (HB.out.cell (World.block_lt_of_cell? w _ hx147_5)).trans hx147_5
      replace hx147_6 := (HB.out.cell (World.block_lt_of_cell? w _ hx147_6)).trans hx147_6
      replace hx147_7 := (HB.out.cell (World.block_lt_of_cell? w _ hx147_7)).trans hx147_7
      replace hx147_8 := (HB.out.cell (World.block_lt_of_cell? w _ hx147_8)).trans hx147_8
      have HR147_7 := aM hi147_7
      have HC147_7 := aM hl147_7
      clear hi147_7 hl147_7
      have HR147_8 := aM hi147_8
      have HC147_8 := aM hl147_8
      clear hi147_8 hl147_8
      replace p147 := eq_true p147
      replace q147 := eq_true q147
      go_wp2
      repeat (go_quiet (fail); try go_wp2)
      go_roundg k1
      case measure => have := HK1.out; omega
      case rel => exact ⟨(wrap64 (x9_1 + 1)), (by first | rfl | (simp; done) | (simp [*]; done)), H', ⟨by have := HK1.out; omega⟩, ⟨by (with_reducible repeat (first | refine bN ?_ _ | refine bD ?_ | refine bA ?_ _)); exact BK146.out⟩, ⟨by repeat (first | (with_reducible first | exact HB.out | apply wA | apply wN | apply wD | refine below_set ?_ GE146.out) | exact HB.out)⟩⟩
    ·rw [if_neg c7] at H
     exact absurd H (by simp)
   ·rw [if_neg c6] at H
    have c6b0 : decide (x9_1 < (l0.length : Int)) = false := decide_eq_false c6
    clear c6
    obtain rfl := Option.some.inj H
    go_wp2
    repeat (go_quiet (fail); try go_wp2)
    go_ret
    exact ⟨by first | rfl | (simp [errW_none, errW_some] <;> rfl) | (simp [*, errW_none, errW_some] <;> rfl), by repeat (first | (with_reducible first | exact HB.out | apply wA | apply wN | apply wD | refine below_set ?_ GE146.out) | exact HB.out)⟩

end Go.Proofs.Ytiflebfnhjlfdaa.PNk
