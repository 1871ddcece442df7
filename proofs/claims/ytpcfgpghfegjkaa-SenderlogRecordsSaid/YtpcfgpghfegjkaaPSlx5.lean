-- Laid by wip/tools/xprint.py, a program of this session over the kit's print: functions as Lean functions, each with its contract.
import Derived.Test.YtpcfgpghfegjkaaPSlx0
namespace Go.Proofs.Ytpcfgpghfegjkaa.PSl
open Go.RowKit Go.Proofs.YtpcfgpghfegjkaaW.PrintWords Go.Proofs.YtpcfgpghfegjkaaW.PrintLast Go.Proofs.YtpcfgpghfegjkaaW.PrintMore
attribute [local go_sem] max2_int min2_int max_two min_two max_three min_three max_four min_four   -- for this text's walks alone
set_option linter.unusedVariables false
set_option linter.unusedSimpArgs false

/-! ### rollbacknetref29_Record: function 34 -/
def rollbacknetref29_Record.l0 : Nat → List (S50) → Int → Int → Int → Int → Int → Option ((List (S50)))
  | 0, _, _, _, _, _, _ => none
  | k + 1, x5, x6, x221000, x221001, x221002, x221003 => if x6 < (x5.length : Int) then (if 0 ≤ x6 then (if ((rd_T50 x5 x6).f0) = x221000 then (if ((rd_T50 x5 x6).f1) = x221001 then (some (x5.set (x6 : Int).toNat (⟨x221000, x221001, x221002, x221003⟩ : S50))) else (rollbacknetref29_Record.l0 k x5 (wrap64 (x6 + 1)) x221000 x221001 x221002 x221003)) else (rollbacknetref29_Record.l0 k x5 (wrap64 (x6 + 1)) x221000 x221001 x221002 x221003)) else (none)) else (if x5.length < 4398046511104 then (some (x5 ++ [(⟨x221000, x221001, x221002, x221003⟩ : S50)])) else (none))
def rollbacknetref29_Record.f (k : Nat) (l0 : List (S50)) (a1_0 : Int) (a1_1 : Int) (a1_2 : Int) (a1_3 : Int) : Option ((List (S50))) := if ([] : List (S50)).length + l0.length < 4398046511104 then (rollbacknetref29_Record.l0 k (([] : List (S50)) ++ l0) 0 a1_0 a1_1 a1_2 a1_3) else (none)
theorem rollbacknetref29_Record.mono_l : ∀ k, (∀ y0 y1 y2 y3 y4 y5, LeO (rollbacknetref29_Record.l0 k y0 y1 y2 y3 y4 y5) (rollbacknetref29_Record.l0 (k + 1) y0 y1 y2 y3 y4 y5))
  | 0 => fun _ _ _ _ _ _ r h => by simp [rollbacknetref29_Record.l0] at h
  | k + 1 => by
    have ih0 := rollbacknetref29_Record.mono_l k
    · intro y0 y1 y2 y3 y4 y5
      unfold rollbacknetref29_Record.l0
      repeat' first
      | (with_reducible exact ih0 _ _ _ _ _ _)
      | (with_reducible exact LeO.refl _)
      | (with_reducible exact LeO.none _)
      | (with_reducible refine LeO.ite ?_ ?_)
      | (with_reducible refine LeO.bind ?_ (fun _ => ?_))
      | exact ih0 _ _ _ _ _ _
      | exact LeO.none _
      | refine LeO.ite ?_ ?_
      | refine LeO.bind ?_ (fun _ => ?_)
theorem rollbacknetref29_Record.mono : ∀ a0 a1 a2 a3 a4 k, LeO (rollbacknetref29_Record.f k a0 a1 a2 a3 a4) (rollbacknetref29_Record.f (k + 1) a0 a1 a2 a3 a4) := by
  intro a0 a1 a2 a3 a4 k
  have ih0 := rollbacknetref29_Record.mono_l k
  unfold rollbacknetref29_Record.f
  repeat' first
      | (with_reducible exact ih0 _ _ _ _ _ _)
      | (with_reducible exact LeO.refl _)
      | (with_reducible exact LeO.none _)
      | (with_reducible refine LeO.ite ?_ ?_)
      | (with_reducible refine LeO.bind ?_ (fun _ => ?_))
      | exact ih0 _ _ _ _ _ _
      | exact LeO.none _
      | refine LeO.ite ?_ ?_
      | refine LeO.bind ?_ (fun _ => ?_)
set_option maxHeartbeats 8000000 in
set_option maxRecDepth 100000 in
theorem rollbacknetref29_Record.calls (k : Nat) (A0 : Option Addr) (c0 : Nat) (l0 : List (S50)) (a1_0 : Int) (a1_1 : Int) (a1_2 : Int) (a1_3 : Int) (r : List (S50)) (w : World) (hr0 : Kd.C k50 w A0 l0.length l0) (hc0 : l0.length ≤ c0) (h : rollbacknetref29_Record.f k l0 a1_0 a1_1 a1_2 a1_3 = some r) :
    Calls Try.prog 34 #[.slice A0 l0.length c0, .agg #[.int .i64 a1_0, .int .i64 a1_1, .int .i64 a1_2, .int .i64 a1_3]] w fun e w' => ∃ v0_ : Value, e = .returned (v0_) ∧ Kd.R k50 50 w' w.heap.size (fun _ => True) v0_ r ∧ Below w.heap.size w w' := by
  have hu50 := Try.underlying50
  have HR0 := Aside0.mk hr0
  have HC0 := Aside0.mk hc0
  clear hr0 hc0
  have HB := Aside0.mk (Below.refl w.heap.size w)
  have H : (if ([] : List (S50)).length + l0.length < 4398046511104 then (rollbacknetref29_Record.l0 k (([] : List (S50)) ++ l0) 0 a1_0 a1_1 a1_2 a1_3) else (none)) = some r := h
  clear h
  by_cases c3 : ([] : List (S50)).length + l0.length < 4398046511104
  · rw [if_pos c3] at H
    have LMc3 := Aside0.mk c3
    clear c3
    obtain ⟨y221, hy221⟩ : ∃ y_ : List (S50), y_ = (([] : List (S50)) ++ l0) := ⟨_, rfl⟩
    replace H : (rollbacknetref29_Record.l0 k y221 0 a1_0 a1_1 a1_2 a1_3) = some r := by first | (rw [hy221]; with_reducible exact H) | (have H2_ := (Option.bind_some _ _).symm.trans H; rw [hy221]; with_reducible exact H2_) | (have H2_ := (Option.bind_some _ _).symm.trans H; with_reducible exact H2_) | with_reducible exact H | (rw [hy221]; exact H) | exact H
    have Ny221 := Aside0.mk hy221
    clear hy221
    have H' := Aside0.mk H
    clear H
    go_enter Try.func34, Try.ntmps34
    go_wp2_with (first | ((with_reducible refine gate_dst (N := 3) rfl ?_); refine box_event ?hg (N := 3) ?hd (cs := #[.int .i64 a1_0, .int .i64 a1_1, .int .i64 a1_2, .int .i64 a1_3]) (t := 50) ?hr ?_; (case hd => rfl); (case hg => rfl); (case hr => first | (go_simp; done) | (go_simp; rfl)); intro gb220 hg w4 hbox hb; have n0_ := Aside0.mk (below_step (by repeat (first | (with_reducible first | exact HB.out | apply below_alloc | apply pw_below_drewN | apply below_drew1) | exact HB.out)) hb); have n1_ := Aside0.mk (hbox); have n2_ := Aside0.mk ((by rw [hg]; exact (below_size (by repeat (first | (with_reducible first | exact HB.out | apply below_alloc | apply pw_below_drewN | apply below_drew1) | exact HB.out))) : w.heap.size ≤ gb220)); have n3_ := Aside0.mk ((by rw [hg]; exact (below_size (by repeat (first | (with_reducible first | exact HB.out | apply below_alloc | apply pw_below_drewN | apply below_drew1) | exact HB.out))) : w.heap.size ≤ gb220)); clear HB; have HB := n0_; have BK220 := n1_; have GW220 := n2_; have GE220 := n3_; clear n0_ n1_ n2_ n3_; clear hb hbox hg) | ((with_reducible refine gate_builtin (b := .append) (xs := #[(.const (.slice none 0 0)), .tmp 7]) rfl ?_); at_builtin; refine Kd.R_append_rows k50 (w0 := w) w.heap.size rfl (.const (.slice none 0 0)) (.tmp 7) 48 50 (.agg #[(.int .i64 0), (.int .i64 0), (.int .i64 0), (.int .i64 0)]) 32 rfl Try.underlying48 info50 rfl (by decide) (by omega) (.slice none 0 0) ([] : List (S50)) l0 _ _ _ (fun k_ => k_ ≠ gb220) (fun _ => False) rfl rfl ?aO ?aR (fun _ _ h => h) (fun _ h => h.elim) ?aF ?aB ?aS ?aL ?_; (case aR => repeat (first | exact (Kd.C_below HR0.out HB.out) | (with_reducible refine Kd.C_alloc ?_ _) | (with_reducible refine Kd.C_drewN ?_ _) | (with_reducible refine Kd.C_drew ?_))); (case aB => exact (by repeat (first | (with_reducible first | exact HB.out | apply below_alloc | apply pw_below_drewN | apply below_drew1 | refine below_set ?_ GE220.out) | exact HB.out))); (case aF => exact (fun k_ hk => Kd.freshB (g := gb220) (o := .cells #[.int .i64 a1_0, .int .i64 a1_1, .int .i64 a1_2, .int .i64 a1_3] 50 (0, 0)) (by (with_reducible repeat (first | refine blk_drewN ?_ _ | refine blk_drew ?_ | refine blk_alloc ?_ _)); exact BK220.out) k_ hk)); (case aO => exact ((Kd.R_nil _ _ _ _ (fun k_ => k_ ≠ gb220)))); (case aS => exact (below_size (by repeat (first | (with_reducible first | exact HB.out | apply below_alloc | apply pw_below_drewN | apply below_drew1 | refine below_set ?_ GE220.out) | exact HB.out)))); (case aL => have := LMc3.out; omega); intro v222 w5 ho hb hg hat; rw [← Ny221.out] at ho; have n0_ := Aside0.mk (blk_grown (g := gb220) (o := .cells #[.int .i64 a1_0, .int .i64 a1_1, .int .i64 a1_2, .int .i64 a1_3] 50 (0, 0)) (by (with_reducible repeat (first | refine blk_drewN ?_ _ | refine blk_drew ?_ | refine blk_alloc ?_ _)); exact BK220.out) hg (by simp [Value.ownBlock])); have n1_ := Aside0.mk (hb); have n2_ := Aside0.mk (ho); clear BK220; clear HB; have BK220 := n0_; have HB := n1_; have HO223 := n2_; clear n0_ n1_ n2_; clear ho hb hg hat))
    repeat (go_quiet (first | ((with_reducible refine gate_dst (N := 3) rfl ?_); refine box_event ?hg (N := 3) ?hd (cs := #[.int .i64 a1_0, .int .i64 a1_1, .int .i64 a1_2, .int .i64 a1_3]) (t := 50) ?hr ?_; (case hd => rfl); (case hg => rfl); (case hr => first | (go_simp; done) | (go_simp; rfl)); intro gb220 hg w4 hbox hb; have n0_ := Aside0.mk (below_step (by repeat (first | (with_reducible first | exact HB.out | apply below_alloc | apply pw_below_drewN | apply below_drew1) | exact HB.out)) hb); have n1_ := Aside0.mk (hbox); have n2_ := Aside0.mk ((by rw [hg]; exact (below_size (by repeat (first | (with_reducible first | exact HB.out | apply below_alloc | apply pw_below_drewN | apply below_drew1) | exact HB.out))) : w.heap.size ≤ gb220)); have n3_ := Aside0.mk ((by rw [hg]; exact (below_size (by repeat (first | (with_reducible first | exact HB.out | apply below_alloc | apply pw_below_drewN | apply below_drew1) | exact HB.out))) : w.heap.size ≤ gb220)); clear HB; have HB := n0_; have BK220 := n1_; have GW220 := n2_; have GE220 := n3_; clear n0_ n1_ n2_ n3_; clear hb hbox hg) | ((with_reducible refine gate_builtin (b := .append) (xs := #[(.const (.slice none 0 0)), .tmp 7]) rfl ?_); at_builtin; refine Kd.R_append_rows k50 (w0 := w) w.heap.size rfl (.const (.slice none 0 0)) (.tmp 7) 48 50 (.agg #[(.int .i64 0), (.int .i64 0), (.int .i64 0), (.int .i64 0)]) 32 rfl Try.underlying48 info50 rfl (by decide) (by omega) (.slice none 0 0) ([] : List (S50)) l0 _ _ _ (fun k_ => k_ ≠ gb220) (fun _ => False) rfl rfl ?aO ?aR (fun _ _ h => h) (fun _ h => h.elim) ?aF ?aB ?aS ?aL ?_; (case aR => repeat (first | exact (Kd.C_below HR0.out HB.out) | (with_reducible refine Kd.C_alloc ?_ _) | (with_reducible refine Kd.C_drewN ?_ _) | (with_reducible refine Kd.C_drew ?_))); (case aB => exact (by repeat (first | (with_reducible first | exact HB.out | apply below_alloc | apply pw_below_drewN | apply below_drew1 | refine below_set ?_ GE220.out) | exact HB.out))); (case aF => exact (fun k_ hk => Kd.freshB (g := gb220) (o := .cells #[.int .i64 a1_0, .int .i64 a1_1, .int .i64 a1_2, .int .i64 a1_3] 50 (0, 0)) (by (with_reducible repeat (first | refine blk_drewN ?_ _ | refine blk_drew ?_ | refine blk_alloc ?_ _)); exact BK220.out) k_ hk)); (case aO => exact ((Kd.R_nil _ _ _ _ (fun k_ => k_ ≠ gb220)))); (case aS => exact (below_size (by repeat (first | (with_reducible first | exact HB.out | apply below_alloc | apply pw_below_drewN | apply below_drew1 | refine below_set ?_ GE220.out) | exact HB.out)))); (case aL => have := LMc3.out; omega); intro v222 w5 ho hb hg hat; rw [← Ny221.out] at ho; have n0_ := Aside0.mk (blk_grown (g := gb220) (o := .cells #[.int .i64 a1_0, .int .i64 a1_1, .int .i64 a1_2, .int .i64 a1_3] 50 (0, 0)) (by (with_reducible repeat (first | refine blk_drewN ?_ _ | refine blk_drew ?_ | refine blk_alloc ?_ _)); exact BK220.out) hg (by simp [Value.ownBlock])); have n1_ := Aside0.mk (hb); have n2_ := Aside0.mk (ho); clear BK220; clear HB; have BK220 := n0_; have HB := n1_; have HO223 := n2_; clear n0_ n1_ n2_; clear ho hb hg hat)); try go_wp2_with (first | ((with_reducible refine gate_dst (N := 3) rfl ?_); refine box_event ?hg (N := 3) ?hd (cs := #[.int .i64 a1_0, .int .i64 a1_1, .int .i64 a1_2, .int .i64 a1_3]) (t := 50) ?hr ?_; (case hd => rfl); (case hg => rfl); (case hr => first | (go_simp; done) | (go_simp; rfl)); intro gb220 hg w4 hbox hb; have n0_ := Aside0.mk (below_step (by repeat (first | (with_reducible first | exact HB.out | apply below_alloc | apply pw_below_drewN | apply below_drew1) | exact HB.out)) hb); have n1_ := Aside0.mk (hbox); have n2_ := Aside0.mk ((by rw [hg]; exact (below_size (by repeat (first | (with_reducible first | exact HB.out | apply below_alloc | apply pw_below_drewN | apply below_drew1) | exact HB.out))) : w.heap.size ≤ gb220)); have n3_ := Aside0.mk ((by rw [hg]; exact (below_size (by repeat (first | (with_reducible first | exact HB.out | apply below_alloc | apply pw_below_drewN | apply below_drew1) | exact HB.out))) : w.heap.size ≤ gb220)); clear HB; have HB := n0_; have BK220 := n1_; have GW220 := n2_; have GE220 := n3_; clear n0_ n1_ n2_ n3_; clear hb hbox hg) | ((with_reducible refine gate_builtin (b := .append) (xs := #[(.const (.slice none 0 0)), .tmp 7]) rfl ?_); at_builtin; refine Kd.R_append_rows k50 (w0 := w) w.heap.size rfl (.const (.slice none 0 0)) (.tmp 7) 48 50 (.agg #[(.int .i64 0), (.int .i64 0), (.int .i64 0), (.int .i64 0)]) 32 rfl Try.underlying48 info50 rfl (by decide) (by omega) (.slice none 0 0) ([] : List (S50)) l0 _ _ _ (fun k_ => k_ ≠ gb220) (fun _ => False) rfl rfl ?aO ?aR (fun _ _ h => h) (fun _ h => h.elim) ?aF ?aB ?aS ?aL ?_; (case aR => repeat (first | exact (Kd.C_below HR0.out HB.out) | (with_reducible refine Kd.C_alloc ?_ _) | (with_reducible refine Kd.C_drewN ?_ _) | (with_reducible refine Kd.C_drew ?_))); (case aB => exact (by repeat (first | (with_reducible first | exact HB.out | apply below_alloc | apply pw_below_drewN | apply below_drew1 | refine below_set ?_ GE220.out) | exact HB.out))); (case aF => exact (fun k_ hk => Kd.freshB (g := gb220) (o := .cells #[.int .i64 a1_0, .int .i64 a1_1, .int .i64 a1_2, .int .i64 a1_3] 50 (0, 0)) (by (with_reducible repeat (first | refine blk_drewN ?_ _ | refine blk_drew ?_ | refine blk_alloc ?_ _)); exact BK220.out) k_ hk)); (case aO => exact ((Kd.R_nil _ _ _ _ (fun k_ => k_ ≠ gb220)))); (case aS => exact (below_size (by repeat (first | (with_reducible first | exact HB.out | apply below_alloc | apply pw_below_drewN | apply below_drew1 | refine below_set ?_ GE220.out) | exact HB.out)))); (case aL => have := LMc3.out; omega); intro v222 w5 ho hb hg hat; rw [← Ny221.out] at ho; have n0_ := Aside0.mk (blk_grown (g := gb220) (o := .cells #[.int .i64 a1_0, .int .i64 a1_1, .int .i64 a1_2, .int .i64 a1_3] 50 (0, 0)) (by (with_reducible repeat (first | refine blk_drewN ?_ _ | refine blk_drew ?_ | refine blk_alloc ?_ _)); exact BK220.out) hg (by simp [Value.ownBlock])); have n1_ := Aside0.mk (hb); have n2_ := Aside0.mk (ho); clear BK220; clear HB; have BK220 := n0_; have HB := n1_; have HO223 := n2_; clear n0_ n1_ n2_; clear ho hb hg hat)))
    go_loopg [6] k (fun kq v6 w' => ∃ (x5_1 : List (S50)) (x6_1 : Int) (x221000_1 : Int) (x221001_1 : Int) (x221002_1 : Int) (x221003_1 : Int), v6 = .int .i64 x6_1 ∧ Aside0 (rollbacknetref29_Record.l0 kq x5_1 x6_1 x221000_1 x221001_1 x221002_1 x221003_1 = some r) ∧ Aside0 (kq ≤ k) ∧ Aside0 (Kd.R k50 50 w' w.heap.size (fun k_ => k_ ≠ gb220) v222 x5_1) ∧ Aside0 (w'.heap[gb220]? = some (.cells #[.int .i64 x221000_1, .int .i64 x221001_1, .int .i64 x221002_1, .int .i64 x221003_1] 50 (0, 0))) ∧ Aside0 (Below w.heap.size w w'))
    case atStart => exact ⟨(y221), (0), (a1_0), (a1_1), (a1_2), (a1_3), (by first | rfl | (simp; done) | (simp [*]; done)), H', ⟨Nat.le_refl _⟩, ⟨by (with_reducible repeat (first | apply Kd.R_alloc | apply Kd.R_drewN | apply Kd.R_drew)); exact HO223.out⟩, ⟨by (with_reducible repeat (first | refine blk_drewN ?_ _ | refine blk_drew ?_ | refine blk_alloc ?_ _)); exact BK220.out⟩, ⟨by repeat (first | (with_reducible first | exact HB.out | apply below_alloc | apply pw_below_drewN | apply below_drew1 | refine below_set ?_ GE220.out) | exact HB.out)⟩⟩
    case round =>
      clear H'
      try clear p2
      try clear c3
      obtain ⟨x5_1, x6_1, x221000_1, x221001_1, x221002_1, x221003_1, rfl, HA, HK1, HO_5, BK220, HB⟩ := hrel
      cases gk with
      | zero => exact absurd HA.out (by simp [rollbacknetref29_Record.l0])
      | succ k1 =>
        have H := HA.out
        clear HA
        simp only [rollbacknetref29_Record.l0] at H
        by_cases c6 : x6_1 < (x5_1.length : Int)
        · rw [if_pos c6] at H
          have c6b0 : decide (x6_1 < (x5_1.length : Int)) = true := decide_eq_true c6
          clear c6
          by_cases c7 : 0 ≤ x6_1
          · rw [if_pos c7] at H
            have c7b0 : decide (0 ≤ x6_1) = true := decide_eq_true c7
            clear c7
            by_cases c8 : ((rd_T50 x5_1 x6_1).f0) = x221000_1
            · rw [if_pos c8] at H
              have c8b0 : (((rd_T50 x5_1 x6_1).f0) == x221000_1) = true := beq_iff_eq.mpr c8
              have c8b1 : (((rd_T50 x5_1 x6_1).f0) != x221000_1) = false := bne_eq_false_iff_eq.mpr c8
              clear c8
              by_cases c9 : ((rd_T50 x5_1 x6_1).f1) = x221001_1
              · rw [if_pos c9] at H
                have c9b0 : (((rd_T50 x5_1 x6_1).f1) == x221001_1) = true := beq_iff_eq.mpr c9
                have c9b1 : (((rd_T50 x5_1 x6_1).f1) != x221001_1) = false := bne_eq_false_iff_eq.mpr c9
                clear c9
                obtain ⟨y226, hy226⟩ : ∃ y_ : List (S50), y_ = (x5_1.set (x6_1 : Int).toNat (⟨x221000_1, x221001_1, x221002_1, x221003_1⟩ : S50)) := ⟨_, rfl⟩
                replace H : (some y226) = some r := by first | (rw [hy226]; with_reducible exact H) | (have H2_ := (Option.bind_some _ _).symm.trans H; rw [hy226]; with_reducible exact H2_) | (have H2_ := (Option.bind_some _ _).symm.trans H; with_reducible exact H2_) | with_reducible exact H | (rw [hy226]; exact H) | exact H
                have Ny226 := Aside0.mk hy226
                clear hy226
                obtain rfl := Option.some.inj H
                obtain ⟨Ao11, co11, eo11⟩ := Kd.R_slice HO_5.out
                subst eo11
                have p224 : 0 ≤ (x6_1 : Int) := of_decide_eq_true (by first | (with_reducible assumption) | assumption)
                have q224 : x6_1 < (x5_1.length : Int) := of_decide_eq_true (by first | (with_reducible assumption) | assumption)
                obtain ⟨ad224, e224, hx224_0, hx224_1, hx224_2, hx224_3⟩ := at_T50 (Kd.R_reads' HO_5.out).2.2 x6_1 p224 q224
                cases e224
                replace p224 := eq_true p224
                replace q224 := eq_true q224
                have hcz12_0 : wr.cell? ⟨gb220, 0, none⟩ = some (.int .i64 x221000_1) := (blk_cell BK220.out 0).trans rfl
                have hcz12_1 : wr.cell? ⟨gb220, 1, none⟩ = some (.int .i64 x221001_1) := (blk_cell BK220.out 1).trans rfl
                have hcz12_2 : wr.cell? ⟨gb220, 2, none⟩ = some (.int .i64 x221002_1) := (blk_cell BK220.out 2).trans rfl
                have hcz12_3 : wr.cell? ⟨gb220, 3, none⟩ = some (.int .i64 x221003_1) := (blk_cell BK220.out 3).trans rfl
                have hfz12_0 := blk_frozen BK220.out 0
                have hfz12_1 := blk_frozen BK220.out 1
                have hfz12_2 := blk_frozen BK220.out 2
                have hfz12_3 := blk_frozen BK220.out 3
                have p225 : 0 ≤ (x6_1 : Int) := of_decide_eq_true (by first | (with_reducible assumption) | assumption)
                have q225 : x6_1 < (x5_1.length : Int) := of_decide_eq_true (by first | (with_reducible assumption) | assumption)
                obtain ⟨ad225, e225, hx225_0, hx225_1, hx225_2, hx225_3⟩ := at_T50 (Kd.R_reads' HO_5.out).2.2 x6_1 p225 q225
                obtain rfl : ad224 = ad225 := (by injection e225)
                replace p225 := eq_true p225
                replace q225 := eq_true q225
                have p10 : 0 ≤ (x6_1 : Int) := of_decide_eq_true (by first | (with_reducible assumption) | assumption)
                have q10 : (x6_1 : Int) < ((x5_1.length : Int) : Int) := of_decide_eq_true (by first | (with_reducible assumption) | assumption)
                obtain ⟨go10, co10, eo10, gb10, gl10, cl10, HG10⟩ := Kd.R_form HO_5.out (by omega)
                (first | cases eo10 | (injection eo10 with ea_ en_ ec_; (first | subst ea_ | (injection ea_ with ea_; subst ea_)); subst ec_; clear en_))
                have GB10 := Aside0.mk gb10
                have GG10 := Aside0.mk HG10
                clear gb10 gl10 HG10
                (first | simp only [add_plain] at hx224_0 | skip)
                (first | simp only [add_plain] at hx224_1 | skip)
                (first | simp only [add_plain] at hx224_2 | skip)
                (first | simp only [add_plain] at hx224_3 | skip)
                (first | simp only [add_plain] at hx225_0 | skip)
                (first | simp only [add_plain] at hx225_1 | skip)
                (first | simp only [add_plain] at hx225_2 | skip)
                (first | simp only [add_plain] at hx225_3 | skip)
                obtain ⟨ce10, hcl10, hM10, hcc10, hfr10⟩ := Kd.R_elem HO_5.out z50 (x6_1 : Int) p10 q10
                obtain rfl := k50_openM hM10
                have hx10_0 : wr.cell? ⟨go10, (x6_1 : Int).toNat * 4, none⟩ = some (.int .i64 ((rd_T50 x5_1 x6_1).f0)) := hcc10 0 _ rfl
                have hx10_1 : wr.cell? ⟨go10, (x6_1 : Int).toNat * 4 + 1, none⟩ = some (.int .i64 ((rd_T50 x5_1 x6_1).f1)) := hcc10 1 _ rfl
                have hx10_2 : wr.cell? ⟨go10, (x6_1 : Int).toNat * 4 + 2, none⟩ = some (.int .i64 ((rd_T50 x5_1 x6_1).f2)) := hcc10 2 _ rfl
                have hx10_3 : wr.cell? ⟨go10, (x6_1 : Int).toNat * 4 + 3, none⟩ = some (.int .i64 ((rd_T50 x5_1 x6_1).f3)) := hcc10 3 _ rfl
                have hf10_0 : wr.frozen? ⟨go10, (x6_1 : Int).toNat * 4, none⟩ = false := hfr10 0
                have hf10_1 : wr.frozen? ⟨go10, (x6_1 : Int).toNat * 4 + 1, none⟩ = false := hfr10 1
                have hf10_2 : wr.frozen? ⟨go10, (x6_1 : Int).toNat * 4 + 2, none⟩ = false := hfr10 2
                have hf10_3 : wr.frozen? ⟨go10, (x6_1 : Int).toNat * 4 + 3, none⟩ = false := hfr10 3
                clear hcl10 hcc10 hfr10 hM10
                replace p10 := eq_true p10
                replace q10 := eq_true q10
                have HX13 := Aside0.mk (show Kd.R k50 50 wr w.heap.size (fun k_ => k_ ≠ gb220) (.slice (some ⟨go10, 0, none⟩) x5_1.length co11) x5_1 from (by (with_reducible repeat (first | apply Kd.R_alloc | apply Kd.R_drewN | apply Kd.R_drew)); exact HO_5.out))
                obtain ⟨ce13, hcl13, hM13, hcc13, hfr13⟩ := Kd.R_elem HX13.out z50 (x6_1 : Int) (of_decide_eq_true (by first | (with_reducible assumption) | assumption)) (by have h_ : (x6_1 : Int) < ((x5_1.length : Int) : Int) := of_decide_eq_true (by first | (with_reducible assumption) | assumption); first | exact h_ | (have e_ := (Kd.R_reads' HO_5.out).1; omega) | simpa using h_)
                obtain rfl := k50_openM hM13
                have HP13 := Kd.R_seg HX13.out (x6_1 : Int) (of_decide_eq_true (by first | (with_reducible assumption) | assumption)) (by have h_ : (x6_1 : Int) < ((x5_1.length : Int) : Int) := of_decide_eq_true (by first | (with_reducible assumption) | assumption); first | exact h_ | (have e_ := (Kd.R_reads' HO_5.out).1; omega) | simpa using h_) (seg := [.int .i64 x221000_1, .int .i64 x221001_1, .int .i64 x221002_1, .int .i64 x221003_1]) (j := 0) hcl13 hcc13 (show 4 ≤ 4 from by decide) (x' := (⟨x221000_1, x221001_1, x221002_1, x221003_1⟩ : S50)) (k50_mkM _ _ _ (⟨x221000_1, x221001_1, x221002_1, x221003_1⟩ : S50) ) (fun _ hk => hk)
                have hx13_0 := hcc13 0 _ rfl
                (try simp only [show (k50).sz = 4 from rfl, Nat.mul_one, Nat.add_zero] at hx13_0)
                have hf13_0 := hfr13 0
                (try simp only [show (k50).sz = 4 from rfl, Nat.mul_one, Nat.add_zero] at hf13_0)
                have hx13_1 := hcc13 1 _ rfl
                (try simp only [show (k50).sz = 4 from rfl, Nat.mul_one, Nat.add_zero] at hx13_1)
                have hf13_1 := hfr13 1
                (try simp only [show (k50).sz = 4 from rfl, Nat.mul_one, Nat.add_zero] at hf13_1)
                have hx13_2 := hcc13 2 _ rfl
                (try simp only [show (k50).sz = 4 from rfl, Nat.mul_one, Nat.add_zero] at hx13_2)
                have hf13_2 := hfr13 2
                (try simp only [show (k50).sz = 4 from rfl, Nat.mul_one, Nat.add_zero] at hf13_2)
                have hx13_3 := hcc13 3 _ rfl
                (try simp only [show (k50).sz = 4 from rfl, Nat.mul_one, Nat.add_zero] at hx13_3)
                have hf13_3 := hfr13 3
                (try simp only [show (k50).sz = 4 from rfl, Nat.mul_one, Nat.add_zero] at hf13_3)
                clear hcl13 hcc13 hfr13 hM13
                go_wp2_with (first | ((with_reducible refine gate_store (t := 50) (p := 36) rfl ?_); (try (rw [drewN_self wr]; generalize hq_ : World.drewN wr _ = wr; have n0_ := Aside0.mk (Kd.R_at hq_ HO_5.out); have n1_ := Aside0.mk (blk_at hq_ BK220.out); have n2_ := Aside0.mk (below_at hq_ HB.out); clear hq_ HO_5 BK220 HB; have HO_5 := n0_; have BK220 := n1_; have HB := n2_; clear n0_ n1_ n2_; (try (have HX13 := Aside0.mk (show Kd.R k50 50 wr w.heap.size (fun k_ => k_ ≠ gb220) (.slice (some ⟨go10, 0, none⟩) x5_1.length co11) x5_1 from (by (with_reducible repeat (first | apply Kd.R_alloc | apply Kd.R_drewN | apply Kd.R_drew)); exact HO_5.out)))); (try (obtain ⟨ce13, hcl13, hM13, hcc13, hfr13⟩ := Kd.R_elem HX13.out z50 (x6_1 : Int) (of_decide_eq_true (by first | (with_reducible assumption) | assumption)) (by have h_ : (x6_1 : Int) < ((x5_1.length : Int) : Int) := of_decide_eq_true (by first | (with_reducible assumption) | assumption); first | exact h_ | (have e_ := (Kd.R_reads' HO_5.out).1; omega) | simpa using h_))); (try (obtain rfl := k50_openM hM13)); (try (have HP13 := Kd.R_seg HX13.out (x6_1 : Int) (of_decide_eq_true (by first | (with_reducible assumption) | assumption)) (by have h_ : (x6_1 : Int) < ((x5_1.length : Int) : Int) := of_decide_eq_true (by first | (with_reducible assumption) | assumption); first | exact h_ | (have e_ := (Kd.R_reads' HO_5.out).1; omega) | simpa using h_) (seg := [.int .i64 x221000_1, .int .i64 x221001_1, .int .i64 x221002_1, .int .i64 x221003_1]) (j := 0) hcl13 hcc13 (show 4 ≤ 4 from by decide) (x' := (⟨x221000_1, x221001_1, x221002_1, x221003_1⟩ : S50)) (k50_mkM _ _ _ (⟨x221000_1, x221001_1, x221002_1, x221003_1⟩ : S50) ) (fun _ hk => hk))); (try (have hx13_0 := hcc13 0 _ rfl)); (try (try simp only [show (k50).sz = 4 from rfl, Nat.mul_one, Nat.add_zero] at hx13_0)); (try (have hf13_0 := hfr13 0)); (try (try simp only [show (k50).sz = 4 from rfl, Nat.mul_one, Nat.add_zero] at hf13_0)); (try (have hx13_1 := hcc13 1 _ rfl)); (try (try simp only [show (k50).sz = 4 from rfl, Nat.mul_one, Nat.add_zero] at hx13_1)); (try (have hf13_1 := hfr13 1)); (try (try simp only [show (k50).sz = 4 from rfl, Nat.mul_one, Nat.add_zero] at hf13_1)); (try (have hx13_2 := hcc13 2 _ rfl)); (try (try simp only [show (k50).sz = 4 from rfl, Nat.mul_one, Nat.add_zero] at hx13_2)); (try (have hf13_2 := hfr13 2)); (try (try simp only [show (k50).sz = 4 from rfl, Nat.mul_one, Nat.add_zero] at hf13_2)); (try (have hx13_3 := hcc13 3 _ rfl)); (try (try simp only [show (k50).sz = 4 from rfl, Nat.mul_one, Nat.add_zero] at hx13_3)); (try (have hf13_3 := hfr13 3)); (try (try simp only [show (k50).sz = 4 from rfl, Nat.mul_one, Nat.add_zero] at hf13_3)); (try (clear hcl13 hcc13 hfr13 hM13)))); refine store_event (t := 50) (p := 36) (v := ?vo_w14) (w1 := ((((wr.setCell ⟨go10, (x6_1 : Int).toNat * 4, none⟩ (.int .i64 x221000_1)).setCell ⟨go10, (x6_1 : Int).toNat * 4 + 1, none⟩ (.int .i64 x221001_1)).setCell ⟨go10, (x6_1 : Int).toNat * 4 + 2, none⟩ (.int .i64 x221002_1)).setCell ⟨go10, (x6_1 : Int).toNat * 4 + 3, none⟩ (.int .i64 x221003_1))) ?hg ?ho ?hn ?hr ?_; (case ho => rfl); (case hg => rfl); (case hn => rfl); (case hr => first | (go_simp; done) | (go_simp; rfl)); intro w14 hw; have hg : wr.grownBy w14 (some go10) := (by rw [hw]; exact HP13.2); have hp_ : Kd.R k50 50 w14 w.heap.size (fun k_ => k_ ≠ gb220) (.slice (some ⟨go10, 0, none⟩) x5_1.length co11) y226 := (by rw [hw, Ny226.out]; exact HP13.1); clear HP13; have n0_ := Aside0.mk (hp_); have n1_ := Aside0.mk (blk_grown (g := gb220) (o := .cells #[.int .i64 x221000_1, .int .i64 x221001_1, .int .i64 x221002_1, .int .i64 x221003_1] 50 (0, 0)) (by (with_reducible repeat (first | refine blk_drewN ?_ _ | refine blk_drew ?_ | refine blk_alloc ?_ _)); exact BK220.out) hg (Kd.R_away HO_5.out (fun _ hk => hk))); have n2_ := Aside0.mk ((by rw [hw]; exact below_set (below_set (below_set (below_set (HB.out) GB10.out) GB10.out) GB10.out) GB10.out : Below w.heap.size w w14)); clear HO_5; clear BK220; clear HB; have HO_5 := n0_; have BK220 := n1_; have HB := n2_; clear n0_ n1_ n2_; clear hg hw hp_))
                repeat (go_quiet (first | ((with_reducible refine gate_store (t := 50) (p := 36) rfl ?_); (try (rw [drewN_self wr]; generalize hq_ : World.drewN wr _ = wr; have n0_ := Aside0.mk (Kd.R_at hq_ HO_5.out); have n1_ := Aside0.mk (blk_at hq_ BK220.out); have n2_ := Aside0.mk (below_at hq_ HB.out); clear hq_ HO_5 BK220 HB; have HO_5 := n0_; have BK220 := n1_; have HB := n2_; clear n0_ n1_ n2_; (try (have HX13 := Aside0.mk (show Kd.R k50 50 wr w.heap.size (fun k_ => k_ ≠ gb220) (.slice (some ⟨go10, 0, none⟩) x5_1.length co11) x5_1 from (by (with_reducible repeat (first | apply Kd.R_alloc | apply Kd.R_drewN | apply Kd.R_drew)); exact HO_5.out)))); (try (obtain ⟨ce13, hcl13, hM13, hcc13, hfr13⟩ := Kd.R_elem HX13.out z50 (x6_1 : Int) (of_decide_eq_true (by first | (with_reducible assumption) | assumption)) (by have h_ : (x6_1 : Int) < ((x5_1.length : Int) : Int) := of_decide_eq_true (by first | (with_reducible assumption) | assumption); first | exact h_ | (have e_ := (Kd.R_reads' HO_5.out).1; omega) | simpa using h_))); (try (obtain rfl := k50_openM hM13)); (try (have HP13 := Kd.R_seg HX13.out (x6_1 : Int) (of_decide_eq_true (by first | (with_reducible assumption) | assumption)) (by have h_ : (x6_1 : Int) < ((x5_1.length : Int) : Int) := of_decide_eq_true (by first | (with_reducible assumption) | assumption); first | exact h_ | (have e_ := (Kd.R_reads' HO_5.out).1; omega) | simpa using h_) (seg := [.int .i64 x221000_1, .int .i64 x221001_1, .int .i64 x221002_1, .int .i64 x221003_1]) (j := 0) hcl13 hcc13 (show 4 ≤ 4 from by decide) (x' := (⟨x221000_1, x221001_1, x221002_1, x221003_1⟩ : S50)) (k50_mkM _ _ _ (⟨x221000_1, x221001_1, x221002_1, x221003_1⟩ : S50) ) (fun _ hk => hk))); (try (have hx13_0 := hcc13 0 _ rfl)); (try (try simp only [show (k50).sz = 4 from rfl, Nat.mul_one, Nat.add_zero] at hx13_0)); (try (have hf13_0 := hfr13 0)); (try (try simp only [show (k50).sz = 4 from rfl, Nat.mul_one, Nat.add_zero] at hf13_0)); (try (have hx13_1 := hcc13 1 _ rfl)); (try (try simp only [show (k50).sz = 4 from rfl, Nat.mul_one, Nat.add_zero] at hx13_1)); (try (have hf13_1 := hfr13 1)); (try (try simp only [show (k50).sz = 4 from rfl, Nat.mul_one, Nat.add_zero] at hf13_1)); (try (have hx13_2 := hcc13 2 _ rfl)); (try (try simp only [show (k50).sz = 4 from rfl, Nat.mul_one, Nat.add_zero] at hx13_2)); (try (have hf13_2 := hfr13 2)); (try (try simp only [show (k50).sz = 4 from rfl, Nat.mul_one, Nat.add_zero] at hf13_2)); (try (have hx13_3 := hcc13 3 _ rfl)); (try (try simp only [show (k50).sz = 4 from rfl, Nat.mul_one, Nat.add_zero] at hx13_3)); (try (have hf13_3 := hfr13 3)); (try (try simp only [show (k50).sz = 4 from rfl, Nat.mul_one, Nat.add_zero] at hf13_3)); (try (clear hcl13 hcc13 hfr13 hM13)))); refine store_event (t := 50) (p := 36) (v := ?vo_w14) (w1 := ((((wr.setCell ⟨go10, (x6_1 : Int).toNat * 4, none⟩ (.int .i64 x221000_1)).setCell ⟨go10, (x6_1 : Int).toNat * 4 + 1, none⟩ (.int .i64 x221001_1)).setCell ⟨go10, (x6_1 : Int).toNat * 4 + 2, none⟩ (.int .i64 x221002_1)).setCell ⟨go10, (x6_1 : Int).toNat * 4 + 3, none⟩ (.int .i64 x221003_1))) ?hg ?ho ?hn ?hr ?_; (case ho => rfl); (case hg => rfl); (case hn => rfl); (case hr => first | (go_simp; done) | (go_simp; rfl)); intro w14 hw; have hg : wr.grownBy w14 (some go10) := (by rw [hw]; exact HP13.2); have hp_ : Kd.R k50 50 w14 w.heap.size (fun k_ => k_ ≠ gb220) (.slice (some ⟨go10, 0, none⟩) x5_1.length co11) y226 := (by rw [hw, Ny226.out]; exact HP13.1); clear HP13; have n0_ := Aside0.mk (hp_); have n1_ := Aside0.mk (blk_grown (g := gb220) (o := .cells #[.int .i64 x221000_1, .int .i64 x221001_1, .int .i64 x221002_1, .int .i64 x221003_1] 50 (0, 0)) (by (with_reducible repeat (first | refine blk_drewN ?_ _ | refine blk_drew ?_ | refine blk_alloc ?_ _)); exact BK220.out) hg (Kd.R_away HO_5.out (fun _ hk => hk))); have n2_ := Aside0.mk ((by rw [hw]; exact below_set (below_set (below_set (below_set (HB.out) GB10.out) GB10.out) GB10.out) GB10.out : Below w.heap.size w w14)); clear HO_5; clear BK220; clear HB; have HO_5 := n0_; have BK220 := n1_; have HB := n2_; clear n0_ n1_ n2_; clear hg hw hp_)); try go_wp2_with (first | ((with_reducible refine gate_store (t := 50) (p := 36) rfl ?_); (try (rw [drewN_self wr]; generalize hq_ : World.drewN wr _ = wr; have n0_ := Aside0.mk (Kd.R_at hq_ HO_5.out); have n1_ := Aside0.mk (blk_at hq_ BK220.out); have n2_ := Aside0.mk (below_at hq_ HB.out); clear hq_ HO_5 BK220 HB; have HO_5 := n0_; have BK220 := n1_; have HB := n2_; clear n0_ n1_ n2_; (try (have HX13 := Aside0.mk (show Kd.R k50 50 wr w.heap.size (fun k_ => k_ ≠ gb220) (.slice (some ⟨go10, 0, none⟩) x5_1.length co11) x5_1 from (by (with_reducible repeat (first | apply Kd.R_alloc | apply Kd.R_drewN | apply Kd.R_drew)); exact HO_5.out)))); (try (obtain ⟨ce13, hcl13, hM13, hcc13, hfr13⟩ := Kd.R_elem HX13.out z50 (x6_1 : Int) (of_decide_eq_true (by first | (with_reducible assumption) | assumption)) (by have h_ : (x6_1 : Int) < ((x5_1.length : Int) : Int) := of_decide_eq_true (by first | (with_reducible assumption) | assumption); first | exact h_ | (have e_ := (Kd.R_reads' HO_5.out).1; omega) | simpa using h_))); (try (obtain rfl := k50_openM hM13)); (try (have HP13 := Kd.R_seg HX13.out (x6_1 : Int) (of_decide_eq_true (by first | (with_reducible assumption) | assumption)) (by have h_ : (x6_1 : Int) < ((x5_1.length : Int) : Int) := of_decide_eq_true (by first | (with_reducible assumption) | assumption); first | exact h_ | (have e_ := (Kd.R_reads' HO_5.out).1; omega) | simpa using h_) (seg := [.int .i64 x221000_1, .int .i64 x221001_1, .int .i64 x221002_1, .int .i64 x221003_1]) (j := 0) hcl13 hcc13 (show 4 ≤ 4 from by decide) (x' := (⟨x221000_1, x221001_1, x221002_1, x221003_1⟩ : S50)) (k50_mkM _ _ _ (⟨x221000_1, x221001_1, x221002_1, x221003_1⟩ : S50) ) (fun _ hk => hk))); (try (have hx13_0 := hcc13 0 _ rfl)); (try (try simp only [show (k50).sz = 4 from rfl, Nat.mul_one, Nat.add_zero] at hx13_0)); (try (have hf13_0 := hfr13 0)); (try (try simp only [show (k50).sz = 4 from rfl, Nat.mul_one, Nat.add_zero] at hf13_0)); (try (have hx13_1 := hcc13 1 _ rfl)); (try (try simp only [show (k50).sz = 4 from rfl, Nat.mul_one, Nat.add_zero] at hx13_1)); (try (have hf13_1 := hfr13 1)); (try (try simp only [show (k50).sz = 4 from rfl, Nat.mul_one, Nat.add_zero] at hf13_1)); (try (have hx13_2 := hcc13 2 _ rfl)); (try (try simp only [show (k50).sz = 4 from rfl, Nat.mul_one, Nat.add_zero] at hx13_2)); (try (have hf13_2 := hfr13 2)); (try (try simp only [show (k50).sz = 4 from rfl, Nat.mul_one, Nat.add_zero] at hf13_2)); (try (have hx13_3 := hcc13 3 _ rfl)); (try (try simp only [show (k50).sz = 4 from rfl, Nat.mul_one, Nat.add_zero] at hx13_3)); (try (have hf13_3 := hfr13 3)); (try (try simp only [show (k50).sz = 4 from rfl, Nat.mul_one, Nat.add_zero] at hf13_3)); (try (clear hcl13 hcc13 hfr13 hM13)))); refine store_event (t := 50) (p := 36) (v := ?vo_w14) (w1 := ((((wr.setCell ⟨go10, (x6_1 : Int).toNat * 4, none⟩ (.int .i64 x221000_1)).setCell ⟨go10, (x6_1 : Int).toNat * 4 + 1, none⟩ (.int .i64 x221001_1)).setCell ⟨go10, (x6_1 : Int).toNat * 4 + 2, none⟩ (.int .i64 x221002_1)).setCell ⟨go10, (x6_1 : Int).toNat * 4 + 3, none⟩ (.int .i64 x221003_1))) ?hg ?ho ?hn ?hr ?_; (case ho => rfl); (case hg => rfl); (case hn => rfl); (case hr => first | (go_simp; done) | (go_simp; rfl)); intro w14 hw; have hg : wr.grownBy w14 (some go10) := (by rw [hw]; exact HP13.2); have hp_ : Kd.R k50 50 w14 w.heap.size (fun k_ => k_ ≠ gb220) (.slice (some ⟨go10, 0, none⟩) x5_1.length co11) y226 := (by rw [hw, Ny226.out]; exact HP13.1); clear HP13; have n0_ := Aside0.mk (hp_); have n1_ := Aside0.mk (blk_grown (g := gb220) (o := .cells #[.int .i64 x221000_1, .int .i64 x221001_1, .int .i64 x221002_1, .int .i64 x221003_1] 50 (0, 0)) (by (with_reducible repeat (first | refine blk_drewN ?_ _ | refine blk_drew ?_ | refine blk_alloc ?_ _)); exact BK220.out) hg (Kd.R_away HO_5.out (fun _ hk => hk))); have n2_ := Aside0.mk ((by rw [hw]; exact below_set (below_set (below_set (below_set (HB.out) GB10.out) GB10.out) GB10.out) GB10.out : Below w.heap.size w w14)); clear HO_5; clear BK220; clear HB; have HO_5 := n0_; have BK220 := n1_; have HB := n2_; clear n0_ n1_ n2_; clear hg hw hp_)))
                go_ret
                exact ⟨_, by first | rfl | (simp [errW_none, errW_some] <;> rfl) | (simp [*, errW_none, errW_some] <;> rfl), by (with_reducible repeat (first | apply Kd.R_alloc | apply Kd.R_drewN | apply Kd.R_drew)); exact Kd.R_mono HO_5.out (fun _ hk => trivial), by repeat (first | (with_reducible first | exact HB.out | apply below_alloc | apply pw_below_drewN | apply below_drew1 | refine below_set ?_ GE220.out) | exact HB.out)⟩
              · rw [if_neg c9] at H
                have c9b0 : (((rd_T50 x5_1 x6_1).f1) == x221001_1) = false := beq_eq_false_iff_ne.mpr c9
                have c9b1 : (((rd_T50 x5_1 x6_1).f1) != x221001_1) = true := bne_iff_ne.mpr c9
                have H' := Aside0.mk H
                clear H
                obtain ⟨Ao15, co15, eo15⟩ := Kd.R_slice HO_5.out
                subst eo15
                have p224 : 0 ≤ (x6_1 : Int) := of_decide_eq_true (by first | (with_reducible assumption) | assumption)
                have q224 : x6_1 < (x5_1.length : Int) := of_decide_eq_true (by first | (with_reducible assumption) | assumption)
                obtain ⟨ad224, e224, hx224_0, hx224_1, hx224_2, hx224_3⟩ := at_T50 (Kd.R_reads' HO_5.out).2.2 x6_1 p224 q224
                cases e224
                replace p224 := eq_true p224
                replace q224 := eq_true q224
                have hcz16_0 : wr.cell? ⟨gb220, 0, none⟩ = some (.int .i64 x221000_1) := (blk_cell BK220.out 0).trans rfl
                have hcz16_1 : wr.cell? ⟨gb220, 1, none⟩ = some (.int .i64 x221001_1) := (blk_cell BK220.out 1).trans rfl
                have hcz16_2 : wr.cell? ⟨gb220, 2, none⟩ = some (.int .i64 x221002_1) := (blk_cell BK220.out 2).trans rfl
                have hcz16_3 : wr.cell? ⟨gb220, 3, none⟩ = some (.int .i64 x221003_1) := (blk_cell BK220.out 3).trans rfl
                have hfz16_0 := blk_frozen BK220.out 0
                have hfz16_1 := blk_frozen BK220.out 1
                have hfz16_2 := blk_frozen BK220.out 2
                have hfz16_3 := blk_frozen BK220.out 3
                have p225 : 0 ≤ (x6_1 : Int) := of_decide_eq_true (by first | (with_reducible assumption) | assumption)
                have q225 : x6_1 < (x5_1.length : Int) := of_decide_eq_true (by first | (with_reducible assumption) | assumption)
                obtain ⟨ad225, e225, hx225_0, hx225_1, hx225_2, hx225_3⟩ := at_T50 (Kd.R_reads' HO_5.out).2.2 x6_1 p225 q225
                obtain rfl : ad224 = ad225 := (by injection e225)
                replace p225 := eq_true p225
                replace q225 := eq_true q225
                go_wp2
                repeat (go_quiet (fail); try go_wp2)
                go_roundg k1
                case measure => have := HK1.out; omega
                case rel => exact ⟨(x5_1), (wrap64 (x6_1 + 1)), (x221000_1), (x221001_1), (x221002_1), (x221003_1), (by first | rfl | (simp; done) | (simp [*]; done)), H', ⟨by have := HK1.out; omega⟩, ⟨by (with_reducible repeat (first | apply Kd.R_alloc | apply Kd.R_drewN | apply Kd.R_drew)); exact HO_5.out⟩, ⟨by (with_reducible repeat (first | refine blk_drewN ?_ _ | refine blk_drew ?_ | refine blk_alloc ?_ _)); exact BK220.out⟩, ⟨by repeat (first | (with_reducible first | exact HB.out | apply below_alloc | apply pw_below_drewN | apply below_drew1 | refine below_set ?_ GE220.out) | exact HB.out)⟩⟩
            · rw [if_neg c8] at H
              have c8b0 : (((rd_T50 x5_1 x6_1).f0) == x221000_1) = false := beq_eq_false_iff_ne.mpr c8
              have c8b1 : (((rd_T50 x5_1 x6_1).f0) != x221000_1) = true := bne_iff_ne.mpr c8
              have H' := Aside0.mk H
              clear H
              obtain ⟨Ao17, co17, eo17⟩ := Kd.R_slice HO_5.out
              subst eo17
              have p224 : 0 ≤ (x6_1 : Int) := of_decide_eq_true (by first | (with_reducible assumption) | assumption)
              have q224 : x6_1 < (x5_1.length : Int) := of_decide_eq_true (by first | (with_reducible assumption) | assumption)
              obtain ⟨ad224, e224, hx224_0, hx224_1, hx224_2, hx224_3⟩ := at_T50 (Kd.R_reads' HO_5.out).2.2 x6_1 p224 q224
              cases e224
              replace p224 := eq_true p224
              replace q224 := eq_true q224
              have hcz18_0 : wr.cell? ⟨gb220, 0, none⟩ = some (.int .i64 x221000_1) := (blk_cell BK220.out 0).trans rfl
              have hcz18_1 : wr.cell? ⟨gb220, 1, none⟩ = some (.int .i64 x221001_1) := (blk_cell BK220.out 1).trans rfl
              have hcz18_2 : wr.cell? ⟨gb220, 2, none⟩ = some (.int .i64 x221002_1) := (blk_cell BK220.out 2).trans rfl
              have hcz18_3 : wr.cell? ⟨gb220, 3, none⟩ = some (.int .i64 x221003_1) := (blk_cell BK220.out 3).trans rfl
              have hfz18_0 := blk_frozen BK220.out 0
              have hfz18_1 := blk_frozen BK220.out 1
              have hfz18_2 := blk_frozen BK220.out 2
              have hfz18_3 := blk_frozen BK220.out 3
              go_wp2
              repeat (go_quiet (fail); try go_wp2)
              go_roundg k1
              case measure => have := HK1.out; omega
              case rel => exact ⟨(x5_1), (wrap64 (x6_1 + 1)), (x221000_1), (x221001_1), (x221002_1), (x221003_1), (by first | rfl | (simp; done) | (simp [*]; done)), H', ⟨by have := HK1.out; omega⟩, ⟨by (with_reducible repeat (first | apply Kd.R_alloc | apply Kd.R_drewN | apply Kd.R_drew)); exact HO_5.out⟩, ⟨by (with_reducible repeat (first | refine blk_drewN ?_ _ | refine blk_drew ?_ | refine blk_alloc ?_ _)); exact BK220.out⟩, ⟨by repeat (first | (with_reducible first | exact HB.out | apply below_alloc | apply pw_below_drewN | apply below_drew1 | refine below_set ?_ GE220.out) | exact HB.out)⟩⟩
          · rw [if_neg c7] at H
            exact absurd H (by simp)
        · rw [if_neg c6] at H
          have c6b0 : decide (x6_1 < (x5_1.length : Int)) = false := decide_eq_false c6
          clear c6
          by_cases c19 : x5_1.length < 4398046511104
          · rw [if_pos c19] at H
            have LMc19 := Aside0.mk c19
            clear c19
            obtain ⟨y227, hy227⟩ : ∃ y_ : List (S50), y_ = (x5_1 ++ [(⟨x221000_1, x221001_1, x221002_1, x221003_1⟩ : S50)]) := ⟨_, rfl⟩
            replace H : (some y227) = some r := by first | (rw [hy227]; with_reducible exact H) | (have H2_ := (Option.bind_some _ _).symm.trans H; rw [hy227]; with_reducible exact H2_) | (have H2_ := (Option.bind_some _ _).symm.trans H; with_reducible exact H2_) | with_reducible exact H | (rw [hy227]; exact H) | exact H
            have Ny227 := Aside0.mk hy227
            clear hy227
            obtain rfl := Option.some.inj H
            obtain ⟨Ao20, co20, eo20⟩ := Kd.R_slice HO_5.out
            subst eo20
            have hcz21_0 : wr.cell? ⟨gb220, 0, none⟩ = some (.int .i64 x221000_1) := (blk_cell BK220.out 0).trans rfl
            have hcz21_1 : wr.cell? ⟨gb220, 1, none⟩ = some (.int .i64 x221001_1) := (blk_cell BK220.out 1).trans rfl
            have hcz21_2 : wr.cell? ⟨gb220, 2, none⟩ = some (.int .i64 x221002_1) := (blk_cell BK220.out 2).trans rfl
            have hcz21_3 : wr.cell? ⟨gb220, 3, none⟩ = some (.int .i64 x221003_1) := (blk_cell BK220.out 3).trans rfl
            have hfz21_0 := blk_frozen BK220.out 0
            have hfz21_1 := blk_frozen BK220.out 1
            have hfz21_2 := blk_frozen BK220.out 2
            have hfz21_3 := blk_frozen BK220.out 3
            go_wp2_with (first | ((with_reducible refine gate_builtin (b := .append) (xs := #[(.tmp 38), .tmp 40]) rfl ?_); at_builtin; refine Kd.R_append k50 (w0 := w) w.heap.size rfl (.tmp 38) (.tmp 40) 48 50 (.agg #[(.int .i64 0), (.int .i64 0), (.int .i64 0), (.int .i64 0)]) 32 rfl Try.underlying48 info50 rfl (by decide) (by omega) (.slice Ao20 x5_1.length co20) x5_1 (⟨x221000_1, x221001_1, x221002_1, x221003_1⟩ : S50) [.int .i64 x221000_1, .int .i64 x221001_1, .int .i64 x221002_1, .int .i64 x221003_1] (fun k_ => k_ ≠ gb220) (fun _ => False) rfl rfl ?aP (fun _ hk => hk.elim) ?aF ?aO ?aB ?aS ?aL ?_; (case aP => exact k50_mkM _ _ _ (⟨x221000_1, x221001_1, x221002_1, x221003_1⟩ : S50)); (case aB => exact (by repeat (first | (with_reducible first | exact HB.out | apply below_alloc | apply pw_below_drewN | apply below_drew1 | refine below_set ?_ GE220.out) | exact HB.out))); (case aF => exact (fun k_ hk => Kd.freshB (g := gb220) (o := .cells #[.int .i64 x221000_1, .int .i64 x221001_1, .int .i64 x221002_1, .int .i64 x221003_1] 50 (0, 0)) (by (with_reducible repeat (first | refine blk_drewN ?_ _ | refine blk_drew ?_ | refine blk_alloc ?_ _)); exact BK220.out) k_ hk)); (case aO => exact (by (with_reducible repeat (first | apply Kd.R_alloc | apply Kd.R_drewN | apply Kd.R_drew)); exact HO_5.out)); (case aS => exact (below_size (by repeat (first | (with_reducible first | exact HB.out | apply below_alloc | apply pw_below_drewN | apply below_drew1 | refine below_set ?_ GE220.out) | exact HB.out)))); (case aL => have := LMc19.out; omega); intro v228 w22 ho hb hg hat; rw [← Ny227.out] at ho; have n0_ := Aside0.mk (blk_grown (g := gb220) (o := .cells #[.int .i64 x221000_1, .int .i64 x221001_1, .int .i64 x221002_1, .int .i64 x221003_1] 50 (0, 0)) (by (with_reducible repeat (first | refine blk_drewN ?_ _ | refine blk_drew ?_ | refine blk_alloc ?_ _)); exact BK220.out) hg (Kd.R_away HO_5.out (fun _ hk => hk))); have n1_ := Aside0.mk (hb); have n2_ := Aside0.mk (ho); clear BK220; clear HB; clear HO_5; have BK220 := n0_; have HB := n1_; have HO229 := n2_; clear n0_ n1_ n2_; clear ho hb hg hat))
            repeat (go_quiet (first | ((with_reducible refine gate_builtin (b := .append) (xs := #[(.tmp 38), .tmp 40]) rfl ?_); at_builtin; refine Kd.R_append k50 (w0 := w) w.heap.size rfl (.tmp 38) (.tmp 40) 48 50 (.agg #[(.int .i64 0), (.int .i64 0), (.int .i64 0), (.int .i64 0)]) 32 rfl Try.underlying48 info50 rfl (by decide) (by omega) (.slice Ao20 x5_1.length co20) x5_1 (⟨x221000_1, x221001_1, x221002_1, x221003_1⟩ : S50) [.int .i64 x221000_1, .int .i64 x221001_1, .int .i64 x221002_1, .int .i64 x221003_1] (fun k_ => k_ ≠ gb220) (fun _ => False) rfl rfl ?aP (fun _ hk => hk.elim) ?aF ?aO ?aB ?aS ?aL ?_; (case aP => exact k50_mkM _ _ _ (⟨x221000_1, x221001_1, x221002_1, x221003_1⟩ : S50)); (case aB => exact (by repeat (first | (with_reducible first | exact HB.out | apply below_alloc | apply pw_below_drewN | apply below_drew1 | refine below_set ?_ GE220.out) | exact HB.out))); (case aF => exact (fun k_ hk => Kd.freshB (g := gb220) (o := .cells #[.int .i64 x221000_1, .int .i64 x221001_1, .int .i64 x221002_1, .int .i64 x221003_1] 50 (0, 0)) (by (with_reducible repeat (first | refine blk_drewN ?_ _ | refine blk_drew ?_ | refine blk_alloc ?_ _)); exact BK220.out) k_ hk)); (case aO => exact (by (with_reducible repeat (first | apply Kd.R_alloc | apply Kd.R_drewN | apply Kd.R_drew)); exact HO_5.out)); (case aS => exact (below_size (by repeat (first | (with_reducible first | exact HB.out | apply below_alloc | apply pw_below_drewN | apply below_drew1 | refine below_set ?_ GE220.out) | exact HB.out)))); (case aL => have := LMc19.out; omega); intro v228 w22 ho hb hg hat; rw [← Ny227.out] at ho; have n0_ := Aside0.mk (blk_grown (g := gb220) (o := .cells #[.int .i64 x221000_1, .int .i64 x221001_1, .int .i64 x221002_1, .int .i64 x221003_1] 50 (0, 0)) (by (with_reducible repeat (first | refine blk_drewN ?_ _ | refine blk_drew ?_ | refine blk_alloc ?_ _)); exact BK220.out) hg (Kd.R_away HO_5.out (fun _ hk => hk))); have n1_ := Aside0.mk (hb); have n2_ := Aside0.mk (ho); clear BK220; clear HB; clear HO_5; have BK220 := n0_; have HB := n1_; have HO229 := n2_; clear n0_ n1_ n2_; clear ho hb hg hat)); try go_wp2_with (first | ((with_reducible refine gate_builtin (b := .append) (xs := #[(.tmp 38), .tmp 40]) rfl ?_); at_builtin; refine Kd.R_append k50 (w0 := w) w.heap.size rfl (.tmp 38) (.tmp 40) 48 50 (.agg #[(.int .i64 0), (.int .i64 0), (.int .i64 0), (.int .i64 0)]) 32 rfl Try.underlying48 info50 rfl (by decide) (by omega) (.slice Ao20 x5_1.length co20) x5_1 (⟨x221000_1, x221001_1, x221002_1, x221003_1⟩ : S50) [.int .i64 x221000_1, .int .i64 x221001_1, .int .i64 x221002_1, .int .i64 x221003_1] (fun k_ => k_ ≠ gb220) (fun _ => False) rfl rfl ?aP (fun _ hk => hk.elim) ?aF ?aO ?aB ?aS ?aL ?_; (case aP => exact k50_mkM _ _ _ (⟨x221000_1, x221001_1, x221002_1, x221003_1⟩ : S50)); (case aB => exact (by repeat (first | (with_reducible first | exact HB.out | apply below_alloc | apply pw_below_drewN | apply below_drew1 | refine below_set ?_ GE220.out) | exact HB.out))); (case aF => exact (fun k_ hk => Kd.freshB (g := gb220) (o := .cells #[.int .i64 x221000_1, .int .i64 x221001_1, .int .i64 x221002_1, .int .i64 x221003_1] 50 (0, 0)) (by (with_reducible repeat (first | refine blk_drewN ?_ _ | refine blk_drew ?_ | refine blk_alloc ?_ _)); exact BK220.out) k_ hk)); (case aO => exact (by (with_reducible repeat (first | apply Kd.R_alloc | apply Kd.R_drewN | apply Kd.R_drew)); exact HO_5.out)); (case aS => exact (below_size (by repeat (first | (with_reducible first | exact HB.out | apply below_alloc | apply pw_below_drewN | apply below_drew1 | refine below_set ?_ GE220.out) | exact HB.out)))); (case aL => have := LMc19.out; omega); intro v228 w22 ho hb hg hat; rw [← Ny227.out] at ho; have n0_ := Aside0.mk (blk_grown (g := gb220) (o := .cells #[.int .i64 x221000_1, .int .i64 x221001_1, .int .i64 x221002_1, .int .i64 x221003_1] 50 (0, 0)) (by (with_reducible repeat (first | refine blk_drewN ?_ _ | refine blk_drew ?_ | refine blk_alloc ?_ _)); exact BK220.out) hg (Kd.R_away HO_5.out (fun _ hk => hk))); have n1_ := Aside0.mk (hb); have n2_ := Aside0.mk (ho); clear BK220; clear HB; clear HO_5; have BK220 := n0_; have HB := n1_; have HO229 := n2_; clear n0_ n1_ n2_; clear ho hb hg hat)))
            go_ret
            exact ⟨_, by first | rfl | (simp [errW_none, errW_some] <;> rfl) | (simp [*, errW_none, errW_some] <;> rfl), by (with_reducible repeat (first | apply Kd.R_alloc | apply Kd.R_drewN | apply Kd.R_drew)); exact Kd.R_mono HO229.out (fun _ hk => trivial), by repeat (first | (with_reducible first | exact HB.out | apply below_alloc | apply pw_below_drewN | apply below_drew1 | refine below_set ?_ GE220.out) | exact HB.out)⟩
          · rw [if_neg c19] at H
            exact absurd H (by simp)
  · rw [if_neg c3] at H
    exact absurd H (by simp)

end Go.Proofs.Ytpcfgpghfegjkaa.PSl
