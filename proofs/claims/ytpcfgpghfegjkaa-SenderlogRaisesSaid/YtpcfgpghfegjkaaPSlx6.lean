-- Laid by wip/tools/xprint.py, a program of this session over the kit's print: functions as Lean functions, each with its contract.
import Derived.Test.YtpcfgpghfegjkaaPSlx0
import Derived.Test.YtpcfgpghfegjkaaPSlx2
import Derived.Test.YtpcfgpghfegjkaaPSlx4
import Derived.Test.YtpcfgpghfegjkaaPSlx5
namespace Go.Proofs.Ytpcfgpghfegjkaa.PSl
open Go.RowKit Go.Proofs.YtpcfgpghfegjkaaW.PrintWords Go.Proofs.YtpcfgpghfegjkaaW.PrintLast Go.Proofs.YtpcfgpghfegjkaaW.PrintMore
attribute [local go_sem] max2_int min2_int max_two min_two max_three min_three max_four min_four   -- for this text's walks alone
set_option linter.unusedVariables false
set_option linter.unusedSimpArgs false

/-! ### rollbacknetlaw29_SenderlogRecords: function 11 -/
def rollbacknetlaw29_SenderlogRecords.j0 : Nat → List (S50) → Int → Bool → Int → Int → Int → Int → Option (Bool)
  | 0, _, _, _, _, _, _, _ => none
  | k + 1, x0, x2, x14, x231000, x231001, x231002, x231003 => if x14 = true then (some (decide ((x0.length : Int) > 60))) else ((senderlog_Record.f k x0 x231000 x231001 x231002 x231003).bind fun t232 => ((rollbacknetref29_Record.f k x0 x231000 x231001 x231002 x231003).bind fun t235 => ((rollbacknetref29_SameCopies.f k t232 t235).bind fun t238 => (if t238 = true then (if (x0.length : Int) = 0 then (some true) else ((rollbacknetmake_Mod.f x2 (x0.length : Int)).bind fun t239 => (if 0 ≤ t239 then (if t239 < (x0.length : Int) then ((senderlog_Record.f k x0 ((rd_T50 x0 t239).f0) ((rd_T50 x0 t239).f1) x231002 x231003).bind fun t242 => ((rollbacknetref29_Record.f k x0 ((rd_T50 x0 t239).f0) ((rd_T50 x0 t239).f1) x231002 x231003).bind fun t245 => ((rollbacknetref29_SameCopies.f k t242 t245).bind fun t248 => (some t248)))) else (none)) else (none)))) else (some false)))))
def rollbacknetlaw29_SenderlogRecords.f (k : Nat) (l0 : List (S50)) (a1_0 : Int) (a1_1 : Int) (a1_2 : Int) (a1_3 : Int) (a2 : Int) : Option (Bool) := (rollbacknetlaw29_awake.f k).bind fun t231 => (if t231 = true then (rollbacknetlaw29_SenderlogRecords.j0 k l0 a2 (decide ((l0.length : Int) > 60)) a1_0 a1_1 a1_2 a1_3) else (rollbacknetlaw29_SenderlogRecords.j0 k l0 a2 true a1_0 a1_1 a1_2 a1_3))
theorem rollbacknetlaw29_SenderlogRecords.mono_l : ∀ k, (∀ y0 y1 y2 y3 y4 y5 y6, LeO (rollbacknetlaw29_SenderlogRecords.j0 k y0 y1 y2 y3 y4 y5 y6) (rollbacknetlaw29_SenderlogRecords.j0 (k + 1) y0 y1 y2 y3 y4 y5 y6))
  | 0 => fun _ _ _ _ _ _ _ r h => by simp [rollbacknetlaw29_SenderlogRecords.j0] at h
  | k + 1 => by
    have ih0 := rollbacknetlaw29_SenderlogRecords.mono_l k
    · intro y0 y1 y2 y3 y4 y5 y6
      unfold rollbacknetlaw29_SenderlogRecords.j0
      repeat' first
      | (with_reducible exact ih0 _ _ _ _ _ _ _)
      | (with_reducible exact rollbacknetlaw29_awake.mono _)
      | (with_reducible exact rollbacknetref29_Record.mono _ _ _ _ _ _)
      | (with_reducible exact rollbacknetref29_SameCopies.mono _ _ _)
      | (with_reducible exact senderlog_Record.mono _ _ _ _ _ _)
      | (with_reducible exact LeO.refl _)
      | (with_reducible exact LeO.none _)
      | (with_reducible refine LeO.ite ?_ ?_)
      | (with_reducible refine LeO.bind ?_ (fun _ => ?_))
      | exact ih0 _ _ _ _ _ _ _
      | exact rollbacknetlaw29_awake.mono _
      | exact rollbacknetref29_Record.mono _ _ _ _ _ _
      | exact rollbacknetref29_SameCopies.mono _ _ _
      | exact senderlog_Record.mono _ _ _ _ _ _
      | exact LeO.none _
      | refine LeO.ite ?_ ?_
      | refine LeO.bind ?_ (fun _ => ?_)
theorem rollbacknetlaw29_SenderlogRecords.mono : ∀ a0 a1 a2 a3 a4 a5 k, LeO (rollbacknetlaw29_SenderlogRecords.f k a0 a1 a2 a3 a4 a5) (rollbacknetlaw29_SenderlogRecords.f (k + 1) a0 a1 a2 a3 a4 a5) := by
  intro a0 a1 a2 a3 a4 a5 k
  have ih0 := rollbacknetlaw29_SenderlogRecords.mono_l k
  unfold rollbacknetlaw29_SenderlogRecords.f
  repeat' first
      | (with_reducible exact ih0 _ _ _ _ _ _ _)
      | (with_reducible exact rollbacknetlaw29_awake.mono _)
      | (with_reducible exact rollbacknetref29_Record.mono _ _ _ _ _ _)
      | (with_reducible exact rollbacknetref29_SameCopies.mono _ _ _)
      | (with_reducible exact senderlog_Record.mono _ _ _ _ _ _)
      | (with_reducible exact LeO.refl _)
      | (with_reducible exact LeO.none _)
      | (with_reducible refine LeO.ite ?_ ?_)
      | (with_reducible refine LeO.bind ?_ (fun _ => ?_))
      | exact ih0 _ _ _ _ _ _ _
      | exact rollbacknetlaw29_awake.mono _
      | exact rollbacknetref29_Record.mono _ _ _ _ _ _
      | exact rollbacknetref29_SameCopies.mono _ _ _
      | exact senderlog_Record.mono _ _ _ _ _ _
      | exact LeO.none _
      | refine LeO.ite ?_ ?_
      | refine LeO.bind ?_ (fun _ => ?_)
def rollbacknetlaw29_SenderlogRecords.T3 : Bool × List (List Nat × List Nat) := (true, [([], []), ([], []), ([0, 1], [0, 1]), ([], []), ([], []), ([3, 4, 2], [3, 4]), ([2, 5, 5], [2, 5]), ([6], [6])])
def rollbacknetlaw29_SenderlogRecords.B3 : List Nat := [0, 0, 3, 0, 0, 31, 63, 127]
theorem rollbacknetlaw29_SenderlogRecords.tab3 : rtab .any (opsOf Try.f11 3) = rollbacknetlaw29_SenderlogRecords.T3 := by kernel_rfl
theorem rollbacknetlaw29_SenderlogRecords.bits3 : waitsOk rollbacknetlaw29_SenderlogRecords.T3.2 rollbacknetlaw29_SenderlogRecords.B3 = true := by kernel_rfl
def rollbacknetlaw29_SenderlogRecords.T8 : Bool × List (List Nat × List Nat) := (true, [([], []), ([0], [0]), ([], []), ([2], [2]), ([0, 1], []), ([4, 1, 0, 1], [1, 4]), ([0, 1, 2, 3, 4, 5], []), ([6, 3, 5, 0, 1, 2, 3, 4, 5], [3, 6])])
def rollbacknetlaw29_SenderlogRecords.B8 : List Nat := [0, 1, 0, 4, 3, 19, 63, 127]
theorem rollbacknetlaw29_SenderlogRecords.tab8 : rtab .any (opsOf Try.f11 8) = rollbacknetlaw29_SenderlogRecords.T8 := by kernel_rfl
theorem rollbacknetlaw29_SenderlogRecords.bits8 : waitsOk rollbacknetlaw29_SenderlogRecords.T8.2 rollbacknetlaw29_SenderlogRecords.B8 = true := by kernel_rfl
def rollbacknetlaw29_SenderlogRecords.T9 : Bool × List (List Nat × List Nat) := (true, [([], []), ([], []), ([0, 1], [0, 1]), ([], []), ([], []), ([3, 4, 2], [3, 4]), ([2, 5, 5], [2, 5]), ([6, 6, 0, 1, 2, 3, 4, 5, 6], [6])])
def rollbacknetlaw29_SenderlogRecords.B9 : List Nat := [0, 0, 3, 0, 0, 31, 63, 127]
theorem rollbacknetlaw29_SenderlogRecords.tab9 : rtab .any (opsOf Try.f11 9) = rollbacknetlaw29_SenderlogRecords.T9 := by kernel_rfl
theorem rollbacknetlaw29_SenderlogRecords.bits9 : waitsOk rollbacknetlaw29_SenderlogRecords.T9.2 rollbacknetlaw29_SenderlogRecords.B9 = true := by kernel_rfl
set_option maxHeartbeats 8000000 in
set_option maxRecDepth 100000 in
theorem rollbacknetlaw29_SenderlogRecords.calls (k : Nat) (A0 : Option Addr) (c0 : Nat) (l0 : List (S50)) (a1_0 : Int) (a1_1 : Int) (a1_2 : Int) (a1_3 : Int) (a2 : Int) (r : Bool) (w : World) (hr0 : Kd.C k50 w A0 l0.length l0) (hc0 : l0.length ≤ c0) (h : rollbacknetlaw29_SenderlogRecords.f k l0 a1_0 a1_1 a1_2 a1_3 a2 = some r) :
    Calls Try.prog 11 #[.slice A0 l0.length c0, .agg #[.int .i64 a1_0, .int .i64 a1_1, .int .i64 a1_2, .int .i64 a1_3], .int .i64 a2] w fun e w' => e = .returned (.bool r) ∧ Below w.heap.size w w' := by
  have hu50 := Try.underlying50
  have HR0 := Aside0.mk hr0
  have HC0 := Aside0.mk hc0
  clear hr0 hc0
  have HB := Aside0.mk (Below.refl w.heap.size w)
  have H : ((rollbacknetlaw29_awake.f k).bind fun t231 => (if t231 = true then (rollbacknetlaw29_SenderlogRecords.j0 k l0 a2 (decide ((l0.length : Int) > 60)) a1_0 a1_1 a1_2 a1_3) else (rollbacknetlaw29_SenderlogRecords.j0 k l0 a2 true a1_0 a1_1 a1_2 a1_3))) = some r := h
  clear h
  have HC4 := Aside0.mk H
  clear H
  go_enter Try.func11, Try.ntmps11
  go_upto_region 1 with (first | ((with_reducible refine gate_dst (N := 4) rfl ?_); (try (refine gate_guard (by rfl) ?_; dsimp only)); refine box_event ?hg (N := 4) ?hd (cs := #[.int .i64 a1_0, .int .i64 a1_1, .int .i64 a1_2, .int .i64 a1_3]) (t := 50) ?hr ?_; (case hd => rfl); (case hg => rfl); (case hr => first | (go_simp; done) | (go_simp; rfl)); intro gb230 hg w5 hbox hb; have n0_ := Aside0.mk (below_step (by repeat (first | (with_reducible first | exact HB.out | apply below_alloc | apply pw_below_drewN | apply below_drew1) | exact HB.out)) hb); have n1_ := Aside0.mk (hbox); have n2_ := Aside0.mk ((by rw [hg]; exact (below_size (by repeat (first | (with_reducible first | exact HB.out | apply below_alloc | apply pw_below_drewN | apply below_drew1) | exact HB.out))) : w.heap.size ≤ gb230)); have n3_ := Aside0.mk ((by rw [hg]; exact (below_size (by repeat (first | (with_reducible first | exact HB.out | apply below_alloc | apply pw_below_drewN | apply below_drew1) | exact HB.out))) : w.heap.size ≤ gb230)); clear HB; have HB := n0_; have BK230 := n1_; have GW230 := n2_; have GE230 := n3_; clear n0_ n1_ n2_ n3_; clear hb hbox hg))
  (try simp only [Act.put, List.setIfInBounds_toArray, List.set_cons_zero, List.set_cons_succ])
  go_cut [14] (fun v14 wc => ∃ (kq : Nat) (x14_3 : Bool), v14 = .bool x14_3 ∧ Aside0 (rollbacknetlaw29_SenderlogRecords.j0 kq l0 a2 x14_3 a1_0 a1_1 a1_2 a1_3 = some r) ∧ Aside0 (kq ≤ k) ∧ Aside0 (wc.heap[gb230]? = some (.cells #[.int .i64 a1_0, .int .i64 a1_1, .int .i64 a1_2, .int .i64 a1_3] 50 (0, 0))) ∧ Aside0 (Below w.heap.size w wc))
  case first =>
    have H := HC4.out
    clear HC4
    replace H := Option.bind_eq_some_iff.mp H
    obtain ⟨t231, A60, H⟩ := H
    replace H : (if t231 = true then (rollbacknetlaw29_SenderlogRecords.j0 k l0 a2 (decide ((l0.length : Int) > 60)) a1_0 a1_1 a1_2 a1_3) else (rollbacknetlaw29_SenderlogRecords.j0 k l0 a2 true a1_0 a1_1 a1_2 a1_3)) = some r := H
    have A6 := Aside0.mk A60
    clear A60
    by_cases c7 : t231 = true
    · subst c7
      have H1 : (rollbacknetlaw29_SenderlogRecords.j0 k l0 a2 (decide ((l0.length : Int) > 60)) a1_0 a1_1 a1_2 a1_3) = some r := by rw [if_pos rfl] at H; exact H
      clear H
      have H := H1
      clear H1
      have H' := Aside0.mk H
      clear H
      go_wp2_with (first | ((with_reducible refine gate_callee (f := 14) rfl ?_); refine goesL_ (some 8) rfl rfl Try.func14 (by kernel_rfl) rfl #[] rfl (by (try simp only [List.map_toArray, List.map_cons, List.map_nil]); first | done | rfl | (simp only [List.length_drop, List.length_take]; rfl)) ?_; (with_reducible refine (rollbacknetlaw29_awake.calls k  true _ A6.out).mono ?_); rintro e w8 ⟨rfl, hb⟩; refine ⟨_, rfl, ?_⟩; have n0_ := Aside0.mk (blk_below (g := gb230) (o := .cells #[.int .i64 a1_0, .int .i64 a1_1, .int .i64 a1_2, .int .i64 a1_3] 50 (0, 0)) (by (with_reducible repeat (first | refine blk_drewN ?_ _ | refine blk_drew ?_ | refine blk_alloc ?_ _)); exact BK230.out) hb); have n1_ := Aside0.mk (below_step (by repeat (first | (with_reducible first | exact HB.out | apply below_alloc | apply pw_below_drewN | apply below_drew1 | refine below_set ?_ GE230.out) | exact HB.out)) hb); clear BK230; clear HB; have BK230 := n0_; have HB := n1_; clear n0_ n1_; (try clear hb); (try clear hb2); (try clear hk); (try clear hi)))
      go_meet
      case rel => exact ⟨_, (decide ((l0.length : Int) > 60)), (by first | rfl | (simp; done) | (simp [*]; done)), H', ⟨by first | omega | exact Nat.le_refl _⟩, ⟨by (with_reducible repeat (first | refine blk_drewN ?_ _ | refine blk_drew ?_ | refine blk_alloc ?_ _)); exact BK230.out⟩, ⟨by repeat (first | (with_reducible first | exact HB.out | apply below_alloc | apply pw_below_drewN | apply below_drew1 | refine below_set ?_ GE230.out) | exact HB.out)⟩⟩
    · replace c7 := Bool.eq_false_iff.mpr c7
      subst c7
      have H1 : (rollbacknetlaw29_SenderlogRecords.j0 k l0 a2 true a1_0 a1_1 a1_2 a1_3) = some r := by rw [if_neg (show ¬ (false = true) by decide)] at H; exact H
      clear H
      have H := H1
      clear H1
      have H' := Aside0.mk H
      clear H
      go_wp2_with (first | ((with_reducible refine gate_callee (f := 14) rfl ?_); refine goesL_ (some 8) rfl rfl Try.func14 (by kernel_rfl) rfl #[] rfl (by (try simp only [List.map_toArray, List.map_cons, List.map_nil]); first | done | rfl | (simp only [List.length_drop, List.length_take]; rfl)) ?_; (with_reducible refine (rollbacknetlaw29_awake.calls k  false _ A6.out).mono ?_); rintro e w9 ⟨rfl, hb⟩; refine ⟨_, rfl, ?_⟩; have n0_ := Aside0.mk (blk_below (g := gb230) (o := .cells #[.int .i64 a1_0, .int .i64 a1_1, .int .i64 a1_2, .int .i64 a1_3] 50 (0, 0)) (by (with_reducible repeat (first | refine blk_drewN ?_ _ | refine blk_drew ?_ | refine blk_alloc ?_ _)); exact BK230.out) hb); have n1_ := Aside0.mk (below_step (by repeat (first | (with_reducible first | exact HB.out | apply below_alloc | apply pw_below_drewN | apply below_drew1 | refine below_set ?_ GE230.out) | exact HB.out)) hb); clear BK230; clear HB; have BK230 := n0_; have HB := n1_; clear n0_ n1_; (try clear hb); (try clear hb2); (try clear hk); (try clear hi)))
      go_meet
      case rel => exact ⟨_, (true), (by first | rfl | (simp; done) | (simp [*]; done)), H', ⟨by first | omega | exact Nat.le_refl _⟩, ⟨by (with_reducible repeat (first | refine blk_drewN ?_ _ | refine blk_drew ?_ | refine blk_alloc ?_ _)); exact BK230.out⟩, ⟨by repeat (first | (with_reducible first | exact HB.out | apply below_alloc | apply pw_below_drewN | apply below_drew1 | refine below_set ?_ GE230.out) | exact HB.out)⟩⟩
  case rest =>
    clear HC4
    try clear c1
    try clear p2
    try clear c7
    obtain ⟨kq, x14_3, rfl, HA, HJ3, BK230, HB⟩ := hcut
    cases kq with
    | zero => exact absurd HA.out (by simp [rollbacknetlaw29_SenderlogRecords.j0])
    | succ kj3 =>
      have H := HA.out
      clear HA
      simp only [rollbacknetlaw29_SenderlogRecords.j0] at H
      by_cases c10 : x14_3 = true
      · subst c10
        have H1 : (some (decide ((l0.length : Int) > 60))) = some r := by rw [if_pos rfl] at H; exact H
        clear H
        have H := H1
        clear H1
        obtain rfl := Option.some.inj H
        go_wp2
        go_ret
        exact ⟨by first | rfl | (simp [errW_none, errW_some] <;> rfl) | (simp [*, errW_none, errW_some] <;> rfl), by repeat (first | (with_reducible first | exact HB.out | apply below_alloc | apply pw_below_drewN | apply below_drew1 | refine below_set ?_ GE230.out) | exact HB.out)⟩
      · replace c10 := Bool.eq_false_iff.mpr c10
        subst c10
        have H1 : ((senderlog_Record.f kj3 l0 a1_0 a1_1 a1_2 a1_3).bind fun t232 => ((rollbacknetref29_Record.f kj3 l0 a1_0 a1_1 a1_2 a1_3).bind fun t235 => ((rollbacknetref29_SameCopies.f kj3 t232 t235).bind fun t238 => (if t238 = true then (if (l0.length : Int) = 0 then (some true) else ((rollbacknetmake_Mod.f a2 (l0.length : Int)).bind fun t239 => (if 0 ≤ t239 then (if t239 < (l0.length : Int) then ((senderlog_Record.f kj3 l0 ((rd_T50 l0 t239).f0) ((rd_T50 l0 t239).f1) a1_2 a1_3).bind fun t242 => ((rollbacknetref29_Record.f kj3 l0 ((rd_T50 l0 t239).f0) ((rd_T50 l0 t239).f1) a1_2 a1_3).bind fun t245 => ((rollbacknetref29_SameCopies.f kj3 t242 t245).bind fun t248 => (some t248)))) else (none)) else (none)))) else (some false))))) = some r := by rw [if_neg (show ¬ (false = true) by decide)] at H; exact H
        clear H
        have H := H1
        clear H1
        replace H := Option.bind_eq_some_iff.mp H
        obtain ⟨t232, A110, H⟩ := H
        replace H : ((rollbacknetref29_Record.f kj3 l0 a1_0 a1_1 a1_2 a1_3).bind fun t235 => ((rollbacknetref29_SameCopies.f kj3 t232 t235).bind fun t238 => (if t238 = true then (if (l0.length : Int) = 0 then (some true) else ((rollbacknetmake_Mod.f a2 (l0.length : Int)).bind fun t239 => (if 0 ≤ t239 then (if t239 < (l0.length : Int) then ((senderlog_Record.f kj3 l0 ((rd_T50 l0 t239).f0) ((rd_T50 l0 t239).f1) a1_2 a1_3).bind fun t242 => ((rollbacknetref29_Record.f kj3 l0 ((rd_T50 l0 t239).f0) ((rd_T50 l0 t239).f1) a1_2 a1_3).bind fun t245 => ((rollbacknetref29_SameCopies.f kj3 t242 t245).bind fun t248 => (some t248)))) else (none)) else (none)))) else (some false)))) = some r := H
        have A11 := Aside0.mk A110
        clear A110
        replace H := Option.bind_eq_some_iff.mp H
        obtain ⟨t235, A120, H⟩ := H
        replace H : ((rollbacknetref29_SameCopies.f kj3 t232 t235).bind fun t238 => (if t238 = true then (if (l0.length : Int) = 0 then (some true) else ((rollbacknetmake_Mod.f a2 (l0.length : Int)).bind fun t239 => (if 0 ≤ t239 then (if t239 < (l0.length : Int) then ((senderlog_Record.f kj3 l0 ((rd_T50 l0 t239).f0) ((rd_T50 l0 t239).f1) a1_2 a1_3).bind fun t242 => ((rollbacknetref29_Record.f kj3 l0 ((rd_T50 l0 t239).f0) ((rd_T50 l0 t239).f1) a1_2 a1_3).bind fun t245 => ((rollbacknetref29_SameCopies.f kj3 t242 t245).bind fun t248 => (some t248)))) else (none)) else (none)))) else (some false))) = some r := H
        have A12 := Aside0.mk A120
        clear A120
        replace H := Option.bind_eq_some_iff.mp H
        obtain ⟨t238, A130, H⟩ := H
        replace H : (if t238 = true then (if (l0.length : Int) = 0 then (some true) else ((rollbacknetmake_Mod.f a2 (l0.length : Int)).bind fun t239 => (if 0 ≤ t239 then (if t239 < (l0.length : Int) then ((senderlog_Record.f kj3 l0 ((rd_T50 l0 t239).f0) ((rd_T50 l0 t239).f1) a1_2 a1_3).bind fun t242 => ((rollbacknetref29_Record.f kj3 l0 ((rd_T50 l0 t239).f0) ((rd_T50 l0 t239).f1) a1_2 a1_3).bind fun t245 => ((rollbacknetref29_SameCopies.f kj3 t242 t245).bind fun t248 => (some t248)))) else (none)) else (none)))) else (some false)) = some r := H
        have A13 := Aside0.mk A130
        clear A130
        by_cases c14 : t238 = true
        · subst c14
          have H1 : (if (l0.length : Int) = 0 then (some true) else ((rollbacknetmake_Mod.f a2 (l0.length : Int)).bind fun t239 => (if 0 ≤ t239 then (if t239 < (l0.length : Int) then ((senderlog_Record.f kj3 l0 ((rd_T50 l0 t239).f0) ((rd_T50 l0 t239).f1) a1_2 a1_3).bind fun t242 => ((rollbacknetref29_Record.f kj3 l0 ((rd_T50 l0 t239).f0) ((rd_T50 l0 t239).f1) a1_2 a1_3).bind fun t245 => ((rollbacknetref29_SameCopies.f kj3 t242 t245).bind fun t248 => (some t248)))) else (none)) else (none)))) = some r := by rw [if_pos rfl] at H; exact H
          clear H
          have H := H1
          clear H1
          by_cases c15 : (l0.length : Int) = 0
          · rw [if_pos c15] at H
            have c15b0 : ((l0.length : Int) == 0) = true := beq_iff_eq.mpr c15
            have c15b1 : ((l0.length : Int) != 0) = false := bne_eq_false_iff_eq.mpr c15
            clear c15
            obtain rfl := Option.some.inj H
            try go_wp2
            have n0_ := Aside0.mk (blk_drew BK230.out)
            have n1_ := Aside0.mk (below_drew1 HB.out)
            clear BK230
            clear HB
            have BK230 := n0_
            have HB := n1_
            clear n0_ n1_
            refine start_ (n := 8) (S := fun w' => w'.cell? ⟨gb230, 0, none⟩ = some (.int .i64 a1_0) ∧ w'.cell? ⟨gb230, 1, none⟩ = some (.int .i64 a1_1) ∧ w'.cell? ⟨gb230, 2, none⟩ = some (.int .i64 a1_2) ∧ w'.cell? ⟨gb230, 3, none⟩ = some (.int .i64 a1_3)) (ds := []) #[false, false, false, false, false, false, false, false] (by kernel_rfl) rfl rfl ⟨(blk_cell BK230.out 0).trans rfl, (blk_cell BK230.out 1).trans rfl, (blk_cell BK230.out 2).trans rfl, (blk_cell BK230.out 3).trans rfl⟩ (fun hHeld => ?_); refine with_tabW rollbacknetlaw29_SenderlogRecords.tab3 rollbacknetlaw29_SenderlogRecords.bits3 (fun HT_ HW_ => ?_)
            generalize wc.drew = w16 at BK230 HB hHeld ⊢
            refine pure_ (i := 0) (N := some 18) (v := ?_) (a' := ?_) #[true, false, false, false, false, false, false, false] rfl rfl (any_of HT_.out (by kernel_rfl)) (fun _ _ _ h => h) (Or.inl ⟨by rfl, ?_⟩) ?_ ?_
            rotate_left
            · intro w'
              go_simp
              with_reducible rfl
            rotate_left
            · simp only [Act.put, List.setIfInBounds_toArray, List.set_cons_zero, List.set_cons_succ, i64_w, i32_w]
              rfl
            refine pure_ (i := 3) (N := some 21) (v := ?_) (a' := ?_) #[true, false, false, true, false, false, false, false] rfl rfl (any_of HT_.out (by kernel_rfl)) (fun _ _ _ h => h) (Or.inl ⟨by rfl, ?_⟩) ?_ ?_
            rotate_left
            · intro w'
              go_simp
              with_reducible rfl
            rotate_left
            · simp only [Act.put, List.setIfInBounds_toArray, List.set_cons_zero, List.set_cons_succ, i64_w, i32_w]
              rfl
            refine take_ (i := 1) (N := some 19) (v := ?_) (a' := ?_) #[true, true, false, true, false, false, false, false] rfl rfl (take_ofW HT_.out HW_.out (by kernel_rfl)) (fun _ _ _ h => h) (Or.inl ⟨by rfl, ?_⟩) hHeld ?_ ?_
            rotate_left
            · rintro w' ⟨s0, s1, s2, s3⟩
              go_simp
              with_reducible rfl
            rotate_left
            · simp only [Act.put, List.setIfInBounds_toArray, List.set_cons_zero, List.set_cons_succ, i64_w, i32_w]
              rfl
            refine take_ (i := 4) (N := some 22) (v := ?_) (a' := ?_) #[true, true, false, true, true, false, false, false] rfl rfl (take_ofW HT_.out HW_.out (by kernel_rfl)) (fun _ _ _ h => h) (Or.inl ⟨by rfl, ?_⟩) hHeld ?_ ?_
            rotate_left
            · rintro w' ⟨s0, s1, s2, s3⟩
              go_simp
              with_reducible rfl
            rotate_left
            · simp only [Act.put, List.setIfInBounds_toArray, List.set_cons_zero, List.set_cons_succ, i64_w, i32_w]
              rfl
            refine one_ (i := 2) (N := some 20) #[true, true, true, true, true, false, false, false] rfl rfl (one_of HT_.out (by kernel_rfl)) (by decide) (fun K hK => ?_)
            refine goes_ Try.func33 (by kernel_rfl) rfl #[.slice A0 l0.length c0, .agg #[.int .i64 a1_0, .int .i64 a1_1, .int .i64 a1_2, .int .i64 a1_3]] (by rfl) rfl rfl (by (try simp only [List.map_toArray, List.map_cons, List.map_nil]); first | done | rfl | (simp only [List.length_drop, List.length_take]; rfl)) ?_
            with_reducible refine (senderlog_Record.calls kj3 _ _ l0 a1_0 a1_1 a1_2 a1_3 t232 _ ?side1 ?side2 A11.out).mono ?_
            (case side1 => repeat (first | exact (Kd.C_below HR0.out HB.out) | (with_reducible refine Kd.C_alloc ?_ _) | (with_reducible refine Kd.C_drewN ?_ _) | (with_reducible refine Kd.C_drew ?_)))
            (case side2 => exact HC0.out)
            rintro e w17 ⟨v233, rfl, ho0, hb⟩
            refine ⟨_, rfl, ?_⟩
            have n0_ := Aside0.mk (Kd.R_lower (Kd.R_newB ho0 (g := gb230) (o := .cells #[.int .i64 a1_0, .int .i64 a1_1, .int .i64 a1_2, .int .i64 a1_3] 50 (0, 0)) (by (with_reducible repeat (first | refine blk_drewN ?_ _ | refine blk_drew ?_ | refine blk_alloc ?_ _)); exact BK230.out)) (below_size (by repeat (first | (with_reducible first | exact HB.out | apply below_alloc | apply pw_below_drewN | apply below_drew1 | refine below_set ?_ GE230.out) | exact HB.out))))
            have n1_ := Aside0.mk (blk_below (g := gb230) (o := .cells #[.int .i64 a1_0, .int .i64 a1_1, .int .i64 a1_2, .int .i64 a1_3] 50 (0, 0)) (by (with_reducible repeat (first | refine blk_drewN ?_ _ | refine blk_drew ?_ | refine blk_alloc ?_ _)); exact BK230.out) hb)
            have n2_ := Aside0.mk (below_step (by repeat (first | (with_reducible first | exact HB.out | apply below_alloc | apply pw_below_drewN | apply below_drew1 | refine below_set ?_ GE230.out) | exact HB.out)) hb)
            clear BK230
            clear HB
            have HO234 := n0_
            have BK230 := n1_
            have HB := n2_
            clear n0_ n1_ n2_
            (try clear hb)
            (try clear hb2)
            (try clear hk)
            (try clear hi)
            (try clear ho0)
            refine hK.out _ _ ⟨(blk_cell BK230.out 0).trans rfl, (blk_cell BK230.out 1).trans rfl, (blk_cell BK230.out 2).trans rfl, (blk_cell BK230.out 3).trans rfl⟩ (fun hHeld => ?_)
            clear hK K
            refine norm_ (a' := ?_) ?_ ?_
            rotate_left
            · show Act.put _ (some 20) _ = _
              simp only [Act.put, List.setIfInBounds_toArray, List.set_cons_zero, List.set_cons_succ, i64_w, i32_w]
              rfl
            refine one_ (i := 5) (N := some 23) #[true, true, true, true, true, true, false, false] rfl rfl (one_of HT_.out (by kernel_rfl)) (by decide) (fun K hK => ?_)
            refine goes_ Try.func34 (by kernel_rfl) rfl #[.slice A0 l0.length c0, .agg #[.int .i64 a1_0, .int .i64 a1_1, .int .i64 a1_2, .int .i64 a1_3]] (by rfl) rfl rfl (by (try simp only [List.map_toArray, List.map_cons, List.map_nil]); first | done | rfl | (simp only [List.length_drop, List.length_take]; rfl)) ?_
            with_reducible refine (rollbacknetref29_Record.calls kj3 _ _ l0 a1_0 a1_1 a1_2 a1_3 t235 _ ?side1 ?side2 A12.out).mono ?_
            (case side1 => repeat (first | exact (Kd.C_below HR0.out HB.out) | (with_reducible refine Kd.C_alloc ?_ _) | (with_reducible refine Kd.C_drewN ?_ _) | (with_reducible refine Kd.C_drew ?_)))
            (case side2 => exact HC0.out)
            rintro e w18 ⟨v236, rfl, ho0, hb⟩
            refine ⟨_, rfl, ?_⟩
            have n0_ := Aside0.mk (Kd.R_elder' (by (with_reducible repeat (first | apply Kd.R_alloc | apply Kd.R_drewN | apply Kd.R_drew)); exact HO234.out) (Kd.R_base ho0) hb)
            have n1_ := Aside0.mk (Kd.R_lower (Kd.R_newB (Kd.R_new' ho0 (Kd.R_lt (by (with_reducible repeat (first | apply Kd.R_alloc | apply Kd.R_drewN | apply Kd.R_drew)); exact HO234.out))) (g := gb230) (o := .cells #[.int .i64 a1_0, .int .i64 a1_1, .int .i64 a1_2, .int .i64 a1_3] 50 (0, 0)) (by (with_reducible repeat (first | refine blk_drewN ?_ _ | refine blk_drew ?_ | refine blk_alloc ?_ _)); exact BK230.out)) (below_size (by repeat (first | (with_reducible first | exact HB.out | apply below_alloc | apply pw_below_drewN | apply below_drew1 | refine below_set ?_ GE230.out) | exact HB.out))))
            have n2_ := Aside0.mk (blk_below (g := gb230) (o := .cells #[.int .i64 a1_0, .int .i64 a1_1, .int .i64 a1_2, .int .i64 a1_3] 50 (0, 0)) (by (with_reducible repeat (first | refine blk_drewN ?_ _ | refine blk_drew ?_ | refine blk_alloc ?_ _)); exact BK230.out) hb)
            have n3_ := Aside0.mk (below_step (by repeat (first | (with_reducible first | exact HB.out | apply below_alloc | apply pw_below_drewN | apply below_drew1 | refine below_set ?_ GE230.out) | exact HB.out)) hb)
            clear HO234
            clear BK230
            clear HB
            have HO234 := n0_
            have HO237 := n1_
            have BK230 := n2_
            have HB := n3_
            clear n0_ n1_ n2_ n3_
            (try clear hb)
            (try clear hb2)
            (try clear hk)
            (try clear hi)
            (try clear ho0)
            obtain ⟨Ao19, co19, eo19⟩ := Kd.R_slice HO234.out
            (first | subst eo19 | (injection eo19 with f1_ f2_ f3_; have f4_ := f1_.symm; have f5_ := f3_.symm; clear f1_ f2_ f3_; subst f4_; subst f5_))
            obtain ⟨Ao20, co20, eo20⟩ := Kd.R_slice HO237.out
            (first | subst eo20 | (injection eo20 with f1_ f2_ f3_; have f4_ := f1_.symm; have f5_ := f3_.symm; clear f1_ f2_ f3_; subst f4_; subst f5_))
            refine hK.out _ _ ⟨(blk_cell BK230.out 0).trans rfl, (blk_cell BK230.out 1).trans rfl, (blk_cell BK230.out 2).trans rfl, (blk_cell BK230.out 3).trans rfl⟩ (fun hHeld => ?_)
            clear hK K
            refine norm_ (a' := ?_) ?_ ?_
            rotate_left
            · show Act.put _ (some 23) _ = _
              simp only [Act.put, List.setIfInBounds_toArray, List.set_cons_zero, List.set_cons_succ, i64_w, i32_w]
              rfl
            refine one_ (i := 6) (N := some 24) #[true, true, true, true, true, true, true, false] rfl rfl (one_of HT_.out (by kernel_rfl)) (by decide) (fun K hK => ?_)
            refine goes_ Try.func32 (by kernel_rfl) rfl #[.slice Ao19 t232.length co19, .slice Ao20 t235.length co20] (by rfl) rfl rfl (by (try simp only [List.map_toArray, List.map_cons, List.map_nil]); first | done | rfl | (simp only [List.length_drop, List.length_take]; rfl)) ?_
            with_reducible refine (rollbacknetref29_SameCopies.calls kj3 _ _ t232 _ _ t235 true _ ?side1 ?side2 ?side3 ?side4 A13.out).mono ?_
            (case side1 => repeat (first | exact (Kd.R_reads' HO234.out).2.2 | (with_reducible refine Kd.C_alloc ?_ _) | (with_reducible refine Kd.C_drewN ?_ _) | (with_reducible refine Kd.C_drew ?_)))
            (case side2 => exact (Kd.R_reads' HO234.out).2.1)
            (case side3 => repeat (first | exact (Kd.R_reads' HO237.out).2.2 | (with_reducible refine Kd.C_alloc ?_ _) | (with_reducible refine Kd.C_drewN ?_ _) | (with_reducible refine Kd.C_drew ?_)))
            (case side4 => exact (Kd.R_reads' HO237.out).2.1)
            rintro e w' ⟨rfl, ⟨nd, rfl⟩⟩
            refine ⟨_, rfl, ?_⟩
            refine hK.out _ _ ⟨(blk_cell BK230.out 0).trans rfl, (blk_cell BK230.out 1).trans rfl, (blk_cell BK230.out 2).trans rfl, (blk_cell BK230.out 3).trans rfl⟩ (fun hHeld => ?_)
            clear hK K
            refine norm_ (a' := ?_) ?_ ?_
            rotate_left
            · show Act.put _ (some 24) _ = _
              simp only [Act.put, List.setIfInBounds_toArray, List.set_cons_zero, List.set_cons_succ, i64_w, i32_w]
              rfl
            refine pure_ (i := 7) (N := some 25) (v := ?_) (a' := ?_) #[true, true, true, true, true, true, true, true] rfl rfl (any_of HT_.out (by kernel_rfl)) (fun _ _ _ h => h) (Or.inl ⟨by rfl, ?_⟩) ?_ ?_
            rotate_left
            · intro w'
              go_simp
              with_reducible rfl
            rotate_left
            · simp only [Act.put, List.setIfInBounds_toArray, List.set_cons_zero, List.set_cons_succ, i64_w, i32_w]
              rfl
            refine done_ (done_of HT_.out (by kernel_rfl)) ?_
            try go_wp2
            go_ret
            exact ⟨by first | rfl | (simp [errW_none, errW_some] <;> rfl) | (simp [*, errW_none, errW_some] <;> rfl), by repeat (first | (with_reducible first | exact HB.out | apply below_alloc | apply pw_below_drewN | apply below_drew1 | refine below_set ?_ GE230.out) | exact HB.out)⟩
          · rw [if_neg c15] at H
            have c15b0 : ((l0.length : Int) == 0) = false := beq_eq_false_iff_ne.mpr c15
            have c15b1 : ((l0.length : Int) != 0) = true := bne_iff_ne.mpr c15
            have c15b2 : ¬ (l0 = []) := fun h_ => c15 (by rw [h_]; rfl)
            replace H := Option.bind_eq_some_iff.mp H
            obtain ⟨t239, A210, H⟩ := H
            replace H : (if 0 ≤ t239 then (if t239 < (l0.length : Int) then ((senderlog_Record.f kj3 l0 ((rd_T50 l0 t239).f0) ((rd_T50 l0 t239).f1) a1_2 a1_3).bind fun t242 => ((rollbacknetref29_Record.f kj3 l0 ((rd_T50 l0 t239).f0) ((rd_T50 l0 t239).f1) a1_2 a1_3).bind fun t245 => ((rollbacknetref29_SameCopies.f kj3 t242 t245).bind fun t248 => (some t248)))) else (none)) else (none)) = some r := H
            have A21 := Aside0.mk A210
            clear A210
            by_cases c22 : 0 ≤ t239
            · rw [if_pos c22] at H
              have c22b0 : decide (0 ≤ t239) = true := decide_eq_true c22
              clear c22
              by_cases c23 : t239 < (l0.length : Int)
              · rw [if_pos c23] at H
                have c23b0 : decide (t239 < (l0.length : Int)) = true := decide_eq_true c23
                clear c23
                replace H := Option.bind_eq_some_iff.mp H
                obtain ⟨t242, A240, H⟩ := H
                replace H : ((rollbacknetref29_Record.f kj3 l0 ((rd_T50 l0 t239).f0) ((rd_T50 l0 t239).f1) a1_2 a1_3).bind fun t245 => ((rollbacknetref29_SameCopies.f kj3 t242 t245).bind fun t248 => (some t248))) = some r := H
                have A24 := Aside0.mk A240
                clear A240
                replace H := Option.bind_eq_some_iff.mp H
                obtain ⟨t245, A250, H⟩ := H
                replace H : ((rollbacknetref29_SameCopies.f kj3 t242 t245).bind fun t248 => (some t248)) = some r := H
                have A25 := Aside0.mk A250
                clear A250
                replace H := Option.bind_eq_some_iff.mp H
                obtain ⟨t248, A260, H⟩ := H
                replace H : (some t248) = some r := H
                have A26 := Aside0.mk A260
                clear A260
                obtain rfl := Option.some.inj H
                try go_wp2
                have n0_ := Aside0.mk (blk_drew BK230.out)
                have n1_ := Aside0.mk (below_drew1 HB.out)
                clear BK230
                clear HB
                have BK230 := n0_
                have HB := n1_
                clear n0_ n1_
                refine start_ (n := 8) (S := fun w' => w'.cell? ⟨gb230, 0, none⟩ = some (.int .i64 a1_0) ∧ w'.cell? ⟨gb230, 1, none⟩ = some (.int .i64 a1_1) ∧ w'.cell? ⟨gb230, 2, none⟩ = some (.int .i64 a1_2) ∧ w'.cell? ⟨gb230, 3, none⟩ = some (.int .i64 a1_3)) (ds := []) #[false, false, false, false, false, false, false, false] (by kernel_rfl) rfl rfl ⟨(blk_cell BK230.out 0).trans rfl, (blk_cell BK230.out 1).trans rfl, (blk_cell BK230.out 2).trans rfl, (blk_cell BK230.out 3).trans rfl⟩ (fun hHeld => ?_); refine with_tabW rollbacknetlaw29_SenderlogRecords.tab3 rollbacknetlaw29_SenderlogRecords.bits3 (fun HT_ HW_ => ?_)
                generalize wc.drew = w27 at BK230 HB hHeld ⊢
                refine pure_ (i := 0) (N := some 18) (v := ?_) (a' := ?_) #[true, false, false, false, false, false, false, false] rfl rfl (any_of HT_.out (by kernel_rfl)) (fun _ _ _ h => h) (Or.inl ⟨by rfl, ?_⟩) ?_ ?_
                rotate_left
                · intro w'
                  go_simp
                  with_reducible rfl
                rotate_left
                · simp only [Act.put, List.setIfInBounds_toArray, List.set_cons_zero, List.set_cons_succ, i64_w, i32_w]
                  rfl
                refine pure_ (i := 3) (N := some 21) (v := ?_) (a' := ?_) #[true, false, false, true, false, false, false, false] rfl rfl (any_of HT_.out (by kernel_rfl)) (fun _ _ _ h => h) (Or.inl ⟨by rfl, ?_⟩) ?_ ?_
                rotate_left
                · intro w'
                  go_simp
                  with_reducible rfl
                rotate_left
                · simp only [Act.put, List.setIfInBounds_toArray, List.set_cons_zero, List.set_cons_succ, i64_w, i32_w]
                  rfl
                refine take_ (i := 1) (N := some 19) (v := ?_) (a' := ?_) #[true, true, false, true, false, false, false, false] rfl rfl (take_ofW HT_.out HW_.out (by kernel_rfl)) (fun _ _ _ h => h) (Or.inl ⟨by rfl, ?_⟩) hHeld ?_ ?_
                rotate_left
                · rintro w' ⟨s0, s1, s2, s3⟩
                  go_simp
                  with_reducible rfl
                rotate_left
                · simp only [Act.put, List.setIfInBounds_toArray, List.set_cons_zero, List.set_cons_succ, i64_w, i32_w]
                  rfl
                refine take_ (i := 4) (N := some 22) (v := ?_) (a' := ?_) #[true, true, false, true, true, false, false, false] rfl rfl (take_ofW HT_.out HW_.out (by kernel_rfl)) (fun _ _ _ h => h) (Or.inl ⟨by rfl, ?_⟩) hHeld ?_ ?_
                rotate_left
                · rintro w' ⟨s0, s1, s2, s3⟩
                  go_simp
                  with_reducible rfl
                rotate_left
                · simp only [Act.put, List.setIfInBounds_toArray, List.set_cons_zero, List.set_cons_succ, i64_w, i32_w]
                  rfl
                refine one_ (i := 2) (N := some 20) #[true, true, true, true, true, false, false, false] rfl rfl (one_of HT_.out (by kernel_rfl)) (by decide) (fun K hK => ?_)
                refine goes_ Try.func33 (by kernel_rfl) rfl #[.slice A0 l0.length c0, .agg #[.int .i64 a1_0, .int .i64 a1_1, .int .i64 a1_2, .int .i64 a1_3]] (by rfl) rfl rfl (by (try simp only [List.map_toArray, List.map_cons, List.map_nil]); first | done | rfl | (simp only [List.length_drop, List.length_take]; rfl)) ?_
                with_reducible refine (senderlog_Record.calls kj3 _ _ l0 a1_0 a1_1 a1_2 a1_3 t232 _ ?side1 ?side2 A11.out).mono ?_
                (case side1 => repeat (first | exact (Kd.C_below HR0.out HB.out) | (with_reducible refine Kd.C_alloc ?_ _) | (with_reducible refine Kd.C_drewN ?_ _) | (with_reducible refine Kd.C_drew ?_)))
                (case side2 => exact HC0.out)
                rintro e w28 ⟨v233, rfl, ho0, hb⟩
                refine ⟨_, rfl, ?_⟩
                have n0_ := Aside0.mk (Kd.R_lower (Kd.R_newB ho0 (g := gb230) (o := .cells #[.int .i64 a1_0, .int .i64 a1_1, .int .i64 a1_2, .int .i64 a1_3] 50 (0, 0)) (by (with_reducible repeat (first | refine blk_drewN ?_ _ | refine blk_drew ?_ | refine blk_alloc ?_ _)); exact BK230.out)) (below_size (by repeat (first | (with_reducible first | exact HB.out | apply below_alloc | apply pw_below_drewN | apply below_drew1 | refine below_set ?_ GE230.out) | exact HB.out))))
                have n1_ := Aside0.mk (blk_below (g := gb230) (o := .cells #[.int .i64 a1_0, .int .i64 a1_1, .int .i64 a1_2, .int .i64 a1_3] 50 (0, 0)) (by (with_reducible repeat (first | refine blk_drewN ?_ _ | refine blk_drew ?_ | refine blk_alloc ?_ _)); exact BK230.out) hb)
                have n2_ := Aside0.mk (below_step (by repeat (first | (with_reducible first | exact HB.out | apply below_alloc | apply pw_below_drewN | apply below_drew1 | refine below_set ?_ GE230.out) | exact HB.out)) hb)
                clear BK230
                clear HB
                have HO234 := n0_
                have BK230 := n1_
                have HB := n2_
                clear n0_ n1_ n2_
                (try clear hb)
                (try clear hb2)
                (try clear hk)
                (try clear hi)
                (try clear ho0)
                refine hK.out _ _ ⟨(blk_cell BK230.out 0).trans rfl, (blk_cell BK230.out 1).trans rfl, (blk_cell BK230.out 2).trans rfl, (blk_cell BK230.out 3).trans rfl⟩ (fun hHeld => ?_)
                clear hK K
                refine norm_ (a' := ?_) ?_ ?_
                rotate_left
                · show Act.put _ (some 20) _ = _
                  simp only [Act.put, List.setIfInBounds_toArray, List.set_cons_zero, List.set_cons_succ, i64_w, i32_w]
                  rfl
                refine one_ (i := 5) (N := some 23) #[true, true, true, true, true, true, false, false] rfl rfl (one_of HT_.out (by kernel_rfl)) (by decide) (fun K hK => ?_)
                refine goes_ Try.func34 (by kernel_rfl) rfl #[.slice A0 l0.length c0, .agg #[.int .i64 a1_0, .int .i64 a1_1, .int .i64 a1_2, .int .i64 a1_3]] (by rfl) rfl rfl (by (try simp only [List.map_toArray, List.map_cons, List.map_nil]); first | done | rfl | (simp only [List.length_drop, List.length_take]; rfl)) ?_
                with_reducible refine (rollbacknetref29_Record.calls kj3 _ _ l0 a1_0 a1_1 a1_2 a1_3 t235 _ ?side1 ?side2 A12.out).mono ?_
                (case side1 => repeat (first | exact (Kd.C_below HR0.out HB.out) | (with_reducible refine Kd.C_alloc ?_ _) | (with_reducible refine Kd.C_drewN ?_ _) | (with_reducible refine Kd.C_drew ?_)))
                (case side2 => exact HC0.out)
                rintro e w29 ⟨v236, rfl, ho0, hb⟩
                refine ⟨_, rfl, ?_⟩
                have n0_ := Aside0.mk (Kd.R_elder' (by (with_reducible repeat (first | apply Kd.R_alloc | apply Kd.R_drewN | apply Kd.R_drew)); exact HO234.out) (Kd.R_base ho0) hb)
                have n1_ := Aside0.mk (Kd.R_lower (Kd.R_newB (Kd.R_new' ho0 (Kd.R_lt (by (with_reducible repeat (first | apply Kd.R_alloc | apply Kd.R_drewN | apply Kd.R_drew)); exact HO234.out))) (g := gb230) (o := .cells #[.int .i64 a1_0, .int .i64 a1_1, .int .i64 a1_2, .int .i64 a1_3] 50 (0, 0)) (by (with_reducible repeat (first | refine blk_drewN ?_ _ | refine blk_drew ?_ | refine blk_alloc ?_ _)); exact BK230.out)) (below_size (by repeat (first | (with_reducible first | exact HB.out | apply below_alloc | apply pw_below_drewN | apply below_drew1 | refine below_set ?_ GE230.out) | exact HB.out))))
                have n2_ := Aside0.mk (blk_below (g := gb230) (o := .cells #[.int .i64 a1_0, .int .i64 a1_1, .int .i64 a1_2, .int .i64 a1_3] 50 (0, 0)) (by (with_reducible repeat (first | refine blk_drewN ?_ _ | refine blk_drew ?_ | refine blk_alloc ?_ _)); exact BK230.out) hb)
                have n3_ := Aside0.mk (below_step (by repeat (first | (with_reducible first | exact HB.out | apply below_alloc | apply pw_below_drewN | apply below_drew1 | refine below_set ?_ GE230.out) | exact HB.out)) hb)
                clear HO234
                clear BK230
                clear HB
                have HO234 := n0_
                have HO237 := n1_
                have BK230 := n2_
                have HB := n3_
                clear n0_ n1_ n2_ n3_
                (try clear hb)
                (try clear hb2)
                (try clear hk)
                (try clear hi)
                (try clear ho0)
                obtain ⟨Ao30, co30, eo30⟩ := Kd.R_slice HO234.out
                (first | subst eo30 | (injection eo30 with f1_ f2_ f3_; have f4_ := f1_.symm; have f5_ := f3_.symm; clear f1_ f2_ f3_; subst f4_; subst f5_))
                obtain ⟨Ao31, co31, eo31⟩ := Kd.R_slice HO237.out
                (first | subst eo31 | (injection eo31 with f1_ f2_ f3_; have f4_ := f1_.symm; have f5_ := f3_.symm; clear f1_ f2_ f3_; subst f4_; subst f5_))
                refine hK.out _ _ ⟨(blk_cell BK230.out 0).trans rfl, (blk_cell BK230.out 1).trans rfl, (blk_cell BK230.out 2).trans rfl, (blk_cell BK230.out 3).trans rfl⟩ (fun hHeld => ?_)
                clear hK K
                refine norm_ (a' := ?_) ?_ ?_
                rotate_left
                · show Act.put _ (some 23) _ = _
                  simp only [Act.put, List.setIfInBounds_toArray, List.set_cons_zero, List.set_cons_succ, i64_w, i32_w]
                  rfl
                refine one_ (i := 6) (N := some 24) #[true, true, true, true, true, true, true, false] rfl rfl (one_of HT_.out (by kernel_rfl)) (by decide) (fun K hK => ?_)
                refine goes_ Try.func32 (by kernel_rfl) rfl #[.slice Ao30 t232.length co30, .slice Ao31 t235.length co31] (by rfl) rfl rfl (by (try simp only [List.map_toArray, List.map_cons, List.map_nil]); first | done | rfl | (simp only [List.length_drop, List.length_take]; rfl)) ?_
                with_reducible refine (rollbacknetref29_SameCopies.calls kj3 _ _ t232 _ _ t235 true _ ?side1 ?side2 ?side3 ?side4 A13.out).mono ?_
                (case side1 => repeat (first | exact (Kd.R_reads' HO234.out).2.2 | (with_reducible refine Kd.C_alloc ?_ _) | (with_reducible refine Kd.C_drewN ?_ _) | (with_reducible refine Kd.C_drew ?_)))
                (case side2 => exact (Kd.R_reads' HO234.out).2.1)
                (case side3 => repeat (first | exact (Kd.R_reads' HO237.out).2.2 | (with_reducible refine Kd.C_alloc ?_ _) | (with_reducible refine Kd.C_drewN ?_ _) | (with_reducible refine Kd.C_drew ?_)))
                (case side4 => exact (Kd.R_reads' HO237.out).2.1)
                rintro e w' ⟨rfl, ⟨nd, rfl⟩⟩
                refine ⟨_, rfl, ?_⟩
                refine hK.out _ _ ⟨(blk_cell BK230.out 0).trans rfl, (blk_cell BK230.out 1).trans rfl, (blk_cell BK230.out 2).trans rfl, (blk_cell BK230.out 3).trans rfl⟩ (fun hHeld => ?_)
                clear hK K
                refine norm_ (a' := ?_) ?_ ?_
                rotate_left
                · show Act.put _ (some 24) _ = _
                  simp only [Act.put, List.setIfInBounds_toArray, List.set_cons_zero, List.set_cons_succ, i64_w, i32_w]
                  rfl
                refine pure_ (i := 7) (N := some 25) (v := ?_) (a' := ?_) #[true, true, true, true, true, true, true, true] rfl rfl (any_of HT_.out (by kernel_rfl)) (fun _ _ _ h => h) (Or.inl ⟨by rfl, ?_⟩) ?_ ?_
                rotate_left
                · intro w'
                  go_simp
                  with_reducible rfl
                rotate_left
                · simp only [Act.put, List.setIfInBounds_toArray, List.set_cons_zero, List.set_cons_succ, i64_w, i32_w]
                  rfl
                refine done_ (done_of HT_.out (by kernel_rfl)) ?_
                try go_wp2_with (first | ((with_reducible refine gate_callee (f := 17) rfl ?_); refine goesL_ (some 33) rfl rfl Try.func17 (by kernel_rfl) rfl #[.int .i64 a2, .int .i64 (l0.length : Int)] rfl (by (try simp only [List.map_toArray, List.map_cons, List.map_nil]); first | done | rfl | (simp only [List.length_drop, List.length_take]; rfl)) ?_; (with_reducible refine (rollbacknetmake_Mod.calls a2 (l0.length : Int) t239 _ A21.out).mono ?_); rintro e w' ⟨rfl, ⟨nd, rfl⟩⟩; refine ⟨_, rfl, ?_⟩; (try (rw [drewN_self w29]; generalize hq_ : World.drewN w29 _ = w29; have n0_ : Aside0 (Kd.R k50 50 w29 w.heap.size (fun k_ => some k_ ≠ (.slice Ao31 t235.length co31 : Value).ownBlock ∧ k_ ≠ gb230) (.slice Ao30 t232.length co30) t232) := ⟨by rw [← hq_]; exact (by (with_reducible repeat (first | apply Kd.R_alloc | apply Kd.R_drewN | apply Kd.R_drew)); exact Kd.R_mono HO234.out (fun _ hk => (by first | exact ⟨hk.2, hk.1.2⟩ | ((try simp only [and_assoc] at hk ⊢); (repeat' apply And.intro) <;> first | exact hk | exact hk.1 | exact hk.2 | exact hk.2.1 | exact hk.2.2 | exact hk.2.2.1 | exact hk.2.2.2 | exact hk.2.2.2.1 | exact hk.2.2.2.2 | exact hk.2.2.2.2.1 | exact hk.2.2.2.2.2))))⟩; have n1_ : Aside0 (Kd.R k50 50 w29 w.heap.size (fun k_ => some k_ ≠ (.slice Ao30 t232.length co30 : Value).ownBlock ∧ k_ ≠ gb230) (.slice Ao31 t235.length co31) t235) := ⟨by rw [← hq_]; exact (by (with_reducible repeat (first | apply Kd.R_alloc | apply Kd.R_drewN | apply Kd.R_drew)); exact Kd.R_mono HO237.out (fun _ hk => (by first | exact ⟨hk.1.2, hk.2⟩ | ((try simp only [and_assoc] at hk ⊢); (repeat' apply And.intro) <;> first | exact hk | exact hk.1 | exact hk.2 | exact hk.2.1 | exact hk.2.2 | exact hk.2.2.1 | exact hk.2.2.2 | exact hk.2.2.2.1 | exact hk.2.2.2.2 | exact hk.2.2.2.2.1 | exact hk.2.2.2.2.2))))⟩; have n2_ : Aside0 (w29.heap[gb230]? = some (.cells #[.int .i64 a1_0, .int .i64 a1_1, .int .i64 a1_2, .int .i64 a1_3] 50 (0, 0))) := ⟨by rw [← hq_]; exact (by (with_reducible repeat (first | refine blk_drewN ?_ _ | refine blk_drew ?_ | refine blk_alloc ?_ _)); exact BK230.out)⟩; have n3_ : Aside0 (Below w.heap.size w w29) := ⟨by rw [← hq_]; exact (by repeat (first | (with_reducible first | exact HB.out | apply below_alloc | apply pw_below_drewN | apply below_drew1 | refine below_set ?_ GE230.out) | exact HB.out))⟩; clear HO234 HO237 BK230 HB hq_; have HO234 := n0_; have HO237 := n1_; have BK230 := n2_; have HB := n3_; clear n0_ n1_ n2_ n3_)); have p240 : 0 ≤ (t239 : Int) := of_decide_eq_true (by first | (with_reducible assumption) | assumption); have q240 : t239 < (l0.length : Int) := of_decide_eq_true (by first | (with_reducible assumption) | assumption); obtain ⟨ad240, e240, hx240_0, hx240_1, hx240_2, hx240_3⟩ := at_T50 HR0.out t239 p240 q240; cases e240; replace hx240_0 := (HB.out.cell (World.block_lt_of_cell? w _ hx240_0)).trans hx240_0; replace hx240_1 := (HB.out.cell (World.block_lt_of_cell? w _ hx240_1)).trans hx240_1; replace hx240_2 := (HB.out.cell (World.block_lt_of_cell? w _ hx240_2)).trans hx240_2; replace hx240_3 := (HB.out.cell (World.block_lt_of_cell? w _ hx240_3)).trans hx240_3; replace p240 := eq_true p240; replace q240 := eq_true q240) | ((with_reducible refine gate_dst (N := 7) rfl ?_); (try (refine gate_guard (by rfl) ?_; dsimp only)); refine box_event ?hg (N := 7) ?hd (cs := #[.int .i64 0, .int .i64 0, .int .i64 0, .int .i64 0]) (t := 50) ?hr ?_; (case hd => rfl); (case hg => rfl); (case hr => first | (go_simp; done) | (go_simp; rfl)); intro gb241 hg w32 hbox hb; have n0_ := Aside0.mk (Kd.R_below (Kd.R_elderB (by (with_reducible repeat (first | apply Kd.R_alloc | apply Kd.R_drewN | apply Kd.R_drew)); exact HO234.out) gb241 (Nat.le_of_eq hg.symm)) hb); have n1_ := Aside0.mk (Kd.R_below (Kd.R_elderB (by (with_reducible repeat (first | apply Kd.R_alloc | apply Kd.R_drewN | apply Kd.R_drew)); exact HO237.out) gb241 (Nat.le_of_eq hg.symm)) hb); have n2_ := Aside0.mk (blk_below (g := gb230) (o := .cells #[.int .i64 a1_0, .int .i64 a1_1, .int .i64 a1_2, .int .i64 a1_3] 50 (0, 0)) (by (with_reducible repeat (first | refine blk_drewN ?_ _ | refine blk_drew ?_ | refine blk_alloc ?_ _)); exact BK230.out) hb); have n3_ := Aside0.mk (below_step (by repeat (first | (with_reducible first | exact HB.out | apply below_alloc | apply pw_below_drewN | apply below_drew1 | refine below_set ?_ GE230.out) | exact HB.out)) hb); have n4_ := Aside0.mk (hbox); have n5_ := Aside0.mk ((by rw [hg]; exact (below_size (by repeat (first | (with_reducible first | exact HB.out | apply below_alloc | apply pw_below_drewN | apply below_drew1 | refine below_set ?_ GE230.out) | exact HB.out))) : w.heap.size ≤ gb241)); have n6_ := Aside0.mk ((by rw [hg]; exact (below_size (by repeat (first | (with_reducible first | exact HB.out | apply below_alloc | apply pw_below_drewN | apply below_drew1 | refine below_set ?_ GE230.out) | exact HB.out))) : w.heap.size ≤ gb241)); have n7_ := Aside0.mk ((by rw [hg]; exact Nat.ne_of_lt (blk_lt (g := gb230) (o := .cells #[.int .i64 a1_0, .int .i64 a1_1, .int .i64 a1_2, .int .i64 a1_3] 50 (0, 0)) (by (with_reducible repeat (first | refine blk_drewN ?_ _ | refine blk_drew ?_ | refine blk_alloc ?_ _)); exact BK230.out)) : gb230 ≠ gb241)); have n8_ := Aside0.mk ((by rw [hg]; exact Nat.ne_of_gt (blk_lt (g := gb230) (o := .cells #[.int .i64 a1_0, .int .i64 a1_1, .int .i64 a1_2, .int .i64 a1_3] 50 (0, 0)) (by (with_reducible repeat (first | refine blk_drewN ?_ _ | refine blk_drew ?_ | refine blk_alloc ?_ _)); exact BK230.out)) : gb241 ≠ gb230)); clear HO234; clear HO237; clear BK230; clear HB; have HO234 := n0_; have HO237 := n1_; have BK230 := n2_; have HB := n3_; have BK241 := n4_; have GW241 := n5_; have GE241 := n6_; have NB230_241 := n7_; have NB241_230 := n8_; clear n0_ n1_ n2_ n3_ n4_ n5_ n6_ n7_ n8_; clear hb hbox hg; have hnb33 := NB241_230.out; have hnc33 := NB230_241.out; have hcz34_0 : w32.cell? ⟨gb241, 0, none⟩ = some (.int .i64 0) := (blk_cell BK241.out 0).trans rfl; have hcz34_1 : w32.cell? ⟨gb241, 1, none⟩ = some (.int .i64 0) := (blk_cell BK241.out 1).trans rfl; have hcz34_2 : w32.cell? ⟨gb241, 2, none⟩ = some (.int .i64 0) := (blk_cell BK241.out 2).trans rfl; have hcz34_3 : w32.cell? ⟨gb241, 3, none⟩ = some (.int .i64 0) := (blk_cell BK241.out 3).trans rfl; have hfz34_0 := blk_frozen BK241.out 0; have hfz34_1 := blk_frozen BK241.out 1; have hfz34_2 := blk_frozen BK241.out 2; have hfz34_3 := blk_frozen BK241.out 3))
                have n0_ : Aside0 (Kd.R k50 50 ((((w32.setCell ⟨gb241, 0, none⟩ (.int .i64 ((rd_T50 l0 t239).f0))).setCell ⟨gb241, 1, none⟩ (.int .i64 ((rd_T50 l0 t239).f1))).setCell ⟨gb241, 2, none⟩ (.int .i64 ((rd_T50 l0 t239).f2))).setCell ⟨gb241, 3, none⟩ (.int .i64 ((rd_T50 l0 t239).f3))) w.heap.size (fun k_ => some k_ ≠ (.slice Ao31 t235.length co31 : Value).ownBlock ∧ k_ ≠ gb230 ∧ k_ ≠ gb241) (.slice Ao30 t232.length co30) t232) := ⟨by (with_reducible repeat (first | apply Kd.R_alloc | apply Kd.R_drewN | apply Kd.R_drew)); exact Kd.R_mono (Kd.R_far (p := ⟨gb241, 3, none⟩) (Kd.R_far (p := ⟨gb241, 2, none⟩) (Kd.R_far (p := ⟨gb241, 1, none⟩) (Kd.R_far (p := ⟨gb241, 0, none⟩) (Kd.R_mono HO234.out (fun k_ hk => (⟨hk, (by first | exact hk.2 | ((try simp only [and_assoc] at hk ⊢); (repeat' apply And.intro) <;> first | exact hk | exact hk.1 | exact hk.2 | exact hk.2.1 | exact hk.2.2 | exact hk.2.2.1 | exact hk.2.2.2 | exact hk.2.2.2.1 | exact hk.2.2.2.2 | exact hk.2.2.2.2.1 | exact hk.2.2.2.2.2))⟩ : _ ∧ k_ ≠ gb241))) (fun _ hk => hk.2) (.int .i64 ((rd_T50 l0 t239).f0))) (fun _ hk => hk.2) (.int .i64 ((rd_T50 l0 t239).f1))) (fun _ hk => hk.2) (.int .i64 ((rd_T50 l0 t239).f2))) (fun _ hk => hk.2) (.int .i64 ((rd_T50 l0 t239).f3))) (fun _ hk => (by first | exact ⟨hk.1.1.2, ⟨hk.1.1.1.2, hk.1.2⟩⟩ | ((try simp only [and_assoc] at hk ⊢); (repeat' apply And.intro) <;> first | exact hk | exact hk.1 | exact hk.2 | exact hk.2.1 | exact hk.2.2 | exact hk.2.2.1 | exact hk.2.2.2 | exact hk.2.2.2.1 | exact hk.2.2.2.2 | exact hk.2.2.2.2.1 | exact hk.2.2.2.2.2)))⟩
                have n1_ : Aside0 (Kd.R k50 50 ((((w32.setCell ⟨gb241, 0, none⟩ (.int .i64 ((rd_T50 l0 t239).f0))).setCell ⟨gb241, 1, none⟩ (.int .i64 ((rd_T50 l0 t239).f1))).setCell ⟨gb241, 2, none⟩ (.int .i64 ((rd_T50 l0 t239).f2))).setCell ⟨gb241, 3, none⟩ (.int .i64 ((rd_T50 l0 t239).f3))) w.heap.size (fun k_ => some k_ ≠ (.slice Ao30 t232.length co30 : Value).ownBlock ∧ k_ ≠ gb230 ∧ k_ ≠ gb241) (.slice Ao31 t235.length co31) t235) := ⟨by (with_reducible repeat (first | apply Kd.R_alloc | apply Kd.R_drewN | apply Kd.R_drew)); exact Kd.R_mono (Kd.R_far (p := ⟨gb241, 3, none⟩) (Kd.R_far (p := ⟨gb241, 2, none⟩) (Kd.R_far (p := ⟨gb241, 1, none⟩) (Kd.R_far (p := ⟨gb241, 0, none⟩) (Kd.R_mono HO237.out (fun k_ hk => (⟨hk, (by first | exact hk.2 | ((try simp only [and_assoc] at hk ⊢); (repeat' apply And.intro) <;> first | exact hk | exact hk.1 | exact hk.2 | exact hk.2.1 | exact hk.2.2 | exact hk.2.2.1 | exact hk.2.2.2 | exact hk.2.2.2.1 | exact hk.2.2.2.2 | exact hk.2.2.2.2.1 | exact hk.2.2.2.2.2))⟩ : _ ∧ k_ ≠ gb241))) (fun _ hk => hk.2) (.int .i64 ((rd_T50 l0 t239).f0))) (fun _ hk => hk.2) (.int .i64 ((rd_T50 l0 t239).f1))) (fun _ hk => hk.2) (.int .i64 ((rd_T50 l0 t239).f2))) (fun _ hk => hk.2) (.int .i64 ((rd_T50 l0 t239).f3))) (fun _ hk => (by first | exact ⟨hk.1.1.1.2, ⟨hk.1.1.2, hk.1.2⟩⟩ | ((try simp only [and_assoc] at hk ⊢); (repeat' apply And.intro) <;> first | exact hk | exact hk.1 | exact hk.2 | exact hk.2.1 | exact hk.2.2 | exact hk.2.2.1 | exact hk.2.2.2 | exact hk.2.2.2.1 | exact hk.2.2.2.2 | exact hk.2.2.2.2.1 | exact hk.2.2.2.2.2)))⟩
                have n2_ : Aside0 (((((w32.setCell ⟨gb241, 0, none⟩ (.int .i64 ((rd_T50 l0 t239).f0))).setCell ⟨gb241, 1, none⟩ (.int .i64 ((rd_T50 l0 t239).f1))).setCell ⟨gb241, 2, none⟩ (.int .i64 ((rd_T50 l0 t239).f2))).setCell ⟨gb241, 3, none⟩ (.int .i64 ((rd_T50 l0 t239).f3))).heap[gb230]? = some (.cells #[.int .i64 a1_0, .int .i64 a1_1, .int .i64 a1_2, .int .i64 a1_3] 50 (0, 0))) := ⟨by (with_reducible repeat (first | refine blk_drewN ?_ _ | refine blk_drew ?_ | refine blk_alloc ?_ _)); refine blk_far ?_ NB230_241.out _; (with_reducible repeat (first | refine blk_drewN ?_ _ | refine blk_drew ?_ | refine blk_alloc ?_ _)); refine blk_far ?_ NB230_241.out _; (with_reducible repeat (first | refine blk_drewN ?_ _ | refine blk_drew ?_ | refine blk_alloc ?_ _)); refine blk_far ?_ NB230_241.out _; (with_reducible repeat (first | refine blk_drewN ?_ _ | refine blk_drew ?_ | refine blk_alloc ?_ _)); refine blk_far ?_ NB230_241.out _; (with_reducible repeat (first | refine blk_drewN ?_ _ | refine blk_drew ?_ | refine blk_alloc ?_ _)); exact BK230.out⟩
                have n3_ : Aside0 (((((w32.setCell ⟨gb241, 0, none⟩ (.int .i64 ((rd_T50 l0 t239).f0))).setCell ⟨gb241, 1, none⟩ (.int .i64 ((rd_T50 l0 t239).f1))).setCell ⟨gb241, 2, none⟩ (.int .i64 ((rd_T50 l0 t239).f2))).setCell ⟨gb241, 3, none⟩ (.int .i64 ((rd_T50 l0 t239).f3))).heap[gb241]? = some (.cells #[.int .i64 ((rd_T50 l0 t239).f0), .int .i64 ((rd_T50 l0 t239).f1), .int .i64 ((rd_T50 l0 t239).f2), .int .i64 ((rd_T50 l0 t239).f3)] 50 (0, 0))) := ⟨by (with_reducible repeat (first | refine blk_drewN ?_ _ | refine blk_drew ?_ | refine blk_alloc ?_ _)); refine blk_put (cs := #[.int .i64 ((rd_T50 l0 t239).f0), .int .i64 ((rd_T50 l0 t239).f1), .int .i64 ((rd_T50 l0 t239).f2), .int .i64 0]) ?_ 3 _ rfl; (with_reducible repeat (first | refine blk_drewN ?_ _ | refine blk_drew ?_ | refine blk_alloc ?_ _)); refine blk_put (cs := #[.int .i64 ((rd_T50 l0 t239).f0), .int .i64 ((rd_T50 l0 t239).f1), .int .i64 0, .int .i64 0]) ?_ 2 _ rfl; (with_reducible repeat (first | refine blk_drewN ?_ _ | refine blk_drew ?_ | refine blk_alloc ?_ _)); refine blk_put (cs := #[.int .i64 ((rd_T50 l0 t239).f0), .int .i64 0, .int .i64 0, .int .i64 0]) ?_ 1 _ rfl; (with_reducible repeat (first | refine blk_drewN ?_ _ | refine blk_drew ?_ | refine blk_alloc ?_ _)); refine blk_put (cs := #[.int .i64 0, .int .i64 0, .int .i64 0, .int .i64 0]) ?_ 0 _ rfl; (with_reducible repeat (first | refine blk_drewN ?_ _ | refine blk_drew ?_ | refine blk_alloc ?_ _)); exact BK241.out⟩
                have n4_ : Aside0 (Below w.heap.size w ((((w32.setCell ⟨gb241, 0, none⟩ (.int .i64 ((rd_T50 l0 t239).f0))).setCell ⟨gb241, 1, none⟩ (.int .i64 ((rd_T50 l0 t239).f1))).setCell ⟨gb241, 2, none⟩ (.int .i64 ((rd_T50 l0 t239).f2))).setCell ⟨gb241, 3, none⟩ (.int .i64 ((rd_T50 l0 t239).f3)))) := ⟨by repeat (first | (with_reducible first | exact HB.out | apply below_alloc | apply pw_below_drewN | apply below_drew1 | refine below_set ?_ GE230.out | refine below_set ?_ GE241.out) | exact HB.out)⟩
                (try clear HO234)
                (try clear HO237)
                (try clear BK230)
                (try clear BK241)
                (try clear HB)
                generalize ((((w32.setCell ⟨gb241, 0, none⟩ (.int .i64 ((rd_T50 l0 t239).f0))).setCell ⟨gb241, 1, none⟩ (.int .i64 ((rd_T50 l0 t239).f1))).setCell ⟨gb241, 2, none⟩ (.int .i64 ((rd_T50 l0 t239).f2))).setCell ⟨gb241, 3, none⟩ (.int .i64 ((rd_T50 l0 t239).f3))) = w35 at n0_ n1_ n2_ n3_ n4_ ⊢
                have HO234 := n0_
                have HO237 := n1_
                have BK230 := n2_
                have BK241 := n3_
                have HB := n4_
                clear n0_ n1_ n2_ n3_ n4_
                have n0_ := Aside0.mk (Kd.R_drew HO234.out)
                have n1_ := Aside0.mk (Kd.R_drew HO237.out)
                have n2_ := Aside0.mk (blk_drew BK230.out)
                have n3_ := Aside0.mk (blk_drew BK241.out)
                have n4_ := Aside0.mk (below_drew1 HB.out)
                clear HO234
                clear HO237
                clear BK230
                clear BK241
                clear HB
                have HO234 := n0_
                have HO237 := n1_
                have BK230 := n2_
                have BK241 := n3_
                have HB := n4_
                clear n0_ n1_ n2_ n3_ n4_
                refine start_ (n := 8) (S := fun w' => w'.cell? ⟨gb230, 0, none⟩ = some (.int .i64 a1_0) ∧ w'.cell? ⟨gb230, 1, none⟩ = some (.int .i64 a1_1) ∧ w'.cell? ⟨gb230, 2, none⟩ = some (.int .i64 a1_2) ∧ w'.cell? ⟨gb230, 3, none⟩ = some (.int .i64 a1_3)) (ds := []) #[false, false, false, false, false, false, false, false] (by kernel_rfl) rfl rfl ⟨(blk_cell BK230.out 0).trans rfl, (blk_cell BK230.out 1).trans rfl, (blk_cell BK230.out 2).trans rfl, (blk_cell BK230.out 3).trans rfl⟩ (fun hHeld => ?_); refine with_tabW rollbacknetlaw29_SenderlogRecords.tab8 rollbacknetlaw29_SenderlogRecords.bits8 (fun HT_ HW_ => ?_)
                generalize w35.drew = w36 at HO234 HO237 BK230 BK241 HB hHeld ⊢
                refine pure_ (i := 0) (N := some 36) (v := ?_) (a' := ?_) #[true, false, false, false, false, false, false, false] rfl rfl (any_of HT_.out (by kernel_rfl)) (fun _ _ _ h => h) (Or.inl ⟨by rfl, ?_⟩) ?_ ?_
                rotate_left
                · intro w'
                  go_simp
                  with_reducible rfl
                rotate_left
                · simp only [Act.put, List.setIfInBounds_toArray, List.set_cons_zero, List.set_cons_succ, i64_w, i32_w]
                  rfl
                refine pure_ (i := 2) (N := some 38) (v := ?_) (a' := ?_) #[true, false, true, false, false, false, false, false] rfl rfl (any_of HT_.out (by kernel_rfl)) (fun _ _ _ h => h) (Or.inl ⟨by rfl, ?_⟩) ?_ ?_
                rotate_left
                · intro w'
                  go_simp
                  with_reducible rfl
                rotate_left
                · simp only [Act.put, List.setIfInBounds_toArray, List.set_cons_zero, List.set_cons_succ, i64_w, i32_w]
                  rfl
                refine take_ (i := 1) (N := some 37) (v := ?_) (a' := ?_) #[true, true, true, false, false, false, false, false] rfl rfl (take_ofW HT_.out HW_.out (by kernel_rfl)) (fun _ _ _ h => h) (Or.inl ⟨by rfl, ?_⟩) hHeld ?_ ?_
                rotate_left
                · rintro w' ⟨s0, s1, s2, s3⟩
                  go_simp
                  with_reducible rfl
                rotate_left
                · simp only [Act.put, List.setIfInBounds_toArray, List.set_cons_zero, List.set_cons_succ, i64_w, i32_w]
                  rfl
                refine pure_ (i := 4) (N := some 40) (v := ?_) (a' := ?_) #[true, true, true, false, true, false, false, false] rfl rfl (any_of HT_.out (by kernel_rfl)) (fun _ _ _ h => h) (Or.inl ⟨by rfl, ?_⟩) ?_ ?_
                rotate_left
                · intro w'
                  go_simp
                  with_reducible rfl
                rotate_left
                · simp only [Act.put, List.setIfInBounds_toArray, List.set_cons_zero, List.set_cons_succ, i64_w, i32_w]
                  rfl
                refine take_ (i := 3) (N := some 39) (v := ?_) (a' := ?_) #[true, true, true, true, true, false, false, false] rfl rfl (take_ofW HT_.out HW_.out (by kernel_rfl)) (fun _ _ _ h => h) (Or.inl ⟨by rfl, ?_⟩) hHeld ?_ ?_
                rotate_left
                · rintro w' ⟨s0, s1, s2, s3⟩
                  go_simp
                  with_reducible rfl
                rotate_left
                · simp only [Act.put, List.setIfInBounds_toArray, List.set_cons_zero, List.set_cons_succ, i64_w, i32_w]
                  rfl
                refine one_ (i := 5) (N := none) #[true, true, true, true, true, true, false, false] rfl rfl (one_of HT_.out (by kernel_rfl)) (by decide) (fun K hK => ?_)
                have hs37 : w36.cell? ⟨gb241, 3, none⟩ = some (.int .i64 ((rd_T50 l0 t239).f3)) := (blk_cell BK241.out 3).trans rfl
                have hfs37 := blk_frozen BK241.out 3
                have hns37_0 := NB230_241.out
                have hms37_0 := NB241_230.out
                refine skip_ (w1 := ?_) (by rfl) rfl ?_ ?_
                rotate_left
                · go_simp
                  rfl
                refine hK.out _ _ ⟨((cell_far (p := ⟨gb241, _, none⟩) NB230_241.out _).trans (hHeld.1)), ((cell_far (p := ⟨gb241, _, none⟩) NB230_241.out _).trans (hHeld.2.1)), ((cell_far (p := ⟨gb241, _, none⟩) NB230_241.out _).trans (hHeld.2.2.1)), ((cell_far (p := ⟨gb241, _, none⟩) NB230_241.out _).trans (hHeld.2.2.2))⟩ (fun hHeld => ?_)
                clear hK K
                refine pure_ (i := 6) (N := some 41) (v := ?_) (a' := ?_) #[true, true, true, true, true, true, true, false] rfl rfl (any_of HT_.out (by kernel_rfl)) (fun _ _ _ h => h) (Or.inl ⟨by rfl, ?_⟩) ?_ ?_
                rotate_left
                · intro w'
                  go_simp
                  with_reducible rfl
                rotate_left
                · simp only [Act.put, List.setIfInBounds_toArray, List.set_cons_zero, List.set_cons_succ, i64_w, i32_w]
                  rfl
                refine one_ (i := 7) (N := none) #[true, true, true, true, true, true, true, true] rfl rfl (one_of HT_.out (by kernel_rfl)) (by decide) (fun K hK => ?_)
                have hs38 : w36.cell? ⟨gb241, 2, none⟩ = some (.int .i64 ((rd_T50 l0 t239).f2)) := (blk_cell BK241.out 2).trans rfl
                have hfs38 := blk_frozen BK241.out 2
                have hns38_0 := NB230_241.out
                have hms38_0 := NB241_230.out
                refine skip_ (w1 := ?_) (by rfl) rfl ?_ ?_
                rotate_left
                · go_simp
                  rfl
                refine hK.out _ _ ⟨((cell_far (p := ⟨gb241, _, none⟩) NB230_241.out _).trans (hHeld.1)), ((cell_far (p := ⟨gb241, _, none⟩) NB230_241.out _).trans (hHeld.2.1)), ((cell_far (p := ⟨gb241, _, none⟩) NB230_241.out _).trans (hHeld.2.2.1)), ((cell_far (p := ⟨gb241, _, none⟩) NB230_241.out _).trans (hHeld.2.2.2))⟩ (fun hHeld => ?_)
                clear hK K
                refine done_ (done_of HT_.out (by kernel_rfl)) ?_
                try go_wp2
                have n0_ : Aside0 (Kd.R k50 50 ((w36.setCell ⟨gb241, 3, none⟩ (.int .i64 a1_3)).setCell ⟨gb241, 2, none⟩ (.int .i64 a1_2)) w.heap.size (fun k_ => some k_ ≠ (.slice Ao31 t235.length co31 : Value).ownBlock ∧ k_ ≠ gb230 ∧ k_ ≠ gb241) (.slice Ao30 t232.length co30) t232) := ⟨by (with_reducible repeat (first | apply Kd.R_alloc | apply Kd.R_drewN | apply Kd.R_drew)); exact Kd.R_mono (Kd.R_far (p := ⟨gb241, 2, none⟩) (Kd.R_far (p := ⟨gb241, 3, none⟩) (Kd.R_mono HO234.out (fun k_ hk => (⟨hk, (by first | exact hk.2.2 | ((try simp only [and_assoc] at hk ⊢); (repeat' apply And.intro) <;> first | exact hk | exact hk.1 | exact hk.2 | exact hk.2.1 | exact hk.2.2 | exact hk.2.2.1 | exact hk.2.2.2 | exact hk.2.2.2.1 | exact hk.2.2.2.2 | exact hk.2.2.2.2.1 | exact hk.2.2.2.2.2))⟩ : _ ∧ k_ ≠ gb241))) (fun _ hk => hk.2) (.int .i64 a1_3)) (fun _ hk => hk.2) (.int .i64 a1_2)) (fun _ hk => (by first | exact ⟨hk.1.1, ⟨hk.1.2.1, hk.1.2.2⟩⟩ | ((try simp only [and_assoc] at hk ⊢); (repeat' apply And.intro) <;> first | exact hk | exact hk.1 | exact hk.2 | exact hk.2.1 | exact hk.2.2 | exact hk.2.2.1 | exact hk.2.2.2 | exact hk.2.2.2.1 | exact hk.2.2.2.2 | exact hk.2.2.2.2.1 | exact hk.2.2.2.2.2)))⟩
                have n1_ : Aside0 (Kd.R k50 50 ((w36.setCell ⟨gb241, 3, none⟩ (.int .i64 a1_3)).setCell ⟨gb241, 2, none⟩ (.int .i64 a1_2)) w.heap.size (fun k_ => some k_ ≠ (.slice Ao30 t232.length co30 : Value).ownBlock ∧ k_ ≠ gb230 ∧ k_ ≠ gb241) (.slice Ao31 t235.length co31) t235) := ⟨by (with_reducible repeat (first | apply Kd.R_alloc | apply Kd.R_drewN | apply Kd.R_drew)); exact Kd.R_mono (Kd.R_far (p := ⟨gb241, 2, none⟩) (Kd.R_far (p := ⟨gb241, 3, none⟩) (Kd.R_mono HO237.out (fun k_ hk => (⟨hk, (by first | exact hk.2.2 | ((try simp only [and_assoc] at hk ⊢); (repeat' apply And.intro) <;> first | exact hk | exact hk.1 | exact hk.2 | exact hk.2.1 | exact hk.2.2 | exact hk.2.2.1 | exact hk.2.2.2 | exact hk.2.2.2.1 | exact hk.2.2.2.2 | exact hk.2.2.2.2.1 | exact hk.2.2.2.2.2))⟩ : _ ∧ k_ ≠ gb241))) (fun _ hk => hk.2) (.int .i64 a1_3)) (fun _ hk => hk.2) (.int .i64 a1_2)) (fun _ hk => (by first | exact ⟨hk.1.1, ⟨hk.1.2.1, hk.1.2.2⟩⟩ | ((try simp only [and_assoc] at hk ⊢); (repeat' apply And.intro) <;> first | exact hk | exact hk.1 | exact hk.2 | exact hk.2.1 | exact hk.2.2 | exact hk.2.2.1 | exact hk.2.2.2 | exact hk.2.2.2.1 | exact hk.2.2.2.2 | exact hk.2.2.2.2.1 | exact hk.2.2.2.2.2)))⟩
                have n2_ : Aside0 (((w36.setCell ⟨gb241, 3, none⟩ (.int .i64 a1_3)).setCell ⟨gb241, 2, none⟩ (.int .i64 a1_2)).heap[gb230]? = some (.cells #[.int .i64 a1_0, .int .i64 a1_1, .int .i64 a1_2, .int .i64 a1_3] 50 (0, 0))) := ⟨by (with_reducible repeat (first | refine blk_drewN ?_ _ | refine blk_drew ?_ | refine blk_alloc ?_ _)); refine blk_far ?_ NB230_241.out _; (with_reducible repeat (first | refine blk_drewN ?_ _ | refine blk_drew ?_ | refine blk_alloc ?_ _)); refine blk_far ?_ NB230_241.out _; (with_reducible repeat (first | refine blk_drewN ?_ _ | refine blk_drew ?_ | refine blk_alloc ?_ _)); exact BK230.out⟩
                have n3_ : Aside0 (((w36.setCell ⟨gb241, 3, none⟩ (.int .i64 a1_3)).setCell ⟨gb241, 2, none⟩ (.int .i64 a1_2)).heap[gb241]? = some (.cells #[.int .i64 ((rd_T50 l0 t239).f0), .int .i64 ((rd_T50 l0 t239).f1), .int .i64 a1_2, .int .i64 a1_3] 50 (0, 0))) := ⟨by (with_reducible repeat (first | refine blk_drewN ?_ _ | refine blk_drew ?_ | refine blk_alloc ?_ _)); refine blk_put (cs := #[.int .i64 ((rd_T50 l0 t239).f0), .int .i64 ((rd_T50 l0 t239).f1), .int .i64 ((rd_T50 l0 t239).f2), .int .i64 a1_3]) ?_ 2 _ rfl; (with_reducible repeat (first | refine blk_drewN ?_ _ | refine blk_drew ?_ | refine blk_alloc ?_ _)); refine blk_put (cs := #[.int .i64 ((rd_T50 l0 t239).f0), .int .i64 ((rd_T50 l0 t239).f1), .int .i64 ((rd_T50 l0 t239).f2), .int .i64 ((rd_T50 l0 t239).f3)]) ?_ 3 _ rfl; (with_reducible repeat (first | refine blk_drewN ?_ _ | refine blk_drew ?_ | refine blk_alloc ?_ _)); exact BK241.out⟩
                have n4_ : Aside0 (Below w.heap.size w ((w36.setCell ⟨gb241, 3, none⟩ (.int .i64 a1_3)).setCell ⟨gb241, 2, none⟩ (.int .i64 a1_2))) := ⟨by repeat (first | (with_reducible first | exact HB.out | apply below_alloc | apply pw_below_drewN | apply below_drew1 | refine below_set ?_ GE230.out | refine below_set ?_ GE241.out) | exact HB.out)⟩
                (try clear HO234)
                (try clear HO237)
                (try clear BK230)
                (try clear BK241)
                (try clear HB)
                generalize ((w36.setCell ⟨gb241, 3, none⟩ (.int .i64 a1_3)).setCell ⟨gb241, 2, none⟩ (.int .i64 a1_2)) = w39 at n0_ n1_ n2_ n3_ n4_ ⊢
                have HO234 := n0_
                have HO237 := n1_
                have BK230 := n2_
                have BK241 := n3_
                have HB := n4_
                clear n0_ n1_ n2_ n3_ n4_
                have n0_ := Aside0.mk (Kd.R_drew HO234.out)
                have n1_ := Aside0.mk (Kd.R_drew HO237.out)
                have n2_ := Aside0.mk (blk_drew BK230.out)
                have n3_ := Aside0.mk (blk_drew BK241.out)
                have n4_ := Aside0.mk (below_drew1 HB.out)
                clear HO234
                clear HO237
                clear BK230
                clear BK241
                clear HB
                have HO234 := n0_
                have HO237 := n1_
                have BK230 := n2_
                have BK241 := n3_
                have HB := n4_
                clear n0_ n1_ n2_ n3_ n4_
                refine start_ (n := 8) (S := fun w' => w'.cell? ⟨gb241, 0, none⟩ = some (.int .i64 ((rd_T50 l0 t239).f0)) ∧ w'.cell? ⟨gb241, 1, none⟩ = some (.int .i64 ((rd_T50 l0 t239).f1)) ∧ w'.cell? ⟨gb241, 2, none⟩ = some (.int .i64 a1_2) ∧ w'.cell? ⟨gb241, 3, none⟩ = some (.int .i64 a1_3)) (ds := []) #[false, false, false, false, false, false, false, false] (by kernel_rfl) rfl rfl ⟨(blk_cell BK241.out 0).trans rfl, (blk_cell BK241.out 1).trans rfl, (blk_cell BK241.out 2).trans rfl, (blk_cell BK241.out 3).trans rfl⟩ (fun hHeld => ?_); refine with_tabW rollbacknetlaw29_SenderlogRecords.tab9 rollbacknetlaw29_SenderlogRecords.bits9 (fun HT_ HW_ => ?_)
                generalize w39.drew = w40 at HO234 HO237 BK230 BK241 HB hHeld ⊢
                refine pure_ (i := 0) (N := some 42) (v := ?_) (a' := ?_) #[true, false, false, false, false, false, false, false] rfl rfl (any_of HT_.out (by kernel_rfl)) (fun _ _ _ h => h) (Or.inl ⟨by rfl, ?_⟩) ?_ ?_
                rotate_left
                · intro w'
                  go_simp
                  with_reducible rfl
                rotate_left
                · simp only [Act.put, List.setIfInBounds_toArray, List.set_cons_zero, List.set_cons_succ, i64_w, i32_w]
                  rfl
                refine pure_ (i := 3) (N := some 45) (v := ?_) (a' := ?_) #[true, false, false, true, false, false, false, false] rfl rfl (any_of HT_.out (by kernel_rfl)) (fun _ _ _ h => h) (Or.inl ⟨by rfl, ?_⟩) ?_ ?_
                rotate_left
                · intro w'
                  go_simp
                  with_reducible rfl
                rotate_left
                · simp only [Act.put, List.setIfInBounds_toArray, List.set_cons_zero, List.set_cons_succ, i64_w, i32_w]
                  rfl
                refine take_ (i := 1) (N := some 43) (v := ?_) (a' := ?_) #[true, true, false, true, false, false, false, false] rfl rfl (take_ofW HT_.out HW_.out (by kernel_rfl)) (fun _ _ _ h => h) (Or.inl ⟨by rfl, ?_⟩) hHeld ?_ ?_
                rotate_left
                · rintro w' ⟨s0, s1, s2, s3⟩
                  go_simp
                  with_reducible rfl
                rotate_left
                · simp only [Act.put, List.setIfInBounds_toArray, List.set_cons_zero, List.set_cons_succ, i64_w, i32_w]
                  rfl
                refine take_ (i := 4) (N := some 46) (v := ?_) (a' := ?_) #[true, true, false, true, true, false, false, false] rfl rfl (take_ofW HT_.out HW_.out (by kernel_rfl)) (fun _ _ _ h => h) (Or.inl ⟨by rfl, ?_⟩) hHeld ?_ ?_
                rotate_left
                · rintro w' ⟨s0, s1, s2, s3⟩
                  go_simp
                  with_reducible rfl
                rotate_left
                · simp only [Act.put, List.setIfInBounds_toArray, List.set_cons_zero, List.set_cons_succ, i64_w, i32_w]
                  rfl
                refine one_ (i := 2) (N := some 44) #[true, true, true, true, true, false, false, false] rfl rfl (one_of HT_.out (by kernel_rfl)) (by decide) (fun K hK => ?_)
                refine goes_ Try.func33 (by kernel_rfl) rfl #[.slice (some ad240) l0.length c0, .agg #[.int .i64 ((rd_T50 l0 t239).f0), .int .i64 ((rd_T50 l0 t239).f1), .int .i64 a1_2, .int .i64 a1_3]] (by rfl) rfl rfl (by (try simp only [List.map_toArray, List.map_cons, List.map_nil]); first | done | rfl | (simp only [List.length_drop, List.length_take]; rfl)) ?_
                with_reducible refine (senderlog_Record.calls kj3 _ _ l0 ((rd_T50 l0 t239).f0) ((rd_T50 l0 t239).f1) a1_2 a1_3 t242 _ ?side1 ?side2 A24.out).mono ?_
                (case side1 => repeat (first | exact (Kd.C_below HR0.out HB.out) | (with_reducible refine Kd.C_alloc ?_ _) | (with_reducible refine Kd.C_drewN ?_ _) | (with_reducible refine Kd.C_drew ?_)))
                (case side2 => exact HC0.out)
                rintro e w41 ⟨v243, rfl, ho0, hb⟩
                refine ⟨_, rfl, ?_⟩
                have n0_ := Aside0.mk (Kd.R_elder' (by (with_reducible repeat (first | apply Kd.R_alloc | apply Kd.R_drewN | apply Kd.R_drew)); exact HO234.out) (Kd.R_base ho0) hb)
                have n1_ := Aside0.mk (Kd.R_elder' (by (with_reducible repeat (first | apply Kd.R_alloc | apply Kd.R_drewN | apply Kd.R_drew)); exact HO237.out) (Kd.R_base ho0) hb)
                have n2_ := Aside0.mk (Kd.R_lower (Kd.R_newB (Kd.R_newB (Kd.R_new' (Kd.R_new' ho0 (Kd.R_lt (by (with_reducible repeat (first | apply Kd.R_alloc | apply Kd.R_drewN | apply Kd.R_drew)); exact HO234.out))) (Kd.R_lt (by (with_reducible repeat (first | apply Kd.R_alloc | apply Kd.R_drewN | apply Kd.R_drew)); exact HO237.out))) (g := gb230) (o := .cells #[.int .i64 a1_0, .int .i64 a1_1, .int .i64 a1_2, .int .i64 a1_3] 50 (0, 0)) (by (with_reducible repeat (first | refine blk_drewN ?_ _ | refine blk_drew ?_ | refine blk_alloc ?_ _)); exact BK230.out)) (g := gb241) (o := .cells #[.int .i64 ((rd_T50 l0 t239).f0), .int .i64 ((rd_T50 l0 t239).f1), .int .i64 a1_2, .int .i64 a1_3] 50 (0, 0)) (by (with_reducible repeat (first | refine blk_drewN ?_ _ | refine blk_drew ?_ | refine blk_alloc ?_ _)); exact BK241.out)) (below_size (by repeat (first | (with_reducible first | exact HB.out | apply below_alloc | apply pw_below_drewN | apply below_drew1 | refine below_set ?_ GE230.out | refine below_set ?_ GE241.out) | exact HB.out))))
                have n3_ := Aside0.mk (blk_below (g := gb230) (o := .cells #[.int .i64 a1_0, .int .i64 a1_1, .int .i64 a1_2, .int .i64 a1_3] 50 (0, 0)) (by (with_reducible repeat (first | refine blk_drewN ?_ _ | refine blk_drew ?_ | refine blk_alloc ?_ _)); exact BK230.out) hb)
                have n4_ := Aside0.mk (blk_below (g := gb241) (o := .cells #[.int .i64 ((rd_T50 l0 t239).f0), .int .i64 ((rd_T50 l0 t239).f1), .int .i64 a1_2, .int .i64 a1_3] 50 (0, 0)) (by (with_reducible repeat (first | refine blk_drewN ?_ _ | refine blk_drew ?_ | refine blk_alloc ?_ _)); exact BK241.out) hb)
                have n5_ := Aside0.mk (below_step (by repeat (first | (with_reducible first | exact HB.out | apply below_alloc | apply pw_below_drewN | apply below_drew1 | refine below_set ?_ GE230.out | refine below_set ?_ GE241.out) | exact HB.out)) hb)
                clear HO234
                clear HO237
                clear BK230
                clear BK241
                clear HB
                have HO234 := n0_
                have HO237 := n1_
                have HO244 := n2_
                have BK230 := n3_
                have BK241 := n4_
                have HB := n5_
                clear n0_ n1_ n2_ n3_ n4_ n5_
                (try clear hb)
                (try clear hb2)
                (try clear hk)
                (try clear hi)
                (try clear ho0)
                refine hK.out _ _ ⟨(blk_cell BK241.out 0).trans rfl, (blk_cell BK241.out 1).trans rfl, (blk_cell BK241.out 2).trans rfl, (blk_cell BK241.out 3).trans rfl⟩ (fun hHeld => ?_)
                clear hK K
                refine norm_ (a' := ?_) ?_ ?_
                rotate_left
                · show Act.put _ (some 44) _ = _
                  simp only [Act.put, List.setIfInBounds_toArray, List.set_cons_zero, List.set_cons_succ, i64_w, i32_w]
                  rfl
                refine one_ (i := 5) (N := some 47) #[true, true, true, true, true, true, false, false] rfl rfl (one_of HT_.out (by kernel_rfl)) (by decide) (fun K hK => ?_)
                refine goes_ Try.func34 (by kernel_rfl) rfl #[.slice (some ad240) l0.length c0, .agg #[.int .i64 ((rd_T50 l0 t239).f0), .int .i64 ((rd_T50 l0 t239).f1), .int .i64 a1_2, .int .i64 a1_3]] (by rfl) rfl rfl (by (try simp only [List.map_toArray, List.map_cons, List.map_nil]); first | done | rfl | (simp only [List.length_drop, List.length_take]; rfl)) ?_
                with_reducible refine (rollbacknetref29_Record.calls kj3 _ _ l0 ((rd_T50 l0 t239).f0) ((rd_T50 l0 t239).f1) a1_2 a1_3 t245 _ ?side1 ?side2 A25.out).mono ?_
                (case side1 => repeat (first | exact (Kd.C_below HR0.out HB.out) | (with_reducible refine Kd.C_alloc ?_ _) | (with_reducible refine Kd.C_drewN ?_ _) | (with_reducible refine Kd.C_drew ?_)))
                (case side2 => exact HC0.out)
                rintro e w42 ⟨v246, rfl, ho0, hb⟩
                refine ⟨_, rfl, ?_⟩
                have n0_ := Aside0.mk (Kd.R_elder' (by (with_reducible repeat (first | apply Kd.R_alloc | apply Kd.R_drewN | apply Kd.R_drew)); exact HO234.out) (Kd.R_base ho0) hb)
                have n1_ := Aside0.mk (Kd.R_elder' (by (with_reducible repeat (first | apply Kd.R_alloc | apply Kd.R_drewN | apply Kd.R_drew)); exact HO237.out) (Kd.R_base ho0) hb)
                have n2_ := Aside0.mk (Kd.R_elder' (by (with_reducible repeat (first | apply Kd.R_alloc | apply Kd.R_drewN | apply Kd.R_drew)); exact HO244.out) (Kd.R_base ho0) hb)
                have n3_ := Aside0.mk (Kd.R_lower (Kd.R_newB (Kd.R_newB (Kd.R_new' (Kd.R_new' (Kd.R_new' ho0 (Kd.R_lt (by (with_reducible repeat (first | apply Kd.R_alloc | apply Kd.R_drewN | apply Kd.R_drew)); exact HO234.out))) (Kd.R_lt (by (with_reducible repeat (first | apply Kd.R_alloc | apply Kd.R_drewN | apply Kd.R_drew)); exact HO237.out))) (Kd.R_lt (by (with_reducible repeat (first | apply Kd.R_alloc | apply Kd.R_drewN | apply Kd.R_drew)); exact HO244.out))) (g := gb230) (o := .cells #[.int .i64 a1_0, .int .i64 a1_1, .int .i64 a1_2, .int .i64 a1_3] 50 (0, 0)) (by (with_reducible repeat (first | refine blk_drewN ?_ _ | refine blk_drew ?_ | refine blk_alloc ?_ _)); exact BK230.out)) (g := gb241) (o := .cells #[.int .i64 ((rd_T50 l0 t239).f0), .int .i64 ((rd_T50 l0 t239).f1), .int .i64 a1_2, .int .i64 a1_3] 50 (0, 0)) (by (with_reducible repeat (first | refine blk_drewN ?_ _ | refine blk_drew ?_ | refine blk_alloc ?_ _)); exact BK241.out)) (below_size (by repeat (first | (with_reducible first | exact HB.out | apply below_alloc | apply pw_below_drewN | apply below_drew1 | refine below_set ?_ GE230.out | refine below_set ?_ GE241.out) | exact HB.out))))
                have n4_ := Aside0.mk (blk_below (g := gb230) (o := .cells #[.int .i64 a1_0, .int .i64 a1_1, .int .i64 a1_2, .int .i64 a1_3] 50 (0, 0)) (by (with_reducible repeat (first | refine blk_drewN ?_ _ | refine blk_drew ?_ | refine blk_alloc ?_ _)); exact BK230.out) hb)
                have n5_ := Aside0.mk (blk_below (g := gb241) (o := .cells #[.int .i64 ((rd_T50 l0 t239).f0), .int .i64 ((rd_T50 l0 t239).f1), .int .i64 a1_2, .int .i64 a1_3] 50 (0, 0)) (by (with_reducible repeat (first | refine blk_drewN ?_ _ | refine blk_drew ?_ | refine blk_alloc ?_ _)); exact BK241.out) hb)
                have n6_ := Aside0.mk (below_step (by repeat (first | (with_reducible first | exact HB.out | apply below_alloc | apply pw_below_drewN | apply below_drew1 | refine below_set ?_ GE230.out | refine below_set ?_ GE241.out) | exact HB.out)) hb)
                clear HO234
                clear HO237
                clear HO244
                clear BK230
                clear BK241
                clear HB
                have HO234 := n0_
                have HO237 := n1_
                have HO244 := n2_
                have HO247 := n3_
                have BK230 := n4_
                have BK241 := n5_
                have HB := n6_
                clear n0_ n1_ n2_ n3_ n4_ n5_ n6_
                (try clear hb)
                (try clear hb2)
                (try clear hk)
                (try clear hi)
                (try clear ho0)
                obtain ⟨Ao43, co43, eo43⟩ := Kd.R_slice HO244.out
                (first | subst eo43 | (injection eo43 with f1_ f2_ f3_; have f4_ := f1_.symm; have f5_ := f3_.symm; clear f1_ f2_ f3_; subst f4_; subst f5_))
                obtain ⟨Ao44, co44, eo44⟩ := Kd.R_slice HO247.out
                (first | subst eo44 | (injection eo44 with f1_ f2_ f3_; have f4_ := f1_.symm; have f5_ := f3_.symm; clear f1_ f2_ f3_; subst f4_; subst f5_))
                refine hK.out _ _ ⟨(blk_cell BK241.out 0).trans rfl, (blk_cell BK241.out 1).trans rfl, (blk_cell BK241.out 2).trans rfl, (blk_cell BK241.out 3).trans rfl⟩ (fun hHeld => ?_)
                clear hK K
                refine norm_ (a' := ?_) ?_ ?_
                rotate_left
                · show Act.put _ (some 47) _ = _
                  simp only [Act.put, List.setIfInBounds_toArray, List.set_cons_zero, List.set_cons_succ, i64_w, i32_w]
                  rfl
                refine one_ (i := 6) (N := some 48) #[true, true, true, true, true, true, true, false] rfl rfl (one_of HT_.out (by kernel_rfl)) (by decide) (fun K hK => ?_)
                refine goes_ Try.func32 (by kernel_rfl) rfl #[.slice Ao43 t242.length co43, .slice Ao44 t245.length co44] (by rfl) rfl rfl (by (try simp only [List.map_toArray, List.map_cons, List.map_nil]); first | done | rfl | (simp only [List.length_drop, List.length_take]; rfl)) ?_
                with_reducible refine (rollbacknetref29_SameCopies.calls kj3 _ _ t242 _ _ t245 t248 _ ?side1 ?side2 ?side3 ?side4 A26.out).mono ?_
                (case side1 => repeat (first | exact (Kd.R_reads' HO244.out).2.2 | (with_reducible refine Kd.C_alloc ?_ _) | (with_reducible refine Kd.C_drewN ?_ _) | (with_reducible refine Kd.C_drew ?_)))
                (case side2 => exact (Kd.R_reads' HO244.out).2.1)
                (case side3 => repeat (first | exact (Kd.R_reads' HO247.out).2.2 | (with_reducible refine Kd.C_alloc ?_ _) | (with_reducible refine Kd.C_drewN ?_ _) | (with_reducible refine Kd.C_drew ?_)))
                (case side4 => exact (Kd.R_reads' HO247.out).2.1)
                rintro e w' ⟨rfl, ⟨nd, rfl⟩⟩
                refine ⟨_, rfl, ?_⟩
                refine hK.out _ _ ⟨(blk_cell BK241.out 0).trans rfl, (blk_cell BK241.out 1).trans rfl, (blk_cell BK241.out 2).trans rfl, (blk_cell BK241.out 3).trans rfl⟩ (fun hHeld => ?_)
                clear hK K
                refine norm_ (a' := ?_) ?_ ?_
                rotate_left
                · show Act.put _ (some 48) _ = _
                  simp only [Act.put, List.setIfInBounds_toArray, List.set_cons_zero, List.set_cons_succ, i64_w, i32_w]
                  rfl
                refine pure_ (i := 7) (N := some 6) (v := ?_) (a' := ?_) #[true, true, true, true, true, true, true, true] rfl rfl (any_of HT_.out (by kernel_rfl)) (fun _ _ _ h => h) (Or.inl ⟨by rfl, ?_⟩) ?_ ?_
                rotate_left
                · intro w'
                  go_simp
                  with_reducible rfl
                rotate_left
                · simp only [Act.put, List.setIfInBounds_toArray, List.set_cons_zero, List.set_cons_succ, i64_w, i32_w]
                  rfl
                refine done_ (done_of HT_.out (by kernel_rfl)) ?_
                try go_wp2
                go_ret
                exact ⟨by first | rfl | (simp [errW_none, errW_some] <;> rfl) | (simp [*, errW_none, errW_some] <;> rfl), by repeat (first | (with_reducible first | exact HB.out | apply below_alloc | apply pw_below_drewN | apply below_drew1 | refine below_set ?_ GE230.out | refine below_set ?_ GE241.out) | exact HB.out)⟩
              · rw [if_neg c23] at H
                exact absurd H (by simp)
            · rw [if_neg c22] at H
              exact absurd H (by simp)
        · replace c14 := Bool.eq_false_iff.mpr c14
          subst c14
          have H1 : (some false) = some r := by rw [if_neg (show ¬ (false = true) by decide)] at H; exact H
          clear H
          have H := H1
          clear H1
          obtain rfl := Option.some.inj H
          try go_wp2
          have n0_ := Aside0.mk (blk_drew BK230.out)
          have n1_ := Aside0.mk (below_drew1 HB.out)
          clear BK230
          clear HB
          have BK230 := n0_
          have HB := n1_
          clear n0_ n1_
          refine start_ (n := 8) (S := fun w' => w'.cell? ⟨gb230, 0, none⟩ = some (.int .i64 a1_0) ∧ w'.cell? ⟨gb230, 1, none⟩ = some (.int .i64 a1_1) ∧ w'.cell? ⟨gb230, 2, none⟩ = some (.int .i64 a1_2) ∧ w'.cell? ⟨gb230, 3, none⟩ = some (.int .i64 a1_3)) (ds := []) #[false, false, false, false, false, false, false, false] (by kernel_rfl) rfl rfl ⟨(blk_cell BK230.out 0).trans rfl, (blk_cell BK230.out 1).trans rfl, (blk_cell BK230.out 2).trans rfl, (blk_cell BK230.out 3).trans rfl⟩ (fun hHeld => ?_); refine with_tabW rollbacknetlaw29_SenderlogRecords.tab3 rollbacknetlaw29_SenderlogRecords.bits3 (fun HT_ HW_ => ?_)
          generalize wc.drew = w45 at BK230 HB hHeld ⊢
          refine pure_ (i := 0) (N := some 18) (v := ?_) (a' := ?_) #[true, false, false, false, false, false, false, false] rfl rfl (any_of HT_.out (by kernel_rfl)) (fun _ _ _ h => h) (Or.inl ⟨by rfl, ?_⟩) ?_ ?_
          rotate_left
          · intro w'
            go_simp
            with_reducible rfl
          rotate_left
          · simp only [Act.put, List.setIfInBounds_toArray, List.set_cons_zero, List.set_cons_succ, i64_w, i32_w]
            rfl
          refine pure_ (i := 3) (N := some 21) (v := ?_) (a' := ?_) #[true, false, false, true, false, false, false, false] rfl rfl (any_of HT_.out (by kernel_rfl)) (fun _ _ _ h => h) (Or.inl ⟨by rfl, ?_⟩) ?_ ?_
          rotate_left
          · intro w'
            go_simp
            with_reducible rfl
          rotate_left
          · simp only [Act.put, List.setIfInBounds_toArray, List.set_cons_zero, List.set_cons_succ, i64_w, i32_w]
            rfl
          refine take_ (i := 1) (N := some 19) (v := ?_) (a' := ?_) #[true, true, false, true, false, false, false, false] rfl rfl (take_ofW HT_.out HW_.out (by kernel_rfl)) (fun _ _ _ h => h) (Or.inl ⟨by rfl, ?_⟩) hHeld ?_ ?_
          rotate_left
          · rintro w' ⟨s0, s1, s2, s3⟩
            go_simp
            with_reducible rfl
          rotate_left
          · simp only [Act.put, List.setIfInBounds_toArray, List.set_cons_zero, List.set_cons_succ, i64_w, i32_w]
            rfl
          refine take_ (i := 4) (N := some 22) (v := ?_) (a' := ?_) #[true, true, false, true, true, false, false, false] rfl rfl (take_ofW HT_.out HW_.out (by kernel_rfl)) (fun _ _ _ h => h) (Or.inl ⟨by rfl, ?_⟩) hHeld ?_ ?_
          rotate_left
          · rintro w' ⟨s0, s1, s2, s3⟩
            go_simp
            with_reducible rfl
          rotate_left
          · simp only [Act.put, List.setIfInBounds_toArray, List.set_cons_zero, List.set_cons_succ, i64_w, i32_w]
            rfl
          refine one_ (i := 2) (N := some 20) #[true, true, true, true, true, false, false, false] rfl rfl (one_of HT_.out (by kernel_rfl)) (by decide) (fun K hK => ?_)
          refine goes_ Try.func33 (by kernel_rfl) rfl #[.slice A0 l0.length c0, .agg #[.int .i64 a1_0, .int .i64 a1_1, .int .i64 a1_2, .int .i64 a1_3]] (by rfl) rfl rfl (by (try simp only [List.map_toArray, List.map_cons, List.map_nil]); first | done | rfl | (simp only [List.length_drop, List.length_take]; rfl)) ?_
          with_reducible refine (senderlog_Record.calls kj3 _ _ l0 a1_0 a1_1 a1_2 a1_3 t232 _ ?side1 ?side2 A11.out).mono ?_
          (case side1 => repeat (first | exact (Kd.C_below HR0.out HB.out) | (with_reducible refine Kd.C_alloc ?_ _) | (with_reducible refine Kd.C_drewN ?_ _) | (with_reducible refine Kd.C_drew ?_)))
          (case side2 => exact HC0.out)
          rintro e w46 ⟨v233, rfl, ho0, hb⟩
          refine ⟨_, rfl, ?_⟩
          have n0_ := Aside0.mk (Kd.R_lower (Kd.R_newB ho0 (g := gb230) (o := .cells #[.int .i64 a1_0, .int .i64 a1_1, .int .i64 a1_2, .int .i64 a1_3] 50 (0, 0)) (by (with_reducible repeat (first | refine blk_drewN ?_ _ | refine blk_drew ?_ | refine blk_alloc ?_ _)); exact BK230.out)) (below_size (by repeat (first | (with_reducible first | exact HB.out | apply below_alloc | apply pw_below_drewN | apply below_drew1 | refine below_set ?_ GE230.out) | exact HB.out))))
          have n1_ := Aside0.mk (blk_below (g := gb230) (o := .cells #[.int .i64 a1_0, .int .i64 a1_1, .int .i64 a1_2, .int .i64 a1_3] 50 (0, 0)) (by (with_reducible repeat (first | refine blk_drewN ?_ _ | refine blk_drew ?_ | refine blk_alloc ?_ _)); exact BK230.out) hb)
          have n2_ := Aside0.mk (below_step (by repeat (first | (with_reducible first | exact HB.out | apply below_alloc | apply pw_below_drewN | apply below_drew1 | refine below_set ?_ GE230.out) | exact HB.out)) hb)
          clear BK230
          clear HB
          have HO234 := n0_
          have BK230 := n1_
          have HB := n2_
          clear n0_ n1_ n2_
          (try clear hb)
          (try clear hb2)
          (try clear hk)
          (try clear hi)
          (try clear ho0)
          refine hK.out _ _ ⟨(blk_cell BK230.out 0).trans rfl, (blk_cell BK230.out 1).trans rfl, (blk_cell BK230.out 2).trans rfl, (blk_cell BK230.out 3).trans rfl⟩ (fun hHeld => ?_)
          clear hK K
          refine norm_ (a' := ?_) ?_ ?_
          rotate_left
          · show Act.put _ (some 20) _ = _
            simp only [Act.put, List.setIfInBounds_toArray, List.set_cons_zero, List.set_cons_succ, i64_w, i32_w]
            rfl
          refine one_ (i := 5) (N := some 23) #[true, true, true, true, true, true, false, false] rfl rfl (one_of HT_.out (by kernel_rfl)) (by decide) (fun K hK => ?_)
          refine goes_ Try.func34 (by kernel_rfl) rfl #[.slice A0 l0.length c0, .agg #[.int .i64 a1_0, .int .i64 a1_1, .int .i64 a1_2, .int .i64 a1_3]] (by rfl) rfl rfl (by (try simp only [List.map_toArray, List.map_cons, List.map_nil]); first | done | rfl | (simp only [List.length_drop, List.length_take]; rfl)) ?_
          with_reducible refine (rollbacknetref29_Record.calls kj3 _ _ l0 a1_0 a1_1 a1_2 a1_3 t235 _ ?side1 ?side2 A12.out).mono ?_
          (case side1 => repeat (first | exact (Kd.C_below HR0.out HB.out) | (with_reducible refine Kd.C_alloc ?_ _) | (with_reducible refine Kd.C_drewN ?_ _) | (with_reducible refine Kd.C_drew ?_)))
          (case side2 => exact HC0.out)
          rintro e w47 ⟨v236, rfl, ho0, hb⟩
          refine ⟨_, rfl, ?_⟩
          have n0_ := Aside0.mk (Kd.R_elder' (by (with_reducible repeat (first | apply Kd.R_alloc | apply Kd.R_drewN | apply Kd.R_drew)); exact HO234.out) (Kd.R_base ho0) hb)
          have n1_ := Aside0.mk (Kd.R_lower (Kd.R_newB (Kd.R_new' ho0 (Kd.R_lt (by (with_reducible repeat (first | apply Kd.R_alloc | apply Kd.R_drewN | apply Kd.R_drew)); exact HO234.out))) (g := gb230) (o := .cells #[.int .i64 a1_0, .int .i64 a1_1, .int .i64 a1_2, .int .i64 a1_3] 50 (0, 0)) (by (with_reducible repeat (first | refine blk_drewN ?_ _ | refine blk_drew ?_ | refine blk_alloc ?_ _)); exact BK230.out)) (below_size (by repeat (first | (with_reducible first | exact HB.out | apply below_alloc | apply pw_below_drewN | apply below_drew1 | refine below_set ?_ GE230.out) | exact HB.out))))
          have n2_ := Aside0.mk (blk_below (g := gb230) (o := .cells #[.int .i64 a1_0, .int .i64 a1_1, .int .i64 a1_2, .int .i64 a1_3] 50 (0, 0)) (by (with_reducible repeat (first | refine blk_drewN ?_ _ | refine blk_drew ?_ | refine blk_alloc ?_ _)); exact BK230.out) hb)
          have n3_ := Aside0.mk (below_step (by repeat (first | (with_reducible first | exact HB.out | apply below_alloc | apply pw_below_drewN | apply below_drew1 | refine below_set ?_ GE230.out) | exact HB.out)) hb)
          clear HO234
          clear BK230
          clear HB
          have HO234 := n0_
          have HO237 := n1_
          have BK230 := n2_
          have HB := n3_
          clear n0_ n1_ n2_ n3_
          (try clear hb)
          (try clear hb2)
          (try clear hk)
          (try clear hi)
          (try clear ho0)
          obtain ⟨Ao48, co48, eo48⟩ := Kd.R_slice HO234.out
          (first | subst eo48 | (injection eo48 with f1_ f2_ f3_; have f4_ := f1_.symm; have f5_ := f3_.symm; clear f1_ f2_ f3_; subst f4_; subst f5_))
          obtain ⟨Ao49, co49, eo49⟩ := Kd.R_slice HO237.out
          (first | subst eo49 | (injection eo49 with f1_ f2_ f3_; have f4_ := f1_.symm; have f5_ := f3_.symm; clear f1_ f2_ f3_; subst f4_; subst f5_))
          refine hK.out _ _ ⟨(blk_cell BK230.out 0).trans rfl, (blk_cell BK230.out 1).trans rfl, (blk_cell BK230.out 2).trans rfl, (blk_cell BK230.out 3).trans rfl⟩ (fun hHeld => ?_)
          clear hK K
          refine norm_ (a' := ?_) ?_ ?_
          rotate_left
          · show Act.put _ (some 23) _ = _
            simp only [Act.put, List.setIfInBounds_toArray, List.set_cons_zero, List.set_cons_succ, i64_w, i32_w]
            rfl
          refine one_ (i := 6) (N := some 24) #[true, true, true, true, true, true, true, false] rfl rfl (one_of HT_.out (by kernel_rfl)) (by decide) (fun K hK => ?_)
          refine goes_ Try.func32 (by kernel_rfl) rfl #[.slice Ao48 t232.length co48, .slice Ao49 t235.length co49] (by rfl) rfl rfl (by (try simp only [List.map_toArray, List.map_cons, List.map_nil]); first | done | rfl | (simp only [List.length_drop, List.length_take]; rfl)) ?_
          with_reducible refine (rollbacknetref29_SameCopies.calls kj3 _ _ t232 _ _ t235 false _ ?side1 ?side2 ?side3 ?side4 A13.out).mono ?_
          (case side1 => repeat (first | exact (Kd.R_reads' HO234.out).2.2 | (with_reducible refine Kd.C_alloc ?_ _) | (with_reducible refine Kd.C_drewN ?_ _) | (with_reducible refine Kd.C_drew ?_)))
          (case side2 => exact (Kd.R_reads' HO234.out).2.1)
          (case side3 => repeat (first | exact (Kd.R_reads' HO237.out).2.2 | (with_reducible refine Kd.C_alloc ?_ _) | (with_reducible refine Kd.C_drewN ?_ _) | (with_reducible refine Kd.C_drew ?_)))
          (case side4 => exact (Kd.R_reads' HO237.out).2.1)
          rintro e w' ⟨rfl, ⟨nd, rfl⟩⟩
          refine ⟨_, rfl, ?_⟩
          refine hK.out _ _ ⟨(blk_cell BK230.out 0).trans rfl, (blk_cell BK230.out 1).trans rfl, (blk_cell BK230.out 2).trans rfl, (blk_cell BK230.out 3).trans rfl⟩ (fun hHeld => ?_)
          clear hK K
          refine norm_ (a' := ?_) ?_ ?_
          rotate_left
          · show Act.put _ (some 24) _ = _
            simp only [Act.put, List.setIfInBounds_toArray, List.set_cons_zero, List.set_cons_succ, i64_w, i32_w]
            rfl
          refine pure_ (i := 7) (N := some 25) (v := ?_) (a' := ?_) #[true, true, true, true, true, true, true, true] rfl rfl (any_of HT_.out (by kernel_rfl)) (fun _ _ _ h => h) (Or.inl ⟨by rfl, ?_⟩) ?_ ?_
          rotate_left
          · intro w'
            go_simp
            with_reducible rfl
          rotate_left
          · simp only [Act.put, List.setIfInBounds_toArray, List.set_cons_zero, List.set_cons_succ, i64_w, i32_w]
            rfl
          refine done_ (done_of HT_.out (by kernel_rfl)) ?_
          try go_wp2
          go_ret
          exact ⟨by first | rfl | (simp [errW_none, errW_some] <;> rfl) | (simp [*, errW_none, errW_some] <;> rfl), by repeat (first | (with_reducible first | exact HB.out | apply below_alloc | apply pw_below_drewN | apply below_drew1 | refine below_set ?_ GE230.out) | exact HB.out)⟩

end Go.Proofs.Ytpcfgpghfegjkaa.PSl
