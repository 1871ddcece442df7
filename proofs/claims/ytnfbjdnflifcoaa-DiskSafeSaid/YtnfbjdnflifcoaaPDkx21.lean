-- Laid by wip/tools/xprint.py, a program of this session over the kit's print: functions as Lean functions, each with its contract.
import Derived.Test.YtnfbjdnflifcoaaPDkx0
import Derived.Test.YtnfbjdnflifcoaaPDkx4
import Derived.Test.YtnfbjdnflifcoaaPDkx5
import Derived.Test.YtnfbjdnflifcoaaPDkx6
import Derived.Test.YtnfbjdnflifcoaaPDkx8
import Derived.Test.YtnfbjdnflifcoaaPDkx9
import Derived.Test.YtnfbjdnflifcoaaPDkx10
import Derived.Test.YtnfbjdnflifcoaaPDkx17
import Derived.Test.YtnfbjdnflifcoaaPDkx18
import Derived.Test.YtnfbjdnflifcoaaPDkx20
namespace Go.Proofs.Ytnfbjdnflifcoaa.PDk
open Go.RowKit Go.Proofs.YtnfbjdnflifcoaaW.PrintWords Go.Proofs.YtnfbjdnflifcoaaW.PrintLast Go.Proofs.YtnfbjdnflifcoaaW.PrintMore
attribute [local go_sem] max2_int min2_int max_two min_two max_three min_three max_four min_four   -- for this text's walks alone
set_option linter.unusedVariables false
set_option linter.unusedSimpArgs false

/-! ### rollbacknetlaw10_DiskSafe: function 5 -/
mutual
def rollbacknetlaw10_DiskSafe.j0 : Nat → List Int → List Int → List Int → Bool → Option (Bool)
 | 0, _, _, _, _ => none
 | k + 1, x0, x1, x2, x29 => if x29 = true then (some true) else ((rollbacknetmake_New.f x0 100).bind fun bt279 => ((disk_New.f 2).bind fun bt282 => ((disk_Append.f k bt282.1 1 x1).bind fun bt287 => ((disk_Sync.f k bt287.1 1).bind fun bt291 => (if bt287.2 = 0 then (rollbacknetlaw10_DiskSafe.j1 k x1 x2 (bt291.2 != 0) bt279.1 bt279.2 bt291.1) else (rollbacknetlaw10_DiskSafe.j1 k x1 x2 true bt279.1 bt279.2 bt291.1))))))
def rollbacknetlaw10_DiskSafe.j1 : Nat → List Int → List Int → Bool → List Int → Int → List (S48) → Option (Bool)
 | 0, _, _, _, _, _, _ => none
 | k + 1, x1, x2, x52, x282000, x282001, x296000 => if x52 = true then (some false) else ((rollbacknetlaw10_tears.f k x282000 x282001 2).bind fun bt296 => ((disk_Crash.f k x296000 bt296.1).bind fun t300 => ((disk_Read.f t300 1).bind fun bt303 => ((disk_Append.f k x296000 1 x2).bind fun bt307 => ((disk_Crash.f k bt307.1 bt296.1).bind fun t311 => ((disk_Read.f t311 1).bind fun bt315 => ((rollbacknetlaw10_tears.f k x282000 bt296.2 2).bind fun bt319 => ((disk_Crash.f k t311 bt319.1).bind fun t323 => ((disk_Read.f t323 1).bind fun bt326 => (if bt307.2 = 0 then (if bt315.2 = 0 then ((rollbacknetref08_SameBytes.f k bt303.1 x1).bind fun t330 => (if t330 = true then (if (bt315.1.length : Int) ≥ (x1.length : Int) then (if (bt315.1.length : Int) ≤ (wrap64 ((x1.length : Int) + (x2.length : Int))) then (if 0 ≤ (x1.length : Int) then (if (x1.length : Int) ≤ (bt315.1.length : Int) then ((rollbacknetref08_SameBytes.f k (bt315.1.take ((x1.length : Int) : Int).toNat) x1).bind fun t335 => (if t335 = true then ((rollbacknetref08_SameBytes.f k bt315.1 bt326.1).bind fun t336 => (some t336)) else (some false))) else (none)) else (none)) else (some false)) else (some false)) else (some false))) else (some false)) else (some false)))))))))))
end
def rollbacknetlaw10_DiskSafe.f (k : Nat) (l0 : List Int) (l1 : List Int) (l2 : List Int) : Option (Bool) := (rollbacknetlaw10_awake.f k).bind fun t278 => (if t278 = true then (if (l1.length : Int) > 500 then (rollbacknetlaw10_DiskSafe.j0 k l0 l1 l2 true) else (rollbacknetlaw10_DiskSafe.j0 k l0 l1 l2 (decide ((l2.length : Int) > 500)))) else (some false))
theorem rollbacknetlaw10_DiskSafe.mono_l : ∀ k, (∀ y0 y1 y2 y3, LeO (rollbacknetlaw10_DiskSafe.j0 k y0 y1 y2 y3) (rollbacknetlaw10_DiskSafe.j0 (k + 1) y0 y1 y2 y3)) ∧ (∀ y0 y1 y2 y3 y4 y5, LeO (rollbacknetlaw10_DiskSafe.j1 k y0 y1 y2 y3 y4 y5) (rollbacknetlaw10_DiskSafe.j1 (k + 1) y0 y1 y2 y3 y4 y5))
 | 0 => ⟨fun _ _ _ _ r h => by simp [rollbacknetlaw10_DiskSafe.j0] at h, fun _ _ _ _ _ _ r h => by simp [rollbacknetlaw10_DiskSafe.j1] at h⟩
 | k + 1 => by
  obtain ⟨ih0, ih1⟩ := rollbacknetlaw10_DiskSafe.mono_l k
  refine ⟨?_, ?_⟩
  ·intro y0 y1 y2 y3
   unfold rollbacknetlaw10_DiskSafe.j0
   repeat' first
   | (with_reducible exact ih0 _ _ _ _)
   | (with_reducible exact ih1 _ _ _ _ _ _)
   | (with_reducible exact disk_Append.mono _ _ _ _)
   | (with_reducible exact disk_Crash.mono _ _ _)
   | (with_reducible exact disk_Sync.mono _ _ _)
   | (with_reducible exact rollbacknetlaw10_awake.mono _)
   | (with_reducible exact rollbacknetlaw10_tears.mono _ _ _ _)
   | (with_reducible exact rollbacknetref08_SameBytes.mono _ _ _)
   | (with_reducible exact LeO.refl _)
   | (with_reducible exact LeO.none _)
   | (with_reducible refine LeO.ite ?_ ?_)
   | (with_reducible refine LeO.bind ?_ (fun _ => ?_))
   | exact ih0 _ _ _ _
   | exact ih1 _ _ _ _ _ _
   | exact disk_Append.mono _ _ _ _
   | exact disk_Crash.mono _ _ _
   | exact disk_Sync.mono _ _ _
   | exact rollbacknetlaw10_awake.mono _
   | exact rollbacknetlaw10_tears.mono _ _ _ _
   | exact rollbacknetref08_SameBytes.mono _ _ _
   | exact LeO.none _
   | refine LeO.ite ?_ ?_
   | refine LeO.bind ?_ (fun _ => ?_)
  ·intro y0 y1 y2 y3 y4 y5
   unfold rollbacknetlaw10_DiskSafe.j1
   repeat' first
   | (with_reducible exact ih0 _ _ _ _)
   | (with_reducible exact ih1 _ _ _ _ _ _)
   | (with_reducible exact disk_Append.mono _ _ _ _)
   | (with_reducible exact disk_Crash.mono _ _ _)
   | (with_reducible exact disk_Sync.mono _ _ _)
   | (with_reducible exact rollbacknetlaw10_awake.mono _)
   | (with_reducible exact rollbacknetlaw10_tears.mono _ _ _ _)
   | (with_reducible exact rollbacknetref08_SameBytes.mono _ _ _)
   | (with_reducible exact LeO.refl _)
   | (with_reducible exact LeO.none _)
   | (with_reducible refine LeO.ite ?_ ?_)
   | (with_reducible refine LeO.bind ?_ (fun _ => ?_))
   | exact ih0 _ _ _ _
   | exact ih1 _ _ _ _ _ _
   | exact disk_Append.mono _ _ _ _
   | exact disk_Crash.mono _ _ _
   | exact disk_Sync.mono _ _ _
   | exact rollbacknetlaw10_awake.mono _
   | exact rollbacknetlaw10_tears.mono _ _ _ _
   | exact rollbacknetref08_SameBytes.mono _ _ _
   | exact LeO.none _
   | refine LeO.ite ?_ ?_
   | refine LeO.bind ?_ (fun _ => ?_)
theorem rollbacknetlaw10_DiskSafe.mono : ∀ a0 a1 a2 k, LeO (rollbacknetlaw10_DiskSafe.f k a0 a1 a2) (rollbacknetlaw10_DiskSafe.f (k + 1) a0 a1 a2) := by
 intro a0 a1 a2 k
 obtain ⟨ih0, ih1⟩ := rollbacknetlaw10_DiskSafe.mono_l k
 unfold rollbacknetlaw10_DiskSafe.f
 repeat' first
   | (with_reducible exact ih0 _ _ _ _)
   | (with_reducible exact ih1 _ _ _ _ _ _)
   | (with_reducible exact disk_Append.mono _ _ _ _)
   | (with_reducible exact disk_Crash.mono _ _ _)
   | (with_reducible exact disk_Sync.mono _ _ _)
   | (with_reducible exact rollbacknetlaw10_awake.mono _)
   | (with_reducible exact rollbacknetlaw10_tears.mono _ _ _ _)
   | (with_reducible exact rollbacknetref08_SameBytes.mono _ _ _)
   | (with_reducible exact LeO.refl _)
   | (with_reducible exact LeO.none _)
   | (with_reducible refine LeO.ite ?_ ?_)
   | (with_reducible refine LeO.bind ?_ (fun _ => ?_))
   | exact ih0 _ _ _ _
   | exact ih1 _ _ _ _ _ _
   | exact disk_Append.mono _ _ _ _
   | exact disk_Crash.mono _ _ _
   | exact disk_Sync.mono _ _ _
   | exact rollbacknetlaw10_awake.mono _
   | exact rollbacknetlaw10_tears.mono _ _ _ _
   | exact rollbacknetref08_SameBytes.mono _ _ _
   | exact LeO.none _
   | refine LeO.ite ?_ ?_
   | refine LeO.bind ?_ (fun _ => ?_)
def rollbacknetlaw10_DiskSafe.T16 : Bool × List (List Nat × List Nat) := (true, [([], []), ([], []), ([1], [1]), ([0, 2, 2], [0, 2]), ([3, 3], [3]), ([4], [4]), ([5], [5]), ([5], [5]), ([6, 4, 0, 1, 2, 3, 4, 5, 6], [6]), ([7, 8, 0, 1, 2, 3, 4, 5, 6, 7, 8], [7])])
def rollbacknetlaw10_DiskSafe.B16 : List Nat := [0, 0, 2, 7, 15, 31, 63, 63, 127, 511]
theorem rollbacknetlaw10_DiskSafe.tab16 : rtab .any (opsOf Try.f5 16) = rollbacknetlaw10_DiskSafe.T16 := by kernel_rfl
theorem rollbacknetlaw10_DiskSafe.bits16 : waitsOk rollbacknetlaw10_DiskSafe.T16.2 rollbacknetlaw10_DiskSafe.B16 = true := by kernel_rfl
set_option maxHeartbeats 8000000 in
set_option maxRecDepth 100000 in
theorem rollbacknetlaw10_DiskSafe.calls (k : Nat) (A0 : Option Addr) (c0 : Nat) (l0 : List Int) (A1 : Option Addr) (c1 : Nat) (l1 : List Int) (A2 : Option Addr) (c2 : Nat) (l2 : List Int) (r : Bool) (w : World) (hr0 : Kd.C (Kd.int .u8) w A0 l0.length l0) (hc0 : l0.length ≤ c0) (hr1 : Kd.C (Kd.int .u8) w A1 l1.length l1) (hc1 : l1.length ≤ c1) (hr2 : Kd.C (Kd.int .u8) w A2 l2.length l2) (hc2 : l2.length ≤ c2) (h : rollbacknetlaw10_DiskSafe.f k l0 l1 l2 = some r) :
  Calls Try.prog 5 #[.slice A0 l0.length c0, .slice A1 l1.length c1, .slice A2 l2.length c2] w fun e w' => e = .returned (.bool r) ∧ Below w.heap.size w w' := by
 have hu24 := Try.underlying24
 have HR0 := aM hr0
 have HC0 := aM hc0
 clear hr0 hc0
 have HR1 := aM hr1
 have HC1 := aM hc1
 clear hr1 hc1
 have HR2 := aM hr2
 have HC2 := aM hc2
 clear hr2 hc2
 have HB := aM (Below.refl w.heap.size w)
 have H : ((rollbacknetlaw10_awake.f k).bind fun t278 => (if t278 = true then (if (l1.length : Int) > 500 then (rollbacknetlaw10_DiskSafe.j0 k l0 l1 l2 true) else (rollbacknetlaw10_DiskSafe.j0 k l0 l1 l2 (decide ((l2.length : Int) > 500)))) else (some false))) = some r := h
 clear h
 replace H := Option.bind_eq_some_iff.mp H
 obtain ⟨t278, A40, H⟩ := H
 replace H : (if t278 = true then (if (l1.length : Int) > 500 then (rollbacknetlaw10_DiskSafe.j0 k l0 l1 l2 true) else (rollbacknetlaw10_DiskSafe.j0 k l0 l1 l2 (decide ((l2.length : Int) > 500)))) else (some false)) = some r := H
 have A4 := aM A40
 clear A40
 by_cases c5 : t278 = true
 ·subst c5
  have H1 : (if (l1.length : Int) > 500 then (rollbacknetlaw10_DiskSafe.j0 k l0 l1 l2 true) else (rollbacknetlaw10_DiskSafe.j0 k l0 l1 l2 (decide ((l2.length : Int) > 500)))) = some r := by rw [if_pos rfl] at H; exact H
  clear H
  have H := H1
  clear H1
  have HC6 := aM H
  clear H
  go_enter Try.func5, Try.ntmps5
  go_upto_region 3 with (first | ((with_reducible refine gate_callee (f := 9) rfl ?_); refine goesL_ (some 20) rfl rfl Try.func9 (by kernel_rfl) rfl #[] rfl (by (try simp only [List.map_toArray, List.map_cons, List.map_nil]); first | done | rfl | (simp only [List.length_drop, List.length_take]; rfl)) ?_; (with_reducible refine (rollbacknetlaw10_awake.calls k  true _ A4.out).mono ?_); rintro e w7 ⟨rfl, hb⟩; refine ⟨_, rfl, ?_⟩; have n0_ := aM (below_step (by repeat (first | (with_reducible first | exact HB.out | apply wA | apply wN | apply wD) | exact HB.out)) hb); clear HB; have HB := n0_; clear n0_; (try clear hb); (try clear hb2); (try clear hk); (try clear hi)))
  (try simp only [Act.put, List.setIfInBounds_toArray, List.set_cons_zero, List.set_cons_succ])
  have H := HC6.out
  clear HC6
  have HC8 := aM H
  clear H
  go_upto_region 3 with (fail)
  go_cut [29] (fun v29 wc => ∃ (kq : Nat) (x29_7 : Bool), v29 = .bool x29_7 ∧ Aside0 (rollbacknetlaw10_DiskSafe.j0 kq l0 l1 l2 x29_7 = some r) ∧ Aside0 (kq ≤ k) ∧ Aside0 (Below w.heap.size w wc))
  case first =>
   have H := HC8.out
   clear HC8
   by_cases c9 : (l1.length : Int) > 500
   ·rw [if_pos c9] at H
    have c9b0 : decide (500 < (l1.length : Int)) = true := decide_eq_true c9
    have c9b1 : decide (500 < l1.length) = true := decide_eq_true (by omega)
    clear c9
    (first | rw [c9b0] | (simp only [i64_w, i32_w]; rw [c9b0]) | skip)
    have H' := aM H
    clear H
    go_wp2
    go_meet
    case rel => exact ⟨_, (true), (by first | rfl | (simp; done) | (simp [*]; done)), H', ⟨by first | omega | exact Nat.le_refl _⟩, ⟨by repeat (first | (with_reducible first | exact HB.out | apply wA | apply wN | apply wD) | exact HB.out)⟩⟩
   ·rw [if_neg c9] at H
    have c9b0 : decide (500 < (l1.length : Int)) = false := decide_eq_false c9
    have c9b1 : decide (500 < l1.length) = false := decide_eq_false (by omega)
    clear c9
    (first | rw [c9b0] | (simp only [i64_w, i32_w]; rw [c9b0]) | skip)
    have H' := aM H
    clear H
    go_wp2
    go_meet
    case rel => exact ⟨_, (decide ((l2.length : Int) > 500)), (by first | rfl | (simp; done) | (simp [*]; done)), H', ⟨by first | omega | exact Nat.le_refl _⟩, ⟨by repeat (first | (with_reducible first | exact HB.out | apply wA | apply wN | apply wD) | exact HB.out)⟩⟩
  case rest =>
   clear HC8
   try clear c1
   try clear c2
   try clear p2
   try clear c5
   try clear c9
   try clear c9b0
   try clear c9b1
   obtain ⟨kq, x29_7, rfl, HA, HJ7, HB⟩ := hcut
   cases kq with
   | zero => exact absurd HA.out (by simp [rollbacknetlaw10_DiskSafe.j0])
   | succ kj7 =>
    have H := HA.out
    clear HA
    simp only [rollbacknetlaw10_DiskSafe.j0] at H
    by_cases c10 : x29_7 = true
    ·subst c10
     have H1 : (some true) = some r := by rw [if_pos rfl] at H; exact H
     clear H
     have H := H1
     clear H1
     obtain rfl := Option.some.inj H
     go_wp2
     go_ret
     exact ⟨by first | rfl | (simp [errW_none, errW_some] <;> rfl) | (simp [*, errW_none, errW_some] <;> rfl), by repeat (first | (with_reducible first | exact HB.out | apply wA | apply wN | apply wD) | exact HB.out)⟩
    ·replace c10 := Bool.eq_false_iff.mpr c10
     subst c10
     have H1 : ((rollbacknetmake_New.f l0 100).bind fun bt279 => ((disk_New.f 2).bind fun bt282 => ((disk_Append.f kj7 bt282.1 1 l1).bind fun bt287 => ((disk_Sync.f kj7 bt287.1 1).bind fun bt291 => (if bt287.2 = 0 then (rollbacknetlaw10_DiskSafe.j1 kj7 l1 l2 (bt291.2 != 0) bt279.1 bt279.2 bt291.1) else (rollbacknetlaw10_DiskSafe.j1 kj7 l1 l2 true bt279.1 bt279.2 bt291.1)))))) = some r := by rw [if_neg (show ¬ (false = true) by decide)] at H; exact H
     clear H
     have H := H1
     clear H1
     replace H := Option.bind_eq_some_iff.mp H
     obtain ⟨⟨t279, t280⟩, A110, H⟩ := H
     replace H : ((disk_New.f 2).bind fun bt282 => ((disk_Append.f kj7 bt282.1 1 l1).bind fun bt287 => ((disk_Sync.f kj7 bt287.1 1).bind fun bt291 => (if bt287.2 = 0 then (rollbacknetlaw10_DiskSafe.j1 kj7 l1 l2 (bt291.2 != 0) t279 t280 bt291.1) else (rollbacknetlaw10_DiskSafe.j1 kj7 l1 l2 true t279 t280 bt291.1))))) = some r := H
     have A11 := aM A110
     clear A110
     have HC12 := aM H
     clear H
     go_upto_region 6 with (first | ((with_reducible refine gate_callee (f := 16) rfl ?_); refine goesL_ (some 31) rfl rfl Try.func16 (by kernel_rfl) rfl #[.slice A0 l0.length c0, .int .i64 100] rfl (by (try simp only [List.map_toArray, List.map_cons, List.map_nil]); first | done | rfl | (simp only [List.length_drop, List.length_take]; rfl)) ?_; (with_reducible refine (rollbacknetmake_New.calls _ _ l0 100 t279 t280 w _ ?side1 ?side2 ?side3 A11.out).mono ?_); (case side1 => repeat (first | (with_reducible first | exact HB.out | apply wA | apply wN | apply wD) | exact HB.out)); (case side2 => exact HR0.out); (case side3 => exact HC0.out); rintro e w13 ⟨g281, rfl, hi, hb, hb2⟩; refine ⟨_, rfl, ?_⟩; have n0_ := aM (hb); have n1_ := aM (hi); clear HB; have HB := n0_; have HI281 := n1_; clear n0_ n1_; (try clear hb); (try clear hb2); (try clear hk); (try clear hi)))
     (try simp only [Act.put, List.setIfInBounds_toArray, List.set_cons_zero, List.set_cons_succ])
     have H := HC12.out
     clear HC12
     replace H := Option.bind_eq_some_iff.mp H
     obtain ⟨⟨t282, t285⟩, A140, H⟩ := H
     replace H : ((disk_Append.f kj7 t282 1 l1).bind fun bt287 => ((disk_Sync.f kj7 bt287.1 1).bind fun bt291 => (if bt287.2 = 0 then (rollbacknetlaw10_DiskSafe.j1 kj7 l1 l2 (bt291.2 != 0) t279 t280 bt291.1) else (rollbacknetlaw10_DiskSafe.j1 kj7 l1 l2 true t279 t280 bt291.1)))) = some r := H
     have A14 := aM A140
     clear A140
     have HC15 := aM H
     clear H
     go_upto_region 7 with (first | ((with_reducible refine gate_callee (f := 13) rfl ?_); refine goesL_ (some 33) rfl rfl Try.func13 (by kernel_rfl) rfl #[.int .i64 2] rfl (by (try simp only [List.map_toArray, List.map_cons, List.map_nil]); first | done | rfl | (simp only [List.length_drop, List.length_take]; rfl)) ?_; (with_reducible refine (disk_New.calls 2 t282 t285 _ A14.out).mono ?_); rintro e w16 ⟨v283, rfl, ho0, hb⟩; refine ⟨_, rfl, ?_⟩; have n0_ := aM (Kd.S_lower ho0 (below_size (by repeat (first | (with_reducible first | exact HB.out | apply wA | apply wN | apply wD | refine below_set ?_ (IsS62.ge HI281.out)) | exact HB.out)))); have n1_ := aM (IsS62.below (by repeat (first | (with_reducible first | exact HI281.out | apply IsS62.alloc | apply IsS62.drewN | apply IsS62.drew | apply IsS62.set_1) | exact HI281.out)) hb); have n2_ := aM (below_step (by repeat (first | (with_reducible first | exact HB.out | apply wA | apply wN | apply wD | refine below_set ?_ (IsS62.ge HI281.out)) | exact HB.out)) hb); clear HI281; clear HB; have HO284 := n0_; have HI281 := n1_; have HB := n2_; clear n0_ n1_ n2_; (try clear hb); (try clear hb2); (try clear hk); (try clear hi); (try clear ho0)) | ((with_reducible refine gate_dst (N := 8) rfl ?_); (try (refine gate_guard (by rfl) ?_; dsimp only)); refine box_event ?hg (N := 8) ?hd (cs := #[.slice none 0 0]) (t := 24) ?hr ?_; (case hd => rfl); (case hg => rfl); (case hr => first | (go_simp; done) | (go_simp; rfl)); intro gb286 hg w17 hbox hb; have n0_ := aM (Kd.S_below (by (with_reducible repeat (first | apply Kd.S_alloc | apply Kd.S_drewN | apply Kd.S_drew)); exact HO284.out) hb); have n1_ := aM (IsS62.below (by repeat (first | (with_reducible first | exact HI281.out | apply IsS62.alloc | apply IsS62.drewN | apply IsS62.drew | apply IsS62.set_1) | exact HI281.out)) hb); have n2_ := aM (below_step (by repeat (first | (with_reducible first | exact HB.out | apply wA | apply wN | apply wD | refine below_set ?_ (IsS62.ge HI281.out)) | exact HB.out)) hb); have n3_ := aM (hbox); have n4_ := aM ((by rw [hg]; exact (below_size (by repeat (first | (with_reducible first | exact HB.out | apply wA | apply wN | apply wD | refine below_set ?_ (IsS62.ge HI281.out)) | exact HB.out))) : w.heap.size ≤ gb286)); have n5_ := aM ((by rw [hg]; exact (below_size (by repeat (first | (with_reducible first | exact HB.out | apply wA | apply wN | apply wD | refine below_set ?_ (IsS62.ge HI281.out)) | exact HB.out))) : w.heap.size ≤ gb286)); have n6_ := aM ((by rw [hg]; exact Nat.ne_of_lt (IsS62.lt (show IsS62 w _ g281 t279 t280 from by repeat (first | (with_reducible first | exact HI281.out | apply IsS62.alloc | apply IsS62.drewN | apply IsS62.drew | apply IsS62.set_1) | exact HI281.out))) : g281 ≠ gb286)); have n7_ := aM ((by rw [hg]; exact Nat.ne_of_gt (IsS62.lt (show IsS62 w _ g281 t279 t280 from by repeat (first | (with_reducible first | exact HI281.out | apply IsS62.alloc | apply IsS62.drewN | apply IsS62.drew | apply IsS62.set_1) | exact HI281.out))) : gb286 ≠ g281)); clear HO284; clear HI281; clear HB; have HO284 := n0_; have HI281 := n1_; have HB := n2_; have BK286 := n3_; have GW286 := n4_; have GE286 := n5_; have NB281_286 := n6_; have NB286_281 := n7_; clear n0_ n1_ n2_ n3_ n4_ n5_ n6_ n7_; clear hb hbox hg; obtain ⟨Ao18, co18, eo18⟩ := Kd.S_slice HO284.out; subst eo18; have hnb19 := NB286_281.out; have hnc19 := NB281_286.out; have hcz20_0 : w17.cell? ⟨gb286, 0, none⟩ = some (.slice none 0 0) := (blk_cell BK286.out 0).trans rfl; have hfz20_0 := blk_frozen BK286.out 0) | ((with_reducible refine gate_store (t := 24) (p := 8) rfl ?_); refine store_event (t := 24) (p := 8) (v := ?vo_w21) (w1 := (w17.setCell ⟨gb286, 0, none⟩ (.slice Ao18 t282.length co18))) ?hg ?ho ?hn ?hr ?_; (case ho => rfl); (case hg => rfl); (case hn => rfl); (case hr => first | (go_simp; done) | (go_simp; rfl)); intro w21 hw; have n0_ : Aside0 (Kd.S k48 48 w21 w.heap.size (fun _ => True) (.slice Ao18 t282.length co18) t282) := ⟨(by rw [hw]; exact (by (with_reducible repeat (first | apply Kd.S_alloc | apply Kd.S_drewN | apply Kd.S_drew)); exact Kd.S_mono (Kd.S_far (p := ⟨gb286, 0, none⟩) (Kd.S_types HO284.out BK286.out (by decide)) (fun _ hk => hk.2) (.slice Ao18 t282.length co18)) (fun _ hk => trivial)))⟩; have n1_ : Aside0 (w21.heap[gb286]? = some (.cells #[.slice Ao18 t282.length co18] 24 (0, 0))) := ⟨(by rw [hw]; exact (by (with_reducible repeat (first | refine bN ?_ _ | refine bD ?_ | refine bA ?_ _)); refine blk_put (cs := #[.slice none 0 0]) ?_ 0 _ rfl; (with_reducible repeat (first | refine bN ?_ _ | refine bD ?_ | refine bA ?_ _)); exact BK286.out))⟩; have n2_ : Aside0 (IsS62 w w21 g281 t279 t280) := ⟨(by rw [hw]; exact (by repeat (first | (with_reducible first | exact HI281.out | apply IsS62.alloc | apply IsS62.drewN | apply IsS62.drew | apply IsS62.set_1 | refine IsS62.far ?_ NB281_286.out _) | exact HI281.out)))⟩; have n3_ : Aside0 (Below w.heap.size w w21) := ⟨(by rw [hw]; exact (by repeat (first | (with_reducible first | exact HB.out | apply wA | apply wN | apply wD | refine below_set ?_ (IsS62.ge HI281.out) | refine below_set ?_ GE286.out) | exact HB.out)))⟩; clear hw; clear HO284; clear BK286; clear HI281; clear HB; have HO284 := n0_; have BK286 := n1_; have HI281 := n2_; have HB := n3_; clear n0_ n1_ n2_ n3_))
     (try simp only [Act.put, List.setIfInBounds_toArray, List.set_cons_zero, List.set_cons_succ])
     have H := HC15.out
     clear HC15
     replace H := Option.bind_eq_some_iff.mp H
     obtain ⟨⟨t287, t290⟩, A220, H⟩ := H
     replace H : ((disk_Sync.f kj7 t287 1).bind fun bt291 => (if t290 = 0 then (rollbacknetlaw10_DiskSafe.j1 kj7 l1 l2 (bt291.2 != 0) t279 t280 bt291.1) else (rollbacknetlaw10_DiskSafe.j1 kj7 l1 l2 true t279 t280 bt291.1))) = some r := H
     have A22 := aM A220
     clear A220
     have HC23 := aM H
     clear H
     have hnb24 := NB286_281.out
     have hnc24 := NB281_286.out
     have hcz25_0 : w21.cell? ⟨gb286, 0, none⟩ = some (.slice Ao18 t282.length co18) := (blk_cell BK286.out 0).trans rfl
     have hfz25_0 := blk_frozen BK286.out 0
     go_upto_region 8 with (first | ((with_reducible refine gate_callee (f := 14) rfl ?_); refine goesL_ (some 39) rfl rfl Try.func14 (by kernel_rfl) rfl #[.agg #[.slice Ao18 t282.length co18], .int .i64 1, .slice A1 l1.length c1] rfl (by (try simp only [List.map_toArray, List.map_cons, List.map_nil]); first | done | rfl | (simp only [List.length_drop, List.length_take]; rfl)) ?_; (with_reducible refine (disk_Append.calls kj7 _ _ t282 1 _ _ l1 t287 t290 _ ?side1 ?side2 ?side3 ?side4 A22.out).mono ?_); (case side1 => repeat (first | exact (Kd.S_reads' HO284.out).2.2 | (with_reducible refine Kd.C_alloc ?_ _) | (with_reducible refine Kd.C_drewN ?_ _) | (with_reducible refine Kd.C_drew ?_))); (case side2 => exact (Kd.S_reads' HO284.out).2.1); (case side3 => repeat (first | exact (Kd.C_below HR1.out HB.out) | (with_reducible refine Kd.C_alloc ?_ _) | (with_reducible refine Kd.C_drewN ?_ _) | (with_reducible refine Kd.C_drew ?_))); (case side4 => exact HC1.out); rintro e w26 ⟨v288, rfl, ho0, hb⟩; refine ⟨_, rfl, ?_⟩; have n0_ := aM (Kd.S_elder' (by (with_reducible repeat (first | apply Kd.S_alloc | apply Kd.S_drewN | apply Kd.S_drew)); exact HO284.out) (Kd.S_base ho0) hb); have n1_ := aM (Kd.S_lower (Kd.S_new' ho0 (Kd.S_lt (by (with_reducible repeat (first | apply Kd.S_alloc | apply Kd.S_drewN | apply Kd.S_drew)); exact HO284.out))) (below_size (by repeat (first | (with_reducible first | exact HB.out | apply wA | apply wN | apply wD | refine below_set ?_ (IsS62.ge HI281.out) | refine below_set ?_ GE286.out) | exact HB.out)))); have n2_ := aM (IsS62.below (by repeat (first | (with_reducible first | exact HI281.out | apply IsS62.alloc | apply IsS62.drewN | apply IsS62.drew | apply IsS62.set_1 | refine IsS62.far ?_ NB281_286.out _) | exact HI281.out)) hb); have n3_ := aM (blk_below (g := gb286) (o := .cells #[.slice Ao18 t282.length co18] 24 (0, 0)) (by (with_reducible repeat (first | refine bN ?_ _ | refine bD ?_ | refine bA ?_ _)); exact BK286.out) hb); have n4_ := aM (below_step (by repeat (first | (with_reducible first | exact HB.out | apply wA | apply wN | apply wD | refine below_set ?_ (IsS62.ge HI281.out) | refine below_set ?_ GE286.out) | exact HB.out)) hb); clear HO284; clear HI281; clear BK286; clear HB; have HO284 := n0_; have HO289 := n1_; have HI281 := n2_; have BK286 := n3_; have HB := n4_; clear n0_ n1_ n2_ n3_ n4_; (try clear hb); (try clear hb2); (try clear hk); (try clear hi); (try clear ho0); obtain ⟨Ao27, co27, eo27⟩ := Kd.S_slice HO289.out; subst eo27; have hcz28_0 : w26.cell? ⟨gb286, 0, none⟩ = some (.slice Ao18 t282.length co18) := (blk_cell BK286.out 0).trans rfl; have hfz28_0 := blk_frozen BK286.out 0) | ((with_reducible refine gate_store (t := 24) (p := 8) rfl ?_); refine store_event (t := 24) (p := 8) (v := ?vo_w29) (w1 := (w26.setCell ⟨gb286, 0, none⟩ (.slice Ao27 t287.length co27))) ?hg ?ho ?hn ?hr ?_; (case ho => rfl); (case hg => rfl); (case hn => rfl); (case hr => first | (go_simp; done) | (go_simp; rfl)); intro w29 hw; have n0_ : Aside0 (Kd.S k48 48 w29 w.heap.size (fun k_ => some k_ ≠ (.slice Ao27 t287.length co27 : Value).ownBlock) (.slice Ao18 t282.length co18) t282) := ⟨(by rw [hw]; exact (by (with_reducible repeat (first | apply Kd.S_alloc | apply Kd.S_drewN | apply Kd.S_drew)); exact Kd.S_mono (Kd.S_far (p := ⟨gb286, 0, none⟩) (Kd.S_types HO284.out BK286.out (by decide)) (fun _ hk => hk.2) (.slice Ao27 t287.length co27)) (fun _ hk => hk.1.2)))⟩; have n1_ : Aside0 (Kd.S k48 48 w29 w.heap.size (fun k_ => some k_ ≠ (.slice Ao18 t282.length co18 : Value).ownBlock) (.slice Ao27 t287.length co27) t287) := ⟨(by rw [hw]; exact (by (with_reducible repeat (first | apply Kd.S_alloc | apply Kd.S_drewN | apply Kd.S_drew)); exact Kd.S_mono (Kd.S_far (p := ⟨gb286, 0, none⟩) (Kd.S_types HO289.out BK286.out (by decide)) (fun _ hk => hk.2) (.slice Ao27 t287.length co27)) (fun _ hk => hk.1.2)))⟩; have n2_ : Aside0 (w29.heap[gb286]? = some (.cells #[.slice Ao27 t287.length co27] 24 (0, 0))) := ⟨(by rw [hw]; exact (by (with_reducible repeat (first | refine bN ?_ _ | refine bD ?_ | refine bA ?_ _)); refine blk_put (cs := #[.slice Ao18 t282.length co18]) ?_ 0 _ rfl; (with_reducible repeat (first | refine bN ?_ _ | refine bD ?_ | refine bA ?_ _)); exact BK286.out))⟩; have n3_ : Aside0 (IsS62 w w29 g281 t279 t280) := ⟨(by rw [hw]; exact (by repeat (first | (with_reducible first | exact HI281.out | apply IsS62.alloc | apply IsS62.drewN | apply IsS62.drew | apply IsS62.set_1 | refine IsS62.far ?_ NB281_286.out _) | exact HI281.out)))⟩; have n4_ : Aside0 (Below w.heap.size w w29) := ⟨(by rw [hw]; exact (by repeat (first | (with_reducible first | exact HB.out | apply wA | apply wN | apply wD | refine below_set ?_ (IsS62.ge HI281.out) | refine below_set ?_ GE286.out) | exact HB.out)))⟩; clear hw; clear HO284; clear HO289; clear BK286; clear HI281; clear HB; have HO284 := n0_; have HO289 := n1_; have BK286 := n2_; have HI281 := n3_; have HB := n4_; clear n0_ n1_ n2_ n3_ n4_))
     (try simp only [Act.put, List.setIfInBounds_toArray, List.set_cons_zero, List.set_cons_succ])
     have H := HC23.out
     clear HC23
     replace H := Option.bind_eq_some_iff.mp H
     obtain ⟨⟨t291, t294⟩, A300, H⟩ := H
     replace H : (if t290 = 0 then (rollbacknetlaw10_DiskSafe.j1 kj7 l1 l2 (t294 != 0) t279 t280 t291) else (rollbacknetlaw10_DiskSafe.j1 kj7 l1 l2 true t279 t280 t291)) = some r := H
     have A30 := aM A300
     clear A300
     have HC31 := aM H
     clear H
     have hnb32 := NB286_281.out
     have hnc32 := NB281_286.out
     have hcz33_0 : w29.cell? ⟨gb286, 0, none⟩ = some (.slice Ao27 t287.length co27) := (blk_cell BK286.out 0).trans rfl
     have hfz33_0 := blk_frozen BK286.out 0
     go_upto_region 9 with (first | ((with_reducible refine gate_callee (f := 17) rfl ?_); refine goesL_ (some 44) rfl rfl Try.func17 (by kernel_rfl) rfl #[.agg #[.slice Ao27 t287.length co27], .int .i64 1] rfl (by (try simp only [List.map_toArray, List.map_cons, List.map_nil]); first | done | rfl | (simp only [List.length_drop, List.length_take]; rfl)) ?_; (with_reducible refine (disk_Sync.calls kj7 _ _ t287 1 t291 t294 _ ?side1 ?side2 A30.out).mono ?_); (case side1 => repeat (first | exact (Kd.S_reads' HO289.out).2.2 | (with_reducible refine Kd.C_alloc ?_ _) | (with_reducible refine Kd.C_drewN ?_ _) | (with_reducible refine Kd.C_drew ?_))); (case side2 => exact (Kd.S_reads' HO289.out).2.1); rintro e w34 ⟨v292, rfl, ho0, hb⟩; refine ⟨_, rfl, ?_⟩; have n0_ := aM (Kd.S_elder' (by (with_reducible repeat (first | apply Kd.S_alloc | apply Kd.S_drewN | apply Kd.S_drew)); exact HO284.out) (Kd.S_base ho0) hb); have n1_ := aM (Kd.S_elder' (by (with_reducible repeat (first | apply Kd.S_alloc | apply Kd.S_drewN | apply Kd.S_drew)); exact HO289.out) (Kd.S_base ho0) hb); have n2_ := aM (Kd.S_lower (Kd.S_new' (Kd.S_new' ho0 (Kd.S_lt (by (with_reducible repeat (first | apply Kd.S_alloc | apply Kd.S_drewN | apply Kd.S_drew)); exact HO284.out))) (Kd.S_lt (by (with_reducible repeat (first | apply Kd.S_alloc | apply Kd.S_drewN | apply Kd.S_drew)); exact HO289.out))) (below_size (by repeat (first | (with_reducible first | exact HB.out | apply wA | apply wN | apply wD | refine below_set ?_ (IsS62.ge HI281.out) | refine below_set ?_ GE286.out) | exact HB.out)))); have n3_ := aM (IsS62.below (by repeat (first | (with_reducible first | exact HI281.out | apply IsS62.alloc | apply IsS62.drewN | apply IsS62.drew | apply IsS62.set_1 | refine IsS62.far ?_ NB281_286.out _) | exact HI281.out)) hb); have n4_ := aM (blk_below (g := gb286) (o := .cells #[.slice Ao27 t287.length co27] 24 (0, 0)) (by (with_reducible repeat (first | refine bN ?_ _ | refine bD ?_ | refine bA ?_ _)); exact BK286.out) hb); have n5_ := aM (below_step (by repeat (first | (with_reducible first | exact HB.out | apply wA | apply wN | apply wD | refine below_set ?_ (IsS62.ge HI281.out) | refine below_set ?_ GE286.out) | exact HB.out)) hb); clear HO284; clear HO289; clear HI281; clear BK286; clear HB; have HO284 := n0_; have HO289 := n1_; have HO293 := n2_; have HI281 := n3_; have BK286 := n4_; have HB := n5_; clear n0_ n1_ n2_ n3_ n4_ n5_; (try clear hb); (try clear hb2); (try clear hk); (try clear hi); (try clear ho0)) | ((with_reducible refine gate_dst (N := 11) rfl ?_); (try (refine gate_guard (by rfl) ?_; dsimp only)); refine box_event ?hg (N := 11) ?hd (cs := #[.slice none 0 0]) (t := 24) ?hr ?_; (case hd => rfl); (case hg => rfl); (case hr => first | (go_simp; done) | (go_simp; rfl)); intro gb295 hg w35 hbox hb; have n0_ := aM (Kd.S_below (by (with_reducible repeat (first | apply Kd.S_alloc | apply Kd.S_drewN | apply Kd.S_drew)); exact HO284.out) hb); have n1_ := aM (Kd.S_below (by (with_reducible repeat (first | apply Kd.S_alloc | apply Kd.S_drewN | apply Kd.S_drew)); exact HO289.out) hb); have n2_ := aM (Kd.S_below (by (with_reducible repeat (first | apply Kd.S_alloc | apply Kd.S_drewN | apply Kd.S_drew)); exact HO293.out) hb); have n3_ := aM (IsS62.below (by repeat (first | (with_reducible first | exact HI281.out | apply IsS62.alloc | apply IsS62.drewN | apply IsS62.drew | apply IsS62.set_1 | refine IsS62.far ?_ NB281_286.out _) | exact HI281.out)) hb); have n4_ := aM (blk_below (g := gb286) (o := .cells #[.slice Ao27 t287.length co27] 24 (0, 0)) (by (with_reducible repeat (first | refine bN ?_ _ | refine bD ?_ | refine bA ?_ _)); exact BK286.out) hb); have n5_ := aM (below_step (by repeat (first | (with_reducible first | exact HB.out | apply wA | apply wN | apply wD | refine below_set ?_ (IsS62.ge HI281.out) | refine below_set ?_ GE286.out) | exact HB.out)) hb); have n6_ := aM (hbox); have n7_ := aM ((by rw [hg]; exact (below_size (by repeat (first | (with_reducible first | exact HB.out | apply wA | apply wN | apply wD | refine below_set ?_ (IsS62.ge HI281.out) | refine below_set ?_ GE286.out) | exact HB.out))) : w.heap.size ≤ gb295)); have n8_ := aM ((by rw [hg]; exact (below_size (by repeat (first | (with_reducible first | exact HB.out | apply wA | apply wN | apply wD | refine below_set ?_ (IsS62.ge HI281.out) | refine below_set ?_ GE286.out) | exact HB.out))) : w.heap.size ≤ gb295)); have n9_ := aM ((by rw [hg]; exact Nat.ne_of_lt (blk_lt (g := gb286) (o := .cells #[.slice Ao27 t287.length co27] 24 (0, 0)) (by (with_reducible repeat (first | refine bN ?_ _ | refine bD ?_ | refine bA ?_ _)); exact BK286.out)) : gb286 ≠ gb295)); have n10_ := aM ((by rw [hg]; exact Nat.ne_of_gt (blk_lt (g := gb286) (o := .cells #[.slice Ao27 t287.length co27] 24 (0, 0)) (by (with_reducible repeat (first | refine bN ?_ _ | refine bD ?_ | refine bA ?_ _)); exact BK286.out)) : gb295 ≠ gb286)); have n11_ := aM ((by rw [hg]; exact Nat.ne_of_lt (IsS62.lt (show IsS62 w _ g281 t279 t280 from by repeat (first | (with_reducible first | exact HI281.out | apply IsS62.alloc | apply IsS62.drewN | apply IsS62.drew | apply IsS62.set_1 | refine IsS62.far ?_ NB281_286.out _) | exact HI281.out))) : g281 ≠ gb295)); have n12_ := aM ((by rw [hg]; exact Nat.ne_of_gt (IsS62.lt (show IsS62 w _ g281 t279 t280 from by repeat (first | (with_reducible first | exact HI281.out | apply IsS62.alloc | apply IsS62.drewN | apply IsS62.drew | apply IsS62.set_1 | refine IsS62.far ?_ NB281_286.out _) | exact HI281.out))) : gb295 ≠ g281)); clear HO284; clear HO289; clear HO293; clear HI281; clear BK286; clear HB; have HO284 := n0_; have HO289 := n1_; have HO293 := n2_; have HI281 := n3_; have BK286 := n4_; have HB := n5_; have BK295 := n6_; have GW295 := n7_; have GE295 := n8_; have NB286_295 := n9_; have NB295_286 := n10_; have NB281_295 := n11_; have NB295_281 := n12_; clear n0_ n1_ n2_ n3_ n4_ n5_ n6_ n7_ n8_ n9_ n10_ n11_ n12_; clear hb hbox hg; obtain ⟨Ao36, co36, eo36⟩ := Kd.S_slice HO293.out; subst eo36; have hnb37 := NB295_286.out; have hnc37 := NB286_295.out; have hnb38 := NB295_281.out; have hnc38 := NB281_295.out; have hcz39_0 : w35.cell? ⟨gb295, 0, none⟩ = some (.slice none 0 0) := (blk_cell BK295.out 0).trans rfl; have hfz39_0 := blk_frozen BK295.out 0) | ((with_reducible refine gate_store (t := 24) (p := 11) rfl ?_); refine store_event (t := 24) (p := 11) (v := ?vo_w40) (w1 := (w35.setCell ⟨gb295, 0, none⟩ (.slice Ao36 t291.length co36))) ?hg ?ho ?hn ?hr ?_; (case ho => rfl); (case hg => rfl); (case hn => rfl); (case hr => first | (go_simp; done) | (go_simp; rfl)); intro w40 hw; have n0_ : Aside0 (Kd.S k48 48 w40 w.heap.size (fun k_ => some k_ ≠ (.slice Ao27 t287.length co27 : Value).ownBlock ∧ some k_ ≠ (.slice Ao36 t291.length co36 : Value).ownBlock) (.slice Ao18 t282.length co18) t282) := ⟨(by rw [hw]; exact (by (with_reducible repeat (first | apply Kd.S_alloc | apply Kd.S_drewN | apply Kd.S_drew)); exact Kd.S_mono (Kd.S_far (p := ⟨gb295, 0, none⟩) (Kd.S_types HO284.out BK295.out (by decide)) (fun _ hk => hk.2) (.slice Ao36 t291.length co36)) (fun _ hk => ⟨hk.1.1, hk.1.2⟩)))⟩; have n1_ : Aside0 (Kd.S k48 48 w40 w.heap.size (fun k_ => some k_ ≠ (.slice Ao18 t282.length co18 : Value).ownBlock ∧ some k_ ≠ (.slice Ao36 t291.length co36 : Value).ownBlock) (.slice Ao27 t287.length co27) t287) := ⟨(by rw [hw]; exact (by (with_reducible repeat (first | apply Kd.S_alloc | apply Kd.S_drewN | apply Kd.S_drew)); exact Kd.S_mono (Kd.S_far (p := ⟨gb295, 0, none⟩) (Kd.S_types HO289.out BK295.out (by decide)) (fun _ hk => hk.2) (.slice Ao36 t291.length co36)) (fun _ hk => ⟨hk.1.1, hk.1.2⟩)))⟩; have n2_ : Aside0 (Kd.S k48 48 w40 w.heap.size (fun k_ => some k_ ≠ (.slice Ao18 t282.length co18 : Value).ownBlock ∧ some k_ ≠ (.slice Ao27 t287.length co27 : Value).ownBlock) (.slice Ao36 t291.length co36) t291) := ⟨(by rw [hw]; exact (by (with_reducible repeat (first | apply Kd.S_alloc | apply Kd.S_drewN | apply Kd.S_drew)); exact Kd.S_mono (Kd.S_far (p := ⟨gb295, 0, none⟩) (Kd.S_types HO293.out BK295.out (by decide)) (fun _ hk => hk.2) (.slice Ao36 t291.length co36)) (fun _ hk => ⟨hk.1.1.2, hk.1.2⟩)))⟩; have n3_ : Aside0 (w40.heap[gb286]? = some (.cells #[.slice Ao27 t287.length co27] 24 (0, 0))) := ⟨(by rw [hw]; exact (by (with_reducible repeat (first | refine bN ?_ _ | refine bD ?_ | refine bA ?_ _)); refine blk_far ?_ NB286_295.out _; (with_reducible repeat (first | refine bN ?_ _ | refine bD ?_ | refine bA ?_ _)); exact BK286.out))⟩; have n4_ : Aside0 (w40.heap[gb295]? = some (.cells #[.slice Ao36 t291.length co36] 24 (0, 0))) := ⟨(by rw [hw]; exact (by (with_reducible repeat (first | refine bN ?_ _ | refine bD ?_ | refine bA ?_ _)); refine blk_put (cs := #[.slice none 0 0]) ?_ 0 _ rfl; (with_reducible repeat (first | refine bN ?_ _ | refine bD ?_ | refine bA ?_ _)); exact BK295.out))⟩; have n5_ : Aside0 (IsS62 w w40 g281 t279 t280) := ⟨(by rw [hw]; exact (by repeat (first | (with_reducible first | exact HI281.out | apply IsS62.alloc | apply IsS62.drewN | apply IsS62.drew | apply IsS62.set_1 | refine IsS62.far ?_ NB281_286.out _ | refine IsS62.far ?_ NB281_295.out _) | exact HI281.out)))⟩; have n6_ : Aside0 (Below w.heap.size w w40) := ⟨(by rw [hw]; exact (by repeat (first | (with_reducible first | exact HB.out | apply wA | apply wN | apply wD | refine below_set ?_ (IsS62.ge HI281.out) | refine below_set ?_ GE286.out | refine below_set ?_ GE295.out) | exact HB.out)))⟩; clear hw; clear HO284; clear HO289; clear HO293; clear BK286; clear BK295; clear HI281; clear HB; have HO284 := n0_; have HO289 := n1_; have HO293 := n2_; have BK286 := n3_; have BK295 := n4_; have HI281 := n5_; have HB := n6_; clear n0_ n1_ n2_ n3_ n4_ n5_ n6_))
     (try simp only [Act.put, List.setIfInBounds_toArray, List.set_cons_zero, List.set_cons_succ])
     have H := HC31.out
     clear HC31
     have HC41 := aM H
     clear H
     go_upto_region 9 with (fail)
     go_cut [52] (fun v52 wc => ∃ (kq : Nat) (x52_40 : Bool), v52 = .bool x52_40 ∧ Aside0 (rollbacknetlaw10_DiskSafe.j1 kq l1 l2 x52_40 t279 t280 t291 = some r) ∧ Aside0 (kq ≤ kj7) ∧ Aside0 (Kd.S k48 48 wc w.heap.size (fun k_ => some k_ ≠ ((.slice Ao36 t291.length co36) : Value).ownBlock) (.slice Ao27 t287.length co27) t287) ∧ Aside0 (Kd.S k48 48 wc w.heap.size (fun k_ => some k_ ≠ ((.slice Ao27 t287.length co27) : Value).ownBlock) (.slice Ao36 t291.length co36) t291) ∧ Aside0 (wc.heap[gb286]? = some (.cells #[(.slice Ao27 t287.length co27)] 24 (0, 0))) ∧ Aside0 (wc.heap[gb295]? = some (.cells #[(.slice Ao36 t291.length co36)] 24 (0, 0))) ∧ Aside0 (IsS62 w wc g281 t279 t280) ∧ Aside0 (Below w.heap.size w wc))
     case first =>
      have H := HC41.out
      clear HC41
      by_cases c42 : t290 = 0
      ·rw [if_pos c42] at H
       have c42b0 : (t290 == 0) = true := beq_iff_eq.mpr c42
       have c42b1 : (t290 != 0) = false := bne_eq_false_iff_eq.mpr c42
       clear c42
       (first | rw [c42b0] | (simp only [i64_w, i32_w]; rw [c42b0]) | skip)
       have H' := aM H
       clear H
       go_wp2
       go_meet
       case rel => exact ⟨_, ((t294 != 0)), (by first | rfl | (simp; done) | (simp [*]; done)), H', ⟨by have := HJ7.out; first | omega | exact Nat.le_refl _⟩, ⟨by (with_reducible repeat (first | apply Kd.S_alloc | apply Kd.S_drewN | apply Kd.S_drew)); exact Kd.S_mono HO289.out (fun _ hk => hk.2)⟩, ⟨by (with_reducible repeat (first | apply Kd.S_alloc | apply Kd.S_drewN | apply Kd.S_drew)); exact Kd.S_mono HO293.out (fun _ hk => hk.2)⟩, ⟨by (with_reducible repeat (first | refine bN ?_ _ | refine bD ?_ | refine bA ?_ _)); exact BK286.out⟩, ⟨by (with_reducible repeat (first | refine bN ?_ _ | refine bD ?_ | refine bA ?_ _)); exact BK295.out⟩, ⟨by repeat (first | (with_reducible first | exact HI281.out | apply IsS62.alloc | apply IsS62.drewN | apply IsS62.drew | apply IsS62.set_1 | refine IsS62.far ?_ NB281_286.out _ | refine IsS62.far ?_ NB281_295.out _) | exact HI281.out)⟩, ⟨by repeat (first | (with_reducible first | exact HB.out | apply wA | apply wN | apply wD | refine below_set ?_ (IsS62.ge HI281.out) | refine below_set ?_ GE286.out | refine below_set ?_ GE295.out) | exact HB.out)⟩⟩
      ·rw [if_neg c42] at H
       have c42b0 : (t290 == 0) = false := beq_eq_false_iff_ne.mpr c42
       have c42b1 : (t290 != 0) = true := bne_iff_ne.mpr c42
       (first | rw [c42b0] | (simp only [i64_w, i32_w]; rw [c42b0]) | skip)
       have H' := aM H
       clear H
       go_wp2
       go_meet
       case rel => exact ⟨_, (true), (by first | rfl | (simp; done) | (simp [*]; done)), H', ⟨by have := HJ7.out; first | omega | exact Nat.le_refl _⟩, ⟨by (with_reducible repeat (first | apply Kd.S_alloc | apply Kd.S_drewN | apply Kd.S_drew)); exact Kd.S_mono HO289.out (fun _ hk => hk.2)⟩, ⟨by (with_reducible repeat (first | apply Kd.S_alloc | apply Kd.S_drewN | apply Kd.S_drew)); exact Kd.S_mono HO293.out (fun _ hk => hk.2)⟩, ⟨by (with_reducible repeat (first | refine bN ?_ _ | refine bD ?_ | refine bA ?_ _)); exact BK286.out⟩, ⟨by (with_reducible repeat (first | refine bN ?_ _ | refine bD ?_ | refine bA ?_ _)); exact BK295.out⟩, ⟨by repeat (first | (with_reducible first | exact HI281.out | apply IsS62.alloc | apply IsS62.drewN | apply IsS62.drew | apply IsS62.set_1 | refine IsS62.far ?_ NB281_286.out _ | refine IsS62.far ?_ NB281_295.out _) | exact HI281.out)⟩, ⟨by repeat (first | (with_reducible first | exact HB.out | apply wA | apply wN | apply wD | refine below_set ?_ (IsS62.ge HI281.out) | refine below_set ?_ GE286.out | refine below_set ?_ GE295.out) | exact HB.out)⟩⟩
     case rest =>
      clear HC41
      try clear c1
      try clear c2
      try clear p2
      try clear c3
      try clear c4
      try clear c5
      try clear c9
      try clear c9b0
      try clear c9b1
      try clear c10
      try clear c13
      try clear c14
      try clear c16
      try clear c17
      try clear c19
      try clear c24
      try clear c32
      try clear c37
      try clear c38
      try clear c42
      try clear c42b0
      try clear c42b1
      try clear hcz20_0
      try clear hcz25_0
      try clear hcz28_0
      try clear hcz33_0
      try clear hcz39_0
      try clear hfz20_0
      try clear hfz25_0
      try clear hfz28_0
      try clear hfz33_0
      try clear hfz39_0
      try clear p2
      obtain ⟨kq, x52_40, rfl, HA, HJ40, HO_287000, HO_296000, BK286, BK295, HI281, HB⟩ := hcut
      cases kq with
      | zero => exact absurd HA.out (by simp [rollbacknetlaw10_DiskSafe.j1])
      | succ kj40 =>
       have H := HA.out
       clear HA
       simp only [rollbacknetlaw10_DiskSafe.j1] at H
       by_cases c43 : x52_40 = true
       ·subst c43
        have H1 : (some false) = some r := by rw [if_pos rfl] at H; exact H
        clear H
        have H := H1
        clear H1
        obtain rfl := Option.some.inj H
        go_wp2
        go_ret
        exact ⟨by first | rfl | (simp [errW_none, errW_some] <;> rfl) | (simp [*, errW_none, errW_some] <;> rfl), by repeat (first | (with_reducible first | exact HB.out | apply wA | apply wN | apply wD | refine below_set ?_ (IsS62.ge HI281.out) | refine below_set ?_ GE286.out | refine below_set ?_ GE295.out) | exact HB.out)⟩
       ·replace c43 := Bool.eq_false_iff.mpr c43
        subst c43
        have H1 : ((rollbacknetlaw10_tears.f kj40 t279 t280 2).bind fun bt296 => ((disk_Crash.f kj40 t291 bt296.1).bind fun t300 => ((disk_Read.f t300 1).bind fun bt303 => ((disk_Append.f kj40 t291 1 l2).bind fun bt307 => ((disk_Crash.f kj40 bt307.1 bt296.1).bind fun t311 => ((disk_Read.f t311 1).bind fun bt315 => ((rollbacknetlaw10_tears.f kj40 t279 bt296.2 2).bind fun bt319 => ((disk_Crash.f kj40 t311 bt319.1).bind fun t323 => ((disk_Read.f t323 1).bind fun bt326 => (if bt307.2 = 0 then (if bt315.2 = 0 then ((rollbacknetref08_SameBytes.f kj40 bt303.1 l1).bind fun t330 => (if t330 = true then (if (bt315.1.length : Int) ≥ (l1.length : Int) then (if (bt315.1.length : Int) ≤ (wrap64 ((l1.length : Int) + (l2.length : Int))) then (if 0 ≤ (l1.length : Int) then (if (l1.length : Int) ≤ (bt315.1.length : Int) then ((rollbacknetref08_SameBytes.f kj40 (bt315.1.take ((l1.length : Int) : Int).toNat) l1).bind fun t335 => (if t335 = true then ((rollbacknetref08_SameBytes.f kj40 bt315.1 bt326.1).bind fun t336 => (some t336)) else (some false))) else (none)) else (none)) else (some false)) else (some false)) else (some false))) else (some false)) else (some false))))))))))) = some r := by rw [if_neg (show ¬ (false = true) by decide)] at H; exact H
        clear H
        have H := H1
        clear H1
        replace H := Option.bind_eq_some_iff.mp H
        obtain ⟨⟨t296, t299⟩, A440, H⟩ := H
        replace H : ((disk_Crash.f kj40 t291 t296).bind fun t300 => ((disk_Read.f t300 1).bind fun bt303 => ((disk_Append.f kj40 t291 1 l2).bind fun bt307 => ((disk_Crash.f kj40 bt307.1 t296).bind fun t311 => ((disk_Read.f t311 1).bind fun bt315 => ((rollbacknetlaw10_tears.f kj40 t279 t299 2).bind fun bt319 => ((disk_Crash.f kj40 t311 bt319.1).bind fun t323 => ((disk_Read.f t323 1).bind fun bt326 => (if bt307.2 = 0 then (if bt315.2 = 0 then ((rollbacknetref08_SameBytes.f kj40 bt303.1 l1).bind fun t330 => (if t330 = true then (if (bt315.1.length : Int) ≥ (l1.length : Int) then (if (bt315.1.length : Int) ≤ (wrap64 ((l1.length : Int) + (l2.length : Int))) then (if 0 ≤ (l1.length : Int) then (if (l1.length : Int) ≤ (bt315.1.length : Int) then ((rollbacknetref08_SameBytes.f kj40 (bt315.1.take ((l1.length : Int) : Int).toNat) l1).bind fun t335 => (if t335 = true then ((rollbacknetref08_SameBytes.f kj40 bt315.1 bt326.1).bind fun t336 => (some t336)) else (some false))) else (none)) else (none)) else (some false)) else (some false)) else (some false))) else (some false)) else (some false)))))))))) = some r := H
        have A44 := aM A440
        clear A440
        have HC45 := aM H
        clear H
        go_upto_region 12 with (first | ((with_reducible refine gate_callee (f := 18) rfl ?_); refine goesL_ (some 54) rfl rfl Try.func18 (by kernel_rfl) rfl #[.pointer (some ⟨g281, 0, none⟩), .int .i64 2] rfl (by (try simp only [List.map_toArray, List.map_cons, List.map_nil]); first | done | rfl | (simp only [List.length_drop, List.length_take]; rfl)) ?_; (with_reducible refine (rollbacknetlaw10_tears.calls kj40 g281 t279 t280 2 t296 t299 w _ ?side1 ?side2 A44.out).mono ?_); (case side1 => repeat (first | (with_reducible first | exact HI281.out | apply IsS62.alloc | apply IsS62.drewN | apply IsS62.drew | apply IsS62.set_1 | refine IsS62.far ?_ NB281_286.out _ | refine IsS62.far ?_ NB281_295.out _) | exact HI281.out)); (case side2 => repeat (first | (with_reducible first | exact HB.out | apply wA | apply wN | apply wD | refine below_set ?_ (IsS62.ge HI281.out) | refine below_set ?_ GE286.out | refine below_set ?_ GE295.out) | exact HB.out)); rintro e w46 ⟨v297, rfl, ho0, hi, hb, hk⟩; refine ⟨_, rfl, ?_⟩; have n0_ := aM (Kd.S_mono (Kd.S_keep (IsS62.apartS (show IsS62 w _ g281 t279 t280 from by repeat (first | (with_reducible first | exact HI281.out | apply IsS62.alloc | apply IsS62.drewN | apply IsS62.drew | apply IsS62.set_1 | refine IsS62.far ?_ NB281_286.out _ | refine IsS62.far ?_ NB281_295.out _) | exact HI281.out)) (by (with_reducible repeat (first | apply Kd.S_alloc | apply Kd.S_drewN | apply Kd.S_drew)); exact HO_287000.out) (by decide)) hk (fun _ h => h.2)) (fun _ h => h.1)); have n1_ := aM (Kd.S_mono (Kd.S_keep (IsS62.apartS (show IsS62 w _ g281 t279 t280 from by repeat (first | (with_reducible first | exact HI281.out | apply IsS62.alloc | apply IsS62.drewN | apply IsS62.drew | apply IsS62.set_1 | refine IsS62.far ?_ NB281_286.out _ | refine IsS62.far ?_ NB281_295.out _) | exact HI281.out)) (by (with_reducible repeat (first | apply Kd.S_alloc | apply Kd.S_drewN | apply Kd.S_drew)); exact HO_296000.out) (by decide)) hk (fun _ h => h.2)) (fun _ h => h.1)); have n2_ := aM (KeepBut.blk hk (g' := gb286) (o := .cells #[.slice Ao27 t287.length co27] 24 (0, 0)) (by (with_reducible repeat (first | refine bN ?_ _ | refine bD ?_ | refine bA ?_ _)); exact BK286.out) NB286_281.out (by simp)); have n3_ := aM (KeepBut.blk hk (g' := gb295) (o := .cells #[.slice Ao36 t291.length co36] 24 (0, 0)) (by (with_reducible repeat (first | refine bN ?_ _ | refine bD ?_ | refine bA ?_ _)); exact BK295.out) NB295_281.out (by simp)); have n4_ := aM (Kd.S_lower ho0 (below_size (by repeat (first | (with_reducible first | exact HB.out | apply wA | apply wN | apply wD | refine below_set ?_ (IsS62.ge HI281.out) | refine below_set ?_ GE286.out | refine below_set ?_ GE295.out) | exact HB.out)))); have n5_ := aM (hb); have n6_ := aM (hi); clear HO_287000; clear HO_296000; clear BK286; clear BK295; clear HB; clear HI281; have HO_287000 := n0_; have HO_296000 := n1_; have BK286 := n2_; have BK295 := n3_; have HO298 := n4_; have HB := n5_; have HI281 := n6_; clear n0_ n1_ n2_ n3_ n4_ n5_ n6_; (try clear hb); (try clear hb2); (try clear hk); (try clear hi); (try clear ho0)))
        (try simp only [Act.put, List.setIfInBounds_toArray, List.set_cons_zero, List.set_cons_succ])
        have H := HC45.out
        clear HC45
        replace H := Option.bind_eq_some_iff.mp H
        obtain ⟨t300, A470, H⟩ := H
        replace H : ((disk_Read.f t300 1).bind fun bt303 => ((disk_Append.f kj40 t291 1 l2).bind fun bt307 => ((disk_Crash.f kj40 bt307.1 t296).bind fun t311 => ((disk_Read.f t311 1).bind fun bt315 => ((rollbacknetlaw10_tears.f kj40 t279 t299 2).bind fun bt319 => ((disk_Crash.f kj40 t311 bt319.1).bind fun t323 => ((disk_Read.f t323 1).bind fun bt326 => (if bt307.2 = 0 then (if bt315.2 = 0 then ((rollbacknetref08_SameBytes.f kj40 bt303.1 l1).bind fun t330 => (if t330 = true then (if (bt315.1.length : Int) ≥ (l1.length : Int) then (if (bt315.1.length : Int) ≤ (wrap64 ((l1.length : Int) + (l2.length : Int))) then (if 0 ≤ (l1.length : Int) then (if (l1.length : Int) ≤ (bt315.1.length : Int) then ((rollbacknetref08_SameBytes.f kj40 (bt315.1.take ((l1.length : Int) : Int).toNat) l1).bind fun t335 => (if t335 = true then ((rollbacknetref08_SameBytes.f kj40 bt315.1 bt326.1).bind fun t336 => (some t336)) else (some false))) else (none)) else (none)) else (some false)) else (some false)) else (some false))) else (some false)) else (some false))))))))) = some r := H
        have A47 := aM A470
        clear A470
        replace H := Option.bind_eq_some_iff.mp H
        obtain ⟨⟨t303, t306⟩, A480, H⟩ := H
        replace H : ((disk_Append.f kj40 t291 1 l2).bind fun bt307 => ((disk_Crash.f kj40 bt307.1 t296).bind fun t311 => ((disk_Read.f t311 1).bind fun bt315 => ((rollbacknetlaw10_tears.f kj40 t279 t299 2).bind fun bt319 => ((disk_Crash.f kj40 t311 bt319.1).bind fun t323 => ((disk_Read.f t323 1).bind fun bt326 => (if bt307.2 = 0 then (if bt315.2 = 0 then ((rollbacknetref08_SameBytes.f kj40 t303 l1).bind fun t330 => (if t330 = true then (if (bt315.1.length : Int) ≥ (l1.length : Int) then (if (bt315.1.length : Int) ≤ (wrap64 ((l1.length : Int) + (l2.length : Int))) then (if 0 ≤ (l1.length : Int) then (if (l1.length : Int) ≤ (bt315.1.length : Int) then ((rollbacknetref08_SameBytes.f kj40 (bt315.1.take ((l1.length : Int) : Int).toNat) l1).bind fun t335 => (if t335 = true then ((rollbacknetref08_SameBytes.f kj40 bt315.1 bt326.1).bind fun t336 => (some t336)) else (some false))) else (none)) else (none)) else (some false)) else (some false)) else (some false))) else (some false)) else (some false)))))))) = some r := H
        have A48 := aM A480
        clear A480
        have HC49 := aM H
        clear H
        have hnb50 := NB295_286.out
        have hnc50 := NB286_295.out
        have hnb51 := NB295_281.out
        have hnc51 := NB281_295.out
        have hcz52_0 : w46.cell? ⟨gb295, 0, none⟩ = some (.slice Ao36 t291.length co36) := (blk_cell BK295.out 0).trans rfl
        have hfz52_0 := blk_frozen BK295.out 0
        obtain ⟨Ao53, co53, eo53⟩ := Kd.S_slice HO298.out
        subst eo53
        go_upto_region 13 with (first | ((with_reducible refine gate_callee (f := 11) rfl ?_); refine goesL_ (some 58) rfl rfl Try.func11 (by kernel_rfl) rfl #[.agg #[.slice Ao36 t291.length co36], .slice Ao53 t296.length co53] rfl (by (try simp only [List.map_toArray, List.map_cons, List.map_nil]); first | done | rfl | (simp only [List.length_drop, List.length_take]; rfl)) ?_; (with_reducible refine (disk_Crash.calls kj40 _ _ t291 _ _ t296 t300 _ ?side1 ?side2 ?side3 ?side4 A47.out).mono ?_); (case side1 => repeat (first | exact (Kd.S_reads' HO_296000.out).2.2 | (with_reducible refine Kd.C_alloc ?_ _) | (with_reducible refine Kd.C_drewN ?_ _) | (with_reducible refine Kd.C_drew ?_))); (case side2 => exact (Kd.S_reads' HO_296000.out).2.1); (case side3 => repeat (first | exact (Kd.S_reads' HO298.out).2.2 | (with_reducible refine Kd.C_alloc ?_ _) | (with_reducible refine Kd.C_drewN ?_ _) | (with_reducible refine Kd.C_drew ?_))); (case side4 => exact (Kd.S_reads' HO298.out).2.1); rintro e w54 ⟨v301, rfl, ho0, hb⟩; refine ⟨_, rfl, ?_⟩; have n0_ := aM (Kd.S_elder' (by (with_reducible repeat (first | apply Kd.S_alloc | apply Kd.S_drewN | apply Kd.S_drew)); exact HO_287000.out) (Kd.S_base ho0) hb); have n1_ := aM (Kd.S_elder' (by (with_reducible repeat (first | apply Kd.S_alloc | apply Kd.S_drewN | apply Kd.S_drew)); exact HO_296000.out) (Kd.S_base ho0) hb); have n2_ := aM (Kd.S_below (by (with_reducible repeat (first | apply Kd.S_alloc | apply Kd.S_drewN | apply Kd.S_drew)); exact HO298.out) hb); have n3_ := aM (Kd.S_lower (Kd.S_new' (Kd.S_new' ho0 (Kd.S_lt (by (with_reducible repeat (first | apply Kd.S_alloc | apply Kd.S_drewN | apply Kd.S_drew)); exact HO_287000.out))) (Kd.S_lt (by (with_reducible repeat (first | apply Kd.S_alloc | apply Kd.S_drewN | apply Kd.S_drew)); exact HO_296000.out))) (below_size (by repeat (first | (with_reducible first | exact HB.out | apply wA | apply wN | apply wD | refine below_set ?_ (IsS62.ge HI281.out) | refine below_set ?_ GE286.out | refine below_set ?_ GE295.out) | exact HB.out)))); have n4_ := aM (blk_below (g := gb286) (o := .cells #[.slice Ao27 t287.length co27] 24 (0, 0)) (by (with_reducible repeat (first | refine bN ?_ _ | refine bD ?_ | refine bA ?_ _)); exact BK286.out) hb); have n5_ := aM (blk_below (g := gb295) (o := .cells #[.slice Ao36 t291.length co36] 24 (0, 0)) (by (with_reducible repeat (first | refine bN ?_ _ | refine bD ?_ | refine bA ?_ _)); exact BK295.out) hb); have n6_ := aM (IsS62.below (by repeat (first | (with_reducible first | exact HI281.out | apply IsS62.alloc | apply IsS62.drewN | apply IsS62.drew | apply IsS62.set_1 | refine IsS62.far ?_ NB281_286.out _ | refine IsS62.far ?_ NB281_295.out _) | exact HI281.out)) hb); have n7_ := aM (below_step (by repeat (first | (with_reducible first | exact HB.out | apply wA | apply wN | apply wD | refine below_set ?_ (IsS62.ge HI281.out) | refine below_set ?_ GE286.out | refine below_set ?_ GE295.out) | exact HB.out)) hb); clear HO_287000; clear HO_296000; clear HO298; clear BK286; clear BK295; clear HI281; clear HB; have HO_287000 := n0_; have HO_296000 := n1_; have HO298 := n2_; have HO302 := n3_; have BK286 := n4_; have BK295 := n5_; have HI281 := n6_; have HB := n7_; clear n0_ n1_ n2_ n3_ n4_ n5_ n6_ n7_; (try clear hb); (try clear hb2); (try clear hk); (try clear hi); (try clear ho0); obtain ⟨Ao55, co55, eo55⟩ := Kd.S_slice HO302.out; subst eo55) | ((with_reducible refine gate_callee (f := 15) rfl ?_); refine goesL_ (some 59) rfl rfl Try.func15 (by kernel_rfl) rfl #[.agg #[.slice Ao55 t300.length co55], .int .i64 1] rfl (by (try simp only [List.map_toArray, List.map_cons, List.map_nil]); first | done | rfl | (simp only [List.length_drop, List.length_take]; rfl)) ?_; (with_reducible refine (disk_Read.calls (fun k_ => ((((((True ∧ some k_ ≠ (.slice Ao27 t287.length co27 : Value).ownBlock) ∧ some k_ ≠ (.slice Ao36 t291.length co36 : Value).ownBlock) ∧ some k_ ≠ (.slice Ao53 t296.length co53 : Value).ownBlock) ∧ k_ ≠ gb286) ∧ k_ ≠ gb295) ∧ k_ ≠ g281)) _ _ t300 1 t303 t306 _ ?side1 A48.out).mono ?_); (case side1 => exact Kd.S_V (IsS62.apartS HI281.out (Kd.S_types (Kd.S_types (Kd.S_apart' (HO302.out) (Kd.S_typed HO298.out) (by decide)) BK286.out (by decide)) BK295.out (by decide)) (by decide))); rintro e w56 ⟨v304, rfl, ho0, hb⟩; refine ⟨_, rfl, ?_⟩; have n0_ := aM (Kd.S_elder' (by (with_reducible repeat (first | apply Kd.S_alloc | apply Kd.S_drewN | apply Kd.S_drew)); exact HO_287000.out) (Kd.R_base ho0) hb); have n1_ := aM (Kd.S_elder' (by (with_reducible repeat (first | apply Kd.S_alloc | apply Kd.S_drewN | apply Kd.S_drew)); exact HO_296000.out) (Kd.R_base ho0) hb); have n2_ := aM (Kd.S_below (by (with_reducible repeat (first | apply Kd.S_alloc | apply Kd.S_drewN | apply Kd.S_drew)); exact HO298.out) hb); have n3_ := aM (Kd.S_elder' (by (with_reducible repeat (first | apply Kd.S_alloc | apply Kd.S_drewN | apply Kd.S_drew)); exact HO302.out) (Kd.R_base ho0) hb); have n4_ := aM (Kd.R_lower (Kd.R_mono (ok' := fun k_ => True) ho0 (fun _ hk_ => trivial)) (below_size (by repeat (first | (with_reducible first | exact HB.out | apply wA | apply wN | apply wD | refine below_set ?_ (IsS62.ge HI281.out) | refine below_set ?_ GE286.out | refine below_set ?_ GE295.out) | exact HB.out)))); have n5_ := aM (blk_below (g := gb286) (o := .cells #[.slice Ao27 t287.length co27] 24 (0, 0)) (by (with_reducible repeat (first | refine bN ?_ _ | refine bD ?_ | refine bA ?_ _)); exact BK286.out) hb); have n6_ := aM (blk_below (g := gb295) (o := .cells #[.slice Ao36 t291.length co36] 24 (0, 0)) (by (with_reducible repeat (first | refine bN ?_ _ | refine bD ?_ | refine bA ?_ _)); exact BK295.out) hb); have n7_ := aM (IsS62.below (by repeat (first | (with_reducible first | exact HI281.out | apply IsS62.alloc | apply IsS62.drewN | apply IsS62.drew | apply IsS62.set_1 | refine IsS62.far ?_ NB281_286.out _ | refine IsS62.far ?_ NB281_295.out _) | exact HI281.out)) hb); have n8_ := aM (below_step (by repeat (first | (with_reducible first | exact HB.out | apply wA | apply wN | apply wD | refine below_set ?_ (IsS62.ge HI281.out) | refine below_set ?_ GE286.out | refine below_set ?_ GE295.out) | exact HB.out)) hb); clear HO_287000; clear HO_296000; clear HO298; clear HO302; clear BK286; clear BK295; clear HI281; clear HB; have HO_287000 := n0_; have HO_296000 := n1_; have HO298 := n2_; have HO302 := n3_; have HO305 := n4_; have BK286 := n5_; have BK295 := n6_; have HI281 := n7_; have HB := n8_; clear n0_ n1_ n2_ n3_ n4_ n5_ n6_ n7_ n8_; (try clear hb); (try clear hb2); (try clear hk); (try clear hi); (try clear ho0)))
        (try simp only [Act.put, List.setIfInBounds_toArray, List.set_cons_zero, List.set_cons_succ])
        have H := HC49.out
        clear HC49
        replace H := Option.bind_eq_some_iff.mp H
        obtain ⟨⟨t307, t310⟩, A570, H⟩ := H
        replace H : ((disk_Crash.f kj40 t307 t296).bind fun t311 => ((disk_Read.f t311 1).bind fun bt315 => ((rollbacknetlaw10_tears.f kj40 t279 t299 2).bind fun bt319 => ((disk_Crash.f kj40 t311 bt319.1).bind fun t323 => ((disk_Read.f t323 1).bind fun bt326 => (if t310 = 0 then (if bt315.2 = 0 then ((rollbacknetref08_SameBytes.f kj40 t303 l1).bind fun t330 => (if t330 = true then (if (bt315.1.length : Int) ≥ (l1.length : Int) then (if (bt315.1.length : Int) ≤ (wrap64 ((l1.length : Int) + (l2.length : Int))) then (if 0 ≤ (l1.length : Int) then (if (l1.length : Int) ≤ (bt315.1.length : Int) then ((rollbacknetref08_SameBytes.f kj40 (bt315.1.take ((l1.length : Int) : Int).toNat) l1).bind fun t335 => (if t335 = true then ((rollbacknetref08_SameBytes.f kj40 bt315.1 bt326.1).bind fun t336 => (some t336)) else (some false))) else (none)) else (none)) else (some false)) else (some false)) else (some false))) else (some false)) else (some false))))))) = some r := H
        have A57 := aM A570
        clear A570
        have HC58 := aM H
        clear H
        have hnb59 := NB295_286.out
        have hnc59 := NB286_295.out
        have hnb60 := NB295_281.out
        have hnc60 := NB281_295.out
        have hcz61_0 : w56.cell? ⟨gb295, 0, none⟩ = some (.slice Ao36 t291.length co36) := (blk_cell BK295.out 0).trans rfl
        have hfz61_0 := blk_frozen BK295.out 0
        go_upto_region 14 with (first | ((with_reducible refine gate_callee (f := 14) rfl ?_); refine goesL_ (some 65) rfl rfl Try.func14 (by kernel_rfl) rfl #[.agg #[.slice Ao36 t291.length co36], .int .i64 1, .slice A2 l2.length c2] rfl (by (try simp only [List.map_toArray, List.map_cons, List.map_nil]); first | done | rfl | (simp only [List.length_drop, List.length_take]; rfl)) ?_; (with_reducible refine (disk_Append.calls kj40 _ _ t291 1 _ _ l2 t307 t310 _ ?side1 ?side2 ?side3 ?side4 A57.out).mono ?_); (case side1 => repeat (first | exact (Kd.S_reads' HO_296000.out).2.2 | (with_reducible refine Kd.C_alloc ?_ _) | (with_reducible refine Kd.C_drewN ?_ _) | (with_reducible refine Kd.C_drew ?_))); (case side2 => exact (Kd.S_reads' HO_296000.out).2.1); (case side3 => repeat (first | exact (Kd.C_below HR2.out HB.out) | (with_reducible refine Kd.C_alloc ?_ _) | (with_reducible refine Kd.C_drewN ?_ _) | (with_reducible refine Kd.C_drew ?_))); (case side4 => exact HC2.out); rintro e w62 ⟨v308, rfl, ho0, hb⟩; refine ⟨_, rfl, ?_⟩; have n0_ := aM (Kd.S_elder' (by (with_reducible repeat (first | apply Kd.S_alloc | apply Kd.S_drewN | apply Kd.S_drew)); exact HO_287000.out) (Kd.S_base ho0) hb); have n1_ := aM (Kd.S_elder' (by (with_reducible repeat (first | apply Kd.S_alloc | apply Kd.S_drewN | apply Kd.S_drew)); exact HO_296000.out) (Kd.S_base ho0) hb); have n2_ := aM (Kd.S_below (by (with_reducible repeat (first | apply Kd.S_alloc | apply Kd.S_drewN | apply Kd.S_drew)); exact HO298.out) hb); have n3_ := aM (Kd.S_elder' (by (with_reducible repeat (first | apply Kd.S_alloc | apply Kd.S_drewN | apply Kd.S_drew)); exact HO302.out) (Kd.S_base ho0) hb); have n4_ := aM (Kd.R_below (by (with_reducible repeat (first | apply Kd.R_alloc | apply Kd.R_drewN | apply Kd.R_drew)); exact HO305.out) hb); have n5_ := aM (Kd.S_lower (Kd.S_new' (Kd.S_new' (Kd.S_new' (Kd.S_new' ho0 (Kd.S_lt (by (with_reducible repeat (first | apply Kd.S_alloc | apply Kd.S_drewN | apply Kd.S_drew)); exact HO_287000.out))) (Kd.S_lt (by (with_reducible repeat (first | apply Kd.S_alloc | apply Kd.S_drewN | apply Kd.S_drew)); exact HO_296000.out))) (Kd.S_lt (by (with_reducible repeat (first | apply Kd.S_alloc | apply Kd.S_drewN | apply Kd.S_drew)); exact HO302.out))) (Kd.R_lt (by (with_reducible repeat (first | apply Kd.R_alloc | apply Kd.R_drewN | apply Kd.R_drew)); exact HO305.out))) (below_size (by repeat (first | (with_reducible first | exact HB.out | apply wA | apply wN | apply wD | refine below_set ?_ (IsS62.ge HI281.out) | refine below_set ?_ GE286.out | refine below_set ?_ GE295.out) | exact HB.out)))); have n6_ := aM (blk_below (g := gb286) (o := .cells #[.slice Ao27 t287.length co27] 24 (0, 0)) (by (with_reducible repeat (first | refine bN ?_ _ | refine bD ?_ | refine bA ?_ _)); exact BK286.out) hb); have n7_ := aM (blk_below (g := gb295) (o := .cells #[.slice Ao36 t291.length co36] 24 (0, 0)) (by (with_reducible repeat (first | refine bN ?_ _ | refine bD ?_ | refine bA ?_ _)); exact BK295.out) hb); have n8_ := aM (IsS62.below (by repeat (first | (with_reducible first | exact HI281.out | apply IsS62.alloc | apply IsS62.drewN | apply IsS62.drew | apply IsS62.set_1 | refine IsS62.far ?_ NB281_286.out _ | refine IsS62.far ?_ NB281_295.out _) | exact HI281.out)) hb); have n9_ := aM (below_step (by repeat (first | (with_reducible first | exact HB.out | apply wA | apply wN | apply wD | refine below_set ?_ (IsS62.ge HI281.out) | refine below_set ?_ GE286.out | refine below_set ?_ GE295.out) | exact HB.out)) hb); clear HO_287000; clear HO_296000; clear HO298; clear HO302; clear HO305; clear BK286; clear BK295; clear HI281; clear HB; have HO_287000 := n0_; have HO_296000 := n1_; have HO298 := n2_; have HO302 := n3_; have HO305 := n4_; have HO309 := n5_; have BK286 := n6_; have BK295 := n7_; have HI281 := n8_; have HB := n9_; clear n0_ n1_ n2_ n3_ n4_ n5_ n6_ n7_ n8_ n9_; (try clear hb); (try clear hb2); (try clear hk); (try clear hi); (try clear ho0); obtain ⟨Ao63, co63, eo63⟩ := Kd.S_slice HO309.out; subst eo63; have hnb64 := NB286_281.out; have hnc64 := NB281_286.out; have hcz65_0 : w62.cell? ⟨gb286, 0, none⟩ = some (.slice Ao27 t287.length co27) := (blk_cell BK286.out 0).trans rfl; have hfz65_0 := blk_frozen BK286.out 0) | ((with_reducible refine gate_store (t := 24) (p := 8) rfl ?_); refine store_event (t := 24) (p := 8) (v := ?vo_w66) (w1 := (w62.setCell ⟨gb286, 0, none⟩ (.slice Ao63 t307.length co63))) ?hg ?ho ?hn ?hr ?_; (case ho => rfl); (case hg => rfl); (case hn => rfl); (case hr => first | (go_simp; done) | (go_simp; rfl)); intro w66 hw; have n0_ : Aside0 (Kd.S k48 48 w66 w.heap.size (fun k_ => some k_ ≠ (.slice Ao36 t291.length co36 : Value).ownBlock ∧ some k_ ≠ (.slice Ao55 t300.length co55 : Value).ownBlock ∧ some k_ ≠ (v304 : Value).ownBlock ∧ some k_ ≠ (.slice Ao63 t307.length co63 : Value).ownBlock) (.slice Ao27 t287.length co27) t287) := ⟨(by rw [hw]; exact (by (with_reducible repeat (first | apply Kd.S_alloc | apply Kd.S_drewN | apply Kd.S_drew)); exact Kd.S_mono (Kd.S_far (p := ⟨gb286, 0, none⟩) (Kd.S_types HO_287000.out BK286.out (by decide)) (fun _ hk => hk.2) (.slice Ao63 t307.length co63)) (fun _ hk => ⟨hk.1.1.1.1, ⟨hk.1.1.1.2, ⟨hk.1.1.2, hk.1.2⟩⟩⟩)))⟩; have n1_ : Aside0 (Kd.S k48 48 w66 w.heap.size (fun k_ => some k_ ≠ (.slice Ao27 t287.length co27 : Value).ownBlock ∧ some k_ ≠ (.slice Ao55 t300.length co55 : Value).ownBlock ∧ some k_ ≠ (v304 : Value).ownBlock ∧ some k_ ≠ (.slice Ao63 t307.length co63 : Value).ownBlock) (.slice Ao36 t291.length co36) t291) := ⟨(by rw [hw]; exact (by (with_reducible repeat (first | apply Kd.S_alloc | apply Kd.S_drewN | apply Kd.S_drew)); exact Kd.S_mono (Kd.S_far (p := ⟨gb286, 0, none⟩) (Kd.S_types HO_296000.out BK286.out (by decide)) (fun _ hk => hk.2) (.slice Ao63 t307.length co63)) (fun _ hk => ⟨hk.1.1.1.1, ⟨hk.1.1.1.2, ⟨hk.1.1.2, hk.1.2⟩⟩⟩)))⟩; have n2_ : Aside0 (Kd.S k39 39 w66 w.heap.size (fun _ => True) (.slice Ao53 t296.length co53) t296) := ⟨(by rw [hw]; exact (by (with_reducible repeat (first | apply Kd.S_alloc | apply Kd.S_drewN | apply Kd.S_drew)); exact Kd.S_mono (Kd.S_far (p := ⟨gb286, 0, none⟩) (Kd.S_types HO298.out BK286.out (by decide)) (fun _ hk => hk.2) (.slice Ao63 t307.length co63)) (fun _ hk => trivial)))⟩; have n3_ : Aside0 (Kd.S k48 48 w66 w.heap.size (fun k_ => some k_ ≠ (.slice Ao27 t287.length co27 : Value).ownBlock ∧ some k_ ≠ (.slice Ao36 t291.length co36 : Value).ownBlock ∧ some k_ ≠ (v304 : Value).ownBlock ∧ some k_ ≠ (.slice Ao63 t307.length co63 : Value).ownBlock) (.slice Ao55 t300.length co55) t300) := ⟨(by rw [hw]; exact (by (with_reducible repeat (first | apply Kd.S_alloc | apply Kd.S_drewN | apply Kd.S_drew)); exact Kd.S_mono (Kd.S_far (p := ⟨gb286, 0, none⟩) (Kd.S_types HO302.out BK286.out (by decide)) (fun _ hk => hk.2) (.slice Ao63 t307.length co63)) (fun _ hk => ⟨hk.1.1.1.1.2, ⟨hk.1.1.1.2, ⟨hk.1.1.2, hk.1.2⟩⟩⟩)))⟩; have n4_ : Aside0 (Kd.R (Kd.int .u8) 5 w66 w.heap.size (fun _ => True) v304 t303) := ⟨(by rw [hw]; exact (by (with_reducible repeat (first | apply Kd.R_alloc | apply Kd.R_drewN | apply Kd.R_drew)); exact Kd.R_mono (Kd.R_far (p := ⟨gb286, 0, none⟩) (Kd.R_types HO305.out BK286.out (by decide)) (fun _ hk => hk.2) (.slice Ao63 t307.length co63)) (fun _ hk => trivial)))⟩; have n5_ : Aside0 (Kd.S k48 48 w66 w.heap.size (fun k_ => some k_ ≠ (.slice Ao27 t287.length co27 : Value).ownBlock ∧ some k_ ≠ (.slice Ao36 t291.length co36 : Value).ownBlock ∧ some k_ ≠ (.slice Ao55 t300.length co55 : Value).ownBlock ∧ some k_ ≠ (v304 : Value).ownBlock) (.slice Ao63 t307.length co63) t307) := ⟨(by rw [hw]; exact (by (with_reducible repeat (first | apply Kd.S_alloc | apply Kd.S_drewN | apply Kd.S_drew)); exact Kd.S_mono (Kd.S_far (p := ⟨gb286, 0, none⟩) (Kd.S_types HO309.out BK286.out (by decide)) (fun _ hk => hk.2) (.slice Ao63 t307.length co63)) (fun _ hk => ⟨hk.1.1.1.1.2, ⟨hk.1.1.1.2, ⟨hk.1.1.2, hk.1.2⟩⟩⟩)))⟩; have n6_ : Aside0 (w66.heap[gb286]? = some (.cells #[.slice Ao63 t307.length co63] 24 (0, 0))) := ⟨(by rw [hw]; exact (by (with_reducible repeat (first | refine bN ?_ _ | refine bD ?_ | refine bA ?_ _)); refine blk_put (cs := #[.slice Ao27 t287.length co27]) ?_ 0 _ rfl; (with_reducible repeat (first | refine bN ?_ _ | refine bD ?_ | refine bA ?_ _)); exact BK286.out))⟩; have n7_ : Aside0 (w66.heap[gb295]? = some (.cells #[.slice Ao36 t291.length co36] 24 (0, 0))) := ⟨(by rw [hw]; exact (by (with_reducible repeat (first | refine bN ?_ _ | refine bD ?_ | refine bA ?_ _)); refine blk_far ?_ NB295_286.out _; (with_reducible repeat (first | refine bN ?_ _ | refine bD ?_ | refine bA ?_ _)); exact BK295.out))⟩; have n8_ : Aside0 (IsS62 w w66 g281 t279 t299) := ⟨(by rw [hw]; exact (by repeat (first | (with_reducible first | exact HI281.out | apply IsS62.alloc | apply IsS62.drewN | apply IsS62.drew | apply IsS62.set_1 | refine IsS62.far ?_ NB281_286.out _ | refine IsS62.far ?_ NB281_295.out _) | exact HI281.out)))⟩; have n9_ : Aside0 (Below w.heap.size w w66) := ⟨(by rw [hw]; exact (by repeat (first | (with_reducible first | exact HB.out | apply wA | apply wN | apply wD | refine below_set ?_ (IsS62.ge HI281.out) | refine below_set ?_ GE286.out | refine below_set ?_ GE295.out) | exact HB.out)))⟩; clear hw; clear HO_287000; clear HO_296000; clear HO298; clear HO302; clear HO305; clear HO309; clear BK286; clear BK295; clear HI281; clear HB; have HO_287000 := n0_; have HO_296000 := n1_; have HO298 := n2_; have HO302 := n3_; have HO305 := n4_; have HO309 := n5_; have BK286 := n6_; have BK295 := n7_; have HI281 := n8_; have HB := n9_; clear n0_ n1_ n2_ n3_ n4_ n5_ n6_ n7_ n8_ n9_))
        (try simp only [Act.put, List.setIfInBounds_toArray, List.set_cons_zero, List.set_cons_succ])
        have H := HC58.out
        clear HC58
        replace H := Option.bind_eq_some_iff.mp H
        obtain ⟨t311, A670, H⟩ := H
        replace H : ((disk_Read.f t311 1).bind fun bt315 => ((rollbacknetlaw10_tears.f kj40 t279 t299 2).bind fun bt319 => ((disk_Crash.f kj40 t311 bt319.1).bind fun t323 => ((disk_Read.f t323 1).bind fun bt326 => (if t310 = 0 then (if bt315.2 = 0 then ((rollbacknetref08_SameBytes.f kj40 t303 l1).bind fun t330 => (if t330 = true then (if (bt315.1.length : Int) ≥ (l1.length : Int) then (if (bt315.1.length : Int) ≤ (wrap64 ((l1.length : Int) + (l2.length : Int))) then (if 0 ≤ (l1.length : Int) then (if (l1.length : Int) ≤ (bt315.1.length : Int) then ((rollbacknetref08_SameBytes.f kj40 (bt315.1.take ((l1.length : Int) : Int).toNat) l1).bind fun t335 => (if t335 = true then ((rollbacknetref08_SameBytes.f kj40 bt315.1 bt326.1).bind fun t336 => (some t336)) else (some false))) else (none)) else (none)) else (some false)) else (some false)) else (some false))) else (some false)) else (some false)))))) = some r := H
        have A67 := aM A670
        clear A670
        have HC68 := aM H
        clear H
        have hnb69 := NB286_295.out
        have hnc69 := NB295_286.out
        have hnb70 := NB286_281.out
        have hnc70 := NB281_286.out
        have hcz71_0 : w66.cell? ⟨gb286, 0, none⟩ = some (.slice Ao63 t307.length co63) := (blk_cell BK286.out 0).trans rfl
        have hfz71_0 := blk_frozen BK286.out 0
        go_upto_region 15 with (first | ((with_reducible refine gate_callee (f := 11) rfl ?_); refine goesL_ (some 70) rfl rfl Try.func11 (by kernel_rfl) rfl #[.agg #[.slice Ao63 t307.length co63], .slice Ao53 t296.length co53] rfl (by (try simp only [List.map_toArray, List.map_cons, List.map_nil]); first | done | rfl | (simp only [List.length_drop, List.length_take]; rfl)) ?_; (with_reducible refine (disk_Crash.calls kj40 _ _ t307 _ _ t296 t311 _ ?side1 ?side2 ?side3 ?side4 A67.out).mono ?_); (case side1 => repeat (first | exact (Kd.S_reads' HO309.out).2.2 | (with_reducible refine Kd.C_alloc ?_ _) | (with_reducible refine Kd.C_drewN ?_ _) | (with_reducible refine Kd.C_drew ?_))); (case side2 => exact (Kd.S_reads' HO309.out).2.1); (case side3 => repeat (first | exact (Kd.S_reads' HO298.out).2.2 | (with_reducible refine Kd.C_alloc ?_ _) | (with_reducible refine Kd.C_drewN ?_ _) | (with_reducible refine Kd.C_drew ?_))); (case side4 => exact (Kd.S_reads' HO298.out).2.1); rintro e w72 ⟨v312, rfl, ho0, hb⟩; refine ⟨_, rfl, ?_⟩; have n0_ := aM (Kd.S_elder' (by (with_reducible repeat (first | apply Kd.S_alloc | apply Kd.S_drewN | apply Kd.S_drew)); exact HO_287000.out) (Kd.S_base ho0) hb); have n1_ := aM (Kd.S_elder' (by (with_reducible repeat (first | apply Kd.S_alloc | apply Kd.S_drewN | apply Kd.S_drew)); exact HO_296000.out) (Kd.S_base ho0) hb); have n2_ := aM (Kd.S_below (by (with_reducible repeat (first | apply Kd.S_alloc | apply Kd.S_drewN | apply Kd.S_drew)); exact HO298.out) hb); have n3_ := aM (Kd.S_elder' (by (with_reducible repeat (first | apply Kd.S_alloc | apply Kd.S_drewN | apply Kd.S_drew)); exact HO302.out) (Kd.S_base ho0) hb); have n4_ := aM (Kd.R_below (by (with_reducible repeat (first | apply Kd.R_alloc | apply Kd.R_drewN | apply Kd.R_drew)); exact HO305.out) hb); have n5_ := aM (Kd.S_elder' (by (with_reducible repeat (first | apply Kd.S_alloc | apply Kd.S_drewN | apply Kd.S_drew)); exact HO309.out) (Kd.S_base ho0) hb); have n6_ := aM (Kd.S_lower (Kd.S_new' (Kd.S_new' (Kd.S_new' (Kd.S_new' (Kd.S_new' ho0 (Kd.S_lt (by (with_reducible repeat (first | apply Kd.S_alloc | apply Kd.S_drewN | apply Kd.S_drew)); exact HO_287000.out))) (Kd.S_lt (by (with_reducible repeat (first | apply Kd.S_alloc | apply Kd.S_drewN | apply Kd.S_drew)); exact HO_296000.out))) (Kd.S_lt (by (with_reducible repeat (first | apply Kd.S_alloc | apply Kd.S_drewN | apply Kd.S_drew)); exact HO302.out))) (Kd.R_lt (by (with_reducible repeat (first | apply Kd.R_alloc | apply Kd.R_drewN | apply Kd.R_drew)); exact HO305.out))) (Kd.S_lt (by (with_reducible repeat (first | apply Kd.S_alloc | apply Kd.S_drewN | apply Kd.S_drew)); exact HO309.out))) (below_size (by repeat (first | (with_reducible first | exact HB.out | apply wA | apply wN | apply wD | refine below_set ?_ (IsS62.ge HI281.out) | refine below_set ?_ GE286.out | refine below_set ?_ GE295.out) | exact HB.out)))); have n7_ := aM (blk_below (g := gb286) (o := .cells #[.slice Ao63 t307.length co63] 24 (0, 0)) (by (with_reducible repeat (first | refine bN ?_ _ | refine bD ?_ | refine bA ?_ _)); exact BK286.out) hb); have n8_ := aM (blk_below (g := gb295) (o := .cells #[.slice Ao36 t291.length co36] 24 (0, 0)) (by (with_reducible repeat (first | refine bN ?_ _ | refine bD ?_ | refine bA ?_ _)); exact BK295.out) hb); have n9_ := aM (IsS62.below (by repeat (first | (with_reducible first | exact HI281.out | apply IsS62.alloc | apply IsS62.drewN | apply IsS62.drew | apply IsS62.set_1 | refine IsS62.far ?_ NB281_286.out _ | refine IsS62.far ?_ NB281_295.out _) | exact HI281.out)) hb); have n10_ := aM (below_step (by repeat (first | (with_reducible first | exact HB.out | apply wA | apply wN | apply wD | refine below_set ?_ (IsS62.ge HI281.out) | refine below_set ?_ GE286.out | refine below_set ?_ GE295.out) | exact HB.out)) hb); clear HO_287000; clear HO_296000; clear HO298; clear HO302; clear HO305; clear HO309; clear BK286; clear BK295; clear HI281; clear HB; have HO_287000 := n0_; have HO_296000 := n1_; have HO298 := n2_; have HO302 := n3_; have HO305 := n4_; have HO309 := n5_; have HO313 := n6_; have BK286 := n7_; have BK295 := n8_; have HI281 := n9_; have HB := n10_; clear n0_ n1_ n2_ n3_ n4_ n5_ n6_ n7_ n8_ n9_ n10_; (try clear hb); (try clear hb2); (try clear hk); (try clear hi); (try clear ho0)) | ((with_reducible refine gate_dst (N := 16) rfl ?_); (try (refine gate_guard (by rfl) ?_; dsimp only)); refine box_event ?hg (N := 16) ?hd (cs := #[.slice none 0 0]) (t := 24) ?hr ?_; (case hd => rfl); (case hg => rfl); (case hr => first | (go_simp; done) | (go_simp; rfl)); intro gb314 hg w73 hbox hb; have n0_ := aM (Kd.S_below (by (with_reducible repeat (first | apply Kd.S_alloc | apply Kd.S_drewN | apply Kd.S_drew)); exact HO_287000.out) hb); have n1_ := aM (Kd.S_below (by (with_reducible repeat (first | apply Kd.S_alloc | apply Kd.S_drewN | apply Kd.S_drew)); exact HO_296000.out) hb); have n2_ := aM (Kd.S_below (by (with_reducible repeat (first | apply Kd.S_alloc | apply Kd.S_drewN | apply Kd.S_drew)); exact HO298.out) hb); have n3_ := aM (Kd.S_below (by (with_reducible repeat (first | apply Kd.S_alloc | apply Kd.S_drewN | apply Kd.S_drew)); exact HO302.out) hb); have n4_ := aM (Kd.R_below (by (with_reducible repeat (first | apply Kd.R_alloc | apply Kd.R_drewN | apply Kd.R_drew)); exact HO305.out) hb); have n5_ := aM (Kd.S_below (by (with_reducible repeat (first | apply Kd.S_alloc | apply Kd.S_drewN | apply Kd.S_drew)); exact HO309.out) hb); have n6_ := aM (Kd.S_below (by (with_reducible repeat (first | apply Kd.S_alloc | apply Kd.S_drewN | apply Kd.S_drew)); exact HO313.out) hb); have n7_ := aM (blk_below (g := gb286) (o := .cells #[.slice Ao63 t307.length co63] 24 (0, 0)) (by (with_reducible repeat (first | refine bN ?_ _ | refine bD ?_ | refine bA ?_ _)); exact BK286.out) hb); have n8_ := aM (blk_below (g := gb295) (o := .cells #[.slice Ao36 t291.length co36] 24 (0, 0)) (by (with_reducible repeat (first | refine bN ?_ _ | refine bD ?_ | refine bA ?_ _)); exact BK295.out) hb); have n9_ := aM (IsS62.below (by repeat (first | (with_reducible first | exact HI281.out | apply IsS62.alloc | apply IsS62.drewN | apply IsS62.drew | apply IsS62.set_1 | refine IsS62.far ?_ NB281_286.out _ | refine IsS62.far ?_ NB281_295.out _) | exact HI281.out)) hb); have n10_ := aM (below_step (by repeat (first | (with_reducible first | exact HB.out | apply wA | apply wN | apply wD | refine below_set ?_ (IsS62.ge HI281.out) | refine below_set ?_ GE286.out | refine below_set ?_ GE295.out) | exact HB.out)) hb); have n11_ := aM (hbox); have n12_ := aM ((by rw [hg]; exact (below_size (by repeat (first | (with_reducible first | exact HB.out | apply wA | apply wN | apply wD | refine below_set ?_ (IsS62.ge HI281.out) | refine below_set ?_ GE286.out | refine below_set ?_ GE295.out) | exact HB.out))) : w.heap.size ≤ gb314)); have n13_ := aM ((by rw [hg]; exact (below_size (by repeat (first | (with_reducible first | exact HB.out | apply wA | apply wN | apply wD | refine below_set ?_ (IsS62.ge HI281.out) | refine below_set ?_ GE286.out | refine below_set ?_ GE295.out) | exact HB.out))) : w.heap.size ≤ gb314)); have n14_ := aM ((by rw [hg]; exact Nat.ne_of_lt (blk_lt (g := gb286) (o := .cells #[.slice Ao63 t307.length co63] 24 (0, 0)) (by (with_reducible repeat (first | refine bN ?_ _ | refine bD ?_ | refine bA ?_ _)); exact BK286.out)) : gb286 ≠ gb314)); have n15_ := aM ((by rw [hg]; exact Nat.ne_of_gt (blk_lt (g := gb286) (o := .cells #[.slice Ao63 t307.length co63] 24 (0, 0)) (by (with_reducible repeat (first | refine bN ?_ _ | refine bD ?_ | refine bA ?_ _)); exact BK286.out)) : gb314 ≠ gb286)); have n16_ := aM ((by rw [hg]; exact Nat.ne_of_lt (blk_lt (g := gb295) (o := .cells #[.slice Ao36 t291.length co36] 24 (0, 0)) (by (with_reducible repeat (first | refine bN ?_ _ | refine bD ?_ | refine bA ?_ _)); exact BK295.out)) : gb295 ≠ gb314)); have n17_ := aM ((by rw [hg]; exact Nat.ne_of_gt (blk_lt (g := gb295) (o := .cells #[.slice Ao36 t291.length co36] 24 (0, 0)) (by (with_reducible repeat (first | refine bN ?_ _ | refine bD ?_ | refine bA ?_ _)); exact BK295.out)) : gb314 ≠ gb295)); have n18_ := aM ((by rw [hg]; exact Nat.ne_of_lt (IsS62.lt (show IsS62 w _ g281 t279 t299 from by repeat (first | (with_reducible first | exact HI281.out | apply IsS62.alloc | apply IsS62.drewN | apply IsS62.drew | apply IsS62.set_1 | refine IsS62.far ?_ NB281_286.out _ | refine IsS62.far ?_ NB281_295.out _) | exact HI281.out))) : g281 ≠ gb314)); have n19_ := aM ((by rw [hg]; exact Nat.ne_of_gt (IsS62.lt (show IsS62 w _ g281 t279 t299 from by repeat (first | (with_reducible first | exact HI281.out | apply IsS62.alloc | apply IsS62.drewN | apply IsS62.drew | apply IsS62.set_1 | refine IsS62.far ?_ NB281_286.out _ | refine IsS62.far ?_ NB281_295.out _) | exact HI281.out))) : gb314 ≠ g281)); clear HO_287000; clear HO_296000; clear HO298; clear HO302; clear HO305; clear HO309; clear HO313; clear BK286; clear BK295; clear HI281; clear HB; have HO_287000 := n0_; have HO_296000 := n1_; have HO298 := n2_; have HO302 := n3_; have HO305 := n4_; have HO309 := n5_; have HO313 := n6_; have BK286 := n7_; have BK295 := n8_; have HI281 := n9_; have HB := n10_; have BK314 := n11_; have GW314 := n12_; have GE314 := n13_; have NB286_314 := n14_; have NB314_286 := n15_; have NB295_314 := n16_; have NB314_295 := n17_; have NB281_314 := n18_; have NB314_281 := n19_; clear n0_ n1_ n2_ n3_ n4_ n5_ n6_ n7_ n8_ n9_ n10_ n11_ n12_ n13_ n14_ n15_ n16_ n17_ n18_ n19_; clear hb hbox hg; obtain ⟨Ao74, co74, eo74⟩ := Kd.S_slice HO313.out; subst eo74; have hnb75 := NB314_286.out; have hnc75 := NB286_314.out; have hnb76 := NB314_295.out; have hnc76 := NB295_314.out; have hnb77 := NB314_281.out; have hnc77 := NB281_314.out; have hcz78_0 : w73.cell? ⟨gb314, 0, none⟩ = some (.slice none 0 0) := (blk_cell BK314.out 0).trans rfl; have hfz78_0 := blk_frozen BK314.out 0) | ((with_reducible refine gate_store (t := 24) (p := 16) rfl ?_); refine store_event (t := 24) (p := 16) (v := ?vo_w79) (w1 := (w73.setCell ⟨gb314, 0, none⟩ (.slice Ao74 t311.length co74))) ?hg ?ho ?hn ?hr ?_; (case ho => rfl); (case hg => rfl); (case hn => rfl); (case hr => first | (go_simp; done) | (go_simp; rfl)); intro w79 hw; have n0_ : Aside0 (Kd.S k48 48 w79 w.heap.size (fun k_ => some k_ ≠ (.slice Ao36 t291.length co36 : Value).ownBlock ∧ some k_ ≠ (.slice Ao55 t300.length co55 : Value).ownBlock ∧ some k_ ≠ (v304 : Value).ownBlock ∧ some k_ ≠ (.slice Ao63 t307.length co63 : Value).ownBlock ∧ some k_ ≠ (.slice Ao74 t311.length co74 : Value).ownBlock) (.slice Ao27 t287.length co27) t287) := ⟨(by rw [hw]; exact (by (with_reducible repeat (first | apply Kd.S_alloc | apply Kd.S_drewN | apply Kd.S_drew)); exact Kd.S_mono (Kd.S_far (p := ⟨gb314, 0, none⟩) (Kd.S_types HO_287000.out BK314.out (by decide)) (fun _ hk => hk.2) (.slice Ao74 t311.length co74)) (fun _ hk => ⟨hk.1.1.1, ⟨hk.1.1.2.1, ⟨hk.1.1.2.2.1, ⟨hk.1.1.2.2.2, hk.1.2⟩⟩⟩⟩)))⟩; have n1_ : Aside0 (Kd.S k48 48 w79 w.heap.size (fun k_ => some k_ ≠ (.slice Ao27 t287.length co27 : Value).ownBlock ∧ some k_ ≠ (.slice Ao55 t300.length co55 : Value).ownBlock ∧ some k_ ≠ (v304 : Value).ownBlock ∧ some k_ ≠ (.slice Ao63 t307.length co63 : Value).ownBlock ∧ some k_ ≠ (.slice Ao74 t311.length co74 : Value).ownBlock) (.slice Ao36 t291.length co36) t291) := ⟨(by rw [hw]; exact (by (with_reducible repeat (first | apply Kd.S_alloc | apply Kd.S_drewN | apply Kd.S_drew)); exact Kd.S_mono (Kd.S_far (p := ⟨gb314, 0, none⟩) (Kd.S_types HO_296000.out BK314.out (by decide)) (fun _ hk => hk.2) (.slice Ao74 t311.length co74)) (fun _ hk => ⟨hk.1.1.1, ⟨hk.1.1.2.1, ⟨hk.1.1.2.2.1, ⟨hk.1.1.2.2.2, hk.1.2⟩⟩⟩⟩)))⟩; have n2_ : Aside0 (Kd.S k39 39 w79 w.heap.size (fun _ => True) (.slice Ao53 t296.length co53) t296) := ⟨(by rw [hw]; exact (by (with_reducible repeat (first | apply Kd.S_alloc | apply Kd.S_drewN | apply Kd.S_drew)); exact Kd.S_mono (Kd.S_far (p := ⟨gb314, 0, none⟩) (Kd.S_types HO298.out BK314.out (by decide)) (fun _ hk => hk.2) (.slice Ao74 t311.length co74)) (fun _ hk => trivial)))⟩; have n3_ : Aside0 (Kd.S k48 48 w79 w.heap.size (fun k_ => some k_ ≠ (.slice Ao27 t287.length co27 : Value).ownBlock ∧ some k_ ≠ (.slice Ao36 t291.length co36 : Value).ownBlock ∧ some k_ ≠ (v304 : Value).ownBlock ∧ some k_ ≠ (.slice Ao63 t307.length co63 : Value).ownBlock ∧ some k_ ≠ (.slice Ao74 t311.length co74 : Value).ownBlock) (.slice Ao55 t300.length co55) t300) := ⟨(by rw [hw]; exact (by (with_reducible repeat (first | apply Kd.S_alloc | apply Kd.S_drewN | apply Kd.S_drew)); exact Kd.S_mono (Kd.S_far (p := ⟨gb314, 0, none⟩) (Kd.S_types HO302.out BK314.out (by decide)) (fun _ hk => hk.2) (.slice Ao74 t311.length co74)) (fun _ hk => ⟨hk.1.1.1, ⟨hk.1.1.2.1, ⟨hk.1.1.2.2.1, ⟨hk.1.1.2.2.2, hk.1.2⟩⟩⟩⟩)))⟩; have n4_ : Aside0 (Kd.R (Kd.int .u8) 5 w79 w.heap.size (fun _ => True) v304 t303) := ⟨(by rw [hw]; exact (by (with_reducible repeat (first | apply Kd.R_alloc | apply Kd.R_drewN | apply Kd.R_drew)); exact Kd.R_mono (Kd.R_far (p := ⟨gb314, 0, none⟩) (Kd.R_types HO305.out BK314.out (by decide)) (fun _ hk => hk.2) (.slice Ao74 t311.length co74)) (fun _ hk => trivial)))⟩; have n5_ : Aside0 (Kd.S k48 48 w79 w.heap.size (fun k_ => some k_ ≠ (.slice Ao27 t287.length co27 : Value).ownBlock ∧ some k_ ≠ (.slice Ao36 t291.length co36 : Value).ownBlock ∧ some k_ ≠ (.slice Ao55 t300.length co55 : Value).ownBlock ∧ some k_ ≠ (v304 : Value).ownBlock ∧ some k_ ≠ (.slice Ao74 t311.length co74 : Value).ownBlock) (.slice Ao63 t307.length co63) t307) := ⟨(by rw [hw]; exact (by (with_reducible repeat (first | apply Kd.S_alloc | apply Kd.S_drewN | apply Kd.S_drew)); exact Kd.S_mono (Kd.S_far (p := ⟨gb314, 0, none⟩) (Kd.S_types HO309.out BK314.out (by decide)) (fun _ hk => hk.2) (.slice Ao74 t311.length co74)) (fun _ hk => ⟨hk.1.1.1, ⟨hk.1.1.2.1, ⟨hk.1.1.2.2.1, ⟨hk.1.1.2.2.2, hk.1.2⟩⟩⟩⟩)))⟩; have n6_ : Aside0 (Kd.S k48 48 w79 w.heap.size (fun k_ => some k_ ≠ (.slice Ao27 t287.length co27 : Value).ownBlock ∧ some k_ ≠ (.slice Ao36 t291.length co36 : Value).ownBlock ∧ some k_ ≠ (.slice Ao55 t300.length co55 : Value).ownBlock ∧ some k_ ≠ (v304 : Value).ownBlock ∧ some k_ ≠ (.slice Ao63 t307.length co63 : Value).ownBlock) (.slice Ao74 t311.length co74) t311) := ⟨(by rw [hw]; exact (by (with_reducible repeat (first | apply Kd.S_alloc | apply Kd.S_drewN | apply Kd.S_drew)); exact Kd.S_mono (Kd.S_far (p := ⟨gb314, 0, none⟩) (Kd.S_types HO313.out BK314.out (by decide)) (fun _ hk => hk.2) (.slice Ao74 t311.length co74)) (fun _ hk => ⟨hk.1.1.1.1.1.2, ⟨hk.1.1.1.1.2, ⟨hk.1.1.1.2, ⟨hk.1.1.2, hk.1.2⟩⟩⟩⟩)))⟩; have n7_ : Aside0 (w79.heap[gb286]? = some (.cells #[.slice Ao63 t307.length co63] 24 (0, 0))) := ⟨(by rw [hw]; exact (by (with_reducible repeat (first | refine bN ?_ _ | refine bD ?_ | refine bA ?_ _)); refine blk_far ?_ NB286_314.out _; (with_reducible repeat (first | refine bN ?_ _ | refine bD ?_ | refine bA ?_ _)); exact BK286.out))⟩; have n8_ : Aside0 (w79.heap[gb295]? = some (.cells #[.slice Ao36 t291.length co36] 24 (0, 0))) := ⟨(by rw [hw]; exact (by (with_reducible repeat (first | refine bN ?_ _ | refine bD ?_ | refine bA ?_ _)); refine blk_far ?_ NB295_314.out _; (with_reducible repeat (first | refine bN ?_ _ | refine bD ?_ | refine bA ?_ _)); exact BK295.out))⟩; have n9_ : Aside0 (w79.heap[gb314]? = some (.cells #[.slice Ao74 t311.length co74] 24 (0, 0))) := ⟨(by rw [hw]; exact (by (with_reducible repeat (first | refine bN ?_ _ | refine bD ?_ | refine bA ?_ _)); refine blk_put (cs := #[.slice none 0 0]) ?_ 0 _ rfl; (with_reducible repeat (first | refine bN ?_ _ | refine bD ?_ | refine bA ?_ _)); exact BK314.out))⟩; have n10_ : Aside0 (IsS62 w w79 g281 t279 t299) := ⟨(by rw [hw]; exact (by repeat (first | (with_reducible first | exact HI281.out | apply IsS62.alloc | apply IsS62.drewN | apply IsS62.drew | apply IsS62.set_1 | refine IsS62.far ?_ NB281_286.out _ | refine IsS62.far ?_ NB281_295.out _ | refine IsS62.far ?_ NB281_314.out _) | exact HI281.out)))⟩; have n11_ : Aside0 (Below w.heap.size w w79) := ⟨(by rw [hw]; exact (by repeat (first | (with_reducible first | exact HB.out | apply wA | apply wN | apply wD | refine below_set ?_ (IsS62.ge HI281.out) | refine below_set ?_ GE286.out | refine below_set ?_ GE295.out | refine below_set ?_ GE314.out) | exact HB.out)))⟩; clear hw; clear HO_287000; clear HO_296000; clear HO298; clear HO302; clear HO305; clear HO309; clear HO313; clear BK286; clear BK295; clear BK314; clear HI281; clear HB; have HO_287000 := n0_; have HO_296000 := n1_; have HO298 := n2_; have HO302 := n3_; have HO305 := n4_; have HO309 := n5_; have HO313 := n6_; have BK286 := n7_; have BK295 := n8_; have BK314 := n9_; have HI281 := n10_; have HB := n11_; clear n0_ n1_ n2_ n3_ n4_ n5_ n6_ n7_ n8_ n9_ n10_ n11_))
        (try simp only [Act.put, List.setIfInBounds_toArray, List.set_cons_zero, List.set_cons_succ])
        have H := HC68.out
        clear HC68
        replace H := Option.bind_eq_some_iff.mp H
        obtain ⟨⟨t315, t318⟩, A800, H⟩ := H
        replace H : ((rollbacknetlaw10_tears.f kj40 t279 t299 2).bind fun bt319 => ((disk_Crash.f kj40 t311 bt319.1).bind fun t323 => ((disk_Read.f t323 1).bind fun bt326 => (if t310 = 0 then (if t318 = 0 then ((rollbacknetref08_SameBytes.f kj40 t303 l1).bind fun t330 => (if t330 = true then (if (t315.length : Int) ≥ (l1.length : Int) then (if (t315.length : Int) ≤ (wrap64 ((l1.length : Int) + (l2.length : Int))) then (if 0 ≤ (l1.length : Int) then (if (l1.length : Int) ≤ (t315.length : Int) then ((rollbacknetref08_SameBytes.f kj40 (t315.take ((l1.length : Int) : Int).toNat) l1).bind fun t335 => (if t335 = true then ((rollbacknetref08_SameBytes.f kj40 t315 bt326.1).bind fun t336 => (some t336)) else (some false))) else (none)) else (none)) else (some false)) else (some false)) else (some false))) else (some false)) else (some false))))) = some r := H
        have A80 := aM A800
        clear A800
        have HC81 := aM H
        clear H
        have hnb82 := NB314_286.out
        have hnc82 := NB286_314.out
        have hnb83 := NB314_295.out
        have hnc83 := NB295_314.out
        have hnb84 := NB314_281.out
        have hnc84 := NB281_314.out
        have hcz85_0 : w79.cell? ⟨gb314, 0, none⟩ = some (.slice Ao74 t311.length co74) := (blk_cell BK314.out 0).trans rfl
        have hfz85_0 := blk_frozen BK314.out 0
        go_upto_region 16 with (first | ((with_reducible refine gate_callee (f := 15) rfl ?_); refine goesL_ (some 73) rfl rfl Try.func15 (by kernel_rfl) rfl #[.agg #[.slice Ao74 t311.length co74], .int .i64 1] rfl (by (try simp only [List.map_toArray, List.map_cons, List.map_nil]); first | done | rfl | (simp only [List.length_drop, List.length_take]; rfl)) ?_; (with_reducible refine (disk_Read.calls (fun k_ => ((((((some k_ ≠ (.slice Ao27 t287.length co27 : Value).ownBlock ∧ (some k_ ≠ (.slice Ao36 t291.length co36 : Value).ownBlock ∧ (some k_ ≠ (.slice Ao55 t300.length co55 : Value).ownBlock ∧ (some k_ ≠ (v304 : Value).ownBlock ∧ some k_ ≠ (.slice Ao63 t307.length co63 : Value).ownBlock)))) ∧ some k_ ≠ (.slice Ao53 t296.length co53 : Value).ownBlock) ∧ k_ ≠ gb286) ∧ k_ ≠ gb295) ∧ k_ ≠ gb314) ∧ k_ ≠ g281)) _ _ t311 1 t315 t318 _ ?side1 A80.out).mono ?_); (case side1 => exact Kd.S_V (IsS62.apartS HI281.out (Kd.S_types (Kd.S_types (Kd.S_types (Kd.S_apart' (HO313.out) (Kd.S_typed HO298.out) (by decide)) BK286.out (by decide)) BK295.out (by decide)) BK314.out (by decide)) (by decide))); rintro e w86 ⟨v316, rfl, ho0, hb⟩; refine ⟨_, rfl, ?_⟩; have n0_ := aM (Kd.S_elder' (by (with_reducible repeat (first | apply Kd.S_alloc | apply Kd.S_drewN | apply Kd.S_drew)); exact HO_287000.out) (Kd.R_base ho0) hb); have n1_ := aM (Kd.S_elder' (by (with_reducible repeat (first | apply Kd.S_alloc | apply Kd.S_drewN | apply Kd.S_drew)); exact HO_296000.out) (Kd.R_base ho0) hb); have n2_ := aM (Kd.S_below (by (with_reducible repeat (first | apply Kd.S_alloc | apply Kd.S_drewN | apply Kd.S_drew)); exact HO298.out) hb); have n3_ := aM (Kd.S_elder' (by (with_reducible repeat (first | apply Kd.S_alloc | apply Kd.S_drewN | apply Kd.S_drew)); exact HO302.out) (Kd.R_base ho0) hb); have n4_ := aM (Kd.R_elder' (by (with_reducible repeat (first | apply Kd.R_alloc | apply Kd.R_drewN | apply Kd.R_drew)); exact HO305.out) (Kd.R_base ho0) hb); have n5_ := aM (Kd.S_elder' (by (with_reducible repeat (first | apply Kd.S_alloc | apply Kd.S_drewN | apply Kd.S_drew)); exact HO309.out) (Kd.R_base ho0) hb); have n6_ := aM (Kd.S_elder' (by (with_reducible repeat (first | apply Kd.S_alloc | apply Kd.S_drewN | apply Kd.S_drew)); exact HO313.out) (Kd.R_base ho0) hb); have n7_ := aM (Kd.R_lower (Kd.R_new' (Kd.R_mono (ok' := fun k_ => True) ho0 (fun _ hk_ => trivial)) (Kd.R_lt (by (with_reducible repeat (first | apply Kd.R_alloc | apply Kd.R_drewN | apply Kd.R_drew)); exact HO305.out))) (below_size (by repeat (first | (with_reducible first | exact HB.out | apply wA | apply wN | apply wD | refine below_set ?_ (IsS62.ge HI281.out) | refine below_set ?_ GE286.out | refine below_set ?_ GE295.out | refine below_set ?_ GE314.out) | exact HB.out)))); have n8_ := aM (blk_below (g := gb286) (o := .cells #[.slice Ao63 t307.length co63] 24 (0, 0)) (by (with_reducible repeat (first | refine bN ?_ _ | refine bD ?_ | refine bA ?_ _)); exact BK286.out) hb); have n9_ := aM (blk_below (g := gb295) (o := .cells #[.slice Ao36 t291.length co36] 24 (0, 0)) (by (with_reducible repeat (first | refine bN ?_ _ | refine bD ?_ | refine bA ?_ _)); exact BK295.out) hb); have n10_ := aM (IsS62.below (by repeat (first | (with_reducible first | exact HI281.out | apply IsS62.alloc | apply IsS62.drewN | apply IsS62.drew | apply IsS62.set_1 | refine IsS62.far ?_ NB281_286.out _ | refine IsS62.far ?_ NB281_295.out _ | refine IsS62.far ?_ NB281_314.out _) | exact HI281.out)) hb); have n11_ := aM (blk_below (g := gb314) (o := .cells #[.slice Ao74 t311.length co74] 24 (0, 0)) (by (with_reducible repeat (first | refine bN ?_ _ | refine bD ?_ | refine bA ?_ _)); exact BK314.out) hb); have n12_ := aM (below_step (by repeat (first | (with_reducible first | exact HB.out | apply wA | apply wN | apply wD | refine below_set ?_ (IsS62.ge HI281.out) | refine below_set ?_ GE286.out | refine below_set ?_ GE295.out | refine below_set ?_ GE314.out) | exact HB.out)) hb); clear HO_287000; clear HO_296000; clear HO298; clear HO302; clear HO305; clear HO309; clear HO313; clear BK286; clear BK295; clear HI281; clear BK314; clear HB; have HO_287000 := n0_; have HO_296000 := n1_; have HO298 := n2_; have HO302 := n3_; have HO305 := n4_; have HO309 := n5_; have HO313 := n6_; have HO317 := n7_; have BK286 := n8_; have BK295 := n9_; have HI281 := n10_; have BK314 := n11_; have HB := n12_; clear n0_ n1_ n2_ n3_ n4_ n5_ n6_ n7_ n8_ n9_ n10_ n11_ n12_; (try clear hb); (try clear hb2); (try clear hk); (try clear hi); (try clear ho0)))
        (try simp only [Act.put, List.setIfInBounds_toArray, List.set_cons_zero, List.set_cons_succ])
        have H := HC81.out
        clear HC81
        replace H := Option.bind_eq_some_iff.mp H
        obtain ⟨⟨t319, t322⟩, A870, H⟩ := H
        replace H : ((disk_Crash.f kj40 t311 t319).bind fun t323 => ((disk_Read.f t323 1).bind fun bt326 => (if t310 = 0 then (if t318 = 0 then ((rollbacknetref08_SameBytes.f kj40 t303 l1).bind fun t330 => (if t330 = true then (if (t315.length : Int) ≥ (l1.length : Int) then (if (t315.length : Int) ≤ (wrap64 ((l1.length : Int) + (l2.length : Int))) then (if 0 ≤ (l1.length : Int) then (if (l1.length : Int) ≤ (t315.length : Int) then ((rollbacknetref08_SameBytes.f kj40 (t315.take ((l1.length : Int) : Int).toNat) l1).bind fun t335 => (if t335 = true then ((rollbacknetref08_SameBytes.f kj40 t315 bt326.1).bind fun t336 => (some t336)) else (some false))) else (none)) else (none)) else (some false)) else (some false)) else (some false))) else (some false)) else (some false)))) = some r := H
        have A87 := aM A870
        clear A870
        replace H := Option.bind_eq_some_iff.mp H
        obtain ⟨t323, A880, H⟩ := H
        replace H : ((disk_Read.f t323 1).bind fun bt326 => (if t310 = 0 then (if t318 = 0 then ((rollbacknetref08_SameBytes.f kj40 t303 l1).bind fun t330 => (if t330 = true then (if (t315.length : Int) ≥ (l1.length : Int) then (if (t315.length : Int) ≤ (wrap64 ((l1.length : Int) + (l2.length : Int))) then (if 0 ≤ (l1.length : Int) then (if (l1.length : Int) ≤ (t315.length : Int) then ((rollbacknetref08_SameBytes.f kj40 (t315.take ((l1.length : Int) : Int).toNat) l1).bind fun t335 => (if t335 = true then ((rollbacknetref08_SameBytes.f kj40 t315 bt326.1).bind fun t336 => (some t336)) else (some false))) else (none)) else (none)) else (some false)) else (some false)) else (some false))) else (some false)) else (some false))) = some r := H
        have A88 := aM A880
        clear A880
        replace H := Option.bind_eq_some_iff.mp H
        obtain ⟨⟨t326, t329⟩, A890, H⟩ := H
        replace H : (if t310 = 0 then (if t318 = 0 then ((rollbacknetref08_SameBytes.f kj40 t303 l1).bind fun t330 => (if t330 = true then (if (t315.length : Int) ≥ (l1.length : Int) then (if (t315.length : Int) ≤ (wrap64 ((l1.length : Int) + (l2.length : Int))) then (if 0 ≤ (l1.length : Int) then (if (l1.length : Int) ≤ (t315.length : Int) then ((rollbacknetref08_SameBytes.f kj40 (t315.take ((l1.length : Int) : Int).toNat) l1).bind fun t335 => (if t335 = true then ((rollbacknetref08_SameBytes.f kj40 t315 t326).bind fun t336 => (some t336)) else (some false))) else (none)) else (none)) else (some false)) else (some false)) else (some false))) else (some false)) else (some false)) = some r := H
        have A89 := aM A890
        clear A890
        have HC90 := aM H
        clear H
        try go_wp2
        have n0_ := aM (Kd.S_drew HO_287000.out)
        have n1_ := aM (Kd.S_drew HO_296000.out)
        have n2_ := aM (Kd.S_drew HO298.out)
        have n3_ := aM (Kd.S_drew HO302.out)
        have n4_ := aM (Kd.R_drew HO305.out)
        have n5_ := aM (Kd.S_drew HO309.out)
        have n6_ := aM (Kd.S_drew HO313.out)
        have n7_ := aM (Kd.R_drew HO317.out)
        have n8_ := aM (bD BK286.out)
        have n9_ := aM (bD BK295.out)
        have n10_ := aM (bD BK314.out)
        have n11_ := aM (IsS62.drew HI281.out)
        have n12_ := aM (wD HB.out)
        clear HO_287000
        clear HO_296000
        clear HO298
        clear HO302
        clear HO305
        clear HO309
        clear HO313
        clear HO317
        clear BK286
        clear BK295
        clear BK314
        clear HI281
        clear HB
        have HO_287000 := n0_
        have HO_296000 := n1_
        have HO298 := n2_
        have HO302 := n3_
        have HO305 := n4_
        have HO309 := n5_
        have HO313 := n6_
        have HO317 := n7_
        have BK286 := n8_
        have BK295 := n9_
        have BK314 := n10_
        have HI281 := n11_
        have HB := n12_
        clear n0_ n1_ n2_ n3_ n4_ n5_ n6_ n7_ n8_ n9_ n10_ n11_ n12_
        refine start_ (n := 10) (S := fun w' => w'.cell? ⟨gb314, 0, none⟩ = some (.slice Ao74 t311.length co74)) (ds := []) #[false, false, false, false, false, false, false, false, false, false] (by kernel_rfl) rfl rfl ((blk_cell BK314.out 0).trans rfl) (fun hHeld => ?_); refine with_tabW rollbacknetlaw10_DiskSafe.tab16 rollbacknetlaw10_DiskSafe.bits16 (fun HT_ HW_ => ?_)
        generalize w86.drew = w91 at HO_287000 HO_296000 HO298 HO302 HO305 HO309 HO313 HO317 BK286 BK295 BK314 HI281 HB hHeld ⊢
        refine pure_ (i := 1) (N := some 78) (v := ?_) (a' := ?_) #[false, true, false, false, false, false, false, false, false, false] rfl rfl (any_of HT_.out (by kernel_rfl)) (fun _ _ _ h => h) (Or.inl ⟨by rfl, ?_⟩) ?_ ?_
        rotate_left
        ·intro w'
         go_simp
         with_reducible rfl
        rotate_left
        ·simp only [Act.put, List.setIfInBounds_toArray, List.set_cons_zero, List.set_cons_succ, i64_w, i32_w]
         rfl
        refine take_ (i := 0) (N := some 77) (v := ?_) (a' := ?_) #[true, true, false, false, false, false, false, false, false, false] rfl rfl (take_ofW HT_.out HW_.out (by kernel_rfl)) (fun _ _ _ h => h) (Or.inl ⟨by rfl, ?_⟩) hHeld ?_ ?_
        rotate_left
        ·intro w' s0
         go_simp
         with_reducible rfl
        rotate_left
        ·simp only [Act.put, List.setIfInBounds_toArray, List.set_cons_zero, List.set_cons_succ, i64_w, i32_w]
         rfl
        refine one_ (i := 2) (N := some 79) #[true, true, true, false, false, false, false, false, false, false] rfl rfl (one_of HT_.out (by kernel_rfl)) (by decide) (fun K hK => ?_)
        refine goes_ Try.func18 (by kernel_rfl) rfl #[.pointer (some ⟨g281, 0, none⟩), .int .i64 2] (by rfl) rfl rfl (by (try simp only [List.map_toArray, List.map_cons, List.map_nil]); first | done | rfl | (simp only [List.length_drop, List.length_take]; rfl)) ?_
        with_reducible refine (rollbacknetlaw10_tears.calls kj40 g281 t279 t299 2 t319 t322 w _ ?side1 ?side2 A87.out).mono ?_
        (case side1 => repeat (first | (with_reducible first | exact HI281.out | apply IsS62.alloc | apply IsS62.drewN | apply IsS62.drew | apply IsS62.set_1 | refine IsS62.far ?_ NB281_286.out _ | refine IsS62.far ?_ NB281_295.out _ | refine IsS62.far ?_ NB281_314.out _) | exact HI281.out))
        (case side2 => repeat (first | (with_reducible first | exact HB.out | apply wA | apply wN | apply wD | refine below_set ?_ (IsS62.ge HI281.out) | refine below_set ?_ GE286.out | refine below_set ?_ GE295.out | refine below_set ?_ GE314.out) | exact HB.out))
        rintro e w92 ⟨v320, rfl, ho0, hi, hb, hk⟩
        refine ⟨_, rfl, ?_⟩
        have n0_ := aM (Kd.S_mono (Kd.S_keep (IsS62.apartS (show IsS62 w _ g281 t279 t299 from by repeat (first | (with_reducible first | exact HI281.out | apply IsS62.alloc | apply IsS62.drewN | apply IsS62.drew | apply IsS62.set_1 | refine IsS62.far ?_ NB281_286.out _ | refine IsS62.far ?_ NB281_295.out _ | refine IsS62.far ?_ NB281_314.out _) | exact HI281.out)) (by (with_reducible repeat (first | apply Kd.S_alloc | apply Kd.S_drewN | apply Kd.S_drew)); exact HO_287000.out) (by decide)) hk (fun _ h => h.2)) (fun _ h => h.1))
        have n1_ := aM (Kd.S_mono (Kd.S_keep (IsS62.apartS (show IsS62 w _ g281 t279 t299 from by repeat (first | (with_reducible first | exact HI281.out | apply IsS62.alloc | apply IsS62.drewN | apply IsS62.drew | apply IsS62.set_1 | refine IsS62.far ?_ NB281_286.out _ | refine IsS62.far ?_ NB281_295.out _ | refine IsS62.far ?_ NB281_314.out _) | exact HI281.out)) (by (with_reducible repeat (first | apply Kd.S_alloc | apply Kd.S_drewN | apply Kd.S_drew)); exact HO_296000.out) (by decide)) hk (fun _ h => h.2)) (fun _ h => h.1))
        have n2_ := aM (KeepBut.blk hk (g' := gb286) (o := .cells #[.slice Ao63 t307.length co63] 24 (0, 0)) (by (with_reducible repeat (first | refine bN ?_ _ | refine bD ?_ | refine bA ?_ _)); exact BK286.out) NB286_281.out (by simp))
        have n3_ := aM (KeepBut.blk hk (g' := gb295) (o := .cells #[.slice Ao36 t291.length co36] 24 (0, 0)) (by (with_reducible repeat (first | refine bN ?_ _ | refine bD ?_ | refine bA ?_ _)); exact BK295.out) NB295_281.out (by simp))
        have n4_ := aM (Kd.S_mono (Kd.S_told (Kd.S_oldK (IsS62.apartS (show IsS62 w _ g281 t279 t299 from by repeat (first | (with_reducible first | exact HI281.out | apply IsS62.alloc | apply IsS62.drewN | apply IsS62.drew | apply IsS62.set_1 | refine IsS62.far ?_ NB281_286.out _ | refine IsS62.far ?_ NB281_295.out _ | refine IsS62.far ?_ NB281_314.out _) | exact HI281.out)) (by (with_reducible repeat (first | apply Kd.S_alloc | apply Kd.S_drewN | apply Kd.S_drew)); exact HO298.out) (by decide)) hk) (Kd.S_base ho0)) (fun _ h_ => h_.1))
        have n5_ := aM (Kd.S_mono (Kd.S_keep (IsS62.apartS (show IsS62 w _ g281 t279 t299 from by repeat (first | (with_reducible first | exact HI281.out | apply IsS62.alloc | apply IsS62.drewN | apply IsS62.drew | apply IsS62.set_1 | refine IsS62.far ?_ NB281_286.out _ | refine IsS62.far ?_ NB281_295.out _ | refine IsS62.far ?_ NB281_314.out _) | exact HI281.out)) (by (with_reducible repeat (first | apply Kd.S_alloc | apply Kd.S_drewN | apply Kd.S_drew)); exact HO302.out) (by decide)) hk (fun _ h => h.2)) (fun _ h => h.1))
        have n6_ := aM (Kd.R_mono (Kd.R_keep (IsS62.apart (show IsS62 w _ g281 t279 t299 from by repeat (first | (with_reducible first | exact HI281.out | apply IsS62.alloc | apply IsS62.drewN | apply IsS62.drew | apply IsS62.set_1 | refine IsS62.far ?_ NB281_286.out _ | refine IsS62.far ?_ NB281_295.out _ | refine IsS62.far ?_ NB281_314.out _) | exact HI281.out)) (by (with_reducible repeat (first | apply Kd.R_alloc | apply Kd.R_drewN | apply Kd.R_drew)); exact HO305.out) (by decide)) hk (fun _ h => h.2)) (fun _ h => h.1))
        have n7_ := aM (Kd.S_mono (Kd.S_keep (IsS62.apartS (show IsS62 w _ g281 t279 t299 from by repeat (first | (with_reducible first | exact HI281.out | apply IsS62.alloc | apply IsS62.drewN | apply IsS62.drew | apply IsS62.set_1 | refine IsS62.far ?_ NB281_286.out _ | refine IsS62.far ?_ NB281_295.out _ | refine IsS62.far ?_ NB281_314.out _) | exact HI281.out)) (by (with_reducible repeat (first | apply Kd.S_alloc | apply Kd.S_drewN | apply Kd.S_drew)); exact HO309.out) (by decide)) hk (fun _ h => h.2)) (fun _ h => h.1))
        have n8_ := aM (Kd.S_mono (Kd.S_keep (IsS62.apartS (show IsS62 w _ g281 t279 t299 from by repeat (first | (with_reducible first | exact HI281.out | apply IsS62.alloc | apply IsS62.drewN | apply IsS62.drew | apply IsS62.set_1 | refine IsS62.far ?_ NB281_286.out _ | refine IsS62.far ?_ NB281_295.out _ | refine IsS62.far ?_ NB281_314.out _) | exact HI281.out)) (by (with_reducible repeat (first | apply Kd.S_alloc | apply Kd.S_drewN | apply Kd.S_drew)); exact HO313.out) (by decide)) hk (fun _ h => h.2)) (fun _ h => h.1))
        have n9_ := aM (KeepBut.blk hk (g' := gb314) (o := .cells #[.slice Ao74 t311.length co74] 24 (0, 0)) (by (with_reducible repeat (first | refine bN ?_ _ | refine bD ?_ | refine bA ?_ _)); exact BK314.out) NB314_281.out (by simp))
        have n10_ := aM (Kd.R_mono (Kd.R_keep (IsS62.apart (show IsS62 w _ g281 t279 t299 from by repeat (first | (with_reducible first | exact HI281.out | apply IsS62.alloc | apply IsS62.drewN | apply IsS62.drew | apply IsS62.set_1 | refine IsS62.far ?_ NB281_286.out _ | refine IsS62.far ?_ NB281_295.out _ | refine IsS62.far ?_ NB281_314.out _) | exact HI281.out)) (by (with_reducible repeat (first | apply Kd.R_alloc | apply Kd.R_drewN | apply Kd.R_drew)); exact HO317.out) (by decide)) hk (fun _ h => h.2)) (fun _ h => h.1))
        have n11_ := aM (Kd.S_lower (Kd.S_new' ho0 (Kd.S_lt (by (with_reducible repeat (first | apply Kd.S_alloc | apply Kd.S_drewN | apply Kd.S_drew)); exact HO298.out))) (below_size (by repeat (first | (with_reducible first | exact HB.out | apply wA | apply wN | apply wD | refine below_set ?_ (IsS62.ge HI281.out) | refine below_set ?_ GE286.out | refine below_set ?_ GE295.out | refine below_set ?_ GE314.out) | exact HB.out))))
        have n12_ := aM (hb)
        have n13_ := aM (hi)
        clear HO_287000
        clear HO_296000
        clear BK286
        clear BK295
        clear HO298
        clear HO302
        clear HO305
        clear HO309
        clear HO313
        clear BK314
        clear HO317
        clear HB
        clear HI281
        have HO_287000 := n0_
        have HO_296000 := n1_
        have BK286 := n2_
        have BK295 := n3_
        have HO298 := n4_
        have HO302 := n5_
        have HO305 := n6_
        have HO309 := n7_
        have HO313 := n8_
        have BK314 := n9_
        have HO317 := n10_
        have HO321 := n11_
        have HB := n12_
        have HI281 := n13_
        clear n0_ n1_ n2_ n3_ n4_ n5_ n6_ n7_ n8_ n9_ n10_ n11_ n12_ n13_
        (try clear hb)
        (try clear hb2)
        (try clear hk)
        (try clear hi)
        (try clear ho0)
        obtain ⟨Ao93, co93, eo93⟩ := Kd.S_slice HO321.out
        (first | subst eo93 | (injection eo93 with f1_ f2_ f3_; have f4_ := f1_.symm; have f5_ := f3_.symm; clear f1_ f2_ f3_; subst f4_; subst f5_))
        refine hK.out _ _ ((blk_cell BK314.out 0).trans rfl) (fun hHeld => ?_)
        clear hK K
        refine norm_ (a' := ?_) ?_ ?_
        rotate_left
        ·show Act.put _ (some 79) _ = _
         simp only [Act.put, List.setIfInBounds_toArray, List.set_cons_zero, List.set_cons_succ, i64_w, i32_w]
         rfl
        refine one_ (i := 3) (N := some 80) #[true, true, true, true, false, false, false, false, false, false] rfl rfl (one_of HT_.out (by kernel_rfl)) (by decide) (fun K hK => ?_)
        refine goes_ Try.func11 (by kernel_rfl) rfl #[.agg #[.slice Ao74 t311.length co74], .slice Ao93 t319.length co93] (by rfl) rfl rfl (by (try simp only [List.map_toArray, List.map_cons, List.map_nil]); first | done | rfl | (simp only [List.length_drop, List.length_take]; rfl)) ?_
        with_reducible refine (disk_Crash.calls kj40 _ _ t311 _ _ t319 t323 _ ?side1 ?side2 ?side3 ?side4 A88.out).mono ?_
        (case side1 => repeat (first | exact (Kd.S_reads' HO313.out).2.2 | (with_reducible refine Kd.C_alloc ?_ _) | (with_reducible refine Kd.C_drewN ?_ _) | (with_reducible refine Kd.C_drew ?_)))
        (case side2 => exact (Kd.S_reads' HO313.out).2.1)
        (case side3 => repeat (first | exact (Kd.S_reads' HO321.out).2.2 | (with_reducible refine Kd.C_alloc ?_ _) | (with_reducible refine Kd.C_drewN ?_ _) | (with_reducible refine Kd.C_drew ?_)))
        (case side4 => exact (Kd.S_reads' HO321.out).2.1)
        rintro e w94 ⟨v324, rfl, ho0, hb⟩
        refine ⟨_, rfl, ?_⟩
        have n0_ := aM (Kd.S_elder' (by (with_reducible repeat (first | apply Kd.S_alloc | apply Kd.S_drewN | apply Kd.S_drew)); exact HO_287000.out) (Kd.S_base ho0) hb)
        have n1_ := aM (Kd.S_elder' (by (with_reducible repeat (first | apply Kd.S_alloc | apply Kd.S_drewN | apply Kd.S_drew)); exact HO_296000.out) (Kd.S_base ho0) hb)
        have n2_ := aM (Kd.S_below (by (with_reducible repeat (first | apply Kd.S_alloc | apply Kd.S_drewN | apply Kd.S_drew)); exact HO298.out) hb)
        have n3_ := aM (Kd.S_elder' (by (with_reducible repeat (first | apply Kd.S_alloc | apply Kd.S_drewN | apply Kd.S_drew)); exact HO302.out) (Kd.S_base ho0) hb)
        have n4_ := aM (Kd.R_below (by (with_reducible repeat (first | apply Kd.R_alloc | apply Kd.R_drewN | apply Kd.R_drew)); exact HO305.out) hb)
        have n5_ := aM (Kd.S_elder' (by (with_reducible repeat (first | apply Kd.S_alloc | apply Kd.S_drewN | apply Kd.S_drew)); exact HO309.out) (Kd.S_base ho0) hb)
        have n6_ := aM (Kd.S_elder' (by (with_reducible repeat (first | apply Kd.S_alloc | apply Kd.S_drewN | apply Kd.S_drew)); exact HO313.out) (Kd.S_base ho0) hb)
        have n7_ := aM (Kd.R_below (by (with_reducible repeat (first | apply Kd.R_alloc | apply Kd.R_drewN | apply Kd.R_drew)); exact HO317.out) hb)
        have n8_ := aM (Kd.S_below (by (with_reducible repeat (first | apply Kd.S_alloc | apply Kd.S_drewN | apply Kd.S_drew)); exact HO321.out) hb)
        have n9_ := aM (Kd.S_lower (Kd.S_new' (Kd.S_new' (Kd.S_new' (Kd.S_new' (Kd.S_new' (Kd.S_new' (Kd.S_new' ho0 (Kd.S_lt (by (with_reducible repeat (first | apply Kd.S_alloc | apply Kd.S_drewN | apply Kd.S_drew)); exact HO_287000.out))) (Kd.S_lt (by (with_reducible repeat (first | apply Kd.S_alloc | apply Kd.S_drewN | apply Kd.S_drew)); exact HO_296000.out))) (Kd.S_lt (by (with_reducible repeat (first | apply Kd.S_alloc | apply Kd.S_drewN | apply Kd.S_drew)); exact HO302.out))) (Kd.R_lt (by (with_reducible repeat (first | apply Kd.R_alloc | apply Kd.R_drewN | apply Kd.R_drew)); exact HO305.out))) (Kd.S_lt (by (with_reducible repeat (first | apply Kd.S_alloc | apply Kd.S_drewN | apply Kd.S_drew)); exact HO309.out))) (Kd.S_lt (by (with_reducible repeat (first | apply Kd.S_alloc | apply Kd.S_drewN | apply Kd.S_drew)); exact HO313.out))) (Kd.R_lt (by (with_reducible repeat (first | apply Kd.R_alloc | apply Kd.R_drewN | apply Kd.R_drew)); exact HO317.out))) (below_size (by repeat (first | (with_reducible first | exact HB.out | apply wA | apply wN | apply wD | refine below_set ?_ (IsS62.ge HI281.out) | refine below_set ?_ GE286.out | refine below_set ?_ GE295.out | refine below_set ?_ GE314.out) | exact HB.out))))
        have n10_ := aM (blk_below (g := gb286) (o := .cells #[.slice Ao63 t307.length co63] 24 (0, 0)) (by (with_reducible repeat (first | refine bN ?_ _ | refine bD ?_ | refine bA ?_ _)); exact BK286.out) hb)
        have n11_ := aM (blk_below (g := gb295) (o := .cells #[.slice Ao36 t291.length co36] 24 (0, 0)) (by (with_reducible repeat (first | refine bN ?_ _ | refine bD ?_ | refine bA ?_ _)); exact BK295.out) hb)
        have n12_ := aM (IsS62.below (by repeat (first | (with_reducible first | exact HI281.out | apply IsS62.alloc | apply IsS62.drewN | apply IsS62.drew | apply IsS62.set_1 | refine IsS62.far ?_ NB281_286.out _ | refine IsS62.far ?_ NB281_295.out _ | refine IsS62.far ?_ NB281_314.out _) | exact HI281.out)) hb)
        have n13_ := aM (blk_below (g := gb314) (o := .cells #[.slice Ao74 t311.length co74] 24 (0, 0)) (by (with_reducible repeat (first | refine bN ?_ _ | refine bD ?_ | refine bA ?_ _)); exact BK314.out) hb)
        have n14_ := aM (below_step (by repeat (first | (with_reducible first | exact HB.out | apply wA | apply wN | apply wD | refine below_set ?_ (IsS62.ge HI281.out) | refine below_set ?_ GE286.out | refine below_set ?_ GE295.out | refine below_set ?_ GE314.out) | exact HB.out)) hb)
        clear HO_287000
        clear HO_296000
        clear HO298
        clear HO302
        clear HO305
        clear HO309
        clear HO313
        clear HO317
        clear HO321
        clear BK286
        clear BK295
        clear HI281
        clear BK314
        clear HB
        have HO_287000 := n0_
        have HO_296000 := n1_
        have HO298 := n2_
        have HO302 := n3_
        have HO305 := n4_
        have HO309 := n5_
        have HO313 := n6_
        have HO317 := n7_
        have HO321 := n8_
        have HO325 := n9_
        have BK286 := n10_
        have BK295 := n11_
        have HI281 := n12_
        have BK314 := n13_
        have HB := n14_
        clear n0_ n1_ n2_ n3_ n4_ n5_ n6_ n7_ n8_ n9_ n10_ n11_ n12_ n13_ n14_
        (try clear hb)
        (try clear hb2)
        (try clear hk)
        (try clear hi)
        (try clear ho0)
        obtain ⟨Ao95, co95, eo95⟩ := Kd.S_slice HO325.out
        (first | subst eo95 | (injection eo95 with f1_ f2_ f3_; have f4_ := f1_.symm; have f5_ := f3_.symm; clear f1_ f2_ f3_; subst f4_; subst f5_))
        refine hK.out _ _ ((blk_cell BK314.out 0).trans rfl) (fun hHeld => ?_)
        clear hK K
        refine norm_ (a' := ?_) ?_ ?_
        rotate_left
        ·show Act.put _ (some 80) _ = _
         simp only [Act.put, List.setIfInBounds_toArray, List.set_cons_zero, List.set_cons_succ, i64_w, i32_w]
         rfl
        refine one_ (i := 4) (N := some 81) #[true, true, true, true, true, false, false, false, false, false] rfl rfl (one_of HT_.out (by kernel_rfl)) (by decide) (fun K hK => ?_)
        refine goes_ Try.func15 (by kernel_rfl) rfl #[.agg #[.slice Ao95 t323.length co95], .int .i64 1] (by rfl) rfl rfl (by (try simp only [List.map_toArray, List.map_cons, List.map_nil]); first | done | rfl | (simp only [List.length_drop, List.length_take]; rfl)) ?_
        with_reducible refine (disk_Read.calls (fun k_ => (((((((((((((True ∧ some k_ ≠ (.slice Ao27 t287.length co27 : Value).ownBlock) ∧ some k_ ≠ (.slice Ao36 t291.length co36 : Value).ownBlock) ∧ some k_ ≠ (.slice Ao55 t300.length co55 : Value).ownBlock) ∧ some k_ ≠ (v304 : Value).ownBlock) ∧ some k_ ≠ (.slice Ao63 t307.length co63 : Value).ownBlock) ∧ some k_ ≠ (.slice Ao74 t311.length co74 : Value).ownBlock) ∧ some k_ ≠ (v316 : Value).ownBlock) ∧ some k_ ≠ (.slice Ao53 t296.length co53 : Value).ownBlock) ∧ some k_ ≠ (.slice Ao93 t319.length co93 : Value).ownBlock) ∧ k_ ≠ gb286) ∧ k_ ≠ gb295) ∧ k_ ≠ gb314) ∧ k_ ≠ g281)) _ _ t323 1 t326 t329 _ ?side1 A89.out).mono ?_
        (case side1 => exact Kd.S_V (IsS62.apartS HI281.out (Kd.S_types (Kd.S_types (Kd.S_types (Kd.S_apart' (Kd.S_apart' (HO325.out) (Kd.S_typed HO298.out) (by decide)) (Kd.S_typed HO321.out) (by decide)) BK286.out (by decide)) BK295.out (by decide)) BK314.out (by decide)) (by decide)))
        rintro e w96 ⟨v327, rfl, ho0, hb⟩
        refine ⟨_, rfl, ?_⟩
        have n0_ := aM (Kd.S_elder' (by (with_reducible repeat (first | apply Kd.S_alloc | apply Kd.S_drewN | apply Kd.S_drew)); exact HO_287000.out) (Kd.R_base ho0) hb)
        have n1_ := aM (Kd.S_elder' (by (with_reducible repeat (first | apply Kd.S_alloc | apply Kd.S_drewN | apply Kd.S_drew)); exact HO_296000.out) (Kd.R_base ho0) hb)
        have n2_ := aM (Kd.S_below (by (with_reducible repeat (first | apply Kd.S_alloc | apply Kd.S_drewN | apply Kd.S_drew)); exact HO298.out) hb)
        have n3_ := aM (Kd.S_elder' (by (with_reducible repeat (first | apply Kd.S_alloc | apply Kd.S_drewN | apply Kd.S_drew)); exact HO302.out) (Kd.R_base ho0) hb)
        have n4_ := aM (Kd.R_elder' (by (with_reducible repeat (first | apply Kd.R_alloc | apply Kd.R_drewN | apply Kd.R_drew)); exact HO305.out) (Kd.R_base ho0) hb)
        have n5_ := aM (Kd.S_elder' (by (with_reducible repeat (first | apply Kd.S_alloc | apply Kd.S_drewN | apply Kd.S_drew)); exact HO309.out) (Kd.R_base ho0) hb)
        have n6_ := aM (Kd.S_elder' (by (with_reducible repeat (first | apply Kd.S_alloc | apply Kd.S_drewN | apply Kd.S_drew)); exact HO313.out) (Kd.R_base ho0) hb)
        have n7_ := aM (Kd.R_elder' (by (with_reducible repeat (first | apply Kd.R_alloc | apply Kd.R_drewN | apply Kd.R_drew)); exact HO317.out) (Kd.R_base ho0) hb)
        have n8_ := aM (Kd.S_below (by (with_reducible repeat (first | apply Kd.S_alloc | apply Kd.S_drewN | apply Kd.S_drew)); exact HO321.out) hb)
        have n9_ := aM (Kd.S_elder' (by (with_reducible repeat (first | apply Kd.S_alloc | apply Kd.S_drewN | apply Kd.S_drew)); exact HO325.out) (Kd.R_base ho0) hb)
        have n10_ := aM (Kd.R_lower (Kd.R_new' (Kd.R_new' (Kd.R_mono (ok' := fun k_ => True) ho0 (fun _ hk_ => trivial)) (Kd.R_lt (by (with_reducible repeat (first | apply Kd.R_alloc | apply Kd.R_drewN | apply Kd.R_drew)); exact HO305.out))) (Kd.R_lt (by (with_reducible repeat (first | apply Kd.R_alloc | apply Kd.R_drewN | apply Kd.R_drew)); exact HO317.out))) (below_size (by repeat (first | (with_reducible first | exact HB.out | apply wA | apply wN | apply wD | refine below_set ?_ (IsS62.ge HI281.out) | refine below_set ?_ GE286.out | refine below_set ?_ GE295.out | refine below_set ?_ GE314.out) | exact HB.out))))
        have n11_ := aM (blk_below (g := gb286) (o := .cells #[.slice Ao63 t307.length co63] 24 (0, 0)) (by (with_reducible repeat (first | refine bN ?_ _ | refine bD ?_ | refine bA ?_ _)); exact BK286.out) hb)
        have n12_ := aM (blk_below (g := gb295) (o := .cells #[.slice Ao36 t291.length co36] 24 (0, 0)) (by (with_reducible repeat (first | refine bN ?_ _ | refine bD ?_ | refine bA ?_ _)); exact BK295.out) hb)
        have n13_ := aM (IsS62.below (by repeat (first | (with_reducible first | exact HI281.out | apply IsS62.alloc | apply IsS62.drewN | apply IsS62.drew | apply IsS62.set_1 | refine IsS62.far ?_ NB281_286.out _ | refine IsS62.far ?_ NB281_295.out _ | refine IsS62.far ?_ NB281_314.out _) | exact HI281.out)) hb)
        have n14_ := aM (blk_below (g := gb314) (o := .cells #[.slice Ao74 t311.length co74] 24 (0, 0)) (by (with_reducible repeat (first | refine bN ?_ _ | refine bD ?_ | refine bA ?_ _)); exact BK314.out) hb)
        have n15_ := aM (below_step (by repeat (first | (with_reducible first | exact HB.out | apply wA | apply wN | apply wD | refine below_set ?_ (IsS62.ge HI281.out) | refine below_set ?_ GE286.out | refine below_set ?_ GE295.out | refine below_set ?_ GE314.out) | exact HB.out)) hb)
        clear HO_287000
        clear HO_296000
        clear HO298
        clear HO302
        clear HO305
        clear HO309
        clear HO313
        clear HO317
        clear HO321
        clear HO325
        clear BK286
        clear BK295
        clear HI281
        clear BK314
        clear HB
        have HO_287000 := n0_
        have HO_296000 := n1_
        have HO298 := n2_
        have HO302 := n3_
        have HO305 := n4_
        have HO309 := n5_
        have HO313 := n6_
        have HO317 := n7_
        have HO321 := n8_
        have HO325 := n9_
        have HO328 := n10_
        have BK286 := n11_
        have BK295 := n12_
        have HI281 := n13_
        have BK314 := n14_
        have HB := n15_
        clear n0_ n1_ n2_ n3_ n4_ n5_ n6_ n7_ n8_ n9_ n10_ n11_ n12_ n13_ n14_ n15_
        (try clear hb)
        (try clear hb2)
        (try clear hk)
        (try clear hi)
        (try clear ho0)
        refine hK.out _ _ ((blk_cell BK314.out 0).trans rfl) (fun hHeld => ?_)
        clear hK K
        refine norm_ (a' := ?_) ?_ ?_
        rotate_left
        ·show Act.put _ (some 81) _ = _
         simp only [Act.put, List.setIfInBounds_toArray, List.set_cons_zero, List.set_cons_succ, i64_w, i32_w]
         rfl
        refine pure_ (i := 5) (N := some 76) (v := ?_) (a' := ?_) #[true, true, true, true, true, true, false, false, false, false] rfl rfl (any_of HT_.out (by kernel_rfl)) (fun _ _ _ h => h) (Or.inl ⟨by rfl, ?_⟩) ?_ ?_
        rotate_left
        ·intro w'
         go_simp
         with_reducible rfl
        rotate_left
        ·simp only [Act.put, List.setIfInBounds_toArray, List.set_cons_zero, List.set_cons_succ, i64_w, i32_w]
         rfl
        refine pure_ (i := 6) (N := some 82) (v := ?_) (a' := ?_) #[true, true, true, true, true, true, true, false, false, false] rfl rfl (any_of HT_.out (by kernel_rfl)) (fun _ _ _ h => h) (Or.inl ⟨by rfl, ?_⟩) ?_ ?_
        rotate_left
        ·intro w'
         go_simp
         with_reducible rfl
        rotate_left
        ·simp only [Act.put, List.setIfInBounds_toArray, List.set_cons_zero, List.set_cons_succ, i64_w, i32_w]
         rfl
        refine pure_ (i := 7) (N := some 83) (v := ?_) (a' := ?_) #[true, true, true, true, true, true, true, true, false, false] rfl rfl (any_of HT_.out (by kernel_rfl)) (fun _ _ _ h => h) (Or.inl ⟨by rfl, ?_⟩) ?_ ?_
        rotate_left
        ·intro w'
         go_simp
         with_reducible rfl
        rotate_left
        ·simp only [Act.put, List.setIfInBounds_toArray, List.set_cons_zero, List.set_cons_succ, i64_w, i32_w]
         rfl
        refine pure_ (i := 8) (N := some 18) (v := ?_) (a' := ?_) #[true, true, true, true, true, true, true, true, true, false] rfl rfl (any_of HT_.out (by kernel_rfl)) (fun _ _ _ h => h) (Or.inl ⟨by rfl, ?_⟩) ?_ ?_
        rotate_left
        ·intro w'
         go_simp
         with_reducible rfl
        rotate_left
        ·simp only [Act.put, List.setIfInBounds_toArray, List.set_cons_zero, List.set_cons_succ, i64_w, i32_w]
         rfl
        refine pure_ (i := 9) (N := some 19) (v := ?_) (a' := ?_) #[true, true, true, true, true, true, true, true, true, true] rfl rfl (any_of HT_.out (by kernel_rfl)) (fun _ _ _ h => h) (Or.inl ⟨by rfl, ?_⟩) ?_ ?_
        rotate_left
        ·intro w'
         go_simp
         with_reducible rfl
        rotate_left
        ·simp only [Act.put, List.setIfInBounds_toArray, List.set_cons_zero, List.set_cons_succ, i64_w, i32_w]
         rfl
        refine done_ (done_of HT_.out (by kernel_rfl)) ?_
        go_upto_region 17 with (fail)
        have H := HC90.out
        clear HC90
        by_cases c97 : t310 = 0
        ·rw [if_pos c97] at H
         have c97b0 : (t310 == 0) = true := beq_iff_eq.mpr c97
         have c97b1 : (t310 != 0) = false := bne_eq_false_iff_eq.mpr c97
         clear c97
         by_cases c98 : t318 = 0
         ·rw [if_pos c98] at H
          have c98b0 : (t318 == 0) = true := beq_iff_eq.mpr c98
          have c98b1 : (t318 != 0) = false := bne_eq_false_iff_eq.mpr c98
          clear c98
          replace H := Option.bind_eq_some_iff.mp H
          obtain ⟨t330, A990, H⟩ := H
          replace H : (if t330 = true then (if (t315.length : Int) ≥ (l1.length : Int) then (if (t315.length : Int) ≤ (wrap64 ((l1.length : Int) + (l2.length : Int))) then (if 0 ≤ (l1.length : Int) then (if (l1.length : Int) ≤ (t315.length : Int) then ((rollbacknetref08_SameBytes.f kj40 (t315.take ((l1.length : Int) : Int).toNat) l1).bind fun t335 => (if t335 = true then ((rollbacknetref08_SameBytes.f kj40 t315 t326).bind fun t336 => (some t336)) else (some false))) else (none)) else (none)) else (some false)) else (some false)) else (some false)) = some r := H
          have A99 := aM A990
          clear A990
          by_cases c100 : t330 = true
          ·subst c100
           have H1 : (if (t315.length : Int) ≥ (l1.length : Int) then (if (t315.length : Int) ≤ (wrap64 ((l1.length : Int) + (l2.length : Int))) then (if 0 ≤ (l1.length : Int) then (if (l1.length : Int) ≤ (t315.length : Int) then ((rollbacknetref08_SameBytes.f kj40 (t315.take ((l1.length : Int) : Int).toNat) l1).bind fun t335 => (if t335 = true then ((rollbacknetref08_SameBytes.f kj40 t315 t326).bind fun t336 => (some t336)) else (some false))) else (none)) else (none)) else (some false)) else (some false)) = some r := by rw [if_pos rfl] at H; exact H
           clear H
           have H := H1
           clear H1
           by_cases c101 : (t315.length : Int) ≥ (l1.length : Int)
           ·rw [if_pos c101] at H
            have c101b0 : decide ((l1.length : Int) ≤ (t315.length : Int)) = true := decide_eq_true c101
            have c101b1 : decide (l1.length ≤ t315.length) = true := decide_eq_true (Int.ofNat_le.mp c101)
            clear c101
            by_cases c102 : (t315.length : Int) ≤ (wrap64 ((l1.length : Int) + (l2.length : Int)))
            ·rw [if_pos c102] at H
             have c102b0 : decide ((t315.length : Int) ≤ (wrap64 ((l1.length : Int) + (l2.length : Int)))) = true := decide_eq_true c102
             clear c102
             by_cases c103 : 0 ≤ (l1.length : Int)
             ·rw [if_pos c103] at H
              have c103b0 := eq_true c103
              have c103b1 : decide (0 ≤ (l1.length : Int)) = true := decide_eq_true c103
              clear c103
              by_cases c104 : (l1.length : Int) ≤ (t315.length : Int)
              ·rw [if_pos c104] at H
               have c104b0 := eq_true c104
               have c104b1 : decide ((l1.length : Int) ≤ (t315.length : Int)) = true := decide_eq_true c104
               clear c104
               obtain ⟨y331, hy331⟩ : ∃ y_ : List Int, y_ = (t315.take ((l1.length : Int) : Int).toNat) := ⟨_, rfl⟩
               replace H : ((rollbacknetref08_SameBytes.f kj40 y331 l1).bind fun t335 => (if t335 = true then ((rollbacknetref08_SameBytes.f kj40 t315 t326).bind fun t336 => (some t336)) else (some false))) = some r := by first | (rw [hy331]; with_reducible exact H) | (have H2_ := (Option.bind_some _ _).symm.trans H; rw [hy331]; with_reducible exact H2_) | (have H2_ := (Option.bind_some _ _).symm.trans H; with_reducible exact H2_) | with_reducible exact H | (rw [hy331]; exact H) | exact H
               have Ny331 := aM hy331
               clear hy331
               replace H := Option.bind_eq_some_iff.mp H
               obtain ⟨t335, A1050, H⟩ := H
               replace H : (if t335 = true then ((rollbacknetref08_SameBytes.f kj40 t315 t326).bind fun t336 => (some t336)) else (some false)) = some r := H
               have A105 := aM A1050
               clear A1050
               by_cases c106 : t335 = true
               ·subst c106
                have H1 : ((rollbacknetref08_SameBytes.f kj40 t315 t326).bind fun t336 => (some t336)) = some r := by rw [if_pos rfl] at H; exact H
                clear H
                have H := H1
                clear H1
                replace H := Option.bind_eq_some_iff.mp H
                obtain ⟨t336, A1070, H⟩ := H
                replace H : (some t336) = some r := H
                have A107 := aM A1070
                clear A1070
                obtain rfl := Option.some.inj H
                obtain ⟨Ao108, co108, eo108⟩ := Kd.R_slice HO305.out
                subst eo108
                go_wp2_with (first | (go_at_call 19; (with_reducible refine (rollbacknetref08_SameBytes.calls kj40 _ _ t303 _ _ l1 true _ ?side1 ?side2 ?side3 ?side4 A99.out).mono ?_); (case side1 => repeat (first | exact (Kd.R_reads' HO305.out).2.2 | (with_reducible refine Kd.C_alloc ?_ _) | (with_reducible refine Kd.C_drewN ?_ _) | (with_reducible refine Kd.C_drew ?_))); (case side2 => exact (Kd.R_reads' HO305.out).2.1); (case side3 => repeat (first | exact (Kd.C_below HR1.out HB.out) | (with_reducible refine Kd.C_alloc ?_ _) | (with_reducible refine Kd.C_drewN ?_ _) | (with_reducible refine Kd.C_drew ?_))); (case side4 => exact HC1.out); rintro e w' ⟨rfl, ⟨nd, rfl⟩⟩; obtain ⟨Ao109, co109, eo109⟩ := Kd.R_slice HO317.out; subst eo109; have q110 : ((l1.length : Int) : Int) ≤ ((t315.length : Int) : Int) := of_decide_eq_true (by first | (with_reducible assumption) | assumption); obtain ⟨i0110, hi0110, _, hsz110, _⟩ := info_parts info5; have hroom110 : t315.length ≤ co109 := (Kd.R_reads' HO317.out).2.1; have hC110 : Kd.C (Kd.int .u8) _ Ao109 t315.length t315 := (Kd.R_reads' HO317.out).2.2; have hcut110 := cut_to (P := Try.prog) 30 5 .i64 Try.underlying30 hi0110 Ao109 t315.length co109 (l1.length : Int) (of_decide_eq_true (by first | (with_reducible assumption) | assumption)) q110 hroom110; have hr110 := Kd.C_take (m := ((l1.length : Int) : Int).toNat) hC110 (by omega); have hy110 : y331.length = ((l1.length : Int) : Int).toNat := (by rw [Ny331.out, List.length_take]; omega); rw [← Ny331.out] at hr110; rw [← hy110] at hcut110; have HR334 := aM hr110; have HC334 := aM (show y331.length ≤ co109 from by omega); clear hr110 hC110 hroom110 hi0110 hsz110; have KY110 := aM hy110; clear hy110; have KL110 := aM (show ((l1.length : Int) : Int).toNat ≤ t315.length from by omega); replace q110 := eq_true q110) | (go_at_call 19; (with_reducible refine (rollbacknetref08_SameBytes.calls kj40 _ _ y331 _ _ l1 true _ ?side1 ?side2 ?side3 ?side4 A105.out).mono ?_); (case side1 => repeat (first | exact (by repeat (first | (with_reducible exact HR334.out) | (with_reducible refine Kd.C_alloc ?_ _) | (with_reducible refine Kd.C_drewN ?_ _) | (with_reducible refine Kd.C_drew ?_) | exact HR334.out)) | (with_reducible refine Kd.C_alloc ?_ _) | (with_reducible refine Kd.C_drewN ?_ _) | (with_reducible refine Kd.C_drew ?_))); (case side2 => exact HC334.out); (case side3 => repeat (first | exact (Kd.C_below HR1.out (by repeat (first | (with_reducible first | exact HB.out | apply wA | apply wN | apply wD | refine below_set ?_ (IsS62.ge HI281.out) | refine below_set ?_ GE286.out | refine below_set ?_ GE295.out | refine below_set ?_ GE314.out) | exact HB.out))) | (with_reducible refine Kd.C_alloc ?_ _) | (with_reducible refine Kd.C_drewN ?_ _) | (with_reducible refine Kd.C_drew ?_))); (case side4 => exact HC1.out); rintro e w' ⟨rfl, ⟨nd, rfl⟩⟩; obtain ⟨Ao111, co111, eo111⟩ := Kd.R_slice HO328.out; subst eo111) | (go_at_call 19; (with_reducible refine (rollbacknetref08_SameBytes.calls kj40 _ _ t315 _ _ t326 t336 _ ?side1 ?side2 ?side3 ?side4 A107.out).mono ?_); (case side1 => repeat (first | exact (Kd.R_reads' HO317.out).2.2 | (with_reducible refine Kd.C_alloc ?_ _) | (with_reducible refine Kd.C_drewN ?_ _) | (with_reducible refine Kd.C_drew ?_))); (case side2 => exact (Kd.R_reads' HO317.out).2.1); (case side3 => repeat (first | exact (Kd.R_reads' HO328.out).2.2 | (with_reducible refine Kd.C_alloc ?_ _) | (with_reducible refine Kd.C_drewN ?_ _) | (with_reducible refine Kd.C_drew ?_))); (case side4 => exact (Kd.R_reads' HO328.out).2.1); rintro e w' ⟨rfl, ⟨nd, rfl⟩⟩))
                go_ret
                exact ⟨by first | rfl | (simp [errW_none, errW_some] <;> rfl) | (simp [*, errW_none, errW_some] <;> rfl), by repeat (first | (with_reducible first | exact HB.out | apply wA | apply wN | apply wD | refine below_set ?_ (IsS62.ge HI281.out) | refine below_set ?_ GE286.out | refine below_set ?_ GE295.out | refine below_set ?_ GE314.out) | exact HB.out)⟩
               ·replace c106 := Bool.eq_false_iff.mpr c106
                subst c106
                have H1 : (some false) = some r := by rw [if_neg (show ¬ (false = true) by decide)] at H; exact H
                clear H
                have H := H1
                clear H1
                obtain rfl := Option.some.inj H
                obtain ⟨Ao112, co112, eo112⟩ := Kd.R_slice HO305.out
                subst eo112
                go_wp2_with (first | (go_at_call 19; (with_reducible refine (rollbacknetref08_SameBytes.calls kj40 _ _ t303 _ _ l1 true _ ?side1 ?side2 ?side3 ?side4 A99.out).mono ?_); (case side1 => repeat (first | exact (Kd.R_reads' HO305.out).2.2 | (with_reducible refine Kd.C_alloc ?_ _) | (with_reducible refine Kd.C_drewN ?_ _) | (with_reducible refine Kd.C_drew ?_))); (case side2 => exact (Kd.R_reads' HO305.out).2.1); (case side3 => repeat (first | exact (Kd.C_below HR1.out HB.out) | (with_reducible refine Kd.C_alloc ?_ _) | (with_reducible refine Kd.C_drewN ?_ _) | (with_reducible refine Kd.C_drew ?_))); (case side4 => exact HC1.out); rintro e w' ⟨rfl, ⟨nd, rfl⟩⟩; obtain ⟨Ao113, co113, eo113⟩ := Kd.R_slice HO317.out; subst eo113; have q114 : ((l1.length : Int) : Int) ≤ ((t315.length : Int) : Int) := of_decide_eq_true (by first | (with_reducible assumption) | assumption); obtain ⟨i0114, hi0114, _, hsz114, _⟩ := info_parts info5; have hroom114 : t315.length ≤ co113 := (Kd.R_reads' HO317.out).2.1; have hC114 : Kd.C (Kd.int .u8) _ Ao113 t315.length t315 := (Kd.R_reads' HO317.out).2.2; have hcut114 := cut_to (P := Try.prog) 30 5 .i64 Try.underlying30 hi0114 Ao113 t315.length co113 (l1.length : Int) (of_decide_eq_true (by first | (with_reducible assumption) | assumption)) q114 hroom114; have hr114 := Kd.C_take (m := ((l1.length : Int) : Int).toNat) hC114 (by omega); have hy114 : y331.length = ((l1.length : Int) : Int).toNat := (by rw [Ny331.out, List.length_take]; omega); rw [← Ny331.out] at hr114; rw [← hy114] at hcut114; have HR334 := aM hr114; have HC334 := aM (show y331.length ≤ co113 from by omega); clear hr114 hC114 hroom114 hi0114 hsz114; have KY114 := aM hy114; clear hy114; have KL114 := aM (show ((l1.length : Int) : Int).toNat ≤ t315.length from by omega); replace q114 := eq_true q114) | (go_at_call 19; (with_reducible refine (rollbacknetref08_SameBytes.calls kj40 _ _ y331 _ _ l1 false _ ?side1 ?side2 ?side3 ?side4 A105.out).mono ?_); (case side1 => repeat (first | exact (by repeat (first | (with_reducible exact HR334.out) | (with_reducible refine Kd.C_alloc ?_ _) | (with_reducible refine Kd.C_drewN ?_ _) | (with_reducible refine Kd.C_drew ?_) | exact HR334.out)) | (with_reducible refine Kd.C_alloc ?_ _) | (with_reducible refine Kd.C_drewN ?_ _) | (with_reducible refine Kd.C_drew ?_))); (case side2 => exact HC334.out); (case side3 => repeat (first | exact (Kd.C_below HR1.out (by repeat (first | (with_reducible first | exact HB.out | apply wA | apply wN | apply wD | refine below_set ?_ (IsS62.ge HI281.out) | refine below_set ?_ GE286.out | refine below_set ?_ GE295.out | refine below_set ?_ GE314.out) | exact HB.out))) | (with_reducible refine Kd.C_alloc ?_ _) | (with_reducible refine Kd.C_drewN ?_ _) | (with_reducible refine Kd.C_drew ?_))); (case side4 => exact HC1.out); rintro e w' ⟨rfl, ⟨nd, rfl⟩⟩))
                go_ret
                exact ⟨by first | rfl | (simp [errW_none, errW_some] <;> rfl) | (simp [*, errW_none, errW_some] <;> rfl), by repeat (first | (with_reducible first | exact HB.out | apply wA | apply wN | apply wD | refine below_set ?_ (IsS62.ge HI281.out) | refine below_set ?_ GE286.out | refine below_set ?_ GE295.out | refine below_set ?_ GE314.out) | exact HB.out)⟩
              ·rw [if_neg c104] at H
               exact absurd H (by simp)
             ·rw [if_neg c103] at H
              exact absurd H (by simp)
            ·rw [if_neg c102] at H
             have c102b0 : decide ((t315.length : Int) ≤ (wrap64 ((l1.length : Int) + (l2.length : Int)))) = false := decide_eq_false c102
             clear c102
             obtain rfl := Option.some.inj H
             obtain ⟨Ao115, co115, eo115⟩ := Kd.R_slice HO305.out
             subst eo115
             go_wp2_with (first | (go_at_call 19; (with_reducible refine (rollbacknetref08_SameBytes.calls kj40 _ _ t303 _ _ l1 true _ ?side1 ?side2 ?side3 ?side4 A99.out).mono ?_); (case side1 => repeat (first | exact (Kd.R_reads' HO305.out).2.2 | (with_reducible refine Kd.C_alloc ?_ _) | (with_reducible refine Kd.C_drewN ?_ _) | (with_reducible refine Kd.C_drew ?_))); (case side2 => exact (Kd.R_reads' HO305.out).2.1); (case side3 => repeat (first | exact (Kd.C_below HR1.out HB.out) | (with_reducible refine Kd.C_alloc ?_ _) | (with_reducible refine Kd.C_drewN ?_ _) | (with_reducible refine Kd.C_drew ?_))); (case side4 => exact HC1.out); rintro e w' ⟨rfl, ⟨nd, rfl⟩⟩; obtain ⟨Ao116, co116, eo116⟩ := Kd.R_slice HO317.out; subst eo116))
             go_ret
             exact ⟨by first | rfl | (simp [errW_none, errW_some] <;> rfl) | (simp [*, errW_none, errW_some] <;> rfl), by repeat (first | (with_reducible first | exact HB.out | apply wA | apply wN | apply wD | refine below_set ?_ (IsS62.ge HI281.out) | refine below_set ?_ GE286.out | refine below_set ?_ GE295.out | refine below_set ?_ GE314.out) | exact HB.out)⟩
           ·rw [if_neg c101] at H
            have c101b0 : decide ((l1.length : Int) ≤ (t315.length : Int)) = false := decide_eq_false c101
            have c101b1 : decide (l1.length ≤ t315.length) = false := decide_eq_false (fun h => c101 (Int.ofNat_le.mpr h))
            clear c101
            obtain rfl := Option.some.inj H
            obtain ⟨Ao117, co117, eo117⟩ := Kd.R_slice HO305.out
            subst eo117
            go_wp2_with (first | (go_at_call 19; (with_reducible refine (rollbacknetref08_SameBytes.calls kj40 _ _ t303 _ _ l1 true _ ?side1 ?side2 ?side3 ?side4 A99.out).mono ?_); (case side1 => repeat (first | exact (Kd.R_reads' HO305.out).2.2 | (with_reducible refine Kd.C_alloc ?_ _) | (with_reducible refine Kd.C_drewN ?_ _) | (with_reducible refine Kd.C_drew ?_))); (case side2 => exact (Kd.R_reads' HO305.out).2.1); (case side3 => repeat (first | exact (Kd.C_below HR1.out HB.out) | (with_reducible refine Kd.C_alloc ?_ _) | (with_reducible refine Kd.C_drewN ?_ _) | (with_reducible refine Kd.C_drew ?_))); (case side4 => exact HC1.out); rintro e w' ⟨rfl, ⟨nd, rfl⟩⟩; obtain ⟨Ao118, co118, eo118⟩ := Kd.R_slice HO317.out; subst eo118))
            go_ret
            exact ⟨by first | rfl | (simp [errW_none, errW_some] <;> rfl) | (simp [*, errW_none, errW_some] <;> rfl), by repeat (first | (with_reducible first | exact HB.out | apply wA | apply wN | apply wD | refine below_set ?_ (IsS62.ge HI281.out) | refine below_set ?_ GE286.out | refine below_set ?_ GE295.out | refine below_set ?_ GE314.out) | exact HB.out)⟩
          ·replace c100 := Bool.eq_false_iff.mpr c100
           subst c100
           have H1 : (some false) = some r := by rw [if_neg (show ¬ (false = true) by decide)] at H; exact H
           clear H
           have H := H1
           clear H1
           obtain rfl := Option.some.inj H
           obtain ⟨Ao119, co119, eo119⟩ := Kd.R_slice HO305.out
           subst eo119
           go_wp2_with (first | (go_at_call 19; (with_reducible refine (rollbacknetref08_SameBytes.calls kj40 _ _ t303 _ _ l1 false _ ?side1 ?side2 ?side3 ?side4 A99.out).mono ?_); (case side1 => repeat (first | exact (Kd.R_reads' HO305.out).2.2 | (with_reducible refine Kd.C_alloc ?_ _) | (with_reducible refine Kd.C_drewN ?_ _) | (with_reducible refine Kd.C_drew ?_))); (case side2 => exact (Kd.R_reads' HO305.out).2.1); (case side3 => repeat (first | exact (Kd.C_below HR1.out HB.out) | (with_reducible refine Kd.C_alloc ?_ _) | (with_reducible refine Kd.C_drewN ?_ _) | (with_reducible refine Kd.C_drew ?_))); (case side4 => exact HC1.out); rintro e w' ⟨rfl, ⟨nd, rfl⟩⟩))
           go_ret
           exact ⟨by first | rfl | (simp [errW_none, errW_some] <;> rfl) | (simp [*, errW_none, errW_some] <;> rfl), by repeat (first | (with_reducible first | exact HB.out | apply wA | apply wN | apply wD | refine below_set ?_ (IsS62.ge HI281.out) | refine below_set ?_ GE286.out | refine below_set ?_ GE295.out | refine below_set ?_ GE314.out) | exact HB.out)⟩
         ·rw [if_neg c98] at H
          have c98b0 : (t318 == 0) = false := beq_eq_false_iff_ne.mpr c98
          have c98b1 : (t318 != 0) = true := bne_iff_ne.mpr c98
          obtain rfl := Option.some.inj H
          go_wp2
          go_ret
          exact ⟨by first | rfl | (simp [errW_none, errW_some] <;> rfl) | (simp [*, errW_none, errW_some] <;> rfl), by repeat (first | (with_reducible first | exact HB.out | apply wA | apply wN | apply wD | refine below_set ?_ (IsS62.ge HI281.out) | refine below_set ?_ GE286.out | refine below_set ?_ GE295.out | refine below_set ?_ GE314.out) | exact HB.out)⟩
        ·rw [if_neg c97] at H
         have c97b0 : (t310 == 0) = false := beq_eq_false_iff_ne.mpr c97
         have c97b1 : (t310 != 0) = true := bne_iff_ne.mpr c97
         obtain rfl := Option.some.inj H
         go_wp2
         go_ret
         exact ⟨by first | rfl | (simp [errW_none, errW_some] <;> rfl) | (simp [*, errW_none, errW_some] <;> rfl), by repeat (first | (with_reducible first | exact HB.out | apply wA | apply wN | apply wD | refine below_set ?_ (IsS62.ge HI281.out) | refine below_set ?_ GE286.out | refine below_set ?_ GE295.out | refine below_set ?_ GE314.out) | exact HB.out)⟩
 ·replace c5 := Bool.eq_false_iff.mpr c5
  subst c5
  have H1 : (some false) = some r := by rw [if_neg (show ¬ (false = true) by decide)] at H; exact H
  clear H
  have H := H1
  clear H1
  have HC120 := aM H
  clear H
  go_enter Try.func5, Try.ntmps5
  go_upto_region 2 with (first | ((with_reducible refine gate_callee (f := 9) rfl ?_); refine goesL_ (some 20) rfl rfl Try.func9 (by kernel_rfl) rfl #[] rfl (by (try simp only [List.map_toArray, List.map_cons, List.map_nil]); first | done | rfl | (simp only [List.length_drop, List.length_take]; rfl)) ?_; (with_reducible refine (rollbacknetlaw10_awake.calls k  false _ A4.out).mono ?_); rintro e w121 ⟨rfl, hb⟩; refine ⟨_, rfl, ?_⟩; have n0_ := aM (below_step (by repeat (first | (with_reducible first | exact HB.out | apply wA | apply wN | apply wD) | exact HB.out)) hb); clear HB; have HB := n0_; clear n0_; (try clear hb); (try clear hb2); (try clear hk); (try clear hi)))
  (try simp only [Act.put, List.setIfInBounds_toArray, List.set_cons_zero, List.set_cons_succ])
  have H := HC120.out
  clear HC120
  obtain rfl := Option.some.inj H
  go_wp2
  go_ret
  exact ⟨by first | rfl | (simp [errW_none, errW_some] <;> rfl) | (simp [*, errW_none, errW_some] <;> rfl), by repeat (first | (with_reducible first | exact HB.out | apply wA | apply wN | apply wD) | exact HB.out)⟩

end Go.Proofs.Ytnfbjdnflifcoaa.PDk
