-- Laid by wip/tools/xprint.py, a program of this session over the kit's print: functions as Lean functions, each with its contract.
import Derived.Test.YtnfbjdnflifcoaaPDkx0
import Derived.Test.YtnfbjdnflifcoaaPDkx17
import Derived.Test.YtnfbjdnflifcoaaPDkx19
namespace Go.Proofs.Ytnfbjdnflifcoaa.PDk
open Go.RowKit Go.Proofs.YtnfbjdnflifcoaaW.PrintWords Go.Proofs.YtnfbjdnflifcoaaW.PrintLast Go.Proofs.YtnfbjdnflifcoaaW.PrintMore
attribute [local go_sem] max2_int min2_int max_two min_two max_three min_three max_four min_four   -- for this text's walks alone
set_option linter.unusedVariables false
set_option linter.unusedSimpArgs false

/-! ### rollbacknetlaw10_tears: function 18 -/
mutual
def rollbacknetlaw10_tears.l0 : Nat → Int → List (S39) → Int → List Int → Int → Option ((List (S39)) × Int)
 | 0, _, _, _, _, _ => none
 | k + 1, x1, x5, x6, x1000, x1001 => if x6 < x1 then ((rollbacknetmake_Codes_Next.f x1000 x1001 60).bind fun bt265 => ((rollbacknetmake_Codes_Next.f x1000 bt265.2 3).bind fun bt268 => (rollbacknetlaw10_tears.l1 k x1 x5 x6 bt268.1 x1000 bt268.2 (wrap64 (bt265.1 - 2)) ([] : List Int)))) else (some (x5, x1001))
def rollbacknetlaw10_tears.l1 : Nat → Int → List (S39) → Int → Int → List Int → Int → Int → List Int → Option ((List (S39)) × Int)
 | 0, _, _, _, _, _, _, _, _ => none
 | k + 1, x1, x5, x6, x8, x1000, x1001, x268000, x268001 => if x8 > 0 then ((rollbacknetmake_Codes_Next.f x1000 x1001 5).bind fun bt270 => (if x268001.length < 17592186044416 then (rollbacknetlaw10_tears.l1 k x1 x5 x6 (wrap64 (x8 - 1)) x1000 bt270.2 x268000 (x268001 ++ [wrap64 (bt270.1 - 1)])) else (none))) else (if x5.length < 4398046511104 then (rollbacknetlaw10_tears.l0 k x1 (x5 ++ [(⟨x268000, x268001⟩ : S39)]) (wrap64 (x6 + 1)) x1000 x1001) else (none))
end
def rollbacknetlaw10_tears.f (k : Nat) (s0_0 : List Int) (s0_1 : Int) (a1 : Int) : Option ((List (S39)) × Int) := rollbacknetlaw10_tears.l0 k a1 ([] : List (S39)) 0 s0_0 s0_1
theorem rollbacknetlaw10_tears.mono_l : ∀ k, (∀ y0 y1 y2 y3 y4, LeO (rollbacknetlaw10_tears.l0 k y0 y1 y2 y3 y4) (rollbacknetlaw10_tears.l0 (k + 1) y0 y1 y2 y3 y4)) ∧ (∀ y0 y1 y2 y3 y4 y5 y6 y7, LeO (rollbacknetlaw10_tears.l1 k y0 y1 y2 y3 y4 y5 y6 y7) (rollbacknetlaw10_tears.l1 (k + 1) y0 y1 y2 y3 y4 y5 y6 y7))
 | 0 => ⟨fun _ _ _ _ _ r h => by simp [rollbacknetlaw10_tears.l0] at h, fun _ _ _ _ _ _ _ _ r h => by simp [rollbacknetlaw10_tears.l1] at h⟩
 | k + 1 => by
  obtain ⟨ih0, ih1⟩ := rollbacknetlaw10_tears.mono_l k
  refine ⟨?_, ?_⟩
  ·intro y0 y1 y2 y3 y4
   unfold rollbacknetlaw10_tears.l0
   repeat' first
   | (with_reducible exact ih0 _ _ _ _ _)
   | (with_reducible exact ih1 _ _ _ _ _ _ _ _)
   | (with_reducible exact LeO.refl _)
   | (with_reducible exact LeO.none _)
   | (with_reducible refine LeO.ite ?_ ?_)
   | (with_reducible refine LeO.bind ?_ (fun _ => ?_))
   | exact ih0 _ _ _ _ _
   | exact ih1 _ _ _ _ _ _ _ _
   | exact LeO.none _
   | refine LeO.ite ?_ ?_
   | refine LeO.bind ?_ (fun _ => ?_)
  ·intro y0 y1 y2 y3 y4 y5 y6 y7
   unfold rollbacknetlaw10_tears.l1
   repeat' first
   | (with_reducible exact ih0 _ _ _ _ _)
   | (with_reducible exact ih1 _ _ _ _ _ _ _ _)
   | (with_reducible exact LeO.refl _)
   | (with_reducible exact LeO.none _)
   | (with_reducible refine LeO.ite ?_ ?_)
   | (with_reducible refine LeO.bind ?_ (fun _ => ?_))
   | exact ih0 _ _ _ _ _
   | exact ih1 _ _ _ _ _ _ _ _
   | exact LeO.none _
   | refine LeO.ite ?_ ?_
   | refine LeO.bind ?_ (fun _ => ?_)
theorem rollbacknetlaw10_tears.mono : ∀ a0 a1 a2 k, LeO (rollbacknetlaw10_tears.f k a0 a1 a2) (rollbacknetlaw10_tears.f (k + 1) a0 a1 a2) := by
 intro a0 a1 a2 k
 obtain ⟨ih0, ih1⟩ := rollbacknetlaw10_tears.mono_l k
 unfold rollbacknetlaw10_tears.f
 repeat' first
   | (with_reducible exact ih0 _ _ _ _ _)
   | (with_reducible exact ih1 _ _ _ _ _ _ _ _)
   | (with_reducible exact LeO.refl _)
   | (with_reducible exact LeO.none _)
   | (with_reducible refine LeO.ite ?_ ?_)
   | (with_reducible refine LeO.bind ?_ (fun _ => ?_))
   | exact ih0 _ _ _ _ _
   | exact ih1 _ _ _ _ _ _ _ _
   | exact LeO.none _
   | refine LeO.ite ?_ ?_
   | refine LeO.bind ?_ (fun _ => ?_)
def rollbacknetlaw10_tears.T9 : Bool × List (List Nat × List Nat) := (true, [([], []), ([0], [0]), ([], []), ([2], [2]), ([3], [3]), ([4], [4]), ([1, 5, 3], [1, 5]), ([0, 1, 2, 3, 4, 5, 6], []), ([7, 6, 6, 0, 1, 2, 3, 4, 5, 6], [6, 7])])
def rollbacknetlaw10_tears.B9 : List Nat := [0, 1, 0, 4, 12, 28, 63, 127, 255]
theorem rollbacknetlaw10_tears.tab9 : rtab .any (opsOf Try.f18 9) = rollbacknetlaw10_tears.T9 := by kernel_rfl
theorem rollbacknetlaw10_tears.bits9 : waitsOk rollbacknetlaw10_tears.T9.2 rollbacknetlaw10_tears.B9 = true := by kernel_rfl
set_option maxHeartbeats 8000000 in
set_option maxRecDepth 100000 in
theorem rollbacknetlaw10_tears.calls (k : Nat) (g : Nat) (s0_0 : List Int) (s0_1 : Int) (a1 : Int) (r1 : List (S39)) (r2 : Int) (w0 w : World) (hI : IsS62 w0 w g s0_0 s0_1) (hB : Below w0.heap.size w0 w) (h : rollbacknetlaw10_tears.f k s0_0 s0_1 a1 = some (r1, r2)) :
  Calls Try.prog 18 #[.pointer (some ⟨g, 0, none⟩), .int .i64 a1] w fun e w' => ∃ v0_ : Value, e = .returned (v0_) ∧ Kd.S k39 39 w' w.heap.size (fun _ => True) v0_ r1 ∧ IsS62 w0 w' g s0_0 r2 ∧ Below w0.heap.size w0 w' ∧ KeepBut w w' g none := by
 have hu39 := Try.underlying39
 have HI0 := aM hI
 have HK := aM (KeepBut.refl w g none)
 have HL := aM hB.size
 clear hI
 have HW0 := aM hB.size
 have HB := aM hB
 clear hB
 have H : (rollbacknetlaw10_tears.l0 k a1 ([] : List (S39)) 0 s0_0 s0_1) = some (r1, r2) := h
 clear h
 have H' := aM H
 clear H
 go_enter Try.func18, Try.ntmps18
 go_wp2
 go_loopg [5, 6] k (fun kq v5 v6 w' => ∃ (x5_1 : List (S39)) (x6_1 : Int) (x1001_1 : Int), v6 = .int .i64 x6_1 ∧ Aside0 (rollbacknetlaw10_tears.l0 kq a1 x5_1 x6_1 s0_0 x1001_1 = some (r1, r2)) ∧ Aside0 (kq ≤ k) ∧ Aside0 (Kd.S k39 39 w' w.heap.size (fun _ => True) v5 x5_1) ∧ Aside0 (IsS62 w0 w' g s0_0 x1001_1) ∧ Aside0 (KeepBut w w' g none) ∧ Aside0 (Below w0.heap.size w0 w'))
 case atStart => exact ⟨(([] : List (S39))), (0), (s0_1), (by first | rfl | (simp; done) | (simp [*]; done)), H', ⟨Nat.le_refl _⟩, ⟨by first | exact Kd.S_nil _ _ _ _ _ | exact Kd.N_nil _ _ _ _ _ | exact Kd.V_nil _ _ _ _ _ | exact Kd.Q_nil _ _ _ _ _ | exact Kd.R_nil _ _ _ _ _⟩, ⟨by repeat (first | (with_reducible first | exact HI0.out | apply IsS62.alloc | apply IsS62.drewN | apply IsS62.drew | apply IsS62.set_1) | exact HI0.out)⟩, ⟨by repeat (first | (with_reducible first | exact HK.out | apply KeepBut.set_ | apply kN | apply kD | apply kA) | exact HK.out)⟩, ⟨by repeat (first | (with_reducible first | exact HB.out | apply wA | apply wN | apply wD | refine below_set ?_ (IsS62.ge HI0.out)) | exact HB.out)⟩⟩
 case round =>
  clear H'
  try clear c1
  try clear p2
  obtain ⟨x5_1, x6_1, x1001_1, rfl, HA, HK1, HO_5, HI0, HK, HB⟩ := hrel
  cases gk with
  | zero => exact absurd HA.out (by simp [rollbacknetlaw10_tears.l0])
  | succ k1 =>
   have H := HA.out
   clear HA
   simp only [rollbacknetlaw10_tears.l0] at H
   by_cases c3 : x6_1 < a1
   ·rw [if_pos c3] at H
    have c3b0 : decide (x6_1 < a1) = true := decide_eq_true c3
    clear c3
    replace H := Option.bind_eq_some_iff.mp H
    obtain ⟨⟨t265, t266⟩, A40, H⟩ := H
    replace H : ((rollbacknetmake_Codes_Next.f s0_0 t266 3).bind fun bt268 => (rollbacknetlaw10_tears.l1 k1 a1 x5_1 x6_1 bt268.1 s0_0 bt268.2 (wrap64 (t265 - 2)) ([] : List Int))) = some (r1, r2) := H
    have A4 := aM A40
    clear A40
    replace H := Option.bind_eq_some_iff.mp H
    obtain ⟨⟨t268, t269⟩, A50, H⟩ := H
    replace H : (rollbacknetlaw10_tears.l1 k1 a1 x5_1 x6_1 t268 s0_0 t269 (wrap64 (t265 - 2)) ([] : List Int)) = some (r1, r2) := H
    have A5 := aM A50
    clear A50
    have H' := aM H
    clear H
    go_wp2_with (first | ((with_reducible refine gate_callee (f := 29) rfl ?_); refine goesL_ (some 15) rfl rfl Try.func29 (by kernel_rfl) rfl #[.pointer (some ⟨g, 0, none⟩), .int .i64 60] rfl (by (try simp only [List.map_toArray, List.map_cons, List.map_nil]); first | done | rfl | (simp only [List.length_drop, List.length_take]; rfl)) ?_; (with_reducible refine (rollbacknetmake_Codes_Next.calls g s0_0 x1001_1 60 t265 t266 w0 _ ?side1 ?side2 A4.out).mono ?_); (case side1 => repeat (first | (with_reducible first | exact HI0.out | apply IsS62.alloc | apply IsS62.drewN | apply IsS62.drew | apply IsS62.set_1) | exact HI0.out)); (case side2 => repeat (first | (with_reducible first | exact HB.out | apply wA | apply wN | apply wD | refine below_set ?_ (IsS62.ge HI0.out)) | exact HB.out)); rintro e w6 ⟨rfl, hi, hb, hk⟩; refine ⟨_, rfl, ?_⟩; have n0_ := aM (Kd.S_mono (Kd.S_keep (IsS62.apartS (show IsS62 w0 _ g s0_0 x1001_1 from by repeat (first | (with_reducible first | exact HI0.out | apply IsS62.alloc | apply IsS62.drewN | apply IsS62.drew | apply IsS62.set_1) | exact HI0.out)) (by (with_reducible repeat (first | apply Kd.S_alloc | apply Kd.S_drewN | apply Kd.S_drew)); exact HO_5.out) (by decide)) hk (fun _ h => h.2)) (fun _ h => h.1)); have n1_ := aM (KeepBut.trans (by repeat (first | (with_reducible first | exact HK.out | apply KeepBut.set_ | apply kN | apply kD | apply kA) | exact HK.out)) hk (.inl rfl)); have n2_ := aM (hb); have n3_ := aM (hi); clear HO_5; clear HK; clear HB; clear HI0; have HO_5 := n0_; have HK := n1_; have HB := n2_; have HI0 := n3_; clear n0_ n1_ n2_ n3_; (try clear hb); (try clear hb2); (try clear hk); (try clear hi)) | ((with_reducible refine gate_dst (N := 7) rfl ?_); refine box_event ?hg (N := 7) ?hd (cs := #[.int .i64 0, .slice none 0 0]) (t := 39) ?hr ?_; (case hd => rfl); (case hg => rfl); (case hr => first | (go_simp; done) | (go_simp; rfl)); intro gb267 hg w7 hbox hb; have n0_ := aM (Kd.S_below (Kd.S_elderB (by (with_reducible repeat (first | apply Kd.S_alloc | apply Kd.S_drewN | apply Kd.S_drew)); exact HO_5.out) gb267 (Nat.le_of_eq hg.symm)) hb); have n1_ := aM (IsS62.below (by repeat (first | (with_reducible first | exact HI0.out | apply IsS62.alloc | apply IsS62.drewN | apply IsS62.drew | apply IsS62.set_1) | exact HI0.out)) hb); have n2_ := aM (KeepBut.trans (by repeat (first | (with_reducible first | exact HK.out | apply KeepBut.set_ | apply kN | apply kD | apply kA) | exact HK.out)) (KeepBut.of_below hb g none) (.inl rfl)); have n3_ := aM (below_step (by repeat (first | (with_reducible first | exact HB.out | apply wA | apply wN | apply wD | refine below_set ?_ (IsS62.ge HI0.out)) | exact HB.out)) hb); have n4_ := aM (hbox); have n5_ := aM ((by rw [hg]; exact (keep_size (w := w) (g := g) (row := none) (by repeat (first | (with_reducible first | exact HK.out | apply KeepBut.set_ | apply kN | apply kD | apply kA) | exact HK.out))) : w.heap.size ≤ gb267)); have n6_ := aM ((Nat.le_trans HW0.out (by rw [hg]; exact (keep_size (w := w) (g := g) (row := none) (by repeat (first | (with_reducible first | exact HK.out | apply KeepBut.set_ | apply kN | apply kD | apply kA) | exact HK.out))) : w.heap.size ≤ gb267) : w0.heap.size ≤ gb267)); have n7_ := aM ((by rw [hg]; exact Nat.ne_of_lt (IsS62.lt (show IsS62 w0 _ g s0_0 t266 from by repeat (first | (with_reducible first | exact HI0.out | apply IsS62.alloc | apply IsS62.drewN | apply IsS62.drew | apply IsS62.set_1) | exact HI0.out))) : g ≠ gb267)); have n8_ := aM ((by rw [hg]; exact Nat.ne_of_gt (IsS62.lt (show IsS62 w0 _ g s0_0 t266 from by repeat (first | (with_reducible first | exact HI0.out | apply IsS62.alloc | apply IsS62.drewN | apply IsS62.drew | apply IsS62.set_1) | exact HI0.out))) : gb267 ≠ g)); clear HO_5; clear HI0; clear HK; clear HB; have HO_5 := n0_; have HI0 := n1_; have HK := n2_; have HB := n3_; have BK267 := n4_; have GW267 := n5_; have GE267 := n6_; have NB0_267 := n7_; have NB267_0 := n8_; clear n0_ n1_ n2_ n3_ n4_ n5_ n6_ n7_ n8_; clear hb hbox hg; have hnb8 := NB267_0.out; have hnc8 := NB0_267.out; have hcz9_0 : w7.cell? ⟨gb267, 0, none⟩ = some (.int .i64 0) := (blk_cell BK267.out 0).trans rfl; have hcz9_1 : w7.cell? ⟨gb267, 1, none⟩ = some (.slice none 0 0) := (blk_cell BK267.out 1).trans rfl; have hfz9_0 := blk_frozen BK267.out 0; have hfz9_1 := blk_frozen BK267.out 1) | ((with_reducible refine gate_callee (f := 29) rfl ?_); refine goesL_ (some 19) rfl rfl Try.func29 (by kernel_rfl) rfl #[.pointer (some ⟨g, 0, none⟩), .int .i64 3] rfl (by (try simp only [List.map_toArray, List.map_cons, List.map_nil]); first | done | rfl | (simp only [List.length_drop, List.length_take]; rfl)) ?_; (with_reducible refine (rollbacknetmake_Codes_Next.calls g s0_0 t266 3 t268 t269 w0 _ ?side1 ?side2 A5.out).mono ?_); (case side1 => repeat (first | (with_reducible first | exact HI0.out | apply IsS62.alloc | apply IsS62.drewN | apply IsS62.drew | apply IsS62.set_1 | refine IsS62.far ?_ NB0_267.out _) | exact HI0.out)); (case side2 => repeat (first | (with_reducible first | exact HB.out | apply wA | apply wN | apply wD | refine below_set ?_ (IsS62.ge HI0.out) | refine below_set ?_ GE267.out) | exact HB.out)); rintro e w10 ⟨rfl, hi, hb, hk⟩; refine ⟨_, rfl, ?_⟩; have n0_ := aM (Kd.S_mono (Kd.S_keep (IsS62.apartS (show IsS62 w0 _ g s0_0 t266 from by repeat (first | (with_reducible first | exact HI0.out | apply IsS62.alloc | apply IsS62.drewN | apply IsS62.drew | apply IsS62.set_1 | refine IsS62.far ?_ NB0_267.out _) | exact HI0.out)) (by (with_reducible repeat (first | apply Kd.S_alloc | apply Kd.S_drewN | apply Kd.S_drew)); exact (Kd.S_mono (Kd.S_far (p := ⟨gb267, 1, none⟩) (Kd.S_far (p := ⟨gb267, 0, none⟩) (Kd.S_mono HO_5.out (fun k_ hk => (⟨hk, hk.2⟩ : _ ∧ k_ ≠ gb267))) (fun _ hk => hk.2) (.int .i64 (wrap64 (t265 - 2)))) (fun _ hk => hk.2) (.slice none 0 0)) (fun _ h_ => h_.1))) (by decide)) hk (fun _ h => h.2)) (fun _ h => h.1)); have n1_ := aM (KeepBut.blk hk (g' := gb267) (o := .cells #[.int .i64 (wrap64 (t265 - 2)), .slice none 0 0] 39 (0, 0)) (by (with_reducible repeat (first | refine bN ?_ _ | refine bD ?_ | refine bA ?_ _)); refine blk_put (cs := #[.int .i64 (wrap64 (t265 - 2)), .slice none 0 0]) ?_ 1 _ rfl; (with_reducible repeat (first | refine bN ?_ _ | refine bD ?_ | refine bA ?_ _)); refine blk_put (cs := #[.int .i64 0, .slice none 0 0]) ?_ 0 _ rfl; (with_reducible repeat (first | refine bN ?_ _ | refine bD ?_ | refine bA ?_ _)); exact BK267.out) NB267_0.out (by simp)); have n2_ := aM (KeepBut.trans (by repeat (first | (with_reducible first | exact HK.out | apply KeepBut.set_ | apply kN | apply kD | apply kA | refine kF ?_ GW267.out _) | exact HK.out)) hk (.inl rfl)); have n3_ := aM (hb); have n4_ := aM (hi); clear HO_5; clear BK267; clear HK; clear HB; clear HI0; have HO_5 := n0_; have BK267 := n1_; have HK := n2_; have HB := n3_; have HI0 := n4_; clear n0_ n1_ n2_ n3_ n4_; (try clear hb); (try clear hb2); (try clear hk); (try clear hi)))
    go_loopg [8] k1 (fun kq v8 w' => ∃ (x8_2 : Int) (x1001_2 : Int) (x268001_2 : List Int) (u268001 : Value), v8 = .int .i64 x8_2 ∧ Aside0 (rollbacknetlaw10_tears.l1 kq a1 x5_1 x6_1 x8_2 s0_0 x1001_2 (wrap64 (t265 - 2)) x268001_2 = some (r1, r2)) ∧ Aside0 (kq ≤ k1) ∧ Aside0 (Kd.S k39 39 w' w.heap.size (fun k_ => some k_ ≠ (u268001 : Value).ownBlock ∧ k_ ≠ gb267) u5 x5_1) ∧ Aside0 (Kd.R (Kd.int .i64) 3 w' w.heap.size (fun _ => True) u268001 x268001_2) ∧ Aside0 (w'.heap[gb267]? = some (.cells #[.int .i64 (wrap64 (t265 - 2)), u268001] 39 (0, 0))) ∧ Aside0 (IsS62 w0 w' g s0_0 x1001_2) ∧ Aside0 (KeepBut w w' g none) ∧ Aside0 (Below w0.heap.size w0 w'))
    case atStart => exact ⟨(t268), (t269), (([] : List Int)), (.slice none 0 0), (by first | rfl | (simp; done) | (simp [*]; done)), H', ⟨Nat.le_refl _⟩, ⟨by (with_reducible repeat (first | apply Kd.S_alloc | apply Kd.S_drewN | apply Kd.S_drew)); exact Kd.S_mono HO_5.out (fun _ hk => ⟨(by simp [Value.ownBlock]), hk.2⟩)⟩, ⟨by first | exact Kd.R_nil _ _ _ _ _ | exact Kd.N_nil _ _ _ _ _ | exact Kd.V_nil _ _ _ _ _ | exact Kd.Q_nil _ _ _ _ _ | exact Kd.S_nil _ _ _ _ _⟩, ⟨by (with_reducible repeat (first | refine bN ?_ _ | refine bD ?_ | refine bA ?_ _)); exact BK267.out⟩, ⟨by repeat (first | (with_reducible first | exact HI0.out | apply IsS62.alloc | apply IsS62.drewN | apply IsS62.drew | apply IsS62.set_1 | refine IsS62.far ?_ NB0_267.out _) | exact HI0.out)⟩, ⟨by repeat (first | (with_reducible first | exact HK.out | apply KeepBut.set_ | apply kN | apply kD | apply kA | refine kF ?_ GW267.out _) | exact HK.out)⟩, ⟨by repeat (first | (with_reducible first | exact HB.out | apply wA | apply wN | apply wD | refine below_set ?_ (IsS62.ge HI0.out) | refine below_set ?_ GE267.out) | exact HB.out)⟩⟩
    case round =>
     clear H'
     try clear c1
     try clear c2
     try clear p2
     try clear c3
     try clear c3b0
     try clear p6
     try clear c8
     try clear hcz9_0
     try clear hcz9_1
     try clear hfz9_0
     try clear hfz9_1
     try clear p2
     obtain ⟨x8_2, x1001_2, x268001_2, u268001, rfl, HA, HK2, HO_5, HO_268001, BK267, HI0, HK, HB⟩ := hrel
     cases gk with
     | zero => exact absurd HA.out (by simp [rollbacknetlaw10_tears.l1])
     | succ k2 =>
      have H := HA.out
      clear HA
      simp only [rollbacknetlaw10_tears.l1] at H
      by_cases c11 : x8_2 > 0
      ·rw [if_pos c11] at H
       have c11b0 : decide (0 < x8_2) = true := decide_eq_true c11
       clear c11
       replace H := Option.bind_eq_some_iff.mp H
       obtain ⟨⟨t270, t271⟩, A120, H⟩ := H
       replace H : (if x268001_2.length < 17592186044416 then (rollbacknetlaw10_tears.l1 k2 a1 x5_1 x6_1 (wrap64 (x8_2 - 1)) s0_0 t271 (wrap64 (t265 - 2)) (x268001_2 ++ [wrap64 (t270 - 1)])) else (none)) = some (r1, r2) := H
       have A12 := aM A120
       clear A120
       by_cases c13 : x268001_2.length < 17592186044416
       ·rw [if_pos c13] at H
        have LMc13 := aM c13
        clear c13
        obtain ⟨y272, hy272⟩ : ∃ y_ : List Int, y_ = (x268001_2 ++ [wrap64 (t270 - 1)]) := ⟨_, rfl⟩
        replace H : (rollbacknetlaw10_tears.l1 k2 a1 x5_1 x6_1 (wrap64 (x8_2 - 1)) s0_0 t271 (wrap64 (t265 - 2)) y272) = some (r1, r2) := by first | (rw [hy272]; with_reducible exact H) | (have H2_ := (Option.bind_some _ _).symm.trans H; rw [hy272]; with_reducible exact H2_) | (have H2_ := (Option.bind_some _ _).symm.trans H; with_reducible exact H2_) | with_reducible exact H | (rw [hy272]; exact H) | exact H
        have Ny272 := aM hy272
        clear hy272
        have H' := aM H
        clear H
        try go_wp2
        have n0_ := aM (Kd.S_drew HO_5.out)
        have n1_ := aM (Kd.R_drew HO_268001.out)
        have n2_ := aM (bD BK267.out)
        have n3_ := aM (IsS62.drew HI0.out)
        have n4_ := aM (kD HK.out)
        have n5_ := aM (wD HB.out)
        clear HO_5
        clear HO_268001
        clear BK267
        clear HI0
        clear HK
        clear HB
        have HO_5 := n0_
        have HO_268001 := n1_
        have BK267 := n2_
        have HI0 := n3_
        have HK := n4_
        have HB := n5_
        clear n0_ n1_ n2_ n3_ n4_ n5_
        refine start_ (n := 9) (S := fun w' => w'.cell? ⟨gb267, 0, none⟩ = some (.int .i64 (wrap64 (t265 - 2))) ∧ w'.cell? ⟨gb267, 1, none⟩ = some (u268001)) (ds := [8]) #[false, false, false, false, false, false, false, false, false] (by kernel_rfl) rfl rfl ⟨(blk_cell BK267.out 0).trans rfl, (blk_cell BK267.out 1).trans rfl⟩ (fun hHeld => ?_); refine with_tabW rollbacknetlaw10_tears.tab9 rollbacknetlaw10_tears.bits9 (fun HT_ HW_ => ?_)
        generalize wr.drew = w14 at HO_5 HO_268001 BK267 HI0 HK HB hHeld ⊢
        refine pure_ (i := 0) (N := some 24) (v := ?_) (a' := ?_) #[true, false, false, false, false, false, false, false, false] rfl rfl (any_of HT_.out (by kernel_rfl)) (fun _ _ _ h => h) (Or.inl ⟨by rfl, ?_⟩) ?_ ?_
        rotate_left
        ·intro w'
         go_simp
         with_reducible rfl
        rotate_left
        ·simp only [Act.put, List.setIfInBounds_toArray, List.set_cons_zero, List.set_cons_succ, i64_w, i32_w]
         rfl
        refine pure_ (i := 2) (N := some 26) (v := ?_) (a' := ?_) #[true, false, true, false, false, false, false, false, false] rfl rfl (any_of HT_.out (by kernel_rfl)) (fun _ _ _ h => h) (Or.inl ⟨by rfl, ?_⟩) ?_ ?_
        rotate_left
        ·intro w'
         go_simp
         with_reducible rfl
        rotate_left
        ·simp only [Act.put, List.setIfInBounds_toArray, List.set_cons_zero, List.set_cons_succ, i64_w, i32_w]
         rfl
        refine take_ (i := 1) (N := some 25) (v := ?_) (a' := ?_) #[true, true, true, false, false, false, false, false, false] rfl rfl (take_ofW HT_.out HW_.out (by kernel_rfl)) (fun _ _ _ h => h) (Or.inl ⟨by rfl, ?_⟩) hHeld ?_ ?_
        rotate_left
        ·rintro w' ⟨s0, s1⟩
         go_simp
         with_reducible rfl
        rotate_left
        ·simp only [Act.put, List.setIfInBounds_toArray, List.set_cons_zero, List.set_cons_succ, i64_w, i32_w]
         rfl
        refine one_ (i := 3) (N := some 27) #[true, true, true, true, false, false, false, false, false] rfl rfl (one_of HT_.out (by kernel_rfl)) (by decide) (fun K hK => ?_)
        refine goes_ Try.func29 (by kernel_rfl) rfl #[.pointer (some ⟨g, 0, none⟩), .int .i64 5] (by rfl) rfl rfl (by (try simp only [List.map_toArray, List.map_cons, List.map_nil]); first | done | rfl | (simp only [List.length_drop, List.length_take]; rfl)) ?_
        with_reducible refine (rollbacknetmake_Codes_Next.calls g s0_0 x1001_2 5 t270 t271 w0 _ ?side1 ?side2 A12.out).mono ?_
        (case side1 => repeat (first | (with_reducible first | exact HI0.out | apply IsS62.alloc | apply IsS62.drewN | apply IsS62.drew | apply IsS62.set_1 | refine IsS62.far ?_ NB0_267.out _) | exact HI0.out))
        (case side2 => repeat (first | (with_reducible first | exact HB.out | apply wA | apply wN | apply wD | refine below_set ?_ (IsS62.ge HI0.out) | refine below_set ?_ GE267.out) | exact HB.out))
        rintro e w15 ⟨rfl, hi, hb, hk⟩
        refine ⟨_, rfl, ?_⟩
        have n0_ := aM (Kd.S_mono (Kd.S_keep (IsS62.apartS (show IsS62 w0 _ g s0_0 x1001_2 from by repeat (first | (with_reducible first | exact HI0.out | apply IsS62.alloc | apply IsS62.drewN | apply IsS62.drew | apply IsS62.set_1 | refine IsS62.far ?_ NB0_267.out _) | exact HI0.out)) (by (with_reducible repeat (first | apply Kd.S_alloc | apply Kd.S_drewN | apply Kd.S_drew)); exact HO_5.out) (by decide)) hk (fun _ h => h.2)) (fun _ h => h.1))
        have n1_ := aM (Kd.R_mono (Kd.R_keep (IsS62.apart (show IsS62 w0 _ g s0_0 x1001_2 from by repeat (first | (with_reducible first | exact HI0.out | apply IsS62.alloc | apply IsS62.drewN | apply IsS62.drew | apply IsS62.set_1 | refine IsS62.far ?_ NB0_267.out _) | exact HI0.out)) (by (with_reducible repeat (first | apply Kd.R_alloc | apply Kd.R_drewN | apply Kd.R_drew)); exact HO_268001.out) (by decide)) hk (fun _ h => h.2)) (fun _ h => h.1))
        have n2_ := aM (KeepBut.blk hk (g' := gb267) (o := .cells #[.int .i64 (wrap64 (t265 - 2)), u268001] 39 (0, 0)) (by (with_reducible repeat (first | refine bN ?_ _ | refine bD ?_ | refine bA ?_ _)); exact BK267.out) NB267_0.out (by simp))
        have n3_ := aM (KeepBut.trans (by repeat (first | (with_reducible first | exact HK.out | apply KeepBut.set_ | apply kN | apply kD | apply kA | refine kF ?_ GW267.out _) | exact HK.out)) hk (.inl rfl))
        have n4_ := aM (hb)
        have n5_ := aM (hi)
        clear HO_5
        clear HO_268001
        clear BK267
        clear HK
        clear HB
        clear HI0
        have HO_5 := n0_
        have HO_268001 := n1_
        have BK267 := n2_
        have HK := n3_
        have HB := n4_
        have HI0 := n5_
        clear n0_ n1_ n2_ n3_ n4_ n5_
        (try clear hb)
        (try clear hb2)
        (try clear hk)
        (try clear hi)
        refine hK.out _ _ ⟨(blk_cell BK267.out 0).trans rfl, (blk_cell BK267.out 1).trans rfl⟩ (fun hHeld => ?_)
        clear hK K
        refine norm_ (a' := ?_) ?_ ?_
        rotate_left
        ·show Act.put _ (some 27) _ = _
         simp only [Act.put, List.setIfInBounds_toArray, List.set_cons_zero, List.set_cons_succ, i64_w, i32_w]
         rfl
        refine pure_ (i := 4) (N := some 28) (v := ?_) (a' := ?_) #[true, true, true, true, true, false, false, false, false] rfl rfl (any_of HT_.out (by kernel_rfl)) (fun _ _ _ h => h) (Or.inl ⟨by rfl, ?_⟩) ?_ ?_
        rotate_left
        ·intro w'
         go_simp
         with_reducible rfl
        rotate_left
        ·simp only [Act.put, List.setIfInBounds_toArray, List.set_cons_zero, List.set_cons_succ, i64_w, i32_w]
         rfl
        refine one_ (i := 5) (N := some 29) #[true, true, true, true, true, true, false, false, false] rfl rfl (one_of HT_.out (by kernel_rfl)) (by decide) (fun K hK => ?_)
        refine value_ (w1 := ?_) (v := ?_) (by rfl) rfl ?_ ?_
        rotate_left 2
        ·go_simp
         constructor
         ·rfl
         ·rfl
        refine hK.out _ _ ⟨(blk_cell (bA BK267.out _) 0).trans rfl, (blk_cell (bA BK267.out _) 1).trans rfl⟩ (fun hHeld => ?_)
        clear hK K
        refine norm_ (a' := ?_) ?_ ?_
        rotate_left
        ·show Act.put _ (some 29) _ = _
         simp only [Act.put, List.setIfInBounds_toArray, List.set_cons_zero, List.set_cons_succ, i64_w, i32_w]
         rfl
        refine one_ (i := 6) (N := some 30) #[true, true, true, true, true, true, true, false, false] rfl rfl (one_of HT_.out (by kernel_rfl)) (by decide) (fun K hK => ?_)
        refine Kd.R_append_step (Kd.int .i64) w.heap.size (by rfl) (.tmp 25) (.tmp 29) 31 3 (.int .i64 0) 8 rfl Try.underlying31 info3 rfl (by decide) (by omega) u268001 x268001_2 (wrap64 (t270 - 1)) [.int .i64 (wrap64 (t270 - 1))] (fun _ => True) (fun _ => False) rfl rfl ?aP (fun _ hk => hk.elim) ?aF ?aO (Below.refl _ _) ?aS ?aL ?_
        (case aP => exact rfl)
        (case aF => exact (fun _ _ => trivial))
        (case aO => exact (by (with_reducible repeat (first | apply Kd.R_alloc | apply Kd.R_drewN | apply Kd.R_drew)); exact HO_268001.out))
        (case aS => exact (keep_size (w := w) (g := g) (row := none) (by repeat (first | (with_reducible first | exact HK.out | apply KeepBut.set_ | apply kN | apply kD | apply kA | refine kF ?_ GW267.out _) | exact HK.out))))
        (case aL => have := LMc13.out; omega)
        intro v273 w16 ho hb hg hat
        rw [← Ny272.out] at ho
        have n0_ := aM (Kd.S_after (ok := (fun k_ => k_ ≠ gb267)) (by (with_reducible repeat (first | apply Kd.S_alloc | apply Kd.S_drewN | apply Kd.S_drew)); exact Kd.S_mono HO_5.out (fun _ hk => ⟨hk.2, hk.1⟩)) hg hat)
        have n1_ := aM (blk_grown (g := gb267) (o := .cells #[.int .i64 (wrap64 (t265 - 2)), u268001] 39 (0, 0)) (by (with_reducible repeat (first | refine bN ?_ _ | refine bD ?_ | refine bA ?_ _)); exact BK267.out) hg (Kd.R_ne HO_268001.out BK267.out (by decide)))
        have n2_ := aM (IsS62.grown (by repeat (first | (with_reducible first | exact HI0.out | apply IsS62.alloc | apply IsS62.drewN | apply IsS62.drew | apply IsS62.set_1 | refine IsS62.far ?_ NB0_267.out _) | exact HI0.out)) hg (IsS62.own_ne HI0.out HO_268001.out (by decide)))
        have n3_ := aM (below_weaken (by repeat (first | (with_reducible first | exact HB.out | apply wA | apply wN | apply wD | refine below_set ?_ (IsS62.ge HI0.out) | refine below_set ?_ GE267.out) | exact HB.out)) HL.out hb)
        have n4_ := aM (KeepBut.trans (by repeat (first | (with_reducible first | exact HK.out | apply KeepBut.set_ | apply kN | apply kD | apply kA | refine kF ?_ GW267.out _) | exact HK.out)) (KeepBut.of_grown hg g) (Kd.R_base2 HO_268001.out))
        have n5_ := aM (ho)
        clear HO_5
        clear BK267
        clear HI0
        clear HB
        clear HK
        clear HO_268001
        have HO_5 := n0_
        have BK267 := n1_
        have HI0 := n2_
        have HB := n3_
        have HK := n4_
        have HO274 := n5_
        clear n0_ n1_ n2_ n3_ n4_ n5_
        clear ho hb hg hat
        obtain ⟨Ao17, co17, eo17⟩ := Kd.R_slice HO274.out
        (first | subst eo17 | (injection eo17 with f1_ f2_ f3_; have f4_ := f1_.symm; have f5_ := f3_.symm; clear f1_ f2_ f3_; subst f4_; subst f5_))
        refine hK.out _ _ ⟨(blk_cell BK267.out 0).trans rfl, (blk_cell BK267.out 1).trans rfl⟩ (fun hHeld => ?_)
        clear hK K
        refine norm_ (a' := ?_) ?_ ?_
        rotate_left
        ·show Act.put _ (some 30) _ = _
         simp only [Act.put, List.setIfInBounds_toArray, List.set_cons_zero, List.set_cons_succ, i64_w, i32_w]
         rfl
        refine pure_ (i := 7) (N := some 31) (v := ?_) (a' := ?_) #[true, true, true, true, true, true, true, true, false] rfl rfl (any_of HT_.out (by kernel_rfl)) (fun _ _ _ h => h) (Or.inl ⟨by rfl, ?_⟩) ?_ ?_
        rotate_left
        ·intro w'
         go_simp
         with_reducible rfl
        rotate_left
        ·simp only [Act.put, List.setIfInBounds_toArray, List.set_cons_zero, List.set_cons_succ, i64_w, i32_w]
         rfl
        refine last_ (i := 8) (N := none) #[true, true, true, true, true, true, true, true, true] rfl rfl (one_of HT_.out (by kernel_rfl)) (by decide) (fun K hK => ?_)
        have hs18 : w16.cell? ⟨gb267, 1, none⟩ = some (u268001) := (blk_cell BK267.out 1).trans rfl
        have hfs18 := blk_frozen BK267.out 1
        refine skip_ (w1 := ?_) (by rfl) rfl ?_ ?_
        rotate_left
        ·go_simp
         rfl
        refine hK.out _ _ ?_
        clear hK K
        refine done_ (done_of HT_.out (by kernel_rfl)) ?_
        try go_wp2
        go_roundg k2
        case measure => have := HK1.out; have := HK2.out; omega
        case rel => exact ⟨(wrap64 (x8_2 - 1)), (t271), (y272), (.slice Ao17 y272.length co17), (by first | rfl | (simp; done) | (simp [*]; done)), H', ⟨by have := HK1.out; have := HK2.out; omega⟩, ⟨by (with_reducible repeat (first | apply Kd.S_alloc | apply Kd.S_drewN | apply Kd.S_drew)); exact Kd.S_mono (Kd.S_far (p := ⟨gb267, 1, none⟩) (Kd.S_mono HO_5.out (fun k_ hk => (⟨hk, hk.1⟩ : _ ∧ k_ ≠ gb267))) (fun _ hk => hk.2) (.slice Ao17 y272.length co17)) (fun _ hk => ⟨hk.1.2, hk.1.1⟩)⟩, ⟨by (with_reducible repeat (first | apply Kd.R_alloc | apply Kd.R_drewN | apply Kd.R_drew)); exact Kd.R_mono (Kd.R_far (p := ⟨gb267, 1, none⟩) (Kd.R_types HO274.out BK267.out (by decide)) (fun _ hk => hk.2) (.slice Ao17 y272.length co17)) (fun _ hk => trivial)⟩, ⟨by (with_reducible repeat (first | refine bN ?_ _ | refine bD ?_ | refine bA ?_ _)); refine blk_put (cs := #[.int .i64 (wrap64 (t265 - 2)), u268001]) ?_ 1 _ rfl; (with_reducible repeat (first | refine bN ?_ _ | refine bD ?_ | refine bA ?_ _)); exact BK267.out⟩, ⟨by repeat (first | (with_reducible first | exact HI0.out | apply IsS62.alloc | apply IsS62.drewN | apply IsS62.drew | apply IsS62.set_1 | refine IsS62.far ?_ NB0_267.out _) | exact HI0.out)⟩, ⟨by repeat (first | (with_reducible first | exact HK.out | apply KeepBut.set_ | apply kN | apply kD | apply kA | refine kF ?_ GW267.out _) | exact HK.out)⟩, ⟨by repeat (first | (with_reducible first | exact HB.out | apply wA | apply wN | apply wD | refine below_set ?_ (IsS62.ge HI0.out) | refine below_set ?_ GE267.out) | exact HB.out)⟩⟩
       ·rw [if_neg c13] at H
        exact absurd H (by simp)
      ·rw [if_neg c11] at H
       have c11b0 : decide (0 < x8_2) = false := decide_eq_false c11
       clear c11
       by_cases c19 : x5_1.length < 4398046511104
       ·rw [if_pos c19] at H
        have LMc19 := aM c19
        clear c19
        obtain ⟨y275, hy275⟩ : ∃ y_ : List (S39), y_ = (x5_1 ++ [(⟨(wrap64 (t265 - 2)), x268001_2⟩ : S39)]) := ⟨_, rfl⟩
        replace H : (rollbacknetlaw10_tears.l0 k2 a1 y275 (wrap64 (x6_1 + 1)) s0_0 x1001_2) = some (r1, r2) := by first | (rw [hy275]; with_reducible exact H) | (have H2_ := (Option.bind_some _ _).symm.trans H; rw [hy275]; with_reducible exact H2_) | (have H2_ := (Option.bind_some _ _).symm.trans H; with_reducible exact H2_) | with_reducible exact H | (rw [hy275]; exact H) | exact H
        have Ny275 := aM hy275
        clear hy275
        have H' := aM H
        clear H
        have hnb20 := NB267_0.out
        have hnc20 := NB0_267.out
        have hcz21_0 : wr.cell? ⟨gb267, 0, none⟩ = some (.int .i64 (wrap64 (t265 - 2))) := (blk_cell BK267.out 0).trans rfl
        have hcz21_1 : wr.cell? ⟨gb267, 1, none⟩ = some (u268001) := (blk_cell BK267.out 1).trans rfl
        have hfz21_0 := blk_frozen BK267.out 0
        have hfz21_1 := blk_frozen BK267.out 1
        obtain ⟨Ao23, co23, eo23⟩ := Kd.R_slice HO_268001.out
        subst eo23
        go_wp2_with (first | ((with_reducible refine gate_builtin (b := .append) (xs := #[(.tmp 32), .tmp 34]) rfl ?_); at_builtin; refine Kd.S_append k39 w.heap.size rfl (.tmp 32) (.tmp 34) 25 39 (.agg #[(.int .i64 0), (.slice none 0 0)]) 32 rfl Try.underlying25 info39 rfl (by decide) (by omega) u5 x5_1 (⟨(wrap64 (t265 - 2)), x268001_2⟩ : S39) [.int .i64 (wrap64 (t265 - 2)), .slice Ao23 x268001_2.length co23] (fun k_ => k_ ≠ gb267) (fun k_ => some k_ = (.slice Ao23 x268001_2.length co23 : Value).ownBlock) rfl rfl ?aP (fun k_ hk_ => ((Kd.R_mono (ok' := fun k_ => ((fun k_ => k_ ≠ gb267)) k_ ∧ some k_ ≠ (u5 : Value).ownBlock) (Kd.R_types (Kd.R_apart' (HO_268001.out) (Kd.S_typed HO_5.out) (by decide)) BK267.out (by decide)) (fun k_ hk => ⟨hk.2, hk.1.2⟩))).1 k_ hk_.symm) ?aF ?aO (Below.refl _ _) ?aS ?aL ?_; (case aP => exact k39_mkM _ _ _ (⟨(wrap64 (t265 - 2)), x268001_2⟩ : S39) (Kd.R_mono (Kd.R_tight rfl (Kd.R_mono (ok' := fun k_ => ((fun k_ => k_ ≠ gb267)) k_ ∧ some k_ ≠ (u5 : Value).ownBlock) (Kd.R_types (Kd.R_apart' (HO_268001.out) (Kd.S_typed HO_5.out) (by decide)) BK267.out (by decide)) (fun k_ hk => ⟨hk.2, hk.1.2⟩))) (fun _ h_ => h_))); (case aF => exact (fun k_ hk => Kd.freshB (g := gb267) (o := .cells #[.int .i64 (wrap64 (t265 - 2)), .slice Ao23 x268001_2.length co23] 39 (0, 0)) (by (with_reducible repeat (first | refine bN ?_ _ | refine bD ?_ | refine bA ?_ _)); exact BK267.out) k_ hk)); (case aO => exact (by (with_reducible repeat (first | apply Kd.S_alloc | apply Kd.S_drewN | apply Kd.S_drew)); exact Kd.S_mono HO_5.out (fun k_ hk => ⟨hk.2, fun e_ => hk.1 e_⟩))); (case aS => exact (keep_size (w := w) (g := g) (row := none) (by repeat (first | (with_reducible first | exact HK.out | apply KeepBut.set_ | apply kN | apply kD | apply kA | refine kF ?_ GW267.out _) | exact HK.out)))); (case aL => have := LMc19.out; omega); intro v276 w22 ho hb hg hat; rw [← Ny275.out] at ho; have n0_ := aM (blk_grown (g := gb267) (o := .cells #[.int .i64 (wrap64 (t265 - 2)), .slice Ao23 x268001_2.length co23] 39 (0, 0)) (by (with_reducible repeat (first | refine bN ?_ _ | refine bD ?_ | refine bA ?_ _)); exact BK267.out) hg (Kd.S_away HO_5.out (fun _ hk => hk.2))); have n1_ := aM (IsS62.grown (by repeat (first | (with_reducible first | exact HI0.out | apply IsS62.alloc | apply IsS62.drewN | apply IsS62.drew | apply IsS62.set_1 | refine IsS62.far ?_ NB0_267.out _) | exact HI0.out)) hg (IsS62.own_neS HI0.out HO_5.out (by decide))); have n2_ := aM (below_weaken (by repeat (first | (with_reducible first | exact HB.out | apply wA | apply wN | apply wD | refine below_set ?_ (IsS62.ge HI0.out) | refine below_set ?_ GE267.out) | exact HB.out)) HL.out hb); have n3_ := aM (KeepBut.trans (by repeat (first | (with_reducible first | exact HK.out | apply KeepBut.set_ | apply kN | apply kD | apply kA | refine kF ?_ GW267.out _) | exact HK.out)) (KeepBut.of_grown hg g) (Kd.S_base2 HO_5.out)); have n4_ := aM (ho); clear BK267; clear HI0; clear HB; clear HK; clear HO_5; clear HO_268001; have BK267 := n0_; have HI0 := n1_; have HB := n2_; have HK := n3_; have HO277 := n4_; clear n0_ n1_ n2_ n3_ n4_; clear ho hb hg hat))
        go_roundg k2
        case measure => have := HK1.out; have := HK2.out; omega
        case rel => exact ⟨(y275), (wrap64 (x6_1 + 1)), (x1001_2), (by first | rfl | (simp; done) | (simp [*]; done)), H', ⟨by have := HK1.out; have := HK2.out; omega⟩, ⟨by (with_reducible repeat (first | apply Kd.S_alloc | apply Kd.S_drewN | apply Kd.S_drew)); exact Kd.S_mono HO277.out (fun _ hk => trivial)⟩, ⟨by repeat (first | (with_reducible first | exact HI0.out | apply IsS62.alloc | apply IsS62.drewN | apply IsS62.drew | apply IsS62.set_1 | refine IsS62.far ?_ NB0_267.out _) | exact HI0.out)⟩, ⟨by repeat (first | (with_reducible first | exact HK.out | apply KeepBut.set_ | apply kN | apply kD | apply kA | refine kF ?_ GW267.out _) | exact HK.out)⟩, ⟨by repeat (first | (with_reducible first | exact HB.out | apply wA | apply wN | apply wD | refine below_set ?_ (IsS62.ge HI0.out) | refine below_set ?_ GE267.out) | exact HB.out)⟩⟩
       ·rw [if_neg c19] at H
        exact absurd H (by simp)
   ·rw [if_neg c3] at H
    have c3b0 : decide (x6_1 < a1) = false := decide_eq_false c3
    clear c3
    simp only [Option.some.injEq, Prod.mk.injEq] at H
    obtain ⟨rfl, rfl⟩ := H
    go_wp2
    go_ret
    exact ⟨_, by first | rfl | (simp [errW_none, errW_some] <;> rfl) | (simp [*, errW_none, errW_some] <;> rfl), by (with_reducible repeat (first | apply Kd.S_alloc | apply Kd.S_drewN | apply Kd.S_drew)); exact HO_5.out, by repeat (first | (with_reducible first | exact HI0.out | apply IsS62.alloc | apply IsS62.drewN | apply IsS62.drew | apply IsS62.set_1) | exact HI0.out), by repeat (first | (with_reducible first | exact HB.out | apply wA | apply wN | apply wD | refine below_set ?_ (IsS62.ge HI0.out)) | exact HB.out), by repeat (first | (with_reducible first | exact HK.out | apply KeepBut.set_ | apply kN | apply kD | apply kA) | exact HK.out)⟩

end Go.Proofs.Ytnfbjdnflifcoaa.PDk
