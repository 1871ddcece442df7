-- Laid by wip/tools/xprint.py, a program of this session over the kit's print: functions as Lean functions, each with its contract.
import Derived.Test.YtmlphabhldahlaaPFkx0
import Derived.Test.YtmlphabhldahlaaPFkx3
import Derived.Test.YtmlphabhldahlaaPFkx4
import Derived.Test.YtmlphabhldahlaaPFkx5
import Derived.Test.YtmlphabhldahlaaPFkx6
namespace Go.Proofs.Ytmlphabhldahlaa.PFk
open Go.RowKit Go.Proofs.YtmlphabhldahlaaW.PrintWords Go.Proofs.YtmlphabhldahlaaW.PrintLast Go.Proofs.YtmlphabhldahlaaW.PrintMore
attribute [local go_sem] max2_int min2_int max_two min_two max_three min_three max_four min_four   -- for this text's walks alone
set_option linter.unusedVariables false
set_option linter.unusedSimpArgs false

/-! ### rollbacknetlaw11_FrameSeals: function 3 -/
def rollbacknetlaw11_FrameSeals.l0 : Nat → List (List Int) → Int → Int → Option (Bool)
 | 0, _, _, _ => none
 | k + 1, x21, x22, x23 => if x23 < x22 then (if 0 ≤ x23 then (if x23 < (x21.length : Int) then ((frame_Seal.f (rd_L2 x21 x23)).bind fun bt138 => ((rollbacknetref11_Seal.f (rd_L2 x21 x23)).bind fun bt142 => (if bt138.2 = bt142.2 then ((rollbacknetref08_SameBytes.f k bt138.1 bt142.1).bind fun t146 => (if t146 = true then (rollbacknetlaw11_FrameSeals.l0 k x21 x22 (wrap64 (x23 + 1))) else (some false))) else (some false)))) else (none)) else (none)) else (some true)
def rollbacknetlaw11_FrameSeals.f (k : Nat) (l0 : List Int) (a1 : Int) : Option (Bool) := (rollbacknetlaw11_awake.f k).bind fun t130 => (if t130 = true then (if 0 ≤ (wrap64 (4088 + (Int.tmod (wrap64 (a1)) 16))) then (if (wrap64 (4088 + (Int.tmod (wrap64 (a1)) 16)) : Int).toNat ≤ 281474976710656 then ((some (([l0, (List.replicate (wrap64 (4088 + (Int.tmod (wrap64 (a1)) 16)) : Int).toNat 0)] : List (List Int)) : List (List Int))).bind fun y134 => (rollbacknetlaw11_FrameSeals.l0 k y134 (y134.length : Int) 0)) else (none)) else (none)) else (some false))
theorem rollbacknetlaw11_FrameSeals.mono_l : ∀ k, (∀ y0 y1 y2, LeO (rollbacknetlaw11_FrameSeals.l0 k y0 y1 y2) (rollbacknetlaw11_FrameSeals.l0 (k + 1) y0 y1 y2))
 | 0 => fun _ _ _ r h => by simp [rollbacknetlaw11_FrameSeals.l0] at h
 | k + 1 => by
  have ih0 := rollbacknetlaw11_FrameSeals.mono_l k
  ·intro y0 y1 y2
   unfold rollbacknetlaw11_FrameSeals.l0
   repeat' first
   | (with_reducible exact ih0 _ _ _)
   | (with_reducible exact rollbacknetlaw11_awake.mono _)
   | (with_reducible exact rollbacknetref08_SameBytes.mono _ _ _)
   | (with_reducible exact LeO.refl _)
   | (with_reducible exact LeO.none _)
   | (with_reducible refine LeO.ite ?_ ?_)
   | (with_reducible refine LeO.bind ?_ (fun _ => ?_))
   | exact ih0 _ _ _
   | exact rollbacknetlaw11_awake.mono _
   | exact rollbacknetref08_SameBytes.mono _ _ _
   | exact LeO.none _
   | refine LeO.ite ?_ ?_
   | refine LeO.bind ?_ (fun _ => ?_)
theorem rollbacknetlaw11_FrameSeals.mono : ∀ a0 a1 k, LeO (rollbacknetlaw11_FrameSeals.f k a0 a1) (rollbacknetlaw11_FrameSeals.f (k + 1) a0 a1) := by
 intro a0 a1 k
 have ih0 := rollbacknetlaw11_FrameSeals.mono_l k
 unfold rollbacknetlaw11_FrameSeals.f
 repeat' first
   | (with_reducible exact ih0 _ _ _)
   | (with_reducible exact rollbacknetlaw11_awake.mono _)
   | (with_reducible exact rollbacknetref08_SameBytes.mono _ _ _)
   | (with_reducible exact LeO.refl _)
   | (with_reducible exact LeO.none _)
   | (with_reducible refine LeO.ite ?_ ?_)
   | (with_reducible refine LeO.bind ?_ (fun _ => ?_))
   | exact ih0 _ _ _
   | exact rollbacknetlaw11_awake.mono _
   | exact rollbacknetref08_SameBytes.mono _ _ _
   | exact LeO.none _
   | refine LeO.ite ?_ ?_
   | refine LeO.bind ?_ (fun _ => ?_)
set_option maxHeartbeats 8000000 in
set_option maxRecDepth 100000 in
theorem rollbacknetlaw11_FrameSeals.calls (k : Nat) (P0_ : Nat → Prop) (A0 : Option Addr) (c0 : Nat) (l0 : List Int) (a1 : Int) (r : Bool) (w : World) (hs0 : Kd.V (Kd.int .u8) 5 w w.heap.size (fun k_ => P0_ k_) (.slice A0 l0.length c0) l0) (h : rollbacknetlaw11_FrameSeals.f k l0 a1 = some r) :
  Calls Try.prog 3 #[.slice A0 l0.length c0, .int .u8 a1] w fun e w' => e = .returned (.bool r) ∧ Below w.heap.size w w' := by
 have HO0 := aM (show Kd.V (Kd.int .u8) 5 w w.heap.size (fun k_ => (P0_ k_ ∨ w.heap.size ≤ k_)) (.slice A0 l0.length c0) l0 from Kd.V_mono hs0 (fun k_ hk => .inl hk))
 have HB := aM (Below.refl w.heap.size w)
 have H : ((rollbacknetlaw11_awake.f k).bind fun t130 => (if t130 = true then (if 0 ≤ (wrap64 (4088 + (Int.tmod (wrap64 (a1)) 16))) then (if (wrap64 (4088 + (Int.tmod (wrap64 (a1)) 16)) : Int).toNat ≤ 281474976710656 then ((some (([l0, (List.replicate (wrap64 (4088 + (Int.tmod (wrap64 (a1)) 16)) : Int).toNat 0)] : List (List Int)) : List (List Int))).bind fun y134 => (rollbacknetlaw11_FrameSeals.l0 k y134 (y134.length : Int) 0)) else (none)) else (none)) else (some false))) = some r := h
 clear h
 replace H := Option.bind_eq_some_iff.mp H
 obtain ⟨t130, A30, H⟩ := H
 replace H : (if t130 = true then (if 0 ≤ (wrap64 (4088 + (Int.tmod (wrap64 (a1)) 16))) then (if (wrap64 (4088 + (Int.tmod (wrap64 (a1)) 16)) : Int).toNat ≤ 281474976710656 then ((some (([l0, (List.replicate (wrap64 (4088 + (Int.tmod (wrap64 (a1)) 16)) : Int).toNat 0)] : List (List Int)) : List (List Int))).bind fun y134 => (rollbacknetlaw11_FrameSeals.l0 k y134 (y134.length : Int) 0)) else (none)) else (none)) else (some false)) = some r := H
 have A3 := aM A30
 clear A30
 by_cases c4 : t130 = true
 ·subst c4
  have H1 : (if 0 ≤ (wrap64 (4088 + (Int.tmod (wrap64 (a1)) 16))) then (if (wrap64 (4088 + (Int.tmod (wrap64 (a1)) 16)) : Int).toNat ≤ 281474976710656 then ((some (([l0, (List.replicate (wrap64 (4088 + (Int.tmod (wrap64 (a1)) 16)) : Int).toNat 0)] : List (List Int)) : List (List Int))).bind fun y134 => (rollbacknetlaw11_FrameSeals.l0 k y134 (y134.length : Int) 0)) else (none)) else (none)) = some r := by rw [if_pos rfl] at H; exact H
  clear H
  have H := H1
  clear H1
  obtain ⟨ji5, hji5⟩ : ∃ j_ : Int, (wrap64 (4088 + (Int.tmod (wrap64 (a1)) 16))) = j_ := ⟨_, rfl⟩
  replace H : (if 0 ≤ (ji5) then (if (ji5 : Int).toNat ≤ 281474976710656 then ((some (([l0, (List.replicate (ji5 : Int).toNat 0)] : List (List Int)) : List (List Int))).bind fun y134 => (rollbacknetlaw11_FrameSeals.l0 k y134 (y134.length : Int) 0)) else (none)) else (none)) = some r := by first | (rw [hji5] at H; exact H) | (simp only [hji5] at H ⊢; exact H)
  (try rw [hji5] at A3)
  have hji5w : (IntKind.i64.wrap (4088 + (Int.tmod (wrap64 (a1)) 16))) = ji5 := (i64_w _).trans hji5
  by_cases c6 : 0 ≤ (ji5)
  ·rw [if_pos c6] at H
   have c6b0 := eq_true c6
   have c6b1 : decide (0 ≤ (ji5)) = true := decide_eq_true c6
   clear c6
   by_cases c7 : (ji5 : Int).toNat ≤ 281474976710656
   ·rw [if_pos c7] at H
    have c7b0 := eq_true c7
    have c7b1 : decide ((ji5 : Int).toNat ≤ 281474976710656) = true := decide_eq_true c7
    clear c7
    obtain ⟨y131, hy131⟩ : ∃ y_ : List Int, y_ = (List.replicate (ji5 : Int).toNat 0) := ⟨_, rfl⟩
    replace H : ((some (([l0, y131] : List (List Int)) : List (List Int))).bind fun y134 => (rollbacknetlaw11_FrameSeals.l0 k y134 (y134.length : Int) 0)) = some r := by first | (rw [hy131]; with_reducible exact H) | (have H2_ := (Option.bind_some _ _).symm.trans H; rw [hy131]; with_reducible exact H2_) | (have H2_ := (Option.bind_some _ _).symm.trans H; with_reducible exact H2_) | with_reducible exact H | (rw [hy131]; exact H) | exact H
    have Ny131 := aM hy131
    clear hy131
    obtain ⟨y134, hy134⟩ : ∃ y_ : List (List Int), y_ = (([l0, y131] : List (List Int))) := ⟨_, rfl⟩
    replace H : (rollbacknetlaw11_FrameSeals.l0 k y134 (y134.length : Int) 0) = some r := by first | (rw [hy134]; with_reducible exact H) | (have H2_ := (Option.bind_some _ _).symm.trans H; rw [hy134]; with_reducible exact H2_) | (have H2_ := (Option.bind_some _ _).symm.trans H; with_reducible exact H2_) | with_reducible exact H | (rw [hy134]; exact H) | exact H
    have Ny134 := aM hy134
    clear hy134
    have H' := aM H
    clear H
    go_enter Try.func3, Try.ntmps3
    go_wp2_with (first | ((with_reducible refine gate_callee (f := 9) rfl ?_); refine goesL_ (some 12) rfl rfl Try.func9 (by kernel_rfl) rfl #[] rfl (by (try simp only [List.map_toArray, List.map_cons, List.map_nil]); first | done | rfl | (simp only [List.length_drop, List.length_take]; rfl)) ?_; (with_reducible refine (rollbacknetlaw11_awake.calls k  true _ A3.out).mono ?_); rintro e w8 ⟨rfl, hb⟩; refine ⟨_, rfl, ?_⟩; have n0_ := aM (Kd.V_below (by (with_reducible repeat (first | apply Kd.V_alloc | apply Kd.V_drewN | apply Kd.V_drew)); exact HO0.out) hb); have n1_ := aM (below_step (by repeat (first | (with_reducible first | exact HB.out | apply wA | apply wN | apply wD) | exact HB.out)) hb); clear HO0; clear HB; have HO0 := n0_; have HB := n1_; clear n0_ n1_; (try clear hb); (try clear hb2); (try clear hk); (try clear hi); (try clear hge_)) | ((with_reducible refine gate_dst (N := 18) rfl ?_); refine Kd.R_make (Kd.int .u8) _ 5 rfl (N := 18) rfl 22 _ _ rfl ji5 rfl rfl Try.underlying22 (.int .u8 0) 1 info5 rfl (by decide) (by omega) 0 (ok := fun _ => True) (okp := fun _ => True) rfl (fun _ hk => hk) trivial (of_decide_eq_true (by first | (with_reducible assumption) | assumption)) (Nat.le_trans (Nat.mul_le_mul_right _ (of_decide_eq_true (by first | (with_reducible assumption) | assumption) : ji5.toNat ≤ 281474976710656)) (by omega)) (Below.refl _ _) (Nat.le_refl _) ?_; intro v132 w9 ho10 hb hg_ hnew_; clear hg_ hnew_; (first | rw [← Ny131.out] at ho10 | (simp only [Int.reduceToNat] at ho10; rw [← Ny131.out] at ho10)); have n0_ := aM (Kd.V_elder' (by (with_reducible repeat (first | apply Kd.V_alloc | apply Kd.V_drewN | apply Kd.V_drew)); exact HO0.out) (Kd.R_base ho10) hb); have n1_ := aM (Kd.R_lower (Kd.R_newM (M := fun k_ => (w.heap.size ≤ k_)) ho10 (below_size (by repeat (first | (with_reducible first | exact HB.out | apply wA | apply wN | apply wD) | exact HB.out))) (fun k_ h_ => h_)) (below_size (by repeat (first | (with_reducible first | exact HB.out | apply wA | apply wN | apply wD) | exact HB.out)))); have n2_ := aM (below_step (by repeat (first | (with_reducible first | exact HB.out | apply wA | apply wN | apply wD) | exact HB.out)) hb); clear HO0; clear HB; have HO0 := n0_; have HO133 := n1_; have HB := n2_; clear n0_ n1_ n2_; clear hb ho10; obtain ⟨Ao11, co11, eo11⟩ := Kd.R_slice HO133.out; subst eo11) | ((with_reducible refine gate_dst (N := 21) rfl ?_); refine Kd.N_lit (Kd.slice 5 (Kd.int .u8)) _ 22 ?hg (N' := 21) ?hd (xs := ([l0, y131] : List (List Int))) (inner := [.slice A0 l0.length c0, .slice Ao11 y131.length co11]) (ok := (fun k_ => (P0_ k_ ∨ w.heap.size ≤ k_))) (okp := (fun k_ => (P0_ k_ ∨ w.heap.size ≤ k_))) ?hr ?hp (fun _ hk => hk) ((show ∀ k_, w9.heap.size ≤ k_ → (fun k_ => (P0_ k_ ∨ w.heap.size ≤ k_)) k_ from fun k_ hk => (.inr (Nat.le_trans (below_size (by repeat (first | (with_reducible first | exact HB.out | apply wA | apply wN | apply wD) | exact HB.out))) hk))) _ (Nat.le_refl _)) (Below.refl _ _) (Nat.le_refl _) (by simp) ?_; (case hd => rfl); (case hg => rfl); (case hr => first | (go_simp; done) | (go_simp; rfl)); (case hp => exact (Reps.one (show Kd.FK (Kd.slice 5 (Kd.int .u8)) _ _ l0 [.slice A0 l0.length c0] from (Kd.FK_slice_mk (Kd.V_reads' (Kd.V_mono (ok' := (fun k_ => (P0_ k_ ∨ w.heap.size ≤ k_))) (HO0.out) (fun k_ hk => hk.1))).2.1 (Kd.V_F (Kd.V_mono (ok' := (fun k_ => (P0_ k_ ∨ w.heap.size ≤ k_))) (HO0.out) (fun k_ hk => hk.1))))) (Reps.one (show Kd.FK (Kd.slice 5 (Kd.int .u8)) _ _ y131 [.slice Ao11 y131.length co11] from (Kd.FK_slice_mk (Kd.R_reads' (Kd.R_mono (ok' := (fun k_ => (P0_ k_ ∨ w.heap.size ≤ k_))) (HO133.out) (fun k_ hk => (.inr (hk.1))))).2.1 (Kd.R_F (Kd.R_mono (ok' := (fun k_ => (P0_ k_ ∨ w.heap.size ≤ k_))) (HO133.out) (fun k_ hk => (.inr (hk.1))))))) (Reps.none _ _)))); intro v135 w12 ho13 hb hg_ hnew_; clear hg_ hnew_; (first | rw [← Ny134.out] at ho13 | (simp only [Int.reduceToNat] at ho13; rw [← Ny134.out] at ho13)); have n0_ := aM (Kd.V_elder' (by (with_reducible repeat (first | apply Kd.V_alloc | apply Kd.V_drewN | apply Kd.V_drew)); exact HO0.out) (by first | exact Kd.N_base ho13 | exact Kd.N_base (Kd.S_N ho13)) hb); have n1_ := aM (Kd.N_lower ho13 (below_size (by repeat (first | (with_reducible first | exact HB.out | apply wA | apply wN | apply wD) | exact HB.out)))); have n2_ := aM (below_step (by repeat (first | (with_reducible first | exact HB.out | apply wA | apply wN | apply wD) | exact HB.out)) hb); clear HO0; clear HB; clear HO133; have HO0 := n0_; have HO136 := n1_; have HB := n2_; clear n0_ n1_ n2_; clear hb ho13; obtain ⟨Ao14, co14, eo14⟩ := Kd.N_slice HO136.out; subst eo14))
    go_loopg [23] k (fun kq v23 w' => ∃ (x23_1 : Int), v23 = .int .i64 x23_1 ∧ Aside0 (rollbacknetlaw11_FrameSeals.l0 kq y134 (y134.length : Int) x23_1 = some r) ∧ Aside0 (kq ≤ k) ∧ Aside0 (Kd.N (Kd.slice 5 (Kd.int .u8)) 22 w' w.heap.size (fun k_ => (P0_ k_ ∨ w.heap.size ≤ k_)) (.slice Ao14 y134.length co14) y134) ∧ Aside0 (Below w.heap.size w w'))
    case atStart => exact ⟨(0), (by first | rfl | (simp; done) | (simp [*]; done)), H', ⟨Nat.le_refl _⟩, ⟨by (with_reducible repeat (first | apply Kd.N_alloc | apply Kd.N_drewN | apply Kd.N_drew)); exact HO136.out⟩, ⟨by repeat (first | (with_reducible first | exact HB.out | apply wA | apply wN | apply wD) | exact HB.out)⟩⟩
    case round =>
     clear H'
     try clear p2
     try clear c3
     try clear c4
     try clear c6
     try clear c6b0
     try clear c6b1
     try clear p6
     try clear c7
     try clear c7b0
     try clear c7b1
     try clear c9
     obtain ⟨x23_1, rfl, HA, HK1, HO_21, HB⟩ := hrel
     cases gk with
     | zero => exact absurd HA.out (by simp [rollbacknetlaw11_FrameSeals.l0])
     | succ k1 =>
      have H := HA.out
      clear HA
      simp only [rollbacknetlaw11_FrameSeals.l0] at H
      by_cases c15 : x23_1 < (y134.length : Int)
      ·rw [if_pos c15] at H
       have c15b0 : decide (x23_1 < (y134.length : Int)) = true := decide_eq_true c15
       clear c15
       by_cases c16 : 0 ≤ x23_1
       ·rw [if_pos c16] at H
        have c16b0 : decide (0 ≤ x23_1) = true := decide_eq_true c16
        clear c16
        by_cases c17 : x23_1 < (y134.length : Int)
        ·rw [if_pos c17] at H
         have c17b0 : decide (x23_1 < (y134.length : Int)) = true := decide_eq_true c17
         clear c17
         replace H := Option.bind_eq_some_iff.mp H
         obtain ⟨⟨t138, t139⟩, A180, H⟩ := H
         replace H : ((rollbacknetref11_Seal.f (rd_L2 y134 x23_1)).bind fun bt142 => (if t139 = bt142.2 then ((rollbacknetref08_SameBytes.f k1 t138 bt142.1).bind fun t146 => (if t146 = true then (rollbacknetlaw11_FrameSeals.l0 k1 y134 (y134.length : Int) (wrap64 (x23_1 + 1))) else (some false))) else (some false))) = some r := H
         have A18 := aM A180
         clear A180
         replace H := Option.bind_eq_some_iff.mp H
         obtain ⟨⟨t142, t143⟩, A190, H⟩ := H
         replace H : (if t139 = t143 then ((rollbacknetref08_SameBytes.f k1 t138 t142).bind fun t146 => (if t146 = true then (rollbacknetlaw11_FrameSeals.l0 k1 y134 (y134.length : Int) (wrap64 (x23_1 + 1))) else (some false))) else (some false)) = some r := H
         have A19 := aM A190
         clear A190
         by_cases c20 : t139 = t143
         ·rw [if_pos c20] at H
          have c20b0 : (t139 == t143) = true := beq_iff_eq.mpr c20
          have c20b1 : (t139 != t143) = false := bne_eq_false_iff_eq.mpr c20
          clear c20
          replace H := Option.bind_eq_some_iff.mp H
          obtain ⟨t146, A210, H⟩ := H
          replace H : (if t146 = true then (rollbacknetlaw11_FrameSeals.l0 k1 y134 (y134.length : Int) (wrap64 (x23_1 + 1))) else (some false)) = some r := H
          have A21 := aM A210
          clear A210
          by_cases c22 : t146 = true
          ·subst c22
           have H1 : (rollbacknetlaw11_FrameSeals.l0 k1 y134 (y134.length : Int) (wrap64 (x23_1 + 1))) = some r := by rw [if_pos rfl] at H; exact H
           clear H
           have H := H1
           clear H1
           have H' := aM H
           clear H
           have p137 : 0 ≤ (x23_1 : Int) := of_decide_eq_true (by first | (with_reducible assumption) | assumption)
           have q137 : x23_1 < (y134.length : Int) := of_decide_eq_true (by first | (with_reducible assumption) | assumption)
           obtain ⟨ad137, A137_0, c137_0, e137, hx137_0, hl137_0, hi137_0⟩ := at_L2 (Kd.N_reads' HO_21.out).2.2 x23_1 p137 q137
           cases e137
           obtain ⟨ce137, hce137, hMe137, hcc137⟩ := Kd.N_get HO_21.out [] x23_1 p137 (by first | exact q137 | exact of_decide_eq_true (by first | (with_reducible assumption) | assumption) | (have e_ := (Kd.N_reads' HO_21.out).1; omega))
           obtain ⟨ua137_0, uc137_0, rfl, ul137_0, ge137_0⟩ := Kd.FK_slice_open hMe137
           have hv137_0 := hcc137 0 _ rfl
           rw [Nat.add_zero, show ((Kd.slice 5 (Kd.int .u8))).sz = 1 from rfl, Nat.mul_one] at hv137_0
           replace hv137_0 := Option.some.inj (hv137_0.symm.trans hx137_0)
           injection hv137_0 with hva_ hvn_ hvc_
           rw [hva_] at ge137_0
           rw [hvc_] at ul137_0
           have HL137_0 := aM (show Kd.V (Kd.int .u8) 5 _ w.heap.size _ _ (rd_L2 y134 x23_1) from Kd.V_mk ul137_0 ge137_0)
           clear hva_ hvn_ hvc_ ge137_0 ul137_0
           clear hcc137 hce137
           have HR137_0 := aM hi137_0
           have HC137_0 := aM hl137_0
           clear hi137_0 hl137_0
           replace p137 := eq_true p137
           replace q137 := eq_true q137
           go_wp2_with (first | ((with_reducible refine gate_callee (f := 10) rfl ?_); refine goesL_ (some 29) rfl rfl Try.func10 (by kernel_rfl) rfl #[.slice A137_0 (rd_L2 y134 x23_1).length c137_0] rfl (by (try simp only [List.map_toArray, List.map_cons, List.map_nil]); first | done | rfl | (simp only [List.length_drop, List.length_take]; rfl)) ?_; (with_reducible refine (frame_Seal.calls _ _ (rd_L2 y134 x23_1) t138 t139 _ ?side1 ?side2 A18.out).mono ?_); (case side1 => repeat (first | exact (by repeat (first | (with_reducible exact HR137_0.out) | (with_reducible refine Kd.C_alloc ?_ _) | (with_reducible refine Kd.C_drewN ?_ _) | (with_reducible refine Kd.C_drew ?_) | exact HR137_0.out)) | (with_reducible refine Kd.C_alloc ?_ _) | (with_reducible refine Kd.C_drewN ?_ _) | (with_reducible refine Kd.C_drew ?_))); (case side2 => exact HC137_0.out); rintro e w23 ⟨v140, rfl, ho0, hb⟩; refine ⟨_, rfl, ?_⟩; have n0_ := aM (Kd.N_elder' (by (with_reducible repeat (first | apply Kd.N_alloc | apply Kd.N_drewN | apply Kd.N_drew)); exact HO_21.out) (Kd.R_base ho0) hb); have n1_ := aM (Kd.V_elder' (by (with_reducible repeat (first | apply Kd.V_alloc | apply Kd.V_drewN | apply Kd.V_drew)); exact HL137_0.out) (Kd.R_base ho0) hb); have n2_ := aM (Kd.R_lower (Kd.R_newM (M := fun k_ => (w.heap.size ≤ k_)) ho0 (below_size (by repeat (first | (with_reducible first | exact HB.out | apply wA | apply wN | apply wD) | exact HB.out))) (fun k_ h_ => h_)) (below_size (by repeat (first | (with_reducible first | exact HB.out | apply wA | apply wN | apply wD) | exact HB.out)))); have n3_ := aM (Kd.C_below (by repeat (first | (with_reducible exact HR137_0.out) | (with_reducible refine Kd.C_alloc ?_ _) | (with_reducible refine Kd.C_drewN ?_ _) | (with_reducible refine Kd.C_drew ?_) | exact HR137_0.out)) hb); have n4_ := aM (below_step (by repeat (first | (with_reducible first | exact HB.out | apply wA | apply wN | apply wD) | exact HB.out)) hb); clear HO_21; clear HL137_0; clear HR137_0; clear HB; have HO_21 := n0_; have HL137_0 := n1_; have HO141 := n2_; have HR137_0 := n3_; have HB := n4_; clear n0_ n1_ n2_ n3_ n4_; (try clear hb); (try clear hb2); (try clear hk); (try clear hi); (try clear hge_); (try clear ho0)) | ((with_reducible refine gate_callee (f := 11) rfl ?_); refine goesL_ (some 34) rfl rfl Try.func11 (by kernel_rfl) rfl #[.slice A137_0 (rd_L2 y134 x23_1).length c137_0] rfl (by (try simp only [List.map_toArray, List.map_cons, List.map_nil]); first | done | rfl | (simp only [List.length_drop, List.length_take]; rfl)) ?_; (with_reducible refine (rollbacknetref11_Seal.calls _ _ (rd_L2 y134 x23_1) t142 t143 _ ?side1 ?side2 A19.out).mono ?_); (case side1 => repeat (first | exact (by repeat (first | (with_reducible exact HR137_0.out) | (with_reducible refine Kd.C_alloc ?_ _) | (with_reducible refine Kd.C_drewN ?_ _) | (with_reducible refine Kd.C_drew ?_) | exact HR137_0.out)) | (with_reducible refine Kd.C_alloc ?_ _) | (with_reducible refine Kd.C_drewN ?_ _) | (with_reducible refine Kd.C_drew ?_))); (case side2 => exact HC137_0.out); rintro e w24 ⟨v144, rfl, ho0, hb⟩; refine ⟨_, rfl, ?_⟩; have n0_ := aM (Kd.N_elder' (by (with_reducible repeat (first | apply Kd.N_alloc | apply Kd.N_drewN | apply Kd.N_drew)); exact HO_21.out) (Kd.R_base ho0) hb); have n1_ := aM (Kd.V_elder' (by (with_reducible repeat (first | apply Kd.V_alloc | apply Kd.V_drewN | apply Kd.V_drew)); exact HL137_0.out) (Kd.R_base ho0) hb); have n2_ := aM (Kd.R_elder' (by (with_reducible repeat (first | apply Kd.R_alloc | apply Kd.R_drewN | apply Kd.R_drew)); exact HO141.out) (Kd.R_base ho0) hb); have n3_ := aM (Kd.R_lower (Kd.R_new' (Kd.R_newM (M := fun k_ => (w.heap.size ≤ k_)) ho0 (below_size (by repeat (first | (with_reducible first | exact HB.out | apply wA | apply wN | apply wD) | exact HB.out))) (fun k_ h_ => h_)) (Kd.R_lt (by (with_reducible repeat (first | apply Kd.R_alloc | apply Kd.R_drewN | apply Kd.R_drew)); exact HO141.out))) (below_size (by repeat (first | (with_reducible first | exact HB.out | apply wA | apply wN | apply wD) | exact HB.out)))); have n4_ := aM (Kd.C_below (by repeat (first | (with_reducible exact HR137_0.out) | (with_reducible refine Kd.C_alloc ?_ _) | (with_reducible refine Kd.C_drewN ?_ _) | (with_reducible refine Kd.C_drew ?_) | exact HR137_0.out)) hb); have n5_ := aM (below_step (by repeat (first | (with_reducible first | exact HB.out | apply wA | apply wN | apply wD) | exact HB.out)) hb); clear HO_21; clear HL137_0; clear HO141; clear HR137_0; clear HB; have HO_21 := n0_; have HL137_0 := n1_; have HO141 := n2_; have HO145 := n3_; have HR137_0 := n4_; have HB := n5_; clear n0_ n1_ n2_ n3_ n4_ n5_; (try clear hb); (try clear hb2); (try clear hk); (try clear hi); (try clear hge_); (try clear ho0); obtain ⟨Ao25, co25, eo25⟩ := Kd.R_slice HO141.out; subst eo25; obtain ⟨Ao26, co26, eo26⟩ := Kd.R_slice HO145.out; subst eo26) | (go_at_call 12; (with_reducible refine (rollbacknetref08_SameBytes.calls k1 _ _ t138 _ _ t142 true _ ?side1 ?side2 ?side3 ?side4 A21.out).mono ?_); (case side1 => repeat (first | exact (Kd.R_reads' HO141.out).2.2 | (with_reducible refine Kd.C_alloc ?_ _) | (with_reducible refine Kd.C_drewN ?_ _) | (with_reducible refine Kd.C_drew ?_))); (case side2 => exact (Kd.R_reads' HO141.out).2.1); (case side3 => repeat (first | exact (Kd.R_reads' HO145.out).2.2 | (with_reducible refine Kd.C_alloc ?_ _) | (with_reducible refine Kd.C_drewN ?_ _) | (with_reducible refine Kd.C_drew ?_))); (case side4 => exact (Kd.R_reads' HO145.out).2.1); rintro e w' ⟨rfl, ⟨nd, rfl⟩⟩))
           go_roundg k1
           case measure => have := HK1.out; omega
           case rel => exact ⟨(wrap64 (x23_1 + 1)), (by first | rfl | (simp; done) | (simp [*]; done)), H', ⟨by have := HK1.out; omega⟩, ⟨by (with_reducible repeat (first | apply Kd.N_alloc | apply Kd.N_drewN | apply Kd.N_drew)); exact Kd.N_mono HO_21.out (fun _ hk => hk.1.1)⟩, ⟨by repeat (first | (with_reducible first | exact HB.out | apply wA | apply wN | apply wD) | exact HB.out)⟩⟩
          ·replace c22 := Bool.eq_false_iff.mpr c22
           subst c22
           have H1 : (some false) = some r := by rw [if_neg (show ¬ (false = true) by decide)] at H; exact H
           clear H
           have H := H1
           clear H1
           obtain rfl := Option.some.inj H
           have p137 : 0 ≤ (x23_1 : Int) := of_decide_eq_true (by first | (with_reducible assumption) | assumption)
           have q137 : x23_1 < (y134.length : Int) := of_decide_eq_true (by first | (with_reducible assumption) | assumption)
           obtain ⟨ad137, A137_0, c137_0, e137, hx137_0, hl137_0, hi137_0⟩ := at_L2 (Kd.N_reads' HO_21.out).2.2 x23_1 p137 q137
           cases e137
           obtain ⟨ce137, hce137, hMe137, hcc137⟩ := Kd.N_get HO_21.out [] x23_1 p137 (by first | exact q137 | exact of_decide_eq_true (by first | (with_reducible assumption) | assumption) | (have e_ := (Kd.N_reads' HO_21.out).1; omega))
           obtain ⟨ua137_0, uc137_0, rfl, ul137_0, ge137_0⟩ := Kd.FK_slice_open hMe137
           have hv137_0 := hcc137 0 _ rfl
           rw [Nat.add_zero, show ((Kd.slice 5 (Kd.int .u8))).sz = 1 from rfl, Nat.mul_one] at hv137_0
           replace hv137_0 := Option.some.inj (hv137_0.symm.trans hx137_0)
           injection hv137_0 with hva_ hvn_ hvc_
           rw [hva_] at ge137_0
           rw [hvc_] at ul137_0
           have HL137_0 := aM (show Kd.V (Kd.int .u8) 5 _ w.heap.size _ _ (rd_L2 y134 x23_1) from Kd.V_mk ul137_0 ge137_0)
           clear hva_ hvn_ hvc_ ge137_0 ul137_0
           clear hcc137 hce137
           have HR137_0 := aM hi137_0
           have HC137_0 := aM hl137_0
           clear hi137_0 hl137_0
           replace p137 := eq_true p137
           replace q137 := eq_true q137
           go_wp2_with (first | ((with_reducible refine gate_callee (f := 10) rfl ?_); refine goesL_ (some 29) rfl rfl Try.func10 (by kernel_rfl) rfl #[.slice A137_0 (rd_L2 y134 x23_1).length c137_0] rfl (by (try simp only [List.map_toArray, List.map_cons, List.map_nil]); first | done | rfl | (simp only [List.length_drop, List.length_take]; rfl)) ?_; (with_reducible refine (frame_Seal.calls _ _ (rd_L2 y134 x23_1) t138 t139 _ ?side1 ?side2 A18.out).mono ?_); (case side1 => repeat (first | exact (by repeat (first | (with_reducible exact HR137_0.out) | (with_reducible refine Kd.C_alloc ?_ _) | (with_reducible refine Kd.C_drewN ?_ _) | (with_reducible refine Kd.C_drew ?_) | exact HR137_0.out)) | (with_reducible refine Kd.C_alloc ?_ _) | (with_reducible refine Kd.C_drewN ?_ _) | (with_reducible refine Kd.C_drew ?_))); (case side2 => exact HC137_0.out); rintro e w27 ⟨v140, rfl, ho0, hb⟩; refine ⟨_, rfl, ?_⟩; have n0_ := aM (Kd.N_elder' (by (with_reducible repeat (first | apply Kd.N_alloc | apply Kd.N_drewN | apply Kd.N_drew)); exact HO_21.out) (Kd.R_base ho0) hb); have n1_ := aM (Kd.V_elder' (by (with_reducible repeat (first | apply Kd.V_alloc | apply Kd.V_drewN | apply Kd.V_drew)); exact HL137_0.out) (Kd.R_base ho0) hb); have n2_ := aM (Kd.R_lower (Kd.R_newM (M := fun k_ => (w.heap.size ≤ k_)) ho0 (below_size (by repeat (first | (with_reducible first | exact HB.out | apply wA | apply wN | apply wD) | exact HB.out))) (fun k_ h_ => h_)) (below_size (by repeat (first | (with_reducible first | exact HB.out | apply wA | apply wN | apply wD) | exact HB.out)))); have n3_ := aM (Kd.C_below (by repeat (first | (with_reducible exact HR137_0.out) | (with_reducible refine Kd.C_alloc ?_ _) | (with_reducible refine Kd.C_drewN ?_ _) | (with_reducible refine Kd.C_drew ?_) | exact HR137_0.out)) hb); have n4_ := aM (below_step (by repeat (first | (with_reducible first | exact HB.out | apply wA | apply wN | apply wD) | exact HB.out)) hb); clear HO_21; clear HL137_0; clear HR137_0; clear HB; have HO_21 := n0_; have HL137_0 := n1_; have HO141 := n2_; have HR137_0 := n3_; have HB := n4_; clear n0_ n1_ n2_ n3_ n4_; (try clear hb); (try clear hb2); (try clear hk); (try clear hi); (try clear hge_); (try clear ho0)) | ((with_reducible refine gate_callee (f := 11) rfl ?_); refine goesL_ (some 34) rfl rfl Try.func11 (by kernel_rfl) rfl #[.slice A137_0 (rd_L2 y134 x23_1).length c137_0] rfl (by (try simp only [List.map_toArray, List.map_cons, List.map_nil]); first | done | rfl | (simp only [List.length_drop, List.length_take]; rfl)) ?_; (with_reducible refine (rollbacknetref11_Seal.calls _ _ (rd_L2 y134 x23_1) t142 t143 _ ?side1 ?side2 A19.out).mono ?_); (case side1 => repeat (first | exact (by repeat (first | (with_reducible exact HR137_0.out) | (with_reducible refine Kd.C_alloc ?_ _) | (with_reducible refine Kd.C_drewN ?_ _) | (with_reducible refine Kd.C_drew ?_) | exact HR137_0.out)) | (with_reducible refine Kd.C_alloc ?_ _) | (with_reducible refine Kd.C_drewN ?_ _) | (with_reducible refine Kd.C_drew ?_))); (case side2 => exact HC137_0.out); rintro e w28 ⟨v144, rfl, ho0, hb⟩; refine ⟨_, rfl, ?_⟩; have n0_ := aM (Kd.N_elder' (by (with_reducible repeat (first | apply Kd.N_alloc | apply Kd.N_drewN | apply Kd.N_drew)); exact HO_21.out) (Kd.R_base ho0) hb); have n1_ := aM (Kd.V_elder' (by (with_reducible repeat (first | apply Kd.V_alloc | apply Kd.V_drewN | apply Kd.V_drew)); exact HL137_0.out) (Kd.R_base ho0) hb); have n2_ := aM (Kd.R_elder' (by (with_reducible repeat (first | apply Kd.R_alloc | apply Kd.R_drewN | apply Kd.R_drew)); exact HO141.out) (Kd.R_base ho0) hb); have n3_ := aM (Kd.R_lower (Kd.R_new' (Kd.R_newM (M := fun k_ => (w.heap.size ≤ k_)) ho0 (below_size (by repeat (first | (with_reducible first | exact HB.out | apply wA | apply wN | apply wD) | exact HB.out))) (fun k_ h_ => h_)) (Kd.R_lt (by (with_reducible repeat (first | apply Kd.R_alloc | apply Kd.R_drewN | apply Kd.R_drew)); exact HO141.out))) (below_size (by repeat (first | (with_reducible first | exact HB.out | apply wA | apply wN | apply wD) | exact HB.out)))); have n4_ := aM (Kd.C_below (by repeat (first | (with_reducible exact HR137_0.out) | (with_reducible refine Kd.C_alloc ?_ _) | (with_reducible refine Kd.C_drewN ?_ _) | (with_reducible refine Kd.C_drew ?_) | exact HR137_0.out)) hb); have n5_ := aM (below_step (by repeat (first | (with_reducible first | exact HB.out | apply wA | apply wN | apply wD) | exact HB.out)) hb); clear HO_21; clear HL137_0; clear HO141; clear HR137_0; clear HB; have HO_21 := n0_; have HL137_0 := n1_; have HO141 := n2_; have HO145 := n3_; have HR137_0 := n4_; have HB := n5_; clear n0_ n1_ n2_ n3_ n4_ n5_; (try clear hb); (try clear hb2); (try clear hk); (try clear hi); (try clear hge_); (try clear ho0); obtain ⟨Ao29, co29, eo29⟩ := Kd.R_slice HO141.out; subst eo29; obtain ⟨Ao30, co30, eo30⟩ := Kd.R_slice HO145.out; subst eo30) | (go_at_call 12; (with_reducible refine (rollbacknetref08_SameBytes.calls k1 _ _ t138 _ _ t142 false _ ?side1 ?side2 ?side3 ?side4 A21.out).mono ?_); (case side1 => repeat (first | exact (Kd.R_reads' HO141.out).2.2 | (with_reducible refine Kd.C_alloc ?_ _) | (with_reducible refine Kd.C_drewN ?_ _) | (with_reducible refine Kd.C_drew ?_))); (case side2 => exact (Kd.R_reads' HO141.out).2.1); (case side3 => repeat (first | exact (Kd.R_reads' HO145.out).2.2 | (with_reducible refine Kd.C_alloc ?_ _) | (with_reducible refine Kd.C_drewN ?_ _) | (with_reducible refine Kd.C_drew ?_))); (case side4 => exact (Kd.R_reads' HO145.out).2.1); rintro e w' ⟨rfl, ⟨nd, rfl⟩⟩))
           go_ret
           exact ⟨by first | rfl | (simp [errW_none, errW_some] <;> rfl) | (simp only [← hji5]; first | rfl | (simp [errW_none, errW_some] <;> rfl)) | (simp [*, errW_none, errW_some] <;> rfl), by repeat (first | (with_reducible first | exact HB.out | apply wA | apply wN | apply wD) | exact HB.out)⟩
         ·rw [if_neg c20] at H
          have c20b0 : (t139 == t143) = false := beq_eq_false_iff_ne.mpr c20
          have c20b1 : (t139 != t143) = true := bne_iff_ne.mpr c20
          obtain rfl := Option.some.inj H
          have p137 : 0 ≤ (x23_1 : Int) := of_decide_eq_true (by first | (with_reducible assumption) | assumption)
          have q137 : x23_1 < (y134.length : Int) := of_decide_eq_true (by first | (with_reducible assumption) | assumption)
          obtain ⟨ad137, A137_0, c137_0, e137, hx137_0, hl137_0, hi137_0⟩ := at_L2 (Kd.N_reads' HO_21.out).2.2 x23_1 p137 q137
          cases e137
          obtain ⟨ce137, hce137, hMe137, hcc137⟩ := Kd.N_get HO_21.out [] x23_1 p137 (by first | exact q137 | exact of_decide_eq_true (by first | (with_reducible assumption) | assumption) | (have e_ := (Kd.N_reads' HO_21.out).1; omega))
          obtain ⟨ua137_0, uc137_0, rfl, ul137_0, ge137_0⟩ := Kd.FK_slice_open hMe137
          have hv137_0 := hcc137 0 _ rfl
          rw [Nat.add_zero, show ((Kd.slice 5 (Kd.int .u8))).sz = 1 from rfl, Nat.mul_one] at hv137_0
          replace hv137_0 := Option.some.inj (hv137_0.symm.trans hx137_0)
          injection hv137_0 with hva_ hvn_ hvc_
          rw [hva_] at ge137_0
          rw [hvc_] at ul137_0
          have HL137_0 := aM (show Kd.V (Kd.int .u8) 5 _ w.heap.size _ _ (rd_L2 y134 x23_1) from Kd.V_mk ul137_0 ge137_0)
          clear hva_ hvn_ hvc_ ge137_0 ul137_0
          clear hcc137 hce137
          have HR137_0 := aM hi137_0
          have HC137_0 := aM hl137_0
          clear hi137_0 hl137_0
          replace p137 := eq_true p137
          replace q137 := eq_true q137
          go_wp2_with (first | ((with_reducible refine gate_callee (f := 10) rfl ?_); refine goesL_ (some 29) rfl rfl Try.func10 (by kernel_rfl) rfl #[.slice A137_0 (rd_L2 y134 x23_1).length c137_0] rfl (by (try simp only [List.map_toArray, List.map_cons, List.map_nil]); first | done | rfl | (simp only [List.length_drop, List.length_take]; rfl)) ?_; (with_reducible refine (frame_Seal.calls _ _ (rd_L2 y134 x23_1) t138 t139 _ ?side1 ?side2 A18.out).mono ?_); (case side1 => repeat (first | exact (by repeat (first | (with_reducible exact HR137_0.out) | (with_reducible refine Kd.C_alloc ?_ _) | (with_reducible refine Kd.C_drewN ?_ _) | (with_reducible refine Kd.C_drew ?_) | exact HR137_0.out)) | (with_reducible refine Kd.C_alloc ?_ _) | (with_reducible refine Kd.C_drewN ?_ _) | (with_reducible refine Kd.C_drew ?_))); (case side2 => exact HC137_0.out); rintro e w31 ⟨v140, rfl, ho0, hb⟩; refine ⟨_, rfl, ?_⟩; have n0_ := aM (Kd.N_elder' (by (with_reducible repeat (first | apply Kd.N_alloc | apply Kd.N_drewN | apply Kd.N_drew)); exact HO_21.out) (Kd.R_base ho0) hb); have n1_ := aM (Kd.V_elder' (by (with_reducible repeat (first | apply Kd.V_alloc | apply Kd.V_drewN | apply Kd.V_drew)); exact HL137_0.out) (Kd.R_base ho0) hb); have n2_ := aM (Kd.R_lower (Kd.R_newM (M := fun k_ => (w.heap.size ≤ k_)) ho0 (below_size (by repeat (first | (with_reducible first | exact HB.out | apply wA | apply wN | apply wD) | exact HB.out))) (fun k_ h_ => h_)) (below_size (by repeat (first | (with_reducible first | exact HB.out | apply wA | apply wN | apply wD) | exact HB.out)))); have n3_ := aM (Kd.C_below (by repeat (first | (with_reducible exact HR137_0.out) | (with_reducible refine Kd.C_alloc ?_ _) | (with_reducible refine Kd.C_drewN ?_ _) | (with_reducible refine Kd.C_drew ?_) | exact HR137_0.out)) hb); have n4_ := aM (below_step (by repeat (first | (with_reducible first | exact HB.out | apply wA | apply wN | apply wD) | exact HB.out)) hb); clear HO_21; clear HL137_0; clear HR137_0; clear HB; have HO_21 := n0_; have HL137_0 := n1_; have HO141 := n2_; have HR137_0 := n3_; have HB := n4_; clear n0_ n1_ n2_ n3_ n4_; (try clear hb); (try clear hb2); (try clear hk); (try clear hi); (try clear hge_); (try clear ho0)) | ((with_reducible refine gate_callee (f := 11) rfl ?_); refine goesL_ (some 34) rfl rfl Try.func11 (by kernel_rfl) rfl #[.slice A137_0 (rd_L2 y134 x23_1).length c137_0] rfl (by (try simp only [List.map_toArray, List.map_cons, List.map_nil]); first | done | rfl | (simp only [List.length_drop, List.length_take]; rfl)) ?_; (with_reducible refine (rollbacknetref11_Seal.calls _ _ (rd_L2 y134 x23_1) t142 t143 _ ?side1 ?side2 A19.out).mono ?_); (case side1 => repeat (first | exact (by repeat (first | (with_reducible exact HR137_0.out) | (with_reducible refine Kd.C_alloc ?_ _) | (with_reducible refine Kd.C_drewN ?_ _) | (with_reducible refine Kd.C_drew ?_) | exact HR137_0.out)) | (with_reducible refine Kd.C_alloc ?_ _) | (with_reducible refine Kd.C_drewN ?_ _) | (with_reducible refine Kd.C_drew ?_))); (case side2 => exact HC137_0.out); rintro e w32 ⟨v144, rfl, ho0, hb⟩; refine ⟨_, rfl, ?_⟩; have n0_ := aM (Kd.N_elder' (by (with_reducible repeat (first | apply Kd.N_alloc | apply Kd.N_drewN | apply Kd.N_drew)); exact HO_21.out) (Kd.R_base ho0) hb); have n1_ := aM (Kd.V_elder' (by (with_reducible repeat (first | apply Kd.V_alloc | apply Kd.V_drewN | apply Kd.V_drew)); exact HL137_0.out) (Kd.R_base ho0) hb); have n2_ := aM (Kd.R_elder' (by (with_reducible repeat (first | apply Kd.R_alloc | apply Kd.R_drewN | apply Kd.R_drew)); exact HO141.out) (Kd.R_base ho0) hb); have n3_ := aM (Kd.R_lower (Kd.R_new' (Kd.R_newM (M := fun k_ => (w.heap.size ≤ k_)) ho0 (below_size (by repeat (first | (with_reducible first | exact HB.out | apply wA | apply wN | apply wD) | exact HB.out))) (fun k_ h_ => h_)) (Kd.R_lt (by (with_reducible repeat (first | apply Kd.R_alloc | apply Kd.R_drewN | apply Kd.R_drew)); exact HO141.out))) (below_size (by repeat (first | (with_reducible first | exact HB.out | apply wA | apply wN | apply wD) | exact HB.out)))); have n4_ := aM (Kd.C_below (by repeat (first | (with_reducible exact HR137_0.out) | (with_reducible refine Kd.C_alloc ?_ _) | (with_reducible refine Kd.C_drewN ?_ _) | (with_reducible refine Kd.C_drew ?_) | exact HR137_0.out)) hb); have n5_ := aM (below_step (by repeat (first | (with_reducible first | exact HB.out | apply wA | apply wN | apply wD) | exact HB.out)) hb); clear HO_21; clear HL137_0; clear HO141; clear HR137_0; clear HB; have HO_21 := n0_; have HL137_0 := n1_; have HO141 := n2_; have HO145 := n3_; have HR137_0 := n4_; have HB := n5_; clear n0_ n1_ n2_ n3_ n4_ n5_; (try clear hb); (try clear hb2); (try clear hk); (try clear hi); (try clear hge_); (try clear ho0)))
          go_ret
          exact ⟨by first | rfl | (simp [errW_none, errW_some] <;> rfl) | (simp only [← hji5]; first | rfl | (simp [errW_none, errW_some] <;> rfl)) | (simp [*, errW_none, errW_some] <;> rfl), by repeat (first | (with_reducible first | exact HB.out | apply wA | apply wN | apply wD) | exact HB.out)⟩
        ·rw [if_neg c17] at H
         exact absurd H (by simp)
       ·rw [if_neg c16] at H
        exact absurd H (by simp)
      ·rw [if_neg c15] at H
       have c15b0 : decide (x23_1 < (y134.length : Int)) = false := decide_eq_false c15
       clear c15
       obtain rfl := Option.some.inj H
       go_wp2
       go_ret
       exact ⟨by first | rfl | (simp [errW_none, errW_some] <;> rfl) | (simp only [← hji5]; first | rfl | (simp [errW_none, errW_some] <;> rfl)) | (simp [*, errW_none, errW_some] <;> rfl), by repeat (first | (with_reducible first | exact HB.out | apply wA | apply wN | apply wD) | exact HB.out)⟩
   ·rw [if_neg c7] at H
    exact absurd H (by simp)
  ·rw [if_neg c6] at H
   exact absurd H (by simp)
 ·replace c4 := Bool.eq_false_iff.mpr c4
  subst c4
  have H1 : (some false) = some r := by rw [if_neg (show ¬ (false = true) by decide)] at H; exact H
  clear H
  have H := H1
  clear H1
  obtain rfl := Option.some.inj H
  go_enter Try.func3, Try.ntmps3
  go_wp2_with (first | ((with_reducible refine gate_callee (f := 9) rfl ?_); refine goesL_ (some 12) rfl rfl Try.func9 (by kernel_rfl) rfl #[] rfl (by (try simp only [List.map_toArray, List.map_cons, List.map_nil]); first | done | rfl | (simp only [List.length_drop, List.length_take]; rfl)) ?_; (with_reducible refine (rollbacknetlaw11_awake.calls k  false _ A3.out).mono ?_); rintro e w33 ⟨rfl, hb⟩; refine ⟨_, rfl, ?_⟩; have n0_ := aM (Kd.V_below (by (with_reducible repeat (first | apply Kd.V_alloc | apply Kd.V_drewN | apply Kd.V_drew)); exact HO0.out) hb); have n1_ := aM (below_step (by repeat (first | (with_reducible first | exact HB.out | apply wA | apply wN | apply wD) | exact HB.out)) hb); clear HO0; clear HB; have HO0 := n0_; have HB := n1_; clear n0_ n1_; (try clear hb); (try clear hb2); (try clear hk); (try clear hi); (try clear hge_)))
  go_ret
  exact ⟨by first | rfl | (simp [errW_none, errW_some] <;> rfl) | (simp [*, errW_none, errW_some] <;> rfl), by repeat (first | (with_reducible first | exact HB.out | apply wA | apply wN | apply wD) | exact HB.out)⟩

end Go.Proofs.Ytmlphabhldahlaa.PFk
