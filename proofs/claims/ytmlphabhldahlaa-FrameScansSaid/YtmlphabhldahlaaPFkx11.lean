-- Laid by wip/tools/xprint.py, a program of this session over the kit's print: functions as Lean functions, each with its contract.
import Derived.Test.YtmlphabhldahlaaPFkx0
import Derived.Test.YtmlphabhldahlaaPFkx9
import Derived.Test.YtmlphabhldahlaaPFkx10
namespace Go.Proofs.Ytmlphabhldahlaa.PFk
open Go.RowKit Go.Proofs.YtmlphabhldahlaaW.PrintWords Go.Proofs.YtmlphabhldahlaaW.PrintLast Go.Proofs.YtmlphabhldahlaaW.PrintMore
attribute [local go_sem] max2_int min2_int max_two min_two max_three min_three max_four min_four   -- for this text's walks alone
set_option linter.unusedVariables false
set_option linter.unusedSimpArgs false

/-! ### rollbacknetlaw11_bodies: function 14 -/
def rollbacknetlaw11_bodies.l0 : Nat → List (List Int) → Int → List Int → Int → Option ((List (List Int)))
 | 0, _, _, _, _ => none
 | k + 1, x4, x5, x171000, x171001 => if x5 > 0 then ((rollbacknetmake_Codes_Bytes.f k x171000 x171001 12).bind fun bt173 => (if x4.length < 5864062014805 then (rollbacknetlaw11_bodies.l0 k (x4 ++ [bt173.1]) (wrap64 (x5 - 1)) x171000 bt173.2) else (none))) else (some x4)
def rollbacknetlaw11_bodies.f (k : Nat) (l0 : List Int) : Option ((List (List Int))) := (rollbacknetmake_New.f l0 120).bind fun bt168 => ((rollbacknetmake_Codes_Next.f bt168.1 bt168.2 5).bind fun bt171 => (rollbacknetlaw11_bodies.l0 k ([] : List (List Int)) bt171.1 bt168.1 bt171.2))
theorem rollbacknetlaw11_bodies.mono_l : ∀ k, (∀ y0 y1 y2 y3, LeO (rollbacknetlaw11_bodies.l0 k y0 y1 y2 y3) (rollbacknetlaw11_bodies.l0 (k + 1) y0 y1 y2 y3))
 | 0 => fun _ _ _ _ r h => by simp [rollbacknetlaw11_bodies.l0] at h
 | k + 1 => by
  have ih0 := rollbacknetlaw11_bodies.mono_l k
  ·intro y0 y1 y2 y3
   unfold rollbacknetlaw11_bodies.l0
   repeat' first
   | (with_reducible exact ih0 _ _ _ _)
   | (with_reducible exact rollbacknetmake_Codes_Bytes.mono _ _ _ _)
   | (with_reducible exact LeO.refl _)
   | (with_reducible exact LeO.none _)
   | (with_reducible refine LeO.ite ?_ ?_)
   | (with_reducible refine LeO.bind ?_ (fun _ => ?_))
   | exact ih0 _ _ _ _
   | exact rollbacknetmake_Codes_Bytes.mono _ _ _ _
   | exact LeO.none _
   | refine LeO.ite ?_ ?_
   | refine LeO.bind ?_ (fun _ => ?_)
theorem rollbacknetlaw11_bodies.mono : ∀ a0 k, LeO (rollbacknetlaw11_bodies.f k a0) (rollbacknetlaw11_bodies.f (k + 1) a0) := by
 intro a0 k
 have ih0 := rollbacknetlaw11_bodies.mono_l k
 unfold rollbacknetlaw11_bodies.f
 repeat' first
   | (with_reducible exact ih0 _ _ _ _)
   | (with_reducible exact rollbacknetmake_Codes_Bytes.mono _ _ _ _)
   | (with_reducible exact LeO.refl _)
   | (with_reducible exact LeO.none _)
   | (with_reducible refine LeO.ite ?_ ?_)
   | (with_reducible refine LeO.bind ?_ (fun _ => ?_))
   | exact ih0 _ _ _ _
   | exact rollbacknetmake_Codes_Bytes.mono _ _ _ _
   | exact LeO.none _
   | refine LeO.ite ?_ ?_
   | refine LeO.bind ?_ (fun _ => ?_)
set_option maxHeartbeats 8000000 in
set_option maxRecDepth 100000 in
theorem rollbacknetlaw11_bodies.calls (k : Nat) (A0 : Option Addr) (c0 : Nat) (l0 : List Int) (r : List (List Int)) (w : World) (hr0 : Kd.C (Kd.int .u8) w A0 l0.length l0) (hc0 : l0.length ≤ c0) (h : rollbacknetlaw11_bodies.f k l0 = some r) :
  Calls Try.prog 14 #[.slice A0 l0.length c0] w fun e w' => ∃ v0_ : Value, e = .returned (v0_) ∧ Kd.S (Kd.slice 5 (Kd.int .u8)) 22 w' w.heap.size (fun _ => True) v0_ r ∧ Below w.heap.size w w' := by
 have HR0 := aM hr0
 have HC0 := aM hc0
 clear hr0 hc0
 have HB := aM (Below.refl w.heap.size w)
 have H : ((rollbacknetmake_New.f l0 120).bind fun bt168 => ((rollbacknetmake_Codes_Next.f bt168.1 bt168.2 5).bind fun bt171 => (rollbacknetlaw11_bodies.l0 k ([] : List (List Int)) bt171.1 bt168.1 bt171.2))) = some r := h
 clear h
 replace H := Option.bind_eq_some_iff.mp H
 obtain ⟨⟨t168, t169⟩, A20, H⟩ := H
 replace H : ((rollbacknetmake_Codes_Next.f t168 t169 5).bind fun bt171 => (rollbacknetlaw11_bodies.l0 k ([] : List (List Int)) bt171.1 t168 bt171.2)) = some r := H
 have A2 := aM A20
 clear A20
 replace H := Option.bind_eq_some_iff.mp H
 obtain ⟨⟨t171, t172⟩, A30, H⟩ := H
 replace H : (rollbacknetlaw11_bodies.l0 k ([] : List (List Int)) t171 t168 t172) = some r := H
 have A3 := aM A30
 clear A30
 have H' := aM H
 clear H
 go_enter Try.func14, Try.ntmps14
 go_wp2_with (first | ((with_reducible refine gate_callee (f := 23) rfl ?_); refine goesL_ (some 7) rfl rfl Try.func23 (by kernel_rfl) rfl #[.slice A0 l0.length c0, .int .i64 120] rfl (by (try simp only [List.map_toArray, List.map_cons, List.map_nil]); first | done | rfl | (simp only [List.length_drop, List.length_take]; rfl)) ?_; (with_reducible refine (rollbacknetmake_New.calls _ _ l0 120 t168 t169 w _ ?side1 ?side2 ?side3 A2.out).mono ?_); (case side1 => repeat (first | (with_reducible first | exact HB.out | apply wA | apply wN | apply wD) | exact HB.out)); (case side2 => exact HR0.out); (case side3 => exact HC0.out); rintro e w4 ⟨g170, rfl, hi, hb, hb2, hge_⟩; refine ⟨_, rfl, ?_⟩; have n0_ := aM (hb); have n1_ := aM (hi); clear HB; have HB := n0_; have HI170 := n1_; clear n0_ n1_; (try clear hb); (try clear hb2); (try clear hk); (try clear hi); (try clear hge_)) | ((with_reducible refine gate_callee (f := 24) rfl ?_); refine goesL_ (some 9) rfl rfl Try.func24 (by kernel_rfl) rfl #[.pointer (some ⟨g170, 0, none⟩), .int .i64 5] rfl (by (try simp only [List.map_toArray, List.map_cons, List.map_nil]); first | done | rfl | (simp only [List.length_drop, List.length_take]; rfl)) ?_; (with_reducible refine (rollbacknetmake_Codes_Next.calls g170 t168 t169 5 t171 t172 w _ ?side1 ?side2 A3.out).mono ?_); (case side1 => repeat (first | (with_reducible first | exact HI170.out | apply IsS60.alloc | apply IsS60.drewN | apply IsS60.drew | apply IsS60.set_1) | exact HI170.out)); (case side2 => repeat (first | (with_reducible first | exact HB.out | apply wA | apply wN | apply wD | refine below_set ?_ (IsS60.ge HI170.out)) | exact HB.out)); rintro e w5 ⟨rfl, hi, hb, hk⟩; refine ⟨_, rfl, ?_⟩; have n0_ := aM (hb); have n1_ := aM (hi); clear HB; clear HI170; have HB := n0_; have HI170 := n1_; clear n0_ n1_; (try clear hb); (try clear hb2); (try clear hk); (try clear hi); (try clear hge_)))
 go_loopg [4, 5] k (fun kq v4 v5 w' => ∃ (x4_1 : List (List Int)) (x5_1 : Int) (x171001_1 : Int), v5 = .int .i64 x5_1 ∧ Aside0 (rollbacknetlaw11_bodies.l0 kq x4_1 x5_1 t168 x171001_1 = some r) ∧ Aside0 (kq ≤ k) ∧ Aside0 (Kd.S (Kd.slice 5 (Kd.int .u8)) 22 w' w.heap.size (fun _ => True) v4 x4_1) ∧ Aside0 (IsS60 w w' g170 t168 x171001_1) ∧ Aside0 (Below w.heap.size w w'))
 case atStart => exact ⟨(([] : List (List Int))), (t171), (t172), (by first | rfl | (simp; done) | (simp [*]; done)), H', ⟨Nat.le_refl _⟩, ⟨by first | exact Kd.S_nil _ _ _ _ _ | exact Kd.N_nil _ _ _ _ _ | exact Kd.V_nil _ _ _ _ _ | exact Kd.Q_nil _ _ _ _ _ | exact Kd.R_nil _ _ _ _ _⟩, ⟨by repeat (first | (with_reducible first | exact HI170.out | apply IsS60.alloc | apply IsS60.drewN | apply IsS60.drew | apply IsS60.set_1) | exact HI170.out)⟩, ⟨by repeat (first | (with_reducible first | exact HB.out | apply wA | apply wN | apply wD | refine below_set ?_ (IsS60.ge HI170.out)) | exact HB.out)⟩⟩
 case round =>
  clear H'
  try clear c1
  try clear c2
  try clear p2
  obtain ⟨x4_1, x5_1, x171001_1, rfl, HA, HK1, HO_4, HI170, HB⟩ := hrel
  cases gk with
  | zero => exact absurd HA.out (by simp [rollbacknetlaw11_bodies.l0])
  | succ k1 =>
   have H := HA.out
   clear HA
   simp only [rollbacknetlaw11_bodies.l0] at H
   by_cases c6 : x5_1 > 0
   ·rw [if_pos c6] at H
    have c6b0 : decide (0 < x5_1) = true := decide_eq_true c6
    clear c6
    replace H := Option.bind_eq_some_iff.mp H
    obtain ⟨⟨t173, t176⟩, A70, H⟩ := H
    replace H : (if x4_1.length < 5864062014805 then (rollbacknetlaw11_bodies.l0 k1 (x4_1 ++ [t173]) (wrap64 (x5_1 - 1)) t168 t176) else (none)) = some r := H
    have A7 := aM A70
    clear A70
    by_cases c8 : x4_1.length < 5864062014805
    ·rw [if_pos c8] at H
     have LMc8 := aM c8
     clear c8
     obtain ⟨y177, hy177⟩ : ∃ y_ : List (List Int), y_ = (x4_1 ++ [t173]) := ⟨_, rfl⟩
     replace H : (rollbacknetlaw11_bodies.l0 k1 y177 (wrap64 (x5_1 - 1)) t168 t176) = some r := by first | (rw [hy177]; with_reducible exact H) | (have H2_ := (Option.bind_some _ _).symm.trans H; rw [hy177]; with_reducible exact H2_) | (have H2_ := (Option.bind_some _ _).symm.trans H; with_reducible exact H2_) | with_reducible exact H | (rw [hy177]; exact H) | exact H
     have Ny177 := aM hy177
     clear hy177
     have H' := aM H
     clear H
     go_wp2_with (first | ((with_reducible refine gate_callee (f := 25) rfl ?_); refine goesL_ (some 16) rfl rfl Try.func25 (by kernel_rfl) rfl #[.pointer (some ⟨g170, 0, none⟩), .int .i64 12] rfl (by (try simp only [List.map_toArray, List.map_cons, List.map_nil]); first | done | rfl | (simp only [List.length_drop, List.length_take]; rfl)) ?_; (with_reducible refine (rollbacknetmake_Codes_Bytes.calls k1 g170 t168 x171001_1 12 t173 t176 w _ ?side1 ?side2 A7.out).mono ?_); (case side1 => repeat (first | (with_reducible first | exact HI170.out | apply IsS60.alloc | apply IsS60.drewN | apply IsS60.drew | apply IsS60.set_1) | exact HI170.out)); (case side2 => repeat (first | (with_reducible first | exact HB.out | apply wA | apply wN | apply wD | refine below_set ?_ (IsS60.ge HI170.out)) | exact HB.out)); rintro e w9 ⟨v174, rfl, ho0, hi, hb, hk⟩; refine ⟨_, rfl, ?_⟩; have n0_ := aM (Kd.S_mono (Kd.S_told (Kd.S_oldK (IsS60.apartS (show IsS60 w _ g170 t168 x171001_1 from by repeat (first | (with_reducible first | exact HI170.out | apply IsS60.alloc | apply IsS60.drewN | apply IsS60.drew | apply IsS60.set_1) | exact HI170.out)) (by (with_reducible repeat (first | apply Kd.S_alloc | apply Kd.S_drewN | apply Kd.S_drew)); exact HO_4.out) (by decide)) hk) (Kd.R_base ho0)) (fun _ h_ => h_.1)); have n1_ := aM (Kd.R_lower ho0 (below_size (by repeat (first | (with_reducible first | exact HB.out | apply wA | apply wN | apply wD | refine below_set ?_ (IsS60.ge HI170.out)) | exact HB.out)))); have n2_ := aM (hb); have n3_ := aM (hi); clear HO_4; clear HB; clear HI170; have HO_4 := n0_; have HO175 := n1_; have HB := n2_; have HI170 := n3_; clear n0_ n1_ n2_ n3_; (try clear hb); (try clear hb2); (try clear hk); (try clear hi); (try clear hge_); (try clear ho0); obtain ⟨Ao11, co11, eo11⟩ := Kd.R_slice HO175.out; subst eo11) | ((with_reducible refine gate_builtin (b := .append) (xs := #[(.tmp 14), .tmp 17]) rfl ?_); at_builtin; refine Kd.S_append (Kd.slice 5 (Kd.int .u8)) (w0 := w) w.heap.size rfl (.tmp 14) (.tmp 17) 24 22 (.slice none 0 0) 24 rfl Try.underlying24 info22 rfl (by decide) (by omega) u4 x4_1 t173 [.slice Ao11 t173.length co11] (fun _ => True) (fun k_ => some k_ = (.slice Ao11 t173.length co11 : Value).ownBlock) rfl rfl ?aP (fun k_ hk_ => ((Kd.R_mono (ok' := fun k_ => ((fun _ => True)) k_ ∧ some k_ ≠ (u4 : Value).ownBlock) (Kd.R_apart' (HO175.out) (Kd.S_typed HO_4.out) (by decide)) (fun k_ hk => ⟨trivial, hk.2⟩))).1 k_ hk_.symm) ?aF ?aO ?aB ?aS ?aL ?_; (case aP => exact Kd.M_row (Kd.R_mono (Kd.R_tight rfl (Kd.R_mono (ok' := fun k_ => ((fun _ => True)) k_ ∧ some k_ ≠ (u4 : Value).ownBlock) (Kd.R_apart' (HO175.out) (Kd.S_typed HO_4.out) (by decide)) (fun k_ hk => ⟨trivial, hk.2⟩))) (fun _ h_ => h_))); (case aB => exact (by repeat (first | (with_reducible first | exact HB.out | apply wA | apply wN | apply wD | refine below_set ?_ (IsS60.ge HI170.out)) | exact HB.out))); (case aF => exact (fun _ _ => trivial)); (case aO => exact (by (with_reducible repeat (first | apply Kd.S_alloc | apply Kd.S_drewN | apply Kd.S_drew)); exact Kd.S_mono HO_4.out (fun k_ hk => ⟨trivial, fun e_ => hk.2 e_⟩))); (case aS => exact (below_size (by repeat (first | (with_reducible first | exact HB.out | apply wA | apply wN | apply wD | refine below_set ?_ (IsS60.ge HI170.out)) | exact HB.out)))); (case aL => have := LMc8.out; omega); intro v178 w10 ho hb hg hat; rw [← Ny177.out] at ho; have n0_ := aM (IsS60.grown (by repeat (first | (with_reducible first | exact HI170.out | apply IsS60.alloc | apply IsS60.drewN | apply IsS60.drew | apply IsS60.set_1) | exact HI170.out)) hg (IsS60.own_neS HI170.out HO_4.out (by decide))); have n1_ := aM (hb); have n2_ := aM (ho); clear HI170; clear HB; clear HO_4; clear HO175; have HI170 := n0_; have HB := n1_; have HO179 := n2_; clear n0_ n1_ n2_; clear ho hb hg hat))
     go_roundg k1
     case measure => have := HK1.out; omega
     case rel => exact ⟨(y177), (wrap64 (x5_1 - 1)), (t176), (by first | rfl | (simp; done) | (simp [*]; done)), H', ⟨by have := HK1.out; omega⟩, ⟨by (with_reducible repeat (first | apply Kd.S_alloc | apply Kd.S_drewN | apply Kd.S_drew)); exact HO179.out⟩, ⟨by repeat (first | (with_reducible first | exact HI170.out | apply IsS60.alloc | apply IsS60.drewN | apply IsS60.drew | apply IsS60.set_1) | exact HI170.out)⟩, ⟨by repeat (first | (with_reducible first | exact HB.out | apply wA | apply wN | apply wD | refine below_set ?_ (IsS60.ge HI170.out)) | exact HB.out)⟩⟩
    ·rw [if_neg c8] at H
     exact absurd H (by simp)
   ·rw [if_neg c6] at H
    have c6b0 : decide (0 < x5_1) = false := decide_eq_false c6
    clear c6
    obtain rfl := Option.some.inj H
    go_wp2
    go_ret
    exact ⟨_, by first | rfl | (simp [errW_none, errW_some] <;> rfl) | (simp [*, errW_none, errW_some] <;> rfl), by (with_reducible repeat (first | apply Kd.S_alloc | apply Kd.S_drewN | apply Kd.S_drew)); exact HO_4.out, by repeat (first | (with_reducible first | exact HB.out | apply wA | apply wN | apply wD | refine below_set ?_ (IsS60.ge HI170.out)) | exact HB.out)⟩

/-! ### frame_number: function 27 -/
def frame_number.f (l0 : List Int) : Option (Int) := if 0 < (l0.length : Int) then (if 1 < (l0.length : Int) then (if 2 < (l0.length : Int) then (if 3 < (l0.length : Int) then (some (Go.bits .or .u32 (Go.bits .or .u32 (Go.bits .or .u32 ((rd l0 0) % 4294967296) ((((rd l0 1) % 4294967296) * 256) % 4294967296)) ((((rd l0 2) % 4294967296) * 65536) % 4294967296)) ((((rd l0 3) % 4294967296) * 16777216) % 4294967296))) else (none)) else (none)) else (none)) else (none)
set_option maxHeartbeats 8000000 in
set_option maxRecDepth 100000 in
theorem frame_number.calls (A0 : Option Addr) (c0 : Nat) (l0 : List Int) (r : Int) (w : World) (hr0 : Kd.C (Kd.int .u8) w A0 l0.length l0) (hc0 : l0.length ≤ c0) (h : frame_number.f l0 = some r) :
  Calls Try.prog 27 #[.slice A0 l0.length c0] w fun e w' => e = .returned (.int .u32 r) ∧ Drawn0 w w' := by
 have HR0 := aM hr0
 have HC0 := aM hc0
 clear hr0 hc0
 have H : (if 0 < (l0.length : Int) then (if 1 < (l0.length : Int) then (if 2 < (l0.length : Int) then (if 3 < (l0.length : Int) then (some (Go.bits .or .u32 (Go.bits .or .u32 (Go.bits .or .u32 ((rd l0 0) % 4294967296) ((((rd l0 1) % 4294967296) * 256) % 4294967296)) ((((rd l0 2) % 4294967296) * 65536) % 4294967296)) ((((rd l0 3) % 4294967296) * 16777216) % 4294967296))) else (none)) else (none)) else (none)) else (none)) = some r := h
 clear h
 by_cases c2 : 0 < (l0.length : Int)
 ·rw [if_pos c2] at H
  have c2b0 : decide (0 < (l0.length : Int)) = true := decide_eq_true c2
  have c2b1 : decide (0 < l0.length) = true := decide_eq_true (by omega)
  clear c2
  by_cases c3 : 1 < (l0.length : Int)
  ·rw [if_pos c3] at H
   have c3b0 : decide (1 < (l0.length : Int)) = true := decide_eq_true c3
   have c3b1 : decide (1 < l0.length) = true := decide_eq_true (by omega)
   clear c3
   by_cases c4 : 2 < (l0.length : Int)
   ·rw [if_pos c4] at H
    have c4b0 : decide (2 < (l0.length : Int)) = true := decide_eq_true c4
    have c4b1 : decide (2 < l0.length) = true := decide_eq_true (by omega)
    clear c4
    by_cases c5 : 3 < (l0.length : Int)
    ·rw [if_pos c5] at H
     have c5b0 : decide (3 < (l0.length : Int)) = true := decide_eq_true c5
     have c5b1 : decide (3 < l0.length) = true := decide_eq_true (by omega)
     clear c5
     obtain rfl := Option.some.inj H
     have p180 : 0 ≤ (0 : Int) := (by omega)
     have q180 : 0 < (l0.length : Int) := of_decide_eq_true (by first | (with_reducible assumption) | assumption)
     obtain ⟨ad180, e180, hx180_0⟩ := Kd.at_int HR0.out 0 p180 q180
     cases e180
     have qi180 : (0 < l0.length) = True := eq_true (by omega)
     (try rw [show ((0 : Int)).toNat = 0 from rfl] at hx180_0)
     (try rw [Addr.add_zero'] at hx180_0)
     replace p180 := eq_true p180
     replace q180 := eq_true q180
     have p181 : 0 ≤ (1 : Int) := (by omega)
     have q181 : 1 < (l0.length : Int) := of_decide_eq_true (by first | (with_reducible assumption) | assumption)
     obtain ⟨ad181, e181, hx181_0⟩ := Kd.at_int HR0.out 1 p181 q181
     obtain rfl : ad180 = ad181 := (by injection e181)
     (try simp only [show (1 : Int).toNat = 1 from rfl, Nat.reduceMul, Nat.reduceEqDiff, Go.Addr.add, ↓reduceIte] at hx181_0)
     have qi181 : (1 < l0.length) = True := eq_true (by omega)
     (try rw [show ((1 : Int)).toNat = 1 from rfl] at hx181_0)
     replace p181 := eq_true p181
     replace q181 := eq_true q181
     have p182 : 0 ≤ (2 : Int) := (by omega)
     have q182 : 2 < (l0.length : Int) := of_decide_eq_true (by first | (with_reducible assumption) | assumption)
     obtain ⟨ad182, e182, hx182_0⟩ := Kd.at_int HR0.out 2 p182 q182
     obtain rfl : ad180 = ad182 := (by injection e182)
     (try simp only [show (2 : Int).toNat = 2 from rfl, Nat.reduceMul, Nat.reduceEqDiff, Go.Addr.add, ↓reduceIte] at hx182_0)
     have qi182 : (2 < l0.length) = True := eq_true (by omega)
     (try rw [show ((2 : Int)).toNat = 2 from rfl] at hx182_0)
     replace p182 := eq_true p182
     replace q182 := eq_true q182
     have p183 : 0 ≤ (3 : Int) := (by omega)
     have q183 : 3 < (l0.length : Int) := of_decide_eq_true (by first | (with_reducible assumption) | assumption)
     obtain ⟨ad183, e183, hx183_0⟩ := Kd.at_int HR0.out 3 p183 q183
     obtain rfl : ad180 = ad183 := (by injection e183)
     (try simp only [show (3 : Int).toNat = 3 from rfl, Nat.reduceMul, Nat.reduceEqDiff, Go.Addr.add, ↓reduceIte] at hx183_0)
     have qi183 : (3 < l0.length) = True := eq_true (by omega)
     (try rw [show ((3 : Int)).toNat = 3 from rfl] at hx183_0)
     replace p183 := eq_true p183
     replace q183 := eq_true q183
     go_enter Try.func27, Try.ntmps27
     go_wp2
     repeat (go_quiet (fail); try go_wp2)
     go_ret
     exact ⟨by first | rfl | (simp; done) | (simp [*]; done), by repeat (first | exact Drawn0.refl _ | apply Drawn0.step)⟩
    ·rw [if_neg c5] at H
     exact absurd H (by simp)
   ·rw [if_neg c4] at H
    exact absurd H (by simp)
  ·rw [if_neg c3] at H
   exact absurd H (by simp)
 ·rw [if_neg c2] at H
  exact absurd H (by simp)

end Go.Proofs.Ytmlphabhldahlaa.PFk
