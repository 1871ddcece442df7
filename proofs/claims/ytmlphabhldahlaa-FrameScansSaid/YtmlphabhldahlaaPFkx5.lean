-- Laid by wip/tools/xprint.py, a program of this session over the kit's print: functions as Lean functions, each with its contract.
import Derived.Test.YtmlphabhldahlaaPFkx0
import Derived.Test.YtmlphabhldahlaaPFkx3
import Derived.Test.YtmlphabhldahlaaPFkx4
namespace Go.Proofs.Ytmlphabhldahlaa.PFk
open Go.RowKit Go.Proofs.YtmlphabhldahlaaW.PrintWords Go.Proofs.YtmlphabhldahlaaW.PrintLast Go.Proofs.YtmlphabhldahlaaW.PrintMore
attribute [local go_sem] max2_int min2_int max_two min_two max_three min_three max_four min_four   -- for this text's walks alone
set_option linter.unusedVariables false
set_option linter.unusedSimpArgs false

/-! ### rollbacknetlaw11_awake: function 9 -/
def rollbacknetlaw11_awake.f (k : Nat)  : Option (Bool) := (frame_Seal.f ([] : List Int)).bind fun bt104 => (if bt104.2 = 0 then ((rollbacknetref08_SameBytes.f k bt104.1 (([0, 0, 0, 0, 28, 223, 68, 33] : List Int))).bind fun t111 => (some t111)) else (some false))
theorem rollbacknetlaw11_awake.mono : ∀ k, LeO (rollbacknetlaw11_awake.f k ) (rollbacknetlaw11_awake.f (k + 1) ) := by
 intro  k
 unfold rollbacknetlaw11_awake.f
 repeat' first
   | (with_reducible exact rollbacknetref08_SameBytes.mono _ _ _)
   | (with_reducible exact LeO.refl _)
   | (with_reducible exact LeO.none _)
   | (with_reducible refine LeO.ite ?_ ?_)
   | (with_reducible refine LeO.bind ?_ (fun _ => ?_))
   | exact rollbacknetref08_SameBytes.mono _ _ _
   | exact LeO.none _
   | refine LeO.ite ?_ ?_
   | refine LeO.bind ?_ (fun _ => ?_)
set_option maxHeartbeats 8000000 in
set_option maxRecDepth 100000 in
theorem rollbacknetlaw11_awake.calls (k : Nat)  (r : Bool) (w : World) (h : rollbacknetlaw11_awake.f k  = some r) :
  Calls Try.prog 9 #[] w fun e w' => e = .returned (.bool r) ∧ Below w.heap.size w w' := by
 have HB := aM (Below.refl w.heap.size w)
 have H : ((frame_Seal.f ([] : List Int)).bind fun bt104 => (if bt104.2 = 0 then ((rollbacknetref08_SameBytes.f k bt104.1 (([0, 0, 0, 0, 28, 223, 68, 33] : List Int))).bind fun t111 => (some t111)) else (some false))) = some r := h
 clear h
 replace H := Option.bind_eq_some_iff.mp H
 obtain ⟨⟨t104, t105⟩, A10, H⟩ := H
 replace H : (if t105 = 0 then ((rollbacknetref08_SameBytes.f k t104 (([0, 0, 0, 0, 28, 223, 68, 33] : List Int))).bind fun t111 => (some t111)) else (some false)) = some r := H
 have A1 := aM A10
 clear A10
 by_cases c2 : t105 = 0
 ·rw [if_pos c2] at H
  have c2b0 : (t105 == 0) = true := beq_iff_eq.mpr c2
  have c2b1 : (t105 != 0) = false := bne_eq_false_iff_eq.mpr c2
  clear c2
  obtain ⟨y108, hy108⟩ : ∃ y_ : List Int, y_ = (([0, 0, 0, 0, 28, 223, 68, 33] : List Int)) := ⟨_, rfl⟩
  replace H : ((rollbacknetref08_SameBytes.f k t104 y108).bind fun t111 => (some t111)) = some r := by first | (rw [hy108]; with_reducible exact H) | (have H2_ := (Option.bind_some _ _).symm.trans H; rw [hy108]; with_reducible exact H2_) | (have H2_ := (Option.bind_some _ _).symm.trans H; with_reducible exact H2_) | with_reducible exact H | (rw [hy108]; exact H) | exact H
  have Ny108 := aM hy108
  clear hy108
  replace H := Option.bind_eq_some_iff.mp H
  obtain ⟨t111, A30, H⟩ := H
  replace H : (some t111) = some r := H
  have A3 := aM A30
  clear A30
  obtain rfl := Option.some.inj H
  go_enter Try.func9, Try.ntmps9
  go_wp2_with (first | ((with_reducible refine gate_callee (f := 10) rfl ?_); refine goesL_ (some 4) rfl rfl Try.func10 (by kernel_rfl) rfl #[.slice none 0 0] rfl (by (try simp only [List.map_toArray, List.map_cons, List.map_nil]); first | done | rfl | (simp only [List.length_drop, List.length_take]; rfl)) ?_; (refine (frame_Seal.calls _ _ ([] : List Int) t104 t105 _ ?side1 ?side2 A1.out).mono ?_); (case side1 => exact Kd.C_nil _ _); (case side2 => exact Nat.le_refl _); rintro e w4 ⟨v106, rfl, ho0, hb⟩; refine ⟨_, rfl, ?_⟩; have n0_ := aM (Kd.R_lower ho0 (below_size (by repeat (first | (with_reducible first | exact HB.out | apply wA | apply wN | apply wD) | exact HB.out)))); have n1_ := aM (below_step (by repeat (first | (with_reducible first | exact HB.out | apply wA | apply wN | apply wD) | exact HB.out)) hb); clear HB; have HO107 := n0_; have HB := n1_; clear n0_ n1_; (try clear hb); (try clear hb2); (try clear hk); (try clear hi); (try clear hge_); (try clear ho0)) | ((with_reducible refine gate_dst (N := 11) rfl ?_); (try (refine gate_guard (by rfl) ?_; dsimp only)); refine Kd.R_lit (Kd.int .u8) _ 5 ?hg (N := 11) ?hd (xs := ([0, 0, 0, 0, 28, 223, 68, 33] : List Int)) (inner := [.int .u8 0, .int .u8 0, .int .u8 0, .int .u8 0, .int .u8 28, .int .u8 223, .int .u8 68, .int .u8 33]) (ok := fun _ => True) (okp := fun _ => True) ?hr ?hp (fun _ hk => hk) trivial (Below.refl _ _) (Nat.le_refl _) (by simp) ?_; (case hd => rfl); (case hg => rfl); (case hr => first | (go_simp; done) | (go_simp; rfl)); (case hp => exact (Reps.one (show Kd.M (Kd.int .u8) _ _ _ 0 [.int .u8 0] from rfl) (Reps.one (show Kd.M (Kd.int .u8) _ _ _ 0 [.int .u8 0] from rfl) (Reps.one (show Kd.M (Kd.int .u8) _ _ _ 0 [.int .u8 0] from rfl) (Reps.one (show Kd.M (Kd.int .u8) _ _ _ 0 [.int .u8 0] from rfl) (Reps.one (show Kd.M (Kd.int .u8) _ _ _ 28 [.int .u8 28] from rfl) (Reps.one (show Kd.M (Kd.int .u8) _ _ _ 223 [.int .u8 223] from rfl) (Reps.one (show Kd.M (Kd.int .u8) _ _ _ 68 [.int .u8 68] from rfl) (Reps.one (show Kd.M (Kd.int .u8) _ _ _ 33 [.int .u8 33] from rfl) (Reps.none _ _)))))))))); intro v109 w5 ho6 hb hg_ hnew_; clear hg_ hnew_; (first | rw [← Ny108.out] at ho6 | (simp only [Int.reduceToNat] at ho6; rw [← Ny108.out] at ho6)); have n0_ := aM (Kd.R_elder' (by (with_reducible repeat (first | apply Kd.R_alloc | apply Kd.R_drewN | apply Kd.R_drew)); exact HO107.out) (Kd.R_base ho6) hb); have n1_ := aM (Kd.R_lower (Kd.R_new' ho6 (Kd.R_lt (by (with_reducible repeat (first | apply Kd.R_alloc | apply Kd.R_drewN | apply Kd.R_drew)); exact HO107.out))) (below_size (by repeat (first | (with_reducible first | exact HB.out | apply wA | apply wN | apply wD) | exact HB.out)))); have n2_ := aM (below_step (by repeat (first | (with_reducible first | exact HB.out | apply wA | apply wN | apply wD) | exact HB.out)) hb); clear HO107; clear HB; have HO107 := n0_; have HO110 := n1_; have HB := n2_; clear n0_ n1_ n2_; clear hb ho6; obtain ⟨Ao7, co7, eo7⟩ := Kd.R_slice HO107.out; subst eo7; obtain ⟨Ao8, co8, eo8⟩ := Kd.R_slice HO110.out; subst eo8) | (go_at_call 12; (with_reducible refine (rollbacknetref08_SameBytes.calls k _ _ t104 _ _ y108 t111 _ ?side1 ?side2 ?side3 ?side4 A3.out).mono ?_); (case side1 => repeat (first | exact (Kd.R_reads' HO107.out).2.2 | (with_reducible refine Kd.C_alloc ?_ _) | (with_reducible refine Kd.C_drewN ?_ _) | (with_reducible refine Kd.C_drew ?_))); (case side2 => exact (Kd.R_reads' HO107.out).2.1); (case side3 => repeat (first | exact (Kd.R_reads' HO110.out).2.2 | (with_reducible refine Kd.C_alloc ?_ _) | (with_reducible refine Kd.C_drewN ?_ _) | (with_reducible refine Kd.C_drew ?_))); (case side4 => exact (Kd.R_reads' HO110.out).2.1); rintro e w' ⟨rfl, ⟨nd, rfl⟩⟩))
  go_ret
  exact ⟨by first | rfl | (simp [errW_none, errW_some] <;> rfl) | (simp [*, errW_none, errW_some] <;> rfl), by repeat (first | (with_reducible first | exact HB.out | apply wA | apply wN | apply wD) | exact HB.out)⟩
 ·rw [if_neg c2] at H
  have c2b0 : (t105 == 0) = false := beq_eq_false_iff_ne.mpr c2
  have c2b1 : (t105 != 0) = true := bne_iff_ne.mpr c2
  obtain rfl := Option.some.inj H
  go_enter Try.func9, Try.ntmps9
  go_wp2_with (first | ((with_reducible refine gate_callee (f := 10) rfl ?_); refine goesL_ (some 4) rfl rfl Try.func10 (by kernel_rfl) rfl #[.slice none 0 0] rfl (by (try simp only [List.map_toArray, List.map_cons, List.map_nil]); first | done | rfl | (simp only [List.length_drop, List.length_take]; rfl)) ?_; (refine (frame_Seal.calls _ _ ([] : List Int) t104 t105 _ ?side1 ?side2 A1.out).mono ?_); (case side1 => exact Kd.C_nil _ _); (case side2 => exact Nat.le_refl _); rintro e w9 ⟨v106, rfl, ho0, hb⟩; refine ⟨_, rfl, ?_⟩; have n0_ := aM (Kd.R_lower ho0 (below_size (by repeat (first | (with_reducible first | exact HB.out | apply wA | apply wN | apply wD) | exact HB.out)))); have n1_ := aM (below_step (by repeat (first | (with_reducible first | exact HB.out | apply wA | apply wN | apply wD) | exact HB.out)) hb); clear HB; have HO107 := n0_; have HB := n1_; clear n0_ n1_; (try clear hb); (try clear hb2); (try clear hk); (try clear hi); (try clear hge_); (try clear ho0)))
  go_ret
  exact ⟨by first | rfl | (simp [errW_none, errW_some] <;> rfl) | (simp [*, errW_none, errW_some] <;> rfl), by repeat (first | (with_reducible first | exact HB.out | apply wA | apply wN | apply wD) | exact HB.out)⟩

/-! ### rollbacknetref09_Update: function 34, by hand -/
def rollbacknetref09_Update.f (a0 : Int) (l1 : List Int) : Option (Int) := if 0 ≤ a0 ∧ a0 < 4294967296 ∧ Crc.Bytes l1 then some (Crc.upd a0 l1) else none
open Go.Proofs.Ytmlphabhldahlaa.Crc in
set_option maxRecDepth 100000 in
theorem ref09_Update_upd (a0 : Nat) (A1 : Option Addr) (c1 : Nat) (l1 : List Int) (w : World) (hr1 : Kd.C (Kd.int .u8) w A1 l1.length l1) (h1 : a0 < 4294967296) (hb : ∀ x ∈ l1, 0 ≤ x ∧ x < 256) :
   Calls Try.prog 34 #[.int .u32 a0, .slice A1 l1.length c1] w fun e w' => e = .returned (.int .u32 ((run (a0 ^^^ 4294967295) (l1.map Int.toNat) ^^^ 4294967295 : Nat) : Int)) ∧ Drawn0 w w' := by
  have hm : l1.length ≤ 9223372036854775807 := hr1.2.1
  have hn := not_u32 a0 (by omega)
  have hs0 : a0 ^^^ 4294967295 < 2 ^ 32 := Nat.xor_lt_two_pow (by omega) (by omega)
  generalize a0 ^^^ 4294967295 = s0 at *
  have HR := Lib.hid hr1
  have HBY := Lib.hid hb
  clear hr1 hb
  go_enter Try.func34, Try.ntmps34
  go_wp2
  clear hn
  go_loop [5, 6] (fun u5 u6 => ∃ k : Nat, k ≤ l1.length ∧ u6 = .int .i64 k ∧ u5 = .int .u32 ((run s0 ((l1.take k).map Int.toNat) : Nat) : Int)) (fun _ u6 => l1.length - (intOf u6).toNat)
  case atStart => exact ⟨0, by omega, rfl, rfl⟩
  case round =>
    obtain ⟨k, hk, rfl, rfl⟩ := hrel
    have hrl : run s0 ((l1.take k).map Int.toNat) < 2 ^ 32 := run_lt _ hs0 (by
      intro c hc
      obtain ⟨x, hx, rfl⟩ := List.mem_map.1 hc
      have := HBY.out x (List.mem_of_mem_take hx)
      omega)
    by_cases hlt : k < l1.length
    · have hx := HBY.out l1[k] (List.getElem_mem hlt)
      have ht : run s0 ((l1.take (k + 1)).map Int.toNat) = it 8 (run s0 ((l1.take k).map Int.toNat) ^^^ l1[k].toNat) := by
        rw [List.take_succ_eq_append_getElem hlt, List.map_append, run_append]
        rfl
      obtain ⟨ad, rfl, hcs⟩ := HR.out.2.2 (by omega)
      obtain ⟨cs, _, hK, hcell⟩ := hcs k l1[k] (List.getElem?_eq_getElem hlt)
      have hc := hcell 0 (.int .u8 l1[k]) (by rw [show cs = [.int .u8 l1[k]] from hK]; rfl)
      obtain ⟨c, ec⟩ : ∃ c : Nat, l1[k] = (c : Int) := Int.eq_ofNat_of_zero_le hx.1
      rw [ec] at hc ht hx
      clear hcs hcell hK
      have HT := Lib.hid ht
      clear ht ec
      rw [show k * (Kd.int .u8).sz + 0 = k from by show k * 1 + 0 = k; omega] at hc
      generalize run s0 ((l1.take k).map Int.toNat) = s at *
      rw [Int.toNat_natCast] at HT
      have hsc : s ^^^ c < 2 ^ 32 := Nat.xor_lt_two_pow hrl (by omega)
      have hx32 : bits .xor .u32 (s : Int) (c : Int) = ((s ^^^ c : Nat) : Int) := xor_u32 s c hrl (by omega)
      go_wp2
      go_loop [5, 7] (fun u5 u7 => ∃ j : Nat, j ≤ 8 ∧ u7 = .int .i64 j ∧ u5 = .int .u32 ((it j (s ^^^ c) : Nat) : Int)) (fun _ u7 => 8 - (intOf u7).toNat)
      case atStart => exact ⟨0, by omega, rfl, by rw [it_nil]⟩
      case round =>
        obtain ⟨j, hj, rfl, rfl⟩ := hrel
        clear hx32 hc
        by_cases hj8 : j < 8
        · have hs := it_last j (s ^^^ c)
          have hl := it_lt j hsc
          have HS := Lib.hid hs
          clear hs
          generalize it j (s ^^^ c) = a at *
          have hand := and_one a hl
          by_cases h1 : a % 2 = 1
          · have hx := xor_u32 (a / 2) P (by omega) P_lt
            have hb : (((a % 2 : Nat) : Int) == 1) = true := by rw [h1]; rfl
            have HX := Lib.hid hx
            clear hx
            have H1 := Lib.hid h1
            clear h1
            go_wp2
            go_round
            case rel => exact ⟨j + 1, by omega, by go_num, by rw [HS.out, stp, if_pos H1.out, ← HX.out]; rfl⟩
            case measure => simp [intOf]; omega
          · have hb : (((a % 2 : Nat) : Int) == 1) = false := by rw [show a % 2 = 0 by omega]; rfl
            have H1 := Lib.hid h1
            clear h1
            go_wp2
            go_round
            case rel => exact ⟨j + 1, by omega, by go_num, by rw [HS.out, stp, if_neg H1.out]; go_num⟩
            case measure => simp [intOf]; omega
        · obtain rfl : j = 8 := by omega
          go_wp2
          go_round
          case rel => exact ⟨k + 1, by omega, by go_num, by rw [HT.out]⟩
          case measure => simp [intOf]; omega
    · obtain rfl : k = l1.length := by omega
      have hn := not_u32 _ hrl
      rw [List.take_length] at hn ⊢
      go_wp2
      go_ret
      exact ⟨rfl, Drawn0.refl _⟩

set_option maxHeartbeats 4000000 in
set_option maxRecDepth 100000 in
theorem rollbacknetref09_Update.calls (a0 : Int) (A1 : Option Addr) (c1 : Nat) (l1 : List Int) (r : Int) (w : World) (hr1 : Kd.C (Kd.int .u8) w A1 l1.length l1) (hc1 : l1.length ≤ c1) (h : rollbacknetref09_Update.f a0 l1 = some r) :
    Calls Try.prog 34 #[.int .u32 a0, .slice A1 l1.length c1] w fun e w' => e = .returned (.int .u32 r) ∧ Drawn0 w w' := by
  unfold rollbacknetref09_Update.f at h
  by_cases hd : 0 ≤ a0 ∧ a0 < 4294967296 ∧ Crc.Bytes l1
  · rw [if_pos hd] at h
    obtain rfl := Option.some.inj h
    obtain ⟨h0, h1, hb⟩ := hd
    obtain ⟨a, rfl⟩ := Int.eq_ofNat_of_zero_le h0
    exact ref09_Update_upd a A1 c1 l1 w hr1 (by omega) hb
  · rw [if_neg hd] at h
    exact absurd h (by simp)

/-! ### rollbacknetref09_Of: function 35 -/
def rollbacknetref09_Of.f (l0 : List Int) : Option (Int) := (rollbacknetref09_Update.f 0 l0).bind fun t112 => (some t112)
set_option maxHeartbeats 8000000 in
set_option maxRecDepth 100000 in
theorem rollbacknetref09_Of.calls (A0 : Option Addr) (c0 : Nat) (l0 : List Int) (r : Int) (w : World) (hr0 : Kd.C (Kd.int .u8) w A0 l0.length l0) (hc0 : l0.length ≤ c0) (h : rollbacknetref09_Of.f l0 = some r) :
  Calls Try.prog 35 #[.slice A0 l0.length c0] w fun e w' => e = .returned (.int .u32 r) ∧ Drawn0 w w' := by
 have HR0 := aM hr0
 have HC0 := aM hc0
 clear hr0 hc0
 have H : ((rollbacknetref09_Update.f 0 l0).bind fun t112 => (some t112)) = some r := h
 clear h
 replace H := Option.bind_eq_some_iff.mp H
 obtain ⟨t112, A20, H⟩ := H
 replace H : (some t112) = some r := H
 have A2 := aM A20
 clear A20
 obtain rfl := Option.some.inj H
 go_enter Try.func35, Try.ntmps35
 go_wp2_with (first | ((with_reducible refine gate_callee (f := 34) rfl ?_); refine goesL_ (some 4) rfl rfl Try.func34 (by kernel_rfl) rfl #[.int .u32 0, .slice A0 l0.length c0] rfl (by (try simp only [List.map_toArray, List.map_cons, List.map_nil]); first | done | rfl | (simp only [List.length_drop, List.length_take]; rfl)) ?_; (with_reducible refine (rollbacknetref09_Update.calls 0 _ _ l0 t112 _ ?side1 ?side2 A2.out).mono ?_); (case side1 => repeat (first | exact HR0.out | (with_reducible refine Kd.C_alloc ?_ _) | (with_reducible refine Kd.C_drewN ?_ _) | (with_reducible refine Kd.C_drew ?_))); (case side2 => exact HC0.out); rintro e w' ⟨rfl, ⟨nd, rfl⟩⟩; refine ⟨_, rfl, ?_⟩))
 go_ret
 exact ⟨by first | rfl | (simp; done) | (simp [*]; done), by repeat (first | exact Drawn0.refl _ | apply Drawn0.step)⟩

end Go.Proofs.Ytmlphabhldahlaa.PFk
