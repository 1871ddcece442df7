-- Laid by wip/tools/xprint.py, a program of this session over the kit's print: functions as Lean functions, each with its contract.
import Derived.Test.YtmlphabhldahlaaPFkx0
namespace Go.Proofs.Ytmlphabhldahlaa.PFk
open Go.RowKit Go.Proofs.YtmlphabhldahlaaW.PrintWords Go.Proofs.YtmlphabhldahlaaW.PrintLast Go.Proofs.YtmlphabhldahlaaW.PrintMore
attribute [local go_sem] max2_int min2_int max_two min_two max_three min_three max_four min_four   -- for this text's walks alone
set_option linter.unusedVariables false
set_option linter.unusedSimpArgs false

-- NOT PRINTED: function 30 (frame_little)

-- NOT PRINTED: function 38 (crc_table)

/-! ### crc_Update: function 31, by hand -/
open Go.Proofs.Ytmlphabhldahlaa.Crc in
set_option maxRecDepth 100000 in
theorem crc_table_calls (w : World) : Calls Try.prog 38 #[] w fun e w' => e = .returned (.agg (Row 256)) ∧ Below w.heap.size w w' := by
  go_enter Try.func38, Try.ntmps38
  go_wp2_with (first | ((with_reducible refine gate_dst (N := 0) rfl ?_); refine box_event ?hg (N := 0) ?hd (cs := Row 0) (t := 62) ?hr ?_; (case hd => rfl); (case hg => rfl); (case hr => kernel_rfl); intro g0 hg0 w0 hb0 hB0; have G0 := Lib.hid hg0; have E0 := Lib.hid hb0; clear hg0 hb0) | ((with_reducible refine gate_dst (N := 1) rfl ?_); refine box_event ?hg (N := 1) ?hd (cs := Row 0) (t := 62) ?hr ?_; (case hd => rfl); (case hg => rfl); (case hr => kernel_rfl); intro g1 hg1 w1 hb1 hB1; have G1 := Lib.hid hg1; have E1 := Lib.hid hb1; clear hg1 hb1))
  have hn : g0 ≠ g1 := by have := blk_lt E0.out; have := G1.out; omega
  have HN := Lib.hid hn
  clear hn
  have HG0 : w.heap.size ≤ g0 := by rw [G0.out]; exact Nat.le_refl _
  have HG1 : w.heap.size ≤ g1 := by rw [G1.out]; exact hB0.size
  have HE0 : w1.heap[g0]? = some (.cells (Row 0) 62 (0, 0)) := (hB1.block g0 (blk_lt E0.out)).trans E0.out
  have HB1 := below_step hB0 hB1
  clear hB0 hB1 G0 G1 E0
  go_loopw [4] (fun u4 W => ∃ i : Nat, i ≤ 256 ∧ u4 = .int .i64 i ∧ W.heap[g1]? = some (.cells (Row i) 62 (0, 0)) ∧ W.heap[g0]? = some (.cells (Row 0) 62 (0, 0)) ∧ Below w.heap.size w W) (fun u4 _ => 256 - (intOf u4).toNat)
  case atStart => exact ⟨0, by omega, rfl, E1.out, HE0, HB1⟩
  case round =>
    clear E1 HE0 HB1
    obtain ⟨i, hi, rfl, h1, h0, hB⟩ := hrel
    have E1 := Lib.hid h1
    have E0 := Lib.hid h0
    clear h1 h0
    by_cases hlt : i < 256
    · go_wp2
      go_loop [3, 9] (fun u3 u9 => ∃ k : Nat, k ≤ 8 ∧ u9 = .int .i64 k ∧ u3 = .int .u32 ((it k i : Nat) : Int)) (fun _ u9 => 8 - (intOf u9).toNat)
      case atStart => exact ⟨0, by omega, rfl, by rw [it_nil]⟩
      case round =>
        obtain ⟨k, hk, rfl, rfl⟩ := hrel
        by_cases hk8 : k < 8
        · have hs := it_last k i
          have hl := it_lt k (s := i) (by omega)
          have HS := Lib.hid hs
          clear hs
          generalize it k i = a at *
          have hand := and_one a hl
          by_cases h1 : a % 2 = 1
          · have hx := xor_u32 (a / 2) P (by omega) P_lt
            have hb : (((a % 2 : Nat) : Int) == 1) = true := by rw [h1]; rfl
            have HX := Lib.hid hx
            clear hx
            have H1 := Lib.hid h1
            clear h1
            go_wp2
            go_round
            case rel => exact ⟨k + 1, by omega, by go_num, by rw [HS.out, stp, if_pos H1.out, ← HX.out]; rfl⟩
            case measure => simp [intOf]; omega
          · have hb : (((a % 2 : Nat) : Int) == 1) = false := by rw [show a % 2 = 0 by omega]; rfl
            have H1 := Lib.hid h1
            clear h1
            go_wp2
            go_round
            case rel => exact ⟨k + 1, by omega, by go_num, by rw [HS.out, stp, if_neg H1.out]; go_num⟩
            case measure => simp [intOf]; omega
        · obtain rfl : k = 8 := by omega
          obtain ⟨old, hc⟩ : ∃ v, wr.cell? ⟨g1, i, none⟩ = some v := ⟨_, (blk_cell E1.out i).trans (Row_at hlt)⟩
          have hf := blk_frozen E1.out i
          go_wp2
          go_roundw
          case rel => exact ⟨i + 1, by omega, by go_num, blk_put E1.out i _ (Row_set hlt), blk_far E0.out HN.out _, below_set hB HG1⟩
          case measure => simp [intOf]; omega
    · obtain rfl : i = 256 := by omega
      have hn0 : ¬ (((256 : Nat) : Int) < 256) := by omega
      go_wp2_with (first | ((with_reducible refine gate_dst (N := 24) rfl ?_); refine wpList_load_row rfl 62 (.tmp 1) rfl g1 rfl 62 (Row 256) (0, 0) _ E1.out Try.underlying62 rfl ?hi ?_; (case hi => rw [Row_size]; kernel_rfl)) | (refine wpList_store_row rfl 62 (.tmp 0) (.tmp 24) rfl g0 (Row 256) rfl rfl 62 (Row 0) E0.out ?hi (by rw [Row_size, Row_size]) (Row_one 256) ?_; (case hi => rw [Row_size]; kernel_rfl)))
      refine bodyPost_ret (results_cell_row rfl _ _ g0 62 (Row 256) (0, 0) _ rfl (setRow_heap _ _ _ _ _ _ E0.out) Try.underlying62 rfl (by rw [Row_size]; kernel_rfl)) rfl ⟨rfl, below_setRow hB HG0 _⟩

def crc_Update.f (a0 : Int) (l1 : List Int) : Option (Int) := if 0 ≤ a0 ∧ a0 < 4294967296 ∧ Crc.Bytes l1 then some (Crc.upd a0 l1) else none
open Go.Proofs.Ytmlphabhldahlaa.Crc in
set_option maxRecDepth 100000 in
theorem crc_Update_upd (a0 : Nat) (A1 : Option Addr) (c1 : Nat) (l1 : List Int) (w : World) (hr1 : Kd.C (Kd.int .u8) w A1 l1.length l1) (_hc1 : l1.length ≤ c1) (h1 : a0 < 4294967296) (hb : ∀ x ∈ l1, 0 ≤ x ∧ x < 256) :
   Calls Try.prog 31 #[.int .u32 a0, .slice A1 l1.length c1] w fun e w' => e = .returned (.int .u32 ((run (a0 ^^^ 4294967295) (l1.map Int.toNat) ^^^ 4294967295 : Nat) : Int)) ∧ Below w.heap.size w w' := by
  have hm : l1.length ≤ 9223372036854775807 := hr1.2.1
  have hn := not_u32 a0 (by omega)
  have hs0 : a0 ^^^ 4294967295 < 2 ^ 32 := Nat.xor_lt_two_pow (by omega) (by omega)
  generalize a0 ^^^ 4294967295 = s0 at *
  go_enter Try.func31, Try.ntmps31
  go_wp2_with (first | (go_at_call 38; (refine (crc_table_calls _).mono ?_); rintro e wt ⟨rfl, hbt⟩) | ((with_reducible refine gate_dst (N := 5) rfl ?_); refine box_event ?hg (N := 5) ?hd (cs := Row 0) (t := 62) ?hr ?_; (case hd => rfl); (case hg => rfl); (case hr => kernel_rfl); intro g0 hg0 w0 hb0 hB0; have G0 := Lib.hid hg0; have E0 := Lib.hid hb0; clear hg0 hb0) | (refine wpList_store_row rfl 62 (.tmp 5) (.tmp 9) rfl g0 (Row 256) rfl rfl 62 (Row 0) E0.out ?hi (by rw [Row_size, Row_size]) (Row_one 256) ?_; (case hi => rw [Row_size]; kernel_rfl)))
  have hE := setRow_heap w0 g0 (Row 0) (Row 256) 62 (0, 0) E0.out
  have HG : w.heap.size ≤ g0 := by rw [G0.out]; exact hbt.size
  have HB := below_setRow (below_step hbt hB0) HG (Row 256)
  clear E0 G0 hB0
  generalize w0.setRow g0 (Row 256) = W at *
  have HE := Lib.hid hE
  have HR := Lib.hid (Kd.C_below hr1 HB)
  have HBY := Lib.hid hb
  clear hE hr1 hb hn
  go_loop [6, 14] (fun u6 u14 => ∃ k : Nat, k ≤ l1.length ∧ u14 = .int .i64 k ∧ u6 = .int .u32 ((run s0 ((l1.take k).map Int.toNat) : Nat) : Int)) (fun _ u14 => l1.length - (intOf u14).toNat)
  case atStart => exact ⟨0, by omega, rfl, rfl⟩
  case round =>
    obtain ⟨k, hk, rfl, rfl⟩ := hrel
    have hrl : run s0 ((l1.take k).map Int.toNat) < 2 ^ 32 := run_lt _ hs0 (by
      intro c hc
      obtain ⟨x, hx, rfl⟩ := List.mem_map.1 hc
      have := HBY.out x (List.mem_of_mem_take hx)
      omega)
    by_cases hlt : k < l1.length
    · have hx := HBY.out l1[k] (List.getElem_mem hlt)
      have ht : run s0 ((l1.take (k + 1)).map Int.toNat) = it 8 (run s0 ((l1.take k).map Int.toNat) ^^^ l1[k].toNat) := by
        rw [List.take_succ_eq_append_getElem hlt, List.map_append, run_append]
        rfl
      obtain ⟨ad, rfl, hcs⟩ := HR.out.2.2 (by omega)
      obtain ⟨cs, _, hK, hcell⟩ := hcs k l1[k] (List.getElem?_eq_getElem hlt)
      have hc := hcell 0 (.int .u8 l1[k]) (by rw [show cs = [.int .u8 l1[k]] from hK]; rfl)
      obtain ⟨c, ec⟩ : ∃ c : Nat, l1[k] = (c : Int) := Int.eq_ofNat_of_zero_le hx.1
      rw [ec] at hc ht hx
      clear hcs hcell hK
      have HT := Lib.hid ht
      clear ht ec
      rw [show k * (Kd.int .u8).sz + 0 = k from by show k * 1 + 0 = k; omega] at hc
      generalize run s0 ((l1.take k).map Int.toNat) = s at *
      rw [Int.toNat_natCast] at HT
      have hx8 : bits .xor .u8 ((s : Int) % 256) (c : Int) = ((s % 256 ^^^ c : Nat) : Int) := xor_u8 (s % 256) c (by omega) (by omega)
      have hq : s % 256 ^^^ c < 256 := xor_lt (by omega) (by omega)
      have hrow : W.cell? ⟨g0, s % 256 ^^^ c, none⟩ = some (.int .u32 ((it 8 (s % 256 ^^^ c) : Nat) : Int)) := by
        rw [blk_cell HE.out, Row_at hq, if_pos hq]
      have hbt2 := by_table s c (by omega)
      have hx32 : bits .xor .u32 ((s : Int) / 256) ((it 8 (s % 256 ^^^ c) : Nat) : Int) = ((s / 256 ^^^ it 8 (s % 256 ^^^ c) : Nat) : Int) := xor_u32 (s / 256) (it 8 (s % 256 ^^^ c)) (by omega) (it_lt 8 (by omega))
      rw [hbt2] at hx32
      clear hbt2
      go_wp2
      go_round
      case rel => exact ⟨k + 1, by omega, by go_num, by rw [HT.out]⟩
      case measure => simp [intOf]; omega
    · obtain rfl : k = l1.length := by omega
      have hn := not_u32 _ hrl
      rw [List.take_length] at hn ⊢
      go_wp2
      go_ret
      exact ⟨rfl, HB⟩

set_option maxHeartbeats 4000000 in
set_option maxRecDepth 100000 in
theorem crc_Update.calls (a0 : Int) (A1 : Option Addr) (c1 : Nat) (l1 : List Int) (r : Int) (w : World) (hr1 : Kd.C (Kd.int .u8) w A1 l1.length l1) (hc1 : l1.length ≤ c1) (h : crc_Update.f a0 l1 = some r) :
    Calls Try.prog 31 #[.int .u32 a0, .slice A1 l1.length c1] w fun e w' => e = .returned (.int .u32 r) ∧ Below w.heap.size w w' := by
  unfold crc_Update.f at h
  by_cases hd : 0 ≤ a0 ∧ a0 < 4294967296 ∧ Crc.Bytes l1
  · rw [if_pos hd] at h
    obtain rfl := Option.some.inj h
    obtain ⟨h0, h1, hb⟩ := hd
    obtain ⟨a, rfl⟩ := Int.eq_ofNat_of_zero_le h0
    exact crc_Update_upd a A1 c1 l1 w hr1 hc1 (by omega) hb
  · rw [if_neg hd] at h
    exact absurd h (by simp)

/-! ### crc_Of: function 32 -/
def crc_Of.f (l0 : List Int) : Option (Int) := (crc_Update.f 0 l0).bind fun t101 => (some t101)
set_option maxHeartbeats 8000000 in
set_option maxRecDepth 100000 in
theorem crc_Of.calls (A0 : Option Addr) (c0 : Nat) (l0 : List Int) (r : Int) (w : World) (hr0 : Kd.C (Kd.int .u8) w A0 l0.length l0) (hc0 : l0.length ≤ c0) (h : crc_Of.f l0 = some r) :
  Calls Try.prog 32 #[.slice A0 l0.length c0] w fun e w' => e = .returned (.int .u32 r) ∧ Below w.heap.size w w' := by
 have HR0 := aM hr0
 have HC0 := aM hc0
 clear hr0 hc0
 have HB := aM (Below.refl w.heap.size w)
 have H : ((crc_Update.f 0 l0).bind fun t101 => (some t101)) = some r := h
 clear h
 replace H := Option.bind_eq_some_iff.mp H
 obtain ⟨t101, A20, H⟩ := H
 replace H : (some t101) = some r := H
 have A2 := aM A20
 clear A20
 obtain rfl := Option.some.inj H
 go_enter Try.func32, Try.ntmps32
 go_wp2_with (first | ((with_reducible refine gate_callee (f := 31) rfl ?_); refine goesL_ (some 4) rfl rfl Try.func31 (by kernel_rfl) rfl #[.int .u32 0, .slice A0 l0.length c0] rfl (by (try simp only [List.map_toArray, List.map_cons, List.map_nil]); first | done | rfl | (simp only [List.length_drop, List.length_take]; rfl)) ?_; (with_reducible refine (crc_Update.calls 0 _ _ l0 t101 _ ?side1 ?side2 A2.out).mono ?_); (case side1 => repeat (first | exact HR0.out | (with_reducible refine Kd.C_alloc ?_ _) | (with_reducible refine Kd.C_drewN ?_ _) | (with_reducible refine Kd.C_drew ?_))); (case side2 => exact HC0.out); rintro e w3 ⟨rfl, hb⟩; refine ⟨_, rfl, ?_⟩; have n0_ := aM (below_step (by repeat (first | (with_reducible first | exact HB.out | apply wA | apply wN | apply wD) | exact HB.out)) hb); clear HB; have HB := n0_; clear n0_; (try clear hb); (try clear hb2); (try clear hk); (try clear hi); (try clear hge_)))
 go_ret
 exact ⟨by first | rfl | (simp [errW_none, errW_some] <;> rfl) | (simp [*, errW_none, errW_some] <;> rfl), by repeat (first | (with_reducible first | exact HB.out | apply wA | apply wN | apply wD) | exact HB.out)⟩

-- NOT PRINTED: function 20 (frame_head)

-- NOT PRINTED: function 33 (slices_Grow_byte_byte)

end Go.Proofs.Ytmlphabhldahlaa.PFk
