-- Laid by wip/tools/xprint.py, a program of this session over the kit's print: functions as Lean functions, each with its contract.
import Derived.Test.YtmlphabhldahlaaPFkx0
import Derived.Test.YtmlphabhldahlaaPFkx1
import Derived.Test.YtmlphabhldahlaaPFkx2
namespace Go.Proofs.Ytmlphabhldahlaa.PFk
open Go.RowKit Go.Proofs.YtmlphabhldahlaaW.PrintWords Go.Proofs.YtmlphabhldahlaaW.PrintLast Go.Proofs.YtmlphabhldahlaaW.PrintMore
attribute [local go_sem] max2_int min2_int max_two min_two max_three min_three max_four min_four   -- for this text's walks alone
set_option linter.unusedVariables false
set_option linter.unusedSimpArgs false

/-! ### frame_Seal: function 10, by hand -/
/-- The four bytes of a number, the lowest one first. -/
def frame_Seal.le (v : Int) : List Int := [v % 256, v / 256 % 256, v / 65536 % 256, v / 16777216 % 256]
def frame_Seal.row (xs : List Int) : Array Value := (xs.map fun x => Value.int .u8 x).toArray
theorem frame_Seal.little (v : Int) (h0 : 0 ≤ v) (h1 : v < 4294967296) (w : World) : Calls Try.prog 30 #[.int .u32 v] w fun e w' => e = .returned (.agg (frame_Seal.row (frame_Seal.le v))) ∧ Below w.heap.size w w' := by
  have HB := aM (Below.refl w.heap.size w)
  obtain ⟨n, rfl⟩ := Int.eq_ofNat_of_zero_le h0
  go_enter Try.func30, Try.ntmps30
  go_wp2_with ((with_reducible refine gate_dst (N := 2) rfl ?_); refine box_event ?hg (N := 2) ?hd (cs := #[.int .u8 0, .int .u8 0, .int .u8 0, .int .u8 0]) (t := 55) ?hr ?_; (case hd => rfl); (case hg => rfl); (case hr => first | (go_simp; done) | (go_simp; rfl)); intro g6 hg w6 hbox hb; have HG6 := aM (show w.heap.size ≤ g6 by rw [hg]; exact below_size HB.out); have BK6 := aM hbox; have HB6 := aM (below_step HB.out hb); clear hg hbox hb; have hcz := (blk_cell BK6.out 0).trans rfl; have hcy := (blk_cell BK6.out 1).trans rfl; have hcx := (blk_cell BK6.out 2).trans rfl; have hcw := (blk_cell BK6.out 3).trans rfl; have hfz6 := blk_frozen BK6.out)
  have e3 : (n : Int) / 16777216 = (n : Int) / 16777216 % 256 := by omega
  have h6 := blk_put (blk_put (blk_put (blk_put BK6.out 0 (.int .u8 ((n : Int) % 256)) rfl) 1 (.int .u8 ((n : Int) / 256 % 256)) rfl) 2 (.int .u8 ((n : Int) / 65536 % 256)) rfl) 3 (.int .u8 ((n : Int) / 16777216)) rfl
  have hB := below_set (j := 3) (v := .int .u8 ((n : Int) / 16777216)) (below_set (j := 2) (v := .int .u8 ((n : Int) / 65536 % 256)) (below_set (j := 1) (v := .int .u8 ((n : Int) / 256 % 256)) (below_set (j := 0) (v := .int .u8 ((n : Int) % 256)) HB6.out HG6.out) HG6.out) HG6.out) HG6.out
  refine bodyPost_ret (results_cell_row rfl _ _ g6 55 _ (0, 0) _ rfl h6 Try.underlying55 rfl (by kernel_rfl)) rfl ⟨?_, hB⟩
  show Ending.returned (Value.agg #[.int .u8 ((n : Int) % 256), .int .u8 ((n : Int) / 256 % 256), .int .u8 ((n : Int) / 65536 % 256), .int .u8 ((n : Int) / 16777216)]) = _
  rw [e3]
  rfl
theorem frame_Seal.row_C {w : World} {g t : Nat} {xs : List Int} (h : w.heap[g]? = some (.cells (frame_Seal.row xs) t (0, 0))) (hl : xs.length ≤ 4096 := by decide) : (Kd.int .u8).C w (some ⟨g, 0, none⟩) xs.length xs :=
  ⟨rfl, by omega, fun _ => ⟨_, rfl, fun j p hj => ⟨[.int .u8 p], rfl, rfl, fun i u hu => by
    have hi : i = 0 := by
      rcases i with _ | i
      · rfl
      · simp at hu
    subst hi
    have hu2 : u = .int .u8 p := by simpa using hu.symm
    subst hu2
    rw [add_plain, blk_cell h]
    show (frame_Seal.row xs)[j * 1 + 0]? = _
    simp [frame_Seal.row, hj]⟩⟩⟩
set_option maxHeartbeats 400000 in
set_option maxRecDepth 100000 in
theorem frame_Seal.head (A0 : Option Addr) (c0 : Nat) (l0 : List Int) (a s : Int) (w : World) (hr0 : (Kd.int .u8).C w A0 l0.length l0) (hc0 : l0.length ≤ c0) (hl : l0.length ≤ 4096) (hA : crc_Of.f (frame_Seal.le (l0.length : Int)) = some a) (hS : crc_Update.f a l0 = some s) (hs0 : 0 ≤ s) (hs1 : s < 4294967296) :
    Calls Try.prog 20 #[.slice A0 l0.length c0] w fun e w' => e = .returned (.agg (frame_Seal.row (frame_Seal.le (l0.length : Int) ++ frame_Seal.le s))) ∧ Below w.heap.size w w' := by
  have HB := aM (Below.refl w.heap.size w)
  have HR0 := aM hr0
  have HC0 := aM hc0
  have HA := aM hA
  have HS := aM hS
  have HS0 := aM hs0
  have HS1 := aM hs1
  have HN0 := aM (show (0 : Int) ≤ (l0.length : Int) by omega)
  have HN1 := aM (show (l0.length : Int) < 4294967296 by omega)
  have hu : (l0.length : Int) % 4294967296 = (l0.length : Int) := by omega
  clear hr0 hc0 hA hS hs0 hs1
  go_enter Try.func20, Try.ntmps20
  go_upto_region 2 with (first
    | ((with_reducible refine gate_dst (N := 2) rfl ?_); refine box_event ?hg (N := 2) ?hd (cs := #[.int .u8 0, .int .u8 0, .int .u8 0, .int .u8 0, .int .u8 0, .int .u8 0, .int .u8 0, .int .u8 0]) (t := 43) ?hr ?_; (case hd => rfl); (case hg => rfl); (case hr => first | (go_simp; done) | (go_simp; rfl)); intro g2 hg w2 hbox hb; have Hg2 := aM (show w.heap.size ≤ g2 by rw [hg]; exact below_size HB.out); have Eg2 := aM hbox;  have n0_ := aM (below_step HB.out hb); clear HB; have HB := n0_; clear n0_ hg hbox hb)
    | (go_at_call 30; refine (frame_Seal.little (l0.length : Int) HN0.out HN1.out _).mono ?_; rintro e w' ⟨rfl, hb⟩; have n_ := aM (blk_below Eg2.out hb); clear Eg2; have Eg2 := n_; clear n_; have n0_ := aM (below_step HB.out hb); clear HB; have HB := n0_; clear n0_ hb)
    | ((with_reducible refine gate_dst (N := 3) rfl ?_); refine box_event ?hg (N := 3) ?hd (cs := #[.int .u8 0, .int .u8 0, .int .u8 0, .int .u8 0]) (t := 55) ?hr ?_; (case hd => rfl); (case hg => rfl); (case hr => first | (go_simp; done) | (go_simp; rfl)); intro g3 hg w3 hbox hb; have Hg3 := aM (show w.heap.size ≤ g3 by rw [hg]; exact below_size HB.out); have Eg3 := aM hbox; have Ng2g3 := aM (show g2 ≠ g3 by rw [hg]; exact Nat.ne_of_lt (blk_lt Eg2.out)); have n_ := aM (blk_below Eg2.out hb); clear Eg2; have Eg2 := n_; clear n_;  have n0_ := aM (below_step HB.out hb); clear HB; have HB := n0_; clear n0_ hg hbox hb)
    | (refine wpList_store_row rfl 55 (.tmp 3) (.tmp 9) rfl g3 (frame_Seal.row (frame_Seal.le (l0.length : Int))) rfl rfl 55 #[.int .u8 0, .int .u8 0, .int .u8 0, .int .u8 0] Eg3.out (by kernel_rfl) rfl (by kernel_rfl) ?_; have n_ := aM (setRow_heap _ _ _ (frame_Seal.row (frame_Seal.le (l0.length : Int))) _ _ Eg3.out); have nb_ := aM (below_setRow HB.out Hg3.out (frame_Seal.row (frame_Seal.le (l0.length : Int)))); have ng2_ := aM ((setRow_other _ _ _ (frame_Seal.row (frame_Seal.le (l0.length : Int))) Ng2g3.out).trans Eg2.out); clear Eg2; have Eg2 := ng2_; clear ng2_; clear Eg3 HB; have Eg3 := n_; have HB := nb_; clear n_ nb_))
  go_upto_region 3 with (first
    | (go_at_call 32; refine (crc_Of.calls _ 4 (frame_Seal.le (l0.length : Int)) a _ (frame_Seal.row_C Eg3.out (by show 4 ≤ 4096; decide)) (Nat.le_refl 4) HA.out).mono ?_; rintro e w' ⟨rfl, hb⟩; have n_ := aM (blk_below Eg2.out hb); clear Eg2; have Eg2 := n_; clear n_; have n_ := aM (blk_below Eg3.out hb); clear Eg3; have Eg3 := n_; clear n_; have n0_ := aM (below_step HB.out hb); clear HB; have HB := n0_; clear n0_ hb)
    | (go_at_call 31; refine (crc_Update.calls a _ _ l0 s _ (Kd.C_below HR0.out HB.out) HC0.out HS.out).mono ?_; rintro e w' ⟨rfl, hb⟩; have n_ := aM (blk_below Eg2.out hb); clear Eg2; have Eg2 := n_; clear n_; have n_ := aM (blk_below Eg3.out hb); clear Eg3; have Eg3 := n_; clear n_; have n0_ := aM (below_step HB.out hb); clear HB; have HB := n0_; clear n0_ hb)
    | (go_at_call 30; refine (frame_Seal.little s HS0.out HS1.out _).mono ?_; rintro e w' ⟨rfl, hb⟩; have n_ := aM (blk_below Eg2.out hb); clear Eg2; have Eg2 := n_; clear n_; have n_ := aM (blk_below Eg3.out hb); clear Eg3; have Eg3 := n_; clear n_; have n0_ := aM (below_step HB.out hb); clear HB; have HB := n0_; clear n0_ hb)
    | ((with_reducible refine gate_dst (N := 4) rfl ?_); refine box_event ?hg (N := 4) ?hd (cs := #[.int .u8 0, .int .u8 0, .int .u8 0, .int .u8 0]) (t := 55) ?hr ?_; (case hd => rfl); (case hg => rfl); (case hr => first | (go_simp; done) | (go_simp; rfl)); intro g4 hg w4 hbox hb; have Hg4 := aM (show w.heap.size ≤ g4 by rw [hg]; exact below_size HB.out); have Eg4 := aM hbox; have Ng2g4 := aM (show g2 ≠ g4 by rw [hg]; exact Nat.ne_of_lt (blk_lt Eg2.out)); have Ng3g4 := aM (show g3 ≠ g4 by rw [hg]; exact Nat.ne_of_lt (blk_lt Eg3.out)); have n_ := aM (blk_below Eg2.out hb); clear Eg2; have Eg2 := n_; clear n_; have n_ := aM (blk_below Eg3.out hb); clear Eg3; have Eg3 := n_; clear n_;  have n0_ := aM (below_step HB.out hb); clear HB; have HB := n0_; clear n0_ hg hbox hb)
    | (refine wpList_store_row rfl 55 (.tmp 4) (.tmp 14) rfl g4 (frame_Seal.row (frame_Seal.le s)) rfl rfl 55 #[.int .u8 0, .int .u8 0, .int .u8 0, .int .u8 0] Eg4.out (by kernel_rfl) rfl (by kernel_rfl) ?_; have n_ := aM (setRow_heap _ _ _ (frame_Seal.row (frame_Seal.le s)) _ _ Eg4.out); have nb_ := aM (below_setRow HB.out Hg4.out (frame_Seal.row (frame_Seal.le s))); have ng2_ := aM ((setRow_other _ _ _ (frame_Seal.row (frame_Seal.le s)) Ng2g4.out).trans Eg2.out); clear Eg2; have Eg2 := ng2_; clear ng2_; have ng3_ := aM ((setRow_other _ _ _ (frame_Seal.row (frame_Seal.le s)) Ng3g4.out).trans Eg3.out); clear Eg3; have Eg3 := ng3_; clear ng3_; clear Eg4 HB; have Eg4 := n_; have HB := nb_; clear n_ nb_))
  go_upto_region 4 with ((with_reducible refine gate_dst (N := 5) rfl ?_); refine box_event ?hg (N := 5) ?hd (cs := #[.int .u8 0, .int .u8 0, .int .u8 0, .int .u8 0, .int .u8 0, .int .u8 0, .int .u8 0, .int .u8 0]) (t := 43) ?hr ?_; (case hd => rfl); (case hg => rfl); (case hr => first | (go_simp; done) | (go_simp; rfl)); intro g5 hg w5 hbox hb; have Hg5 := aM (show w.heap.size ≤ g5 by rw [hg]; exact below_size HB.out); have Eg5 := aM hbox; have Lg2 := aM (show g2 < g5 by rw [hg]; exact blk_lt Eg2.out); have Lg3 := aM (show g3 < g5 by rw [hg]; exact blk_lt Eg3.out); have Lg4 := aM (show g4 < g5 by rw [hg]; exact blk_lt Eg4.out); have Ng2g5 := aM (show g2 ≠ g5 by rw [hg]; exact Nat.ne_of_lt (blk_lt Eg2.out)); have Ng3g5 := aM (show g3 ≠ g5 by rw [hg]; exact Nat.ne_of_lt (blk_lt Eg3.out)); have Ng4g5 := aM (show g4 ≠ g5 by rw [hg]; exact Nat.ne_of_lt (blk_lt Eg4.out)); have n_ := aM (blk_below Eg2.out hb); clear Eg2; have Eg2 := n_; clear n_; have n_ := aM (blk_below Eg3.out hb); clear Eg3; have Eg3 := n_; clear n_; have n_ := aM (blk_below Eg4.out hb); clear Eg4; have Eg4 := n_; clear n_;  have n0_ := aM (below_step HB.out hb); clear HB; have HB := n0_; clear n0_ hg hbox hb)
  go_region_law (refine step_copy_splice rfl (.tmp 15) (.tmp 16) 22 22 rfl 5 Try.underlying22 (by kernel_rfl) (some ⟨g5, 0, none⟩) (some ⟨g3, 0, none⟩) 4 8 4 4 rfl rfl g5 0 [.int .u8 0, .int .u8 0, .int .u8 0, .int .u8 0, .int .u8 0, .int .u8 0, .int .u8 0, .int .u8 0] 43 Eg5.out ((frame_Seal.le (l0.length : Int)).map fun x => .int .u8 x) rfl (fun _ => ⟨rfl, ⟨g3, 0, none⟩, rfl, fun j v hj => by rw [add_plain, blk_cell (bD Eg3.out)]; simpa [frame_Seal.row] using hj⟩) (by show 0 + 4 ≤ 8; decide) (fun v hv => by obtain ⟨x, _, rfl⟩ := List.mem_map.1 hv; rfl) g5 _ (Below.refl _ _) (Nat.le_refl _) ?_; intro w6 hg6 hb6)
  have F5 := aM hg6.out
  have F2 := aM ((hb6.block g2 Lg2.out).trans (bD Eg2.out))
  have F4 := aM ((hb6.block g4 Lg4.out).trans (bD Eg4.out))
  have HB6 := aM ((wD HB.out).trans (⟨hb6.os, hb6.tape, hb6.output, hb6.size, fun i hi => hb6.block i (Nat.lt_of_lt_of_le hi Hg5.out)⟩ : Below w.heap.size _ _))
  clear hg6 hb6 Eg2 Eg3 Eg4 Eg5 HB
  go_upto_region 5 with (fail)
  go_region_law (refine step_copy_splice rfl (.tmp 18) (.tmp 19) 22 22 rfl 5 Try.underlying22 (by kernel_rfl) (some ⟨g5, 4, none⟩) (some ⟨g4, 0, none⟩) 4 4 4 4 rfl rfl g5 4 (splice [.int .u8 0, .int .u8 0, .int .u8 0, .int .u8 0, .int .u8 0, .int .u8 0, .int .u8 0, .int .u8 0] 0 ((frame_Seal.le (l0.length : Int)).map fun x => .int .u8 x)) 43 F5.out ((frame_Seal.le s).map fun x => .int .u8 x) rfl (fun _ => ⟨rfl, ⟨g4, 0, none⟩, rfl, fun j v hj => by rw [add_plain, blk_cell (bD F4.out)]; simpa [frame_Seal.row] using hj⟩) (by show 4 + 4 ≤ 8; decide) (fun v hv => by obtain ⟨x, _, rfl⟩ := List.mem_map.1 hv; rfl) g5 _ (Below.refl _ _) (Nat.le_refl _) ?_; intro w7 hg7 hb7)
  have G5 := aM (show w7.heap[g5]? = some (.cells (frame_Seal.row (frame_Seal.le (l0.length : Int) ++ frame_Seal.le s)) 43 (0, 0)) from hg7.out)
  have G2 := aM ((hb7.block g2 Lg2.out).trans (bD F2.out))
  have HB7 := aM ((wD HB6.out).trans (⟨hb7.os, hb7.tape, hb7.output, hb7.size, fun i hi => hb7.block i (Nat.lt_of_lt_of_le hi Hg5.out)⟩ : Below w.heap.size _ _))
  clear hg7 hb7 F2 F4 F5 HB6
  go_wp2_with (first
    | ((with_reducible refine gate_dst (N := 21) rfl ?_); refine wpList_load_row rfl 43 (.tmp 5) rfl g5 rfl 43 (frame_Seal.row (frame_Seal.le (l0.length : Int) ++ frame_Seal.le s)) (0, 0) _ G5.out Try.underlying43 rfl (by kernel_rfl) ?_)
    | (refine wpList_store_row rfl 43 (.tmp 2) (.tmp 21) rfl g2 (frame_Seal.row (frame_Seal.le (l0.length : Int) ++ frame_Seal.le s)) rfl rfl 43 #[.int .u8 0, .int .u8 0, .int .u8 0, .int .u8 0, .int .u8 0, .int .u8 0, .int .u8 0, .int .u8 0] G2.out (by kernel_rfl) rfl (by kernel_rfl) ?_))
  refine bodyPost_ret (results_cell_row rfl _ _ g2 43 (frame_Seal.row (frame_Seal.le (l0.length : Int) ++ frame_Seal.le s)) (0, 0) _ rfl (setRow_heap _ _ _ _ _ _ G2.out) Try.underlying43 rfl (by kernel_rfl)) rfl ⟨rfl, below_setRow HB7.out Hg2.out _⟩
theorem frame_Seal.two {w : World} {g t : Nat} {A B : Option Addr} {c d : Nat} {xs ys : List Int} (h : w.heap[g]? = some (.cells #[.slice A xs.length c, .slice B ys.length d] t (0, 0))) (h1 : xs.length ≤ c) (h2 : (Kd.int .u8).C w A xs.length xs) (h3 : ys.length ≤ d) (h4 : (Kd.int .u8).C w B ys.length ys) :
    (Kd.slice 5 (Kd.int .u8)).C w (some ⟨g, 0, none⟩) 2 [xs, ys] :=
  ⟨rfl, by decide, fun _ => ⟨_, rfl, fun j p hj => by
    rcases j with _ | _ | j
    · obtain rfl : xs = p := by simpa using hj
      refine ⟨[.slice A xs.length c], rfl, ⟨A, c, rfl, h1, h2⟩, fun i u hu => ?_⟩
      rcases i with _ | i
      · obtain rfl : Value.slice A xs.length c = u := by simpa using hu
        rw [add_plain, blk_cell h]
        rfl
      · simp at hu
    · obtain rfl : ys = p := by simpa using hj
      refine ⟨[.slice B ys.length d], rfl, ⟨B, d, rfl, h3, h4⟩, fun i u hu => ?_⟩
      rcases i with _ | i
      · obtain rfl : Value.slice B ys.length d = u := by simpa using hu
        rw [add_plain, blk_cell h]
        rfl
      · simp at hu
    · simp at hj⟩⟩

def frame_Seal.f (l0 : List Int) : Option (List Int × Int) := if (l0.length : Int) > 4096 then some ([], 5) else (crc_Of.f (frame_Seal.le (l0.length : Int))).bind fun a => (crc_Update.f a l0).bind fun s => if 0 ≤ s ∧ s < 4294967296 then some (frame_Seal.le (l0.length : Int) ++ frame_Seal.le s ++ l0, 0) else none
set_option maxHeartbeats 4000000 in
set_option maxRecDepth 100000 in
theorem frame_Seal.calls (A0 : Option Addr) (c0 : Nat) (l0 : List Int) (r1 : List Int) (r2 : Int) (w : World) (hr0 : Kd.C (Kd.int .u8) w A0 l0.length l0) (hc0 : l0.length ≤ c0) (h : frame_Seal.f l0 = some (r1, r2)) :
    Calls Try.prog 10 #[.slice A0 l0.length c0] w fun e w' => ∃ v0_ : Value, e = .returned (.tuple #[v0_, .int .i64 r2]) ∧ Kd.R (Kd.int .u8) 5 w' w.heap.size (fun _ => True) v0_ r1 ∧ Below w.heap.size w w' := by
  unfold frame_Seal.f at h
  have HB := aM (Below.refl w.heap.size w)
  have HR0 := aM hr0
  have HC0 := aM hc0
  clear hr0 hc0
  by_cases hl : (l0.length : Int) > 4096
  · rw [if_pos hl] at h
    cases h
    go_enter Try.func10, Try.ntmps10
    go_wp2
    go_ret2
    exact ⟨_, rfl, Kd.R_nil _ _ _ _ _, by repeat (first | exact HB.out | apply wA | apply wN | apply wD)⟩
  rw [if_neg hl] at h
  replace h := Option.bind_eq_some_iff.1 h
  obtain ⟨a, hA, h⟩ := h
  replace h := Option.bind_eq_some_iff.1 h
  obtain ⟨s, hS, h⟩ := h
  by_cases hs : 0 ≤ s ∧ s < 4294967296
  case neg => rw [if_neg hs] at h; cases h
  rw [if_pos hs] at h
  cases h
  have HA := aM hA
  have HS := aM hS
  have HS0 := aM hs.1
  have HS1 := aM hs.2
  have HL := aM (show l0.length ≤ 4096 by omega)
  have hl2 : ¬ (l0.length : Int) > 4096 := hl
  have HCC := aM (show slices_Concat_byte_byte.f [(frame_Seal.le (l0.length : Int) ++ frame_Seal.le s), l0] = some ((frame_Seal.le (l0.length : Int) ++ frame_Seal.le s) ++ l0) by
    unfold slices_Concat_byte_byte.f
    have e_ : ([(frame_Seal.le (l0.length : Int) ++ frame_Seal.le s), l0] : List (List Int)).flatten = (frame_Seal.le (l0.length : Int) ++ frame_Seal.le s) ++ l0 := by simp
    rw [e_, if_pos]
    rw [List.length_append]
    show 8 + l0.length < 140737488355328
    omega)
  clear hA hS hs hl
  go_enter Try.func10, Try.ntmps10
  go_upto_region 4 with (first
    | (go_at_call 20; refine (frame_Seal.head _ _ l0 a s _ HR0.out HC0.out HL.out HA.out HS.out HS0.out HS1.out).mono ?_; rintro e w' ⟨rfl, hb⟩; clear HB; have HB := aM hb; clear hb)
    | ((with_reducible refine gate_dst (N := 4) rfl ?_); refine box_event ?hg (N := 4) ?hd (cs := #[.int .u8 0, .int .u8 0, .int .u8 0, .int .u8 0, .int .u8 0, .int .u8 0, .int .u8 0, .int .u8 0]) (t := 43) ?hr ?_; (case hd => rfl); (case hg => rfl); (case hr => first | (go_simp; done) | (go_simp; rfl)); intro g4 hg w4 hbox hb; have H4 := aM (show w.heap.size ≤ g4 by rw [hg]; exact below_size HB.out); have E4 := aM hbox; have n0_ := aM (below_step HB.out hb); clear HB; have HB := n0_; clear n0_ hg hbox hb)
    | (refine wpList_store_row rfl 43 (.tmp 4) (.tmp 9) rfl g4 (frame_Seal.row (frame_Seal.le (l0.length : Int) ++ frame_Seal.le s)) rfl rfl 43 #[.int .u8 0, .int .u8 0, .int .u8 0, .int .u8 0, .int .u8 0, .int .u8 0, .int .u8 0, .int .u8 0] E4.out (by kernel_rfl) rfl (by kernel_rfl) ?_; have n_ := aM (setRow_heap _ _ _ (frame_Seal.row (frame_Seal.le (l0.length : Int) ++ frame_Seal.le s)) _ _ E4.out); have nb_ := aM (below_setRow HB.out H4.out (frame_Seal.row (frame_Seal.le (l0.length : Int) ++ frame_Seal.le s))); clear E4 HB; have E4 := n_; have HB := nb_; clear n_ nb_))
  have HZ : ∀ W : World, ∀ ga : Nat, ∀ t : Nat, Below w.heap.size w W → W.heap[g4]? = some (.cells (frame_Seal.row (frame_Seal.le (l0.length : Int) ++ frame_Seal.le s)) 43 (0, 0)) → W.heap[ga]? = some (.cells #[.slice (some ⟨g4, 0, none⟩) 8 8, .slice A0 l0.length c0] t (0, 0)) →
      Calls Try.prog 21 #[.slice (some ⟨ga, 0, none⟩) 2 2] W fun e w' => ∃ v0_ : Value, e = .returned v0_ ∧ Kd.R (Kd.int .u8) 5 w' W.heap.size (fun _ => True) v0_ ((frame_Seal.le (l0.length : Int) ++ frame_Seal.le s) ++ l0) ∧ Below W.heap.size W w' := by
    intro W ga t hB h4 ha
    have hc := frame_Seal.row_C (xs := (frame_Seal.le (l0.length : Int) ++ frame_Seal.le s)) h4 (by show 8 ≤ 4096; decide)
    have ht := frame_Seal.two (xs := (frame_Seal.le (l0.length : Int) ++ frame_Seal.le s)) (ys := l0) (A := some ⟨g4, 0, none⟩) (B := A0) (c := 8) (d := c0) (t := t) ha (Nat.le_refl 8) hc HC0.out (Kd.C_below HR0.out hB)
    exact slices_Concat_byte_byte.calls (some ⟨ga, 0, none⟩) 2 [(frame_Seal.le (l0.length : Int) ++ frame_Seal.le s), l0] _ W ht (Nat.le_refl 2) HCC.out
  have HZH := aM HZ
  clear HZ
  have hsz := aM (show (w4.setRow g4 (frame_Seal.row (frame_Seal.le (l0.length : Int) ++ frame_Seal.le s))).heap.size = w4.heap.size by simp [World.setRow])
  go_wp2_with (go_at_call 21; (refine (HZH.out _ _ _ (below_alloc HB.out _) (blk_below E4.out (below_alloc (Below.refl _ _) _)) (by rw [← hsz.out]; exact blk_new _ _)).mono ?_); rintro e w' ⟨v0, rfl, ho, hb⟩; have HO := aM (Kd.R_lower ho (below_alloc HB.out _).size); have HB9 := aM (below_step (below_alloc HB.out _) hb); clear ho hb)
  go_ret2
  exact ⟨_, rfl, HO.out, HB9.out⟩

end Go.Proofs.Ytmlphabhldahlaa.PFk
