-- Laid by wip/tools/xprint.py, a program of this session over the kit's print: functions as Lean functions, each with its contract.
import Derived.Test.YtiflebfnhjlfdaaPNkx0
import Derived.Test.YtiflebfnhjlfdaaPNkx3
namespace Go.Proofs.Ytiflebfnhjlfdaa.PNk
open Go.RowKit Go.Proofs.YtiflebfnhjlfdaaW.PrintWords Go.Proofs.YtiflebfnhjlfdaaW.PrintLast Go.Proofs.YtiflebfnhjlfdaaW.PrintMore
attribute [local go_sem] max2_int min2_int max_two min_two max_three min_three max_four min_four   -- for this text's walks alone
set_option linter.unusedVariables false
set_option linter.unusedSimpArgs false

/-! ### network_has: function 34 -/
def network_has.f (l0 : List (S32)) (a1 : Int) : Option (Bool) := if a1 ≥ 0 then (some (decide (a1 < (l0.length : Int)))) else (some false)
set_option maxHeartbeats 8000000 in
set_option maxRecDepth 100000 in
theorem network_has.calls (A0 : Option Addr) (c0 : Nat) (l0 : List (S32)) (a1 : Int) (r : Bool) (w : World) (hr0 : Kd.C k32 w A0 l0.length l0) (hc0 : l0.length ≤ c0) (h : network_has.f l0 a1 = some r) :
  Calls Try.prog 34 #[.slice A0 l0.length c0, .int .i64 a1] w fun e w' => e = .returned (.bool r) ∧ Drawn0 w w' := by
 have HR0 := aM hr0
 have HC0 := aM hc0
 clear hr0 hc0
 have H : (if a1 ≥ 0 then (some (decide (a1 < (l0.length : Int)))) else (some false)) = some r := h
 clear h
 by_cases c3 : a1 ≥ 0
 ·rw [if_pos c3] at H
  have c3b0 : decide (0 ≤ a1) = true := decide_eq_true c3
  clear c3
  obtain rfl := Option.some.inj H
  go_enter Try.func34, Try.ntmps34
  go_wp2
  go_ret
  exact ⟨by first | rfl | (simp; done) | (simp [*]; done), by repeat (first | exact Drawn0.refl _ | apply Drawn0.step)⟩
 ·rw [if_neg c3] at H
  have c3b0 : decide (0 ≤ a1) = false := decide_eq_false c3
  clear c3
  obtain rfl := Option.some.inj H
  go_enter Try.func34, Try.ntmps34
  go_wp2
  go_ret
  exact ⟨by first | rfl | (simp; done) | (simp [*]; done), by repeat (first | exact Drawn0.refl _ | apply Drawn0.step)⟩

/-! ### network_Oldest: function 16, by hand -/
attribute [local go_sem] Oper.semAt_some

def network_Oldest.f (l0 : List (S32)) (a1 : Int) : Option (Int) := if l0.length < 17592186044416 then (if 0 ≤ a1 ∧ a1 < (l0.length : Int) then some ((network_Channel.go (rd_T32 l0 a1).f0 (rd_T32 l0 a1).f1 l0 0).headD (-1)) else some (-1)) else none
set_option maxHeartbeats 4000000 in
set_option maxRecDepth 100000 in
theorem network_Oldest.calls (A0 : Option Addr) (c0 : Nat) (l0 : List (S32)) (a1 : Int) (r : Int) (w : World) (hr0 : Kd.C k32 w A0 l0.length l0) (hc0 : l0.length ≤ c0) (h : network_Oldest.f l0 a1 = some r) :
    Calls Try.prog 16 #[.slice A0 l0.length c0, .int .i64 a1] w fun e w' => e = .returned (.int .i64 r) ∧ Below w.heap.size w w' := by
  unfold network_Oldest.f at h
  by_cases hlen : l0.length < 17592186044416
  case neg => rw [if_neg hlen] at h; cases h
  rw [if_pos hlen] at h
  refine (callsIn_wide (n := 3)).1 ?_
  refine callsIn_of_wp_marks Try.func16 rfl trivial ?_ rfl
  simp only [Try.ntmps16, List.size_toArray, List.length_cons, List.length_nil, Nat.reduceAdd, Nat.reduceSub, Array.replicate_succ, Array.replicate_zero, List.push_toArray, List.append_toArray, List.nil_append, List.cons_append]
  have hB0 : Below w.heap.size w (w.alloc (.cells #[.int .i64 0] 3)) := (Below.refl _ w).alloc (Nat.le_refl _) _
  have HB0 := aM hB0
  by_cases hin : 0 ≤ a1 ∧ a1 < (l0.length : Int)
  case neg =>
    rw [if_neg hin] at h
    cases Option.some.inj h
    have hhas : network_has.f l0 a1 = some false := by
      unfold network_has.f
      by_cases h0 : a1 ≥ 0
      · rw [if_pos h0, decide_eq_false (by omega)]
      · rw [if_neg h0]
    have HHAS := aM hhas
    have HR0 := aM hr0
    have HC0 := aM hc0
    have b0 := Boxed.new w 3 (.int .i64 0)
    have HB1 := aM b0
    clear hhas h hin hlen hr0 hc0 b0 hB0
    gi_wp2_with (refine ⟨trivial, ?_⟩; gi_at_call 34; refine (callsIn_wide.2 (network_has.calls A0 c0 l0 a1 false _ (Kd.C_below HR0.out HB0.out) HC0.out HHAS.out)).mono ?_; rintro e w' ⟨rfl, hd⟩; obtain ⟨⟨nd, rfl⟩⟩ := hd)
    have hc5 : (((w.alloc (.cells #[.int .i64 0] 3)).drewN nd).setCell ⟨w.heap.size, 0, none⟩ (.int .i64 (-1))).cell? ⟨w.heap.size, 0, none⟩ = some (.int .i64 (-1)) := (Boxed.set _ (show Boxed ((w.alloc (.cells #[.int .i64 0] 3)).drewN nd) w.heap.size 3 (.int .i64 0) from HB1.out)).cell
    refine ⟨.int .i64 (-1), ?_, rfl, (pw_below_drewN HB0.out nd).setCell (p := ⟨w.heap.size, 0, none⟩) (Nat.le_refl _) _⟩
    simp [results, Try.f16, go_sem, hc5]
  rw [if_pos hin] at h
  have hr := Option.some.inj h
  have hhas : network_has.f l0 a1 = some true := by
    unfold network_has.f
    rw [if_pos hin.1, decide_eq_true hin.2]
  have HHAS := aM hhas
  have HR0 := aM hr0
  have HC0 := aM hc0
  have HRR := aM hr
  have HLEN := aM hlen
  obtain ⟨M, hM⟩ : ∃ M, M = rd_T32 l0 a1 := ⟨_, rfl⟩
  obtain ⟨ad1, A7, c7, A8, c8, eA, hx0, hx1, _⟩ := at_T32 hr0 a1 hin.1 hin.2
  cases eA
  replace hx0 := (HB0.out.cell (World.block_lt_of_cell? w _ hx0)).trans hx0
  replace hx1 := (HB0.out.cell (World.block_lt_of_cell? w _ hx1)).trans hx1
  rw [← hM] at hx0 hx1
  have HM := aM hM
  have p1 : (0 ≤ a1) = True := eq_true hin.1
  have p2 : (a1 < (l0.length : Int)) = True := eq_true hin.2
  have hmx : Try.prog.follows .mixedOrders = true := by kernel_rfl
  clear hhas h hin hlen hr0 hc0 hr hM hB0
  gi_wp2_with (refine ⟨trivial, ?_⟩; gi_at_call 34; refine (callsIn_wide.2 (network_has.calls _ c0 l0 a1 true _ (Kd.C_below HR0.out HB0.out) HC0.out HHAS.out)).mono ?_; rintro e w' ⟨rfl, hd⟩; obtain ⟨⟨nd, rfl⟩⟩ := hd)
  refine Go.Proofs.YtiflebfnhjlfdaaW.Rng.wpIn_noPanic ?_
  gi_region_with_o (refine ⟨trivial, ?_⟩; gi_at_call 33; refine (callsIn_wide.2 (network_Channel.channel _ l0.length c0 M.f0 M.f1 _)).mono ?_; rintro e w' ⟨rfl, rfl⟩)
  all_goals refine NoPanic.normal ?_
  all_goals
    have q0 := blk_alloc (blk_alloc (heap_alloc_new ((w.alloc (.cells #[.int .i64 0] 3)).drewN (nd + 1)) (.cells #[.slice (some ad1) l0.length c0] 26)) (.cells #[.int .i64 M.f0] 3)) (.cells #[.int .i64 M.f1] 3)
    have q1 := blk_alloc (heap_alloc_new (((w.alloc (.cells #[.int .i64 0] 3)).drewN (nd + 1)).alloc (.cells #[.slice (some ad1) l0.length c0] 26)) (.cells #[.int .i64 M.f0] 3)) (.cells #[.int .i64 M.f1] 3)
    have q2 := heap_alloc_new ((((w.alloc (.cells #[.int .i64 0] 3)).drewN (nd + 1)).alloc (.cells #[.slice (some ad1) l0.length c0] 26)).alloc (.cells #[.int .i64 M.f0] 3)) (.cells #[.int .i64 M.f1] 3)
    have e0 : ((w.alloc (.cells #[.int .i64 0] 3)).drewN (nd + 1)).heap.size = w.heap.size + 1 := World.size_alloc _ _
    rw [World.size_alloc] at q1 q2
    rw [World.size_alloc] at q2
    rw [e0] at q0 q1 q2
    have qr : Boxed (((((w.alloc (.cells #[.int .i64 0] 3)).drewN (nd + 1)).alloc (.cells #[.slice (some ad1) l0.length c0] 26)).alloc (.cells #[.int .i64 M.f0] 3)).alloc (.cells #[.int .i64 M.f1] 3)) w.heap.size 3 (.int .i64 0) := (((show Boxed ((w.alloc (.cells #[.int .i64 0] 3)).drewN (nd + 1)) w.heap.size 3 (.int .i64 0) from Boxed.new w 3 (.int .i64 0)).alloc _).alloc _).alloc _
    have QB := aM (below_alloc (below_alloc (below_alloc (pw_below_drewN HB0.out (nd + 1)) (.cells #[.slice (some ad1) l0.length c0] 26)) (.cells #[.int .i64 M.f0] 3)) (.cells #[.int .i64 M.f1] 3))
    have hit := network_Channel.iter (some ad1) c0 l0 M.f0 M.f1 (w.heap.size + 1) (((((w.alloc (.cells #[.int .i64 0] 3)).drewN (nd + 1)).alloc (.cells #[.slice (some ad1) l0.length c0] 26)).alloc (.cells #[.int .i64 M.f0] 3)).alloc (.cells #[.int .i64 M.f1] 3)) (Kd.C_below HR0.out QB.out) (blk_lt q2) ((blk_cell q0 0).trans rfl) ((blk_cell q1 0).trans rfl) ((blk_cell q2 0).trans rfl)
    have hcr := qr.cell
    have hfr := qr.frozen
    have HCR := aM hcr
    have HFR := aM hfr
    clear q0 q1 q2 qr hx0 hx1 e0 hcr hfr
    gi_wp2
    refine wpIn_rangeFunc_ownF (P := Try.prog) rfl (by omega) (gf := 40) (lb := #[.pointer (some ⟨w.heap.size + 1, 0, none⟩), .pointer (some ⟨w.heap.size + 1 + 1, 0, none⟩), .pointer (some ⟨w.heap.size + 1 + 1 + 1, 0, none⟩)]) rfl trivial (enters_of Try.func40 (by kernel_rfl) rfl) hit belowK_t (belowK_b (Nat.le_refl _)) (Below.refl _ _) (fun _ => rfl)
      (fun (pre : List Int) W => (pre = [] ∧ W.cell? ⟨w.heap.size, 0, none⟩ = some (.int .i64 0) ∧ W.frozen? ⟨w.heap.size, 0, none⟩ = false) ∧ Below w.heap.size w W)
      (fun c pre W => (c = .ret ∧ ∃ x : Int, pre = [x] ∧ W.cell? ⟨w.heap.size, 0, none⟩ = some (.int .i64 x)) ∧ Below w.heap.size w W)
      (OwnFrom.and (Own.from (fun s A B row hs hg hr => ⟨hs.1, cell_kept hs.2.1 hg hr, (frozen_kept hs.2.1 hg hr).trans hs.2.2⟩) _) (ownFrom_below (Nat.le_refl _) QB.out.size))
      (fun c => OwnFrom.and (Own.from (fun s A B row hs hg hr => by obtain ⟨hc, x, e1, e2⟩ := hs; exact ⟨hc, x, e1, cell_kept e2 hg hr⟩) _) (ownFrom_below (Nat.le_refl _) QB.out.size))
      ⟨⟨rfl, HCR.out, HFR.out⟩, QB.out⟩
      (fun x => { tmps := #[.slice (some ad1) l0.length c0, .int .i64 a1, undef, undef, .pointer (some ⟨w.heap.size, 0, none⟩), .int .i64 x, .slice (some ad1) l0.length c0, .int .i64 a1, .bool true, .bool false, .slice (some ad1) l0.length c0, .slice (some ad1) l0.length c0, .int .i64 a1, .pointer (some (ad1.add (a1.toNat * 9))), .pointer (some (ad1.add (a1.toNat * 9))), .int .i64 M.f0, .slice (some ad1) l0.length c0, .int .i64 a1, .pointer (some (ad1.add (a1.toNat * 9))), .pointer (some ⟨(ad1.add (a1.toNat * 9)).block, (ad1.add (a1.toNat * 9)).off + 1, none⟩), .int .i64 M.f1, (.func (.func 40) #[] #[.pointer (some ⟨w.heap.size + 1, 0, none⟩), .pointer (some ⟨w.heap.size + 1 + 1, 0, none⟩), .pointer (some ⟨w.heap.size + 1 + 1 + 1, 0, none⟩)]), .int .i64 x, undef], defers := [] }) ?assign ?body ?done ?stop
    case assign =>
      intro l x W K hK
      gi_wp2
      exact hK
    case body =>
      rintro l pre x W ⟨⟨rfl, hc, hf⟩, hB⟩ _
      gi_wp2
      exact ⟨KeepsOthers.setCell _ _ _, ⟨rfl, x, rfl, World.cell?_setCell_same' _ _ _ (by rw [hc]; rfl)⟩, hB.setCell (p := ⟨w.heap.size, 0, none⟩) (Nat.le_refl _) _⟩
    case done =>
      rintro D ys W hD rfl ⟨⟨hne, hc, hf⟩, hB⟩ hK
      have HNE := aM hne
      clear hne
      gi_wp2
      have hK' := (KeepsOthers.setCell W ⟨w.heap.size, 0, none⟩ (.int .i64 (-1))).same D _ hK rfl
      refine ⟨by simp, .inl ⟨_, _, rfl, run_takeDeferred hK', ?_⟩⟩
      have hc5 := cell_kept (World.cell?_setCell_same' W ⟨w.heap.size, 0, none⟩ (.int .i64 (-1)) (by rw [hc]; rfl)) (grownBy_putObj' _ D (.deferred none)) (fun r e => by cases e; exact ⟨_, hK', rfl⟩)
      refine ⟨.int .i64 (-1), ?_, by rw [← HRR.out, ← HM.out, HNE.out]; rfl, (hB.setCell (p := ⟨w.heap.size, 0, none⟩) (Nat.le_refl _) _).trans (belowK_b (w := w) (Nat.le_refl _) _ D _ _ (Nat.le_trans QB.out.size hD) hK' rfl rfl)⟩
      simp [results, Try.f16, go_sem, hc5]
    case stop =>
      rintro D c pre W hD hpre ⟨⟨rfl, x, rfl, hc⟩, hB⟩ hK
      have HPRE := aM hpre
      clear hpre
      gi_wp2
      refine ⟨by simp, .inl ⟨_, _, rfl, run_takeDeferred hK, ?_⟩⟩
      have hc5 := cell_kept hc (grownBy_putObj' _ D (.deferred none)) (fun r e => by cases e; exact ⟨_, hK, rfl⟩)
      refine ⟨.int .i64 x, ?_, ?_, hB.trans (belowK_b (w := w) (Nat.le_refl _) W D _ _ (Nat.le_trans QB.out.size hD) hK rfl rfl)⟩
      · simp [results, Try.f16, go_sem, hc5]
      · obtain ⟨z, hz⟩ := HPRE.out
        rw [← HRR.out, ← HM.out, ← hz]
        rfl

end Go.Proofs.Ytiflebfnhjlfdaa.PNk
