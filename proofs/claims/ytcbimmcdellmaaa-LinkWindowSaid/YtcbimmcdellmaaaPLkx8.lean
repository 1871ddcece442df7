-- Laid by wip/tools/xprint.py, a program of this session over the kit's print: functions as Lean functions, each with its contract.
import Derived.Test.YtcbimmcdellmaaaPLkx0
namespace Go.Proofs.Ytcbimmcdellmaaa.PLk
open Go.RowKit Go.Proofs.YtcbimmcdellmaaaW.PrintWords Go.Proofs.YtcbimmcdellmaaaW.PrintLast Go.Proofs.YtcbimmcdellmaaaW.PrintMore
attribute [local go_sem] max2_int min2_int max_two min_two max_three min_three max_four min_four   -- for this text's walks alone
set_option linter.unusedVariables false
set_option linter.unusedSimpArgs false

/-! ### link_Packets: function 16 -/
def link_Packets.l0 : Nat → List (S42) → List Int → Int → Int → Int → Int → List Int → Int → List (S42) → Option ((List (S42)))
 | 0, _, _, _, _, _, _, _, _, _ => none
 | k + 1, x3, x7, x8, x9, x262000, x262001, x262002, x262003, x262004 => if x9 < x8 then (if 0 ≤ x9 then (if x9 < (x7.length : Int) then (if x3.length < 5864062014805 then (link_Packets.l0 k (x3 ++ [(⟨wrap64 (x262001 + x9), 0, rd x7 x9⟩ : S42)]) x7 x8 (wrap64 (x9 + 1)) x262000 x262001 x262002 x262003 x262004) else (none)) else (none)) else (none)) else (some x3)
def link_Packets.f (k : Nat) (a0_0 : Int) (a0_1 : Int) (l0_2 : List Int) (a0_3 : Int) (l0_4 : List (S42)) : Option ((List (S42))) := link_Packets.l0 k ([] : List (S42)) l0_2 (l0_2.length : Int) 0 a0_0 a0_1 l0_2 a0_3 l0_4
theorem link_Packets.mono_l : ∀ k, (∀ y0 y1 y2 y3 y4 y5 y6 y7 y8, LeO (link_Packets.l0 k y0 y1 y2 y3 y4 y5 y6 y7 y8) (link_Packets.l0 (k + 1) y0 y1 y2 y3 y4 y5 y6 y7 y8))
 | 0 => fun _ _ _ _ _ _ _ _ _ r h => by simp [link_Packets.l0] at h
 | k + 1 => by
  have ih0 := link_Packets.mono_l k
  ·intro y0 y1 y2 y3 y4 y5 y6 y7 y8
   unfold link_Packets.l0
   repeat' first
   | (with_reducible exact ih0 _ _ _ _ _ _ _ _ _)
   | (with_reducible exact LeO.refl _)
   | (with_reducible exact LeO.none _)
   | (with_reducible refine LeO.ite ?_ ?_)
   | (with_reducible refine LeO.bind ?_ (fun _ => ?_))
   | exact ih0 _ _ _ _ _ _ _ _ _
   | exact LeO.none _
   | refine LeO.ite ?_ ?_
   | refine LeO.bind ?_ (fun _ => ?_)
theorem link_Packets.mono : ∀ a0 a1 a2 a3 a4 k, LeO (link_Packets.f k a0 a1 a2 a3 a4) (link_Packets.f (k + 1) a0 a1 a2 a3 a4) := by
 intro a0 a1 a2 a3 a4 k
 have ih0 := link_Packets.mono_l k
 unfold link_Packets.f
 repeat' first
   | (with_reducible exact ih0 _ _ _ _ _ _ _ _ _)
   | (with_reducible exact LeO.refl _)
   | (with_reducible exact LeO.none _)
   | (with_reducible refine LeO.ite ?_ ?_)
   | (with_reducible refine LeO.bind ?_ (fun _ => ?_))
   | exact ih0 _ _ _ _ _ _ _ _ _
   | exact LeO.none _
   | refine LeO.ite ?_ ?_
   | refine LeO.bind ?_ (fun _ => ?_)
set_option maxHeartbeats 8000000 in
set_option maxRecDepth 100000 in
theorem link_Packets.calls (k : Nat) (a0_0 : Int) (a0_1 : Int) (A0_2 : Option Addr) (c0_2 : Nat) (l0_2 : List Int) (a0_3 : Int) (A0_4 : Option Addr) (c0_4 : Nat) (l0_4 : List (S42)) (r : List (S42)) (w : World) (hr0_2 : Kd.C (Kd.int .i64) w A0_2 l0_2.length l0_2) (hc0_2 : l0_2.length ≤ c0_2) (hr0_4 : Kd.C k42 w A0_4 l0_4.length l0_4) (hc0_4 : l0_4.length ≤ c0_4) (h : link_Packets.f k a0_0 a0_1 l0_2 a0_3 l0_4 = some r) :
  Calls Try.prog 16 #[.agg #[.int .i64 a0_0, .int .i64 a0_1, .slice A0_2 l0_2.length c0_2, .int .i64 a0_3, .slice A0_4 l0_4.length c0_4]] w fun e w' => ∃ v0_ : Value, e = .returned (v0_) ∧ Kd.R k42 42 w' w.heap.size (fun _ => True) v0_ r ∧ Below w.heap.size w w' := by
 have hu27 := Try.underlying27
 have hu42 := Try.underlying42
 have HR0_2 := aM hr0_2
 have HC0_2 := aM hc0_2
 clear hr0_2 hc0_2
 have HR0_4 := aM hr0_4
 have HC0_4 := aM hc0_4
 clear hr0_4 hc0_4
 have HB := aM (Below.refl w.heap.size w)
 have H : (link_Packets.l0 k ([] : List (S42)) l0_2 (l0_2.length : Int) 0 a0_0 a0_1 l0_2 a0_3 l0_4) = some r := h
 clear h
 have H' := aM H
 clear H
 go_enter Try.func16, Try.ntmps16
 go_wp2_with (first | ((with_reducible refine gate_dst (N := 1) rfl ?_); refine box_event ?hg (N := 1) ?hd (cs := #[.int .i64 a0_0, .int .i64 a0_1, .slice A0_2 l0_2.length c0_2, .int .i64 a0_3, .slice A0_4 l0_4.length c0_4]) (t := 27) ?hr ?_; (case hd => rfl); (case hg => rfl); (case hr => first | (go_simp; done) | (go_simp; rfl)); intro gb261 hg w2 hbox hb; have n0_ := aM (below_step (by repeat (first | (with_reducible first | exact HB.out | apply wA | apply wN | apply wD) | exact HB.out)) hb); have n1_ := aM (hbox); have n2_ := aM ((by rw [hg]; exact (below_size (by repeat (first | (with_reducible first | exact HB.out | apply wA | apply wN | apply wD) | exact HB.out))) : w.heap.size ≤ gb261)); have n3_ := aM ((by rw [hg]; exact (below_size (by repeat (first | (with_reducible first | exact HB.out | apply wA | apply wN | apply wD) | exact HB.out))) : w.heap.size ≤ gb261)); clear HB; have HB := n0_; have BK261 := n1_; have GW261 := n2_; have GE261 := n3_; clear n0_ n1_ n2_ n3_; clear hb hbox hg; have hcz3_0 : w2.cell? ⟨gb261, 0, none⟩ = some (.int .i64 a0_0) := (blk_cell BK261.out 0).trans rfl; have hcz3_1 : w2.cell? ⟨gb261, 1, none⟩ = some (.int .i64 a0_1) := (blk_cell BK261.out 1).trans rfl; have hcz3_2 : w2.cell? ⟨gb261, 2, none⟩ = some (.slice A0_2 l0_2.length c0_2) := (blk_cell BK261.out 2).trans rfl; have hcz3_3 : w2.cell? ⟨gb261, 3, none⟩ = some (.int .i64 a0_3) := (blk_cell BK261.out 3).trans rfl; have hcz3_4 : w2.cell? ⟨gb261, 4, none⟩ = some (.slice A0_4 l0_4.length c0_4) := (blk_cell BK261.out 4).trans rfl; have hfz3_0 := blk_frozen BK261.out 0; have hfz3_1 := blk_frozen BK261.out 1; have hfz3_2 := blk_frozen BK261.out 2; have hfz3_3 := blk_frozen BK261.out 3; have hfz3_4 := blk_frozen BK261.out 4))
 go_loopg [3, 9] k (fun kq v3 v9 w' => ∃ (x3_1 : List (S42)) (x9_1 : Int), v9 = .int .i64 x9_1 ∧ Aside0 (link_Packets.l0 kq x3_1 l0_2 (l0_2.length : Int) x9_1 a0_0 a0_1 l0_2 a0_3 l0_4 = some r) ∧ Aside0 (kq ≤ k) ∧ Aside0 (Kd.R k42 42 w' w.heap.size (fun _ => True) v3 x3_1) ∧ Aside0 (w'.heap[gb261]? = some (.cells #[.int .i64 a0_0, .int .i64 a0_1, (.slice A0_2 l0_2.length c0_2), .int .i64 a0_3, (.slice A0_4 l0_4.length c0_4)] 27 (0, 0))) ∧ Aside0 (Below w.heap.size w w'))
 case atStart => exact ⟨(([] : List (S42))), (0), (by first | rfl | (simp; done) | (simp [*]; done)), H', ⟨Nat.le_refl _⟩, ⟨by first | exact Kd.R_nil _ _ _ _ _ | exact Kd.N_nil _ _ _ _ _ | exact Kd.V_nil _ _ _ _ _ | exact Kd.Q_nil _ _ _ _ _ | exact Kd.S_nil _ _ _ _ _⟩, ⟨by (with_reducible repeat (first | refine bN ?_ _ | refine bD ?_ | refine bA ?_ _)); exact BK261.out⟩, ⟨by repeat (first | (with_reducible first | exact HB.out | apply wA | apply wN | apply wD | refine below_set ?_ GE261.out) | exact HB.out)⟩⟩
 case round =>
  clear H'
  try clear c1
  try clear p2
  try clear hcz3_0
  try clear hcz3_1
  try clear hcz3_2
  try clear hcz3_3
  try clear hcz3_4
  try clear hfz3_0
  try clear hfz3_1
  try clear hfz3_2
  try clear hfz3_3
  try clear hfz3_4
  obtain ⟨x3_1, x9_1, rfl, HA, HK1, HO_3, BK261, HB⟩ := hrel
  cases gk with
  | zero => exact absurd HA.out (by simp [link_Packets.l0])
  | succ k1 =>
   have H := HA.out
   clear HA
   simp only [link_Packets.l0] at H
   by_cases c4 : x9_1 < (l0_2.length : Int)
   ·rw [if_pos c4] at H
    have c4b0 : decide (x9_1 < (l0_2.length : Int)) = true := decide_eq_true c4
    clear c4
    by_cases c5 : 0 ≤ x9_1
    ·rw [if_pos c5] at H
     have c5b0 : decide (0 ≤ x9_1) = true := decide_eq_true c5
     clear c5
     by_cases c6 : x9_1 < (l0_2.length : Int)
     ·rw [if_pos c6] at H
      have c6b0 : decide (x9_1 < (l0_2.length : Int)) = true := decide_eq_true c6
      clear c6
      by_cases c7 : x3_1.length < 5864062014805
      ·rw [if_pos c7] at H
       have LMc7 := aM c7
       clear c7
       obtain ⟨y263, hy263⟩ : ∃ y_ : List (S42), y_ = (x3_1 ++ [(⟨wrap64 (a0_1 + x9_1), 0, rd l0_2 x9_1⟩ : S42)]) := ⟨_, rfl⟩
       replace H : (link_Packets.l0 k1 y263 l0_2 (l0_2.length : Int) (wrap64 (x9_1 + 1)) a0_0 a0_1 l0_2 a0_3 l0_4) = some r := by first | (rw [hy263]; with_reducible exact H) | (have H2_ := (Option.bind_some _ _).symm.trans H; rw [hy263]; with_reducible exact H2_) | (have H2_ := (Option.bind_some _ _).symm.trans H; with_reducible exact H2_) | with_reducible exact H | (rw [hy263]; exact H) | exact H
       have Ny263 := aM hy263
       clear hy263
       have H' := aM H
       clear H
       have p262 : 0 ≤ (x9_1 : Int) := of_decide_eq_true (by first | (with_reducible assumption) | assumption)
       have q262 : x9_1 < (l0_2.length : Int) := of_decide_eq_true (by first | (with_reducible assumption) | assumption)
       obtain ⟨ad262, e262, hx262_0⟩ := Kd.at_int HR0_2.out x9_1 p262 q262
       cases e262
       replace hx262_0 := (HB.out.cell (World.block_lt_of_cell? w _ hx262_0)).trans hx262_0
       replace p262 := eq_true p262
       replace q262 := eq_true q262
       have hcz8_0 : wr.cell? ⟨gb261, 0, none⟩ = some (.int .i64 a0_0) := (blk_cell BK261.out 0).trans rfl
       have hcz8_1 : wr.cell? ⟨gb261, 1, none⟩ = some (.int .i64 a0_1) := (blk_cell BK261.out 1).trans rfl
       have hcz8_2 : wr.cell? ⟨gb261, 2, none⟩ = some (.slice (some ad262) l0_2.length c0_2) := (blk_cell BK261.out 2).trans rfl
       have hcz8_3 : wr.cell? ⟨gb261, 3, none⟩ = some (.int .i64 a0_3) := (blk_cell BK261.out 3).trans rfl
       have hcz8_4 : wr.cell? ⟨gb261, 4, none⟩ = some (.slice A0_4 l0_4.length c0_4) := (blk_cell BK261.out 4).trans rfl
       have hfz8_0 := blk_frozen BK261.out 0
       have hfz8_1 := blk_frozen BK261.out 1
       have hfz8_2 := blk_frozen BK261.out 2
       have hfz8_3 := blk_frozen BK261.out 3
       have hfz8_4 := blk_frozen BK261.out 4
       go_wp2_with (first | ((with_reducible refine gate_builtin (b := .append) (xs := #[(.tmp 14), .tmp 21]) rfl ?_); at_builtin; refine Kd.R_append k42 (w0 := w) w.heap.size rfl (.tmp 14) (.tmp 21) 25 42 (.agg #[(.int .i64 0), (.int .i64 0), (.int .i64 0)]) 24 rfl Try.underlying25 info42 rfl (by decide) (by omega) u3 x3_1 (⟨wrap64 (a0_1 + x9_1), 0, rd l0_2 x9_1⟩ : S42) [.int .i64 (wrap64 (a0_1 + x9_1)), .int .i64 0, .int .i64 (rd l0_2 x9_1)] (fun _ => True) (fun _ => False) rfl rfl ?aP (fun _ hk => hk.elim) ?aF ?aO ?aB ?aS ?aL ?_; (case aP => exact k42_mkM _ _ _ (⟨wrap64 (a0_1 + x9_1), 0, rd l0_2 x9_1⟩ : S42)); (case aB => exact (by repeat (first | (with_reducible first | exact HB.out | apply wA | apply wN | apply wD | refine below_set ?_ GE261.out) | exact HB.out))); (case aF => exact (fun _ _ => trivial)); (case aO => exact (by (with_reducible repeat (first | apply Kd.R_alloc | apply Kd.R_drewN | apply Kd.R_drew)); exact HO_3.out)); (case aS => exact (below_size (by repeat (first | (with_reducible first | exact HB.out | apply wA | apply wN | apply wD | refine below_set ?_ GE261.out) | exact HB.out)))); (case aL => have := LMc7.out; omega); intro v264 w9 ho hb hg hat; rw [← Ny263.out] at ho; have n0_ := aM (blk_grown (g := gb261) (o := .cells #[.int .i64 a0_0, .int .i64 a0_1, .slice (some ad262) l0_2.length c0_2, .int .i64 a0_3, .slice A0_4 l0_4.length c0_4] 27 (0, 0)) (by (with_reducible repeat (first | refine bN ?_ _ | refine bD ?_ | refine bA ?_ _)); exact BK261.out) hg (Kd.R_ne HO_3.out BK261.out (by decide))); have n1_ := aM (hb); have n2_ := aM (ho); clear BK261; clear HB; clear HO_3; have BK261 := n0_; have HB := n1_; have HO265 := n2_; clear n0_ n1_ n2_; clear ho hb hg hat))
       go_roundg k1
       case measure => have := HK1.out; omega
       case rel => exact ⟨(y263), (wrap64 (x9_1 + 1)), (by first | rfl | (simp; done) | (simp [*]; done)), H', ⟨by have := HK1.out; omega⟩, ⟨by (with_reducible repeat (first | apply Kd.R_alloc | apply Kd.R_drewN | apply Kd.R_drew)); exact HO265.out⟩, ⟨by (with_reducible repeat (first | refine bN ?_ _ | refine bD ?_ | refine bA ?_ _)); exact BK261.out⟩, ⟨by repeat (first | (with_reducible first | exact HB.out | apply wA | apply wN | apply wD | refine below_set ?_ GE261.out) | exact HB.out)⟩⟩
      ·rw [if_neg c7] at H
       exact absurd H (by simp)
     ·rw [if_neg c6] at H
      exact absurd H (by simp)
    ·rw [if_neg c5] at H
     exact absurd H (by simp)
   ·rw [if_neg c4] at H
    have c4b0 : decide (x9_1 < (l0_2.length : Int)) = false := decide_eq_false c4
    clear c4
    obtain rfl := Option.some.inj H
    go_wp2
    go_ret
    exact ⟨_, by first | rfl | (simp [errW_none, errW_some] <;> rfl) | (simp [*, errW_none, errW_some] <;> rfl), by (with_reducible repeat (first | apply Kd.R_alloc | apply Kd.R_drewN | apply Kd.R_drew)); exact HO_3.out, by repeat (first | (with_reducible first | exact HB.out | apply wA | apply wN | apply wD | refine below_set ?_ GE261.out) | exact HB.out)⟩

end Go.Proofs.Ytcbimmcdellmaaa.PLk
