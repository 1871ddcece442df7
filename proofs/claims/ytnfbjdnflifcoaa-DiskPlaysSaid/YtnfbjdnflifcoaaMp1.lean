/- Texts of one proof, joined: part 1. No condition. -/
import Derived.Test.YtnfbjdnflifcoaaMp0
open List renaming setIfInBounds_toArray → Qa, set_cons_zero → Qb, set_cons_succ → Qc, length_take → Qd, length_drop → Qe, map_toArray → Qi, map_cons → Qj, map_nil → Qk, getElem?_eq_getElem → Qm
open Bool renaming false → Qf, true → Qt
open Go.World renaming block_lt_of_cell? → Qw
namespace Go.Proofs.Ytnfbjdnflifcoaa.PDk
open Go.RowKit Go.Proofs.YtnfbjdnflifcoaaW.PrintWords Go.Proofs.YtnfbjdnflifcoaaW.PrintLast Go.Proofs.YtnfbjdnflifcoaaW.PrintMore
attribute [local go_sem] Za0 Zay Zbe Zbd Zan Zam Zaz Zax
set_option linter.unusedVariables false
set_option linter.unusedSimpArgs false

def Ye.l0 : Nat → Int → Int → List (S48) → List (S48) → Option ((List (S48)))
 | 0, _, _, _, _ => none
 | k + 1, x8, x9, x102000, x104000 => if x9 < x8 then (if 0 ≤ x9 then (if x9 < (x102000.length : Int) then ((Yp.f ((Zo x102000 x9).f0)).bind fun t106 => ((Yp.f ((Zo x102000 x9).f1)).bind fun t109 => (if x104000.length < 2932031007402 then (Ye.l0 k x8 (wrap64 (x9 + 1)) x102000 (x104000 ++ [(⟨t106, t109⟩ : S48)])) else (none)))) else (none)) else (none)) else (some x104000)
def Ye.f (k : Nat) (l0_0 : List (S48)) : Option ((List (S48))) := Ye.l0 k (l0_0.length : Int) 0 l0_0 ([] : List (S48))
theorem Ye.Zbk : ∀ k, (∀ y0 y1 y2 y3, LeO (Ye.l0 k y0 y1 y2 y3) (Ye.l0 (k + 1) y0 y1 y2 y3))
 | 0 => fun _ _ _ _ r h => by simp [Ye.l0] at h
 | k + 1 => by
  have ih0 := Ye.Zbk k
  ·intro y0 y1 y2 y3
   unfold Ye.l0
   repeat' first
   | (with_reducible exact ih0 _ _ _ _)
   | (with_reducible exact LeO.refl _)
   | (with_reducible exact LeO.none _)
   | (with_reducible refine LeO.ite ?_ ?_)
   | (with_reducible refine LeO.bind ?_ (fun _ => ?_))
   | exact ih0 _ _ _ _
   | exact LeO.none _
   | refine LeO.ite ?_ ?_
   | refine LeO.bind ?_ (fun _ => ?_)
theorem Ye.mono : ∀ a0 k, LeO (Ye.f k a0) (Ye.f (k + 1) a0) := by
 intro a0 k
 have ih0 := Ye.Zbk k
 unfold Ye.f
 repeat' first
   | (with_reducible exact ih0 _ _ _ _)
   | (with_reducible exact LeO.refl _)
   | (with_reducible exact LeO.none _)
   | (with_reducible refine LeO.ite ?_ ?_)
   | (with_reducible refine LeO.bind ?_ (fun _ => ?_))
   | exact ih0 _ _ _ _
   | exact LeO.none _
   | refine LeO.ite ?_ ?_
   | refine LeO.bind ?_ (fun _ => ?_)
def Ye.T6 : Bool × List (List Nat × List Nat) := (true, [([], []), ([0], [0]), ([], []), ([2], [2]), ([3], [3]), ([], []), ([5], [5]), ([6, 4], [6]), ([4, 7], [4, 7]), ([8], [8]), ([1, 9, 7], [1, 9]), ([0, 1, 2, 3, 4, 5, 6, 7, 8, 9, 10], []), ([11, 10, 10, 0, 1, 2, 3, 4, 5, 6, 7, 8, 9, 10], [10, 11])])
def Ye.B6 : List Nat := [0, 1, 0, 4, 12, 0, 32, 124, 252, 508, 1023, 2047, 4095]
theorem Ye.tab6 : rtab .any (opsOf Try.f24 6) = Ye.T6 := by kernel_rfl
theorem Ye.bits6 : Zcd Ye.T6.2 Ye.B6 = true := by kernel_rfl

/-- Two in line, no block of the one being a block of the other. -/
def duo {α β : Type} (a : Kd α) (b : Kd β) : Kd (α × β) where
  sz := a.sz + b.sz
  E := a.E ++ b.E
  K := fun w x cs => ∃ c0 c1, cs = c0 ++ c1 ∧ a.K w x.1 c0 ∧ b.K w x.2 c1
  M := fun w base ok x cs => ∃ (f : Nat → Bool) (c0 c1 : List Value), cs = c0 ++ c1 ∧ a.M w base (fun k => ok k ∧ f k = true) x.1 c0 ∧ b.M w base (fun k => ok k ∧ f k = false) x.2 c1
  K_len := by
    rintro w x cs ⟨c0, c1, rfl, h0, h1⟩
    rw [List.length_append, a.K_len h0, b.K_len h1]
  K_one := by
    rintro w x cs ⟨c0, c1, rfl, h0, h1⟩ u hu
    rcases List.mem_append.1 hu with hu | hu
    · exact a.K_one h0 u hu
    · exact b.K_one h1 u hu
  K_below := by
    rintro w w1 x cs hb ⟨c0, c1, rfl, h0, h1⟩
    exact ⟨c0, c1, rfl, a.K_below hb h0, b.K_below hb h1⟩
  K_of_M := by
    rintro w base ok x cs ⟨f, c0, c1, rfl, h0, h1⟩
    exact ⟨c0, c1, rfl, a.K_of_M h0, b.K_of_M h1⟩
  M_mono := by
    rintro w base ok ok' x cs hok ⟨f, c0, c1, rfl, h0, h1⟩
    exact ⟨f, c0, c1, rfl, a.M_mono (fun k hk => ⟨hok k hk.1, hk.2⟩) h0, b.M_mono (fun k hk => ⟨hok k hk.1, hk.2⟩) h1⟩
  M_bound := by
    rintro w base ok x cs ⟨f, c0, c1, rfl, h0, h1⟩
    refine ⟨f, c0, c1, rfl, a.M_mono ?_ (a.M_bound h0), b.M_mono ?_ (b.M_bound h1)⟩
    · rintro k ⟨h2, h3, h4, q, hq, hc⟩
      exact ⟨⟨h2.1, h3, h4, q, List.mem_append_left _ hq, hc⟩, h2.2⟩
    · rintro k ⟨h2, h3, h4, q, hq, hc⟩
      exact ⟨⟨h2.1, h3, h4, q, List.mem_append_right _ hq, hc⟩, h2.2⟩
  M_move := by
    rintro w w1 base ok x cs hm ⟨f, c0, c1, rfl, h0, h1⟩
    exact ⟨f, c0, c1, rfl, a.M_move (fun k hk => hm k hk.1) h0, b.M_move (fun k hk => hm k hk.1) h1⟩
  M_lower := by
    rintro w base base' ok x cs hb ⟨f, c0, c1, rfl, h0, h1⟩
    exact ⟨f, c0, c1, rfl, a.M_lower hb h0, b.M_lower hb h1⟩
def k48a : Kd S48 := Kd.iso (duo (Kd.slice 5 (Kd.int .u8)) (Kd.slice 5 (Kd.int .u8))) (fun x : S48 => (x.f0, x.f1))
theorem k48a_mkM {w : World} {base : Nat} (x : S48) {v0 v1 : Value} (g0 : (Kd.int .u8).R 5 w base (fun k => some k = v0.ownBlock) v0 x.f0) (g1 : (Kd.int .u8).R 5 w base (fun k => some k = v1.ownBlock) v1 x.f1) (hap : ∀ k, some k = v1.ownBlock → v0.ownBlock ≠ some k) :
    k48a.M w base (fun k => some k = v0.ownBlock ∨ some k = v1.ownBlock) x [v0, v1] :=
  ⟨fun k => decide (some k = v0.ownBlock), [v0], [v1], rfl, ⟨v0, rfl, Kd.Zar g0 (fun k hk => ⟨.inl hk, decide_eq_true hk⟩)⟩, ⟨v1, rfl, Kd.Zar g1 (fun k hk => ⟨.inr hk, decide_eq_false (fun h => hap k hk h.symm)⟩)⟩⟩
/-- The same, of rows told with more. -/
theorem k48a_mk {w : World} {base : Nat} (x : S48) {v0 v1 : Value} {ok0 ok1 : Nat → Prop} (g0 : (Kd.int .u8).R 5 w base ok0 v0 x.f0) (g1 : (Kd.int .u8).R 5 w base ok1 v1 x.f1) (hap : ∀ k, ok0 k → ok1 k → False) :
    k48a.M w base (fun k => ok0 k ∨ ok1 k) x [v0, v1] :=
  k48a.M_mono (fun k hk => hk.elim (fun h => .inl (g0.1 k h.symm)) (fun h => .inr (g1.1 k h.symm))) (k48a_mkM x (Kd.Zcu rfl g0) (Kd.Zcu rfl g1) (fun k h1 h0 => hap k (g0.1 k h0) (g1.1 k h1.symm)))
theorem Zc2 {w : World} {base : Nat} {ok : Nat → Prop} {x : S48} {cs : List Value} (h : k48a.M w base ok x cs) : ∃ (f : Nat → Bool) (v0 v1 : Value), cs = [v0, v1] ∧ (Kd.int .u8).R 5 w base (fun k => ok k ∧ f k = true) v0 x.f0 ∧ (Kd.int .u8).R 5 w base (fun k => ok k ∧ f k = false) v1 x.f1 := by
  obtain ⟨f, _, _, rfl, ⟨v0, rfl, g0⟩, ⟨v1, rfl, g1⟩⟩ := h
  exact ⟨f, v0, v1, rfl, g0, g1⟩
theorem k48a_S {w : World} {base : Nat} {ok : Nat → Prop} {v : Value} {xs : List S48} (h : Kd.S k48a 48 w base ok v xs) : Kd.S k48 48 w base ok v xs := by
  obtain ⟨f, h0, inner, ho, hr⟩ := h
  refine ⟨f, h0, inner, ho, hr.1, fun j p hj => ?_⟩
  obtain ⟨g, v0, v1, he, g0, g1⟩ := Zc2 (hr.2 j p hj)
  have he2 : List.take (Kd.tag f k48).sz (List.drop (j * (Kd.tag f k48).sz) inner) = [v0, v1] := he
  rw [he2]
  exact Zex _ _ _ _ (Kd.Zar g0 (fun _ hk => hk.1)) (Kd.Zar g1 (fun _ hk => hk.1))
set_option maxHeartbeats 8000000 in
set_option maxRecDepth 100000 in
theorem Ye.Zfi (k : Nat) (A0_0 : Option Addr) (c0_0 : Nat) (l0_0 : List (S48)) (r : List (S48)) (w : World) (hr0_0 : Kd.C k48 w A0_0 l0_0.length l0_0) (hc0_0 : l0_0.length ≤ c0_0) (h : Ye.f k l0_0 = some r) :
  Calls Try.prog 24 #[.agg #[.slice A0_0 l0_0.length c0_0]] w fun e w' => ∃ v0_ : Value, e = .returned (.agg #[v0_]) ∧ Kd.S k48a 48 w' w.heap.size (fun _ => True) v0_ r ∧ Below w.heap.size w w' := by
 have hu24 := Try.underlying24
 have hu48 := Try.underlying48
 have HR0_0 := aM hr0_0
 have HC0_0 := aM hc0_0
 clear hr0_0 hc0_0
 have HB := aM (Below.refl w.heap.size w)
 have H : (Ye.l0 k (l0_0.length : Int) 0 l0_0 ([] : List (S48))) = some r := h
 clear h
 have H' := aM H
 clear H
 go_enter Try.func24, Try.ntmps24
 go_wp2_with (first | ((with_reducible refine Z7 (N := 1) rfl ?_); refine Z4 ?hg (N := 1) ?hd (cs := #[.slice A0_0 l0_0.length c0_0]) (t := 24) ?hr ?_; (case hd => rfl); (case hg => rfl); (case hr => first | (go_simp; done) | (go_simp; rfl)); intro gb101 hg w2 hbox hb; have n0_ := aM (Zj (by repeat (first | (with_reducible first | exact HB.out | apply wA | apply wN | apply wD) | exact HB.out)) hb); have n1_ := aM (hbox); have n2_ := aM ((by rw [hg]; exact (Zd (by repeat (first | (with_reducible first | exact HB.out | apply wA | apply wN | apply wD) | exact HB.out))) : w.heap.size ≤ gb101)); have n3_ := aM ((by rw [hg]; exact (Zd (by repeat (first | (with_reducible first | exact HB.out | apply wA | apply wN | apply wD) | exact HB.out))) : w.heap.size ≤ gb101)); clear HB; have HB := n0_; have BK101 := n1_; have GW101 := n2_; have GE101 := n3_; clear n0_ n1_ n2_ n3_; clear hb hbox hg) | ((with_reducible refine Z7 (N := 2) rfl ?_); refine Z4 ?hg (N := 2) ?hd (cs := #[.slice none 0 0]) (t := 24) ?hr ?_; (case hd => rfl); (case hg => rfl); (case hr => first | (go_simp; done) | (go_simp; rfl)); intro gb102 hg w3 hbox hb; have n0_ := aM (Zf (g := gb101) (o := .cells #[.slice A0_0 l0_0.length c0_0] 24 (0, 0)) (by (with_reducible repeat first | apply bN | apply bD | apply bA); exact BK101.out) hb); have n1_ := aM (Zj (by repeat (first | (with_reducible first | exact HB.out | apply wA | apply wN | apply wD | refine Za ?_ GE101.out) | exact HB.out)) hb); have n2_ := aM (hbox); have n3_ := aM ((by rw [hg]; exact (Zd (by repeat (first | (with_reducible first | exact HB.out | apply wA | apply wN | apply wD | refine Za ?_ GE101.out) | exact HB.out))) : w.heap.size ≤ gb102)); have n4_ := aM ((by rw [hg]; exact (Zd (by repeat (first | (with_reducible first | exact HB.out | apply wA | apply wN | apply wD | refine Za ?_ GE101.out) | exact HB.out))) : w.heap.size ≤ gb102)); have n5_ := aM ((by rw [hg]; exact Nat.ne_of_lt (Ya (g := gb101) (o := .cells #[.slice A0_0 l0_0.length c0_0] 24 (0, 0)) (by (with_reducible repeat first | apply bN | apply bD | apply bA); exact BK101.out)) : gb101 ≠ gb102)); have n6_ := aM ((by rw [hg]; exact Nat.ne_of_gt (Ya (g := gb101) (o := .cells #[.slice A0_0 l0_0.length c0_0] 24 (0, 0)) (by (with_reducible repeat first | apply bN | apply bD | apply bA); exact BK101.out)) : gb102 ≠ gb101)); clear BK101 HB; have BK101 := n0_; have HB := n1_; have BK102 := n2_; have GW102 := n3_; have GE102 := n4_; have NB101_102 := n5_; have NB102_101 := n6_; clear n0_ n1_ n2_ n3_ n4_ n5_ n6_; clear hb hbox hg) | ((with_reducible refine Z7 (N := 3) rfl ?_); refine Z4 ?hg (N := 3) ?hd (cs := #[.slice none 0 0]) (t := 24) ?hr ?_; (case hd => rfl); (case hg => rfl); (case hr => first | (go_simp; done) | (go_simp; rfl)); intro gb103 hg w4 hbox hb; have n0_ := aM (Zf (g := gb101) (o := .cells #[.slice A0_0 l0_0.length c0_0] 24 (0, 0)) (by (with_reducible repeat first | apply bN | apply bD | apply bA); exact BK101.out) hb); have n1_ := aM (Zf (g := gb102) (o := .cells #[.slice none 0 0] 24 (0, 0)) (by (with_reducible repeat first | apply bN | apply bD | apply bA); exact BK102.out) hb); have n2_ := aM (Zj (by repeat (first | (with_reducible first | exact HB.out | apply wA | apply wN | apply wD | refine Za ?_ GE101.out | refine Za ?_ GE102.out) | exact HB.out)) hb); have n3_ := aM (hbox); have n4_ := aM ((by rw [hg]; exact (Zd (by repeat (first | (with_reducible first | exact HB.out | apply wA | apply wN | apply wD | refine Za ?_ GE101.out | refine Za ?_ GE102.out) | exact HB.out))) : w.heap.size ≤ gb103)); have n5_ := aM ((by rw [hg]; exact (Zd (by repeat (first | (with_reducible first | exact HB.out | apply wA | apply wN | apply wD | refine Za ?_ GE101.out | refine Za ?_ GE102.out) | exact HB.out))) : w.heap.size ≤ gb103)); have n6_ := aM ((by rw [hg]; exact Nat.ne_of_lt (Ya (g := gb101) (o := .cells #[.slice A0_0 l0_0.length c0_0] 24 (0, 0)) (by (with_reducible repeat first | apply bN | apply bD | apply bA); exact BK101.out)) : gb101 ≠ gb103)); have n7_ := aM ((by rw [hg]; exact Nat.ne_of_gt (Ya (g := gb101) (o := .cells #[.slice A0_0 l0_0.length c0_0] 24 (0, 0)) (by (with_reducible repeat first | apply bN | apply bD | apply bA); exact BK101.out)) : gb103 ≠ gb101)); have n8_ := aM ((by rw [hg]; exact Nat.ne_of_lt (Ya (g := gb102) (o := .cells #[.slice none 0 0] 24 (0, 0)) (by (with_reducible repeat first | apply bN | apply bD | apply bA); exact BK102.out)) : gb102 ≠ gb103)); have n9_ := aM ((by rw [hg]; exact Nat.ne_of_gt (Ya (g := gb102) (o := .cells #[.slice none 0 0] 24 (0, 0)) (by (with_reducible repeat first | apply bN | apply bD | apply bA); exact BK102.out)) : gb103 ≠ gb102)); clear BK101 BK102 HB; have BK101 := n0_; have BK102 := n1_; have HB := n2_; have BK103 := n3_; have GW103 := n4_; have GE103 := n5_; have NB101_103 := n6_; have NB103_101 := n7_; have NB102_103 := n8_; have NB103_102 := n9_; clear n0_ n1_ n2_ n3_ n4_ n5_ n6_ n7_ n8_ n9_; clear hb hbox hg; have hnb5 := NB101_102.out; have hnc5 := NB102_101.out; have hnb6 := NB101_103.out; have hnc6 := NB103_101.out; have hcz7_0 : w4.cell? ⟨gb101, 0, none⟩ = some (.slice A0_0 l0_0.length c0_0) := (Ze BK101.out 0).trans rfl; have hfz7_0 := Zg BK101.out 0))
 go_loopg [9] k (fun kq v9 w' => ∃ (x9_1 : Int) (x104000_1 : List (S48)) (u104000 : Value), v9 = .int .i64 x9_1 ∧ Zq (Ye.l0 kq (l0_0.length : Int) x9_1 l0_0 x104000_1 = some r) ∧ Zq (kq ≤ k) ∧ Zq (Kd.S k48a 48 w' w.heap.size (fun _ => True) u104000 x104000_1) ∧ Zq (w'.heap[gb101]? = some (.cells #[(.slice A0_0 l0_0.length c0_0)] 24 (0, 0))) ∧ Zq (w'.heap[gb102]? = some (.cells #[(.slice none 0 0)] 24 (0, 0))) ∧ Zq (w'.heap[gb103]? = some (.cells #[u104000] 24 (0, 0))) ∧ Zq (Below w.heap.size w w'))
 case atStart => exact ⟨(0), (([] : List (S48))), (.slice none 0 0), (by first | rfl | (simp; done) | (simp [*]; done)), H', ⟨Nat.le_refl _⟩, ⟨by first | exact Kd.Zc0 _ _ _ _ _ | exact Kd.Zcw _ _ _ _ _ | exact Kd.Zcr _ _ _ _ _ | exact Kd.Zc1 _ _ _ _ _ | exact Kd.Zbx _ _ _ _ _⟩, ⟨by (with_reducible repeat first | apply bN | apply bD | apply bA); exact BK101.out⟩, ⟨by (with_reducible repeat first | apply bN | apply bD | apply bA); exact BK102.out⟩, ⟨by (with_reducible repeat first | apply bN | apply bD | apply bA); exact BK103.out⟩, ⟨by repeat (first | (with_reducible first | exact HB.out | apply wA | apply wN | apply wD | refine Za ?_ GE101.out | refine Za ?_ GE102.out | refine Za ?_ GE103.out) | exact HB.out)⟩⟩
 case round =>
  clear H'
  try clear c2
  try clear p2
  try clear c5
  try clear c6
  try clear hcz7_0
  try clear hfz7_0
  obtain ⟨x9_1, x104000_1, u104000, rfl, HA, HK1, J104, BK101, BK102, BK103, HB⟩ := hrel
  cases gk with
  | zero => exact absurd HA.out (by simp [Ye.l0])
  | succ k1 =>
   have H := HA.out
   clear HA
   simp only [Ye.l0] at H
   by_cases c8 : x9_1 < (l0_0.length : Int)
   ·rw [if_pos c8] at H
    have c8b0 : decide (x9_1 < (l0_0.length : Int)) = true := decide_eq_true c8
    clear c8
    by_cases c9 : 0 ≤ x9_1
    ·rw [if_pos c9] at H
     have c9b0 : decide (0 ≤ x9_1) = true := decide_eq_true c9
     clear c9
     by_cases c10 : x9_1 < (l0_0.length : Int)
     ·rw [if_pos c10] at H
      have c10b0 : decide (x9_1 < (l0_0.length : Int)) = true := decide_eq_true c10
      clear c10
      replace H := Option.bind_eq_some_iff.mp H
      obtain ⟨t106, A110, H⟩ := H
      replace H : ((Yp.f ((Zo l0_0 x9_1).f1)).bind fun t109 => (if x104000_1.length < 2932031007402 then (Ye.l0 k1 (l0_0.length : Int) (wrap64 (x9_1 + 1)) l0_0 (x104000_1 ++ [(⟨t106, t109⟩ : S48)])) else (none))) = some r := H
      have A11 := aM A110
      clear A110
      replace H := Option.bind_eq_some_iff.mp H
      obtain ⟨t109, A120, H⟩ := H
      replace H : (if x104000_1.length < 2932031007402 then (Ye.l0 k1 (l0_0.length : Int) (wrap64 (x9_1 + 1)) l0_0 (x104000_1 ++ [(⟨t106, t109⟩ : S48)])) else (none)) = some r := H
      have A12 := aM A120
      clear A120
      by_cases c13 : x104000_1.length < 2932031007402
      ·rw [if_pos c13] at H
       have LMc13 := aM c13
       clear c13
       obtain ⟨y112, hy112⟩ : ∃ y_ : List (S48), y_ = (x104000_1 ++ [(⟨t106, t109⟩ : S48)]) := ⟨_, rfl⟩
       replace H : (Ye.l0 k1 (l0_0.length : Int) (wrap64 (x9_1 + 1)) l0_0 y112) = some r := by first | (rw [hy112]; with_reducible exact H) | (have H2_ := (Option.bind_some _ _).symm.trans H; rw [hy112]; with_reducible exact H2_) | (have H2_ := (Option.bind_some _ _).symm.trans H; with_reducible exact H2_) | with_reducible exact H | (rw [hy112]; exact H) | exact H
       have Ny112 := aM hy112
       clear hy112
       have H' := aM H
       clear H
       have hnb14 := NB101_102.out
       have hnc14 := NB102_101.out
       have hnb15 := NB101_103.out
       have hnc15 := NB103_101.out
       have hcz16_0 : wr.cell? ⟨gb101, 0, none⟩ = some (.slice A0_0 l0_0.length c0_0) := (Ze BK101.out 0).trans rfl
       have hfz16_0 := Zg BK101.out 0
       have p104 : 0 ≤ (x9_1 : Int) := of_decide_eq_true (by first | (with_reducible assumption) | assumption)
       have q104 : x9_1 < (l0_0.length : Int) := of_decide_eq_true (by first | (with_reducible assumption) | assumption)
       obtain ⟨ad104, A104_0, c104_0, A104_1, c104_1, e104, hx104_0, hx104_1, hl104_0, hi104_0, hl104_1, hi104_1⟩ := Zbl HR0_0.out x9_1 p104 q104
       cases e104
       replace hx104_0 := (HB.out.cell (Qw w _ hx104_0)).trans hx104_0
       replace hx104_1 := (HB.out.cell (Qw w _ hx104_1)).trans hx104_1
       have HR104_0 := aM hi104_0
       have HC104_0 := aM hl104_0
       clear hi104_0 hl104_0
       have HR104_1 := aM hi104_1
       have HC104_1 := aM hl104_1
       clear hi104_1 hl104_1
       replace p104 := eq_true p104
       replace q104 := eq_true q104
       try go_wp2_with (first | ((with_reducible refine Z7 (N := 5) rfl ?_); refine Z4 ?hg (N := 5) ?hd (cs := #[.slice none 0 0, .slice none 0 0]) (t := 48) ?hr ?_; (case hd => rfl); (case hg => rfl); (case hr => first | (go_simp; done) | (go_simp; rfl)); intro gb105 hg w17 hbox hb; have n0_ := aM (Kd.Zct (Kd.Zep (by (with_reducible repeat first | apply Kd.Zao | apply Kd.Zal | apply Kd.Zaw); exact J104.out) gb105 (Nat.le_of_eq hg.symm)) hb); have n1_ := aM (Zf (g := gb101) (o := .cells #[.slice (some ad104) l0_0.length c0_0] 24 (0, 0)) (by (with_reducible repeat first | apply bN | apply bD | apply bA); exact BK101.out) hb); have n2_ := aM (Zf (g := gb102) (o := .cells #[.slice none 0 0] 24 (0, 0)) (by (with_reducible repeat first | apply bN | apply bD | apply bA); exact BK102.out) hb); have n3_ := aM (Zf (g := gb103) (o := .cells #[u104000] 24 (0, 0)) (by (with_reducible repeat first | apply bN | apply bD | apply bA); exact BK103.out) hb); have n4_ := aM (Zj (by repeat (first | (with_reducible first | exact HB.out | apply wA | apply wN | apply wD | refine Za ?_ GE101.out | refine Za ?_ GE102.out | refine Za ?_ GE103.out) | exact HB.out)) hb); have n5_ := aM (hbox); have n6_ := aM ((by rw [hg]; exact (Zd (by repeat (first | (with_reducible first | exact HB.out | apply wA | apply wN | apply wD | refine Za ?_ GE101.out | refine Za ?_ GE102.out | refine Za ?_ GE103.out) | exact HB.out))) : w.heap.size ≤ gb105)); have n7_ := aM ((by rw [hg]; exact (Zd (by repeat (first | (with_reducible first | exact HB.out | apply wA | apply wN | apply wD | refine Za ?_ GE101.out | refine Za ?_ GE102.out | refine Za ?_ GE103.out) | exact HB.out))) : w.heap.size ≤ gb105)); have n8_ := aM ((by rw [hg]; exact Nat.ne_of_lt (Ya (g := gb101) (o := .cells #[.slice (some ad104) l0_0.length c0_0] 24 (0, 0)) (by (with_reducible repeat first | apply bN | apply bD | apply bA); exact BK101.out)) : gb101 ≠ gb105)); have n9_ := aM ((by rw [hg]; exact Nat.ne_of_gt (Ya (g := gb101) (o := .cells #[.slice (some ad104) l0_0.length c0_0] 24 (0, 0)) (by (with_reducible repeat first | apply bN | apply bD | apply bA); exact BK101.out)) : gb105 ≠ gb101)); have n10_ := aM ((by rw [hg]; exact Nat.ne_of_lt (Ya (g := gb102) (o := .cells #[.slice none 0 0] 24 (0, 0)) (by (with_reducible repeat first | apply bN | apply bD | apply bA); exact BK102.out)) : gb102 ≠ gb105)); have n11_ := aM ((by rw [hg]; exact Nat.ne_of_gt (Ya (g := gb102) (o := .cells #[.slice none 0 0] 24 (0, 0)) (by (with_reducible repeat first | apply bN | apply bD | apply bA); exact BK102.out)) : gb105 ≠ gb102)); have n12_ := aM ((by rw [hg]; exact Nat.ne_of_lt (Ya (g := gb103) (o := .cells #[u104000] 24 (0, 0)) (by (with_reducible repeat first | apply bN | apply bD | apply bA); exact BK103.out)) : gb103 ≠ gb105)); have n13_ := aM ((by rw [hg]; exact Nat.ne_of_gt (Ya (g := gb103) (o := .cells #[u104000] 24 (0, 0)) (by (with_reducible repeat first | apply bN | apply bD | apply bA); exact BK103.out)) : gb105 ≠ gb103)); clear J104 BK101 BK102 BK103 HB; have J104 := n0_; have BK101 := n1_; have BK102 := n2_; have BK103 := n3_; have HB := n4_; have BK105 := n5_; have GW105 := n6_; have GE105 := n7_; have NB101_105 := n8_; have NB105_101 := n9_; have NB102_105 := n10_; have NB105_102 := n11_; have NB103_105 := n12_; have NB105_103 := n13_; clear n0_ n1_ n2_ n3_ n4_ n5_ n6_ n7_ n8_ n9_ n10_ n11_ n12_ n13_; clear hb hbox hg; have hnb18 := NB105_101.out; have hnc18 := NB101_105.out; have hnb19 := NB105_102.out; have hnc19 := NB102_105.out; have hnb20 := NB105_103.out; have hnc20 := NB103_105.out; have hcz21_0 : w17.cell? ⟨gb105, 0, none⟩ = some (.slice none 0 0) := (Ze BK105.out 0).trans rfl; have hcz21_1 : w17.cell? ⟨gb105, 1, none⟩ = some (.slice none 0 0) := (Ze BK105.out 1).trans rfl; have hfz21_0 := Zg BK105.out 0; have hfz21_1 := Zg BK105.out 1))
       have n0_ : Zq (Kd.S k48a 48 ((w17.setCell ⟨gb105, 0, none⟩ (.slice A104_0 ((Zo l0_0 x9_1).f0).length c104_0)).setCell ⟨gb105, 1, none⟩ (.slice A104_1 ((Zo l0_0 x9_1).f1).length c104_1)) w.heap.size (fun k_ => k_ ≠ gb105) u104000 x104000_1) := ⟨by (with_reducible repeat first | apply Kd.Zao | apply Kd.Zal | apply Kd.Zaw); exact Kd.Zbc (Kd.Zcs (p := ⟨gb105, 1, none⟩) (Kd.Zcs (p := ⟨gb105, 0, none⟩) (Kd.Zbc J104.out (fun k_ hk => (⟨hk, hk.2⟩ : _ ∧ k_ ≠ gb105))) (fun _ hk => hk.2) (.slice A104_0 ((Zo l0_0 x9_1).f0).length c104_0)) (fun _ hk => hk.2) (.slice A104_1 ((Zo l0_0 x9_1).f1).length c104_1)) (fun _ hk => hk.1.2)⟩
       have n1_ : Zq (((w17.setCell ⟨gb105, 0, none⟩ (.slice A104_0 ((Zo l0_0 x9_1).f0).length c104_0)).setCell ⟨gb105, 1, none⟩ (.slice A104_1 ((Zo l0_0 x9_1).f1).length c104_1)).heap[gb101]? = some (.cells #[.slice (some ad104) l0_0.length c0_0] 24 (0, 0))) := ⟨by (with_reducible repeat first | apply bN | apply bD | apply bA); refine Z8 ?_ NB101_105.out _; (with_reducible repeat first | apply bN | apply bD | apply bA); refine Z8 ?_ NB101_105.out _; (with_reducible repeat first | apply bN | apply bD | apply bA); exact BK101.out⟩
       have n2_ : Zq (((w17.setCell ⟨gb105, 0, none⟩ (.slice A104_0 ((Zo l0_0 x9_1).f0).length c104_0)).setCell ⟨gb105, 1, none⟩ (.slice A104_1 ((Zo l0_0 x9_1).f1).length c104_1)).heap[gb102]? = some (.cells #[.slice none 0 0] 24 (0, 0))) := ⟨by (with_reducible repeat first | apply bN | apply bD | apply bA); refine Z8 ?_ NB102_105.out _; (with_reducible repeat first | apply bN | apply bD | apply bA); refine Z8 ?_ NB102_105.out _; (with_reducible repeat first | apply bN | apply bD | apply bA); exact BK102.out⟩
       have n3_ : Zq (((w17.setCell ⟨gb105, 0, none⟩ (.slice A104_0 ((Zo l0_0 x9_1).f0).length c104_0)).setCell ⟨gb105, 1, none⟩ (.slice A104_1 ((Zo l0_0 x9_1).f1).length c104_1)).heap[gb103]? = some (.cells #[u104000] 24 (0, 0))) := ⟨by (with_reducible repeat first | apply bN | apply bD | apply bA); refine Z8 ?_ NB103_105.out _; (with_reducible repeat first | apply bN | apply bD | apply bA); refine Z8 ?_ NB103_105.out _; (with_reducible repeat first | apply bN | apply bD | apply bA); exact BK103.out⟩
       have n4_ : Zq (((w17.setCell ⟨gb105, 0, none⟩ (.slice A104_0 ((Zo l0_0 x9_1).f0).length c104_0)).setCell ⟨gb105, 1, none⟩ (.slice A104_1 ((Zo l0_0 x9_1).f1).length c104_1)).heap[gb105]? = some (.cells #[.slice A104_0 ((Zo l0_0 x9_1).f0).length c104_0, .slice A104_1 ((Zo l0_0 x9_1).f1).length c104_1] 48 (0, 0))) := ⟨by (with_reducible repeat first | apply bN | apply bD | apply bA); refine Yo (cs := #[.slice A104_0 ((Zo l0_0 x9_1).f0).length c104_0, .slice none 0 0]) ?_ 1 _ rfl; (with_reducible repeat first | apply bN | apply bD | apply bA); refine Yo (cs := #[.slice none 0 0, .slice none 0 0]) ?_ 0 _ rfl; (with_reducible repeat first | apply bN | apply bD | apply bA); exact BK105.out⟩
       have n5_ : Zq (Below w.heap.size w ((w17.setCell ⟨gb105, 0, none⟩ (.slice A104_0 ((Zo l0_0 x9_1).f0).length c104_0)).setCell ⟨gb105, 1, none⟩ (.slice A104_1 ((Zo l0_0 x9_1).f1).length c104_1))) := ⟨by repeat (first | (with_reducible first | exact HB.out | apply wA | apply wN | apply wD | refine Za ?_ GE101.out | refine Za ?_ GE102.out | refine Za ?_ GE103.out | refine Za ?_ GE105.out) | exact HB.out)⟩
       (try clear J104)
       (try clear BK101)
       (try clear BK102)
       (try clear BK103)
       (try clear BK105)
       (try clear HB)
       generalize ((w17.setCell ⟨gb105, 0, none⟩ (.slice A104_0 ((Zo l0_0 x9_1).f0).length c104_0)).setCell ⟨gb105, 1, none⟩ (.slice A104_1 ((Zo l0_0 x9_1).f1).length c104_1)) = w22 at n0_ n1_ n2_ n3_ n4_ n5_ ⊢
       have J104 := n0_
       have BK101 := n1_
       have BK102 := n2_
       have BK103 := n3_
       have BK105 := n4_
       have HB := n5_
       clear n0_ n1_ n2_ n3_ n4_ n5_
       have n0_ := aM (Kd.Zaw J104.out)
       have n1_ := aM (bD BK101.out)
       have n2_ := aM (bD BK102.out)
       have n3_ := aM (bD BK103.out)
       have n4_ := aM (bD BK105.out)
       have n5_ := aM (wD HB.out)
       clear J104 BK101 BK102 BK103 BK105 HB
       have J104 := n0_
       have BK101 := n1_
       have BK102 := n2_
       have BK103 := n3_
       have BK105 := n4_
       have HB := n5_
       clear n0_ n1_ n2_ n3_ n4_ n5_
       refine Zb9 (n := 13) (S := fun w' => w'.cell? ⟨gb103, 0, none⟩ = some (u104000) ∧ w'.cell? ⟨gb105, 0, none⟩ = some (.slice A104_0 ((Zo l0_0 x9_1).f0).length c104_0) ∧ w'.cell? ⟨gb105, 1, none⟩ = some (.slice A104_1 ((Zo l0_0 x9_1).f1).length c104_1)) (ds := [12]) #[Qf, Qf, Qf, Qf, Qf, Qf, Qf, Qf, Qf, Qf, Qf, Qf, Qf] (by kernel_rfl) rfl rfl ⟨(Ze BK103.out 0).trans rfl, (Ze BK105.out 0).trans rfl, (Ze BK105.out 1).trans rfl⟩ (fun hHeld => ?_); refine Zbs Ye.tab6 Ye.bits6 (fun HT_ HW_ => ?_)
       generalize w22.drew = w23 at J104 BK101 BK102 BK103 BK105 HB hHeld ⊢
       refine Yq (i := 0) (N := some 17) (v := ?_) (a' := ?_) #[Qt, Qf, Qf, Qf, Qf, Qf, Qf, Qf, Qf, Qf, Qf, Qf, Qf] rfl rfl (Yk HT_.out (by kernel_rfl)) (fun _ _ _ h => h) (Or.inl ⟨by rfl, ?_⟩) ?_ ?_
       rotate_left
       ·intro w'
        go_simp
        with_reducible rfl
       rotate_left
       ·simp only [Act.put, Qa, Qb, Qc, Z5, Z6]
        rfl
       refine Yq (i := 2) (N := some 19) (v := ?_) (a' := ?_) #[Qt, Qf, Qt, Qf, Qf, Qf, Qf, Qf, Qf, Qf, Qf, Qf, Qf] rfl rfl (Yk HT_.out (by kernel_rfl)) (fun _ _ _ h => h) (Or.inl ⟨by rfl, ?_⟩) ?_ ?_
       rotate_left
       ·intro w'
        go_simp
        with_reducible rfl
       rotate_left
       ·simp only [Act.put, Qa, Qb, Qc, Z5, Z6]
        rfl
       refine Yq (i := 5) (N := some 22) (v := ?_) (a' := ?_) #[Qt, Qf, Qt, Qf, Qf, Qt, Qf, Qf, Qf, Qf, Qf, Qf, Qf] rfl rfl (Yk HT_.out (by kernel_rfl)) (fun _ _ _ h => h) (Or.inl ⟨by rfl, ?_⟩) ?_ ?_
       rotate_left
       ·intro w'
        go_simp
        with_reducible rfl
       rotate_left
       ·simp only [Act.put, Qa, Qb, Qc, Z5, Z6]
        rfl
       refine Za5 (i := 1) (N := some 18) (v := ?_) (a' := ?_) #[Qt, Qt, Qt, Qf, Qf, Qt, Qf, Qf, Qf, Qf, Qf, Qf, Qf] rfl rfl (Zac HT_.out HW_.out (by kernel_rfl)) (fun _ _ _ h => h) (Or.inl ⟨by rfl, ?_⟩) hHeld ?_ ?_
       rotate_left
       ·rintro w' ⟨s0, s1, s2⟩
        go_simp
        with_reducible rfl
       rotate_left
       ·simp only [Act.put, Qa, Qb, Qc, Z5, Z6]
        rfl
       refine Za5 (i := 3) (N := some 20) (v := ?_) (a' := ?_) #[Qt, Qt, Qt, Qt, Qf, Qt, Qf, Qf, Qf, Qf, Qf, Qf, Qf] rfl rfl (Zac HT_.out HW_.out (by kernel_rfl)) (fun _ _ _ h => h) (Or.inl ⟨by rfl, ?_⟩) hHeld ?_ ?_
       rotate_left
       ·rintro w' ⟨s0, s1, s2⟩
        go_simp
        with_reducible rfl
       rotate_left
       ·simp only [Act.put, Qa, Qb, Qc, Z5, Z6]
        rfl
       refine Za5 (i := 6) (N := some 23) (v := ?_) (a' := ?_) #[Qt, Qt, Qt, Qt, Qf, Qt, Qt, Qf, Qf, Qf, Qf, Qf, Qf] rfl rfl (Zac HT_.out HW_.out (by kernel_rfl)) (fun _ _ _ h => h) (Or.inl ⟨by rfl, ?_⟩) hHeld ?_ ?_
       rotate_left
       ·rintro w' ⟨s0, s1, s2⟩
        go_simp
        with_reducible rfl
       rotate_left
       ·simp only [Act.put, Qa, Qb, Qc, Z5, Z6]
        rfl
       refine one_ (i := 4) (N := some 21) #[Qt, Qt, Qt, Qt, Qt, Qt, Qt, Qf, Qf, Qf, Qf, Qf, Qf] rfl rfl (Za6 HT_.out (by kernel_rfl)) (by decide) (fun K hK => ?_)
       refine Zdc Try.func30 (by kernel_rfl) rfl #[.slice A104_0 ((Zo l0_0 x9_1).f0).length c104_0] (by rfl) rfl rfl (by (try simp only [Qi, Qj, Qk]); first | done | rfl | (simp only [Qe, Qd]; rfl)) ?_
       with_reducible refine (Yp.calls _ _ ((Zo l0_0 x9_1).f0) t106 _ ?side1 ?side2 A11.out).mono ?_
       (case side1 => repeat (first | exact (Kd.Yv HR104_0.out HB.out) | (with_reducible refine Kd.Yh ?_ _) | (with_reducible refine Kd.Yg ?_ _) | (with_reducible refine Kd.Yw ?_)))
       (case side2 => exact HC104_0.out)
       rintro e w24 ⟨v107, rfl, ho0, hb⟩
       refine ⟨_, rfl, ?_⟩
       have n0_ := aM (Kd.Zeq (by (with_reducible repeat first | apply Kd.Zao | apply Kd.Zal | apply Kd.Zaw); exact J104.out) (Kd.Zbg ho0) hb)
       have n1_ := aM (Kd.Zb1 ho0 (Zd (by repeat (first | (with_reducible first | exact HB.out | apply wA | apply wN | apply wD | refine Za ?_ GE101.out | refine Za ?_ GE102.out | refine Za ?_ GE103.out | refine Za ?_ GE105.out) | exact HB.out))))
       have n2_ := aM (Zf (g := gb101) (o := .cells #[.slice (some ad104) l0_0.length c0_0] 24 (0, 0)) (by (with_reducible repeat first | apply bN | apply bD | apply bA); exact BK101.out) hb)
       have n3_ := aM (Zf (g := gb102) (o := .cells #[.slice none 0 0] 24 (0, 0)) (by (with_reducible repeat first | apply bN | apply bD | apply bA); exact BK102.out) hb)
       have n4_ := aM (Zf (g := gb103) (o := .cells #[u104000] 24 (0, 0)) (by (with_reducible repeat first | apply bN | apply bD | apply bA); exact BK103.out) hb)
       have n5_ := aM (Zf (g := gb105) (o := .cells #[.slice A104_0 ((Zo l0_0 x9_1).f0).length c104_0, .slice A104_1 ((Zo l0_0 x9_1).f1).length c104_1] 48 (0, 0)) (by (with_reducible repeat first | apply bN | apply bD | apply bA); exact BK105.out) hb)
       have n6_ := aM (Zj (by repeat (first | (with_reducible first | exact HB.out | apply wA | apply wN | apply wD | refine Za ?_ GE101.out | refine Za ?_ GE102.out | refine Za ?_ GE103.out | refine Za ?_ GE105.out) | exact HB.out)) hb)
       clear J104 BK101 BK102 BK103 BK105 HB
       have J104 := n0_
       have HO108 := n1_
       have BK101 := n2_
       have BK102 := n3_
       have BK103 := n4_
       have BK105 := n5_
       have HB := n6_
       clear n0_ n1_ n2_ n3_ n4_ n5_ n6_
       (try clear hb)
       (try clear hb2)
       (try clear hk)
       (try clear hi)
       (try clear hge_)
       (try clear ho0)
       refine hK.out _ _ ⟨(Ze BK103.out 0).trans rfl, (Ze BK105.out 0).trans rfl, (Ze BK105.out 1).trans rfl⟩ (fun hHeld => ?_)
       clear hK K
       refine Zb2 (a' := ?_) ?_ ?_
       rotate_left
       ·show Act.put _ (some 21) _ = _
        simp only [Act.put, Qa, Qb, Qc, Z5, Z6]
        rfl
       refine one_ (i := 7) (N := some 24) #[Qt, Qt, Qt, Qt, Qt, Qt, Qt, Qt, Qf, Qf, Qf, Qf, Qf] rfl rfl (Za6 HT_.out (by kernel_rfl)) (by decide) (fun K hK => ?_)
       refine Zdc Try.func30 (by kernel_rfl) rfl #[.slice A104_1 ((Zo l0_0 x9_1).f1).length c104_1] (by rfl) rfl rfl (by (try simp only [Qi, Qj, Qk]); first | done | rfl | (simp only [Qe, Qd]; rfl)) ?_
       with_reducible refine (Yp.calls _ _ ((Zo l0_0 x9_1).f1) t109 _ ?side1 ?side2 A12.out).mono ?_
       (case side1 => repeat (first | exact (Kd.Yv HR104_1.out HB.out) | (with_reducible refine Kd.Yh ?_ _) | (with_reducible refine Kd.Yg ?_ _) | (with_reducible refine Kd.Yw ?_)))
       (case side2 => exact HC104_1.out)
       rintro e w25 ⟨v110, rfl, ho0, hb⟩
       refine ⟨_, rfl, ?_⟩
       have n0_ := aM (Kd.Zeq (by (with_reducible repeat first | apply Kd.Zao | apply Kd.Zal | apply Kd.Zaw); exact J104.out) (Kd.Zbg ho0) hb)
       have n1_ := aM (Kd.Zdm (by (with_reducible repeat first | apply Kd.Zab | apply Kd.Yu | apply Kd.Zai); exact HO108.out) (Kd.Zbg ho0) hb)
       have n2_ := aM (Kd.Zb1 (Kd.R_new' ho0 (Kd.R_lt (by (with_reducible repeat first | apply Kd.Zab | apply Kd.Yu | apply Kd.Zai); exact HO108.out))) (Zd (by repeat (first | (with_reducible first | exact HB.out | apply wA | apply wN | apply wD | refine Za ?_ GE101.out | refine Za ?_ GE102.out | refine Za ?_ GE103.out | refine Za ?_ GE105.out) | exact HB.out))))
       have n3_ := aM (Zf (g := gb101) (o := .cells #[.slice (some ad104) l0_0.length c0_0] 24 (0, 0)) (by (with_reducible repeat first | apply bN | apply bD | apply bA); exact BK101.out) hb)
       have n4_ := aM (Zf (g := gb102) (o := .cells #[.slice none 0 0] 24 (0, 0)) (by (with_reducible repeat first | apply bN | apply bD | apply bA); exact BK102.out) hb)
       have n5_ := aM (Zf (g := gb103) (o := .cells #[u104000] 24 (0, 0)) (by (with_reducible repeat first | apply bN | apply bD | apply bA); exact BK103.out) hb)
       have n6_ := aM (Zf (g := gb105) (o := .cells #[.slice A104_0 ((Zo l0_0 x9_1).f0).length c104_0, .slice A104_1 ((Zo l0_0 x9_1).f1).length c104_1] 48 (0, 0)) (by (with_reducible repeat first | apply bN | apply bD | apply bA); exact BK105.out) hb)
       have n7_ := aM (Zj (by repeat (first | (with_reducible first | exact HB.out | apply wA | apply wN | apply wD | refine Za ?_ GE101.out | refine Za ?_ GE102.out | refine Za ?_ GE103.out | refine Za ?_ GE105.out) | exact HB.out)) hb)
       clear J104 HO108 BK101 BK102 BK103 BK105 HB
       have J104 := n0_
       have HO108 := n1_
       have HO111 := n2_
       have BK101 := n3_
       have BK102 := n4_
       have BK103 := n5_
       have BK105 := n6_
       have HB := n7_
       clear n0_ n1_ n2_ n3_ n4_ n5_ n6_ n7_
       (try clear hb)
       (try clear hb2)
       (try clear hk)
       (try clear hi)
       (try clear hge_)
       (try clear ho0)
       obtain ⟨Ao26, co26, eo26⟩ := Kd.Za2 HO111.out
       (first | subst eo26 | (injection eo26 with f1_ f2_ f3_; have f4_ := f1_.symm; have f5_ := f3_.symm; clear f1_ f2_ f3_; subst f4_; subst f5_))
       obtain ⟨Ao27, co27, eo27⟩ := Kd.Za2 HO108.out
       (first | subst eo27 | (injection eo27 with f1_ f2_ f3_; have f4_ := f1_.symm; have f5_ := f3_.symm; clear f1_ f2_ f3_; subst f4_; subst f5_))
       refine hK.out _ _ ⟨(Ze BK103.out 0).trans rfl, (Ze BK105.out 0).trans rfl, (Ze BK105.out 1).trans rfl⟩ (fun hHeld => ?_)
       clear hK K
       refine Zb2 (a' := ?_) ?_ ?_
       rotate_left
       ·show Act.put _ (some 24) _ = _
        simp only [Act.put, Qa, Qb, Qc, Z5, Z6]
        rfl
       refine Yq (i := 8) (N := some 25) (v := ?_) (a' := ?_) #[Qt, Qt, Qt, Qt, Qt, Qt, Qt, Qt, Qt, Qf, Qf, Qf, Qf] rfl rfl (Yk HT_.out (by kernel_rfl)) (fun _ _ _ h => h) (Or.inl ⟨by rfl, ?_⟩) ?_ ?_
       rotate_left
       ·intro w'
        go_simp
        with_reducible rfl
       rotate_left
       ·simp only [Act.put, Qa, Qb, Qc, Z5, Z6]
        rfl
       refine one_ (i := 9) (N := some 26) #[Qt, Qt, Qt, Qt, Qt, Qt, Qt, Qt, Qt, Qt, Qf, Qf, Qf] rfl rfl (Za6 HT_.out (by kernel_rfl)) (by decide) (fun K hK => ?_)
       refine value_ (w1 := ?_) (v := ?_) (by rfl) rfl ?_ ?_
       rotate_left 2
       ·go_simp
        constructor
        ·rfl
        ·rfl
       refine hK.out _ _ ⟨(Ze (bA BK103.out _) 0).trans rfl, (Ze (bA BK105.out _) 0).trans rfl, (Ze (bA BK105.out _) 1).trans rfl⟩ (fun hHeld => ?_)
       clear hK K
       refine Zb2 (a' := ?_) ?_ ?_
       rotate_left
       ·show Act.put _ (some 26) _ = _
        simp only [Act.put, Qa, Qb, Qc, Z5, Z6]
        rfl
       refine one_ (i := 10) (N := some 27) #[Qt, Qt, Qt, Qt, Qt, Qt, Qt, Qt, Qt, Qt, Qt, Qf, Qf] rfl rfl (Za6 HT_.out (by kernel_rfl)) (by decide) (fun K hK => ?_)
       refine Kd.Zc9 k48a (w0 := w) w.heap.size (by rfl) (.tmp 18) (.tmp 26) 22 48 (.agg #[(.slice none 0 0), (.slice none 0 0)]) 48 rfl Try.underlying22 Zfh rfl (by decide) (by omega) u104000 x104000_1 (⟨t106, t109⟩ : S48) [.slice Ao27 t106.length co27, .slice Ao26 t109.length co26] (fun k_ => k_ ≠ gb105) (fun k_ => some k_ = (.slice Ao27 t106.length co27 : Value).ownBlock ∨ some k_ = (.slice Ao26 t109.length co26 : Value).ownBlock) rfl rfl ?aP (fun k_ hk_ => hk_.elim (fun h_ => ((Kd.Zar (ok' := fun k_ => ((fun k_ => k_ ≠ gb105)) k_ ∧ some k_ ≠ (u104000 : Value).ownBlock) (Kd.Zaf (Kd.Zbq (HO108.out) (Kd.Zcl J104.out) (by decide)) BK105.out (by decide)) (fun k_ hk => ⟨hk.2, hk.1.2⟩))).1 k_ h_.symm) (fun h_ => ((Kd.Zar (ok' := fun k_ => ((fun k_ => k_ ≠ gb105)) k_ ∧ some k_ ≠ (u104000 : Value).ownBlock) (Kd.Zaf (Kd.Zbq (HO111.out) (Kd.Zcl J104.out) (by decide)) BK105.out (by decide)) (fun k_ hk => ⟨hk.2, hk.1.2⟩))).1 k_ h_.symm)) ?aF ?aO ?aB ?aS ?aL ?_
       (case aP => exact k48a_mkM (⟨t106, t109⟩ : S48) (Kd.Zcu rfl (Kd.Zar (ok' := fun k_ => ((fun k_ => k_ ≠ gb105)) k_ ∧ some k_ ≠ (u104000 : Value).ownBlock) (Kd.Zaf (Kd.Zbq (HO108.out) (Kd.Zcl J104.out) (by decide)) BK105.out (by decide)) (fun k_ hk => ⟨hk.2, hk.1.2⟩))) (Kd.Zcu rfl (Kd.Zar (ok' := fun k_ => ((fun k_ => k_ ≠ gb105)) k_ ∧ some k_ ≠ (u104000 : Value).ownBlock) (Kd.Zaf (Kd.Zbq (HO111.out) (Kd.Zcl J104.out) (by decide)) BK105.out (by decide)) (fun k_ hk => ⟨hk.2, hk.1.2⟩))) (fun k_ h_ e_ => (HO108.out.1 k_ e_).2 h_))
       (case aB => exact (by repeat (first | (with_reducible first | exact HB.out | apply wA | apply wN | apply wD | refine Za ?_ GE101.out | refine Za ?_ GE102.out | refine Za ?_ GE103.out | refine Za ?_ GE105.out) | exact HB.out)))
       (case aF => exact (fun k_ hk => Kd.Y6 (g := gb105) (o := .cells #[.slice A104_0 ((Zo l0_0 x9_1).f0).length c104_0, .slice A104_1 ((Zo l0_0 x9_1).f1).length c104_1] 48 (0, 0)) (by (with_reducible repeat first | apply bN | apply bD | apply bA); exact BK105.out) k_ hk))
       (case aO => exact (by (with_reducible repeat first | apply Kd.Zao | apply Kd.Zal | apply Kd.Zaw); exact Kd.Zbc J104.out (fun k_ hk => ⟨hk.1.1, fun e_ => e_.elim (fun h_ => hk.1.2 h_) (fun h_ => hk.2 h_)⟩)))
       (case aS => exact (Zd (by repeat (first | (with_reducible first | exact HB.out | apply wA | apply wN | apply wD | refine Za ?_ GE101.out | refine Za ?_ GE102.out | refine Za ?_ GE103.out | refine Za ?_ GE105.out) | exact HB.out))))
       (case aL => have := LMc13.out; omega)
       intro v113 w28 ho hb hg hat
       rw [← Ny112.out] at ho
       have n0_ := aM (Yc (g := gb101) (o := .cells #[.slice (some ad104) l0_0.length c0_0] 24 (0, 0)) (by (with_reducible repeat first | apply bN | apply bD | apply bA); exact BK101.out) hg (Kd.S_ne J104.out BK101.out (by decide)))
       have n1_ := aM (Yc (g := gb102) (o := .cells #[.slice none 0 0] 24 (0, 0)) (by (with_reducible repeat first | apply bN | apply bD | apply bA); exact BK102.out) hg (Kd.S_ne J104.out BK102.out (by decide)))
       have n2_ := aM (Yc (g := gb103) (o := .cells #[u104000] 24 (0, 0)) (by (with_reducible repeat first | apply bN | apply bD | apply bA); exact BK103.out) hg (Kd.S_ne J104.out BK103.out (by decide)))
       have n3_ := aM (Yc (g := gb105) (o := .cells #[.slice A104_0 ((Zo l0_0 x9_1).f0).length c104_0, .slice A104_1 ((Zo l0_0 x9_1).f1).length c104_1] 48 (0, 0)) (by (with_reducible repeat first | apply bN | apply bD | apply bA); exact BK105.out) hg (Kd.S_away J104.out (fun _ hk => hk.1.1)))
       have n4_ := aM (hb)
       have n5_ := aM (ho)
       clear BK101 BK102 BK103 BK105 HB J104 HO108 HO111
       have BK101 := n0_
       have BK102 := n1_
       have BK103 := n2_
       have BK105 := n3_
       have HB := n4_
       have HO114 := n5_
       clear n0_ n1_ n2_ n3_ n4_ n5_ ho hb hg hat
       obtain ⟨Ao29, co29, eo29⟩ := Kd.Zcm HO114.out
       (first | subst eo29 | (injection eo29 with f1_ f2_ f3_; have f4_ := f1_.symm; have f5_ := f3_.symm; clear f1_ f2_ f3_; subst f4_; subst f5_))
       refine hK.out _ _ ⟨(Ze BK103.out 0).trans rfl, (Ze BK105.out 0).trans rfl, (Ze BK105.out 1).trans rfl⟩ (fun hHeld => ?_)
       clear hK K
       refine Zb2 (a' := ?_) ?_ ?_
       rotate_left
       ·show Act.put _ (some 27) _ = _
        simp only [Act.put, Qa, Qb, Qc, Z5, Z6]
        rfl
       refine Yq (i := 11) (N := some 28) (v := ?_) (a' := ?_) #[Qt, Qt, Qt, Qt, Qt, Qt, Qt, Qt, Qt, Qt, Qt, Qt, Qf] rfl rfl (Yk HT_.out (by kernel_rfl)) (fun _ _ _ h => h) (Or.inl ⟨by rfl, ?_⟩) ?_ ?_
       rotate_left
       ·intro w'
        go_simp
        with_reducible rfl
       rotate_left
       ·simp only [Act.put, Qa, Qb, Qc, Z5, Z6]
        rfl
       refine last_ (i := 12) (N := none) #[Qt, Qt, Qt, Qt, Qt, Qt, Qt, Qt, Qt, Qt, Qt, Qt, Qt] rfl rfl (Za6 HT_.out (by kernel_rfl)) (by decide) (fun K hK => ?_)
       have hs30 : w28.cell? ⟨gb103, 0, none⟩ = some (u104000) := (Ze BK103.out 0).trans rfl
       have hfs30 := Zg BK103.out 0
       have hns30_0 := NB101_103.out
       have hns30_1 := NB102_103.out
       have hns30_3 := NB105_103.out
       have hms30_0 := NB103_101.out
       have hms30_1 := NB103_102.out
       have hms30_3 := NB103_105.out
       refine Zcp (w1 := ?_) (by rfl) rfl ?_ ?_
       rotate_left
       ·go_simp
        rfl
       refine hK.out _ _ ?_
       clear hK K
       refine Zcv (Zcf HT_.out (by kernel_rfl)) ?_
       try go_wp2
       go_roundg k1
       case measure => have := HK1.out; omega
       case rel => exact ⟨(wrap64 (x9_1 + 1)), (y112), (.slice Ao29 y112.length co29), (by first | rfl | (simp; done) | (simp [*]; done)), H', ⟨by have := HK1.out; omega⟩, ⟨by (with_reducible repeat first | apply Kd.Zao | apply Kd.Zal | apply Kd.Zaw); exact Kd.Zbc (Kd.Zcs (p := ⟨gb103, 0, none⟩) (Kd.Zcg HO114.out BK103.out (by decide)) (fun _ hk => hk.2) (.slice Ao29 y112.length co29)) (fun _ hk => trivial)⟩, ⟨by (with_reducible repeat first | apply bN | apply bD | apply bA); refine Z8 ?_ NB101_103.out _; (with_reducible repeat first | apply bN | apply bD | apply bA); exact BK101.out⟩, ⟨by (with_reducible repeat first | apply bN | apply bD | apply bA); refine Z8 ?_ NB102_103.out _; (with_reducible repeat first | apply bN | apply bD | apply bA); exact BK102.out⟩, ⟨by (with_reducible repeat first | apply bN | apply bD | apply bA); refine Yo (cs := #[u104000]) ?_ 0 _ rfl; (with_reducible repeat first | apply bN | apply bD | apply bA); exact BK103.out⟩, ⟨by repeat (first | (with_reducible first | exact HB.out | apply wA | apply wN | apply wD | refine Za ?_ GE101.out | refine Za ?_ GE102.out | refine Za ?_ GE103.out | refine Za ?_ GE105.out) | exact HB.out)⟩⟩
      ·rw [if_neg c13] at H
       exact absurd H (by simp)
     ·rw [if_neg c10] at H
      exact absurd H (by simp)
    ·rw [if_neg c9] at H
     exact absurd H (by simp)
   ·rw [if_neg c8] at H
    have c8b0 : decide (x9_1 < (l0_0.length : Int)) = false := decide_eq_false c8
    clear c8
    obtain rfl := Option.some.inj H
    have hnb31 := NB103_101.out
    have hnc31 := NB101_103.out
    have hnb32 := NB103_102.out
    have hnc32 := NB102_103.out
    have hcz33_0 : wr.cell? ⟨gb103, 0, none⟩ = some (u104000) := (Ze BK103.out 0).trans rfl
    have hfz33_0 := Zg BK103.out 0
    obtain ⟨Ao34, co34, eo34⟩ := Kd.Zcm J104.out
    subst eo34
    have hnb35 := NB102_101.out
    have hnc35 := NB101_102.out
    have hcz36_0 : wr.cell? ⟨gb102, 0, none⟩ = some (.slice none 0 0) := (Ze BK102.out 0).trans rfl
    have hfz36_0 := Zg BK102.out 0
    go_wp2
    refine bodyPost_ret (results_cell_row rfl _ _ gb102 24 #[.slice Ao34 x104000_1.length co34] (0, 0) _ rfl (by (with_reducible repeat first | apply bN | apply bD | apply bA); refine Yo (cs := #[.slice none 0 0]) ?_ 0 _ rfl; (with_reducible repeat first | apply bN | apply bD | apply bA); exact BK102.out) Try.underlying24 rfl (by kernel_rfl)) rfl ?_
    exact ⟨_, by first | rfl | (simp [Zy, Zx] <;> rfl) | (simp [*, Zy, Zx] <;> rfl), by (with_reducible repeat first | apply Kd.Zao | apply Kd.Zal | apply Kd.Zaw); exact Kd.Zbc (Kd.Zcs (p := ⟨gb102, 0, none⟩) (Kd.Zcg J104.out BK102.out (by decide)) (fun _ hk => hk.2) (.slice Ao34 x104000_1.length co34)) (fun _ hk => trivial), by repeat (first | (with_reducible first | exact HB.out | apply wA | apply wN | apply wD | refine Za ?_ GE101.out | refine Za ?_ GE102.out | refine Za ?_ GE103.out) | exact HB.out)⟩



theorem Ye.calls (k : Nat) (A0_0 : Option Addr) (c0_0 : Nat) (l0_0 : List (S48)) (r : List (S48)) (w : World) (hr0_0 : Kd.C k48 w A0_0 l0_0.length l0_0) (hc0_0 : l0_0.length ≤ c0_0) (h : Ye.f k l0_0 = some r) :
  Calls Try.prog 24 #[.agg #[.slice A0_0 l0_0.length c0_0]] w fun e w' => ∃ v0_ : Value, e = .returned (.agg #[v0_]) ∧ Kd.S k48 48 w' w.heap.size (fun _ => True) v0_ r ∧ Below w.heap.size w w' :=
  (Ye.Zfi k A0_0 c0_0 l0_0 r w hr0_0 hc0_0 h).mono (fun _ _ ⟨v, e, hs, hb⟩ => ⟨v, e, k48a_S hs, hb⟩)
end Go.Proofs.Ytnfbjdnflifcoaa.PDk

namespace Go.Proofs.Ytnfbjdnflifcoaa.PDk
open Go.RowKit Go.Proofs.YtnfbjdnflifcoaaW.PrintWords Go.Proofs.YtnfbjdnflifcoaaW.PrintLast Go.Proofs.YtnfbjdnflifcoaaW.PrintMore
attribute [local go_sem] Za0 Zay Zbe Zbd Zan Zam Zaz Zax
set_option linter.unusedVariables false
set_option linter.unusedSimpArgs false

def Z9.l0 : Nat → List Int → Int → Int → Int → Option (Int)
 | 0, _, _, _, _ => none
 | k + 1, x0, x1, x7, x8 => if x8 < x7 then (if 0 ≤ x8 then (if x8 < (x0.length : Int) then (if x1 = (rd x0 x8) then (some x8) else (Z9.l0 k x0 x1 x7 (wrap64 (x8 + 1)))) else (none)) else (none)) else (some (-1))
def Z9.f (k : Nat) (l0 : List Int) (a1 : Int) : Option (Int) := Z9.l0 k l0 a1 (l0.length : Int) 0
theorem Z9.Zbk : ∀ k, (∀ y0 y1 y2 y3, LeO (Z9.l0 k y0 y1 y2 y3) (Z9.l0 (k + 1) y0 y1 y2 y3))
 | 0 => fun _ _ _ _ r h => by simp [Z9.l0] at h
 | k + 1 => by
  have ih0 := Z9.Zbk k
  ·intro y0 y1 y2 y3
   unfold Z9.l0
   repeat' first
   | (with_reducible exact ih0 _ _ _ _)
   | (with_reducible exact LeO.refl _)
   | (with_reducible exact LeO.none _)
   | (with_reducible refine LeO.ite ?_ ?_)
   | (with_reducible refine LeO.bind ?_ (fun _ => ?_))
   | exact ih0 _ _ _ _
   | exact LeO.none _
   | refine LeO.ite ?_ ?_
   | refine LeO.bind ?_ (fun _ => ?_)
theorem Z9.mono : ∀ a0 a1 k, LeO (Z9.f k a0 a1) (Z9.f (k + 1) a0 a1) := by
 intro a0 a1 k
 have ih0 := Z9.Zbk k
 unfold Z9.f
 repeat' first
   | (with_reducible exact ih0 _ _ _ _)
   | (with_reducible exact LeO.refl _)
   | (with_reducible exact LeO.none _)
   | (with_reducible refine LeO.ite ?_ ?_)
   | (with_reducible refine LeO.bind ?_ (fun _ => ?_))
   | exact ih0 _ _ _ _
   | exact LeO.none _
   | refine LeO.ite ?_ ?_
   | refine LeO.bind ?_ (fun _ => ?_)
set_option maxHeartbeats 8000000 in
set_option maxRecDepth 100000 in
theorem Z9.calls (k : Nat) (A0 : Option Addr) (c0 : Nat) (l0 : List Int) (a1 : Int) (r : Int) (w : World) (hr0 : Kd.C (Kd.int .i64) w A0 l0.length l0) (hc0 : l0.length ≤ c0) (h : Z9.f k l0 a1 = some r) :
  Calls Try.prog 35 #[.slice A0 l0.length c0, .int .i64 a1] w fun e w' => e = .returned (.int .i64 r) ∧ Zba w w' := by
 have HR0 := aM hr0
 have HC0 := aM hc0
 clear hr0 hc0
 have H : (Z9.l0 k l0 a1 (l0.length : Int) 0) = some r := h
 clear h
 have H' := aM H
 clear H
 go_enter Try.func35, Try.ntmps35
 go_wp2
 go_loopg [8] k (fun kq v8 w' => ∃ (x8_1 : Int), v8 = .int .i64 x8_1 ∧ Zq (Z9.l0 kq l0 a1 (l0.length : Int) x8_1 = some r) ∧ Zq (kq ≤ k) ∧ Zba w w')
 case atStart => exact ⟨(0), (by first | rfl | (simp; done) | (simp [*]; done)), H', ⟨Nat.le_refl _⟩, by repeat (first | exact Zba.refl _ | apply Zba.step)⟩
 case round =>
  clear H'
  try clear p2
  obtain ⟨x8_1, rfl, HA, HK1, ⟨m1, rfl⟩⟩ := hrel
  cases gk with
  | zero => exact absurd HA.out (by simp [Z9.l0])
  | succ k1 =>
   have H := HA.out
   clear HA
   simp only [Z9.l0] at H
   by_cases c3 : x8_1 < (l0.length : Int)
   ·rw [if_pos c3] at H
    have c3b0 : decide (x8_1 < (l0.length : Int)) = true := decide_eq_true c3
    clear c3
    by_cases c4 : 0 ≤ x8_1
    ·rw [if_pos c4] at H
     have c4b0 : decide (0 ≤ x8_1) = true := decide_eq_true c4
     clear c4
     by_cases c5 : x8_1 < (l0.length : Int)
     ·rw [if_pos c5] at H
      have c5b0 : decide (x8_1 < (l0.length : Int)) = true := decide_eq_true c5
      clear c5
      by_cases c6 : a1 = (rd l0 x8_1)
      ·rw [if_pos c6] at H
       have c6b0 : (a1 == (rd l0 x8_1)) = true := beq_iff_eq.mpr c6
       have c6b1 : (a1 != (rd l0 x8_1)) = false := bne_eq_false_iff_eq.mpr c6
       clear c6
       obtain rfl := Option.some.inj H
       have p115 : 0 ≤ (x8_1 : Int) := of_decide_eq_true (by first | (with_reducible assumption) | assumption)
       have q115 : x8_1 < (l0.length : Int) := of_decide_eq_true (by first | (with_reducible assumption) | assumption)
       obtain ⟨ad115, e115, hx115_0⟩ := Kd.Zcz HR0.out x8_1 p115 q115
       cases e115
       replace p115 := eq_true p115
       replace q115 := eq_true q115
       go_wp2
       go_ret
       exact ⟨by first | rfl | (simp; done) | (simp [*]; done), by repeat (first | exact Zba.refl _ | apply Zba.step)⟩
      ·rw [if_neg c6] at H
       have c6b0 : (a1 == (rd l0 x8_1)) = false := beq_eq_false_iff_ne.mpr c6
       have c6b1 : (a1 != (rd l0 x8_1)) = true := bne_iff_ne.mpr c6
       have H' := aM H
       clear H
       have p115 : 0 ≤ (x8_1 : Int) := of_decide_eq_true (by first | (with_reducible assumption) | assumption)
       have q115 : x8_1 < (l0.length : Int) := of_decide_eq_true (by first | (with_reducible assumption) | assumption)
       obtain ⟨ad115, e115, hx115_0⟩ := Kd.Zcz HR0.out x8_1 p115 q115
       cases e115
       replace p115 := eq_true p115
       replace q115 := eq_true q115
       go_wp2
       go_roundg k1
       case measure => have := HK1.out; omega
       case rel => exact ⟨(wrap64 (x8_1 + 1)), (by first | rfl | (simp; done) | (simp [*]; done)), H', ⟨by have := HK1.out; omega⟩, by repeat (first | exact Zba.refl _ | apply Zba.step)⟩
     ·rw [if_neg c5] at H
      exact absurd H (by simp)
    ·rw [if_neg c4] at H
     exact absurd H (by simp)
   ·rw [if_neg c3] at H
    have c3b0 : decide (x8_1 < (l0.length : Int)) = false := decide_eq_false c3
    clear c3
    obtain rfl := Option.some.inj H
    go_wp2
    go_ret
    exact ⟨by first | rfl | (simp; done) | (simp [*]; done), by repeat (first | exact Zba.refl _ | apply Zba.step)⟩

def Yz.f (k : Nat) (l0 : List Int) (a1 : Int) : Option (Bool) := (Z9.f k l0 a1).bind fun t116 => (some (decide (t116 ≥ 0)))
theorem Yz.mono : ∀ a0 a1 k, LeO (Yz.f k a0 a1) (Yz.f (k + 1) a0 a1) := by
 intro a0 a1 k
 unfold Yz.f
 repeat' first
   | (with_reducible exact Z9.mono _ _ _)
   | (with_reducible exact LeO.refl _)
   | (with_reducible exact LeO.none _)
   | (with_reducible refine LeO.ite ?_ ?_)
   | (with_reducible refine LeO.bind ?_ (fun _ => ?_))
   | exact Z9.mono _ _ _
   | exact LeO.none _
   | refine LeO.ite ?_ ?_
   | refine LeO.bind ?_ (fun _ => ?_)
set_option maxHeartbeats 8000000 in
set_option maxRecDepth 100000 in
theorem Yz.calls (k : Nat) (A0 : Option Addr) (c0 : Nat) (l0 : List Int) (a1 : Int) (r : Bool) (w : World) (hr0 : Kd.C (Kd.int .i64) w A0 l0.length l0) (hc0 : l0.length ≤ c0) (h : Yz.f k l0 a1 = some r) :
  Calls Try.prog 25 #[.slice A0 l0.length c0, .int .i64 a1] w fun e w' => e = .returned (.bool r) ∧ Zba w w' := by
 have HR0 := aM hr0
 have HC0 := aM hc0
 clear hr0 hc0
 have H : ((Z9.f k l0 a1).bind fun t116 => (some (decide (t116 ≥ 0)))) = some r := h
 clear h
 replace H := Option.bind_eq_some_iff.mp H
 obtain ⟨t116, A30, H⟩ := H
 replace H : (some (decide (t116 ≥ 0))) = some r := H
 have A3 := aM A30
 clear A30
 obtain rfl := Option.some.inj H
 go_enter Try.func25, Try.ntmps25
 go_wp2_with (first | ((with_reducible refine Yf (f := 35) rfl ?_); refine Zap (some 7) rfl rfl Try.func35 (by kernel_rfl) rfl #[.slice A0 l0.length c0, .int .i64 a1] rfl (by (try simp only [Qi, Qj, Qk]); first | done | rfl | (simp only [Qe, Qd]; rfl)) ?_; (with_reducible refine (Z9.calls k _ _ l0 a1 t116 _ ?side1 ?side2 A3.out).mono ?_); (case side1 => repeat (first | exact HR0.out | (with_reducible refine Kd.Yh ?_ _) | (with_reducible refine Kd.Yg ?_ _) | (with_reducible refine Kd.Yw ?_))); (case side2 => exact HC0.out); rintro e w' ⟨rfl, ⟨nd, rfl⟩⟩; refine ⟨_, rfl, ?_⟩))
 go_ret
 exact ⟨by first | rfl | (simp; done) | (simp [*]; done), by repeat (first | exact Zba.refl _ | apply Zba.step)⟩

end Go.Proofs.Ytnfbjdnflifcoaa.PDk

namespace Go.Proofs.Ytnfbjdnflifcoaa.PDk
open Go.RowKit Go.Proofs.YtnfbjdnflifcoaaW.PrintWords Go.Proofs.YtnfbjdnflifcoaaW.PrintLast Go.Proofs.YtnfbjdnflifcoaaW.PrintMore
attribute [local go_sem] Za0 Zay Zbe Zbd Zan Zam Zaz Zax
set_option linter.unusedVariables false
set_option linter.unusedSimpArgs false

/-- Some elements from a on made zero. -/
def Zt.clr : List Int → Nat → Nat → List Int
  | xs, _, 0 => xs
  | xs, a, m + 1 => Zt.clr (xs.set a 0) (a + 1) m
theorem Zt.Zee : ∀ (m a : Nat) (xs : List Int), (Zt.clr xs a m).length = xs.length
  | 0, _, _ => rfl
  | m + 1, a, xs => by rw [Zt.clr, Zt.Zee m, List.length_set]
/-- The lost sectors of the first n bytes made zero, from byte a on. -/
def Zt.zap (k : Nat) (lost : List Int) (n : Nat) : Nat → List Int → Nat → Option (List Int)
  | 0, _, _ => none
  | m + 1, xs, a => if a < n then (Yz.f k lost ((a / 16 : Nat) : Int)).bind fun b => Zt.zap k lost n m (if b = true then Zt.clr xs a (min (a + 16) n - a) else xs) (a + 16) else some xs
/-- The number of pending bytes that a tear keeps. -/
def Zt.kept (keep : Int) (f : S48) : Nat := (max 0 (min keep (f.f1.length : Int))).toNat
def Zt.tear (l : List S39) (i : Nat) : S39 := if i < l.length then Za3 l i else z39
def Zt.all (k : Nat) (l : List S39) : Nat → List S48 → Nat → Option (List S48)
  | 0, _, _ => none
  | m + 1, t, i => if i < t.length then
      (Zt.zap k (Zt.tear l i).f1 (Zt.kept (Zt.tear l i).f0 (Zo t i)) k (Zo t i).f1 0).bind fun xs =>
        if (Zo t i).f0.length + Zt.kept (Zt.tear l i).f0 (Zo t i) < 140737488355328 then
          Zt.all k l m (t.set i ⟨(Zo t i).f0 ++ xs.take (Zt.kept (Zt.tear l i).f0 (Zo t i)), []⟩) (i + 1)
        else none
    else some t
theorem Zt.zap_mono {k : Nat} {lost : List Int} {n : Nat} : ∀ (m : Nat) (xs : List Int) (a : Nat), LeO (Zt.zap k lost n m xs a) (Zt.zap (k + 1) lost n (m + 1) xs a)
  | 0, _, _ => LeO.none _
  | m + 1, xs, a => by
    unfold Zt.zap
    refine LeO.ite ?_ (LeO.refl _)
    intro r h
    obtain ⟨b, h1, h2⟩ := Option.bind_eq_some_iff.1 h
    exact Option.bind_eq_some_iff.2 ⟨b, Yz.mono _ _ _ _ h1, Zt.zap_mono m _ _ _ h2⟩
theorem Zt.all_mono {k : Nat} {l : List S39} : ∀ (m : Nat) (t : List S48) (i : Nat), LeO (Zt.all k l m t i) (Zt.all (k + 1) l (m + 1) t i)
  | 0, _, _ => LeO.none _
  | m + 1, t, i => by
    unfold Zt.all
    refine LeO.ite ?_ (LeO.refl _)
    intro r h
    obtain ⟨b, h1, h2⟩ := Option.bind_eq_some_iff.1 h
    refine Option.bind_eq_some_iff.2 ⟨b, Zt.zap_mono _ _ _ _ h1, ?_⟩
    by_cases hc : (Zo t i).f0.length + Zt.kept (Zt.tear l i).f0 (Zo t i) < 140737488355328
    · rw [if_pos hc] at h2
      rw [if_pos hc]
      exact Zt.all_mono m _ _ _ h2
    · rw [if_neg hc] at h2
      cases h2
theorem Zt.grown_set (W : World) (g a : Nat) (v : Value) : W.grownBy (W.setCell ⟨g, a, none⟩ v) (some g) :=
  ⟨rfl, rfl, rfl, by simp [World.setCell], fun i _ hi => Below.heap_setCell W ⟨g, a, none⟩ v i (fun h => hi (by rw [h]))⟩
theorem Zt.R_clr {base g n cap : Nat} {ok : Nat → Prop} : ∀ (m a : Nat) {W : World} {xs : List Int}, (Kd.int .u8).R 5 W base ok (.slice (some ⟨g, 0, none⟩) n cap) xs → a + m ≤ xs.length →
    (Kd.int .u8).R 5 (W.setCells g a (List.replicate m (.int .u8 0))) base ok (.slice (some ⟨g, 0, none⟩) n cap) (Zt.clr xs a m) ∧ W.grownBy (W.setCells g a (List.replicate m (.int .u8 0))) (some g)
  | 0, _, W, _, h, _ => ⟨h, ⟨rfl, rfl, rfl, Nat.le_refl _, fun _ _ _ => rfl⟩⟩
  | m + 1, a, W, xs, h, hl => by
    have h1 := Kd.R_putn h (a : Int) 0
    obtain ⟨h2, h3⟩ := Zt.R_clr m (a + 1) (W := W.setCell ⟨g, a, none⟩ (.int .u8 0)) h1 (by rw [List.length_set]; omega)
    exact ⟨h2, (Zt.grown_set W g a _).trans h3⟩
theorem Zt.C_taken {d : Kd Int} {w : World} {A : Option Addr} {xs : List Int} {m : Nat} (h : d.C w A xs.length xs) (hm : m ≤ xs.length) : d.C w A m (xs.take m) := by
  have h1 := Kd.C_take h hm
  rw [Qd, Nat.min_eq_left hm] at h1
  exact h1
theorem Zt.a16 {a n : Nat} (h : a < n) (hn : n < 140737488355328) : wrap64 ((a : Int) + 16) = (a : Int) + 16 := by unfold wrap64; omega
theorem Zt.q16 {a n : Nat} (h : a < n) (hn : n < 140737488355328) : wrap64 ((a : Int) / 16) = ((a / 16 : Nat) : Int) := by unfold wrap64; omega
theorem Zt.mn_cast (n a : Nat) : (if (n : Int) < (a : Int) + 16 then (n : Int) else (a : Int) + 16) = ((min (a + 16) n : Nat) : Int) := by
  rcases Nat.lt_or_ge n (a + 16) with h | h
  · rw [if_pos (by omega), Nat.min_eq_right (by omega)]
  · rw [if_neg (by omega), Nat.min_eq_left h]
    rfl
theorem Zt.pos {l : List S39} {i : Nat} (h : i < l.length) : Zt.tear l i = Za3 l (i : Int) := if_pos h
theorem Zt.neg {l : List S39} {i : Nat} (h : ¬ i < l.length) : Zt.tear l i = z39 := if_neg h

def Zt.f (k : Nat) (l0_0 : List (S48)) (l1 : List (S39)) : Option ((List (S48))) := (Ye.f k l0_0).bind fun t => Zt.all k l1 k t 0
/-- More rounds, the same answer. -/
theorem Zt.mono (k : Nat) (l0_0 : List S48) (l1 : List S39) : LeO (Zt.f k l0_0 l1) (Zt.f (k + 1) l0_0 l1) := fun r h => by
  obtain ⟨t, h1, h2⟩ := Option.bind_eq_some_iff.1 h
  exact Option.bind_eq_some_iff.2 ⟨t, Ye.mono _ _ _ h1, Zt.all_mono _ _ _ _ h2⟩

set_option maxHeartbeats 4000000 in
set_option maxRecDepth 100000 in
theorem Zt.calls (k : Nat) (A0_0 : Option Addr) (c0_0 : Nat) (l0_0 : List (S48)) (A1 : Option Addr) (c1 : Nat) (l1 : List (S39)) (r : List (S48)) (w : World) (hr0_0 : Kd.C k48 w A0_0 l0_0.length l0_0) (hc0_0 : l0_0.length ≤ c0_0) (hr1 : Kd.C k39 w A1 l1.length l1) (hc1 : l1.length ≤ c1) (h : Zt.f k l0_0 l1 = some r) :
    Calls Try.prog 11 #[.agg #[.slice A0_0 l0_0.length c0_0], .slice A1 l1.length c1] w fun e w' => ∃ v0_ : Value, e = .returned (.agg #[v0_]) ∧ Kd.S k48 48 w' w.heap.size (fun _ => True) v0_ r ∧ Below w.heap.size w w' := by
  unfold Zt.f at h
  obtain ⟨t0, h0, h⟩ := Option.bind_eq_some_iff.1 h
  have HR0 := Lib.hid hr0_0
  have HC0 := Lib.hid hc0_0
  have HR1 := Lib.hid hr1
  have HF0 := Lib.hid h0
  have HF := Lib.hid h
  have hl1 : l1.length ≤ 9223372036854775807 := hr1.2.1
  clear hr0_0 hc0_0 hr1 h0 h hc1
  have HB := Zq.mk (Below.refl w.heap.size w)
  go_enter Try.func11, Try.ntmps11
  go_wp2_with (first
    | ((with_reducible refine Z7 (N := 2) rfl ?_); refine Z4 ?hg (N := 2) ?hd (cs := #[.slice A0_0 l0_0.length c0_0]) (t := 24) ?hr ?_; (case hd => rfl); (case hg => rfl); (case hr => first | (go_simp; done) | (go_simp; rfl)); intro gd hg w2 hbox hb; have HGD := Zq.mk (show w.heap.size ≤ gd by rw [hg]; exact Zd HB.out); have BKD := Zq.mk hbox; have HB2 := Zq.mk (Zj HB.out hb); clear HB hg hbox hb)
    | ((with_reducible refine Z7 (N := 4) rfl ?_); refine Z4 ?hg (N := 4) ?hd (cs := #[.slice none 0 0]) (t := 24) ?hr ?_; (case hd => rfl); (case hg => rfl); (case hr => first | (go_simp; done) | (go_simp; rfl)); intro gr hg w3 hbox hb; have HGR := Zq.mk (show w.heap.size ≤ gr by rw [hg]; exact Zd HB2.out); have HNE := Zq.mk (show gd ≠ gr by rw [hg]; exact Nat.ne_of_lt (Ya BKD.out)); have BKR := Zq.mk hbox; have BKD3 := Zq.mk (Zf BKD.out hb); have HB3 := Zq.mk (Zj HB2.out hb); clear BKD HB2 hg hbox hb; have hcz := (Ze BKD3.out 0).trans rfl; have hfz := Zg BKD3.out 0)
    | (go_at_call 24; (with_reducible refine (Ye.Zfi k _ _ l0_0 t0 _ ?side1 ?side2 HF0.out).mono ?_); (case side1 => exact Kd.Yv HR0.out HB3.out); (case side2 => exact HC0.out); rintro e w4 ⟨vd, rfl, ho0, hb⟩; have HS4 := Zq.mk (Kd.Zdu ho0 (Zd HB3.out)); have BKD4 := Zq.mk (Zf BKD3.out hb); have BKR4 := Zq.mk (Zf BKR.out hb); have HB4 := Zq.mk (Zj HB3.out hb); clear BKD3 BKR HB3 ho0 hb; have hcz4 := (Ze BKD4.out 0).trans rfl; have hfz4 := Zg BKD4.out 0; obtain ⟨Ao, co, eo⟩ := Kd.Zcm HS4.out; subst eo))
  have hS := Kd.S_set HS4.out BKD4.out (by decide) 0 (.slice Ao t0.length co)
  have hb1 := Yo BKD4.out 0 (.slice Ao t0.length co) rfl
  have hb2 := Z8 (p := ⟨gd, 0, none⟩) BKR4.out (Ne.symm HNE.out) (.slice Ao t0.length co)
  have hB := Za (j := 0) (v := .slice Ao t0.length co) HB4.out HGD.out
  clear hcz hfz hcz4 hfz4
  generalize (w4.setCell ⟨gd, 0, none⟩ (.slice Ao t0.length co)) = w5 at *
  clear BKD4 BKR4 HB4 HS4
  have hlen : t0.length ≤ 9223372036854775807 := by obtain ⟨_, hc, hC⟩ := Kd.Zcn hS; have := hC.2.1; omega
  have h5 := Lib.hid (And.intro hS (And.intro hb1 (And.intro hb2 hB)))
  clear hS hb1 hb2 hB
  go_loopw [15] (fun u15 W => ∃ (i m : Nat) (t : List S48), u15 = .int .i64 i ∧ t.length = t0.length ∧ Zt.all k l1 m t i = some r ∧ i ≤ t0.length ∧ Kd.S k48a 48 W w.heap.size (fun _ => True) (.slice Ao t0.length co) t ∧ W.heap[gd]? = some (.cells #[.slice Ao t0.length co] 24 (0, 0)) ∧ W.heap[gr]? = some (.cells #[.slice none 0 0] 24 (0, 0)) ∧ Below w.heap.size w W) (fun u15 _ => t0.length - (intOf u15).toNat)
  case atStart => exact ⟨0, k, t0, rfl, rfl, HF.out, Nat.zero_le _, h5.out.1, h5.out.2.1, h5.out.2.2.1, h5.out.2.2.2⟩
  case round =>
    clear h5 HF HF0 w5
    obtain ⟨i, m, t, rfl, ht, hall, hi, hs, hbd, hbr, hb⟩ := hrel
    have HS := Zq.mk hs
    have BKD := Zq.mk hbd
    have BKR := Zq.mk hbr
    have HB := Zq.mk hb
    clear hs hbd hbr hb
    rcases m with _ | m
    · cases hall
    rw [Zt.all] at hall
    by_cases hlt : i < t0.length
    · rw [if_pos (by rw [ht]; exact hlt)] at hall
      obtain ⟨T, hT⟩ : ∃ T, T = Zt.tear l1 i := ⟨_, rfl⟩
      rw [← hT] at hall
      obtain ⟨xs, hz, hall⟩ := Option.bind_eq_some_iff.1 hall
      rcases Nat.lt_or_ge ((Zo t i).f0.length + Zt.kept T.f0 (Zo t i)) 140737488355328 with hlim | hlim
      case inr => rw [if_neg (Nat.not_lt.2 hlim)] at hall; cases hall
      rw [if_pos hlim] at hall
      have HZ := Lib.hid hz
      have HALL := Lib.hid hall
      have HLIM := Lib.hid hlim
      have HT := Lib.hid ht
      clear hz hall hlim ht
      obtain ⟨go, co2, eo, hgo, hgl, cl, hGB⟩ := Kd.S_form HS.out (by rw [HT.out]; omega)
      rw [HT.out] at eo
      cases eo
      have HGO := Zq.mk hgo
      clear hgo hgl hGB
      have hp1 : (0 ≤ (i : Int)) = True := eq_true (by omega)
      have hp2 : ((i : Int) < (t0.length : Int)) = True := eq_true (by omega)
      by_cases hil : i < l1.length
      · rw [Zt.pos hil] at hT
        obtain ⟨ad1, AL, cL, eA, hx0, hx1, hcL, hCL⟩ := at_T39 HR1.out (i : Int) (by omega) (by omega)
        cases eA
        replace hx0 := (HB.out.cell (Qw w _ hx0)).trans hx0
        replace hx1 := (HB.out.cell (Qw w _ hx1)).trans hx1
        rw [← hT] at hx0 hx1 hcL hCL
        simp only [Int.toNat_natCast] at hx0 hx1
        have hq2 : ((i : Int) < (l1.length : Int)) = True := eq_true (by omega)
        have HT39 := Lib.hid hT
        clear hT
        go_wp2_with ((with_reducible refine Z7 (N := 6) rfl ?_); refine Z4 ?hg (N := 6) ?hd (cs := #[.int .i64 0, .slice none 0 0]) (t := 39) ?hr ?_; (case hd => rfl); (case hg => rfl); (case hr => first | (go_simp; done) | (go_simp; rfl)); intro g6 hg w6 hbox hb; have HG6 := Zq.mk (show w.heap.size ≤ g6 by rw [hg]; exact Zd HB.out); have hnd := (show gd ≠ g6 by rw [hg]; exact Nat.ne_of_lt (Ya BKD.out)); have hnd2 := Ne.symm hnd; have hnr := (show gr ≠ g6 by rw [hg]; exact Nat.ne_of_lt (Ya BKR.out)); have BK6 := Zq.mk hbox; have BKD6 := Zq.mk (Zf BKD.out hb); have BKR6 := Zq.mk (Zf BKR.out hb); have HB6 := Zq.mk (Zj HB.out hb); have HS6 := Zq.mk (Kd.Zct HS.out hb); (try (replace hx0 := (hb.cell (Qw _ _ hx0)).trans hx0)); (try (replace hx1 := (hb.cell (Qw _ _ hx1)).trans hx1)); clear hg hbox hb; have hcz6 := (Ze BK6.out 0).trans rfl; have hcy6 := (Ze BK6.out 1).trans rfl; have hfz6 := Zg BK6.out; have hczd := (Ze BKD6.out 0).trans rfl)
        have hS := Kd.S_set (Kd.S_set HS6.out BK6.out (by decide) 0 (.int .i64 T.f0)) (Yo BK6.out 0 (.int .i64 T.f0) rfl) (by decide) 1 (.slice AL T.f1.length cL)
        have h6 := Yo (Yo BK6.out 0 (.int .i64 T.f0) rfl) 1 (.slice AL T.f1.length cL) rfl
        have hd := Z8 (p := ⟨g6, 1, none⟩) (Z8 (p := ⟨g6, 0, none⟩) BKD6.out hnd (.int .i64 T.f0)) hnd (.slice AL T.f1.length cL)
        have hr := Z8 (p := ⟨g6, 1, none⟩) (Z8 (p := ⟨g6, 0, none⟩) BKR6.out hnr (.int .i64 T.f0)) hnr (.slice AL T.f1.length cL)
        have hB := Za (j := 1) (v := .slice AL T.f1.length cL) (Za (j := 0) (v := .int .i64 T.f0) HB6.out HG6.out) HG6.out
        clear hx0 hx1 hcz6 hcy6 hfz6 hczd
        generalize ((w6.setCell ⟨g6, 0, none⟩ (.int .i64 T.f0)).setCell ⟨g6, 1, none⟩ (.slice AL T.f1.length cL)) = w7 at *
        have hS1 := Kd.Zaw hS
        have h61 := Zdl h6
        have hd1 := Zdl hd
        have hr1 := Zdl hr
        have hB1 := Zdt hB
        have HGDN := Lib.hid (Kd.S_ne hS1 hd1 (by decide))
        have HGRN := Lib.hid (Kd.S_ne hS1 hr1 (by decide))
        obtain ⟨oki, cE, hcl, hM, hcc, hfr, hoki, hH⟩ := Kd.S_elem hS1 z48 (i : Int) (by omega) (by omega)
        obtain ⟨fE, v0, v1, rfl, g0, g1⟩ := Zc2 hM
        obtain ⟨A2, c2, rfl⟩ := Kd.Za2 g0
        obtain ⟨A3, c3, rfl⟩ := Kd.Za2 g1
        have hx3 : World.cell? _ ⟨go, i * 2 + 1, none⟩ = some (.slice A3 (Zo t i).f1.length c3) := hcc 1 _ rfl
        have hx6 : World.cell? _ ⟨g6, 0, none⟩ = some (.int .i64 T.f0) := (Ze h61 0).trans rfl
        obtain ⟨f, hf⟩ : ∃ f, f = Zo t (i : Int) := ⟨_, rfl⟩
        have hfe : (t.getD (i : Int).toNat z48) = f := hf.symm
        rw [← hf] at hx3 HZ HALL HLIM
        rw [hfe] at g0 g1 hH
        have hc3 := (Kd.Zah g1).2.1
        obtain ⟨n, hn⟩ : ∃ n, n = Zt.kept T.f0 f := ⟨_, rfl⟩
        rw [← hn] at HZ HALL HLIM
        have hnl : n ≤ f.f1.length := by rw [hn]; unfold Zt.kept; omega
        have hni : (if 0 < if (f.f1.length : Int) < T.f0 then (f.f1.length : Int) else T.f0 then if (f.f1.length : Int) < T.f0 then (f.f1.length : Int) else T.f0 else 0) = (n : Int) := by rw [hn]; unfold Zt.kept; omega
        have HFF := Lib.hid hf
        have HNN := Lib.hid hn
        clear hf hfe hn
        refine Zb9 (n := 15) (S := fun w' => w'.cell? ⟨go, i * 2 + 1, none⟩ = some (.slice A3 f.f1.length c3) ∧ w'.cell? ⟨g6, 0, none⟩ = some (.int .i64 T.f0)) (ds := []) #[Qf, Qf, Qf, Qf, Qf, Qf, Qf, Qf, Qf, Qf, Qf, Qf, Qf, Qf, Qf] (by kernel_rfl) rfl rfl ⟨hx3, hx6⟩ (fun hHeld => ?_)
        generalize w7.drew = w8 at *
        refine Yq (i := 0) (N := some 30) (v := ?_) (a' := ?_) #[Qt, Qf, Qf, Qf, Qf, Qf, Qf, Qf, Qf, Qf, Qf, Qf, Qf, Qf, Qf] rfl rfl (by kernel_rfl) (fun _ _ _ h => h) (Or.inl ⟨by rfl, ?_⟩) ?_ ?_
        rotate_left
        · intro w'
          go_simp
          with_reducible rfl
        rotate_left
        · simp only [Act.put, Qa, Qb, Qc, Z5, Z6]
          rfl
        refine Yq (i := 1) (N := some 31) (v := ?_) (a' := ?_) #[Qt, Qt, Qf, Qf, Qf, Qf, Qf, Qf, Qf, Qf, Qf, Qf, Qf, Qf, Qf] rfl rfl (by kernel_rfl) (fun _ _ _ h => h) (Or.inl ⟨by rfl, ?_⟩) ?_ ?_
        rotate_left
        · intro w'
          go_simp
          with_reducible rfl
        rotate_left
        · simp only [Act.put, Qa, Qb, Qc, Z5, Z6]
          rfl
        refine Yq (i := 2) (N := some 32) (v := ?_) (a' := ?_) #[Qt, Qt, Qt, Qf, Qf, Qf, Qf, Qf, Qf, Qf, Qf, Qf, Qf, Qf, Qf] rfl rfl (by kernel_rfl) (fun _ _ _ h => h) (Or.inl ⟨by rfl, ?_⟩) ?_ ?_
        rotate_left
        · intro w'
          go_simp
          with_reducible rfl
        rotate_left
        · simp only [Act.put, Qa, Qb, Qc, Z5, Z6]
          rfl
        refine Yq (i := 4) (N := some 34) (v := ?_) (a' := ?_) #[Qt, Qt, Qt, Qf, Qt, Qf, Qf, Qf, Qf, Qf, Qf, Qf, Qf, Qf, Qf] rfl rfl (by kernel_rfl) (fun _ _ _ h => h) (Or.inl ⟨by rfl, ?_⟩) ?_ ?_
        rotate_left
        · intro w'
          go_simp
          with_reducible rfl
        rotate_left
        · simp only [Act.put, Qa, Qb, Qc, Z5, Z6]
          rfl
        refine Yq (i := 6) (N := some 36) (v := ?_) (a' := ?_) #[Qt, Qt, Qt, Qf, Qt, Qf, Qt, Qf, Qf, Qf, Qf, Qf, Qf, Qf, Qf] rfl rfl (by kernel_rfl) (fun _ _ _ h => h) (Or.inl ⟨by rfl, ?_⟩) ?_ ?_
        rotate_left
        · intro w'
          go_simp
          with_reducible rfl
        rotate_left
        · simp only [Act.put, Qa, Qb, Qc, Z5, Z6]
          rfl
        refine Yq (i := 7) (N := some 37) (v := ?_) (a' := ?_) #[Qt, Qt, Qt, Qf, Qt, Qf, Qt, Qt, Qf, Qf, Qf, Qf, Qf, Qf, Qf] rfl rfl (by kernel_rfl) (fun _ _ _ h => h) (Or.inl ⟨by rfl, ?_⟩) ?_ ?_
        rotate_left
        · intro w'
          go_simp
          with_reducible rfl
        rotate_left
        · simp only [Act.put, Qa, Qb, Qc, Z5, Z6]
          rfl
        refine Yq (i := 8) (N := some 38) (v := ?_) (a' := ?_) #[Qt, Qt, Qt, Qf, Qt, Qf, Qt, Qt, Qt, Qf, Qf, Qf, Qf, Qf, Qf] rfl rfl (by kernel_rfl) (fun _ _ _ h => h) (Or.inl ⟨by rfl, ?_⟩) ?_ ?_
        rotate_left
        · intro w'
          go_simp
          with_reducible rfl
        rotate_left
        · simp only [Act.put, Qa, Qb, Qc, Z5, Z6]
          rfl
        refine Za5 (i := 3) (N := some 33) (v := ?_) (a' := ?_) #[Qt, Qt, Qt, Qt, Qt, Qf, Qt, Qt, Qt, Qf, Qf, Qf, Qf, Qf, Qf] rfl rfl (by kernel_rfl) (fun _ _ _ h => h) (Or.inl ⟨by rfl, ?_⟩) hHeld ?_ ?_
        rotate_left
        · rintro w' ⟨s0, s1⟩
          go_simp
          with_reducible rfl
        rotate_left
        · simp only [Act.put, Qa, Qb, Qc, Z5, Z6]
          rfl
        refine Za5 (i := 5) (N := some 35) (v := ?_) (a' := ?_) #[Qt, Qt, Qt, Qt, Qt, Qt, Qt, Qt, Qt, Qf, Qf, Qf, Qf, Qf, Qf] rfl rfl (by kernel_rfl) (fun _ _ _ h => h) (Or.inl ⟨by rfl, ?_⟩) hHeld ?_ ?_
        rotate_left
        · rintro w' ⟨s0, s1⟩
          go_simp
          with_reducible rfl
        rotate_left
        · simp only [Act.put, Qa, Qb, Qc, Z5, Z6]
          rfl
        refine Za5 (i := 9) (N := some 39) (v := ?_) (a' := ?_) #[Qt, Qt, Qt, Qt, Qt, Qt, Qt, Qt, Qt, Qt, Qf, Qf, Qf, Qf, Qf] rfl rfl (by kernel_rfl) (fun _ _ _ h => h) (Or.inl ⟨by rfl, ?_⟩) hHeld ?_ ?_
        rotate_left
        · rintro w' ⟨s0, s1⟩
          go_simp
          with_reducible rfl
        rotate_left
        · simp only [Act.put, Qa, Qb, Qc, Z5, Z6]
          rfl
        refine Yq (i := 10) (N := some 40) (v := ?_) (a' := ?_) #[Qt, Qt, Qt, Qt, Qt, Qt, Qt, Qt, Qt, Qt, Qt, Qf, Qf, Qf, Qf] rfl rfl (by kernel_rfl) (fun _ _ _ h => h) (Or.inl ⟨by rfl, ?_⟩) ?_ ?_
        rotate_left
        · intro w'
          go_simp
          with_reducible rfl
        rotate_left
        · simp only [Act.put, Qa, Qb, Qc, Z5, Z6]
          rfl
        refine Yq (i := 11) (N := some 41) (v := ?_) (a' := ?_) #[Qt, Qt, Qt, Qt, Qt, Qt, Qt, Qt, Qt, Qt, Qt, Qt, Qf, Qf, Qf] rfl rfl (by kernel_rfl) (fun _ _ _ h => h) (Or.inl ⟨by rfl, ?_⟩) ?_ ?_
        rotate_left
        · intro w'
          go_simp
          with_reducible rfl
        rotate_left
        · simp only [Act.put, Qa, Qb, Qc, Z5, Z6]
          rfl
        refine Yq (i := 12) (N := some 42) (v := ?_) (a' := ?_) #[Qt, Qt, Qt, Qt, Qt, Qt, Qt, Qt, Qt, Qt, Qt, Qt, Qt, Qf, Qf] rfl rfl (by kernel_rfl) (fun _ _ _ h => h) (Or.inl ⟨by rfl, ?_⟩) ?_ ?_
        rotate_left
        · intro w'
          go_simp
          with_reducible rfl
        rotate_left
        · simp only [Act.put, Qa, Qb, Qc, Z5, Z6]
          rfl
        have hnc : n ≤ c3 := by omega
        refine Yq (i := 13) (N := some 43) (v := ?_) (a' := ?_) #[Qt, Qt, Qt, Qt, Qt, Qt, Qt, Qt, Qt, Qt, Qt, Qt, Qt, Qt, Qf] rfl rfl (by kernel_rfl) (fun _ _ _ h => h) (Or.inl ⟨by rfl, ?_⟩) ?_ ?_
        rotate_left
        · intro w'
          go_simp
          with_reducible rfl
        rotate_left
        · simp only [Act.put, Qa, Qb, Qc, Z5, Z6]
          rfl
        refine Yq (i := 14) (N := some 8) (v := ?_) (a' := ?_) #[Qt, Qt, Qt, Qt, Qt, Qt, Qt, Qt, Qt, Qt, Qt, Qt, Qt, Qt, Qt] rfl rfl (by kernel_rfl) (fun _ _ _ h => h) (Or.inl ⟨by rfl, ?_⟩) ?_ ?_
        rotate_left
        · intro w'
          go_simp
          with_reducible rfl
        rotate_left
        · simp only [Act.put, Qa, Qb, Qc, Z5, Z6]
          rfl
        refine Zcv (by kernel_rfl) ?_
        clear hHeld hx3 hx6 hni hcc hfr
        have h9 := Lib.hid (And.intro g1 (And.intro g0 (And.intro hH (And.intro h61 (And.intro hd1 (And.intro hr1 hB1))))))
        clear g1 g0 hH h61 hd1 hr1 hB1 hS1 hS h6 hd hr hB hM hoki
        generalize (if (f.f1.length : Int) < T.f0 then (f.f1.length : Int) else T.f0) = mk_
        go_wp2
        go_loopw [9] (fun u9 W => ∃ (a q : Nat) (ys : List Int), u9 = .int .i64 a ∧ ys.length = f.f1.length ∧ Zt.zap k T.f1 n q ys a = some xs ∧ a ≤ n + 16 ∧ Kd.R (Kd.int .u8) 5 W w.heap.size (fun k_ => oki k_ ∧ fE k_ = false) (.slice A3 f.f1.length c3) ys ∧ Kd.R (Kd.int .u8) 5 W w.heap.size (fun k_ => oki k_ ∧ fE k_ = true) (.slice A2 f.f0.length c2) f.f0 ∧ Kd.H k48a 48 W w.heap.size (fun _ => True) (.slice (some ⟨go, 0, none⟩) t0.length co) t (i : Int) oki [.slice A2 f.f0.length c2, .slice A3 f.f1.length c3] ∧ W.heap[g6]? = some (.cells #[.int .i64 T.f0, .slice AL T.f1.length cL] 39 (0, 0)) ∧ W.heap[gd]? = some (.cells #[.slice (some ⟨go, 0, none⟩) t0.length co] 24 (0, 0)) ∧ W.heap[gr]? = some (.cells #[.slice none 0 0] 24 (0, 0)) ∧ Below w.heap.size w W) (fun u9 _ => n + 16 - (intOf u9).toNat)
        case atStart => exact ⟨0, k, f.f1, rfl, rfl, HZ.out, Nat.zero_le _, h9.out.1, h9.out.2.1, h9.out.2.2.1, h9.out.2.2.2.1, h9.out.2.2.2.2.1, h9.out.2.2.2.2.2.1, h9.out.2.2.2.2.2.2⟩
        case round =>
          clear h9 HZ w8
          obtain ⟨a, q, ys, rfl, hyl, hz, hal, hg1, hg0, hh, hb6, hbd, hbr, hb⟩ := hrel
          have HG1 := Lib.hid hg1
          have HG0 := Lib.hid hg0
          have HH := Lib.hid hh
          have BK6 := Lib.hid hb6
          have BKD := Lib.hid hbd
          have BKR := Lib.hid hbr
          have HB := Lib.hid hb
          have HYL := Lib.hid hyl
          clear hg1 hg0 hh hb6 hbd hbr hb hyl
          rcases q with _ | q
          · cases hz
          rw [Zt.zap] at hz
          by_cases han : a < n
          · rw [if_pos han] at hz
            obtain ⟨b, hcn, hz⟩ := Option.bind_eq_some_iff.1 hz
            have HZ := Lib.hid hz
            have HCN := Lib.hid hcn
            clear hz hcn
            have hczL := (Ze BK6.out 1).trans rfl
            have hn47 : n < 140737488355328 := Nat.lt_of_le_of_lt (Nat.le_add_left _ _) HLIM.out
            have hab0 : (0 : Int) ≤ (a : Int) := Int.natCast_nonneg a
            have hab1 : (a : Int) ≤ 140737488355327 := by omega
            obtain ⟨e1, he1⟩ : ∃ e1, e1 = min (a + 16) n := ⟨_, rfl⟩
            have he2 : a < e1 := he1 ▸ Nat.lt_min.2 ⟨Nat.lt_add_of_pos_right (by decide), han⟩
            have he3 : e1 ≤ n := he1 ▸ Nat.min_le_right _ _
            have hmin : (if (n : Int) < (a : Int) + 16 then (n : Int) else (a : Int) + 16) = (e1 : Int) := he1 ▸ Zt.mn_cast n a
            have HE1 := Lib.hid he1
            clear he1
            rcases b with _ | _
            · go_wp2_with (go_at_call 25; (refine (Yz.calls k AL cL T.f1 _ false _ (Kd.Yv hCL HB.out) hcL HCN.out).mono ?_); rintro e wt ⟨rfl, hdr⟩; obtain ⟨nd, rfl⟩ := hdr.out; clear hdr)
              go_roundw
              case rel => exact ⟨a + 16, q, ys, rfl, HYL.out, HZ.out, by omega, Kd.Yu HG1.out _, Kd.Yu HG0.out _, Kd.H_drewN HH.out _, Zbf BK6.out _, Zbf BKD.out _, Zbf BKR.out _, Zas HB.out _⟩
              case measure => simp [intOf]; omega
            · obtain ⟨gp, cp, eA, hgp, hgl, hGP⟩ := Kd.Zfo HG1.out (by have := HYL.out; omega)
              rw [HYL.out] at eA
              cases eA
              clear hgl hGP
              have hclr : ∀ nd ty, (Builtin.clear_ #[30] ty #[.slice (some ⟨gp, a, none⟩) (e1 - a) (c3 - a)]).run Try.prog (wr.drewN nd) = .ok (.tuple #[]) ((wr.drewN nd).setCells gp a (List.replicate (e1 - a) (.int .u8 0))) :=
                fun nd ty => Lib.run_clear_slice _ 30 5 ty (.int .u8 0) Try.underlying30 (fun w => by kernel_rfl) rfl rfl gp a _ _ (by omega) (fun j hj => by have h_ := (Kd.Zdv 0 (Kd.Yu HG1.out nd) ((a + j : Nat) : Int) (by omega) (by omega)).1; rw [Int.toNat_natCast] at h_; rw [h_]; rfl) (fun j hj => by have h_ := (Kd.Zdv 0 (Kd.Yu HG1.out nd) ((a + j : Nat) : Int) (by omega) (by omega)).2; rw [Int.toNat_natCast] at h_; exact h_)
              have HGP := Lib.hid hgp
              clear hgp
              go_wp2_with (first | (go_at_call 25; (refine (Yz.calls k AL cL T.f1 _ true _ (Kd.Yv hCL HB.out) hcL HCN.out).mono ?_); rintro e wt ⟨rfl, hdr⟩; obtain ⟨nd, rfl⟩ := hdr.out; clear hdr) | (simp only [hclr]))
              have hr := Zt.R_clr (e1 - a) a (Kd.Yu HG1.out nd) (by have := HYL.out; omega)
              have hB := Zdo (Zas HB.out nd) (some gp) (Zas HB.out nd).size hr.2 (fun k_ e_ => by cases e_; exact HGP.out)
              have h0 := Kd.R_grown (Kd.Yu HG0.out nd) hr.2 (fun k_ hk_ e_ => by cases e_; have h1_ := (HG1.out.1 gp rfl).2; rw [hk_.2] at h1_; exact absurd h1_ (by decide))
              have hH := Kd.Zeh (Kd.H_drewN HH.out nd) hr.2 (fun k_ e_ => by cases e_; exact (HG1.out.1 gp rfl).1)
              have h6 := Yc (Zbf BK6.out nd) hr.2 (Kd.R_ne (Kd.Yu HG1.out nd) (Zbf BK6.out nd) (by decide))
              have hd := Yc (Zbf BKD.out nd) hr.2 (Kd.R_ne (Kd.Yu HG1.out nd) (Zbf BKD.out nd) (by decide))
              have hrr := Yc (Zbf BKR.out nd) hr.2 (Kd.R_ne (Kd.Yu HG1.out nd) (Zbf BKR.out nd) (by decide))
              have hr1 := hr.1
              clear hr hclr
              generalize (wr.drewN nd).setCells gp a (List.replicate (e1 - a) (.int .u8 0)) = w9 at *
              go_roundw
              case rel => exact ⟨a + 16, q, Zt.clr ys a (e1 - a), rfl, by rw [Zt.Zee]; exact HYL.out, HE1.out ▸ HZ.out, by omega, hr1, h0, hH, h6, hd, hrr, hB⟩
              case measure => simp [intOf]; omega
          · rw [if_neg han] at hz
            obtain rfl := Option.some.inj hz
            clear hz
            obtain ⟨y1, hy1⟩ : ∃ y_ : List Int, y_ = f.f0 ++ ys.take n := ⟨_, rfl⟩
            have hfe := HFF.out
            obtain ⟨x1, hx1_⟩ : ∃ x_ : S48, x_ = ⟨y1, []⟩ := ⟨_, rfl⟩
            have HX := Lib.hid hx1_
            have HY := Lib.hid hy1
            rw [← hy1, ← hx1_] at HALL
            clear hy1 hx1_ hfe
            obtain ⟨_, hfr0⟩ := Kd.H_at HH.out (by omega) (by omega)
            have hcc0 := (Kd.H_at HH.out (by omega) (by omega)).1
            have hz0 : World.cell? _ ⟨go, i * 2, none⟩ = some (.slice A2 f.f0.length c2) := hcc0 0 _ rfl
            clear hcc0 hfr0
            go_wp2_with ((with_reducible refine Zbt (b := .append) (xs := #[(.tmp 68), .tmp 69]) rfl ?_); at_builtin; refine Kd.Zbp (Kd.int .u8) (w0 := w) w.heap.size rfl (.tmp 68) (.tmp 69) 30 5 (.int .u8 0) 1 rfl Try.underlying30 info5 rfl (by decide) (by omega) (.slice A2 f.f0.length c2) f.f0 (ys.take n) _ _ _ (fun k_ => (oki k_ ∧ fE k_ = true) ∨ wr.heap.size ≤ k_) (fun _ => False) rfl rfl ?aO ?aR (fun _ _ h => h) (fun _ h => h.elim) ?aF ?aB ?aS ?aL ?_; (case aR => exact Zt.C_taken (Kd.Zah HG1.out).2.2 (by have := HYL.out; omega)); (case aB => exact HB.out); (case aF => exact (fun _ h => .inr h)); (case aO => exact Kd.Zar HG0.out (fun _ h => .inl h)); (case aS => exact (Zd HB.out)); (case aL => have := HLIM.out; omega); intro v1 w1 ho hb hg hat; rw [← HY.out] at ho; have HN0 := Lib.hid ho; have HN2 := Lib.hid (Kd.Zeh (Kd.H_widen HH.out) hg (fun k_ he => .inl (HG0.out.1 k_ he).1)); have HN3 := Lib.hid (Yc BKD.out hg (Kd.R_ne HG0.out BKD.out (by decide))); have HN4 := Lib.hid (Yc BKR.out hg (Kd.R_ne HG0.out BKR.out (by decide))); have HN5 := Lib.hid hb; clear ho hb hg hat hz0; obtain ⟨A4, c4, eo4⟩ := Kd.Za2 HN0.out; subst eo4; have hz0 : World.cell? _ ⟨go, i * 2, none⟩ = some (.slice A2 f.f0.length c2) := (Kd.H_at HN2.out (by omega) (by omega)).1 0 _ rfl; have hz1 : World.cell? _ ⟨go, i * 2 + 1, none⟩ = some (.slice A3 f.f1.length c3) := (Kd.H_at HN2.out (by omega) (by omega)).1 1 _ rfl; have hy0 : World.frozen? _ ⟨go, i * 2, none⟩ = false := (Kd.H_at HN2.out (by omega) (by omega)).2 0; have hy1 : World.frozen? _ ⟨go, i * 2 + 1, none⟩ = false := (Kd.H_at HN2.out (by omega) (by omega)).2 1)
            have HP := Kd.S_seg0 HN2.out (by omega) (by omega) (seg := [.slice A4 y1.length c4, .slice none 0 0]) (j := 0) (show 0 + 2 ≤ 2 by decide) (x' := x1) (HX.out ▸ k48a_mk (⟨y1, []⟩ : S48) HN0.out (Kd.Zbx (Kd.int .u8) 5 _ _ (fun _ => False)) (fun _ _ h => h)) (fun k_ hk => hk.elim (fun h => h.elim (fun h => .inl h.1) (fun h => .inr ⟨trivial, h⟩)) (fun h => h.elim))
            have hB3 := Yc HN3.out HP.2 (HGDN.out)
            have hB4 := Yc HN4.out HP.2 (HGRN.out)
            have hS2 := HP.1
            have hB5 := Za (j := i * 2 + 1) (v := .slice none 0 0) (Za (j := i * 2) (v := .slice A4 y1.length c4) HN5.out HGO.out) HGO.out
            clear HP
            change (((w1.setCell ⟨go, i * 2, none⟩ (.slice A4 y1.length c4)).setCell ⟨go, i * 2 + 1, none⟩ (.slice none 0 0)).heap[gd]?) = _ at hB3
            change (((w1.setCell ⟨go, i * 2, none⟩ (.slice A4 y1.length c4)).setCell ⟨go, i * 2 + 1, none⟩ (.slice none 0 0)).heap[gr]?) = _ at hB4
            change Kd.S k48a 48 ((w1.setCell ⟨go, i * 2, none⟩ (.slice A4 y1.length c4)).setCell ⟨go, i * 2 + 1, none⟩ (.slice none 0 0)) _ _ _ _ at hS2
            generalize (w1.setCell ⟨go, i * 2, none⟩ (.slice A4 y1.length c4)).setCell ⟨go, i * 2 + 1, none⟩ (.slice none 0 0) = wz at *
            go_roundw
            case rel => exact ⟨i + 1, m, t.set i x1, by go_num, by rw [List.length_set]; exact HT.out, HALL.out, by omega, hS2, hB3, hB4, hB5⟩
            case measure => simp [intOf]; omega
      · rw [Zt.neg hil] at hT
        have hq2 : ((i : Int) < (l1.length : Int)) = False := eq_false (by omega)
        have HT39 := Lib.hid hT
        clear hT
        go_wp2_with ((with_reducible refine Z7 (N := 6) rfl ?_); refine Z4 ?hg (N := 6) ?hd (cs := #[.int .i64 0, .slice none 0 0]) (t := 39) ?hr ?_; (case hd => rfl); (case hg => rfl); (case hr => first | (go_simp; done) | (go_simp; rfl)); intro g6 hg w6 hbox hb; have HG6 := Zq.mk (show w.heap.size ≤ g6 by rw [hg]; exact Zd HB.out); have hnd := (show gd ≠ g6 by rw [hg]; exact Nat.ne_of_lt (Ya BKD.out)); have hnd2 := Ne.symm hnd; have hnr := (show gr ≠ g6 by rw [hg]; exact Nat.ne_of_lt (Ya BKR.out)); have BK6 := Zq.mk hbox; have BKD6 := Zq.mk (Zf BKD.out hb); have BKR6 := Zq.mk (Zf BKR.out hb); have HB6 := Zq.mk (Zj HB.out hb); have HS6 := Zq.mk (Kd.Zct HS.out hb); (try (replace hx0 := (hb.cell (Qw _ _ hx0)).trans hx0)); (try (replace hx1 := (hb.cell (Qw _ _ hx1)).trans hx1)); clear hg hbox hb; have hcz6 := (Ze BK6.out 0).trans rfl; have hcy6 := (Ze BK6.out 1).trans rfl; have hfz6 := Zg BK6.out; have hczd := (Ze BKD6.out 0).trans rfl)
        have hT := HT39.out
        obtain ⟨AL, hAL⟩ : ∃ AL : Option Addr, AL = none := ⟨_, rfl⟩
        obtain ⟨cL, hcL0⟩ : ∃ cL : Nat, cL = 0 := ⟨_, rfl⟩
        have hS := HS6.out
        have h6 : w6.heap[g6]? = some (.cells #[.int .i64 T.f0, .slice AL T.f1.length cL] 39 (0, 0)) := by rw [hT, hAL, hcL0]; exact BK6.out
        have hd := BKD6.out
        have hr := BKR6.out
        have hB := HB6.out
        have hcL : T.f1.length ≤ cL := by rw [hT, hcL0]; exact Nat.le_refl _
        have hCL : Kd.C (Kd.int .i64) w AL T.f1.length T.f1 := by rw [hT, hAL]; exact Kd.C_nil _ _
        clear hcz6 hcy6 hfz6 hczd hAL hcL0 hT
        generalize w6 = w7 at *
        have hS1 := Kd.Zaw hS
        have h61 := Zdl h6
        have hd1 := Zdl hd
        have hr1 := Zdl hr
        have hB1 := Zdt hB
        have HGDN := Lib.hid (Kd.S_ne hS1 hd1 (by decide))
        have HGRN := Lib.hid (Kd.S_ne hS1 hr1 (by decide))
        obtain ⟨oki, cE, hcl, hM, hcc, hfr, hoki, hH⟩ := Kd.S_elem hS1 z48 (i : Int) (by omega) (by omega)
        obtain ⟨fE, v0, v1, rfl, g0, g1⟩ := Zc2 hM
        obtain ⟨A2, c2, rfl⟩ := Kd.Za2 g0
        obtain ⟨A3, c3, rfl⟩ := Kd.Za2 g1
        have hx3 : World.cell? _ ⟨go, i * 2 + 1, none⟩ = some (.slice A3 (Zo t i).f1.length c3) := hcc 1 _ rfl
        have hx6 : World.cell? _ ⟨g6, 0, none⟩ = some (.int .i64 T.f0) := (Ze h61 0).trans rfl
        obtain ⟨f, hf⟩ : ∃ f, f = Zo t (i : Int) := ⟨_, rfl⟩
        have hfe : (t.getD (i : Int).toNat z48) = f := hf.symm
        rw [← hf] at hx3 HZ HALL HLIM
        rw [hfe] at g0 g1 hH
        have hc3 := (Kd.Zah g1).2.1
        obtain ⟨n, hn⟩ : ∃ n, n = Zt.kept T.f0 f := ⟨_, rfl⟩
        rw [← hn] at HZ HALL HLIM
        have hnl : n ≤ f.f1.length := by rw [hn]; unfold Zt.kept; omega
        have hni : (if 0 < if (f.f1.length : Int) < T.f0 then (f.f1.length : Int) else T.f0 then if (f.f1.length : Int) < T.f0 then (f.f1.length : Int) else T.f0 else 0) = (n : Int) := by rw [hn]; unfold Zt.kept; omega
        have HFF := Lib.hid hf
        have HNN := Lib.hid hn
        clear hf hfe hn
        refine Zb9 (n := 15) (S := fun w' => w'.cell? ⟨go, i * 2 + 1, none⟩ = some (.slice A3 f.f1.length c3) ∧ w'.cell? ⟨g6, 0, none⟩ = some (.int .i64 T.f0)) (ds := []) #[Qf, Qf, Qf, Qf, Qf, Qf, Qf, Qf, Qf, Qf, Qf, Qf, Qf, Qf, Qf] (by kernel_rfl) rfl rfl ⟨hx3, hx6⟩ (fun hHeld => ?_)
        generalize w7.drew = w8 at *
        refine Yq (i := 0) (N := some 30) (v := ?_) (a' := ?_) #[Qt, Qf, Qf, Qf, Qf, Qf, Qf, Qf, Qf, Qf, Qf, Qf, Qf, Qf, Qf] rfl rfl (by kernel_rfl) (fun _ _ _ h => h) (Or.inl ⟨by rfl, ?_⟩) ?_ ?_
        rotate_left
        · intro w'
          go_simp
          with_reducible rfl
        rotate_left
        · simp only [Act.put, Qa, Qb, Qc, Z5, Z6]
          rfl
        refine Yq (i := 1) (N := some 31) (v := ?_) (a' := ?_) #[Qt, Qt, Qf, Qf, Qf, Qf, Qf, Qf, Qf, Qf, Qf, Qf, Qf, Qf, Qf] rfl rfl (by kernel_rfl) (fun _ _ _ h => h) (Or.inl ⟨by rfl, ?_⟩) ?_ ?_
        rotate_left
        · intro w'
          go_simp
          with_reducible rfl
        rotate_left
        · simp only [Act.put, Qa, Qb, Qc, Z5, Z6]
          rfl
        refine Yq (i := 2) (N := some 32) (v := ?_) (a' := ?_) #[Qt, Qt, Qt, Qf, Qf, Qf, Qf, Qf, Qf, Qf, Qf, Qf, Qf, Qf, Qf] rfl rfl (by kernel_rfl) (fun _ _ _ h => h) (Or.inl ⟨by rfl, ?_⟩) ?_ ?_
        rotate_left
        · intro w'
          go_simp
          with_reducible rfl
        rotate_left
        · simp only [Act.put, Qa, Qb, Qc, Z5, Z6]
          rfl
        refine Yq (i := 4) (N := some 34) (v := ?_) (a' := ?_) #[Qt, Qt, Qt, Qf, Qt, Qf, Qf, Qf, Qf, Qf, Qf, Qf, Qf, Qf, Qf] rfl rfl (by kernel_rfl) (fun _ _ _ h => h) (Or.inl ⟨by rfl, ?_⟩) ?_ ?_
        rotate_left
        · intro w'
          go_simp
          with_reducible rfl
        rotate_left
        · simp only [Act.put, Qa, Qb, Qc, Z5, Z6]
          rfl
        refine Yq (i := 6) (N := some 36) (v := ?_) (a' := ?_) #[Qt, Qt, Qt, Qf, Qt, Qf, Qt, Qf, Qf, Qf, Qf, Qf, Qf, Qf, Qf] rfl rfl (by kernel_rfl) (fun _ _ _ h => h) (Or.inl ⟨by rfl, ?_⟩) ?_ ?_
        rotate_left
        · intro w'
          go_simp
          with_reducible rfl
        rotate_left
        · simp only [Act.put, Qa, Qb, Qc, Z5, Z6]
          rfl
        refine Yq (i := 7) (N := some 37) (v := ?_) (a' := ?_) #[Qt, Qt, Qt, Qf, Qt, Qf, Qt, Qt, Qf, Qf, Qf, Qf, Qf, Qf, Qf] rfl rfl (by kernel_rfl) (fun _ _ _ h => h) (Or.inl ⟨by rfl, ?_⟩) ?_ ?_
        rotate_left
        · intro w'
          go_simp
          with_reducible rfl
        rotate_left
        · simp only [Act.put, Qa, Qb, Qc, Z5, Z6]
          rfl
        refine Yq (i := 8) (N := some 38) (v := ?_) (a' := ?_) #[Qt, Qt, Qt, Qf, Qt, Qf, Qt, Qt, Qt, Qf, Qf, Qf, Qf, Qf, Qf] rfl rfl (by kernel_rfl) (fun _ _ _ h => h) (Or.inl ⟨by rfl, ?_⟩) ?_ ?_
        rotate_left
        · intro w'
          go_simp
          with_reducible rfl
        rotate_left
        · simp only [Act.put, Qa, Qb, Qc, Z5, Z6]
          rfl
        refine Za5 (i := 3) (N := some 33) (v := ?_) (a' := ?_) #[Qt, Qt, Qt, Qt, Qt, Qf, Qt, Qt, Qt, Qf, Qf, Qf, Qf, Qf, Qf] rfl rfl (by kernel_rfl) (fun _ _ _ h => h) (Or.inl ⟨by rfl, ?_⟩) hHeld ?_ ?_
        rotate_left
        · rintro w' ⟨s0, s1⟩
          go_simp
          with_reducible rfl
        rotate_left
        · simp only [Act.put, Qa, Qb, Qc, Z5, Z6]
          rfl
        refine Za5 (i := 5) (N := some 35) (v := ?_) (a' := ?_) #[Qt, Qt, Qt, Qt, Qt, Qt, Qt, Qt, Qt, Qf, Qf, Qf, Qf, Qf, Qf] rfl rfl (by kernel_rfl) (fun _ _ _ h => h) (Or.inl ⟨by rfl, ?_⟩) hHeld ?_ ?_
        rotate_left
        · rintro w' ⟨s0, s1⟩
          go_simp
          with_reducible rfl
        rotate_left
        · simp only [Act.put, Qa, Qb, Qc, Z5, Z6]
          rfl
        refine Za5 (i := 9) (N := some 39) (v := ?_) (a' := ?_) #[Qt, Qt, Qt, Qt, Qt, Qt, Qt, Qt, Qt, Qt, Qf, Qf, Qf, Qf, Qf] rfl rfl (by kernel_rfl) (fun _ _ _ h => h) (Or.inl ⟨by rfl, ?_⟩) hHeld ?_ ?_
        rotate_left
        · rintro w' ⟨s0, s1⟩
          go_simp
          with_reducible rfl
        rotate_left
        · simp only [Act.put, Qa, Qb, Qc, Z5, Z6]
          rfl
        refine Yq (i := 10) (N := some 40) (v := ?_) (a' := ?_) #[Qt, Qt, Qt, Qt, Qt, Qt, Qt, Qt, Qt, Qt, Qt, Qf, Qf, Qf, Qf] rfl rfl (by kernel_rfl) (fun _ _ _ h => h) (Or.inl ⟨by rfl, ?_⟩) ?_ ?_
        rotate_left
        · intro w'
          go_simp
          with_reducible rfl
        rotate_left
        · simp only [Act.put, Qa, Qb, Qc, Z5, Z6]
          rfl
        refine Yq (i := 11) (N := some 41) (v := ?_) (a' := ?_) #[Qt, Qt, Qt, Qt, Qt, Qt, Qt, Qt, Qt, Qt, Qt, Qt, Qf, Qf, Qf] rfl rfl (by kernel_rfl) (fun _ _ _ h => h) (Or.inl ⟨by rfl, ?_⟩) ?_ ?_
        rotate_left
        · intro w'
          go_simp
          with_reducible rfl
        rotate_left
        · simp only [Act.put, Qa, Qb, Qc, Z5, Z6]
          rfl
        refine Yq (i := 12) (N := some 42) (v := ?_) (a' := ?_) #[Qt, Qt, Qt, Qt, Qt, Qt, Qt, Qt, Qt, Qt, Qt, Qt, Qt, Qf, Qf] rfl rfl (by kernel_rfl) (fun _ _ _ h => h) (Or.inl ⟨by rfl, ?_⟩) ?_ ?_
        rotate_left
        · intro w'
          go_simp
          with_reducible rfl
        rotate_left
        · simp only [Act.put, Qa, Qb, Qc, Z5, Z6]
          rfl
        have hnc : n ≤ c3 := by omega
        refine Yq (i := 13) (N := some 43) (v := ?_) (a' := ?_) #[Qt, Qt, Qt, Qt, Qt, Qt, Qt, Qt, Qt, Qt, Qt, Qt, Qt, Qt, Qf] rfl rfl (by kernel_rfl) (fun _ _ _ h => h) (Or.inl ⟨by rfl, ?_⟩) ?_ ?_
        rotate_left
        · intro w'
          go_simp
          with_reducible rfl
        rotate_left
        · simp only [Act.put, Qa, Qb, Qc, Z5, Z6]
          rfl
        refine Yq (i := 14) (N := some 8) (v := ?_) (a' := ?_) #[Qt, Qt, Qt, Qt, Qt, Qt, Qt, Qt, Qt, Qt, Qt, Qt, Qt, Qt, Qt] rfl rfl (by kernel_rfl) (fun _ _ _ h => h) (Or.inl ⟨by rfl, ?_⟩) ?_ ?_
        rotate_left
        · intro w'
          go_simp
          with_reducible rfl
        rotate_left
        · simp only [Act.put, Qa, Qb, Qc, Z5, Z6]
          rfl
        refine Zcv (by kernel_rfl) ?_
        clear hHeld hx3 hx6 hni hcc hfr
        have h9 := Lib.hid (And.intro g1 (And.intro g0 (And.intro hH (And.intro h61 (And.intro hd1 (And.intro hr1 hB1))))))
        clear g1 g0 hH h61 hd1 hr1 hB1 hS1 hS h6 hd hr hB hM hoki
        generalize (if (f.f1.length : Int) < T.f0 then (f.f1.length : Int) else T.f0) = mk_
        go_wp2
        go_loopw [9] (fun u9 W => ∃ (a q : Nat) (ys : List Int), u9 = .int .i64 a ∧ ys.length = f.f1.length ∧ Zt.zap k T.f1 n q ys a = some xs ∧ a ≤ n + 16 ∧ Kd.R (Kd.int .u8) 5 W w.heap.size (fun k_ => oki k_ ∧ fE k_ = false) (.slice A3 f.f1.length c3) ys ∧ Kd.R (Kd.int .u8) 5 W w.heap.size (fun k_ => oki k_ ∧ fE k_ = true) (.slice A2 f.f0.length c2) f.f0 ∧ Kd.H k48a 48 W w.heap.size (fun _ => True) (.slice (some ⟨go, 0, none⟩) t0.length co) t (i : Int) oki [.slice A2 f.f0.length c2, .slice A3 f.f1.length c3] ∧ W.heap[g6]? = some (.cells #[.int .i64 T.f0, .slice AL T.f1.length cL] 39 (0, 0)) ∧ W.heap[gd]? = some (.cells #[.slice (some ⟨go, 0, none⟩) t0.length co] 24 (0, 0)) ∧ W.heap[gr]? = some (.cells #[.slice none 0 0] 24 (0, 0)) ∧ Below w.heap.size w W) (fun u9 _ => n + 16 - (intOf u9).toNat)
        case atStart => exact ⟨0, k, f.f1, rfl, rfl, HZ.out, Nat.zero_le _, h9.out.1, h9.out.2.1, h9.out.2.2.1, h9.out.2.2.2.1, h9.out.2.2.2.2.1, h9.out.2.2.2.2.2.1, h9.out.2.2.2.2.2.2⟩
        case round =>
          clear h9 HZ w8
          obtain ⟨a, q, ys, rfl, hyl, hz, hal, hg1, hg0, hh, hb6, hbd, hbr, hb⟩ := hrel
          have HG1 := Lib.hid hg1
          have HG0 := Lib.hid hg0
          have HH := Lib.hid hh
          have BK6 := Lib.hid hb6
          have BKD := Lib.hid hbd
          have BKR := Lib.hid hbr
          have HB := Lib.hid hb
          have HYL := Lib.hid hyl
          clear hg1 hg0 hh hb6 hbd hbr hb hyl
          rcases q with _ | q
          · cases hz
          rw [Zt.zap] at hz
          by_cases han : a < n
          · rw [if_pos han] at hz
            obtain ⟨b, hcn, hz⟩ := Option.bind_eq_some_iff.1 hz
            have HZ := Lib.hid hz
            have HCN := Lib.hid hcn
            clear hz hcn
            have hczL := (Ze BK6.out 1).trans rfl
            have hn47 : n < 140737488355328 := Nat.lt_of_le_of_lt (Nat.le_add_left _ _) HLIM.out
            have hab0 : (0 : Int) ≤ (a : Int) := Int.natCast_nonneg a
            have hab1 : (a : Int) ≤ 140737488355327 := by omega
            obtain ⟨e1, he1⟩ : ∃ e1, e1 = min (a + 16) n := ⟨_, rfl⟩
            have he2 : a < e1 := he1 ▸ Nat.lt_min.2 ⟨Nat.lt_add_of_pos_right (by decide), han⟩
            have he3 : e1 ≤ n := he1 ▸ Nat.min_le_right _ _
            have hmin : (if (n : Int) < (a : Int) + 16 then (n : Int) else (a : Int) + 16) = (e1 : Int) := he1 ▸ Zt.mn_cast n a
            have HE1 := Lib.hid he1
            clear he1
            rcases b with _ | _
            · go_wp2_with (go_at_call 25; (refine (Yz.calls k AL cL T.f1 _ false _ (Kd.Yv hCL HB.out) hcL HCN.out).mono ?_); rintro e wt ⟨rfl, hdr⟩; obtain ⟨nd, rfl⟩ := hdr.out; clear hdr)
              go_roundw
              case rel => exact ⟨a + 16, q, ys, rfl, HYL.out, HZ.out, by omega, Kd.Yu HG1.out _, Kd.Yu HG0.out _, Kd.H_drewN HH.out _, Zbf BK6.out _, Zbf BKD.out _, Zbf BKR.out _, Zas HB.out _⟩
              case measure => simp [intOf]; omega
            · obtain ⟨gp, cp, eA, hgp, hgl, hGP⟩ := Kd.Zfo HG1.out (by have := HYL.out; omega)
              rw [HYL.out] at eA
              cases eA
              clear hgl hGP
              have hclr : ∀ nd ty, (Builtin.clear_ #[30] ty #[.slice (some ⟨gp, a, none⟩) (e1 - a) (c3 - a)]).run Try.prog (wr.drewN nd) = .ok (.tuple #[]) ((wr.drewN nd).setCells gp a (List.replicate (e1 - a) (.int .u8 0))) :=
                fun nd ty => Lib.run_clear_slice _ 30 5 ty (.int .u8 0) Try.underlying30 (fun w => by kernel_rfl) rfl rfl gp a _ _ (by omega) (fun j hj => by have h_ := (Kd.Zdv 0 (Kd.Yu HG1.out nd) ((a + j : Nat) : Int) (by omega) (by omega)).1; rw [Int.toNat_natCast] at h_; rw [h_]; rfl) (fun j hj => by have h_ := (Kd.Zdv 0 (Kd.Yu HG1.out nd) ((a + j : Nat) : Int) (by omega) (by omega)).2; rw [Int.toNat_natCast] at h_; exact h_)
              have HGP := Lib.hid hgp
              clear hgp
              go_wp2_with (first | (go_at_call 25; (refine (Yz.calls k AL cL T.f1 _ true _ (Kd.Yv hCL HB.out) hcL HCN.out).mono ?_); rintro e wt ⟨rfl, hdr⟩; obtain ⟨nd, rfl⟩ := hdr.out; clear hdr) | (simp only [hclr]))
              have hr := Zt.R_clr (e1 - a) a (Kd.Yu HG1.out nd) (by have := HYL.out; omega)
              have hB := Zdo (Zas HB.out nd) (some gp) (Zas HB.out nd).size hr.2 (fun k_ e_ => by cases e_; exact HGP.out)
              have h0 := Kd.R_grown (Kd.Yu HG0.out nd) hr.2 (fun k_ hk_ e_ => by cases e_; have h1_ := (HG1.out.1 gp rfl).2; rw [hk_.2] at h1_; exact absurd h1_ (by decide))
              have hH := Kd.Zeh (Kd.H_drewN HH.out nd) hr.2 (fun k_ e_ => by cases e_; exact (HG1.out.1 gp rfl).1)
              have h6 := Yc (Zbf BK6.out nd) hr.2 (Kd.R_ne (Kd.Yu HG1.out nd) (Zbf BK6.out nd) (by decide))
              have hd := Yc (Zbf BKD.out nd) hr.2 (Kd.R_ne (Kd.Yu HG1.out nd) (Zbf BKD.out nd) (by decide))
              have hrr := Yc (Zbf BKR.out nd) hr.2 (Kd.R_ne (Kd.Yu HG1.out nd) (Zbf BKR.out nd) (by decide))
              have hr1 := hr.1
              clear hr hclr
              generalize (wr.drewN nd).setCells gp a (List.replicate (e1 - a) (.int .u8 0)) = w9 at *
              go_roundw
              case rel => exact ⟨a + 16, q, Zt.clr ys a (e1 - a), rfl, by rw [Zt.Zee]; exact HYL.out, HE1.out ▸ HZ.out, by omega, hr1, h0, hH, h6, hd, hrr, hB⟩
              case measure => simp [intOf]; omega
          · rw [if_neg han] at hz
            obtain rfl := Option.some.inj hz
            clear hz
            obtain ⟨y1, hy1⟩ : ∃ y_ : List Int, y_ = f.f0 ++ ys.take n := ⟨_, rfl⟩
            have hfe := HFF.out
            obtain ⟨x1, hx1_⟩ : ∃ x_ : S48, x_ = ⟨y1, []⟩ := ⟨_, rfl⟩
            have HX := Lib.hid hx1_
            have HY := Lib.hid hy1
            rw [← hy1, ← hx1_] at HALL
            clear hy1 hx1_ hfe
            obtain ⟨_, hfr0⟩ := Kd.H_at HH.out (by omega) (by omega)
            have hcc0 := (Kd.H_at HH.out (by omega) (by omega)).1
            have hz0 : World.cell? _ ⟨go, i * 2, none⟩ = some (.slice A2 f.f0.length c2) := hcc0 0 _ rfl
            clear hcc0 hfr0
            go_wp2_with ((with_reducible refine Zbt (b := .append) (xs := #[(.tmp 68), .tmp 69]) rfl ?_); at_builtin; refine Kd.Zbp (Kd.int .u8) (w0 := w) w.heap.size rfl (.tmp 68) (.tmp 69) 30 5 (.int .u8 0) 1 rfl Try.underlying30 info5 rfl (by decide) (by omega) (.slice A2 f.f0.length c2) f.f0 (ys.take n) _ _ _ (fun k_ => (oki k_ ∧ fE k_ = true) ∨ wr.heap.size ≤ k_) (fun _ => False) rfl rfl ?aO ?aR (fun _ _ h => h) (fun _ h => h.elim) ?aF ?aB ?aS ?aL ?_; (case aR => exact Zt.C_taken (Kd.Zah HG1.out).2.2 (by have := HYL.out; omega)); (case aB => exact HB.out); (case aF => exact (fun _ h => .inr h)); (case aO => exact Kd.Zar HG0.out (fun _ h => .inl h)); (case aS => exact (Zd HB.out)); (case aL => have := HLIM.out; omega); intro v1 w1 ho hb hg hat; rw [← HY.out] at ho; have HN0 := Lib.hid ho; have HN2 := Lib.hid (Kd.Zeh (Kd.H_widen HH.out) hg (fun k_ he => .inl (HG0.out.1 k_ he).1)); have HN3 := Lib.hid (Yc BKD.out hg (Kd.R_ne HG0.out BKD.out (by decide))); have HN4 := Lib.hid (Yc BKR.out hg (Kd.R_ne HG0.out BKR.out (by decide))); have HN5 := Lib.hid hb; clear ho hb hg hat hz0; obtain ⟨A4, c4, eo4⟩ := Kd.Za2 HN0.out; subst eo4; have hz0 : World.cell? _ ⟨go, i * 2, none⟩ = some (.slice A2 f.f0.length c2) := (Kd.H_at HN2.out (by omega) (by omega)).1 0 _ rfl; have hz1 : World.cell? _ ⟨go, i * 2 + 1, none⟩ = some (.slice A3 f.f1.length c3) := (Kd.H_at HN2.out (by omega) (by omega)).1 1 _ rfl; have hy0 : World.frozen? _ ⟨go, i * 2, none⟩ = false := (Kd.H_at HN2.out (by omega) (by omega)).2 0; have hy1 : World.frozen? _ ⟨go, i * 2 + 1, none⟩ = false := (Kd.H_at HN2.out (by omega) (by omega)).2 1)
            have HP := Kd.S_seg0 HN2.out (by omega) (by omega) (seg := [.slice A4 y1.length c4, .slice none 0 0]) (j := 0) (show 0 + 2 ≤ 2 by decide) (x' := x1) (HX.out ▸ k48a_mk (⟨y1, []⟩ : S48) HN0.out (Kd.Zbx (Kd.int .u8) 5 _ _ (fun _ => False)) (fun _ _ h => h)) (fun k_ hk => hk.elim (fun h => h.elim (fun h => .inl h.1) (fun h => .inr ⟨trivial, h⟩)) (fun h => h.elim))
            have hB3 := Yc HN3.out HP.2 (HGDN.out)
            have hB4 := Yc HN4.out HP.2 (HGRN.out)
            have hS2 := HP.1
            have hB5 := Za (j := i * 2 + 1) (v := .slice none 0 0) (Za (j := i * 2) (v := .slice A4 y1.length c4) HN5.out HGO.out) HGO.out
            clear HP
            change (((w1.setCell ⟨go, i * 2, none⟩ (.slice A4 y1.length c4)).setCell ⟨go, i * 2 + 1, none⟩ (.slice none 0 0)).heap[gd]?) = _ at hB3
            change (((w1.setCell ⟨go, i * 2, none⟩ (.slice A4 y1.length c4)).setCell ⟨go, i * 2 + 1, none⟩ (.slice none 0 0)).heap[gr]?) = _ at hB4
            change Kd.S k48a 48 ((w1.setCell ⟨go, i * 2, none⟩ (.slice A4 y1.length c4)).setCell ⟨go, i * 2 + 1, none⟩ (.slice none 0 0)) _ _ _ _ at hS2
            generalize (w1.setCell ⟨go, i * 2, none⟩ (.slice A4 y1.length c4)).setCell ⟨go, i * 2 + 1, none⟩ (.slice none 0 0) = wz at *
            go_roundw
            case rel => exact ⟨i + 1, m, t.set i x1, by go_num, by rw [List.length_set]; exact HT.out, HALL.out, by omega, hS2, hB3, hB4, hB5⟩
            case measure => simp [intOf]; omega
    · rw [if_neg (by omega)] at hall
      obtain rfl := Option.some.inj hall
      clear hall hi
      have hn1 : ¬ ((i : Int) < (t0.length : Int)) := by omega
      have HT := Lib.hid ht
      clear ht
      have hcz1 := (Ze BKD.out 0).trans rfl
      have hcz2 := (Ze BKR.out 0).trans rfl
      have hfz2 := Zg BKR.out 0
      go_wp2
      refine bodyPost_ret (results_cell_row rfl _ _ gr 24 #[.slice Ao t0.length co] (0, 0) _ rfl (Yo (cs := #[.slice none 0 0]) BKR.out 0 _ rfl) Try.underlying24 rfl (by kernel_rfl)) rfl ?_
      exact ⟨_, rfl, k48a_S (Kd.S_set HS.out BKR.out (by decide) 0 _), Za HB.out HGR.out⟩

end Go.Proofs.Ytnfbjdnflifcoaa.PDk

namespace Go.Proofs.Ytnfbjdnflifcoaa.PDk
open Go.RowKit Go.Proofs.YtnfbjdnflifcoaaW.PrintWords Go.Proofs.YtnfbjdnflifcoaaW.PrintLast Go.Proofs.YtnfbjdnflifcoaaW.PrintMore
attribute [local go_sem] Za0 Zay Zbe Zbd Zan Zam Zaz Zax
set_option linter.unusedVariables false
set_option linter.unusedSimpArgs false

/-- Element i with bytes added to its second row. -/
def Y2.tail (t : List S48) (i : Int) (b : List Int) : Option (List S48 × Int) :=
  if 0 ≤ i then if i < (t.length : Int) then if (Zo t i).f1.length + b.length < 140737488355328 then some (t.set i.toNat ⟨(Zo t i).f0, (Zo t i).f1 ++ b⟩, 0) else none else none else none

def Y2.f (k : Nat) (l0_0 : List (S48)) (a1 : Int) (l2 : List Int) : Option ((List (S48)) × Int) := (Za1.f l0_0 a1).bind fun t124 => (if t124 = true then (if 0 ≤ a1 then (if a1 < (l0_0.length : Int) then (if (wrap64 ((wrap64 ((((Zo l0_0 a1).f0).length : Int) + (((Zo l0_0 a1).f1).length : Int))) + (l2.length : Int))) > 65536 then (some (([] : List (S48)), 5)) else ((Ye.f k l0_0).bind fun t127 => (if a1 < (t127.length : Int) then (Y2.tail t127 a1 l2) else (none)))) else (none)) else (none)) else (some (([] : List (S48)), 11)))
theorem Y2.mono : ∀ a0 a1 a2 k, LeO (Y2.f k a0 a1 a2) (Y2.f (k + 1) a0 a1 a2) := by
 intro a0 a1 a2 k
 unfold Y2.f
 repeat' first
   | (with_reducible exact Ye.mono _ _)
   | (with_reducible exact LeO.refl _)
   | (with_reducible exact LeO.none _)
   | (with_reducible refine LeO.ite ?_ ?_)
   | (with_reducible refine LeO.bind ?_ (fun _ => ?_))
   | exact Ye.mono _ _
   | exact LeO.none _
   | refine LeO.ite ?_ ?_
   | refine LeO.bind ?_ (fun _ => ?_)
set_option maxHeartbeats 8000000 in
set_option maxRecDepth 100000 in
theorem Y2.calls (k : Nat) (A0_0 : Option Addr) (c0_0 : Nat) (l0_0 : List (S48)) (a1 : Int) (A2 : Option Addr) (c2 : Nat) (l2 : List Int) (r1 : List (S48)) (r2 : Int) (w : World) (hr0_0 : Kd.C k48 w A0_0 l0_0.length l0_0) (hc0_0 : l0_0.length ≤ c0_0) (hr2 : Kd.C (Kd.int .u8) w A2 l2.length l2) (hc2 : l2.length ≤ c2) (h : Y2.f k l0_0 a1 l2 = some (r1, r2)) :
  Calls Try.prog 14 #[.agg #[.slice A0_0 l0_0.length c0_0], .int .i64 a1, .slice A2 l2.length c2] w fun e w' => ∃ v0_ : Value, e = .returned (.tuple #[.agg #[v0_], .int .i64 r2]) ∧ Kd.S k48 48 w' w.heap.size (fun _ => True) v0_ r1 ∧ Below w.heap.size w w' := by
 have hu24 := Try.underlying24
 have HR0_0 := aM hr0_0
 have HC0_0 := aM hc0_0
 clear hr0_0 hc0_0
 have HR2 := aM hr2
 have HC2 := aM hc2
 clear hr2 hc2
 have HB := aM (Below.refl w.heap.size w)
 have H : ((Za1.f l0_0 a1).bind fun t124 => (if t124 = true then (if 0 ≤ a1 then (if a1 < (l0_0.length : Int) then (if (wrap64 ((wrap64 ((((Zo l0_0 a1).f0).length : Int) + (((Zo l0_0 a1).f1).length : Int))) + (l2.length : Int))) > 65536 then (some (([] : List (S48)), 5)) else ((Ye.f k l0_0).bind fun t127 => (if a1 < (t127.length : Int) then (Y2.tail t127 a1 l2) else (none)))) else (none)) else (none)) else (some (([] : List (S48)), 11)))) = some (r1, r2) := h
 clear h
 replace H := Option.bind_eq_some_iff.mp H
 obtain ⟨t124, A40, H⟩ := H
 replace H : (if t124 = true then (if 0 ≤ a1 then (if a1 < (l0_0.length : Int) then (if (wrap64 ((wrap64 ((((Zo l0_0 a1).f0).length : Int) + (((Zo l0_0 a1).f1).length : Int))) + (l2.length : Int))) > 65536 then (some (([] : List (S48)), 5)) else ((Ye.f k l0_0).bind fun t127 => (if a1 < (t127.length : Int) then (Y2.tail t127 a1 l2) else (none)))) else (none)) else (none)) else (some (([] : List (S48)), 11))) = some (r1, r2) := H
 have A4 := aM A40
 clear A40
 by_cases c5 : t124 = true
 ·subst c5
  have H1 : (if 0 ≤ a1 then (if a1 < (l0_0.length : Int) then (if (wrap64 ((wrap64 ((((Zo l0_0 a1).f0).length : Int) + (((Zo l0_0 a1).f1).length : Int))) + (l2.length : Int))) > 65536 then (some (([] : List (S48)), 5)) else ((Ye.f k l0_0).bind fun t127 => (if a1 < (t127.length : Int) then (Y2.tail t127 a1 l2) else (none)))) else (none)) else (none)) = some (r1, r2) := by rw [if_pos rfl] at H; exact H
  clear H
  have H := H1
  clear H1
  by_cases c6 : 0 ≤ a1
  ·rw [if_pos c6] at H
   have c6b0 : decide (0 ≤ a1) = true := decide_eq_true c6
   clear c6
   by_cases c7 : a1 < (l0_0.length : Int)
   ·rw [if_pos c7] at H
    have c7b0 : decide (a1 < (l0_0.length : Int)) = true := decide_eq_true c7
    clear c7
    by_cases c8 : (wrap64 ((wrap64 ((((Zo l0_0 a1).f0).length : Int) + (((Zo l0_0 a1).f1).length : Int))) + (l2.length : Int))) > 65536
    ·rw [if_pos c8] at H
     have c8b0 : decide (65536 < (wrap64 ((wrap64 ((((Zo l0_0 a1).f0).length : Int) + (((Zo l0_0 a1).f1).length : Int))) + (l2.length : Int)))) = true := decide_eq_true c8
     clear c8
     simp only [Option.some.injEq, Prod.mk.injEq] at H
     obtain ⟨rfl, rfl⟩ := H
     go_enter Try.func14, Try.ntmps14
     go_wp2_with (first | ((with_reducible refine Z7 (N := 3) rfl ?_); refine Z4 ?hg (N := 3) ?hd (cs := #[.slice A0_0 l0_0.length c0_0]) (t := 24) ?hr ?_; (case hd => rfl); (case hg => rfl); (case hr => first | (go_simp; done) | (go_simp; rfl)); intro gb122 hg w9 hbox hb; have n0_ := aM (Zj (by repeat (first | (with_reducible first | exact HB.out | apply wA | apply wN | apply wD) | exact HB.out)) hb); have n1_ := aM (hbox); have n2_ := aM ((by rw [hg]; exact (Zd (by repeat (first | (with_reducible first | exact HB.out | apply wA | apply wN | apply wD) | exact HB.out))) : w.heap.size ≤ gb122)); have n3_ := aM ((by rw [hg]; exact (Zd (by repeat (first | (with_reducible first | exact HB.out | apply wA | apply wN | apply wD) | exact HB.out))) : w.heap.size ≤ gb122)); clear HB; have HB := n0_; have BK122 := n1_; have GW122 := n2_; have GE122 := n3_; clear n0_ n1_ n2_ n3_; clear hb hbox hg) | ((with_reducible refine Z7 (N := 6) rfl ?_); refine Z4 ?hg (N := 6) ?hd (cs := #[.slice none 0 0]) (t := 24) ?hr ?_; (case hd => rfl); (case hg => rfl); (case hr => first | (go_simp; done) | (go_simp; rfl)); intro gb123 hg w10 hbox hb; have n0_ := aM (Zf (g := gb122) (o := .cells #[.slice A0_0 l0_0.length c0_0] 24 (0, 0)) (by (with_reducible repeat first | apply bN | apply bD | apply bA); exact BK122.out) hb); have n1_ := aM (Zj (by repeat (first | (with_reducible first | exact HB.out | apply wA | apply wN | apply wD | refine Za ?_ GE122.out) | exact HB.out)) hb); have n2_ := aM (hbox); have n3_ := aM ((by rw [hg]; exact (Zd (by repeat (first | (with_reducible first | exact HB.out | apply wA | apply wN | apply wD | refine Za ?_ GE122.out) | exact HB.out))) : w.heap.size ≤ gb123)); have n4_ := aM ((by rw [hg]; exact (Zd (by repeat (first | (with_reducible first | exact HB.out | apply wA | apply wN | apply wD | refine Za ?_ GE122.out) | exact HB.out))) : w.heap.size ≤ gb123)); have n5_ := aM ((by rw [hg]; exact Nat.ne_of_lt (Ya (g := gb122) (o := .cells #[.slice A0_0 l0_0.length c0_0] 24 (0, 0)) (by (with_reducible repeat first | apply bN | apply bD | apply bA); exact BK122.out)) : gb122 ≠ gb123)); have n6_ := aM ((by rw [hg]; exact Nat.ne_of_gt (Ya (g := gb122) (o := .cells #[.slice A0_0 l0_0.length c0_0] 24 (0, 0)) (by (with_reducible repeat first | apply bN | apply bD | apply bA); exact BK122.out)) : gb123 ≠ gb122)); clear BK122 HB; have BK122 := n0_; have HB := n1_; have BK123 := n2_; have GW123 := n3_; have GE123 := n4_; have NB122_123 := n5_; have NB123_122 := n6_; clear n0_ n1_ n2_ n3_ n4_ n5_ n6_; clear hb hbox hg; have hnb11 := NB122_123.out; have hnc11 := NB123_122.out; have hcz12_0 : w10.cell? ⟨gb122, 0, none⟩ = some (.slice A0_0 l0_0.length c0_0) := (Ze BK122.out 0).trans rfl; have hfz12_0 := Zg BK122.out 0) | (go_at_call 27; (with_reducible refine (Za1.calls _ _ l0_0 a1 true _ ?side1 ?side2 A4.out).mono ?_); (case side1 => repeat (first | exact (Kd.Yv HR0_0.out HB.out) | (with_reducible refine Kd.Yh ?_ _) | (with_reducible refine Kd.Yg ?_ _) | (with_reducible refine Kd.Yw ?_))); (case side2 => exact HC0_0.out); rintro e w13 ⟨rfl, hb⟩; have n0_ := aM (Zf (g := gb122) (o := .cells #[.slice A0_0 l0_0.length c0_0] 24 (0, 0)) (by (with_reducible repeat first | apply bN | apply bD | apply bA); exact BK122.out) hb); have n1_ := aM (Zf (g := gb123) (o := .cells #[.slice none 0 0] 24 (0, 0)) (by (with_reducible repeat first | apply bN | apply bD | apply bA); exact BK123.out) hb); have n2_ := aM (Zj (by repeat (first | (with_reducible first | exact HB.out | apply wA | apply wN | apply wD | refine Za ?_ GE122.out | refine Za ?_ GE123.out) | exact HB.out)) hb); clear BK122 BK123 HB; have BK122 := n0_; have BK123 := n1_; have HB := n2_; clear n0_ n1_ n2_; (try clear hb); (try clear hb2); (try clear hk); (try clear hi); (try clear hge_); have hcz14_0 : w13.cell? ⟨gb122, 0, none⟩ = some (.slice A0_0 l0_0.length c0_0) := (Ze BK122.out 0).trans rfl; have hfz14_0 := Zg BK122.out 0; have p125 : 0 ≤ (a1 : Int) := of_decide_eq_true (by first | (with_reducible assumption) | assumption); have q125 : a1 < (l0_0.length : Int) := of_decide_eq_true (by first | (with_reducible assumption) | assumption); obtain ⟨ad125, A125_0, c125_0, A125_1, c125_1, e125, hx125_0, hx125_1, hl125_0, hi125_0, hl125_1, hi125_1⟩ := Zbl HR0_0.out a1 p125 q125; cases e125; replace hx125_0 := (HB.out.cell (Qw w _ hx125_0)).trans hx125_0; replace hx125_1 := (HB.out.cell (Qw w _ hx125_1)).trans hx125_1; have HR125_0 := aM hi125_0; have HC125_0 := aM hl125_0; clear hi125_0 hl125_0; have HR125_1 := aM hi125_1; have HC125_1 := aM hl125_1; clear hi125_1 hl125_1; replace p125 := eq_true p125; replace q125 := eq_true q125; have p126 : 0 ≤ (a1 : Int) := of_decide_eq_true (by first | (with_reducible assumption) | assumption); have q126 : a1 < (l0_0.length : Int) := of_decide_eq_true (by first | (with_reducible assumption) | assumption); obtain ⟨ad126, A126_0, c126_0, A126_1, c126_1, e126, hx126_0, hx126_1, hl126_0, hi126_0, hl126_1, hi126_1⟩ := Zbl HR0_0.out a1 p126 q126; obtain rfl : ad125 = ad126 := (by injection e126); replace hx126_0 := (HB.out.cell (Qw w _ hx126_0)).trans hx126_0; replace hx126_1 := (HB.out.cell (Qw w _ hx126_1)).trans hx126_1; have HR126_0 := aM hi126_0; have HC126_0 := aM hl126_0; clear hi126_0 hl126_0; have HR126_1 := aM hi126_1; have HC126_1 := aM hl126_1; clear hi126_1 hl126_1; replace p126 := eq_true p126; replace q126 := eq_true q126; have ea_ := Option.some.inj (hx125_0.symm.trans hx126_0); injection ea_ with ea_ en_ ec_; subst ea_; subst ec_; clear en_; have ea_ := Option.some.inj (hx125_1.symm.trans hx126_1); injection ea_ with ea_ en_ ec_; subst ea_; subst ec_; clear en_; have hcz15_0 : w13.cell? ⟨gb123, 0, none⟩ = some (.slice none 0 0) := (Ze BK123.out 0).trans rfl; have hfz15_0 := Zg BK123.out 0))
     repeat (go_quiet (first | ((with_reducible refine Z7 (N := 3) rfl ?_); refine Z4 ?hg (N := 3) ?hd (cs := #[.slice A0_0 l0_0.length c0_0]) (t := 24) ?hr ?_; (case hd => rfl); (case hg => rfl); (case hr => first | (go_simp; done) | (go_simp; rfl)); intro gb122 hg w9 hbox hb; have n0_ := aM (Zj (by repeat (first | (with_reducible first | exact HB.out | apply wA | apply wN | apply wD) | exact HB.out)) hb); have n1_ := aM (hbox); have n2_ := aM ((by rw [hg]; exact (Zd (by repeat (first | (with_reducible first | exact HB.out | apply wA | apply wN | apply wD) | exact HB.out))) : w.heap.size ≤ gb122)); have n3_ := aM ((by rw [hg]; exact (Zd (by repeat (first | (with_reducible first | exact HB.out | apply wA | apply wN | apply wD) | exact HB.out))) : w.heap.size ≤ gb122)); clear HB; have HB := n0_; have BK122 := n1_; have GW122 := n2_; have GE122 := n3_; clear n0_ n1_ n2_ n3_; clear hb hbox hg) | ((with_reducible refine Z7 (N := 6) rfl ?_); refine Z4 ?hg (N := 6) ?hd (cs := #[.slice none 0 0]) (t := 24) ?hr ?_; (case hd => rfl); (case hg => rfl); (case hr => first | (go_simp; done) | (go_simp; rfl)); intro gb123 hg w10 hbox hb; have n0_ := aM (Zf (g := gb122) (o := .cells #[.slice A0_0 l0_0.length c0_0] 24 (0, 0)) (by (with_reducible repeat first | apply bN | apply bD | apply bA); exact BK122.out) hb); have n1_ := aM (Zj (by repeat (first | (with_reducible first | exact HB.out | apply wA | apply wN | apply wD | refine Za ?_ GE122.out) | exact HB.out)) hb); have n2_ := aM (hbox); have n3_ := aM ((by rw [hg]; exact (Zd (by repeat (first | (with_reducible first | exact HB.out | apply wA | apply wN | apply wD | refine Za ?_ GE122.out) | exact HB.out))) : w.heap.size ≤ gb123)); have n4_ := aM ((by rw [hg]; exact (Zd (by repeat (first | (with_reducible first | exact HB.out | apply wA | apply wN | apply wD | refine Za ?_ GE122.out) | exact HB.out))) : w.heap.size ≤ gb123)); have n5_ := aM ((by rw [hg]; exact Nat.ne_of_lt (Ya (g := gb122) (o := .cells #[.slice A0_0 l0_0.length c0_0] 24 (0, 0)) (by (with_reducible repeat first | apply bN | apply bD | apply bA); exact BK122.out)) : gb122 ≠ gb123)); have n6_ := aM ((by rw [hg]; exact Nat.ne_of_gt (Ya (g := gb122) (o := .cells #[.slice A0_0 l0_0.length c0_0] 24 (0, 0)) (by (with_reducible repeat first | apply bN | apply bD | apply bA); exact BK122.out)) : gb123 ≠ gb122)); clear BK122 HB; have BK122 := n0_; have HB := n1_; have BK123 := n2_; have GW123 := n3_; have GE123 := n4_; have NB122_123 := n5_; have NB123_122 := n6_; clear n0_ n1_ n2_ n3_ n4_ n5_ n6_; clear hb hbox hg; have hnb11 := NB122_123.out; have hnc11 := NB123_122.out; have hcz12_0 : w10.cell? ⟨gb122, 0, none⟩ = some (.slice A0_0 l0_0.length c0_0) := (Ze BK122.out 0).trans rfl; have hfz12_0 := Zg BK122.out 0) | (go_at_call 27; (with_reducible refine (Za1.calls _ _ l0_0 a1 true _ ?side1 ?side2 A4.out).mono ?_); (case side1 => repeat (first | exact (Kd.Yv HR0_0.out HB.out) | (with_reducible refine Kd.Yh ?_ _) | (with_reducible refine Kd.Yg ?_ _) | (with_reducible refine Kd.Yw ?_))); (case side2 => exact HC0_0.out); rintro e w13 ⟨rfl, hb⟩; have n0_ := aM (Zf (g := gb122) (o := .cells #[.slice A0_0 l0_0.length c0_0] 24 (0, 0)) (by (with_reducible repeat first | apply bN | apply bD | apply bA); exact BK122.out) hb); have n1_ := aM (Zf (g := gb123) (o := .cells #[.slice none 0 0] 24 (0, 0)) (by (with_reducible repeat first | apply bN | apply bD | apply bA); exact BK123.out) hb); have n2_ := aM (Zj (by repeat (first | (with_reducible first | exact HB.out | apply wA | apply wN | apply wD | refine Za ?_ GE122.out | refine Za ?_ GE123.out) | exact HB.out)) hb); clear BK122 BK123 HB; have BK122 := n0_; have BK123 := n1_; have HB := n2_; clear n0_ n1_ n2_; (try clear hb); (try clear hb2); (try clear hk); (try clear hi); (try clear hge_); have hcz14_0 : w13.cell? ⟨gb122, 0, none⟩ = some (.slice A0_0 l0_0.length c0_0) := (Ze BK122.out 0).trans rfl; have hfz14_0 := Zg BK122.out 0; have p125 : 0 ≤ (a1 : Int) := of_decide_eq_true (by first | (with_reducible assumption) | assumption); have q125 : a1 < (l0_0.length : Int) := of_decide_eq_true (by first | (with_reducible assumption) | assumption); obtain ⟨ad125, A125_0, c125_0, A125_1, c125_1, e125, hx125_0, hx125_1, hl125_0, hi125_0, hl125_1, hi125_1⟩ := Zbl HR0_0.out a1 p125 q125; cases e125; replace hx125_0 := (HB.out.cell (Qw w _ hx125_0)).trans hx125_0; replace hx125_1 := (HB.out.cell (Qw w _ hx125_1)).trans hx125_1; have HR125_0 := aM hi125_0; have HC125_0 := aM hl125_0; clear hi125_0 hl125_0; have HR125_1 := aM hi125_1; have HC125_1 := aM hl125_1; clear hi125_1 hl125_1; replace p125 := eq_true p125; replace q125 := eq_true q125; have p126 : 0 ≤ (a1 : Int) := of_decide_eq_true (by first | (with_reducible assumption) | assumption); have q126 : a1 < (l0_0.length : Int) := of_decide_eq_true (by first | (with_reducible assumption) | assumption); obtain ⟨ad126, A126_0, c126_0, A126_1, c126_1, e126, hx126_0, hx126_1, hl126_0, hi126_0, hl126_1, hi126_1⟩ := Zbl HR0_0.out a1 p126 q126; obtain rfl : ad125 = ad126 := (by injection e126); replace hx126_0 := (HB.out.cell (Qw w _ hx126_0)).trans hx126_0; replace hx126_1 := (HB.out.cell (Qw w _ hx126_1)).trans hx126_1; have HR126_0 := aM hi126_0; have HC126_0 := aM hl126_0; clear hi126_0 hl126_0; have HR126_1 := aM hi126_1; have HC126_1 := aM hl126_1; clear hi126_1 hl126_1; replace p126 := eq_true p126; replace q126 := eq_true q126; have ea_ := Option.some.inj (hx125_0.symm.trans hx126_0); injection ea_ with ea_ en_ ec_; subst ea_; subst ec_; clear en_; have ea_ := Option.some.inj (hx125_1.symm.trans hx126_1); injection ea_ with ea_ en_ ec_; subst ea_; subst ec_; clear en_; have hcz15_0 : w13.cell? ⟨gb123, 0, none⟩ = some (.slice none 0 0) := (Ze BK123.out 0).trans rfl; have hfz15_0 := Zg BK123.out 0)); try go_wp2_with (first | ((with_reducible refine Z7 (N := 3) rfl ?_); refine Z4 ?hg (N := 3) ?hd (cs := #[.slice A0_0 l0_0.length c0_0]) (t := 24) ?hr ?_; (case hd => rfl); (case hg => rfl); (case hr => first | (go_simp; done) | (go_simp; rfl)); intro gb122 hg w9 hbox hb; have n0_ := aM (Zj (by repeat (first | (with_reducible first | exact HB.out | apply wA | apply wN | apply wD) | exact HB.out)) hb); have n1_ := aM (hbox); have n2_ := aM ((by rw [hg]; exact (Zd (by repeat (first | (with_reducible first | exact HB.out | apply wA | apply wN | apply wD) | exact HB.out))) : w.heap.size ≤ gb122)); have n3_ := aM ((by rw [hg]; exact (Zd (by repeat (first | (with_reducible first | exact HB.out | apply wA | apply wN | apply wD) | exact HB.out))) : w.heap.size ≤ gb122)); clear HB; have HB := n0_; have BK122 := n1_; have GW122 := n2_; have GE122 := n3_; clear n0_ n1_ n2_ n3_; clear hb hbox hg) | ((with_reducible refine Z7 (N := 6) rfl ?_); refine Z4 ?hg (N := 6) ?hd (cs := #[.slice none 0 0]) (t := 24) ?hr ?_; (case hd => rfl); (case hg => rfl); (case hr => first | (go_simp; done) | (go_simp; rfl)); intro gb123 hg w10 hbox hb; have n0_ := aM (Zf (g := gb122) (o := .cells #[.slice A0_0 l0_0.length c0_0] 24 (0, 0)) (by (with_reducible repeat first | apply bN | apply bD | apply bA); exact BK122.out) hb); have n1_ := aM (Zj (by repeat (first | (with_reducible first | exact HB.out | apply wA | apply wN | apply wD | refine Za ?_ GE122.out) | exact HB.out)) hb); have n2_ := aM (hbox); have n3_ := aM ((by rw [hg]; exact (Zd (by repeat (first | (with_reducible first | exact HB.out | apply wA | apply wN | apply wD | refine Za ?_ GE122.out) | exact HB.out))) : w.heap.size ≤ gb123)); have n4_ := aM ((by rw [hg]; exact (Zd (by repeat (first | (with_reducible first | exact HB.out | apply wA | apply wN | apply wD | refine Za ?_ GE122.out) | exact HB.out))) : w.heap.size ≤ gb123)); have n5_ := aM ((by rw [hg]; exact Nat.ne_of_lt (Ya (g := gb122) (o := .cells #[.slice A0_0 l0_0.length c0_0] 24 (0, 0)) (by (with_reducible repeat first | apply bN | apply bD | apply bA); exact BK122.out)) : gb122 ≠ gb123)); have n6_ := aM ((by rw [hg]; exact Nat.ne_of_gt (Ya (g := gb122) (o := .cells #[.slice A0_0 l0_0.length c0_0] 24 (0, 0)) (by (with_reducible repeat first | apply bN | apply bD | apply bA); exact BK122.out)) : gb123 ≠ gb122)); clear BK122 HB; have BK122 := n0_; have HB := n1_; have BK123 := n2_; have GW123 := n3_; have GE123 := n4_; have NB122_123 := n5_; have NB123_122 := n6_; clear n0_ n1_ n2_ n3_ n4_ n5_ n6_; clear hb hbox hg; have hnb11 := NB122_123.out; have hnc11 := NB123_122.out; have hcz12_0 : w10.cell? ⟨gb122, 0, none⟩ = some (.slice A0_0 l0_0.length c0_0) := (Ze BK122.out 0).trans rfl; have hfz12_0 := Zg BK122.out 0) | (go_at_call 27; (with_reducible refine (Za1.calls _ _ l0_0 a1 true _ ?side1 ?side2 A4.out).mono ?_); (case side1 => repeat (first | exact (Kd.Yv HR0_0.out HB.out) | (with_reducible refine Kd.Yh ?_ _) | (with_reducible refine Kd.Yg ?_ _) | (with_reducible refine Kd.Yw ?_))); (case side2 => exact HC0_0.out); rintro e w13 ⟨rfl, hb⟩; have n0_ := aM (Zf (g := gb122) (o := .cells #[.slice A0_0 l0_0.length c0_0] 24 (0, 0)) (by (with_reducible repeat first | apply bN | apply bD | apply bA); exact BK122.out) hb); have n1_ := aM (Zf (g := gb123) (o := .cells #[.slice none 0 0] 24 (0, 0)) (by (with_reducible repeat first | apply bN | apply bD | apply bA); exact BK123.out) hb); have n2_ := aM (Zj (by repeat (first | (with_reducible first | exact HB.out | apply wA | apply wN | apply wD | refine Za ?_ GE122.out | refine Za ?_ GE123.out) | exact HB.out)) hb); clear BK122 BK123 HB; have BK122 := n0_; have BK123 := n1_; have HB := n2_; clear n0_ n1_ n2_; (try clear hb); (try clear hb2); (try clear hk); (try clear hi); (try clear hge_); have hcz14_0 : w13.cell? ⟨gb122, 0, none⟩ = some (.slice A0_0 l0_0.length c0_0) := (Ze BK122.out 0).trans rfl; have hfz14_0 := Zg BK122.out 0; have p125 : 0 ≤ (a1 : Int) := of_decide_eq_true (by first | (with_reducible assumption) | assumption); have q125 : a1 < (l0_0.length : Int) := of_decide_eq_true (by first | (with_reducible assumption) | assumption); obtain ⟨ad125, A125_0, c125_0, A125_1, c125_1, e125, hx125_0, hx125_1, hl125_0, hi125_0, hl125_1, hi125_1⟩ := Zbl HR0_0.out a1 p125 q125; cases e125; replace hx125_0 := (HB.out.cell (Qw w _ hx125_0)).trans hx125_0; replace hx125_1 := (HB.out.cell (Qw w _ hx125_1)).trans hx125_1; have HR125_0 := aM hi125_0; have HC125_0 := aM hl125_0; clear hi125_0 hl125_0; have HR125_1 := aM hi125_1; have HC125_1 := aM hl125_1; clear hi125_1 hl125_1; replace p125 := eq_true p125; replace q125 := eq_true q125; have p126 : 0 ≤ (a1 : Int) := of_decide_eq_true (by first | (with_reducible assumption) | assumption); have q126 : a1 < (l0_0.length : Int) := of_decide_eq_true (by first | (with_reducible assumption) | assumption); obtain ⟨ad126, A126_0, c126_0, A126_1, c126_1, e126, hx126_0, hx126_1, hl126_0, hi126_0, hl126_1, hi126_1⟩ := Zbl HR0_0.out a1 p126 q126; obtain rfl : ad125 = ad126 := (by injection e126); replace hx126_0 := (HB.out.cell (Qw w _ hx126_0)).trans hx126_0; replace hx126_1 := (HB.out.cell (Qw w _ hx126_1)).trans hx126_1; have HR126_0 := aM hi126_0; have HC126_0 := aM hl126_0; clear hi126_0 hl126_0; have HR126_1 := aM hi126_1; have HC126_1 := aM hl126_1; clear hi126_1 hl126_1; replace p126 := eq_true p126; replace q126 := eq_true q126; have ea_ := Option.some.inj (hx125_0.symm.trans hx126_0); injection ea_ with ea_ en_ ec_; subst ea_; subst ec_; clear en_; have ea_ := Option.some.inj (hx125_1.symm.trans hx126_1); injection ea_ with ea_ en_ ec_; subst ea_; subst ec_; clear en_; have hcz15_0 : w13.cell? ⟨gb123, 0, none⟩ = some (.slice none 0 0) := (Ze BK123.out 0).trans rfl; have hfz15_0 := Zg BK123.out 0)))
     refine bodyPost_ret (Zau rfl _ _ gb123 24 #[.slice none 0 0] (0, 0) _ rfl (by (with_reducible repeat first | apply bN | apply bD | apply bA); refine Yo (cs := #[.slice none 0 0]) ?_ 0 _ rfl; (with_reducible repeat first | apply bN | apply bD | apply bA); exact BK123.out) Try.underlying24 rfl (by kernel_rfl)) rfl ?_
     exact ⟨_, by first | rfl | (simp [Zy, Zx] <;> rfl) | (simp [*, Zy, Zx] <;> rfl), by first | exact Kd.Zc0 _ _ _ _ _ | exact Kd.Zcw _ _ _ _ _ | exact Kd.Zcr _ _ _ _ _ | exact Kd.Zc1 _ _ _ _ _ | exact Kd.Zbx _ _ _ _ _, by repeat (first | (with_reducible first | exact HB.out | apply wA | apply wN | apply wD | refine Za ?_ GE122.out | refine Za ?_ GE123.out) | exact HB.out)⟩
    ·rw [if_neg c8] at H
     have c8b0 : decide (65536 < (wrap64 ((wrap64 ((((Zo l0_0 a1).f0).length : Int) + (((Zo l0_0 a1).f1).length : Int))) + (l2.length : Int)))) = false := decide_eq_false c8
     clear c8
     replace H := Option.bind_eq_some_iff.mp H
     obtain ⟨t127, A160, H⟩ := H
     replace H : (if a1 < (t127.length : Int) then (Y2.tail t127 a1 l2) else (none)) = some (r1, r2) := H
     have A16 := aM A160
     clear A160
     by_cases c17 : a1 < (t127.length : Int)
     ·rw [if_pos c17] at H
      have c17b0 : decide (a1 < (t127.length : Int)) = true := decide_eq_true c17
      clear c17
      go_enter Try.func14, Try.ntmps14
      go_wp2_with (first | ((with_reducible refine Z7 (N := 3) rfl ?_); refine Z4 ?hg (N := 3) ?hd (cs := #[.slice A0_0 l0_0.length c0_0]) (t := 24) ?hr ?_; (case hd => rfl); (case hg => rfl); (case hr => first | (go_simp; done) | (go_simp; rfl)); intro gb122 hg w18 hbox hb; have n0_ := aM (Zj (by repeat (first | (with_reducible first | exact HB.out | apply wA | apply wN | apply wD) | exact HB.out)) hb); have n1_ := aM (hbox); have n2_ := aM ((by rw [hg]; exact (Zd (by repeat (first | (with_reducible first | exact HB.out | apply wA | apply wN | apply wD) | exact HB.out))) : w.heap.size ≤ gb122)); have n3_ := aM ((by rw [hg]; exact (Zd (by repeat (first | (with_reducible first | exact HB.out | apply wA | apply wN | apply wD) | exact HB.out))) : w.heap.size ≤ gb122)); clear HB; have HB := n0_; have BK122 := n1_; have GW122 := n2_; have GE122 := n3_; clear n0_ n1_ n2_ n3_; clear hb hbox hg) | ((with_reducible refine Z7 (N := 6) rfl ?_); refine Z4 ?hg (N := 6) ?hd (cs := #[.slice none 0 0]) (t := 24) ?hr ?_; (case hd => rfl); (case hg => rfl); (case hr => first | (go_simp; done) | (go_simp; rfl)); intro gb123 hg w19 hbox hb; have n0_ := aM (Zf (g := gb122) (o := .cells #[.slice A0_0 l0_0.length c0_0] 24 (0, 0)) (by (with_reducible repeat first | apply bN | apply bD | apply bA); exact BK122.out) hb); have n1_ := aM (Zj (by repeat (first | (with_reducible first | exact HB.out | apply wA | apply wN | apply wD | refine Za ?_ GE122.out) | exact HB.out)) hb); have n2_ := aM (hbox); have n3_ := aM ((by rw [hg]; exact (Zd (by repeat (first | (with_reducible first | exact HB.out | apply wA | apply wN | apply wD | refine Za ?_ GE122.out) | exact HB.out))) : w.heap.size ≤ gb123)); have n4_ := aM ((by rw [hg]; exact (Zd (by repeat (first | (with_reducible first | exact HB.out | apply wA | apply wN | apply wD | refine Za ?_ GE122.out) | exact HB.out))) : w.heap.size ≤ gb123)); have n5_ := aM ((by rw [hg]; exact Nat.ne_of_lt (Ya (g := gb122) (o := .cells #[.slice A0_0 l0_0.length c0_0] 24 (0, 0)) (by (with_reducible repeat first | apply bN | apply bD | apply bA); exact BK122.out)) : gb122 ≠ gb123)); have n6_ := aM ((by rw [hg]; exact Nat.ne_of_gt (Ya (g := gb122) (o := .cells #[.slice A0_0 l0_0.length c0_0] 24 (0, 0)) (by (with_reducible repeat first | apply bN | apply bD | apply bA); exact BK122.out)) : gb123 ≠ gb122)); clear BK122 HB; have BK122 := n0_; have HB := n1_; have BK123 := n2_; have GW123 := n3_; have GE123 := n4_; have NB122_123 := n5_; have NB123_122 := n6_; clear n0_ n1_ n2_ n3_ n4_ n5_ n6_; clear hb hbox hg; have hnb20 := NB122_123.out; have hnc20 := NB123_122.out; have hcz21_0 : w19.cell? ⟨gb122, 0, none⟩ = some (.slice A0_0 l0_0.length c0_0) := (Ze BK122.out 0).trans rfl; have hfz21_0 := Zg BK122.out 0) | (go_at_call 27; (with_reducible refine (Za1.calls _ _ l0_0 a1 true _ ?side1 ?side2 A4.out).mono ?_); (case side1 => repeat (first | exact (Kd.Yv HR0_0.out HB.out) | (with_reducible refine Kd.Yh ?_ _) | (with_reducible refine Kd.Yg ?_ _) | (with_reducible refine Kd.Yw ?_))); (case side2 => exact HC0_0.out); rintro e w22 ⟨rfl, hb⟩; have n0_ := aM (Zf (g := gb122) (o := .cells #[.slice A0_0 l0_0.length c0_0] 24 (0, 0)) (by (with_reducible repeat first | apply bN | apply bD | apply bA); exact BK122.out) hb); have n1_ := aM (Zf (g := gb123) (o := .cells #[.slice none 0 0] 24 (0, 0)) (by (with_reducible repeat first | apply bN | apply bD | apply bA); exact BK123.out) hb); have n2_ := aM (Zj (by repeat (first | (with_reducible first | exact HB.out | apply wA | apply wN | apply wD | refine Za ?_ GE122.out | refine Za ?_ GE123.out) | exact HB.out)) hb); clear BK122 BK123 HB; have BK122 := n0_; have BK123 := n1_; have HB := n2_; clear n0_ n1_ n2_; (try clear hb); (try clear hb2); (try clear hk); (try clear hi); (try clear hge_); have hcz23_0 : w22.cell? ⟨gb122, 0, none⟩ = some (.slice A0_0 l0_0.length c0_0) := (Ze BK122.out 0).trans rfl; have hfz23_0 := Zg BK122.out 0; have p125 : 0 ≤ (a1 : Int) := of_decide_eq_true (by first | (with_reducible assumption) | assumption); have q125 : a1 < (l0_0.length : Int) := of_decide_eq_true (by first | (with_reducible assumption) | assumption); obtain ⟨ad125, A125_0, c125_0, A125_1, c125_1, e125, hx125_0, hx125_1, hl125_0, hi125_0, hl125_1, hi125_1⟩ := Zbl HR0_0.out a1 p125 q125; cases e125; replace hx125_0 := (HB.out.cell (Qw w _ hx125_0)).trans hx125_0; replace hx125_1 := (HB.out.cell (Qw w _ hx125_1)).trans hx125_1; have HR125_0 := aM hi125_0; have HC125_0 := aM hl125_0; clear hi125_0 hl125_0; have HR125_1 := aM hi125_1; have HC125_1 := aM hl125_1; clear hi125_1 hl125_1; replace p125 := eq_true p125; replace q125 := eq_true q125; have p126 : 0 ≤ (a1 : Int) := of_decide_eq_true (by first | (with_reducible assumption) | assumption); have q126 : a1 < (l0_0.length : Int) := of_decide_eq_true (by first | (with_reducible assumption) | assumption); obtain ⟨ad126, A126_0, c126_0, A126_1, c126_1, e126, hx126_0, hx126_1, hl126_0, hi126_0, hl126_1, hi126_1⟩ := Zbl HR0_0.out a1 p126 q126; obtain rfl : ad125 = ad126 := (by injection e126); replace hx126_0 := (HB.out.cell (Qw w _ hx126_0)).trans hx126_0; replace hx126_1 := (HB.out.cell (Qw w _ hx126_1)).trans hx126_1; have HR126_0 := aM hi126_0; have HC126_0 := aM hl126_0; clear hi126_0 hl126_0; have HR126_1 := aM hi126_1; have HC126_1 := aM hl126_1; clear hi126_1 hl126_1; replace p126 := eq_true p126; replace q126 := eq_true q126; have ea_ := Option.some.inj (hx125_0.symm.trans hx126_0); injection ea_ with ea_ en_ ec_; subst ea_; subst ec_; clear en_; have ea_ := Option.some.inj (hx125_1.symm.trans hx126_1); injection ea_ with ea_ en_ ec_; subst ea_; subst ec_; clear en_) | (go_at_call 24; (with_reducible refine (Ye.Zfi k _ _ l0_0 t127 _ ?side1 ?side2 A16.out).mono ?_); (case side1 => repeat (first | exact (Kd.Yv HR0_0.out HB.out) | (with_reducible refine Kd.Yh ?_ _) | (with_reducible refine Kd.Yg ?_ _) | (with_reducible refine Kd.Yw ?_))); (case side2 => exact HC0_0.out); rintro e w24 ⟨v128, rfl, ho0, hb⟩; have n0_ := aM (Kd.Zdu ho0 (Zd (by repeat (first | (with_reducible first | exact HB.out | apply wA | apply wN | apply wD | refine Za ?_ GE122.out | refine Za ?_ GE123.out) | exact HB.out)))); have n1_ := aM (Zf (g := gb122) (o := .cells #[.slice (some ad125) l0_0.length c0_0] 24 (0, 0)) (by (with_reducible repeat first | apply bN | apply bD | apply bA); exact BK122.out) hb); have n2_ := aM (Zf (g := gb123) (o := .cells #[.slice none 0 0] 24 (0, 0)) (by (with_reducible repeat first | apply bN | apply bD | apply bA); exact BK123.out) hb); have n3_ := aM (Zj (by repeat (first | (with_reducible first | exact HB.out | apply wA | apply wN | apply wD | refine Za ?_ GE122.out | refine Za ?_ GE123.out) | exact HB.out)) hb); clear BK122 BK123 HB; have HO129 := n0_; have BK122 := n1_; have BK123 := n2_; have HB := n3_; clear n0_ n1_ n2_ n3_; (try clear hb); (try clear hb2); (try clear hk); (try clear hi); (try clear hge_); (try clear ho0); obtain ⟨Ao25, co25, eo25⟩ := Kd.Zcm HO129.out; subst eo25; have hcz26_0 : w24.cell? ⟨gb122, 0, none⟩ = some (.slice (some ad125) l0_0.length c0_0) := (Ze BK122.out 0).trans rfl; have hfz26_0 := Zg BK122.out 0) | ((with_reducible refine Zbm (t := 24) (p := 3) rfl ?_); (try (rw [Zdk w24]; generalize hq_ : World.drewN w24 _ = w24; have n0_ := aM (Kd.S_at hq_ HO129.out); have n1_ := aM (Zfj hq_ BK122.out); have n2_ := aM (Zfj hq_ BK123.out); have n3_ := aM (below_at hq_ HB.out); clear hq_ HO129 BK122 BK123 HB; have HO129 := n0_; have BK122 := n1_; have BK123 := n2_; have HB := n3_; clear n0_ n1_ n2_ n3_)); refine Zbh (t := 24) (p := 3) (v := ?vo_w27) (w1 := (w24.setCell ⟨gb122, 0, none⟩ (.slice Ao25 t127.length co25))) ?hg ?ho ?hn ?hr ?_; (case ho => rfl); (case hg => rfl); (case hn => rfl); (case hr => first | (go_simp; done) | (go_simp; rfl)); intro w27 hw; have n0_ : Zq (Kd.S k48a 48 w27 w.heap.size (fun _ => True) (.slice Ao25 t127.length co25) t127) := ⟨(by rw [hw]; exact (by (with_reducible repeat first | apply Kd.Zao | apply Kd.Zal | apply Kd.Zaw); exact Kd.Zbc (Kd.Zcs (p := ⟨gb122, 0, none⟩) (Kd.Zcg HO129.out BK122.out (by decide)) (fun _ hk => hk.2) (.slice Ao25 t127.length co25)) (fun _ hk => trivial)))⟩; have n1_ : Zq (w27.heap[gb122]? = some (.cells #[.slice Ao25 t127.length co25] 24 (0, 0))) := ⟨(by rw [hw]; exact (by (with_reducible repeat first | apply bN | apply bD | apply bA); refine Yo (cs := #[.slice (some ad125) l0_0.length c0_0]) ?_ 0 _ rfl; (with_reducible repeat first | apply bN | apply bD | apply bA); exact BK122.out))⟩; have n2_ : Zq (w27.heap[gb123]? = some (.cells #[.slice none 0 0] 24 (0, 0))) := ⟨(by rw [hw]; exact (by (with_reducible repeat first | apply bN | apply bD | apply bA); refine Z8 ?_ NB123_122.out _; (with_reducible repeat first | apply bN | apply bD | apply bA); exact BK123.out))⟩; have n3_ : Zq (Below w.heap.size w w27) := ⟨(by rw [hw]; exact (by repeat (first | (with_reducible first | exact HB.out | apply wA | apply wN | apply wD | refine Za ?_ GE122.out | refine Za ?_ GE123.out) | exact HB.out)))⟩; clear hw HO129 BK122 BK123 HB; have HO129 := n0_; have BK122 := n1_; have BK123 := n2_; have HB := n3_; clear n0_ n1_ n2_ n3_; have hcz28_0 : w27.cell? ⟨gb122, 0, none⟩ = some (.slice Ao25 t127.length co25) := (Ze BK122.out 0).trans rfl; have hfz28_0 := Zg BK122.out 0; have p130 : 0 ≤ (a1 : Int) := of_decide_eq_true (by first | (with_reducible assumption) | assumption); have q130 : a1 < (t127.length : Int) := of_decide_eq_true (by first | (with_reducible assumption) | assumption); obtain ⟨ad130, A130_0, c130_0, A130_1, c130_1, e130, hx130_0, hx130_1, hl130_0, hi130_0, hl130_1, hi130_1⟩ := Zbl (Kd.Zcn HO129.out).2.2 a1 p130 q130; cases e130; obtain ⟨ce130, hce130, hMe130, hcc130⟩ := Kd.S_get HO129.out z48 a1 p130 (by first | exact q130 | exact of_decide_eq_true (by first | (with_reducible assumption) | assumption) | (have e_ := (Kd.Zcn HO129.out).1; omega)); obtain ⟨ve130_0, ve130_1, rfl, ge130_0, ge130_1⟩ := Zd4 hMe130; have hv130_0 := hcc130 0 _ rfl; rw [Nat.add_zero] at hv130_0; replace hv130_0 := Option.some.inj (hv130_0.symm.trans hx130_0); rw [hv130_0] at ge130_0; have HL130_0 := aM (show Kd.R (Kd.int .u8) 5 _ _ _ _ ((Zo t127 a1).f0) from ge130_0); clear hv130_0 ge130_0; have hv130_1 := hcc130 1 _ rfl; rw [Zb4 _ _ 1 (by omega)] at hv130_1; replace hv130_1 := Option.some.inj (hv130_1.symm.trans hx130_1); rw [hv130_1] at ge130_1; have HL130_1 := aM (show Kd.R (Kd.int .u8) 5 _ _ _ _ ((Zo t127 a1).f1) from ge130_1); clear hv130_1 ge130_1; clear hcc130 hce130; have HR130_0 := aM hi130_0; have HC130_0 := aM hl130_0; clear hi130_0 hl130_0; have HR130_1 := aM hi130_1; have HC130_1 := aM hl130_1; clear hi130_1 hl130_1; replace p130 := eq_true p130; replace q130 := eq_true q130))
      repeat (go_quiet (first | ((with_reducible refine Z7 (N := 3) rfl ?_); refine Z4 ?hg (N := 3) ?hd (cs := #[.slice A0_0 l0_0.length c0_0]) (t := 24) ?hr ?_; (case hd => rfl); (case hg => rfl); (case hr => first | (go_simp; done) | (go_simp; rfl)); intro gb122 hg w18 hbox hb; have n0_ := aM (Zj (by repeat (first | (with_reducible first | exact HB.out | apply wA | apply wN | apply wD) | exact HB.out)) hb); have n1_ := aM (hbox); have n2_ := aM ((by rw [hg]; exact (Zd (by repeat (first | (with_reducible first | exact HB.out | apply wA | apply wN | apply wD) | exact HB.out))) : w.heap.size ≤ gb122)); have n3_ := aM ((by rw [hg]; exact (Zd (by repeat (first | (with_reducible first | exact HB.out | apply wA | apply wN | apply wD) | exact HB.out))) : w.heap.size ≤ gb122)); clear HB; have HB := n0_; have BK122 := n1_; have GW122 := n2_; have GE122 := n3_; clear n0_ n1_ n2_ n3_; clear hb hbox hg) | ((with_reducible refine Z7 (N := 6) rfl ?_); refine Z4 ?hg (N := 6) ?hd (cs := #[.slice none 0 0]) (t := 24) ?hr ?_; (case hd => rfl); (case hg => rfl); (case hr => first | (go_simp; done) | (go_simp; rfl)); intro gb123 hg w19 hbox hb; have n0_ := aM (Zf (g := gb122) (o := .cells #[.slice A0_0 l0_0.length c0_0] 24 (0, 0)) (by (with_reducible repeat first | apply bN | apply bD | apply bA); exact BK122.out) hb); have n1_ := aM (Zj (by repeat (first | (with_reducible first | exact HB.out | apply wA | apply wN | apply wD | refine Za ?_ GE122.out) | exact HB.out)) hb); have n2_ := aM (hbox); have n3_ := aM ((by rw [hg]; exact (Zd (by repeat (first | (with_reducible first | exact HB.out | apply wA | apply wN | apply wD | refine Za ?_ GE122.out) | exact HB.out))) : w.heap.size ≤ gb123)); have n4_ := aM ((by rw [hg]; exact (Zd (by repeat (first | (with_reducible first | exact HB.out | apply wA | apply wN | apply wD | refine Za ?_ GE122.out) | exact HB.out))) : w.heap.size ≤ gb123)); have n5_ := aM ((by rw [hg]; exact Nat.ne_of_lt (Ya (g := gb122) (o := .cells #[.slice A0_0 l0_0.length c0_0] 24 (0, 0)) (by (with_reducible repeat first | apply bN | apply bD | apply bA); exact BK122.out)) : gb122 ≠ gb123)); have n6_ := aM ((by rw [hg]; exact Nat.ne_of_gt (Ya (g := gb122) (o := .cells #[.slice A0_0 l0_0.length c0_0] 24 (0, 0)) (by (with_reducible repeat first | apply bN | apply bD | apply bA); exact BK122.out)) : gb123 ≠ gb122)); clear BK122 HB; have BK122 := n0_; have HB := n1_; have BK123 := n2_; have GW123 := n3_; have GE123 := n4_; have NB122_123 := n5_; have NB123_122 := n6_; clear n0_ n1_ n2_ n3_ n4_ n5_ n6_; clear hb hbox hg; have hnb20 := NB122_123.out; have hnc20 := NB123_122.out; have hcz21_0 : w19.cell? ⟨gb122, 0, none⟩ = some (.slice A0_0 l0_0.length c0_0) := (Ze BK122.out 0).trans rfl; have hfz21_0 := Zg BK122.out 0) | (go_at_call 27; (with_reducible refine (Za1.calls _ _ l0_0 a1 true _ ?side1 ?side2 A4.out).mono ?_); (case side1 => repeat (first | exact (Kd.Yv HR0_0.out HB.out) | (with_reducible refine Kd.Yh ?_ _) | (with_reducible refine Kd.Yg ?_ _) | (with_reducible refine Kd.Yw ?_))); (case side2 => exact HC0_0.out); rintro e w22 ⟨rfl, hb⟩; have n0_ := aM (Zf (g := gb122) (o := .cells #[.slice A0_0 l0_0.length c0_0] 24 (0, 0)) (by (with_reducible repeat first | apply bN | apply bD | apply bA); exact BK122.out) hb); have n1_ := aM (Zf (g := gb123) (o := .cells #[.slice none 0 0] 24 (0, 0)) (by (with_reducible repeat first | apply bN | apply bD | apply bA); exact BK123.out) hb); have n2_ := aM (Zj (by repeat (first | (with_reducible first | exact HB.out | apply wA | apply wN | apply wD | refine Za ?_ GE122.out | refine Za ?_ GE123.out) | exact HB.out)) hb); clear BK122 BK123 HB; have BK122 := n0_; have BK123 := n1_; have HB := n2_; clear n0_ n1_ n2_; (try clear hb); (try clear hb2); (try clear hk); (try clear hi); (try clear hge_); have hcz23_0 : w22.cell? ⟨gb122, 0, none⟩ = some (.slice A0_0 l0_0.length c0_0) := (Ze BK122.out 0).trans rfl; have hfz23_0 := Zg BK122.out 0; have p125 : 0 ≤ (a1 : Int) := of_decide_eq_true (by first | (with_reducible assumption) | assumption); have q125 : a1 < (l0_0.length : Int) := of_decide_eq_true (by first | (with_reducible assumption) | assumption); obtain ⟨ad125, A125_0, c125_0, A125_1, c125_1, e125, hx125_0, hx125_1, hl125_0, hi125_0, hl125_1, hi125_1⟩ := Zbl HR0_0.out a1 p125 q125; cases e125; replace hx125_0 := (HB.out.cell (Qw w _ hx125_0)).trans hx125_0; replace hx125_1 := (HB.out.cell (Qw w _ hx125_1)).trans hx125_1; have HR125_0 := aM hi125_0; have HC125_0 := aM hl125_0; clear hi125_0 hl125_0; have HR125_1 := aM hi125_1; have HC125_1 := aM hl125_1; clear hi125_1 hl125_1; replace p125 := eq_true p125; replace q125 := eq_true q125; have p126 : 0 ≤ (a1 : Int) := of_decide_eq_true (by first | (with_reducible assumption) | assumption); have q126 : a1 < (l0_0.length : Int) := of_decide_eq_true (by first | (with_reducible assumption) | assumption); obtain ⟨ad126, A126_0, c126_0, A126_1, c126_1, e126, hx126_0, hx126_1, hl126_0, hi126_0, hl126_1, hi126_1⟩ := Zbl HR0_0.out a1 p126 q126; obtain rfl : ad125 = ad126 := (by injection e126); replace hx126_0 := (HB.out.cell (Qw w _ hx126_0)).trans hx126_0; replace hx126_1 := (HB.out.cell (Qw w _ hx126_1)).trans hx126_1; have HR126_0 := aM hi126_0; have HC126_0 := aM hl126_0; clear hi126_0 hl126_0; have HR126_1 := aM hi126_1; have HC126_1 := aM hl126_1; clear hi126_1 hl126_1; replace p126 := eq_true p126; replace q126 := eq_true q126; have ea_ := Option.some.inj (hx125_0.symm.trans hx126_0); injection ea_ with ea_ en_ ec_; subst ea_; subst ec_; clear en_; have ea_ := Option.some.inj (hx125_1.symm.trans hx126_1); injection ea_ with ea_ en_ ec_; subst ea_; subst ec_; clear en_) | (go_at_call 24; (with_reducible refine (Ye.Zfi k _ _ l0_0 t127 _ ?side1 ?side2 A16.out).mono ?_); (case side1 => repeat (first | exact (Kd.Yv HR0_0.out HB.out) | (with_reducible refine Kd.Yh ?_ _) | (with_reducible refine Kd.Yg ?_ _) | (with_reducible refine Kd.Yw ?_))); (case side2 => exact HC0_0.out); rintro e w24 ⟨v128, rfl, ho0, hb⟩; have n0_ := aM (Kd.Zdu ho0 (Zd (by repeat (first | (with_reducible first | exact HB.out | apply wA | apply wN | apply wD | refine Za ?_ GE122.out | refine Za ?_ GE123.out) | exact HB.out)))); have n1_ := aM (Zf (g := gb122) (o := .cells #[.slice (some ad125) l0_0.length c0_0] 24 (0, 0)) (by (with_reducible repeat first | apply bN | apply bD | apply bA); exact BK122.out) hb); have n2_ := aM (Zf (g := gb123) (o := .cells #[.slice none 0 0] 24 (0, 0)) (by (with_reducible repeat first | apply bN | apply bD | apply bA); exact BK123.out) hb); have n3_ := aM (Zj (by repeat (first | (with_reducible first | exact HB.out | apply wA | apply wN | apply wD | refine Za ?_ GE122.out | refine Za ?_ GE123.out) | exact HB.out)) hb); clear BK122 BK123 HB; have HO129 := n0_; have BK122 := n1_; have BK123 := n2_; have HB := n3_; clear n0_ n1_ n2_ n3_; (try clear hb); (try clear hb2); (try clear hk); (try clear hi); (try clear hge_); (try clear ho0); obtain ⟨Ao25, co25, eo25⟩ := Kd.Zcm HO129.out; subst eo25; have hcz26_0 : w24.cell? ⟨gb122, 0, none⟩ = some (.slice (some ad125) l0_0.length c0_0) := (Ze BK122.out 0).trans rfl; have hfz26_0 := Zg BK122.out 0) | ((with_reducible refine Zbm (t := 24) (p := 3) rfl ?_); (try (rw [Zdk w24]; generalize hq_ : World.drewN w24 _ = w24; have n0_ := aM (Kd.S_at hq_ HO129.out); have n1_ := aM (Zfj hq_ BK122.out); have n2_ := aM (Zfj hq_ BK123.out); have n3_ := aM (below_at hq_ HB.out); clear hq_ HO129 BK122 BK123 HB; have HO129 := n0_; have BK122 := n1_; have BK123 := n2_; have HB := n3_; clear n0_ n1_ n2_ n3_)); refine Zbh (t := 24) (p := 3) (v := ?vo_w27) (w1 := (w24.setCell ⟨gb122, 0, none⟩ (.slice Ao25 t127.length co25))) ?hg ?ho ?hn ?hr ?_; (case ho => rfl); (case hg => rfl); (case hn => rfl); (case hr => first | (go_simp; done) | (go_simp; rfl)); intro w27 hw; have n0_ : Zq (Kd.S k48a 48 w27 w.heap.size (fun _ => True) (.slice Ao25 t127.length co25) t127) := ⟨(by rw [hw]; exact (by (with_reducible repeat first | apply Kd.Zao | apply Kd.Zal | apply Kd.Zaw); exact Kd.Zbc (Kd.Zcs (p := ⟨gb122, 0, none⟩) (Kd.Zcg HO129.out BK122.out (by decide)) (fun _ hk => hk.2) (.slice Ao25 t127.length co25)) (fun _ hk => trivial)))⟩; have n1_ : Zq (w27.heap[gb122]? = some (.cells #[.slice Ao25 t127.length co25] 24 (0, 0))) := ⟨(by rw [hw]; exact (by (with_reducible repeat first | apply bN | apply bD | apply bA); refine Yo (cs := #[.slice (some ad125) l0_0.length c0_0]) ?_ 0 _ rfl; (with_reducible repeat first | apply bN | apply bD | apply bA); exact BK122.out))⟩; have n2_ : Zq (w27.heap[gb123]? = some (.cells #[.slice none 0 0] 24 (0, 0))) := ⟨(by rw [hw]; exact (by (with_reducible repeat first | apply bN | apply bD | apply bA); refine Z8 ?_ NB123_122.out _; (with_reducible repeat first | apply bN | apply bD | apply bA); exact BK123.out))⟩; have n3_ : Zq (Below w.heap.size w w27) := ⟨(by rw [hw]; exact (by repeat (first | (with_reducible first | exact HB.out | apply wA | apply wN | apply wD | refine Za ?_ GE122.out | refine Za ?_ GE123.out) | exact HB.out)))⟩; clear hw HO129 BK122 BK123 HB; have HO129 := n0_; have BK122 := n1_; have BK123 := n2_; have HB := n3_; clear n0_ n1_ n2_ n3_; have hcz28_0 : w27.cell? ⟨gb122, 0, none⟩ = some (.slice Ao25 t127.length co25) := (Ze BK122.out 0).trans rfl; have hfz28_0 := Zg BK122.out 0; have p130 : 0 ≤ (a1 : Int) := of_decide_eq_true (by first | (with_reducible assumption) | assumption); have q130 : a1 < (t127.length : Int) := of_decide_eq_true (by first | (with_reducible assumption) | assumption); obtain ⟨ad130, A130_0, c130_0, A130_1, c130_1, e130, hx130_0, hx130_1, hl130_0, hi130_0, hl130_1, hi130_1⟩ := Zbl (Kd.Zcn HO129.out).2.2 a1 p130 q130; cases e130; obtain ⟨ce130, hce130, hMe130, hcc130⟩ := Kd.S_get HO129.out z48 a1 p130 (by first | exact q130 | exact of_decide_eq_true (by first | (with_reducible assumption) | assumption) | (have e_ := (Kd.Zcn HO129.out).1; omega)); obtain ⟨ve130_0, ve130_1, rfl, ge130_0, ge130_1⟩ := Zd4 hMe130; have hv130_0 := hcc130 0 _ rfl; rw [Nat.add_zero] at hv130_0; replace hv130_0 := Option.some.inj (hv130_0.symm.trans hx130_0); rw [hv130_0] at ge130_0; have HL130_0 := aM (show Kd.R (Kd.int .u8) 5 _ _ _ _ ((Zo t127 a1).f0) from ge130_0); clear hv130_0 ge130_0; have hv130_1 := hcc130 1 _ rfl; rw [Zb4 _ _ 1 (by omega)] at hv130_1; replace hv130_1 := Option.some.inj (hv130_1.symm.trans hx130_1); rw [hv130_1] at ge130_1; have HL130_1 := aM (show Kd.R (Kd.int .u8) 5 _ _ _ _ ((Zo t127 a1).f1) from ge130_1); clear hv130_1 ge130_1; clear hcc130 hce130; have HR130_0 := aM hi130_0; have HC130_0 := aM hl130_0; clear hi130_0 hl130_0; have HR130_1 := aM hi130_1; have HC130_1 := aM hl130_1; clear hi130_1 hl130_1; replace p130 := eq_true p130; replace q130 := eq_true q130)); try go_wp2_with (first | ((with_reducible refine Z7 (N := 3) rfl ?_); refine Z4 ?hg (N := 3) ?hd (cs := #[.slice A0_0 l0_0.length c0_0]) (t := 24) ?hr ?_; (case hd => rfl); (case hg => rfl); (case hr => first | (go_simp; done) | (go_simp; rfl)); intro gb122 hg w18 hbox hb; have n0_ := aM (Zj (by repeat (first | (with_reducible first | exact HB.out | apply wA | apply wN | apply wD) | exact HB.out)) hb); have n1_ := aM (hbox); have n2_ := aM ((by rw [hg]; exact (Zd (by repeat (first | (with_reducible first | exact HB.out | apply wA | apply wN | apply wD) | exact HB.out))) : w.heap.size ≤ gb122)); have n3_ := aM ((by rw [hg]; exact (Zd (by repeat (first | (with_reducible first | exact HB.out | apply wA | apply wN | apply wD) | exact HB.out))) : w.heap.size ≤ gb122)); clear HB; have HB := n0_; have BK122 := n1_; have GW122 := n2_; have GE122 := n3_; clear n0_ n1_ n2_ n3_; clear hb hbox hg) | ((with_reducible refine Z7 (N := 6) rfl ?_); refine Z4 ?hg (N := 6) ?hd (cs := #[.slice none 0 0]) (t := 24) ?hr ?_; (case hd => rfl); (case hg => rfl); (case hr => first | (go_simp; done) | (go_simp; rfl)); intro gb123 hg w19 hbox hb; have n0_ := aM (Zf (g := gb122) (o := .cells #[.slice A0_0 l0_0.length c0_0] 24 (0, 0)) (by (with_reducible repeat first | apply bN | apply bD | apply bA); exact BK122.out) hb); have n1_ := aM (Zj (by repeat (first | (with_reducible first | exact HB.out | apply wA | apply wN | apply wD | refine Za ?_ GE122.out) | exact HB.out)) hb); have n2_ := aM (hbox); have n3_ := aM ((by rw [hg]; exact (Zd (by repeat (first | (with_reducible first | exact HB.out | apply wA | apply wN | apply wD | refine Za ?_ GE122.out) | exact HB.out))) : w.heap.size ≤ gb123)); have n4_ := aM ((by rw [hg]; exact (Zd (by repeat (first | (with_reducible first | exact HB.out | apply wA | apply wN | apply wD | refine Za ?_ GE122.out) | exact HB.out))) : w.heap.size ≤ gb123)); have n5_ := aM ((by rw [hg]; exact Nat.ne_of_lt (Ya (g := gb122) (o := .cells #[.slice A0_0 l0_0.length c0_0] 24 (0, 0)) (by (with_reducible repeat first | apply bN | apply bD | apply bA); exact BK122.out)) : gb122 ≠ gb123)); have n6_ := aM ((by rw [hg]; exact Nat.ne_of_gt (Ya (g := gb122) (o := .cells #[.slice A0_0 l0_0.length c0_0] 24 (0, 0)) (by (with_reducible repeat first | apply bN | apply bD | apply bA); exact BK122.out)) : gb123 ≠ gb122)); clear BK122 HB; have BK122 := n0_; have HB := n1_; have BK123 := n2_; have GW123 := n3_; have GE123 := n4_; have NB122_123 := n5_; have NB123_122 := n6_; clear n0_ n1_ n2_ n3_ n4_ n5_ n6_; clear hb hbox hg; have hnb20 := NB122_123.out; have hnc20 := NB123_122.out; have hcz21_0 : w19.cell? ⟨gb122, 0, none⟩ = some (.slice A0_0 l0_0.length c0_0) := (Ze BK122.out 0).trans rfl; have hfz21_0 := Zg BK122.out 0) | (go_at_call 27; (with_reducible refine (Za1.calls _ _ l0_0 a1 true _ ?side1 ?side2 A4.out).mono ?_); (case side1 => repeat (first | exact (Kd.Yv HR0_0.out HB.out) | (with_reducible refine Kd.Yh ?_ _) | (with_reducible refine Kd.Yg ?_ _) | (with_reducible refine Kd.Yw ?_))); (case side2 => exact HC0_0.out); rintro e w22 ⟨rfl, hb⟩; have n0_ := aM (Zf (g := gb122) (o := .cells #[.slice A0_0 l0_0.length c0_0] 24 (0, 0)) (by (with_reducible repeat first | apply bN | apply bD | apply bA); exact BK122.out) hb); have n1_ := aM (Zf (g := gb123) (o := .cells #[.slice none 0 0] 24 (0, 0)) (by (with_reducible repeat first | apply bN | apply bD | apply bA); exact BK123.out) hb); have n2_ := aM (Zj (by repeat (first | (with_reducible first | exact HB.out | apply wA | apply wN | apply wD | refine Za ?_ GE122.out | refine Za ?_ GE123.out) | exact HB.out)) hb); clear BK122 BK123 HB; have BK122 := n0_; have BK123 := n1_; have HB := n2_; clear n0_ n1_ n2_; (try clear hb); (try clear hb2); (try clear hk); (try clear hi); (try clear hge_); have hcz23_0 : w22.cell? ⟨gb122, 0, none⟩ = some (.slice A0_0 l0_0.length c0_0) := (Ze BK122.out 0).trans rfl; have hfz23_0 := Zg BK122.out 0; have p125 : 0 ≤ (a1 : Int) := of_decide_eq_true (by first | (with_reducible assumption) | assumption); have q125 : a1 < (l0_0.length : Int) := of_decide_eq_true (by first | (with_reducible assumption) | assumption); obtain ⟨ad125, A125_0, c125_0, A125_1, c125_1, e125, hx125_0, hx125_1, hl125_0, hi125_0, hl125_1, hi125_1⟩ := Zbl HR0_0.out a1 p125 q125; cases e125; replace hx125_0 := (HB.out.cell (Qw w _ hx125_0)).trans hx125_0; replace hx125_1 := (HB.out.cell (Qw w _ hx125_1)).trans hx125_1; have HR125_0 := aM hi125_0; have HC125_0 := aM hl125_0; clear hi125_0 hl125_0; have HR125_1 := aM hi125_1; have HC125_1 := aM hl125_1; clear hi125_1 hl125_1; replace p125 := eq_true p125; replace q125 := eq_true q125; have p126 : 0 ≤ (a1 : Int) := of_decide_eq_true (by first | (with_reducible assumption) | assumption); have q126 : a1 < (l0_0.length : Int) := of_decide_eq_true (by first | (with_reducible assumption) | assumption); obtain ⟨ad126, A126_0, c126_0, A126_1, c126_1, e126, hx126_0, hx126_1, hl126_0, hi126_0, hl126_1, hi126_1⟩ := Zbl HR0_0.out a1 p126 q126; obtain rfl : ad125 = ad126 := (by injection e126); replace hx126_0 := (HB.out.cell (Qw w _ hx126_0)).trans hx126_0; replace hx126_1 := (HB.out.cell (Qw w _ hx126_1)).trans hx126_1; have HR126_0 := aM hi126_0; have HC126_0 := aM hl126_0; clear hi126_0 hl126_0; have HR126_1 := aM hi126_1; have HC126_1 := aM hl126_1; clear hi126_1 hl126_1; replace p126 := eq_true p126; replace q126 := eq_true q126; have ea_ := Option.some.inj (hx125_0.symm.trans hx126_0); injection ea_ with ea_ en_ ec_; subst ea_; subst ec_; clear en_; have ea_ := Option.some.inj (hx125_1.symm.trans hx126_1); injection ea_ with ea_ en_ ec_; subst ea_; subst ec_; clear en_) | (go_at_call 24; (with_reducible refine (Ye.Zfi k _ _ l0_0 t127 _ ?side1 ?side2 A16.out).mono ?_); (case side1 => repeat (first | exact (Kd.Yv HR0_0.out HB.out) | (with_reducible refine Kd.Yh ?_ _) | (with_reducible refine Kd.Yg ?_ _) | (with_reducible refine Kd.Yw ?_))); (case side2 => exact HC0_0.out); rintro e w24 ⟨v128, rfl, ho0, hb⟩; have n0_ := aM (Kd.Zdu ho0 (Zd (by repeat (first | (with_reducible first | exact HB.out | apply wA | apply wN | apply wD | refine Za ?_ GE122.out | refine Za ?_ GE123.out) | exact HB.out)))); have n1_ := aM (Zf (g := gb122) (o := .cells #[.slice (some ad125) l0_0.length c0_0] 24 (0, 0)) (by (with_reducible repeat first | apply bN | apply bD | apply bA); exact BK122.out) hb); have n2_ := aM (Zf (g := gb123) (o := .cells #[.slice none 0 0] 24 (0, 0)) (by (with_reducible repeat first | apply bN | apply bD | apply bA); exact BK123.out) hb); have n3_ := aM (Zj (by repeat (first | (with_reducible first | exact HB.out | apply wA | apply wN | apply wD | refine Za ?_ GE122.out | refine Za ?_ GE123.out) | exact HB.out)) hb); clear BK122 BK123 HB; have HO129 := n0_; have BK122 := n1_; have BK123 := n2_; have HB := n3_; clear n0_ n1_ n2_ n3_; (try clear hb); (try clear hb2); (try clear hk); (try clear hi); (try clear hge_); (try clear ho0); obtain ⟨Ao25, co25, eo25⟩ := Kd.Zcm HO129.out; subst eo25; have hcz26_0 : w24.cell? ⟨gb122, 0, none⟩ = some (.slice (some ad125) l0_0.length c0_0) := (Ze BK122.out 0).trans rfl; have hfz26_0 := Zg BK122.out 0) | ((with_reducible refine Zbm (t := 24) (p := 3) rfl ?_); (try (rw [Zdk w24]; generalize hq_ : World.drewN w24 _ = w24; have n0_ := aM (Kd.S_at hq_ HO129.out); have n1_ := aM (Zfj hq_ BK122.out); have n2_ := aM (Zfj hq_ BK123.out); have n3_ := aM (below_at hq_ HB.out); clear hq_ HO129 BK122 BK123 HB; have HO129 := n0_; have BK122 := n1_; have BK123 := n2_; have HB := n3_; clear n0_ n1_ n2_ n3_)); refine Zbh (t := 24) (p := 3) (v := ?vo_w27) (w1 := (w24.setCell ⟨gb122, 0, none⟩ (.slice Ao25 t127.length co25))) ?hg ?ho ?hn ?hr ?_; (case ho => rfl); (case hg => rfl); (case hn => rfl); (case hr => first | (go_simp; done) | (go_simp; rfl)); intro w27 hw; have n0_ : Zq (Kd.S k48a 48 w27 w.heap.size (fun _ => True) (.slice Ao25 t127.length co25) t127) := ⟨(by rw [hw]; exact (by (with_reducible repeat first | apply Kd.Zao | apply Kd.Zal | apply Kd.Zaw); exact Kd.Zbc (Kd.Zcs (p := ⟨gb122, 0, none⟩) (Kd.Zcg HO129.out BK122.out (by decide)) (fun _ hk => hk.2) (.slice Ao25 t127.length co25)) (fun _ hk => trivial)))⟩; have n1_ : Zq (w27.heap[gb122]? = some (.cells #[.slice Ao25 t127.length co25] 24 (0, 0))) := ⟨(by rw [hw]; exact (by (with_reducible repeat first | apply bN | apply bD | apply bA); refine Yo (cs := #[.slice (some ad125) l0_0.length c0_0]) ?_ 0 _ rfl; (with_reducible repeat first | apply bN | apply bD | apply bA); exact BK122.out))⟩; have n2_ : Zq (w27.heap[gb123]? = some (.cells #[.slice none 0 0] 24 (0, 0))) := ⟨(by rw [hw]; exact (by (with_reducible repeat first | apply bN | apply bD | apply bA); refine Z8 ?_ NB123_122.out _; (with_reducible repeat first | apply bN | apply bD | apply bA); exact BK123.out))⟩; have n3_ : Zq (Below w.heap.size w w27) := ⟨(by rw [hw]; exact (by repeat (first | (with_reducible first | exact HB.out | apply wA | apply wN | apply wD | refine Za ?_ GE122.out | refine Za ?_ GE123.out) | exact HB.out)))⟩; clear hw HO129 BK122 BK123 HB; have HO129 := n0_; have BK122 := n1_; have BK123 := n2_; have HB := n3_; clear n0_ n1_ n2_ n3_; have hcz28_0 : w27.cell? ⟨gb122, 0, none⟩ = some (.slice Ao25 t127.length co25) := (Ze BK122.out 0).trans rfl; have hfz28_0 := Zg BK122.out 0; have p130 : 0 ≤ (a1 : Int) := of_decide_eq_true (by first | (with_reducible assumption) | assumption); have q130 : a1 < (t127.length : Int) := of_decide_eq_true (by first | (with_reducible assumption) | assumption); obtain ⟨ad130, A130_0, c130_0, A130_1, c130_1, e130, hx130_0, hx130_1, hl130_0, hi130_0, hl130_1, hi130_1⟩ := Zbl (Kd.Zcn HO129.out).2.2 a1 p130 q130; cases e130; obtain ⟨ce130, hce130, hMe130, hcc130⟩ := Kd.S_get HO129.out z48 a1 p130 (by first | exact q130 | exact of_decide_eq_true (by first | (with_reducible assumption) | assumption) | (have e_ := (Kd.Zcn HO129.out).1; omega)); obtain ⟨ve130_0, ve130_1, rfl, ge130_0, ge130_1⟩ := Zd4 hMe130; have hv130_0 := hcc130 0 _ rfl; rw [Nat.add_zero] at hv130_0; replace hv130_0 := Option.some.inj (hv130_0.symm.trans hx130_0); rw [hv130_0] at ge130_0; have HL130_0 := aM (show Kd.R (Kd.int .u8) 5 _ _ _ _ ((Zo t127 a1).f0) from ge130_0); clear hv130_0 ge130_0; have hv130_1 := hcc130 1 _ rfl; rw [Zb4 _ _ 1 (by omega)] at hv130_1; replace hv130_1 := Option.some.inj (hv130_1.symm.trans hx130_1); rw [hv130_1] at ge130_1; have HL130_1 := aM (show Kd.R (Kd.int .u8) 5 _ _ _ _ ((Zo t127 a1).f1) from ge130_1); clear hv130_1 ge130_1; clear hcc130 hce130; have HR130_0 := aM hi130_0; have HC130_0 := aM hl130_0; clear hi130_0 hl130_0; have HR130_1 := aM hi130_1; have HC130_1 := aM hl130_1; clear hi130_1 hl130_1; replace p130 := eq_true p130; replace q130 := eq_true q130)))
      unfold Y2.tail at H
      have c17p : a1 < (t127.length : Int) := of_decide_eq_true (by assumption)
      have c6p : 0 ≤ a1 := of_decide_eq_true (by assumption)
      rw [if_pos c6p, if_pos c17p] at H
      rcases Nat.lt_or_ge ((Zo t127 a1).f1.length + l2.length) 140737488355328 with hlim | hlim
      case inr => rw [if_neg (Nat.not_lt.2 hlim)] at H; exact absurd H (by simp)
      rw [if_pos hlim] at H
      simp only [Option.some.injEq, Prod.mk.injEq] at H
      obtain ⟨hr1, rfl⟩ := H
      have HLIM := aM hlim
      clear hlim
      obtain ⟨go, co, eo, hgb, hgl, cl, hGB⟩ := Kd.S_form HO129.out (by omega)
      cases eo
      have hS1 := Kd.S_set HO129.out BK122.out (by decide) 0 (.slice (some ⟨go, 0, none⟩) t127.length co25)
      have hb1 := Yo BK122.out 0 (.slice (some ⟨go, 0, none⟩) t127.length co25) rfl
      have hb2 := Z8 (p := ⟨gb122, 0, none⟩) BK123.out NB123_122.out (.slice (some ⟨go, 0, none⟩) t127.length co25)
      have hB1 := Za (j := 0) (v := .slice (some ⟨go, 0, none⟩) t127.length co25) HB.out GE122.out
      obtain ⟨oki, cE, hcl, hM, hcc, hfr, hoki, hH⟩ := Kd.S_elem hS1 z48 a1 c6p c17p
      obtain ⟨fE, v0, v1, rfl, g0, g1⟩ := Zc2 hM
      obtain ⟨A1, c1, rfl⟩ := Kd.Za2 g1
      have hx1 : World.cell? _ ⟨go, a1.toNat * 2 + 1, none⟩ = some (.slice A1 (Zo t127 a1).f1.length c1) := hcc 1 _ rfl
      have hp1 : (0 ≤ a1) = True := eq_true c6p
      have hp2 : (a1 < (t127.length : Int)) = True := eq_true c17p
      have HS1 := aM hS1
      have HB1 := aM hb1
      have HB2 := aM hb2
      have HBL := aM hB1
      have HH := aM hH
      have HG0 := aM g0
      have HG1 := aM g1
      have HCL := aM hcl
      clear hS1 hb1 hb2 hB1 hH g0 g1 hcl hM hoki hgb hgl hGB
      go_simp
      obtain ⟨y1, hy1⟩ : ∃ y_ : List Int, y_ = (Zo t127 a1).f1 ++ l2 := ⟨_, rfl⟩
      have HY := aM hy1
      obtain ⟨x1, hx1_⟩ : ∃ x_ : S48, x_ = ⟨(Zo t127 a1).f0, y1⟩ := ⟨_, rfl⟩
      have HX := aM hx1_
      rw [← hy1, ← hx1_] at hr1
      subst hr1
      clear hy1 hx1_
      go_wp2_with (first | ((with_reducible refine Z7 (N := 46) rfl ?_); at_builtin; refine Kd.Zbp (Kd.int .u8) (w0 := w) w.heap.size rfl (.tmp 44) (.tmp 45) 30 5 (.int .u8 0) 1 rfl Try.underlying30 info5 rfl (by decide) (by omega) (.slice A1 (Zo t127 a1).f1.length c1) (Zo t127 a1).f1 l2 _ _ _ (fun k => (oki k ∧ fE k = false) ∨ (w24.setCell ⟨gb122, 0, none⟩ (.slice (some ⟨go, 0, none⟩) t127.length co25)).heap.size ≤ k) (fun _ => False) rfl rfl (Kd.Zar HG1.out (fun _ h => .inl h)) (Kd.Yv HR2.out HBL.out) (fun _ _ h => h) (fun _ h => h.elim) (fun _ h => .inr h) HBL.out (Zd HBL.out) ?hl ?_; (case hl => have := HLIM.out; omega); intro v1 w1 ho hb hg hat; rw [← HY.out] at ho; have HN1 := aM ho; have HN0 := aM (Kd.R_grown (Kd.Zar (Kd.Zch HG0.out) (ok' := fun k => (oki k ∧ fE k = true) ∧ k < (w24.setCell ⟨gb122, 0, none⟩ (.slice (some ⟨go, 0, none⟩) t127.length co25)).heap.size) (fun k h => ⟨h.1, h.2.2.1⟩)) hg (fun k hk he => by have h1 := (HG1.out.1 k he.symm).2; rw [hk.1.2] at h1; exact absurd h1 (by decide))); have HN2 := aM (Kd.Zeh (Kd.H_widen HH.out) hg (fun k he => .inl (HG1.out.1 k he).1)); have HN3 := aM (Yc HB1.out hg (Kd.R_ne HG1.out HB1.out (by decide))); have HN4 := aM (Yc HB2.out hg (Kd.R_ne HG1.out HB2.out (by decide))); have HN5 := aM hb; clear ho hb hg hat; obtain ⟨A3, c3, eo3⟩ := Kd.Za2 HN1.out; subst eo3) | ((with_reducible refine Zbm (t := 30) (p := 48) rfl ?_); refine Kd.H_store k48a (w0 := w) w.heap.size rfl rfl 30 (.tmp 48) (.tmp 46) rfl 48 a1 1 t127 x1 (.slice A3 y1.length c3) [.slice A3 y1.length c3] _ (fun _ => True) _ _ rfl rfl rfl rfl (by kernel_rfl) (fun q hq => by rw [List.mem_singleton.1 hq]; rfl) HN2.out c6p c17p (show 1 + 1 ≤ 2 by decide) (HX.out ▸ k48a_mk (⟨(Zo t127 a1).f0, y1⟩ : S48) HN0.out HN1.out (fun k h0 h1 => h1.elim (fun h => by have e1 := h0.1.2; rw [h.2] at e1; exact absurd e1 (by decide)) (fun h => absurd h0.2 (Nat.not_lt.2 h)))) (fun k hk => hk.elim (fun h => .inl h.1.1) (fun h => h.elim (fun h => .inl h.1) (fun h => .inr ⟨trivial, h⟩))) HN5.out ?_; intro w2 hs hb hg; have HS2 := aM hs; have HB3 := aM (Yc HN3.out hg (Kd.S_ne HS1.out HB1.out (by decide))); have HB4 := aM (Yc HN4.out hg (Kd.S_ne HS1.out HB2.out (by decide))); have HB5 := aM hb; clear hs hb hg; have hcz1 := (Ze HB3.out 0).trans rfl; have hfz1 := Zg HB3.out 0; have hcz2 := (Ze HB4.out 0).trans rfl; have hfz2 := Zg HB4.out 0))
      refine bodyPost_ret (Zau rfl _ _ gb123 24 #[.slice (some ⟨go, 0, none⟩) t127.length co25] (0, 0) _ rfl (Yo (cs := #[.slice none 0 0]) HB4.out 0 _ rfl) Try.underlying24 rfl (by kernel_rfl)) rfl ?_
      have hlen : (t127.set a1.toNat x1).length = t127.length := List.length_set
      exact ⟨_, rfl, k48a_S (Kd.S_set HS2.out HB4.out (by decide) 0 _), Za HB5.out GE123.out⟩
     ·rw [if_neg c17] at H
      exact absurd H (by simp)
   ·rw [if_neg c7] at H
    exact absurd H (by simp)
  ·rw [if_neg c6] at H
   exact absurd H (by simp)
 ·replace c5 := Bool.eq_false_iff.mpr c5
  subst c5
  have H1 : (some (([] : List (S48)), 11)) = some (r1, r2) := by rw [if_neg (show ¬ (false = true) by decide)] at H; exact H
  clear H
  have H := H1
  clear H1
  simp only [Option.some.injEq, Prod.mk.injEq] at H
  obtain ⟨rfl, rfl⟩ := H
  go_enter Try.func14, Try.ntmps14
  go_wp2_with (first | ((with_reducible refine Z7 (N := 3) rfl ?_); refine Z4 ?hg (N := 3) ?hd (cs := #[.slice A0_0 l0_0.length c0_0]) (t := 24) ?hr ?_; (case hd => rfl); (case hg => rfl); (case hr => first | (go_simp; done) | (go_simp; rfl)); intro gb122 hg w29 hbox hb; have n0_ := aM (Zj (by repeat (first | (with_reducible first | exact HB.out | apply wA | apply wN | apply wD) | exact HB.out)) hb); have n1_ := aM (hbox); have n2_ := aM ((by rw [hg]; exact (Zd (by repeat (first | (with_reducible first | exact HB.out | apply wA | apply wN | apply wD) | exact HB.out))) : w.heap.size ≤ gb122)); have n3_ := aM ((by rw [hg]; exact (Zd (by repeat (first | (with_reducible first | exact HB.out | apply wA | apply wN | apply wD) | exact HB.out))) : w.heap.size ≤ gb122)); clear HB; have HB := n0_; have BK122 := n1_; have GW122 := n2_; have GE122 := n3_; clear n0_ n1_ n2_ n3_; clear hb hbox hg) | ((with_reducible refine Z7 (N := 6) rfl ?_); refine Z4 ?hg (N := 6) ?hd (cs := #[.slice none 0 0]) (t := 24) ?hr ?_; (case hd => rfl); (case hg => rfl); (case hr => first | (go_simp; done) | (go_simp; rfl)); intro gb123 hg w30 hbox hb; have n0_ := aM (Zf (g := gb122) (o := .cells #[.slice A0_0 l0_0.length c0_0] 24 (0, 0)) (by (with_reducible repeat first | apply bN | apply bD | apply bA); exact BK122.out) hb); have n1_ := aM (Zj (by repeat (first | (with_reducible first | exact HB.out | apply wA | apply wN | apply wD | refine Za ?_ GE122.out) | exact HB.out)) hb); have n2_ := aM (hbox); have n3_ := aM ((by rw [hg]; exact (Zd (by repeat (first | (with_reducible first | exact HB.out | apply wA | apply wN | apply wD | refine Za ?_ GE122.out) | exact HB.out))) : w.heap.size ≤ gb123)); have n4_ := aM ((by rw [hg]; exact (Zd (by repeat (first | (with_reducible first | exact HB.out | apply wA | apply wN | apply wD | refine Za ?_ GE122.out) | exact HB.out))) : w.heap.size ≤ gb123)); have n5_ := aM ((by rw [hg]; exact Nat.ne_of_lt (Ya (g := gb122) (o := .cells #[.slice A0_0 l0_0.length c0_0] 24 (0, 0)) (by (with_reducible repeat first | apply bN | apply bD | apply bA); exact BK122.out)) : gb122 ≠ gb123)); have n6_ := aM ((by rw [hg]; exact Nat.ne_of_gt (Ya (g := gb122) (o := .cells #[.slice A0_0 l0_0.length c0_0] 24 (0, 0)) (by (with_reducible repeat first | apply bN | apply bD | apply bA); exact BK122.out)) : gb123 ≠ gb122)); clear BK122 HB; have BK122 := n0_; have HB := n1_; have BK123 := n2_; have GW123 := n3_; have GE123 := n4_; have NB122_123 := n5_; have NB123_122 := n6_; clear n0_ n1_ n2_ n3_ n4_ n5_ n6_; clear hb hbox hg; have hnb31 := NB122_123.out; have hnc31 := NB123_122.out; have hcz32_0 : w30.cell? ⟨gb122, 0, none⟩ = some (.slice A0_0 l0_0.length c0_0) := (Ze BK122.out 0).trans rfl; have hfz32_0 := Zg BK122.out 0) | (go_at_call 27; (with_reducible refine (Za1.calls _ _ l0_0 a1 false _ ?side1 ?side2 A4.out).mono ?_); (case side1 => repeat (first | exact (Kd.Yv HR0_0.out HB.out) | (with_reducible refine Kd.Yh ?_ _) | (with_reducible refine Kd.Yg ?_ _) | (with_reducible refine Kd.Yw ?_))); (case side2 => exact HC0_0.out); rintro e w33 ⟨rfl, hb⟩; have n0_ := aM (Zf (g := gb122) (o := .cells #[.slice A0_0 l0_0.length c0_0] 24 (0, 0)) (by (with_reducible repeat first | apply bN | apply bD | apply bA); exact BK122.out) hb); have n1_ := aM (Zf (g := gb123) (o := .cells #[.slice none 0 0] 24 (0, 0)) (by (with_reducible repeat first | apply bN | apply bD | apply bA); exact BK123.out) hb); have n2_ := aM (Zj (by repeat (first | (with_reducible first | exact HB.out | apply wA | apply wN | apply wD | refine Za ?_ GE122.out | refine Za ?_ GE123.out) | exact HB.out)) hb); clear BK122 BK123 HB; have BK122 := n0_; have BK123 := n1_; have HB := n2_; clear n0_ n1_ n2_; (try clear hb); (try clear hb2); (try clear hk); (try clear hi); (try clear hge_); have hcz34_0 : w33.cell? ⟨gb123, 0, none⟩ = some (.slice none 0 0) := (Ze BK123.out 0).trans rfl; have hfz34_0 := Zg BK123.out 0))
  repeat (go_quiet (first | ((with_reducible refine Z7 (N := 3) rfl ?_); refine Z4 ?hg (N := 3) ?hd (cs := #[.slice A0_0 l0_0.length c0_0]) (t := 24) ?hr ?_; (case hd => rfl); (case hg => rfl); (case hr => first | (go_simp; done) | (go_simp; rfl)); intro gb122 hg w29 hbox hb; have n0_ := aM (Zj (by repeat (first | (with_reducible first | exact HB.out | apply wA | apply wN | apply wD) | exact HB.out)) hb); have n1_ := aM (hbox); have n2_ := aM ((by rw [hg]; exact (Zd (by repeat (first | (with_reducible first | exact HB.out | apply wA | apply wN | apply wD) | exact HB.out))) : w.heap.size ≤ gb122)); have n3_ := aM ((by rw [hg]; exact (Zd (by repeat (first | (with_reducible first | exact HB.out | apply wA | apply wN | apply wD) | exact HB.out))) : w.heap.size ≤ gb122)); clear HB; have HB := n0_; have BK122 := n1_; have GW122 := n2_; have GE122 := n3_; clear n0_ n1_ n2_ n3_; clear hb hbox hg) | ((with_reducible refine Z7 (N := 6) rfl ?_); refine Z4 ?hg (N := 6) ?hd (cs := #[.slice none 0 0]) (t := 24) ?hr ?_; (case hd => rfl); (case hg => rfl); (case hr => first | (go_simp; done) | (go_simp; rfl)); intro gb123 hg w30 hbox hb; have n0_ := aM (Zf (g := gb122) (o := .cells #[.slice A0_0 l0_0.length c0_0] 24 (0, 0)) (by (with_reducible repeat first | apply bN | apply bD | apply bA); exact BK122.out) hb); have n1_ := aM (Zj (by repeat (first | (with_reducible first | exact HB.out | apply wA | apply wN | apply wD | refine Za ?_ GE122.out) | exact HB.out)) hb); have n2_ := aM (hbox); have n3_ := aM ((by rw [hg]; exact (Zd (by repeat (first | (with_reducible first | exact HB.out | apply wA | apply wN | apply wD | refine Za ?_ GE122.out) | exact HB.out))) : w.heap.size ≤ gb123)); have n4_ := aM ((by rw [hg]; exact (Zd (by repeat (first | (with_reducible first | exact HB.out | apply wA | apply wN | apply wD | refine Za ?_ GE122.out) | exact HB.out))) : w.heap.size ≤ gb123)); have n5_ := aM ((by rw [hg]; exact Nat.ne_of_lt (Ya (g := gb122) (o := .cells #[.slice A0_0 l0_0.length c0_0] 24 (0, 0)) (by (with_reducible repeat first | apply bN | apply bD | apply bA); exact BK122.out)) : gb122 ≠ gb123)); have n6_ := aM ((by rw [hg]; exact Nat.ne_of_gt (Ya (g := gb122) (o := .cells #[.slice A0_0 l0_0.length c0_0] 24 (0, 0)) (by (with_reducible repeat first | apply bN | apply bD | apply bA); exact BK122.out)) : gb123 ≠ gb122)); clear BK122 HB; have BK122 := n0_; have HB := n1_; have BK123 := n2_; have GW123 := n3_; have GE123 := n4_; have NB122_123 := n5_; have NB123_122 := n6_; clear n0_ n1_ n2_ n3_ n4_ n5_ n6_; clear hb hbox hg; have hnb31 := NB122_123.out; have hnc31 := NB123_122.out; have hcz32_0 : w30.cell? ⟨gb122, 0, none⟩ = some (.slice A0_0 l0_0.length c0_0) := (Ze BK122.out 0).trans rfl; have hfz32_0 := Zg BK122.out 0) | (go_at_call 27; (with_reducible refine (Za1.calls _ _ l0_0 a1 false _ ?side1 ?side2 A4.out).mono ?_); (case side1 => repeat (first | exact (Kd.Yv HR0_0.out HB.out) | (with_reducible refine Kd.Yh ?_ _) | (with_reducible refine Kd.Yg ?_ _) | (with_reducible refine Kd.Yw ?_))); (case side2 => exact HC0_0.out); rintro e w33 ⟨rfl, hb⟩; have n0_ := aM (Zf (g := gb122) (o := .cells #[.slice A0_0 l0_0.length c0_0] 24 (0, 0)) (by (with_reducible repeat first | apply bN | apply bD | apply bA); exact BK122.out) hb); have n1_ := aM (Zf (g := gb123) (o := .cells #[.slice none 0 0] 24 (0, 0)) (by (with_reducible repeat first | apply bN | apply bD | apply bA); exact BK123.out) hb); have n2_ := aM (Zj (by repeat (first | (with_reducible first | exact HB.out | apply wA | apply wN | apply wD | refine Za ?_ GE122.out | refine Za ?_ GE123.out) | exact HB.out)) hb); clear BK122 BK123 HB; have BK122 := n0_; have BK123 := n1_; have HB := n2_; clear n0_ n1_ n2_; (try clear hb); (try clear hb2); (try clear hk); (try clear hi); (try clear hge_); have hcz34_0 : w33.cell? ⟨gb123, 0, none⟩ = some (.slice none 0 0) := (Ze BK123.out 0).trans rfl; have hfz34_0 := Zg BK123.out 0)); try go_wp2_with (first | ((with_reducible refine Z7 (N := 3) rfl ?_); refine Z4 ?hg (N := 3) ?hd (cs := #[.slice A0_0 l0_0.length c0_0]) (t := 24) ?hr ?_; (case hd => rfl); (case hg => rfl); (case hr => first | (go_simp; done) | (go_simp; rfl)); intro gb122 hg w29 hbox hb; have n0_ := aM (Zj (by repeat (first | (with_reducible first | exact HB.out | apply wA | apply wN | apply wD) | exact HB.out)) hb); have n1_ := aM (hbox); have n2_ := aM ((by rw [hg]; exact (Zd (by repeat (first | (with_reducible first | exact HB.out | apply wA | apply wN | apply wD) | exact HB.out))) : w.heap.size ≤ gb122)); have n3_ := aM ((by rw [hg]; exact (Zd (by repeat (first | (with_reducible first | exact HB.out | apply wA | apply wN | apply wD) | exact HB.out))) : w.heap.size ≤ gb122)); clear HB; have HB := n0_; have BK122 := n1_; have GW122 := n2_; have GE122 := n3_; clear n0_ n1_ n2_ n3_; clear hb hbox hg) | ((with_reducible refine Z7 (N := 6) rfl ?_); refine Z4 ?hg (N := 6) ?hd (cs := #[.slice none 0 0]) (t := 24) ?hr ?_; (case hd => rfl); (case hg => rfl); (case hr => first | (go_simp; done) | (go_simp; rfl)); intro gb123 hg w30 hbox hb; have n0_ := aM (Zf (g := gb122) (o := .cells #[.slice A0_0 l0_0.length c0_0] 24 (0, 0)) (by (with_reducible repeat first | apply bN | apply bD | apply bA); exact BK122.out) hb); have n1_ := aM (Zj (by repeat (first | (with_reducible first | exact HB.out | apply wA | apply wN | apply wD | refine Za ?_ GE122.out) | exact HB.out)) hb); have n2_ := aM (hbox); have n3_ := aM ((by rw [hg]; exact (Zd (by repeat (first | (with_reducible first | exact HB.out | apply wA | apply wN | apply wD | refine Za ?_ GE122.out) | exact HB.out))) : w.heap.size ≤ gb123)); have n4_ := aM ((by rw [hg]; exact (Zd (by repeat (first | (with_reducible first | exact HB.out | apply wA | apply wN | apply wD | refine Za ?_ GE122.out) | exact HB.out))) : w.heap.size ≤ gb123)); have n5_ := aM ((by rw [hg]; exact Nat.ne_of_lt (Ya (g := gb122) (o := .cells #[.slice A0_0 l0_0.length c0_0] 24 (0, 0)) (by (with_reducible repeat first | apply bN | apply bD | apply bA); exact BK122.out)) : gb122 ≠ gb123)); have n6_ := aM ((by rw [hg]; exact Nat.ne_of_gt (Ya (g := gb122) (o := .cells #[.slice A0_0 l0_0.length c0_0] 24 (0, 0)) (by (with_reducible repeat first | apply bN | apply bD | apply bA); exact BK122.out)) : gb123 ≠ gb122)); clear BK122 HB; have BK122 := n0_; have HB := n1_; have BK123 := n2_; have GW123 := n3_; have GE123 := n4_; have NB122_123 := n5_; have NB123_122 := n6_; clear n0_ n1_ n2_ n3_ n4_ n5_ n6_; clear hb hbox hg; have hnb31 := NB122_123.out; have hnc31 := NB123_122.out; have hcz32_0 : w30.cell? ⟨gb122, 0, none⟩ = some (.slice A0_0 l0_0.length c0_0) := (Ze BK122.out 0).trans rfl; have hfz32_0 := Zg BK122.out 0) | (go_at_call 27; (with_reducible refine (Za1.calls _ _ l0_0 a1 false _ ?side1 ?side2 A4.out).mono ?_); (case side1 => repeat (first | exact (Kd.Yv HR0_0.out HB.out) | (with_reducible refine Kd.Yh ?_ _) | (with_reducible refine Kd.Yg ?_ _) | (with_reducible refine Kd.Yw ?_))); (case side2 => exact HC0_0.out); rintro e w33 ⟨rfl, hb⟩; have n0_ := aM (Zf (g := gb122) (o := .cells #[.slice A0_0 l0_0.length c0_0] 24 (0, 0)) (by (with_reducible repeat first | apply bN | apply bD | apply bA); exact BK122.out) hb); have n1_ := aM (Zf (g := gb123) (o := .cells #[.slice none 0 0] 24 (0, 0)) (by (with_reducible repeat first | apply bN | apply bD | apply bA); exact BK123.out) hb); have n2_ := aM (Zj (by repeat (first | (with_reducible first | exact HB.out | apply wA | apply wN | apply wD | refine Za ?_ GE122.out | refine Za ?_ GE123.out) | exact HB.out)) hb); clear BK122 BK123 HB; have BK122 := n0_; have BK123 := n1_; have HB := n2_; clear n0_ n1_ n2_; (try clear hb); (try clear hb2); (try clear hk); (try clear hi); (try clear hge_); have hcz34_0 : w33.cell? ⟨gb123, 0, none⟩ = some (.slice none 0 0) := (Ze BK123.out 0).trans rfl; have hfz34_0 := Zg BK123.out 0)))
  refine bodyPost_ret (Zau rfl _ _ gb123 24 #[.slice none 0 0] (0, 0) _ rfl (by (with_reducible repeat first | apply bN | apply bD | apply bA); refine Yo (cs := #[.slice none 0 0]) ?_ 0 _ rfl; (with_reducible repeat first | apply bN | apply bD | apply bA); exact BK123.out) Try.underlying24 rfl (by kernel_rfl)) rfl ?_
  exact ⟨_, by first | rfl | (simp [Zy, Zx] <;> rfl) | (simp [*, Zy, Zx] <;> rfl), by first | exact Kd.Zc0 _ _ _ _ _ | exact Kd.Zcw _ _ _ _ _ | exact Kd.Zcr _ _ _ _ _ | exact Kd.Zc1 _ _ _ _ _ | exact Kd.Zbx _ _ _ _ _, by repeat (first | (with_reducible first | exact HB.out | apply wA | apply wN | apply wD | refine Za ?_ GE122.out | refine Za ?_ GE123.out) | exact HB.out)⟩


end Go.Proofs.Ytnfbjdnflifcoaa.PDk

namespace Go.Proofs.Ytnfbjdnflifcoaa.PDk
open Go.RowKit Go.Proofs.YtnfbjdnflifcoaaW.PrintWords Go.Proofs.YtnfbjdnflifcoaaW.PrintLast Go.Proofs.YtnfbjdnflifcoaaW.PrintMore
attribute [local go_sem] Za0 Zay Zbe Zbd Zan Zam Zaz Zax
set_option linter.unusedVariables false
set_option linter.unusedSimpArgs false

theorem Zez {α : Type} {l : List (List α)} {k : Nat} (h : k < l.length) : (l.take (k + 1)).flatten = (l.take k).flatten ++ l[k] := by
  rw [List.take_succ_eq_append_getElem h, List.flatten_append, List.flatten_singleton]
theorem concat_le {α : Type} (l : List (List α)) (k : Nat) : (l.take k).flatten.length ≤ l.flatten.length := by
  have : l.flatten = (l.take k).flatten ++ (l.drop k).flatten := by rw [← List.flatten_append, List.take_append_drop]
  rw [this, List.length_append]
  omega
/-- How long the first k are together. -/
def Zcq {α : Type} (l : List (List α)) (k : Nat) : Nat := (l.take k).flatten.length
theorem flatLen_next {α : Type} {l : List (List α)} {k : Nat} (h : k < l.length) : Zcq l (k + 1) = Zcq l k + l[k].length := by
  unfold Zcq
  rw [Zez h, List.length_append]
theorem flatLen_le {α : Type} (l : List (List α)) (k : Nat) : Zcq l k ≤ l.flatten.length := concat_le l k
theorem flatLen_all {α : Type} (l : List (List α)) : Zcq l l.length = l.flatten.length := by unfold Zcq; rw [List.take_length]
/-- An element of a slice of slices: its cell, and what it leads to. -/
theorem concat_at {α : Type} {d : Kd α} {e : Nat} {W : World} {A : Option Addr} {l : List (List α)} (h : Kd.C (Kd.slice e d) W A l.length l) {k : Nat} (hk : k < l.length) :
    ∃ ad B c, A = some ad ∧ W.cell? (ad.add k) = some (.slice B l[k].length c) ∧ l[k].length ≤ c ∧ Kd.C d W B l[k].length l[k] := by
  obtain ⟨ad, rfl, hc⟩ := h.2.2 (by omega)
  obtain ⟨cs, _, ⟨B, c, rfl, hl, hC⟩, hcell⟩ := hc k l[k] (Qm hk)
  have := hcell 0 _ rfl
  rw [show k * (Kd.slice e d).sz + 0 = k from by show k * 1 + 0 = k; omega] at this
  exact ⟨ad, B, c, rfl, this, hl, hC⟩
set_option maxRecDepth 100000 in
theorem Y9.grow (n : Nat) (w : World) (hn : n ≤ 140737488355328) : Calls Try.prog 37 #[.slice none 0 0, .int .i64 n] w fun e w' => ∃ v0_ : Value, e = .returned v0_ ∧ Kd.R (Kd.int .u8) 5 w' w.heap.size (fun _ => True) v0_ [] ∧ Below w.heap.size w w' := by
  have hn0 : (n : Int) ≤ 140737488355328 := by omega
  have hz : ¬ ((n : Int) < 0) := by omega
  by_cases h0 : n = 0
  · subst h0
    go_enter Try.func37, Try.ntmps37
    go_wp2
    go_ret
    exact ⟨_, rfl, Kd.Zbx _ _ _ _ _, Below.refl _ _⟩
  · have hp : 0 < (n : Int) := by omega
    have HN := Lib.hid hn
    have H0 := Lib.hid h0
    clear hn h0
    have HB := Zq.mk (Below.refl w.heap.size w)
    go_enter Try.func37, Try.ntmps37
    go_wp2_with ((with_reducible refine Z7 (N := 22) rfl ?_); at_builtin; refine Kd.Zfe (Kd.int .u8) (w0 := w) w.heap.size rfl (.tmp 20) (.tmp 21) 30 3 5 (.int .u8 0) 1 rfl Try.underlying30 Try.underlying3 info5 rfl (by decide) (by omega) (.slice none 0 0) [] 0 (n : Int) (fun _ => True) rfl rfl rfl (fun _ _ => trivial) (Kd.Zbx _ _ _ _ _) (by omega) (Below.refl _ _) (Nat.le_refl _) ?hl ?_; (case hl => have := HN.out; simp; omega); intro v1 w1 ho hb hg hat; obtain ⟨A1, c1, rfl, hc1, _⟩ := Kd.Ze4 ho; have HO := Zq.mk ho; have HB := Zq.mk hb; clear ho hb hg hat hc1)
    go_ret
    exact ⟨_, rfl, by have := Kd.R_take (m := 0) HO.out (by omega); rwa [List.take_zero] at this, HB.out⟩

def Y9.f (l0 : List (List Int)) : Option (List Int) := if l0.flatten.length < 140737488355328 then some l0.flatten else none
set_option maxHeartbeats 4000000 in
set_option maxRecDepth 100000 in
theorem Y9.calls (A0 : Option Addr) (c0 : Nat) (l0 : List (List Int)) (r : List Int) (w : World) (hr0 : Kd.C (Kd.slice 5 (Kd.int .u8)) w A0 l0.length l0) (hc0 : l0.length ≤ c0) (h : Y9.f l0 = some r) :
    Calls Try.prog 28 #[.slice A0 l0.length c0] w fun e w' => ∃ v0_ : Value, e = .returned (v0_) ∧ Kd.R (Kd.int .u8) 5 w' w.heap.size (fun _ => True) v0_ r ∧ Below w.heap.size w w' := by
  unfold Y9.f at h
  by_cases hlim : l0.flatten.length < 140737488355328
  · rw [if_pos hlim] at h
    obtain rfl := Option.some.inj h
    clear h
    have hm0 : l0.length ≤ 9223372036854775807 := hr0.2.1
    have HR := Lib.hid hr0
    have HL := Lib.hid hlim
    clear hr0 hlim
    go_enter Try.func28, Try.ntmps28
    go_wp2
    go_loop [3, 11] (fun u3 u11 => ∃ k : Nat, k ≤ l0.length ∧ u11 = .int .i64 k ∧ u3 = .int .i64 (Zcq l0 k : Nat)) (fun _ u11 => l0.length - (intOf u11).toNat)
    case atStart => exact ⟨0, by omega, rfl, rfl⟩
    case round =>
      obtain ⟨k, hk, rfl, rfl⟩ := hrel
      by_cases hlt : k < l0.length
      · obtain ⟨ad, B, c, rfl, hcell, hle, hC⟩ := concat_at HR.out hlt
        have hsum := flatLen_next hlt
        have hle2 := flatLen_le l0 (k + 1)
        have hlim := HL.out
        have HS := Lib.hid hsum
        have hb : Zcq l0 k + l0[k].length < 140737488355328 := by omega
        clear hle2 hlim hsum hC hle
        generalize Zcq l0 k = m at *
        generalize l0[k].length = q at *
        go_wp2
        go_round
        case rel => exact ⟨k + 1, by omega, by go_num, by rw [HS.out]; go_num⟩
        case measure => simp [intOf]; omega
      · obtain rfl : k = l0.length := by omega
        have hfl := flatLen_all l0
        have hfl2 : Zcq l0 l0.length ≤ 140737488355328 := by have := HL.out; omega
        clear hfl
        generalize Zcq l0 l0.length = m at *
        go_wp2_with fail
        refine (Y9.grow _ _ hfl2).mono ?_
        rintro e w1 ⟨v1, rfl, ho1, hb1⟩
        have HO := Zq.mk ho1
        have HB := Zq.mk hb1
        have HR1 := Lib.hid (Kd.Yv HR.out hb1)
        clear ho1 hb1
        go_wp2
        go_loopw [6, 27] (fun u6 u27 W => ∃ k : Nat, k ≤ l0.length ∧ u27 = .int .i64 k ∧ Kd.R (Kd.int .u8) 5 W w.heap.size (fun _ => True) u6 (l0.take k).flatten ∧ Below w.heap.size w W) (fun _ u27 _ => l0.length - (intOf u27).toNat)
        case atStart => exact ⟨0, by omega, rfl, HO.out, HB.out⟩
        case round =>
          clear HO HB
          obtain ⟨k, hk, rfl, ho, hb⟩ := hrel
          obtain ⟨A6, c6, rfl, _, _⟩ := Kd.Ze4 ho
          have HO := Zq.mk ho
          have HB := Zq.mk hb
          clear ho hb
          by_cases hlt : k < l0.length
          · obtain ⟨ad, B, c, rfl, hcell, hle, hC⟩ := concat_at (Kd.Yv HR.out HB.out) hlt
            have hnext := Zez hlt
            have hle2 := concat_le l0 (k + 1)
            have hlim := HL.out
            have hsum : (l0.take (k + 1)).flatten.length = (l0.take k).flatten.length + l0[k].length := by rw [hnext, List.length_append]
            have HS := Lib.hid hnext
            have HCC := Lib.hid hC
            have HBD := Lib.hid (show (l0.take k).flatten.length + l0[k].length < 140737488355328 by omega)
            clear hnext hle2 hlim hsum hC hle
            generalize hF : (l0.take k).flatten = fl at *
            clear hF
            go_wp2_with ((with_reducible refine Z7 (N := 33) rfl ?_); at_builtin; refine Kd.Zbp (Kd.int .u8) (w0 := w) w.heap.size rfl (.tmp 31) (.tmp 32) 30 5 (.int .u8 0) 1 rfl Try.underlying30 info5 rfl (by decide) (by omega) (.slice A6 fl.length c6) fl l0[k] _ _ _ (fun _ => True) (fun _ => False) rfl rfl HO.out HCC.out (fun _ _ h => h) (fun _ h => h.elim) (fun _ _ => trivial) HB.out (Zd HB.out) ?hl ?_; (case hl => have := HBD.out; omega); intro v7 w7 ho hb hg hat; rw [← HS.out] at ho; clear HO HB; have HO := Zq.mk ho; have HB := Zq.mk hb; clear ho hb hg hat)
            go_roundw
            case rel => exact ⟨k + 1, by omega, by go_num, HO.out, HB.out⟩
            case measure => simp [intOf]; omega
          · obtain rfl : k = l0.length := by omega
            have he := Lib.hid (show (l0.take l0.length).flatten = l0.flatten by rw [List.take_length])
            go_wp2
            go_ret
            exact ⟨_, rfl, by rw [← he.out]; exact HO.out, HB.out⟩
  · rw [if_neg hlim] at h
    exact absurd h (by simp)

end Go.Proofs.Ytnfbjdnflifcoaa.PDk

namespace Go.Proofs.Ytnfbjdnflifcoaa.PDk
open Go.RowKit Go.Proofs.YtnfbjdnflifcoaaW.PrintWords Go.Proofs.YtnfbjdnflifcoaaW.PrintLast Go.Proofs.YtnfbjdnflifcoaaW.PrintMore
attribute [local go_sem] Za0 Zay Zbe Zbd Zan Zam Zaz Zax
set_option linter.unusedVariables false
set_option linter.unusedSimpArgs false

def Za7.f (l0_0 : List (S48)) (a1 : Int) : Option (List Int × Int) := (Za1.f l0_0 a1).bind fun t132 => (if t132 = true then (if 0 ≤ a1 then (if a1 < (l0_0.length : Int) then ((Y9.f (([(Zo l0_0 a1).f0, (Zo l0_0 a1).f1] : List (List Int)))).bind fun t138 => (some (t138, 0))) else (none)) else (none)) else (some (([] : List Int), 11)))
def Za7.T3 : Bool × List (List Nat × List Nat) := (true, [([], []), ([0], [0]), ([], []), ([1, 2], [1, 2]), ([3], [3]), ([4], [4]), ([], []), ([6], [6]), ([], []), ([7, 8], [7, 8]), ([9], [9]), ([10], [10]), ([5, 11], [5, 11]), ([12], [12]), ([13, 13, 0, 1, 2, 3, 4, 5, 6, 7, 8, 9, 10, 11, 12, 13], [13]), ([14, 0, 1, 2, 3, 4, 5, 6, 7, 8, 9, 10, 11, 12, 13, 14], [])])
def Za7.B3 : List Nat := [0, 1, 0, 7, 15, 31, 0, 64, 0, 448, 960, 1984, 4095, 8191, 16383, 32767]
theorem Za7.tab3 : rtab .any (opsOf Try.f15 3) = Za7.T3 := by kernel_rfl
theorem Za7.bits3 : Zcd Za7.T3.2 Za7.B3 = true := by kernel_rfl
set_option maxHeartbeats 8000000 in
set_option maxRecDepth 100000 in
theorem Za7.calls (P0_0_ : Nat → Prop) (A0_0 : Option Addr) (c0_0 : Nat) (l0_0 : List (S48)) (a1 : Int) (r1 : List Int) (r2 : Int) (w : World) (hs0_0 : Kd.V k48 48 w w.heap.size (fun k_ => P0_0_ k_) (.slice A0_0 l0_0.length c0_0) l0_0) (h : Za7.f l0_0 a1 = some (r1, r2)) :
  Calls Try.prog 15 #[.agg #[.slice A0_0 l0_0.length c0_0], .int .i64 a1] w fun e w' => ∃ v0_ : Value, e = .returned (.tuple #[v0_, .int .i64 r2]) ∧ Kd.R (Kd.int .u8) 5 w' w.heap.size (fun k_ => (w.heap.size ≤ k_)) v0_ r1 ∧ Below w.heap.size w w' := by
 have hu24 := Try.underlying24
 have HO0_0 := aM (show Kd.V k48 48 w w.heap.size (fun k_ => (P0_0_ k_ ∨ w.heap.size ≤ k_)) (.slice A0_0 l0_0.length c0_0) l0_0 from Kd.Yd hs0_0 (fun k_ hk => .inl hk))
 have HB := aM (Below.refl w.heap.size w)
 have H : ((Za1.f l0_0 a1).bind fun t132 => (if t132 = true then (if 0 ≤ a1 then (if a1 < (l0_0.length : Int) then ((Y9.f (([(Zo l0_0 a1).f0, (Zo l0_0 a1).f1] : List (List Int)))).bind fun t138 => (some (t138, 0))) else (none)) else (none)) else (some (([] : List Int), 11)))) = some (r1, r2) := h
 clear h
 replace H := Option.bind_eq_some_iff.mp H
 obtain ⟨t132, A30, H⟩ := H
 replace H : (if t132 = true then (if 0 ≤ a1 then (if a1 < (l0_0.length : Int) then ((Y9.f (([(Zo l0_0 a1).f0, (Zo l0_0 a1).f1] : List (List Int)))).bind fun t138 => (some (t138, 0))) else (none)) else (none)) else (some (([] : List Int), 11))) = some (r1, r2) := H
 have A3 := aM A30
 clear A30
 by_cases c4 : t132 = true
 ·subst c4
  have H1 : (if 0 ≤ a1 then (if a1 < (l0_0.length : Int) then ((Y9.f (([(Zo l0_0 a1).f0, (Zo l0_0 a1).f1] : List (List Int)))).bind fun t138 => (some (t138, 0))) else (none)) else (none)) = some (r1, r2) := by rw [if_pos rfl] at H; exact H
  clear H
  have H := H1
  clear H1
  by_cases c5 : 0 ≤ a1
  ·rw [if_pos c5] at H
   have c5b0 : decide (0 ≤ a1) = true := decide_eq_true c5
   clear c5
   by_cases c6 : a1 < (l0_0.length : Int)
   ·rw [if_pos c6] at H
    have c6b0 : decide (a1 < (l0_0.length : Int)) = true := decide_eq_true c6
    clear c6
    obtain ⟨y135, hy135⟩ : ∃ y_ : List (List Int), y_ = (([(Zo l0_0 a1).f0, (Zo l0_0 a1).f1] : List (List Int))) := ⟨_, rfl⟩
    replace H : ((Y9.f y135).bind fun t138 => (some (t138, 0))) = some (r1, r2) := by first | (rw [hy135]; with_reducible exact H) | (have H2_ := (Option.bind_some _ _).symm.trans H; rw [hy135]; with_reducible exact H2_) | (have H2_ := (Option.bind_some _ _).symm.trans H; with_reducible exact H2_) | with_reducible exact H | (rw [hy135]; exact H) | exact H
    have Ny135 := aM hy135
    clear hy135
    replace H := Option.bind_eq_some_iff.mp H
    obtain ⟨t138, A70, H⟩ := H
    replace H : (some (t138, 0)) = some (r1, r2) := H
    have A7 := aM A70
    clear A70
    simp only [Option.some.injEq, Prod.mk.injEq] at H
    obtain ⟨rfl, rfl⟩ := H
    go_enter Try.func15, Try.ntmps15
    try go_wp2_with (first | ((with_reducible refine Z7 (N := 2) rfl ?_); refine Z4 ?hg (N := 2) ?hd (cs := #[.slice A0_0 l0_0.length c0_0]) (t := 24) ?hr ?_; (case hd => rfl); (case hg => rfl); (case hr => first | (go_simp; done) | (go_simp; rfl)); intro gb131 hg w8 hbox hb; have n0_ := aM (Kd.Y0 (Kd.Yx (by (with_reducible repeat first | apply Kd.Zv | apply Kd.Zu | apply Kd.Z0); exact HO0_0.out) gb131 (Nat.le_of_eq hg.symm)) hb); have n1_ := aM (Zj (by repeat (first | (with_reducible first | exact HB.out | apply wA | apply wN | apply wD) | exact HB.out)) hb); have n2_ := aM (hbox); have n3_ := aM ((by rw [hg]; exact (Zd (by repeat (first | (with_reducible first | exact HB.out | apply wA | apply wN | apply wD) | exact HB.out))) : w.heap.size ≤ gb131)); have n4_ := aM ((by rw [hg]; exact (Zd (by repeat (first | (with_reducible first | exact HB.out | apply wA | apply wN | apply wD) | exact HB.out))) : w.heap.size ≤ gb131)); clear HO0_0 HB; have HO0_0 := n0_; have HB := n1_; have BK131 := n2_; have GW131 := n3_; have GE131 := n4_; clear n0_ n1_ n2_ n3_ n4_; clear hb hbox hg; have hcz9_0 : w8.cell? ⟨gb131, 0, none⟩ = some (.slice A0_0 l0_0.length c0_0) := (Ze BK131.out 0).trans rfl; have hfz9_0 := Zg BK131.out 0) | ((with_reducible refine Yf (f := 27) rfl ?_); refine Zap (some 8) rfl rfl Try.func27 (by kernel_rfl) rfl #[.agg #[.slice A0_0 l0_0.length c0_0], .int .i64 a1] rfl (by (try simp only [Qi, Qj, Qk]); first | done | rfl | (simp only [Qe, Qd]; rfl)) ?_; (with_reducible refine (Za1.calls _ _ l0_0 a1 true _ ?side1 ?side2 A3.out).mono ?_); (case side1 => repeat (first | exact (Kd.Zae HO0_0.out).2.2 | (with_reducible refine Kd.Yh ?_ _) | (with_reducible refine Kd.Yg ?_ _) | (with_reducible refine Kd.Yw ?_))); (case side2 => exact (Kd.Zae HO0_0.out).2.1); rintro e w10 ⟨rfl, hb⟩; refine ⟨_, rfl, ?_⟩; have n0_ := aM (Kd.Y0 (by (with_reducible repeat first | apply Kd.Zv | apply Kd.Zu | apply Kd.Z0); exact HO0_0.out) hb); have n1_ := aM (Zf (g := gb131) (o := .cells #[.slice A0_0 l0_0.length c0_0] 24 (0, 0)) (by (with_reducible repeat first | apply bN | apply bD | apply bA); exact BK131.out) hb); have n2_ := aM (Zj (by repeat (first | (with_reducible first | exact HB.out | apply wA | apply wN | apply wD | refine Za ?_ GE131.out) | exact HB.out)) hb); clear HO0_0 BK131 HB; have HO0_0 := n0_; have BK131 := n1_; have HB := n2_; clear n0_ n1_ n2_; (try clear hb); (try clear hb2); (try clear hk); (try clear hi); (try clear hge_)))
    have n0_ := aM (Kd.Z0 HO0_0.out)
    have n1_ := aM (bD BK131.out)
    have n2_ := aM (wD HB.out)
    clear HO0_0 BK131 HB
    have HO0_0 := n0_
    have BK131 := n1_
    have HB := n2_
    clear n0_ n1_ n2_
    have p133 : 0 ≤ (a1 : Int) := of_decide_eq_true (by first | (with_reducible assumption) | assumption)
    have q133 : a1 < (l0_0.length : Int) := of_decide_eq_true (by first | (with_reducible assumption) | assumption)
    obtain ⟨ad133, A133_0, c133_0, A133_1, c133_1, e133, hx133_0, hx133_1, hl133_0, hi133_0, hl133_1, hi133_1⟩ := Zbl (Kd.Zae HO0_0.out).2.2 a1 p133 q133
    cases e133
    obtain ⟨ce133, hce133, hMe133, hcc133⟩ := Kd.V_get HO0_0.out z48 a1 p133 (by first | exact q133 | exact of_decide_eq_true (by first | (with_reducible assumption) | assumption) | (have e_ := (Kd.Zae HO0_0.out).1; omega))
    obtain ⟨ua133_0, uc133_0, ua133_1, uc133_1, rfl, ul133_0, ge133_0, ul133_1, ge133_1⟩ := Zce hMe133
    have hv133_0 := hcc133 0 _ rfl
    rw [Nat.add_zero] at hv133_0
    replace hv133_0 := Option.some.inj (hv133_0.symm.trans hx133_0)
    injection hv133_0 with hva_ hvn_ hvc_
    rw [hva_] at ge133_0
    rw [hvc_] at ul133_0
    have HL133_0 := aM (show Kd.V (Kd.int .u8) 5 _ w.heap.size _ _ ((Zo l0_0 a1).f0) from Kd.V_mk ul133_0 ge133_0)
    clear hva_ hvn_ hvc_ ge133_0 ul133_0
    have hv133_1 := hcc133 1 _ rfl
    rw [Zb4 _ _ 1 (by omega)] at hv133_1
    replace hv133_1 := Option.some.inj (hv133_1.symm.trans hx133_1)
    injection hv133_1 with hva_ hvn_ hvc_
    rw [hva_] at ge133_1
    rw [hvc_] at ul133_1
    have HL133_1 := aM (show Kd.V (Kd.int .u8) 5 _ w.heap.size _ _ ((Zo l0_0 a1).f1) from Kd.V_mk ul133_1 ge133_1)
    clear hva_ hvn_ hvc_ ge133_1 ul133_1 hcc133 hce133
    have HR133_0 := aM hi133_0
    have HC133_0 := aM hl133_0
    clear hi133_0 hl133_0
    have HR133_1 := aM hi133_1
    have HC133_1 := aM hl133_1
    clear hi133_1 hl133_1
    replace p133 := eq_true p133
    replace q133 := eq_true q133
    have p134 : 0 ≤ (a1 : Int) := of_decide_eq_true (by first | (with_reducible assumption) | assumption)
    have q134 : a1 < (l0_0.length : Int) := of_decide_eq_true (by first | (with_reducible assumption) | assumption)
    obtain ⟨ad134, A134_0, c134_0, A134_1, c134_1, e134, hx134_0, hx134_1, hl134_0, hi134_0, hl134_1, hi134_1⟩ := Zbl (Kd.Zae HO0_0.out).2.2 a1 p134 q134
    obtain rfl : ad133 = ad134 := (by injection e134)
    obtain ⟨ce134, hce134, hMe134, hcc134⟩ := Kd.V_get HO0_0.out z48 a1 p134 (by first | exact q134 | exact of_decide_eq_true (by first | (with_reducible assumption) | assumption) | (have e_ := (Kd.Zae HO0_0.out).1; omega))
    obtain ⟨ua134_0, uc134_0, ua134_1, uc134_1, rfl, ul134_0, ge134_0, ul134_1, ge134_1⟩ := Zce hMe134
    have hv134_0 := hcc134 0 _ rfl
    rw [Nat.add_zero] at hv134_0
    replace hv134_0 := Option.some.inj (hv134_0.symm.trans hx134_0)
    injection hv134_0 with hva_ hvn_ hvc_
    rw [hva_] at ge134_0
    rw [hvc_] at ul134_0
    have HL134_0 := aM (show Kd.V (Kd.int .u8) 5 _ w.heap.size _ _ ((Zo l0_0 a1).f0) from Kd.V_mk ul134_0 ge134_0)
    clear hva_ hvn_ hvc_ ge134_0 ul134_0
    have hv134_1 := hcc134 1 _ rfl
    rw [Zb4 _ _ 1 (by omega)] at hv134_1
    replace hv134_1 := Option.some.inj (hv134_1.symm.trans hx134_1)
    injection hv134_1 with hva_ hvn_ hvc_
    rw [hva_] at ge134_1
    rw [hvc_] at ul134_1
    have HL134_1 := aM (show Kd.V (Kd.int .u8) 5 _ w.heap.size _ _ ((Zo l0_0 a1).f1) from Kd.V_mk ul134_1 ge134_1)
    clear hva_ hvn_ hvc_ ge134_1 ul134_1 hcc134 hce134
    have HR134_0 := aM hi134_0
    have HC134_0 := aM hl134_0
    clear hi134_0 hl134_0
    have HR134_1 := aM hi134_1
    have HC134_1 := aM hl134_1
    clear hi134_1 hl134_1
    replace p134 := eq_true p134
    replace q134 := eq_true q134
    have ea_ := Option.some.inj (hx133_0.symm.trans hx134_0)
    injection ea_ with ea_ en_ ec_
    subst ea_
    subst ec_
    clear en_
    have ea_ := Option.some.inj (hx133_1.symm.trans hx134_1)
    injection ea_ with ea_ en_ ec_
    subst ea_
    subst ec_
    clear en_
    refine Zb9 (n := 16) (S := fun w' => w'.cell? ⟨gb131, 0, none⟩ = some (.slice (some ad133) l0_0.length c0_0) ∧ w'.cell? (ad133.add ((a1).toNat * 2)) = some (.slice A133_0 ((Zo l0_0 a1).f0).length c133_0) ∧ w'.cell? ⟨(ad133.add ((a1).toNat * 2)).block, (ad133.add ((a1).toNat * 2)).off + 1, none⟩ = some (.slice A133_1 ((Zo l0_0 a1).f1).length c133_1) ∧ w'.cell? (ad133.add ((a1).toNat * 2)) = some (.slice A133_0 ((Zo l0_0 a1).f0).length c133_0) ∧ w'.cell? ⟨(ad133.add ((a1).toNat * 2)).block, (ad133.add ((a1).toNat * 2)).off + 1, none⟩ = some (.slice A133_1 ((Zo l0_0 a1).f1).length c133_1)) (ds := []) #[Qf, Qf, Qf, Qf, Qf, Qf, Qf, Qf, Qf, Qf, Qf, Qf, Qf, Qf, Qf, Qf] (by kernel_rfl) rfl rfl ⟨(Ze BK131.out 0).trans rfl, hx133_0, hx133_1, hx134_0, hx134_1⟩ (fun hHeld => ?_); refine Zbs Za7.tab3 Za7.bits3 (fun HT_ HW_ => ?_)
    generalize w10.drew = w11 at HO0_0 BK131 HB HL133_0 HL133_1 HL134_0 HL134_1 HR133_0 HR133_1 HR134_0 HR134_1 hx133_0 hx133_1 hx134_0 hx134_1 hHeld ⊢
    refine Yq (i := 0) (N := some 10) (v := ?_) (a' := ?_) #[Qt, Qf, Qf, Qf, Qf, Qf, Qf, Qf, Qf, Qf, Qf, Qf, Qf, Qf, Qf, Qf] rfl rfl (Yk HT_.out (by kernel_rfl)) (fun _ _ _ h => h) (Or.inl ⟨by rfl, ?_⟩) ?_ ?_
    rotate_left
    ·intro w'
     go_simp
     with_reducible rfl
    rotate_left
    ·simp only [Act.put, Qa, Qb, Qc, Z5, Z6]
     rfl
    refine Yq (i := 2) (N := some 12) (v := ?_) (a' := ?_) #[Qt, Qf, Qt, Qf, Qf, Qf, Qf, Qf, Qf, Qf, Qf, Qf, Qf, Qf, Qf, Qf] rfl rfl (Yk HT_.out (by kernel_rfl)) (fun _ _ _ h => h) (Or.inl ⟨by rfl, ?_⟩) ?_ ?_
    rotate_left
    ·intro w'
     go_simp
     with_reducible rfl
    rotate_left
    ·simp only [Act.put, Qa, Qb, Qc, Z5, Z6]
     rfl
    refine Yq (i := 6) (N := some 16) (v := ?_) (a' := ?_) #[Qt, Qf, Qt, Qf, Qf, Qf, Qt, Qf, Qf, Qf, Qf, Qf, Qf, Qf, Qf, Qf] rfl rfl (Yk HT_.out (by kernel_rfl)) (fun _ _ _ h => h) (Or.inl ⟨by rfl, ?_⟩) ?_ ?_
    rotate_left
    ·intro w'
     go_simp
     with_reducible rfl
    rotate_left
    ·simp only [Act.put, Qa, Qb, Qc, Z5, Z6]
     rfl
    refine Yq (i := 8) (N := some 18) (v := ?_) (a' := ?_) #[Qt, Qf, Qt, Qf, Qf, Qf, Qt, Qf, Qt, Qf, Qf, Qf, Qf, Qf, Qf, Qf] rfl rfl (Yk HT_.out (by kernel_rfl)) (fun _ _ _ h => h) (Or.inl ⟨by rfl, ?_⟩) ?_ ?_
    rotate_left
    ·intro w'
     go_simp
     with_reducible rfl
    rotate_left
    ·simp only [Act.put, Qa, Qb, Qc, Z5, Z6]
     rfl
    refine Za5 (i := 1) (N := some 11) (v := ?_) (a' := ?_) #[Qt, Qt, Qt, Qf, Qf, Qf, Qt, Qf, Qt, Qf, Qf, Qf, Qf, Qf, Qf, Qf] rfl rfl (Zac HT_.out HW_.out (by kernel_rfl)) (fun _ _ _ h => h) (Or.inl ⟨by rfl, ?_⟩) hHeld ?_ ?_
    rotate_left
    ·rintro w' ⟨s0, s1, s2, s3, s4⟩
     go_simp
     with_reducible rfl
    rotate_left
    ·simp only [Act.put, Qa, Qb, Qc, Z5, Z6]
     rfl
    refine Yq (i := 3) (N := some 13) (v := ?_) (a' := ?_) #[Qt, Qt, Qt, Qt, Qf, Qf, Qt, Qf, Qt, Qf, Qf, Qf, Qf, Qf, Qf, Qf] rfl rfl (Yk HT_.out (by kernel_rfl)) (fun _ _ _ h => h) (Or.inl ⟨by rfl, ?_⟩) ?_ ?_
    rotate_left
    ·intro w'
     go_simp
     with_reducible rfl
    rotate_left
    ·simp only [Act.put, Qa, Qb, Qc, Z5, Z6]
     rfl
    refine Yq (i := 4) (N := some 14) (v := ?_) (a' := ?_) #[Qt, Qt, Qt, Qt, Qt, Qf, Qt, Qf, Qt, Qf, Qf, Qf, Qf, Qf, Qf, Qf] rfl rfl (Yk HT_.out (by kernel_rfl)) (fun _ _ _ h => h) (Or.inl ⟨by rfl, ?_⟩) ?_ ?_
    rotate_left
    ·intro w'
     go_simp
     with_reducible rfl
    rotate_left
    ·simp only [Act.put, Qa, Qb, Qc, Z5, Z6]
     rfl
    refine Za5 (i := 5) (N := some 15) (v := ?_) (a' := ?_) #[Qt, Qt, Qt, Qt, Qt, Qt, Qt, Qf, Qt, Qf, Qf, Qf, Qf, Qf, Qf, Qf] rfl rfl (Zac HT_.out HW_.out (by kernel_rfl)) (fun _ _ _ h => h) (Or.inl ⟨by rfl, ?_⟩) hHeld ?_ ?_
    rotate_left
    ·rintro w' ⟨s0, s1, s2, s3, s4⟩
     go_simp
     with_reducible rfl
    rotate_left
    ·simp only [Act.put, Qa, Qb, Qc, Z5, Z6]
     rfl
    refine Za5 (i := 7) (N := some 17) (v := ?_) (a' := ?_) #[Qt, Qt, Qt, Qt, Qt, Qt, Qt, Qt, Qt, Qf, Qf, Qf, Qf, Qf, Qf, Qf] rfl rfl (Zac HT_.out HW_.out (by kernel_rfl)) (fun _ _ _ h => h) (Or.inl ⟨by rfl, ?_⟩) hHeld ?_ ?_
    rotate_left
    ·rintro w' ⟨s0, s1, s2, s3, s4⟩
     go_simp
     with_reducible rfl
    rotate_left
    ·simp only [Act.put, Qa, Qb, Qc, Z5, Z6]
     rfl
    refine Yq (i := 9) (N := some 19) (v := ?_) (a' := ?_) #[Qt, Qt, Qt, Qt, Qt, Qt, Qt, Qt, Qt, Qt, Qf, Qf, Qf, Qf, Qf, Qf] rfl rfl (Yk HT_.out (by kernel_rfl)) (fun _ _ _ h => h) (Or.inl ⟨by rfl, ?_⟩) ?_ ?_
    rotate_left
    ·intro w'
     go_simp
     with_reducible rfl
    rotate_left
    ·simp only [Act.put, Qa, Qb, Qc, Z5, Z6]
     rfl
    refine Yq (i := 10) (N := some 20) (v := ?_) (a' := ?_) #[Qt, Qt, Qt, Qt, Qt, Qt, Qt, Qt, Qt, Qt, Qt, Qf, Qf, Qf, Qf, Qf] rfl rfl (Yk HT_.out (by kernel_rfl)) (fun _ _ _ h => h) (Or.inl ⟨by rfl, ?_⟩) ?_ ?_
    rotate_left
    ·intro w'
     go_simp
     with_reducible rfl
    rotate_left
    ·simp only [Act.put, Qa, Qb, Qc, Z5, Z6]
     rfl
    refine Za5 (i := 11) (N := some 21) (v := ?_) (a' := ?_) #[Qt, Qt, Qt, Qt, Qt, Qt, Qt, Qt, Qt, Qt, Qt, Qt, Qf, Qf, Qf, Qf] rfl rfl (Zac HT_.out HW_.out (by kernel_rfl)) (fun _ _ _ h => h) (Or.inl ⟨by rfl, ?_⟩) hHeld ?_ ?_
    rotate_left
    ·rintro w' ⟨s0, s1, s2, s3, s4⟩
     go_simp
     with_reducible rfl
    rotate_left
    ·simp only [Act.put, Qa, Qb, Qc, Z5, Z6]
     rfl
    refine one_ (i := 12) (N := some 22) #[Qt, Qt, Qt, Qt, Qt, Qt, Qt, Qt, Qt, Qt, Qt, Qt, Qt, Qf, Qf, Qf] rfl rfl (Za6 HT_.out (by kernel_rfl)) (by decide) (fun K hK => ?_)
    refine Kd.N_lit_step (Kd.slice 5 (Kd.int .u8)) _ 30 ?hg (N' := 22) ?hd (xs := ([(Zo l0_0 a1).f0, (Zo l0_0 a1).f1] : List (List Int))) (inner := [.slice A133_0 ((Zo l0_0 a1).f0).length c133_0, .slice A133_1 ((Zo l0_0 a1).f1).length c133_1]) (ok := (fun k_ => (P0_0_ k_ ∨ w.heap.size ≤ k_) ∧ k_ ≠ gb131)) (okp := (fun k_ => (P0_0_ k_ ∨ w.heap.size ≤ k_) ∧ k_ ≠ gb131)) ?hr ?hp (fun _ hk => hk) ((show ∀ k_, w11.heap.size ≤ k_ → (fun k_ => (P0_0_ k_ ∨ w.heap.size ≤ k_) ∧ k_ ≠ gb131) k_ from fun k_ hk => ⟨(.inr (Nat.le_trans (Zd (by repeat (first | (with_reducible first | exact HB.out | apply wA | apply wN | apply wD | refine Za ?_ GE131.out) | exact HB.out))) hk)), Kd.Y6 (g := gb131) (o := .cells #[.slice (some ad133) l0_0.length c0_0] 24 (0, 0)) (by (with_reducible repeat first | apply bN | apply bD | apply bA); exact BK131.out) k_ hk⟩) _ (Nat.le_refl _)) (Below.refl _ _) (Nat.le_refl _) (by simp) ?_; (case hd => rfl); (case hg => rfl); (case hr => first | (go_simp; done) | (go_simp; rfl)); (case hp => exact (Reps.one (show Kd.FK (Kd.slice 5 (Kd.int .u8)) _ _ ((Zo l0_0 a1).f0) [.slice A133_0 ((Zo l0_0 a1).f0).length c133_0] from (Kd.Ze8 (Kd.Zae (Kd.Yd (ok' := (fun k_ => (P0_0_ k_ ∨ w.heap.size ≤ k_) ∧ k_ ≠ gb131)) (HL133_0.out) (fun k_ hk => ⟨hk.1, hk.2⟩))).2.1 (Kd.V_F (Kd.Yd (ok' := (fun k_ => (P0_0_ k_ ∨ w.heap.size ≤ k_) ∧ k_ ≠ gb131)) (HL133_0.out) (fun k_ hk => ⟨hk.1, hk.2⟩))))) (Reps.one (show Kd.FK (Kd.slice 5 (Kd.int .u8)) _ _ ((Zo l0_0 a1).f1) [.slice A133_1 ((Zo l0_0 a1).f1).length c133_1] from (Kd.Ze8 (Kd.Zae (Kd.Yd (ok' := (fun k_ => (P0_0_ k_ ∨ w.heap.size ≤ k_) ∧ k_ ≠ gb131)) (HL134_1.out) (fun k_ hk => ⟨hk.1, hk.2⟩))).2.1 (Kd.V_F (Kd.Yd (ok' := (fun k_ => (P0_0_ k_ ∨ w.heap.size ≤ k_) ∧ k_ ≠ gb131)) (HL134_1.out) (fun k_ hk => ⟨hk.1, hk.2⟩))))) (Reps.none _ _))))
    intro v136 w12 ho13 hb hg_ hnew_
    have HS1_ := (hb.cell (Qw _ _ (hHeld.2.1))).trans (hHeld.2.1)
    have HS2_ := (hb.cell (Qw _ _ (hHeld.2.2.1))).trans (hHeld.2.2.1)
    have HS3_ := (hb.cell (Qw _ _ (hHeld.2.2.2.1))).trans (hHeld.2.2.2.1)
    have HS4_ := (hb.cell (Qw _ _ (hHeld.2.2.2.2))).trans (hHeld.2.2.2.2)
    clear hg_ hnew_
    (first | rw [← Ny135.out] at ho13 | (simp only [Int.reduceToNat] at ho13; rw [← Ny135.out] at ho13))
    have n0_ := aM (Kd.Zag (by (with_reducible repeat first | apply Kd.Zv | apply Kd.Zu | apply Kd.Z0); exact HO0_0.out) (by first | exact Kd.Y1 ho13 | exact Kd.Y1 (Kd.S_N ho13)) hb)
    have n1_ := aM (Kd.Zag (by (with_reducible repeat first | apply Kd.Zv | apply Kd.Zu | apply Kd.Z0); exact HL133_0.out) (by first | exact Kd.Y1 ho13 | exact Kd.Y1 (Kd.S_N ho13)) hb)
    have n2_ := aM (Kd.Zag (by (with_reducible repeat first | apply Kd.Zv | apply Kd.Zu | apply Kd.Z0); exact HL133_1.out) (by first | exact Kd.Y1 ho13 | exact Kd.Y1 (Kd.S_N ho13)) hb)
    have n3_ := aM (Kd.Zag (by (with_reducible repeat first | apply Kd.Zv | apply Kd.Zu | apply Kd.Z0); exact HL134_0.out) (by first | exact Kd.Y1 ho13 | exact Kd.Y1 (Kd.S_N ho13)) hb)
    have n4_ := aM (Kd.Zag (by (with_reducible repeat first | apply Kd.Zv | apply Kd.Zu | apply Kd.Z0); exact HL134_1.out) (by first | exact Kd.Y1 ho13 | exact Kd.Y1 (Kd.S_N ho13)) hb)
    have n5_ := aM (Kd.Zbr ho13 (Zd (by repeat (first | (with_reducible first | exact HB.out | apply wA | apply wN | apply wD | refine Za ?_ GE131.out) | exact HB.out))))
    have n6_ := aM (Zf (g := gb131) (o := .cells #[.slice (some ad133) l0_0.length c0_0] 24 (0, 0)) (by (with_reducible repeat first | apply bN | apply bD | apply bA); exact BK131.out) hb)
    have n7_ := aM (Kd.Yv (by repeat (first | (with_reducible exact HR133_0.out) | (with_reducible refine Kd.Yh ?_ _) | (with_reducible refine Kd.Yg ?_ _) | (with_reducible refine Kd.Yw ?_) | exact HR133_0.out)) hb)
    have n8_ := aM (Kd.Yv (by repeat (first | (with_reducible exact HR133_1.out) | (with_reducible refine Kd.Yh ?_ _) | (with_reducible refine Kd.Yg ?_ _) | (with_reducible refine Kd.Yw ?_) | exact HR133_1.out)) hb)
    have n9_ := aM (Kd.Yv (by repeat (first | (with_reducible exact HR134_0.out) | (with_reducible refine Kd.Yh ?_ _) | (with_reducible refine Kd.Yg ?_ _) | (with_reducible refine Kd.Yw ?_) | exact HR134_0.out)) hb)
    have n10_ := aM (Kd.Yv (by repeat (first | (with_reducible exact HR134_1.out) | (with_reducible refine Kd.Yh ?_ _) | (with_reducible refine Kd.Yg ?_ _) | (with_reducible refine Kd.Yw ?_) | exact HR134_1.out)) hb)
    have n11_ := aM (Zj (by repeat (first | (with_reducible first | exact HB.out | apply wA | apply wN | apply wD | refine Za ?_ GE131.out) | exact HB.out)) hb)
    clear HO0_0 HL133_0 HL133_1 HL134_0 HL134_1 BK131 HR133_0 HR133_1 HR134_0 HR134_1 HB
    have HO0_0 := n0_
    have HL133_0 := n1_
    have HL133_1 := n2_
    have HL134_0 := n3_
    have HL134_1 := n4_
    have HO137 := n5_
    have BK131 := n6_
    have HR133_0 := n7_
    have HR133_1 := n8_
    have HR134_0 := n9_
    have HR134_1 := n10_
    have HB := n11_
    clear n0_ n1_ n2_ n3_ n4_ n5_ n6_ n7_ n8_ n9_ n10_ n11_ hb ho13
    obtain ⟨Ao14, co14, eo14⟩ := Kd.Zbj HO137.out
    (first | subst eo14 | (injection eo14 with f1_ f2_ f3_; have f4_ := f1_.symm; have f5_ := f3_.symm; clear f1_ f2_ f3_; subst f4_; subst f5_))
    refine hK.out _ _ ⟨(Ze BK131.out 0).trans rfl, HS1_, HS2_, HS3_, HS4_⟩ (fun hHeld => ?_)
    clear hK K
    refine Zb2 (a' := ?_) ?_ ?_
    rotate_left
    ·show Act.put _ (some 22) _ = _
     simp only [Act.put, Qa, Qb, Qc, Z5, Z6]
     rfl
    refine one_ (i := 13) (N := some 23) #[Qt, Qt, Qt, Qt, Qt, Qt, Qt, Qt, Qt, Qt, Qt, Qt, Qt, Qt, Qf, Qf] rfl rfl (Za6 HT_.out (by kernel_rfl)) (by decide) (fun K hK => ?_)
    refine Zdc Try.func28 (by kernel_rfl) rfl #[.slice Ao14 y135.length co14] (by rfl) rfl rfl (by (try simp only [Qi, Qj, Qk]); first | done | rfl | (simp only [Qe, Qd]; rfl)) ?_
    with_reducible refine (Y9.calls _ _ y135 t138 _ ?side1 ?side2 A7.out).mono ?_
    (case side1 => repeat (first | exact (Kd.Za9 HO137.out).2.2 | (with_reducible refine Kd.Yh ?_ _) | (with_reducible refine Kd.Yg ?_ _) | (with_reducible refine Kd.Yw ?_)))
    (case side2 => exact (Kd.Za9 HO137.out).2.1)
    rintro e w15 ⟨v139, rfl, ho0, hb⟩
    have HS1_ := (hb.cell (Qw _ _ (hHeld.2.1))).trans (hHeld.2.1)
    have HS2_ := (hb.cell (Qw _ _ (hHeld.2.2.1))).trans (hHeld.2.2.1)
    have HS3_ := (hb.cell (Qw _ _ (hHeld.2.2.2.1))).trans (hHeld.2.2.2.1)
    have HS4_ := (hb.cell (Qw _ _ (hHeld.2.2.2.2))).trans (hHeld.2.2.2.2)
    refine ⟨_, rfl, ?_⟩
    have n0_ := aM (Kd.Zag (by (with_reducible repeat first | apply Kd.Zv | apply Kd.Zu | apply Kd.Z0); exact HO0_0.out) (Kd.Zbg ho0) hb)
    have n1_ := aM (Kd.Zag (by (with_reducible repeat first | apply Kd.Zv | apply Kd.Zu | apply Kd.Z0); exact HL133_0.out) (Kd.Zbg ho0) hb)
    have n2_ := aM (Kd.Zag (by (with_reducible repeat first | apply Kd.Zv | apply Kd.Zu | apply Kd.Z0); exact HL133_1.out) (Kd.Zbg ho0) hb)
    have n3_ := aM (Kd.Zag (by (with_reducible repeat first | apply Kd.Zv | apply Kd.Zu | apply Kd.Z0); exact HL134_0.out) (Kd.Zbg ho0) hb)
    have n4_ := aM (Kd.Zag (by (with_reducible repeat first | apply Kd.Zv | apply Kd.Zu | apply Kd.Z0); exact HL134_1.out) (Kd.Zbg ho0) hb)
    have n5_ := aM (Kd.Za4 (by (with_reducible repeat first | apply Kd.Ym | apply Kd.Yl | apply Kd.Yy); exact HO137.out) (Kd.Zbg ho0) hb)
    have n6_ := aM (Kd.Zb1 (Kd.Ze5 (M := fun k_ => (w.heap.size ≤ k_)) ho0 (Zd (by repeat (first | (with_reducible first | exact HB.out | apply wA | apply wN | apply wD | refine Za ?_ GE131.out) | exact HB.out))) (fun k_ h_ => h_)) (Zd (by repeat (first | (with_reducible first | exact HB.out | apply wA | apply wN | apply wD | refine Za ?_ GE131.out) | exact HB.out))))
    have n7_ := aM (Zf (g := gb131) (o := .cells #[.slice (some ad133) l0_0.length c0_0] 24 (0, 0)) (by (with_reducible repeat first | apply bN | apply bD | apply bA); exact BK131.out) hb)
    have n8_ := aM (Kd.Yv (by repeat (first | (with_reducible exact HR133_0.out) | (with_reducible refine Kd.Yh ?_ _) | (with_reducible refine Kd.Yg ?_ _) | (with_reducible refine Kd.Yw ?_) | exact HR133_0.out)) hb)
    have n9_ := aM (Kd.Yv (by repeat (first | (with_reducible exact HR133_1.out) | (with_reducible refine Kd.Yh ?_ _) | (with_reducible refine Kd.Yg ?_ _) | (with_reducible refine Kd.Yw ?_) | exact HR133_1.out)) hb)
    have n10_ := aM (Kd.Yv (by repeat (first | (with_reducible exact HR134_0.out) | (with_reducible refine Kd.Yh ?_ _) | (with_reducible refine Kd.Yg ?_ _) | (with_reducible refine Kd.Yw ?_) | exact HR134_0.out)) hb)
    have n11_ := aM (Kd.Yv (by repeat (first | (with_reducible exact HR134_1.out) | (with_reducible refine Kd.Yh ?_ _) | (with_reducible refine Kd.Yg ?_ _) | (with_reducible refine Kd.Yw ?_) | exact HR134_1.out)) hb)
    have n12_ := aM (Zj (by repeat (first | (with_reducible first | exact HB.out | apply wA | apply wN | apply wD | refine Za ?_ GE131.out) | exact HB.out)) hb)
    clear HO0_0 HL133_0 HL133_1 HL134_0 HL134_1 HO137 BK131 HR133_0 HR133_1 HR134_0 HR134_1 HB
    have HO0_0 := n0_
    have HL133_0 := n1_
    have HL133_1 := n2_
    have HL134_0 := n3_
    have HL134_1 := n4_
    have HO137 := n5_
    have HO140 := n6_
    have BK131 := n7_
    have HR133_0 := n8_
    have HR133_1 := n9_
    have HR134_0 := n10_
    have HR134_1 := n11_
    have HB := n12_
    clear n0_ n1_ n2_ n3_ n4_ n5_ n6_ n7_ n8_ n9_ n10_ n11_ n12_
    (try clear hb)
    (try clear hb2)
    (try clear hk)
    (try clear hi)
    (try clear hge_)
    (try clear ho0)
    refine hK.out _ _ ⟨(Ze BK131.out 0).trans rfl, HS1_, HS2_, HS3_, HS4_⟩ (fun hHeld => ?_)
    clear hK K
    refine Zb2 (a' := ?_) ?_ ?_
    rotate_left
    ·show Act.put _ (some 23) _ = _
     simp only [Act.put, Qa, Qb, Qc, Z5, Z6]
     rfl
    refine Yq (i := 14) (N := some 4) (v := ?_) (a' := ?_) #[Qt, Qt, Qt, Qt, Qt, Qt, Qt, Qt, Qt, Qt, Qt, Qt, Qt, Qt, Qt, Qf] rfl rfl (Yk HT_.out (by kernel_rfl)) (fun _ _ _ h => h) (Or.inl ⟨by rfl, ?_⟩) ?_ ?_
    rotate_left
    ·intro w'
     go_simp
     with_reducible rfl
    rotate_left
    ·simp only [Act.put, Qa, Qb, Qc, Z5, Z6]
     rfl
    refine Yq (i := 15) (N := some 5) (v := ?_) (a' := ?_) #[Qt, Qt, Qt, Qt, Qt, Qt, Qt, Qt, Qt, Qt, Qt, Qt, Qt, Qt, Qt, Qt] rfl rfl (Yk HT_.out (by kernel_rfl)) (fun _ _ _ h => h) (Or.inl ⟨by rfl, ?_⟩) ?_ ?_
    rotate_left
    ·intro w'
     go_simp
     with_reducible rfl
    rotate_left
    ·simp only [Act.put, Qa, Qb, Qc, Z5, Z6]
     rfl
    refine Zcv (Zcf HT_.out (by kernel_rfl)) ?_
    try go_wp2
    go_ret2
    exact ⟨_, by first | rfl | (simp [Zy, Zx] <;> rfl) | (simp [*, Zy, Zx] <;> rfl), by (with_reducible repeat first | apply Kd.Zab | apply Kd.Yu | apply Kd.Zai); exact Kd.Zar HO140.out (fun _ hk => hk.1), by repeat (first | (with_reducible first | exact HB.out | apply wA | apply wN | apply wD | refine Za ?_ GE131.out) | exact HB.out)⟩
   ·rw [if_neg c6] at H
    exact absurd H (by simp)
  ·rw [if_neg c5] at H
   exact absurd H (by simp)
 ·replace c4 := Bool.eq_false_iff.mpr c4
  subst c4
  have H1 : (some (([] : List Int), 11)) = some (r1, r2) := by rw [if_neg (show ¬ (false = true) by decide)] at H; exact H
  clear H
  have H := H1
  clear H1
  simp only [Option.some.injEq, Prod.mk.injEq] at H
  obtain ⟨rfl, rfl⟩ := H
  go_enter Try.func15, Try.ntmps15
  go_wp2_with (first | ((with_reducible refine Z7 (N := 2) rfl ?_); refine Z4 ?hg (N := 2) ?hd (cs := #[.slice A0_0 l0_0.length c0_0]) (t := 24) ?hr ?_; (case hd => rfl); (case hg => rfl); (case hr => first | (go_simp; done) | (go_simp; rfl)); intro gb131 hg w16 hbox hb; have n0_ := aM (Kd.Y0 (Kd.Yx (by (with_reducible repeat first | apply Kd.Zv | apply Kd.Zu | apply Kd.Z0); exact HO0_0.out) gb131 (Nat.le_of_eq hg.symm)) hb); have n1_ := aM (Zj (by repeat (first | (with_reducible first | exact HB.out | apply wA | apply wN | apply wD) | exact HB.out)) hb); have n2_ := aM (hbox); have n3_ := aM ((by rw [hg]; exact (Zd (by repeat (first | (with_reducible first | exact HB.out | apply wA | apply wN | apply wD) | exact HB.out))) : w.heap.size ≤ gb131)); have n4_ := aM ((by rw [hg]; exact (Zd (by repeat (first | (with_reducible first | exact HB.out | apply wA | apply wN | apply wD) | exact HB.out))) : w.heap.size ≤ gb131)); clear HO0_0 HB; have HO0_0 := n0_; have HB := n1_; have BK131 := n2_; have GW131 := n3_; have GE131 := n4_; clear n0_ n1_ n2_ n3_ n4_; clear hb hbox hg; have hcz17_0 : w16.cell? ⟨gb131, 0, none⟩ = some (.slice A0_0 l0_0.length c0_0) := (Ze BK131.out 0).trans rfl; have hfz17_0 := Zg BK131.out 0) | ((with_reducible refine Yf (f := 27) rfl ?_); refine Zap (some 8) rfl rfl Try.func27 (by kernel_rfl) rfl #[.agg #[.slice A0_0 l0_0.length c0_0], .int .i64 a1] rfl (by (try simp only [Qi, Qj, Qk]); first | done | rfl | (simp only [Qe, Qd]; rfl)) ?_; (with_reducible refine (Za1.calls _ _ l0_0 a1 false _ ?side1 ?side2 A3.out).mono ?_); (case side1 => repeat (first | exact (Kd.Zae HO0_0.out).2.2 | (with_reducible refine Kd.Yh ?_ _) | (with_reducible refine Kd.Yg ?_ _) | (with_reducible refine Kd.Yw ?_))); (case side2 => exact (Kd.Zae HO0_0.out).2.1); rintro e w18 ⟨rfl, hb⟩; refine ⟨_, rfl, ?_⟩; have n0_ := aM (Kd.Y0 (by (with_reducible repeat first | apply Kd.Zv | apply Kd.Zu | apply Kd.Z0); exact HO0_0.out) hb); have n1_ := aM (Zf (g := gb131) (o := .cells #[.slice A0_0 l0_0.length c0_0] 24 (0, 0)) (by (with_reducible repeat first | apply bN | apply bD | apply bA); exact BK131.out) hb); have n2_ := aM (Zj (by repeat (first | (with_reducible first | exact HB.out | apply wA | apply wN | apply wD | refine Za ?_ GE131.out) | exact HB.out)) hb); clear HO0_0 BK131 HB; have HO0_0 := n0_; have BK131 := n1_; have HB := n2_; clear n0_ n1_ n2_; (try clear hb); (try clear hb2); (try clear hk); (try clear hi); (try clear hge_)))
  go_ret2
  exact ⟨_, by first | rfl | (simp [Zy, Zx] <;> rfl) | (simp [*, Zy, Zx] <;> rfl), by first | exact Kd.Zbx _ _ _ _ _ | exact Kd.Zcw _ _ _ _ _ | exact Kd.Zcr _ _ _ _ _ | exact Kd.Zc1 _ _ _ _ _ | exact Kd.Zc0 _ _ _ _ _, by repeat (first | (with_reducible first | exact HB.out | apply wA | apply wN | apply wD | refine Za ?_ GE131.out) | exact HB.out)⟩

end Go.Proofs.Ytnfbjdnflifcoaa.PDk

namespace Go.Proofs.Ytnfbjdnflifcoaa.PDk
open Go.RowKit Go.Proofs.YtnfbjdnflifcoaaW.PrintWords Go.Proofs.YtnfbjdnflifcoaaW.PrintLast Go.Proofs.YtnfbjdnflifcoaaW.PrintMore
attribute [local go_sem] Za0 Zay Zbe Zbd Zan Zam Zaz Zax
set_option linter.unusedVariables false
set_option linter.unusedSimpArgs false

def Zw.l0 : Nat → Int → List Int → Int → Int → List (S48) → Option (Bool)
 | 0, _, _, _, _, _ => none
 | k + 1, x2, x3, x14, x15, x146000 => if x15 < x14 then (if 0 ≤ x15 then (if x15 < (x3.length : Int) then (Zw.l0 k x2 (x3.set (x15 : Int).toNat 7) x14 (wrap64 (x15 + 1)) x146000) else (none)) else (none)) else ((Y2.f k x146000 0 x3).bind fun bt150 => ((Zt.f k bt150.1 (([(⟨18, (([1] : List Int))⟩ : S39)] : List (S39)))).bind fun t160 => ((Za7.f t160 0).bind fun bt163 => (if x2 = 0 then (if bt150.2 = 0 then (if bt163.2 = 0 then (if (bt163.1.length : Int) = 18 then (if 15 < (bt163.1.length : Int) then (if (rd bt163.1 15) = 7 then (if 16 < (bt163.1.length : Int) then (some ((rd bt163.1 16) == 0)) else (none)) else (some false)) else (none)) else (some false)) else (some false)) else (some false)) else (some false)))))
def Zw.f (k : Nat)  : Option (Bool) := (Zbn.f 1).bind fun bt141 => (if 20 ≤ 281474976710656 then ((some (List.replicate 20 0 : List Int)).bind fun y146 => (Zw.l0 k bt141.2 y146 (y146.length : Int) 0 bt141.1)) else (none))
theorem Zw.Zbk : ∀ k, (∀ y0 y1 y2 y3 y4, LeO (Zw.l0 k y0 y1 y2 y3 y4) (Zw.l0 (k + 1) y0 y1 y2 y3 y4))
 | 0 => fun _ _ _ _ _ r h => by simp [Zw.l0] at h
 | k + 1 => by
  have ih0 := Zw.Zbk k
  ·intro y0 y1 y2 y3 y4
   unfold Zw.l0
   repeat' first
   | (with_reducible exact ih0 _ _ _ _ _)
   | (with_reducible exact Y2.mono _ _ _ _)
   | (with_reducible exact Zt.mono _ _ _)
   | (with_reducible exact LeO.refl _)
   | (with_reducible exact LeO.none _)
   | (with_reducible refine LeO.ite ?_ ?_)
   | (with_reducible refine LeO.bind ?_ (fun _ => ?_))
   | exact ih0 _ _ _ _ _
   | exact Y2.mono _ _ _ _
   | exact Zt.mono _ _ _
   | exact LeO.none _
   | refine LeO.ite ?_ ?_
   | refine LeO.bind ?_ (fun _ => ?_)
theorem Zw.mono : ∀ k, LeO (Zw.f k ) (Zw.f (k + 1) ) := by
 intro  k
 have ih0 := Zw.Zbk k
 unfold Zw.f
 repeat' first
   | (with_reducible exact ih0 _ _ _ _ _)
   | (with_reducible exact Y2.mono _ _ _ _)
   | (with_reducible exact Zt.mono _ _ _)
   | (with_reducible exact LeO.refl _)
   | (with_reducible exact LeO.none _)
   | (with_reducible refine LeO.ite ?_ ?_)
   | (with_reducible refine LeO.bind ?_ (fun _ => ?_))
   | exact ih0 _ _ _ _ _
   | exact Y2.mono _ _ _ _
   | exact Zt.mono _ _ _
   | exact LeO.none _
   | refine LeO.ite ?_ ?_
   | refine LeO.bind ?_ (fun _ => ?_)
set_option maxHeartbeats 8000000 in
set_option maxRecDepth 100000 in
theorem Zw.calls (k : Nat)  (r : Bool) (w : World) (h : Zw.f k  = some r) :
  Calls Try.prog 9 #[] w fun e w' => e = .returned (.bool r) ∧ Below w.heap.size w w' := by
 have hu24 := Try.underlying24
 have hu39 := Try.underlying39
 have HB := aM (Below.refl w.heap.size w)
 have H : ((Zbn.f 1).bind fun bt141 => (if 20 ≤ 281474976710656 then ((some (List.replicate 20 0 : List Int)).bind fun y146 => (Zw.l0 k bt141.2 y146 (y146.length : Int) 0 bt141.1)) else (none))) = some r := h
 clear h
 replace H := Option.bind_eq_some_iff.mp H
 obtain ⟨⟨t141, t144⟩, A10, H⟩ := H
 replace H : (if 20 ≤ 281474976710656 then ((some (List.replicate 20 0 : List Int)).bind fun y146 => (Zw.l0 k t144 y146 (y146.length : Int) 0 t141)) else (none)) = some r := H
 have A1 := aM A10
 clear A10
 have HC2 := aM H
 clear H
 go_enter Try.func9, Try.ntmps9
 go_upto_region 2 with (first | ((with_reducible refine Yf (f := 13) rfl ?_); refine Zap (some 9) rfl rfl Try.func13 (by kernel_rfl) rfl #[.int .i64 1] rfl (by (try simp only [Qi, Qj, Qk]); first | done | rfl | (simp only [Qe, Qd]; rfl)) ?_; (with_reducible refine (Zbn.calls 1 t141 t144 _ A1.out).mono ?_); rintro e w3 ⟨v142, rfl, ho0, hb⟩; refine ⟨_, rfl, ?_⟩; have n0_ := aM (Kd.Zbr (Kd.Yr (ok' := fun k_ => True) (Kd.S_N (Kd.Zcb ho0)) (fun k_ hk_ => trivial)) (Zd (by repeat (first | (with_reducible first | exact HB.out | apply wA | apply wN | apply wD) | exact HB.out)))); have n1_ := aM (Zj (by repeat (first | (with_reducible first | exact HB.out | apply wA | apply wN | apply wD) | exact HB.out)) hb); clear HB; have HO143 := n0_; have HB := n1_; clear n0_ n1_; (try clear hb); (try clear hb2); (try clear hk); (try clear hi); (try clear hge_); (try clear ho0)) | ((with_reducible refine Z7 (N := 1) rfl ?_); (try (refine Zcc (by rfl) ?_; dsimp only)); refine Z4 ?hg (N := 1) ?hd (cs := #[.slice none 0 0]) (t := 24) ?hr ?_; (case hd => rfl); (case hg => rfl); (case hr => first | (go_simp; done) | (go_simp; rfl)); intro gb145 hg w4 hbox hb; have n0_ := aM (Kd.Zcj (Kd.Zdn (by (with_reducible repeat first | apply Kd.Ym | apply Kd.Yl | apply Kd.Yy); exact HO143.out) gb145 (Nat.le_of_eq hg.symm)) hb); have n1_ := aM (Zj (by repeat (first | (with_reducible first | exact HB.out | apply wA | apply wN | apply wD) | exact HB.out)) hb); have n2_ := aM (hbox); have n3_ := aM ((by rw [hg]; exact (Zd (by repeat (first | (with_reducible first | exact HB.out | apply wA | apply wN | apply wD) | exact HB.out))) : w.heap.size ≤ gb145)); have n4_ := aM ((by rw [hg]; exact (Zd (by repeat (first | (with_reducible first | exact HB.out | apply wA | apply wN | apply wD) | exact HB.out))) : w.heap.size ≤ gb145)); clear HO143 HB; have HO143 := n0_; have HB := n1_; have BK145 := n2_; have GW145 := n3_; have GE145 := n4_; clear n0_ n1_ n2_ n3_ n4_; clear hb hbox hg; obtain ⟨Ao5, co5, eo5⟩ := Kd.Zbj HO143.out; subst eo5; have hcz6_0 : w4.cell? ⟨gb145, 0, none⟩ = some (.slice none 0 0) := (Ze BK145.out 0).trans rfl; have hfz6_0 := Zg BK145.out 0) | ((with_reducible refine Zbm (t := 24) (p := 1) rfl ?_); refine Zbh (t := 24) (p := 1) (v := ?vo_w7) (w1 := (w4.setCell ⟨gb145, 0, none⟩ (.slice Ao5 t141.length co5))) ?hg ?ho ?hn ?hr ?_; (case ho => rfl); (case hg => rfl); (case hn => rfl); (case hr => first | (go_simp; done) | (go_simp; rfl)); intro w7 hw; have n0_ : Zq (Kd.N k48 48 w7 w.heap.size (fun k_ => k_ ≠ gb145) (.slice Ao5 t141.length co5) t141) := ⟨(by rw [hw]; exact (by (with_reducible repeat first | apply Kd.Ym | apply Kd.Yl | apply Kd.Yy); exact Kd.Yr (Kd.Zby (p := ⟨gb145, 0, none⟩) (Kd.Yr HO143.out (fun k_ hk => (⟨hk, hk.2⟩ : _ ∧ k_ ≠ gb145))) (fun _ hk => hk.2) (.slice Ao5 t141.length co5)) (fun _ hk => hk.1.2)))⟩; have n1_ : Zq (w7.heap[gb145]? = some (.cells #[.slice Ao5 t141.length co5] 24 (0, 0))) := ⟨(by rw [hw]; exact (by (with_reducible repeat first | apply bN | apply bD | apply bA); refine Yo (cs := #[.slice none 0 0]) ?_ 0 _ rfl; (with_reducible repeat first | apply bN | apply bD | apply bA); exact BK145.out))⟩; have n2_ : Zq (Below w.heap.size w w7) := ⟨(by rw [hw]; exact (by repeat (first | (with_reducible first | exact HB.out | apply wA | apply wN | apply wD | refine Za ?_ GE145.out) | exact HB.out)))⟩; clear hw HO143 BK145 HB; have HO143 := n0_; have BK145 := n1_; have HB := n2_; clear n0_ n1_ n2_))
 (try simp only [Act.put, Qa, Qb, Qc])
 have H := HC2.out
 clear HC2
 by_cases c8 : 20 ≤ 281474976710656
 ·rw [if_pos c8] at H
  have c8b0 := eq_true c8
  have c8b1 : decide (20 ≤ 281474976710656) = true := decide_eq_true c8
  clear c8
  obtain ⟨y146, hy146⟩ : ∃ y_ : List Int, y_ = (List.replicate 20 0) := ⟨_, rfl⟩
  replace H : (Zw.l0 k t144 y146 (y146.length : Int) 0 t141) = some r := by first | (rw [hy146]; with_reducible exact H) | (have H2_ := (Option.bind_some _ _).symm.trans H; rw [hy146]; with_reducible exact H2_) | (have H2_ := (Option.bind_some _ _).symm.trans H; with_reducible exact H2_) | with_reducible exact H | (rw [hy146]; exact H) | exact H
  have Ny146 := aM hy146
  clear hy146
  have H' := aM H
  clear H
  go_wp2_with (first | ((with_reducible refine Z7 (N := 12) rfl ?_); (try (refine Zcc (by rfl) ?_; dsimp only)); refine Kd.R_make (Kd.int .u8) _ 5 rfl (N := 12) rfl 30 _ _ rfl 20 rfl rfl Try.underlying30 (.int .u8 0) 1 info5 rfl (by decide) (by omega) 0 (ok := fun _ => True) (okp := fun _ => True) rfl (fun _ hk => hk) trivial (by omega) (by omega) (Below.refl _ _) (Nat.le_refl _) ?_; intro v147 w9 ho10 hb hg_ hnew_; clear hg_ hnew_; (first | rw [← Ny146.out] at ho10 | (simp only [Int.reduceToNat] at ho10; rw [← Ny146.out] at ho10)); have n0_ := aM (Kd.Za4 (by (with_reducible repeat first | apply Kd.Ym | apply Kd.Yl | apply Kd.Yy); exact HO143.out) (Kd.Zbg ho10) hb); have n1_ := aM (Kd.Zb1 ho10 (Zd (by repeat (first | (with_reducible first | exact HB.out | apply wA | apply wN | apply wD | refine Za ?_ GE145.out) | exact HB.out)))); have n2_ := aM (Zf (g := gb145) (o := .cells #[.slice Ao5 t141.length co5] 24 (0, 0)) (by (with_reducible repeat first | apply bN | apply bD | apply bA); exact BK145.out) hb); have n3_ := aM (Zj (by repeat (first | (with_reducible first | exact HB.out | apply wA | apply wN | apply wD | refine Za ?_ GE145.out) | exact HB.out)) hb); clear HO143 BK145 HB; have HO143 := n0_; have HO148 := n1_; have BK145 := n2_; have HB := n3_; clear n0_ n1_ n2_ n3_; clear hb ho10; obtain ⟨Ao11, co11, eo11⟩ := Kd.Za2 HO148.out; subst eo11))
  go_loopg [15] k (fun kq v15 w' => ∃ (x3_1 : List Int) (x15_1 : Int), v15 = .int .i64 x15_1 ∧ Zq (Zw.l0 kq t144 x3_1 (y146.length : Int) x15_1 t141 = some r) ∧ Zq (kq ≤ k) ∧ Zq (Kd.R (Kd.int .u8) 5 w' w.heap.size (fun _ => True) (.slice Ao11 y146.length co11) x3_1) ∧ Zq (Kd.N k48 48 w' w.heap.size (fun k_ => some k_ ≠ ((.slice Ao11 y146.length co11) : Value).ownBlock ∧ k_ ≠ gb145) (.slice Ao5 t141.length co5) t141) ∧ Zq (w'.heap[gb145]? = some (.cells #[(.slice Ao5 t141.length co5)] 24 (0, 0))) ∧ Zq (Below w.heap.size w w'))
  case atStart => exact ⟨(y146), (0), (by first | rfl | (simp; done) | (simp [*]; done)), H', ⟨Nat.le_refl _⟩, ⟨by (with_reducible repeat first | apply Kd.Zab | apply Kd.Yu | apply Kd.Zai); exact HO148.out⟩, ⟨by (with_reducible repeat first | apply Kd.Ym | apply Kd.Yl | apply Kd.Yy); exact Kd.Yr HO143.out (fun _ hk => ⟨hk.2, hk.1⟩)⟩, ⟨by (with_reducible repeat first | apply bN | apply bD | apply bA); exact BK145.out⟩, ⟨by repeat (first | (with_reducible first | exact HB.out | apply wA | apply wN | apply wD | refine Za ?_ GE145.out) | exact HB.out)⟩⟩
  case round =>
   clear H'
   try clear c1
   try clear p2
   try clear c8
   try clear c8b0
   try clear c8b1
   try clear c9
   try clear hcz6_0
   try clear hfz6_0
   obtain ⟨x3_1, x15_1, rfl, HA, HK1, HO_3, J146, BK145, HB⟩ := hrel
   have hl3_1 := (Kd.Zah HO_3.out).1
   rw [hl3_1] at HO_3
   (try simp only [hl3_1])
   (try simp only [hl3_1] at BK145)
   (try simp only [hl3_1] at J146)
   cases gk with
   | zero => exact absurd HA.out (by simp [Zw.l0])
   | succ k1 =>
    have H := HA.out
    clear HA
    simp only [Zw.l0] at H
    by_cases c12 : x15_1 < (y146.length : Int)
    ·rw [if_pos c12] at H
     have c12b0 : decide (x15_1 < (y146.length : Int)) = true := decide_eq_true c12
     (try simp only [hl3_1] at c12b0)
     clear c12
     by_cases c13 : 0 ≤ x15_1
     ·rw [if_pos c13] at H
      have c13b0 : decide (0 ≤ x15_1) = true := decide_eq_true c13
      (try simp only [hl3_1] at c13b0)
      clear c13
      by_cases c14 : x15_1 < (x3_1.length : Int)
      ·rw [if_pos c14] at H
       have c14b0 : decide (x15_1 < (x3_1.length : Int)) = true := decide_eq_true c14
       (try simp only [hl3_1] at c14b0)
       clear c14
       obtain ⟨y149, hy149⟩ : ∃ y_ : List Int, y_ = (x3_1.set (x15_1 : Int).toNat 7) := ⟨_, rfl⟩
       replace H : (Zw.l0 k1 t144 y149 (y146.length : Int) (wrap64 (x15_1 + 1)) t141) = some r := by first | (rw [hy149]; with_reducible exact H) | (have H2_ := (Option.bind_some _ _).symm.trans H; rw [hy149]; with_reducible exact H2_) | (have H2_ := (Option.bind_some _ _).symm.trans H; with_reducible exact H2_) | with_reducible exact H | (rw [hy149]; exact H) | exact H
       have Ny149 := aM hy149
       clear hy149
       have H' := aM H
       clear H
       have p15 : 0 ≤ (x15_1 : Int) := of_decide_eq_true (by first | (with_reducible assumption) | assumption)
       have q15 : (x15_1 : Int) < ((x3_1.length : Int) : Int) := of_decide_eq_true (by first | (with_reducible assumption) | assumption)
       obtain ⟨go15, co15, eo15, gb15, gl15, cl15, HG15⟩ := Kd.Zfo HO_3.out (by omega)
       (first | cases eo15 | (injection eo15 with ea_ en_ ec_; (first | subst ea_ | (injection ea_ with ea_; subst ea_)); subst ec_; clear en_))
       have GB15 := aM gb15
       have GG15 := aM HG15
       clear gb15 gl15 HG15
       obtain ⟨hx15_0, hf15_0⟩ := Kd.Zdv 0 HO_3.out (x15_1 : Int) p15 q15
       replace p15 := eq_true p15
       replace q15 := eq_true q15
       have HP16 := Kd.R_putg HO_3.out (x15_1 : Int) 7
       go_wp2_with (first | ((with_reducible refine Zbm (t := 5) (p := 20) rfl ?_); refine Zbh (t := 5) (p := 20) (v := ?vo_w17) (w1 := (wr.setCell ⟨go15, (x15_1 : Int).toNat, none⟩ (.int .u8 7))) ?hg ?ho ?hn ?hr ?_; (case ho => rfl); (case hg => rfl); (case hn => rfl); (case hr => first | (go_simp; done) | (go_simp; rfl)); intro w17 hw; have hg : wr.grownBy w17 (some go15) := (by rw [hw]; exact HP16.2); have hp_ : Kd.R (Kd.int .u8) 5 w17 w.heap.size (fun _ => True) (.slice (some ⟨go15, 0, none⟩) x3_1.length co11) y149 := (by rw [hw, Ny149.out]; exact HP16.1); clear HP16; have n0_ := aM (hp_); have n1_ := aM (Kd.N_afterv (v := (.slice (some ⟨go15, 0, none⟩) x3_1.length co11)) (v1 := (.slice (some ⟨go15, 0, none⟩) x3_1.length co11)) (ok := (fun k_ => k_ ≠ gb145)) (by (with_reducible repeat first | apply Kd.Ym | apply Kd.Yl | apply Kd.Yy); exact Kd.Yr J146.out (fun _ hk => ⟨hk.2, hk.1⟩)) hg (.inl rfl)); have n2_ := aM (Yc (g := gb145) (o := .cells #[.slice Ao5 t141.length co5] 24 (0, 0)) (by (with_reducible repeat first | apply bN | apply bD | apply bA); exact BK145.out) hg (Kd.R_ne HO_3.out BK145.out (by decide))); have n3_ := aM ((by rw [hw]; exact Za (HB.out) GB15.out : Below w.heap.size w w17)); clear HO_3 J146 BK145 HB; have HO_3 := n0_; have J146 := n1_; have BK145 := n2_; have HB := n3_; clear n0_ n1_ n2_ n3_; clear hg hw hp_))
       (try simp only [← hl3_1])
       go_roundg k1
       case measure => have := HK1.out; omega
       case rel => exact ⟨(y149), (wrap64 (x15_1 + 1)), (by first | rfl | (simp; done) | (simp [*]; done)), H', ⟨by have := HK1.out; omega⟩, ⟨by (try simp only [hl3_1]); (with_reducible repeat first | apply Kd.Zab | apply Kd.Yu | apply Kd.Zai); exact HO_3.out⟩, ⟨by (try simp only [hl3_1]); (with_reducible repeat first | apply Kd.Ym | apply Kd.Yl | apply Kd.Yy); exact Kd.Yr J146.out (fun _ hk => ⟨hk.2, hk.1⟩)⟩, ⟨by (try simp only [hl3_1]); (with_reducible repeat first | apply bN | apply bD | apply bA); exact BK145.out⟩, ⟨by repeat (first | (with_reducible first | exact HB.out | apply wA | apply wN | apply wD | refine Za ?_ GE145.out) | exact HB.out)⟩⟩
      ·rw [if_neg c14] at H
       exact absurd H (by simp)
     ·rw [if_neg c13] at H
      exact absurd H (by simp)
    ·rw [if_neg c12] at H
     have c12b0 : decide (x15_1 < (y146.length : Int)) = false := decide_eq_false c12
     (try simp only [hl3_1] at c12b0)
     clear c12
     replace H := Option.bind_eq_some_iff.mp H
     obtain ⟨⟨t150, t153⟩, A180, H⟩ := H
     replace H : ((Zt.f k1 t150 (([(⟨18, (([1] : List Int))⟩ : S39)] : List (S39)))).bind fun t160 => ((Za7.f t160 0).bind fun bt163 => (if t144 = 0 then (if t153 = 0 then (if bt163.2 = 0 then (if (bt163.1.length : Int) = 18 then (if 15 < (bt163.1.length : Int) then (if (rd bt163.1 15) = 7 then (if 16 < (bt163.1.length : Int) then (some ((rd bt163.1 16) == 0)) else (none)) else (some false)) else (none)) else (some false)) else (some false)) else (some false)) else (some false)))) = some r := H
     have A18 := aM A180
     clear A180
     have HC19 := aM H
     clear H
     have hcz20_0 : wr.cell? ⟨gb145, 0, none⟩ = some (.slice Ao5 t141.length co5) := (Ze BK145.out 0).trans rfl
     have hfz20_0 := Zg BK145.out 0
     go_upto_region 9 with (first | ((with_reducible refine Yf (f := 14) rfl ?_); refine Zap (some 25) rfl rfl Try.func14 (by kernel_rfl) rfl #[.agg #[.slice Ao5 t141.length co5], .int .i64 0, .slice Ao11 x3_1.length co11] rfl (by (try simp only [Qi, Qj, Qk]); first | done | rfl | (simp only [Qe, Qd]; rfl)) ?_; (with_reducible refine (Y2.calls k1 _ _ t141 0 _ _ x3_1 t150 t153 _ ?side1 ?side2 ?side3 ?side4 A18.out).mono ?_); (case side1 => repeat (first | exact (Kd.Za9 J146.out).2.2 | (with_reducible refine Kd.Yh ?_ _) | (with_reducible refine Kd.Yg ?_ _) | (with_reducible refine Kd.Yw ?_))); (case side2 => exact (Kd.Za9 J146.out).2.1); (case side3 => repeat (first | exact (Kd.Zah HO_3.out).2.2 | (with_reducible refine Kd.Yh ?_ _) | (with_reducible refine Kd.Yg ?_ _) | (with_reducible refine Kd.Yw ?_))); (case side4 => exact (Kd.Zah HO_3.out).2.1); rintro e w21 ⟨v151, rfl, ho0, hb⟩; refine ⟨_, rfl, ?_⟩; have n0_ := aM (Kd.Zci (by (with_reducible repeat first | apply Kd.Zab | apply Kd.Yu | apply Kd.Zai); exact HO_3.out) hb); have n1_ := aM (Kd.Za4 (by (with_reducible repeat first | apply Kd.Ym | apply Kd.Yl | apply Kd.Yy); exact J146.out) (by first | exact Kd.Y1 ho0 | exact Kd.Y1 (Kd.S_N ho0)) hb); have n2_ := aM (Kd.Zbr (Kd.Yr (ok' := fun k_ => some k_ ≠ (.slice Ao11 x3_1.length co11 : Value).ownBlock ∧ some k_ ≠ (.slice Ao5 t141.length co5 : Value).ownBlock ∧ k_ ≠ gb145) (Kd.S_N (Kd.Zcb ho0)) (fun k_ hk_ => ⟨(Kd.fresh' (Kd.R_lt (by (with_reducible repeat first | apply Kd.Zab | apply Kd.Yu | apply Kd.Zai); exact HO_3.out)) k_ hk_.2.1), (Kd.fresh' (Kd.N_lt (by (with_reducible repeat first | apply Kd.Ym | apply Kd.Yl | apply Kd.Yy); exact J146.out)) k_ hk_.2.1), (Kd.Y6 (g := gb145) (o := .cells #[.slice Ao5 t141.length co5] 24 (0, 0)) (by (with_reducible repeat first | apply bN | apply bD | apply bA); exact BK145.out) k_ hk_.2.1)⟩)) (Zd (by repeat (first | (with_reducible first | exact HB.out | apply wA | apply wN | apply wD | refine Za ?_ GE145.out) | exact HB.out)))); have n3_ := aM (Zf (g := gb145) (o := .cells #[.slice Ao5 t141.length co5] 24 (0, 0)) (by (with_reducible repeat first | apply bN | apply bD | apply bA); exact BK145.out) hb); have n4_ := aM (Zj (by repeat (first | (with_reducible first | exact HB.out | apply wA | apply wN | apply wD | refine Za ?_ GE145.out) | exact HB.out)) hb); clear HO_3 J146 BK145 HB; have HO_3 := n0_; have J146 := n1_; have HO152 := n2_; have BK145 := n3_; have HB := n4_; clear n0_ n1_ n2_ n3_ n4_; (try clear hb); (try clear hb2); (try clear hk); (try clear hi); (try clear hge_); (try clear ho0); obtain ⟨Ao22, co22, eo22⟩ := Kd.Zbj HO152.out; subst eo22; have hcz23_0 : w21.cell? ⟨gb145, 0, none⟩ = some (.slice Ao5 t141.length co5) := (Ze BK145.out 0).trans rfl; have hfz23_0 := Zg BK145.out 0) | ((with_reducible refine Zbm (t := 24) (p := 1) rfl ?_); refine Zbh (t := 24) (p := 1) (v := ?vo_w24) (w1 := (w21.setCell ⟨gb145, 0, none⟩ (.slice Ao22 t150.length co22))) ?hg ?ho ?hn ?hr ?_; (case ho => rfl); (case hg => rfl); (case hn => rfl); (case hr => first | (go_simp; done) | (go_simp; rfl)); intro w24 hw; have n0_ : Zq (Kd.R (Kd.int .u8) 5 w24 w.heap.size (fun _ => True) (.slice Ao11 x3_1.length co11) x3_1) := ⟨(by rw [hw]; exact (by (with_reducible repeat first | apply Kd.Zab | apply Kd.Yu | apply Kd.Zai); exact Kd.Zar (Kd.R_far (p := ⟨gb145, 0, none⟩) (Kd.Zaf HO_3.out BK145.out (by decide)) (fun _ hk => hk.2) (.slice Ao22 t150.length co22)) (fun _ hk => trivial)))⟩; have n1_ : Zq (Kd.N k48 48 w24 w.heap.size (fun k_ => some k_ ≠ (.slice Ao11 x3_1.length co11 : Value).ownBlock ∧ some k_ ≠ (.slice Ao22 t150.length co22 : Value).ownBlock ∧ k_ ≠ gb145) (.slice Ao5 t141.length co5) t141) := ⟨(by rw [hw]; exact (by (with_reducible repeat first | apply Kd.Ym | apply Kd.Yl | apply Kd.Yy); exact Kd.Yr (Kd.Zby (p := ⟨gb145, 0, none⟩) (Kd.Yr J146.out (fun k_ hk => (⟨hk, hk.1.2⟩ : _ ∧ k_ ≠ gb145))) (fun _ hk => hk.2) (.slice Ao22 t150.length co22)) (fun _ hk => ⟨hk.1.1.1, ⟨hk.1.2, hk.1.1.2⟩⟩)))⟩; have n2_ : Zq (Kd.N k48 48 w24 w.heap.size (fun k_ => some k_ ≠ (.slice Ao11 x3_1.length co11 : Value).ownBlock ∧ some k_ ≠ (.slice Ao5 t141.length co5 : Value).ownBlock ∧ k_ ≠ gb145) (.slice Ao22 t150.length co22) t150) := ⟨(by rw [hw]; exact (by (with_reducible repeat first | apply Kd.Ym | apply Kd.Yl | apply Kd.Yy); exact Kd.Yr (Kd.Zby (p := ⟨gb145, 0, none⟩) (Kd.Yr HO152.out (fun k_ hk => (⟨hk, hk.2.2⟩ : _ ∧ k_ ≠ gb145))) (fun _ hk => hk.2) (.slice Ao22 t150.length co22)) (fun _ hk => ⟨hk.1.1, ⟨hk.1.2.1, hk.1.2.2⟩⟩)))⟩; have n3_ : Zq (w24.heap[gb145]? = some (.cells #[.slice Ao22 t150.length co22] 24 (0, 0))) := ⟨(by rw [hw]; exact (by (with_reducible repeat first | apply bN | apply bD | apply bA); refine Yo (cs := #[.slice Ao5 t141.length co5]) ?_ 0 _ rfl; (with_reducible repeat first | apply bN | apply bD | apply bA); exact BK145.out))⟩; have n4_ : Zq (Below w.heap.size w w24) := ⟨(by rw [hw]; exact (by repeat (first | (with_reducible first | exact HB.out | apply wA | apply wN | apply wD | refine Za ?_ GE145.out) | exact HB.out)))⟩; clear hw HO_3 J146 HO152 BK145 HB; have HO_3 := n0_; have J146 := n1_; have HO152 := n2_; have BK145 := n3_; have HB := n4_; clear n0_ n1_ n2_ n3_ n4_))
     (try simp only [Act.put, Qa, Qb, Qc])
     have H := HC19.out
     clear HC19
     obtain ⟨y154, hy154⟩ : ∃ y_ : List Int, y_ = (([1] : List Int)) := ⟨_, rfl⟩
     replace H : ((Zt.f k1 t150 (([(⟨18, y154⟩ : S39)] : List (S39)))).bind fun t160 => ((Za7.f t160 0).bind fun bt163 => (if t144 = 0 then (if t153 = 0 then (if bt163.2 = 0 then (if (bt163.1.length : Int) = 18 then (if 15 < (bt163.1.length : Int) then (if (rd bt163.1 15) = 7 then (if 16 < (bt163.1.length : Int) then (some ((rd bt163.1 16) == 0)) else (none)) else (some false)) else (none)) else (some false)) else (some false)) else (some false)) else (some false)))) = some r := by first | (rw [hy154]; with_reducible exact H) | (have H2_ := (Option.bind_some _ _).symm.trans H; rw [hy154]; with_reducible exact H2_) | (have H2_ := (Option.bind_some _ _).symm.trans H; with_reducible exact H2_) | with_reducible exact H | (rw [hy154]; exact H) | exact H
     have Ny154 := aM hy154
     clear hy154
     obtain ⟨y157, hy157⟩ : ∃ y_ : List (S39), y_ = (([(⟨18, y154⟩ : S39)] : List (S39))) := ⟨_, rfl⟩
     replace H : ((Zt.f k1 t150 y157).bind fun t160 => ((Za7.f t160 0).bind fun bt163 => (if t144 = 0 then (if t153 = 0 then (if bt163.2 = 0 then (if (bt163.1.length : Int) = 18 then (if 15 < (bt163.1.length : Int) then (if (rd bt163.1 15) = 7 then (if 16 < (bt163.1.length : Int) then (some ((rd bt163.1 16) == 0)) else (none)) else (some false)) else (none)) else (some false)) else (some false)) else (some false)) else (some false)))) = some r := by first | (rw [hy157]; with_reducible exact H) | (have H2_ := (Option.bind_some _ _).symm.trans H; rw [hy157]; with_reducible exact H2_) | (have H2_ := (Option.bind_some _ _).symm.trans H; with_reducible exact H2_) | with_reducible exact H | (rw [hy157]; exact H) | exact H
     have Ny157 := aM hy157
     clear hy157
     replace H := Option.bind_eq_some_iff.mp H
     obtain ⟨t160, A250, H⟩ := H
     replace H : ((Za7.f t160 0).bind fun bt163 => (if t144 = 0 then (if t153 = 0 then (if bt163.2 = 0 then (if (bt163.1.length : Int) = 18 then (if 15 < (bt163.1.length : Int) then (if (rd bt163.1 15) = 7 then (if 16 < (bt163.1.length : Int) then (some ((rd bt163.1 16) == 0)) else (none)) else (some false)) else (none)) else (some false)) else (some false)) else (some false)) else (some false))) = some r := H
     have A25 := aM A250
     clear A250
     replace H := Option.bind_eq_some_iff.mp H
     obtain ⟨⟨t163, t166⟩, A260, H⟩ := H
     replace H : (if t144 = 0 then (if t153 = 0 then (if t166 = 0 then (if (t163.length : Int) = 18 then (if 15 < (t163.length : Int) then (if (rd t163 15) = 7 then (if 16 < (t163.length : Int) then (some ((rd t163 16) == 0)) else (none)) else (some false)) else (none)) else (some false)) else (some false)) else (some false)) else (some false)) = some r := H
     have A26 := aM A260
     clear A260
     have HC27 := aM H
     clear H
     have hcz28_0 : w24.cell? ⟨gb145, 0, none⟩ = some (.slice Ao22 t150.length co22) := (Ze BK145.out 0).trans rfl
     have hfz28_0 := Zg BK145.out 0
     go_upto_region 10 with (first | ((with_reducible refine Z7 (N := 30) rfl ?_); (try (refine Zcc (by rfl) ?_; dsimp only)); refine Kd.R_lit (Kd.int .i64) _ 3 ?hg (N := 30) ?hd (xs := ([1] : List Int)) (inner := [.int .i64 1]) (ok := fun _ => True) (okp := fun _ => True) ?hr ?hp (fun _ hk => hk) trivial (Below.refl _ _) (Nat.le_refl _) (by simp) ?_; (case hd => rfl); (case hg => rfl); (case hr => first | (go_simp; done) | (go_simp; rfl)); (case hp => exact (Reps.one (show Kd.M (Kd.int .i64) _ _ _ 1 [.int .i64 1] from rfl) (Reps.none _ _))); intro v155 w29 ho30 hb hg_ hnew_; clear hg_ hnew_; (first | rw [← Ny154.out] at ho30 | (simp only [Int.reduceToNat] at ho30; rw [← Ny154.out] at ho30)); have n0_ := aM (Kd.Zci (by (with_reducible repeat first | apply Kd.Zab | apply Kd.Yu | apply Kd.Zai); exact HO_3.out) hb); have n1_ := aM (Kd.Za4 (by (with_reducible repeat first | apply Kd.Ym | apply Kd.Yl | apply Kd.Yy); exact J146.out) (Kd.Zbg ho30) hb); have n2_ := aM (Kd.Za4 (by (with_reducible repeat first | apply Kd.Ym | apply Kd.Yl | apply Kd.Yy); exact HO152.out) (Kd.Zbg ho30) hb); have n3_ := aM (Kd.Zb1 ho30 (Zd (by repeat (first | (with_reducible first | exact HB.out | apply wA | apply wN | apply wD | refine Za ?_ GE145.out) | exact HB.out)))); have n4_ := aM (Zf (g := gb145) (o := .cells #[.slice Ao22 t150.length co22] 24 (0, 0)) (by (with_reducible repeat first | apply bN | apply bD | apply bA); exact BK145.out) hb); have n5_ := aM (Zj (by repeat (first | (with_reducible first | exact HB.out | apply wA | apply wN | apply wD | refine Za ?_ GE145.out) | exact HB.out)) hb); clear HO_3 J146 HO152 BK145 HB; have HO_3 := n0_; have J146 := n1_; have HO152 := n2_; have HO156 := n3_; have BK145 := n4_; have HB := n5_; clear n0_ n1_ n2_ n3_ n4_ n5_; clear hb ho30; obtain ⟨Ao31, co31, eo31⟩ := Kd.Za2 HO156.out; subst eo31) | ((with_reducible refine Z7 (N := 32) rfl ?_); (try (refine Zcc (by rfl) ?_; dsimp only)); refine Kd.N_lit k39 _ 39 ?hg (N' := 32) ?hd (xs := ([(⟨18, y154⟩ : S39)] : List (S39))) (inner := [.int .i64 18, .slice Ao31 y154.length co31]) (ok := (fun k_ => some k_ ≠ (.slice Ao11 x3_1.length co11 : Value).ownBlock ∧ some k_ ≠ (.slice Ao5 t141.length co5 : Value).ownBlock ∧ some k_ ≠ (.slice Ao22 t150.length co22 : Value).ownBlock ∧ k_ ≠ gb145)) (okp := (fun k_ => some k_ ≠ (.slice Ao11 x3_1.length co11 : Value).ownBlock ∧ some k_ ≠ (.slice Ao5 t141.length co5 : Value).ownBlock ∧ some k_ ≠ (.slice Ao22 t150.length co22 : Value).ownBlock ∧ k_ ≠ gb145)) ?hr ?hp (fun _ hk => hk) ((show ∀ k_, w29.heap.size ≤ k_ → (fun k_ => some k_ ≠ (.slice Ao11 x3_1.length co11 : Value).ownBlock ∧ some k_ ≠ (.slice Ao5 t141.length co5 : Value).ownBlock ∧ some k_ ≠ (.slice Ao22 t150.length co22 : Value).ownBlock ∧ k_ ≠ gb145) k_ from fun k_ hk => ⟨Kd.fresh' (Kd.R_lt (by (with_reducible repeat first | apply Kd.Zab | apply Kd.Yu | apply Kd.Zai); exact HO_3.out)) k_ hk, Kd.fresh' (Kd.N_lt (by (with_reducible repeat first | apply Kd.Ym | apply Kd.Yl | apply Kd.Yy); exact J146.out)) k_ hk, Kd.fresh' (Kd.N_lt (by (with_reducible repeat first | apply Kd.Ym | apply Kd.Yl | apply Kd.Yy); exact HO152.out)) k_ hk, Kd.Y6 (g := gb145) (o := .cells #[.slice Ao22 t150.length co22] 24 (0, 0)) (by (with_reducible repeat first | apply bN | apply bD | apply bA); exact BK145.out) k_ hk⟩) _ (Nat.le_refl _)) (Below.refl _ _) (Nat.le_refl _) (by simp) ?_; (case hd => rfl); (case hg => rfl); (case hr => first | (go_simp; done) | (go_simp; rfl)); (case hp => exact (Reps.c2 (show Kd.FK k39 _ _ (⟨18, y154⟩ : S39) [.int .i64 18, .slice Ao31 y154.length co31] from (k39_mkF _ _ (⟨18, y154⟩ : S39) (Kd.Zah (Kd.Zar (ok' := (fun k_ => some k_ ≠ (.slice Ao11 x3_1.length co11 : Value).ownBlock ∧ some k_ ≠ (.slice Ao5 t141.length co5 : Value).ownBlock ∧ some k_ ≠ (.slice Ao22 t150.length co22 : Value).ownBlock ∧ k_ ≠ gb145)) (Kd.Zaf (Kd.Zbq (Kd.Zbq (Kd.Zbq (HO156.out) (Kd.R_typed HO_3.out) (by decide)) (Kd.Zeg J146.out) (by decide)) (Kd.Zeg HO152.out) (by decide)) BK145.out (by decide)) (fun k_ hk => ⟨hk.1.1.1.2, ⟨hk.1.1.2, ⟨hk.1.2, hk.2⟩⟩⟩))).2.1 (Kd.R_F (Kd.Zar (ok' := (fun k_ => some k_ ≠ (.slice Ao11 x3_1.length co11 : Value).ownBlock ∧ some k_ ≠ (.slice Ao5 t141.length co5 : Value).ownBlock ∧ some k_ ≠ (.slice Ao22 t150.length co22 : Value).ownBlock ∧ k_ ≠ gb145)) (Kd.Zaf (Kd.Zbq (Kd.Zbq (Kd.Zbq (HO156.out) (Kd.R_typed HO_3.out) (by decide)) (Kd.Zeg J146.out) (by decide)) (Kd.Zeg HO152.out) (by decide)) BK145.out (by decide)) (fun k_ hk => ⟨hk.1.1.1.2, ⟨hk.1.1.2, ⟨hk.1.2, hk.2⟩⟩⟩))))) (Reps.none _ _))); intro v158 w32 ho33 hb hg_ hnew_; clear hg_ hnew_; (first | rw [← Ny157.out] at ho33 | (simp only [Int.reduceToNat] at ho33; rw [← Ny157.out] at ho33)); have n0_ := aM (Kd.Zci (by (with_reducible repeat first | apply Kd.Zab | apply Kd.Yu | apply Kd.Zai); exact HO_3.out) hb); have n1_ := aM (Kd.Za4 (by (with_reducible repeat first | apply Kd.Ym | apply Kd.Yl | apply Kd.Yy); exact J146.out) (by first | exact Kd.Y1 ho33 | exact Kd.Y1 (Kd.S_N ho33)) hb); have n2_ := aM (Kd.Za4 (by (with_reducible repeat first | apply Kd.Ym | apply Kd.Yl | apply Kd.Yy); exact HO152.out) (by first | exact Kd.Y1 ho33 | exact Kd.Y1 (Kd.S_N ho33)) hb); have n3_ := aM (Kd.Zbr ho33 (Zd (by repeat (first | (with_reducible first | exact HB.out | apply wA | apply wN | apply wD | refine Za ?_ GE145.out) | exact HB.out)))); have n4_ := aM (Zf (g := gb145) (o := .cells #[.slice Ao22 t150.length co22] 24 (0, 0)) (by (with_reducible repeat first | apply bN | apply bD | apply bA); exact BK145.out) hb); have n5_ := aM (Zj (by repeat (first | (with_reducible first | exact HB.out | apply wA | apply wN | apply wD | refine Za ?_ GE145.out) | exact HB.out)) hb); clear HO_3 J146 HO152 BK145 HB HO156; have HO_3 := n0_; have J146 := n1_; have HO152 := n2_; have HO159 := n3_; have BK145 := n4_; have HB := n5_; clear n0_ n1_ n2_ n3_ n4_ n5_; clear hb ho33; obtain ⟨Ao34, co34, eo34⟩ := Kd.Zbj HO159.out; subst eo34) | ((with_reducible refine Yf (f := 11) rfl ?_); refine Zap (some 33) rfl rfl Try.func11 (by kernel_rfl) rfl #[.agg #[.slice Ao22 t150.length co22], .slice Ao34 y157.length co34] rfl (by (try simp only [Qi, Qj, Qk]); first | done | rfl | (simp only [Qe, Qd]; rfl)) ?_; (with_reducible refine (Zt.calls k1 _ _ t150 _ _ y157 t160 _ ?side1 ?side2 ?side3 ?side4 A25.out).mono ?_); (case side1 => repeat (first | exact (Kd.Za9 HO152.out).2.2 | (with_reducible refine Kd.Yh ?_ _) | (with_reducible refine Kd.Yg ?_ _) | (with_reducible refine Kd.Yw ?_))); (case side2 => exact (Kd.Za9 HO152.out).2.1); (case side3 => repeat (first | exact (Kd.Za9 HO159.out).2.2 | (with_reducible refine Kd.Yh ?_ _) | (with_reducible refine Kd.Yg ?_ _) | (with_reducible refine Kd.Yw ?_))); (case side4 => exact (Kd.Za9 HO159.out).2.1); rintro e w35 ⟨v161, rfl, ho0, hb⟩; refine ⟨_, rfl, ?_⟩; have n0_ := aM (Kd.Zci (by (with_reducible repeat first | apply Kd.Zab | apply Kd.Yu | apply Kd.Zai); exact HO_3.out) hb); have n1_ := aM (Kd.Za4 (by (with_reducible repeat first | apply Kd.Ym | apply Kd.Yl | apply Kd.Yy); exact J146.out) (by first | exact Kd.Y1 ho0 | exact Kd.Y1 (Kd.S_N ho0)) hb); have n2_ := aM (Kd.Za4 (by (with_reducible repeat first | apply Kd.Ym | apply Kd.Yl | apply Kd.Yy); exact HO152.out) (by first | exact Kd.Y1 ho0 | exact Kd.Y1 (Kd.S_N ho0)) hb); have n3_ := aM (Kd.Za4 (by (with_reducible repeat first | apply Kd.Ym | apply Kd.Yl | apply Kd.Yy); exact HO159.out) (by first | exact Kd.Y1 ho0 | exact Kd.Y1 (Kd.S_N ho0)) hb); have n4_ := aM (Kd.Zbr (Kd.Yr (ok' := fun k_ => some k_ ≠ (.slice Ao11 x3_1.length co11 : Value).ownBlock ∧ some k_ ≠ (.slice Ao5 t141.length co5 : Value).ownBlock ∧ some k_ ≠ (.slice Ao22 t150.length co22 : Value).ownBlock ∧ some k_ ≠ (.slice Ao34 y157.length co34 : Value).ownBlock ∧ k_ ≠ gb145) (Kd.S_N (Kd.Zcb ho0)) (fun k_ hk_ => ⟨(Kd.fresh' (Kd.R_lt (by (with_reducible repeat first | apply Kd.Zab | apply Kd.Yu | apply Kd.Zai); exact HO_3.out)) k_ hk_.2.1), (Kd.fresh' (Kd.N_lt (by (with_reducible repeat first | apply Kd.Ym | apply Kd.Yl | apply Kd.Yy); exact J146.out)) k_ hk_.2.1), (Kd.fresh' (Kd.N_lt (by (with_reducible repeat first | apply Kd.Ym | apply Kd.Yl | apply Kd.Yy); exact HO152.out)) k_ hk_.2.1), (Kd.fresh' (Kd.N_lt (by (with_reducible repeat first | apply Kd.Ym | apply Kd.Yl | apply Kd.Yy); exact HO159.out)) k_ hk_.2.1), (Kd.Y6 (g := gb145) (o := .cells #[.slice Ao22 t150.length co22] 24 (0, 0)) (by (with_reducible repeat first | apply bN | apply bD | apply bA); exact BK145.out) k_ hk_.2.1)⟩)) (Zd (by repeat (first | (with_reducible first | exact HB.out | apply wA | apply wN | apply wD | refine Za ?_ GE145.out) | exact HB.out)))); have n5_ := aM (Zf (g := gb145) (o := .cells #[.slice Ao22 t150.length co22] 24 (0, 0)) (by (with_reducible repeat first | apply bN | apply bD | apply bA); exact BK145.out) hb); have n6_ := aM (Zj (by repeat (first | (with_reducible first | exact HB.out | apply wA | apply wN | apply wD | refine Za ?_ GE145.out) | exact HB.out)) hb); clear HO_3 J146 HO152 HO159 BK145 HB; have HO_3 := n0_; have J146 := n1_; have HO152 := n2_; have HO159 := n3_; have HO162 := n4_; have BK145 := n5_; have HB := n6_; clear n0_ n1_ n2_ n3_ n4_ n5_ n6_; (try clear hb); (try clear hb2); (try clear hk); (try clear hi); (try clear hge_); (try clear ho0); obtain ⟨Ao36, co36, eo36⟩ := Kd.Zbj HO162.out; subst eo36) | ((with_reducible refine Yf (f := 15) rfl ?_); refine Zap (some 34) rfl rfl Try.func15 (by kernel_rfl) rfl #[.agg #[.slice Ao36 t160.length co36], .int .i64 0] rfl (by (try simp only [Qi, Qj, Qk]); first | done | rfl | (simp only [Qe, Qd]; rfl)) ?_; (with_reducible refine (Za7.calls (fun k_ => (some k_ ≠ (.slice Ao11 x3_1.length co11 : Value).ownBlock ∧ (some k_ ≠ (.slice Ao5 t141.length co5 : Value).ownBlock ∧ (some k_ ≠ (.slice Ao22 t150.length co22 : Value).ownBlock ∧ (some k_ ≠ (.slice Ao34 y157.length co34 : Value).ownBlock ∧ k_ ≠ gb145))))) _ _ t160 0 t163 t166 _ ?side1 A26.out).mono ?_); (case side1 => exact Kd.N_V (HO162.out)); rintro e w37 ⟨v164, rfl, ho0, hb⟩; refine ⟨_, rfl, ?_⟩; have n0_ := aM (Kd.Zdm (by (with_reducible repeat first | apply Kd.Zab | apply Kd.Yu | apply Kd.Zai); exact HO_3.out) (Kd.Zbg ho0) hb); have n1_ := aM (Kd.Za4 (by (with_reducible repeat first | apply Kd.Ym | apply Kd.Yl | apply Kd.Yy); exact J146.out) (Kd.Zbg ho0) hb); have n2_ := aM (Kd.Za4 (by (with_reducible repeat first | apply Kd.Ym | apply Kd.Yl | apply Kd.Yy); exact HO152.out) (Kd.Zbg ho0) hb); have n3_ := aM (Kd.Za4 (by (with_reducible repeat first | apply Kd.Ym | apply Kd.Yl | apply Kd.Yy); exact HO159.out) (Kd.Zbg ho0) hb); have n4_ := aM (Kd.Za4 (by (with_reducible repeat first | apply Kd.Ym | apply Kd.Yl | apply Kd.Yy); exact HO162.out) (Kd.Zbg ho0) hb); have n5_ := aM (Kd.Zb1 (Kd.R_new' (Kd.Zar (ok' := fun k_ => True) ho0 (fun _ hk_ => trivial)) (Kd.R_lt (by (with_reducible repeat first | apply Kd.Zab | apply Kd.Yu | apply Kd.Zai); exact HO_3.out))) (Zd (by repeat (first | (with_reducible first | exact HB.out | apply wA | apply wN | apply wD | refine Za ?_ GE145.out) | exact HB.out)))); have n6_ := aM (Zf (g := gb145) (o := .cells #[.slice Ao22 t150.length co22] 24 (0, 0)) (by (with_reducible repeat first | apply bN | apply bD | apply bA); exact BK145.out) hb); have n7_ := aM (Zj (by repeat (first | (with_reducible first | exact HB.out | apply wA | apply wN | apply wD | refine Za ?_ GE145.out) | exact HB.out)) hb); clear HO_3 J146 HO152 HO159 HO162 BK145 HB; have HO_3 := n0_; have J146 := n1_; have HO152 := n2_; have HO159 := n3_; have HO162 := n4_; have HO165 := n5_; have BK145 := n6_; have HB := n7_; clear n0_ n1_ n2_ n3_ n4_ n5_ n6_ n7_; (try clear hb); (try clear hb2); (try clear hk); (try clear hi); (try clear hge_); (try clear ho0)))
     (try simp only [Act.put, Qa, Qb, Qc])
     have H := HC27.out
     clear HC27
     by_cases c38 : t144 = 0
     ·rw [if_pos c38] at H
      have c38b0 : (t144 == 0) = true := beq_iff_eq.mpr c38
      (try simp only [hl3_1] at c38b0)
      have c38b1 : (t144 != 0) = false := bne_eq_false_iff_eq.mpr c38
      (try simp only [hl3_1] at c38b1)
      clear c38
      by_cases c39 : t153 = 0
      ·rw [if_pos c39] at H
       have c39b0 : (t153 == 0) = true := beq_iff_eq.mpr c39
       (try simp only [hl3_1] at c39b0)
       have c39b1 : (t153 != 0) = false := bne_eq_false_iff_eq.mpr c39
       (try simp only [hl3_1] at c39b1)
       clear c39
       by_cases c40 : t166 = 0
       ·rw [if_pos c40] at H
        have c40b0 : (t166 == 0) = true := beq_iff_eq.mpr c40
        (try simp only [hl3_1] at c40b0)
        have c40b1 : (t166 != 0) = false := bne_eq_false_iff_eq.mpr c40
        (try simp only [hl3_1] at c40b1)
        clear c40
        by_cases c41 : (t163.length : Int) = 18
        ·rw [if_pos c41] at H
         have c41b0 : ((t163.length : Int) == 18) = true := beq_iff_eq.mpr c41
         (try simp only [hl3_1] at c41b0)
         have c41b1 : ((t163.length : Int) != 18) = false := bne_eq_false_iff_eq.mpr c41
         (try simp only [hl3_1] at c41b1)
         clear c41
         by_cases c42 : 15 < (t163.length : Int)
         ·rw [if_pos c42] at H
          have c42b0 : decide (15 < (t163.length : Int)) = true := decide_eq_true c42
          (try simp only [hl3_1] at c42b0)
          have c42b1 : decide (15 < t163.length) = true := decide_eq_true (by omega)
          (try simp only [hl3_1] at c42b1)
          clear c42
          by_cases c43 : (rd t163 15) = 7
          ·rw [if_pos c43] at H
           have c43b0 : ((rd t163 15) == 7) = true := beq_iff_eq.mpr c43
           (try simp only [hl3_1] at c43b0)
           have c43b1 : ((rd t163 15) != 7) = false := bne_eq_false_iff_eq.mpr c43
           (try simp only [hl3_1] at c43b1)
           clear c43
           by_cases c44 : 16 < (t163.length : Int)
           ·rw [if_pos c44] at H
            have c44b0 : decide (16 < (t163.length : Int)) = true := decide_eq_true c44
            (try simp only [hl3_1] at c44b0)
            have c44b1 : decide (16 < t163.length) = true := decide_eq_true (by omega)
            (try simp only [hl3_1] at c44b1)
            clear c44
            obtain rfl := Option.some.inj H
            obtain ⟨Ao45, co45, eo45⟩ := Kd.Za2 HO165.out
            subst eo45
            have p167 : 0 ≤ (15 : Int) := (by omega)
            have q167 : 15 < (t163.length : Int) := of_decide_eq_true (by first | (with_reducible assumption) | assumption)
            obtain ⟨ad167, e167, hx167_0⟩ := Kd.Zcz (Kd.Zah HO165.out).2.2 15 p167 q167
            cases e167
            (try simp only [show (15 : Int).toNat = 15 from rfl, Nat.reduceMul, Nat.reduceEqDiff, Go.Addr.add, ↓reduceIte] at hx167_0)
            have qi167 : (15 < t163.length) = True := eq_true (by omega)
            (try rw [show ((15 : Int)).toNat = 15 from rfl] at hx167_0)
            replace p167 := eq_true p167
            replace q167 := eq_true q167
            have p168 : 0 ≤ (16 : Int) := (by omega)
            have q168 : 16 < (t163.length : Int) := of_decide_eq_true (by first | (with_reducible assumption) | assumption)
            obtain ⟨ad168, e168, hx168_0⟩ := Kd.Zcz (Kd.Zah HO165.out).2.2 16 p168 q168
            obtain rfl : ad167 = ad168 := (by injection e168)
            (try simp only [show (16 : Int).toNat = 16 from rfl, Nat.reduceMul, Nat.reduceEqDiff, Go.Addr.add, ↓reduceIte] at hx168_0)
            have qi168 : (16 < t163.length) = True := eq_true (by omega)
            (try rw [show ((16 : Int)).toNat = 16 from rfl] at hx168_0)
            replace p168 := eq_true p168
            replace q168 := eq_true q168
            go_wp2
            go_ret
            exact ⟨by first | rfl | (simp [Zy, Zx] <;> rfl) | (simp [*, Zy, Zx] <;> rfl), by repeat (first | (with_reducible first | exact HB.out | apply wA | apply wN | apply wD | refine Za ?_ GE145.out) | exact HB.out)⟩
           ·rw [if_neg c44] at H
            exact absurd H (by simp)
          ·rw [if_neg c43] at H
           have c43b0 : ((rd t163 15) == 7) = false := beq_eq_false_iff_ne.mpr c43
           (try simp only [hl3_1] at c43b0)
           have c43b1 : ((rd t163 15) != 7) = true := bne_iff_ne.mpr c43
           (try simp only [hl3_1] at c43b1)
           obtain rfl := Option.some.inj H
           obtain ⟨Ao46, co46, eo46⟩ := Kd.Za2 HO165.out
           subst eo46
           have p167 : 0 ≤ (15 : Int) := (by omega)
           have q167 : 15 < (t163.length : Int) := of_decide_eq_true (by first | (with_reducible assumption) | assumption)
           obtain ⟨ad167, e167, hx167_0⟩ := Kd.Zcz (Kd.Zah HO165.out).2.2 15 p167 q167
           cases e167
           (try simp only [show (15 : Int).toNat = 15 from rfl, Nat.reduceMul, Nat.reduceEqDiff, Go.Addr.add, ↓reduceIte] at hx167_0)
           have qi167 : (15 < t163.length) = True := eq_true (by omega)
           (try rw [show ((15 : Int)).toNat = 15 from rfl] at hx167_0)
           replace p167 := eq_true p167
           replace q167 := eq_true q167
           go_wp2
           go_ret
           exact ⟨by first | rfl | (simp [Zy, Zx] <;> rfl) | (simp [*, Zy, Zx] <;> rfl), by repeat (first | (with_reducible first | exact HB.out | apply wA | apply wN | apply wD | refine Za ?_ GE145.out) | exact HB.out)⟩
         ·rw [if_neg c42] at H
          exact absurd H (by simp)
        ·rw [if_neg c41] at H
         have c41b0 : ((t163.length : Int) == 18) = false := beq_eq_false_iff_ne.mpr c41
         (try simp only [hl3_1] at c41b0)
         have c41b1 : ((t163.length : Int) != 18) = true := bne_iff_ne.mpr c41
         (try simp only [hl3_1] at c41b1)
         obtain rfl := Option.some.inj H
         obtain ⟨Ao47, co47, eo47⟩ := Kd.Za2 HO165.out
         subst eo47
         go_wp2
         go_ret
         exact ⟨by first | rfl | (simp [Zy, Zx] <;> rfl) | (simp [*, Zy, Zx] <;> rfl), by repeat (first | (with_reducible first | exact HB.out | apply wA | apply wN | apply wD | refine Za ?_ GE145.out) | exact HB.out)⟩
       ·rw [if_neg c40] at H
        have c40b0 : (t166 == 0) = false := beq_eq_false_iff_ne.mpr c40
        (try simp only [hl3_1] at c40b0)
        have c40b1 : (t166 != 0) = true := bne_iff_ne.mpr c40
        (try simp only [hl3_1] at c40b1)
        obtain rfl := Option.some.inj H
        go_wp2
        go_ret
        exact ⟨by first | rfl | (simp [Zy, Zx] <;> rfl) | (simp [*, Zy, Zx] <;> rfl), by repeat (first | (with_reducible first | exact HB.out | apply wA | apply wN | apply wD | refine Za ?_ GE145.out) | exact HB.out)⟩
      ·rw [if_neg c39] at H
       have c39b0 : (t153 == 0) = false := beq_eq_false_iff_ne.mpr c39
       (try simp only [hl3_1] at c39b0)
       have c39b1 : (t153 != 0) = true := bne_iff_ne.mpr c39
       (try simp only [hl3_1] at c39b1)
       obtain rfl := Option.some.inj H
       go_wp2
       go_ret
       exact ⟨by first | rfl | (simp [Zy, Zx] <;> rfl) | (simp [*, Zy, Zx] <;> rfl), by repeat (first | (with_reducible first | exact HB.out | apply wA | apply wN | apply wD | refine Za ?_ GE145.out) | exact HB.out)⟩
     ·rw [if_neg c38] at H
      have c38b0 : (t144 == 0) = false := beq_eq_false_iff_ne.mpr c38
      (try simp only [hl3_1] at c38b0)
      have c38b1 : (t144 != 0) = true := bne_iff_ne.mpr c38
      (try simp only [hl3_1] at c38b1)
      obtain rfl := Option.some.inj H
      go_wp2
      go_ret
      exact ⟨by first | rfl | (simp [Zy, Zx] <;> rfl) | (simp [*, Zy, Zx] <;> rfl), by repeat (first | (with_reducible first | exact HB.out | apply wA | apply wN | apply wD | refine Za ?_ GE145.out) | exact HB.out)⟩
 ·rw [if_neg c8] at H
  exact absurd H (by simp)

end Go.Proofs.Ytnfbjdnflifcoaa.PDk

namespace Go.Proofs.Ytnfbjdnflifcoaa.PDk
open Go.RowKit Go.Proofs.YtnfbjdnflifcoaaW.PrintWords Go.Proofs.YtnfbjdnflifcoaaW.PrintLast Go.Proofs.YtnfbjdnflifcoaaW.PrintMore
attribute [local go_sem] Za0 Zay Zbe Zbd Zan Zam Zaz Zax
set_option linter.unusedVariables false
set_option linter.unusedSimpArgs false

def Zk.l0 : Nat → List Int → List Int → Int → Option (Bool)
 | 0, _, _, _ => none
 | k + 1, x0, x1, x5 => if x5 < (x0.length : Int) then (if 0 ≤ x5 then (if x5 < (x1.length : Int) then (if (rd x0 x5) = (rd x1 x5) then (Zk.l0 k x0 x1 (wrap64 (x5 + 1))) else (some false)) else (none)) else (none)) else (some true)
def Zk.f (k : Nat) (l0 : List Int) (l1 : List Int) : Option (Bool) := if (l0.length : Int) = (l1.length : Int) then (Zk.l0 k l0 l1 0) else (some false)
theorem Zk.Zbk : ∀ k, (∀ y0 y1 y2, LeO (Zk.l0 k y0 y1 y2) (Zk.l0 (k + 1) y0 y1 y2))
 | 0 => fun _ _ _ r h => by simp [Zk.l0] at h
 | k + 1 => by
  have ih0 := Zk.Zbk k
  ·intro y0 y1 y2
   unfold Zk.l0
   repeat' first
   | (with_reducible exact ih0 _ _ _)
   | (with_reducible exact LeO.refl _)
   | (with_reducible exact LeO.none _)
   | (with_reducible refine LeO.ite ?_ ?_)
   | (with_reducible refine LeO.bind ?_ (fun _ => ?_))
   | exact ih0 _ _ _
   | exact LeO.none _
   | refine LeO.ite ?_ ?_
   | refine LeO.bind ?_ (fun _ => ?_)
theorem Zk.mono : ∀ a0 a1 k, LeO (Zk.f k a0 a1) (Zk.f (k + 1) a0 a1) := by
 intro a0 a1 k
 have ih0 := Zk.Zbk k
 unfold Zk.f
 repeat' first
   | (with_reducible exact ih0 _ _ _)
   | (with_reducible exact LeO.refl _)
   | (with_reducible exact LeO.none _)
   | (with_reducible refine LeO.ite ?_ ?_)
   | (with_reducible refine LeO.bind ?_ (fun _ => ?_))
   | exact ih0 _ _ _
   | exact LeO.none _
   | refine LeO.ite ?_ ?_
   | refine LeO.bind ?_ (fun _ => ?_)
set_option maxHeartbeats 8000000 in
set_option maxRecDepth 100000 in
theorem Zk.calls (k : Nat) (A0 : Option Addr) (c0 : Nat) (l0 : List Int) (A1 : Option Addr) (c1 : Nat) (l1 : List Int) (r : Bool) (w : World) (hr0 : Kd.C (Kd.int .u8) w A0 l0.length l0) (hc0 : l0.length ≤ c0) (hr1 : Kd.C (Kd.int .u8) w A1 l1.length l1) (hc1 : l1.length ≤ c1) (h : Zk.f k l0 l1 = some r) :
  Calls Try.prog 19 #[.slice A0 l0.length c0, .slice A1 l1.length c1] w fun e w' => e = .returned (.bool r) ∧ Zba w w' := by
 have HR0 := aM hr0
 have HC0 := aM hc0
 clear hr0 hc0
 have HR1 := aM hr1
 have HC1 := aM hc1
 clear hr1 hc1
 have H : (if (l0.length : Int) = (l1.length : Int) then (Zk.l0 k l0 l1 0) else (some false)) = some r := h
 clear h
 by_cases c3 : (l0.length : Int) = (l1.length : Int)
 ·rw [if_pos c3] at H
  have c3b0 : ((l0.length : Int) == (l1.length : Int)) = true := beq_iff_eq.mpr c3
  have c3b1 : ((l0.length : Int) != (l1.length : Int)) = false := bne_eq_false_iff_eq.mpr c3
  have c3b2 : (l0.length == l1.length) = true := by first | simpa using c3 | (simp at c3 ⊢; omega)
  clear c3
  have H' := aM H
  clear H
  go_enter Try.func19, Try.ntmps19
  go_wp2
  repeat (go_quiet (fail); try go_wp2)
  go_loopg [5] k (fun kq v5 w' => ∃ (x5_1 : Int), v5 = .int .i64 x5_1 ∧ Zq (Zk.l0 kq l0 l1 x5_1 = some r) ∧ Zq (kq ≤ k) ∧ Zba w w')
  case atStart => exact ⟨(0), (by first | rfl | (simp; done) | (simp [*]; done)), H', ⟨Nat.le_refl _⟩, by repeat (first | exact Zba.refl _ | apply Zba.step)⟩
  case round =>
   clear H'
   try clear c1
   try clear p2
   try clear c3
   try clear c3b0
   try clear c3b1
   try clear c3b2
   obtain ⟨x5_1, rfl, HA, HK1, ⟨m1, rfl⟩⟩ := hrel
   cases gk with
   | zero => exact absurd HA.out (by simp [Zk.l0])
   | succ k1 =>
    have H := HA.out
    clear HA
    simp only [Zk.l0] at H
    by_cases c4 : x5_1 < (l0.length : Int)
    ·rw [if_pos c4] at H
     have c4b0 : decide (x5_1 < (l0.length : Int)) = true := decide_eq_true c4
     clear c4
     by_cases c5 : 0 ≤ x5_1
     ·rw [if_pos c5] at H
      have c5b0 : decide (0 ≤ x5_1) = true := decide_eq_true c5
      clear c5
      by_cases c6 : x5_1 < (l1.length : Int)
      ·rw [if_pos c6] at H
       have c6b0 : decide (x5_1 < (l1.length : Int)) = true := decide_eq_true c6
       clear c6
       by_cases c7 : (rd l0 x5_1) = (rd l1 x5_1)
       ·rw [if_pos c7] at H
        have c7b0 : ((rd l0 x5_1) == (rd l1 x5_1)) = true := beq_iff_eq.mpr c7
        have c7b1 : ((rd l0 x5_1) != (rd l1 x5_1)) = false := bne_eq_false_iff_eq.mpr c7
        clear c7
        have H' := aM H
        clear H
        have p169 : 0 ≤ (x5_1 : Int) := of_decide_eq_true (by first | (with_reducible assumption) | assumption)
        have q169 : x5_1 < (l0.length : Int) := of_decide_eq_true (by first | (with_reducible assumption) | assumption)
        obtain ⟨ad169, e169, hx169_0⟩ := Kd.Zcz HR0.out x5_1 p169 q169
        cases e169
        replace p169 := eq_true p169
        replace q169 := eq_true q169
        have p170 : 0 ≤ (x5_1 : Int) := of_decide_eq_true (by first | (with_reducible assumption) | assumption)
        have q170 : x5_1 < (l1.length : Int) := of_decide_eq_true (by first | (with_reducible assumption) | assumption)
        obtain ⟨ad170, e170, hx170_0⟩ := Kd.Zcz HR1.out x5_1 p170 q170
        cases e170
        replace p170 := eq_true p170
        replace q170 := eq_true q170
        go_wp2
        repeat (go_quiet (fail); try go_wp2)
        go_roundg k1
        case measure => have := HK1.out; omega
        case rel => exact ⟨(wrap64 (x5_1 + 1)), (by first | rfl | (simp; done) | (simp [*]; done)), H', ⟨by have := HK1.out; omega⟩, by repeat (first | exact Zba.refl _ | apply Zba.step)⟩
       ·rw [if_neg c7] at H
        have c7b0 : ((rd l0 x5_1) == (rd l1 x5_1)) = false := beq_eq_false_iff_ne.mpr c7
        have c7b1 : ((rd l0 x5_1) != (rd l1 x5_1)) = true := bne_iff_ne.mpr c7
        obtain rfl := Option.some.inj H
        have p169 : 0 ≤ (x5_1 : Int) := of_decide_eq_true (by first | (with_reducible assumption) | assumption)
        have q169 : x5_1 < (l0.length : Int) := of_decide_eq_true (by first | (with_reducible assumption) | assumption)
        obtain ⟨ad169, e169, hx169_0⟩ := Kd.Zcz HR0.out x5_1 p169 q169
        cases e169
        replace p169 := eq_true p169
        replace q169 := eq_true q169
        have p170 : 0 ≤ (x5_1 : Int) := of_decide_eq_true (by first | (with_reducible assumption) | assumption)
        have q170 : x5_1 < (l1.length : Int) := of_decide_eq_true (by first | (with_reducible assumption) | assumption)
        obtain ⟨ad170, e170, hx170_0⟩ := Kd.Zcz HR1.out x5_1 p170 q170
        cases e170
        replace p170 := eq_true p170
        replace q170 := eq_true q170
        go_wp2
        repeat (go_quiet (fail); try go_wp2)
        go_ret
        exact ⟨by first | rfl | (simp; done) | (simp [*]; done), by repeat (first | exact Zba.refl _ | apply Zba.step)⟩
      ·rw [if_neg c6] at H
       exact absurd H (by simp)
     ·rw [if_neg c5] at H
      exact absurd H (by simp)
    ·rw [if_neg c4] at H
     have c4b0 : decide (x5_1 < (l0.length : Int)) = false := decide_eq_false c4
     clear c4
     obtain rfl := Option.some.inj H
     go_wp2
     repeat (go_quiet (fail); try go_wp2)
     go_ret
     exact ⟨by first | rfl | (simp; done) | (simp [*]; done), by repeat (first | exact Zba.refl _ | apply Zba.step)⟩
 ·rw [if_neg c3] at H
  have c3b0 : ((l0.length : Int) == (l1.length : Int)) = false := beq_eq_false_iff_ne.mpr c3
  have c3b1 : ((l0.length : Int) != (l1.length : Int)) = true := bne_iff_ne.mpr c3
  have c3b2 : (l0.length == l1.length) = false := by first | simpa using c3 | (simp at c3 ⊢; omega)
  obtain rfl := Option.some.inj H
  go_enter Try.func19, Try.ntmps19
  go_wp2
  repeat (go_quiet (fail); try go_wp2)
  go_ret
  exact ⟨by first | rfl | (simp; done) | (simp [*]; done), by repeat (first | exact Zba.refl _ | apply Zba.step)⟩

end Go.Proofs.Ytnfbjdnflifcoaa.PDk
