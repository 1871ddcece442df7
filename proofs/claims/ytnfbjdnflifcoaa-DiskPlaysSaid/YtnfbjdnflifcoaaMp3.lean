/- Texts of one proof, joined: part 3. No condition. -/
import Derived.Test.YtnfbjdnflifcoaaMp2
open List renaming setIfInBounds_toArray → Qa, set_cons_zero → Qb, set_cons_succ → Qc, length_take → Qd, length_drop → Qe, map_toArray → Qi, map_cons → Qj, map_nil → Qk, getElem?_eq_getElem → Qm
open Bool renaming false → Qf, true → Qt
open Go.World renaming block_lt_of_cell? → Qw
namespace Go.Proofs.Ytnfbjdnflifcoaa.PDk
open Go.RowKit Go.Proofs.YtnfbjdnflifcoaaW.PrintWords Go.Proofs.YtnfbjdnflifcoaaW.PrintLast Go.Proofs.YtnfbjdnflifcoaaW.PrintMore
attribute [local go_sem] Za0 Zay Zbe Zbd Zan Zam Zaz Zax
set_option linter.unusedVariables false
set_option linter.unusedSimpArgs false

/-- Element i with its second row added to the first. -/
def Zaq.tail (t : List S48) (i : Int) : Option (List S48 × Int) :=
  if 0 ≤ i then if i < (t.length : Int) then if (Zo t i).f0.length + (Zo t i).f1.length < 140737488355328 then some (t.set i.toNat ⟨(Zo t i).f0 ++ (Zo t i).f1, []⟩, 0) else none else none else none

def Zaq.f (k : Nat) (l0_0 : List (S48)) (a1 : Int) : Option ((List (S48)) × Int) := (Za1.f l0_0 a1).bind fun t257 => (if t257 = true then ((Ye.f k l0_0).bind fun t258 => (if 0 ≤ a1 then (if a1 < (t258.length : Int) then (Zaq.tail t258 a1) else (none)) else (none))) else (some (([] : List (S48)), 11)))
theorem Zaq.mono : ∀ a0 a1 k, LeO (Zaq.f k a0 a1) (Zaq.f (k + 1) a0 a1) := by
 intro a0 a1 k
 unfold Zaq.f
 repeat' first
   | (with_reducible exact Ye.mono _ _)
   | (with_reducible exact LeO.refl _)
   | (with_reducible exact LeO.none _)
   | (with_reducible refine LeO.ite ?_ ?_)
   | (with_reducible refine LeO.bind ?_ (fun _ => ?_))
   | exact Ye.mono _ _
   | exact LeO.none _
   | refine LeO.ite ?_ ?_
   | refine LeO.bind ?_ (fun _ => ?_)
set_option maxHeartbeats 8000000 in
set_option maxRecDepth 100000 in
theorem Zaq.calls (k : Nat) (A0_0 : Option Addr) (c0_0 : Nat) (l0_0 : List (S48)) (a1 : Int) (r1 : List (S48)) (r2 : Int) (w : World) (hr0_0 : Kd.C k48 w A0_0 l0_0.length l0_0) (hc0_0 : l0_0.length ≤ c0_0) (h : Zaq.f k l0_0 a1 = some (r1, r2)) :
  Calls Try.prog 17 #[.agg #[.slice A0_0 l0_0.length c0_0], .int .i64 a1] w fun e w' => ∃ v0_ : Value, e = .returned (.tuple #[.agg #[v0_], .int .i64 r2]) ∧ Kd.S k48 48 w' w.heap.size (fun _ => True) v0_ r1 ∧ Below w.heap.size w w' := by
 have hu24 := Try.underlying24
 have HR0_0 := aM hr0_0
 have HC0_0 := aM hc0_0
 clear hr0_0 hc0_0
 have HB := aM (Below.refl w.heap.size w)
 have H : ((Za1.f l0_0 a1).bind fun t257 => (if t257 = true then ((Ye.f k l0_0).bind fun t258 => (if 0 ≤ a1 then (if a1 < (t258.length : Int) then (Zaq.tail t258 a1) else (none)) else (none))) else (some (([] : List (S48)), 11)))) = some (r1, r2) := h
 clear h
 replace H := Option.bind_eq_some_iff.mp H
 obtain ⟨t257, A30, H⟩ := H
 replace H : (if t257 = true then ((Ye.f k l0_0).bind fun t258 => (if 0 ≤ a1 then (if a1 < (t258.length : Int) then (Zaq.tail t258 a1) else (none)) else (none))) else (some (([] : List (S48)), 11))) = some (r1, r2) := H
 have A3 := aM A30
 clear A30
 by_cases c4 : t257 = true
 ·subst c4
  have H1 : ((Ye.f k l0_0).bind fun t258 => (if 0 ≤ a1 then (if a1 < (t258.length : Int) then (Zaq.tail t258 a1) else (none)) else (none))) = some (r1, r2) := by rw [if_pos rfl] at H; exact H
  clear H
  have H := H1
  clear H1
  replace H := Option.bind_eq_some_iff.mp H
  obtain ⟨t258, A50, H⟩ := H
  replace H : (if 0 ≤ a1 then (if a1 < (t258.length : Int) then (Zaq.tail t258 a1) else (none)) else (none)) = some (r1, r2) := H
  have A5 := aM A50
  clear A50
  by_cases c6 : 0 ≤ a1
  ·rw [if_pos c6] at H
   have c6b0 : decide (0 ≤ a1) = true := decide_eq_true c6
   clear c6
   by_cases c7 : a1 < (t258.length : Int)
   ·rw [if_pos c7] at H
    have c7b0 : decide (a1 < (t258.length : Int)) = true := decide_eq_true c7
    clear c7
    go_enter Try.func17, Try.ntmps17
    go_wp2_with (first | ((with_reducible refine Z7 (N := 2) rfl ?_); refine Z4 ?hg (N := 2) ?hd (cs := #[.slice A0_0 l0_0.length c0_0]) (t := 24) ?hr ?_; (case hd => rfl); (case hg => rfl); (case hr => first | (go_simp; done) | (go_simp; rfl)); intro gb255 hg w8 hbox hb; have n0_ := aM (Zj (by repeat (first | (with_reducible first | exact HB.out | apply wA | apply wN | apply wD) | exact HB.out)) hb); have n1_ := aM (hbox); have n2_ := aM ((by rw [hg]; exact (Zd (by repeat (first | (with_reducible first | exact HB.out | apply wA | apply wN | apply wD) | exact HB.out))) : w.heap.size ≤ gb255)); have n3_ := aM ((by rw [hg]; exact (Zd (by repeat (first | (with_reducible first | exact HB.out | apply wA | apply wN | apply wD) | exact HB.out))) : w.heap.size ≤ gb255)); clear HB; have HB := n0_; have BK255 := n1_; have GW255 := n2_; have GE255 := n3_; clear n0_ n1_ n2_ n3_; clear hb hbox hg) | ((with_reducible refine Z7 (N := 4) rfl ?_); refine Z4 ?hg (N := 4) ?hd (cs := #[.slice none 0 0]) (t := 24) ?hr ?_; (case hd => rfl); (case hg => rfl); (case hr => first | (go_simp; done) | (go_simp; rfl)); intro gb256 hg w9 hbox hb; have n0_ := aM (Zf (g := gb255) (o := .cells #[.slice A0_0 l0_0.length c0_0] 24 (0, 0)) (by (with_reducible repeat first | apply bN | apply bD | apply bA); exact BK255.out) hb); have n1_ := aM (Zj (by repeat (first | (with_reducible first | exact HB.out | apply wA | apply wN | apply wD | refine Za ?_ GE255.out) | exact HB.out)) hb); have n2_ := aM (hbox); have n3_ := aM ((by rw [hg]; exact (Zd (by repeat (first | (with_reducible first | exact HB.out | apply wA | apply wN | apply wD | refine Za ?_ GE255.out) | exact HB.out))) : w.heap.size ≤ gb256)); have n4_ := aM ((by rw [hg]; exact (Zd (by repeat (first | (with_reducible first | exact HB.out | apply wA | apply wN | apply wD | refine Za ?_ GE255.out) | exact HB.out))) : w.heap.size ≤ gb256)); have n5_ := aM ((by rw [hg]; exact Nat.ne_of_lt (Ya (g := gb255) (o := .cells #[.slice A0_0 l0_0.length c0_0] 24 (0, 0)) (by (with_reducible repeat first | apply bN | apply bD | apply bA); exact BK255.out)) : gb255 ≠ gb256)); have n6_ := aM ((by rw [hg]; exact Nat.ne_of_gt (Ya (g := gb255) (o := .cells #[.slice A0_0 l0_0.length c0_0] 24 (0, 0)) (by (with_reducible repeat first | apply bN | apply bD | apply bA); exact BK255.out)) : gb256 ≠ gb255)); clear BK255 HB; have BK255 := n0_; have HB := n1_; have BK256 := n2_; have GW256 := n3_; have GE256 := n4_; have NB255_256 := n5_; have NB256_255 := n6_; clear n0_ n1_ n2_ n3_ n4_ n5_ n6_; clear hb hbox hg; have hnb10 := NB255_256.out; have hnc10 := NB256_255.out; have hcz11_0 : w9.cell? ⟨gb255, 0, none⟩ = some (.slice A0_0 l0_0.length c0_0) := (Ze BK255.out 0).trans rfl; have hfz11_0 := Zg BK255.out 0) | ((with_reducible refine Yf (f := 27) rfl ?_); refine Zap (some 9) rfl rfl Try.func27 (by kernel_rfl) rfl #[.agg #[.slice A0_0 l0_0.length c0_0], .int .i64 a1] rfl (by (try simp only [Qi, Qj, Qk]); first | done | rfl | (simp only [Qe, Qd]; rfl)) ?_; (with_reducible refine (Za1.calls _ _ l0_0 a1 true _ ?side1 ?side2 A3.out).mono ?_); (case side1 => repeat (first | exact (Kd.Yv HR0_0.out HB.out) | (with_reducible refine Kd.Yh ?_ _) | (with_reducible refine Kd.Yg ?_ _) | (with_reducible refine Kd.Yw ?_))); (case side2 => exact HC0_0.out); rintro e w12 ⟨rfl, hb⟩; refine ⟨_, rfl, ?_⟩; have n0_ := aM (Zf (g := gb255) (o := .cells #[.slice A0_0 l0_0.length c0_0] 24 (0, 0)) (by (with_reducible repeat first | apply bN | apply bD | apply bA); exact BK255.out) hb); have n1_ := aM (Zf (g := gb256) (o := .cells #[.slice none 0 0] 24 (0, 0)) (by (with_reducible repeat first | apply bN | apply bD | apply bA); exact BK256.out) hb); have n2_ := aM (Zj (by repeat (first | (with_reducible first | exact HB.out | apply wA | apply wN | apply wD | refine Za ?_ GE255.out | refine Za ?_ GE256.out) | exact HB.out)) hb); clear BK255 BK256 HB; have BK255 := n0_; have BK256 := n1_; have HB := n2_; clear n0_ n1_ n2_; (try clear hb); (try clear hb2); (try clear hk); (try clear hi); (try clear hge_); have hcz13_0 : w12.cell? ⟨gb255, 0, none⟩ = some (.slice A0_0 l0_0.length c0_0) := (Ze BK255.out 0).trans rfl; have hfz13_0 := Zg BK255.out 0) | ((with_reducible refine Yf (f := 24) rfl ?_); refine Zap (some 13) rfl rfl Try.func24 (by kernel_rfl) rfl #[.agg #[.slice A0_0 l0_0.length c0_0]] rfl (by (try simp only [Qi, Qj, Qk]); first | done | rfl | (simp only [Qe, Qd]; rfl)) ?_; (with_reducible refine (Ye.Zfi k _ _ l0_0 t258 _ ?side1 ?side2 A5.out).mono ?_); (case side1 => repeat (first | exact (Kd.Yv HR0_0.out HB.out) | (with_reducible refine Kd.Yh ?_ _) | (with_reducible refine Kd.Yg ?_ _) | (with_reducible refine Kd.Yw ?_))); (case side2 => exact HC0_0.out); rintro e w14 ⟨v259, rfl, ho0, hb⟩; refine ⟨_, rfl, ?_⟩; have n0_ := aM (Kd.Zdu ho0 (Zd (by repeat (first | (with_reducible first | exact HB.out | apply wA | apply wN | apply wD | refine Za ?_ GE255.out | refine Za ?_ GE256.out) | exact HB.out)))); have n1_ := aM (Zf (g := gb255) (o := .cells #[.slice A0_0 l0_0.length c0_0] 24 (0, 0)) (by (with_reducible repeat first | apply bN | apply bD | apply bA); exact BK255.out) hb); have n2_ := aM (Zf (g := gb256) (o := .cells #[.slice none 0 0] 24 (0, 0)) (by (with_reducible repeat first | apply bN | apply bD | apply bA); exact BK256.out) hb); have n3_ := aM (Zj (by repeat (first | (with_reducible first | exact HB.out | apply wA | apply wN | apply wD | refine Za ?_ GE255.out | refine Za ?_ GE256.out) | exact HB.out)) hb); clear BK255 BK256 HB; have HO260 := n0_; have BK255 := n1_; have BK256 := n2_; have HB := n3_; clear n0_ n1_ n2_ n3_; (try clear hb); (try clear hb2); (try clear hk); (try clear hi); (try clear hge_); (try clear ho0); obtain ⟨Ao15, co15, eo15⟩ := Kd.Zcm HO260.out; subst eo15; have hcz16_0 : w14.cell? ⟨gb255, 0, none⟩ = some (.slice A0_0 l0_0.length c0_0) := (Ze BK255.out 0).trans rfl; have hfz16_0 := Zg BK255.out 0) | ((with_reducible refine Zbm (t := 24) (p := 2) rfl ?_); refine Zbh (t := 24) (p := 2) (v := ?vo_w17) (w1 := (w14.setCell ⟨gb255, 0, none⟩ (.slice Ao15 t258.length co15))) ?hg ?ho ?hn ?hr ?_; (case ho => rfl); (case hg => rfl); (case hn => rfl); (case hr => first | (go_simp; done) | (go_simp; rfl)); intro w17 hw; have n0_ : Zq (Kd.S k48a 48 w17 w.heap.size (fun _ => True) (.slice Ao15 t258.length co15) t258) := ⟨(by rw [hw]; exact (by (with_reducible repeat first | apply Kd.Zao | apply Kd.Zal | apply Kd.Zaw); exact Kd.Zbc (Kd.Zcs (p := ⟨gb255, 0, none⟩) (Kd.Zcg HO260.out BK255.out (by decide)) (fun _ hk => hk.2) (.slice Ao15 t258.length co15)) (fun _ hk => trivial)))⟩; have n1_ : Zq (w17.heap[gb255]? = some (.cells #[.slice Ao15 t258.length co15] 24 (0, 0))) := ⟨(by rw [hw]; exact (by (with_reducible repeat first | apply bN | apply bD | apply bA); refine Yo (cs := #[.slice A0_0 l0_0.length c0_0]) ?_ 0 _ rfl; (with_reducible repeat first | apply bN | apply bD | apply bA); exact BK255.out))⟩; have n2_ : Zq (w17.heap[gb256]? = some (.cells #[.slice none 0 0] 24 (0, 0))) := ⟨(by rw [hw]; exact (by (with_reducible repeat first | apply bN | apply bD | apply bA); refine Z8 ?_ NB256_255.out _; (with_reducible repeat first | apply bN | apply bD | apply bA); exact BK256.out))⟩; have n3_ : Zq (Below w.heap.size w w17) := ⟨(by rw [hw]; exact (by repeat (first | (with_reducible first | exact HB.out | apply wA | apply wN | apply wD | refine Za ?_ GE255.out | refine Za ?_ GE256.out) | exact HB.out)))⟩; clear hw HO260 BK255 BK256 HB; have HO260 := n0_; have BK255 := n1_; have BK256 := n2_; have HB := n3_; clear n0_ n1_ n2_ n3_; have hcz18_0 : w17.cell? ⟨gb255, 0, none⟩ = some (.slice Ao15 t258.length co15) := (Ze BK255.out 0).trans rfl; have hfz18_0 := Zg BK255.out 0; have p261 : 0 ≤ (a1 : Int) := of_decide_eq_true (by first | (with_reducible assumption) | assumption); have q261 : a1 < (t258.length : Int) := of_decide_eq_true (by first | (with_reducible assumption) | assumption); obtain ⟨ad261, A261_0, c261_0, A261_1, c261_1, e261, hx261_0, hx261_1, hl261_0, hi261_0, hl261_1, hi261_1⟩ := Zbl (Kd.Zcn HO260.out).2.2 a1 p261 q261; cases e261; obtain ⟨ce261, hce261, hMe261, hcc261⟩ := Kd.S_get HO260.out z48 a1 p261 (by first | exact q261 | exact of_decide_eq_true (by first | (with_reducible assumption) | assumption) | (have e_ := (Kd.Zcn HO260.out).1; omega)); obtain ⟨ve261_0, ve261_1, rfl, ge261_0, ge261_1⟩ := Zd4 hMe261; have hv261_0 := hcc261 0 _ rfl; rw [Nat.add_zero] at hv261_0; replace hv261_0 := Option.some.inj (hv261_0.symm.trans hx261_0); rw [hv261_0] at ge261_0; have HL261_0 := aM (show Kd.R (Kd.int .u8) 5 _ _ _ _ ((Zo t258 a1).f0) from ge261_0); clear hv261_0 ge261_0; have hv261_1 := hcc261 1 _ rfl; rw [Zb4 _ _ 1 (by omega)] at hv261_1; replace hv261_1 := Option.some.inj (hv261_1.symm.trans hx261_1); rw [hv261_1] at ge261_1; have HL261_1 := aM (show Kd.R (Kd.int .u8) 5 _ _ _ _ ((Zo t258 a1).f1) from ge261_1); clear hv261_1 ge261_1; clear hcc261 hce261; have HR261_0 := aM hi261_0; have HC261_0 := aM hl261_0; clear hi261_0 hl261_0; have HR261_1 := aM hi261_1; have HC261_1 := aM hl261_1; clear hi261_1 hl261_1; replace p261 := eq_true p261; replace q261 := eq_true q261))
    unfold Zaq.tail at H
    have c17p : a1 < (t258.length : Int) := of_decide_eq_true (by assumption)
    have c6p : 0 ≤ a1 := of_decide_eq_true (by assumption)
    rw [if_pos c6p, if_pos c17p] at H
    rcases Nat.lt_or_ge ((Zo t258 a1).f0.length + (Zo t258 a1).f1.length) 140737488355328 with hlim | hlim
    case inr => rw [if_neg (Nat.not_lt.2 hlim)] at H; exact absurd H (by simp)
    rw [if_pos hlim] at H
    simp only [Option.some.injEq, Prod.mk.injEq] at H
    obtain ⟨hr1, rfl⟩ := H
    have HLIM := aM hlim
    clear hlim
    obtain ⟨go, co, eo, hgb, hgl, cl, hGB⟩ := Kd.S_form HO260.out (by omega)
    cases eo
    have hS1 := Kd.Zaw (Kd.S_set HO260.out BK255.out (by decide) 0 (.slice (some ⟨go, 0, none⟩) t258.length co15))
    have hb1 := bD (Yo BK255.out 0 (.slice (some ⟨go, 0, none⟩) t258.length co15) rfl)
    have hb2 := bD (Z8 (p := ⟨gb255, 0, none⟩) BK256.out NB256_255.out (.slice (some ⟨go, 0, none⟩) t258.length co15))
    have hB1 := wD (Za (j := 0) (v := .slice (some ⟨go, 0, none⟩) t258.length co15) HB.out GE255.out)
    have HGE := aM hgb
    obtain ⟨oki, cE, hcl, hM, hcc, hfr, hoki, hH⟩ := Kd.S_elem hS1 z48 a1 c6p c17p
    obtain ⟨fE, v0, v1, rfl, g0, g1⟩ := Zc2 hM
    obtain ⟨A0, c0, rfl⟩ := Kd.Za2 g0
    obtain ⟨A1, c1, rfl⟩ := Kd.Za2 g1
    have hx0 : World.cell? _ ⟨go, a1.toNat * 2, none⟩ = some (.slice A0 (Zo t258 a1).f0.length c0) := hcc 0 _ rfl
    have hx1 : World.cell? _ ⟨go, a1.toNat * 2 + 1, none⟩ = some (.slice A1 (Zo t258 a1).f1.length c1) := hcc 1 _ rfl
    have hp1 : (0 ≤ a1) = True := eq_true c6p
    have hp2 : (a1 < (t258.length : Int)) = True := eq_true c17p
    have HS1 := aM hS1
    have HB1 := aM hb1
    have HB2 := aM hb2
    have HBL := aM hB1
    have HH := aM hH
    have HG0 := aM g0
    have HG1 := aM g1
    have HCL := aM hcl
    clear hS1 hb1 hb2 hB1 hH g0 g1 hcl hM hoki hgb hgl hGB hcc
    go_simp
    try go_wp2
    obtain ⟨y1, hy1⟩ : ∃ y_ : List Int, y_ = (Zo t258 a1).f0 ++ (Zo t258 a1).f1 := ⟨_, rfl⟩
    have HY := aM hy1
    obtain ⟨x1, hx1_⟩ : ∃ x_ : S48, x_ = ⟨y1, []⟩ := ⟨_, rfl⟩
    have HX := aM hx1_
    rw [← hy1, ← hx1_] at hr1
    subst hr1
    clear hy1 hx1_
    refine Zb9 (n := 17) (S := fun w' => w'.cell? ⟨go, a1.toNat * 2, none⟩ = some (.slice A0 (Zo t258 a1).f0.length c0) ∧ w'.cell? ⟨go, a1.toNat * 2 + 1, none⟩ = some (.slice A1 (Zo t258 a1).f1.length c1)) (ds := [13, 16]) #[Qf, Qf, Qf, Qf, Qf, Qf, Qf, Qf, Qf, Qf, Qf, Qf, Qf, Qf, Qf, Qf, Qf] (by kernel_rfl) rfl rfl ⟨hx0, hx1⟩ (fun hHeld => ?_)
    generalize (w14.setCell ⟨gb255, 0, none⟩ (.slice (some ⟨go, 0, none⟩) t258.length co15)).drew = w5 at *
    refine Yq (i := 0) (N := some 18) (v := ?_) (a' := ?_) #[Qt, Qf, Qf, Qf, Qf, Qf, Qf, Qf, Qf, Qf, Qf, Qf, Qf, Qf, Qf, Qf, Qf] rfl rfl (by kernel_rfl) (fun _ _ _ h => h) (Or.inl ⟨by rfl, ?_⟩) ?_ ?_
    rotate_left
    ·intro w'
     go_simp
     with_reducible rfl
    rotate_left
    ·simp only [Act.put, Qa, Qb, Qc, Z5, Z6]
     rfl
    refine Yq (i := 1) (N := some 19) (v := ?_) (a' := ?_) #[Qt, Qt, Qf, Qf, Qf, Qf, Qf, Qf, Qf, Qf, Qf, Qf, Qf, Qf, Qf, Qf, Qf] rfl rfl (by kernel_rfl) (fun _ _ _ h => h) (Or.inl ⟨by rfl, ?_⟩) ?_ ?_
    rotate_left
    ·intro w'
     go_simp
     with_reducible rfl
    rotate_left
    ·simp only [Act.put, Qa, Qb, Qc, Z5, Z6]
     rfl
    refine Yq (i := 2) (N := some 20) (v := ?_) (a' := ?_) #[Qt, Qt, Qt, Qf, Qf, Qf, Qf, Qf, Qf, Qf, Qf, Qf, Qf, Qf, Qf, Qf, Qf] rfl rfl (by kernel_rfl) (fun _ _ _ h => h) (Or.inl ⟨by rfl, ?_⟩) ?_ ?_
    rotate_left
    ·intro w'
     go_simp
     with_reducible rfl
    rotate_left
    ·simp only [Act.put, Qa, Qb, Qc, Z5, Z6]
     rfl
    refine Yq (i := 3) (N := some 21) (v := ?_) (a' := ?_) #[Qt, Qt, Qt, Qt, Qf, Qf, Qf, Qf, Qf, Qf, Qf, Qf, Qf, Qf, Qf, Qf, Qf] rfl rfl (by kernel_rfl) (fun _ _ _ h => h) (Or.inl ⟨by rfl, ?_⟩) ?_ ?_
    rotate_left
    ·intro w'
     go_simp
     with_reducible rfl
    rotate_left
    ·simp only [Act.put, Qa, Qb, Qc, Z5, Z6]
     rfl
    refine Yq (i := 4) (N := some 22) (v := ?_) (a' := ?_) #[Qt, Qt, Qt, Qt, Qt, Qf, Qf, Qf, Qf, Qf, Qf, Qf, Qf, Qf, Qf, Qf, Qf] rfl rfl (by kernel_rfl) (fun _ _ _ h => h) (Or.inl ⟨by rfl, ?_⟩) ?_ ?_
    rotate_left
    ·intro w'
     go_simp
     with_reducible rfl
    rotate_left
    ·simp only [Act.put, Qa, Qb, Qc, Z5, Z6]
     rfl
    refine Yq (i := 6) (N := some 24) (v := ?_) (a' := ?_) #[Qt, Qt, Qt, Qt, Qt, Qf, Qt, Qf, Qf, Qf, Qf, Qf, Qf, Qf, Qf, Qf, Qf] rfl rfl (by kernel_rfl) (fun _ _ _ h => h) (Or.inl ⟨by rfl, ?_⟩) ?_ ?_
    rotate_left
    ·intro w'
     go_simp
     with_reducible rfl
    rotate_left
    ·simp only [Act.put, Qa, Qb, Qc, Z5, Z6]
     rfl
    refine Yq (i := 7) (N := some 25) (v := ?_) (a' := ?_) #[Qt, Qt, Qt, Qt, Qt, Qf, Qt, Qt, Qf, Qf, Qf, Qf, Qf, Qf, Qf, Qf, Qf] rfl rfl (by kernel_rfl) (fun _ _ _ h => h) (Or.inl ⟨by rfl, ?_⟩) ?_ ?_
    rotate_left
    ·intro w'
     go_simp
     with_reducible rfl
    rotate_left
    ·simp only [Act.put, Qa, Qb, Qc, Z5, Z6]
     rfl
    refine Yq (i := 8) (N := some 26) (v := ?_) (a' := ?_) #[Qt, Qt, Qt, Qt, Qt, Qf, Qt, Qt, Qt, Qf, Qf, Qf, Qf, Qf, Qf, Qf, Qf] rfl rfl (by kernel_rfl) (fun _ _ _ h => h) (Or.inl ⟨by rfl, ?_⟩) ?_ ?_
    rotate_left
    ·intro w'
     go_simp
     with_reducible rfl
    rotate_left
    ·simp only [Act.put, Qa, Qb, Qc, Z5, Z6]
     rfl
    refine Za5 (i := 5) (N := some 23) (v := ?_) (a' := ?_) #[Qt, Qt, Qt, Qt, Qt, Qt, Qt, Qt, Qt, Qf, Qf, Qf, Qf, Qf, Qf, Qf, Qf] rfl rfl (by kernel_rfl) (fun _ _ _ h => h) (Or.inl ⟨by rfl, ?_⟩) hHeld ?_ ?_
    rotate_left
    ·rintro w' ⟨s0, s1⟩
     go_simp
     with_reducible rfl
    rotate_left
    ·simp only [Act.put, Qa, Qb, Qc, Z5, Z6]
     rfl
    refine Za5 (i := 9) (N := some 27) (v := ?_) (a' := ?_) #[Qt, Qt, Qt, Qt, Qt, Qt, Qt, Qt, Qt, Qt, Qf, Qf, Qf, Qf, Qf, Qf, Qf] rfl rfl (by kernel_rfl) (fun _ _ _ h => h) (Or.inl ⟨by rfl, ?_⟩) hHeld ?_ ?_
    rotate_left
    ·rintro w' ⟨s0, s1⟩
     go_simp
     with_reducible rfl
    rotate_left
    ·simp only [Act.put, Qa, Qb, Qc, Z5, Z6]
     rfl
    refine one_ (i := 10) (N := some 28) #[Qt, Qt, Qt, Qt, Qt, Qt, Qt, Qt, Qt, Qt, Qt, Qf, Qf, Qf, Qf, Qf, Qf] rfl rfl (by kernel_rfl) (by decide) (fun K hK => ?_)
    refine Kd.Za8 (Kd.int .u8) (w0 := w) w.heap.size (by rfl) (.tmp 23) (.tmp 27) 30 5 (.int .u8 0) 1 rfl Try.underlying30 info5 rfl (by decide) (by omega) (.slice A0 (Zo t258 a1).f0.length c0) (Zo t258 a1).f0 (Zo t258 a1).f1 _ _ _ (fun k => (oki k ∧ fE k = true) ∨ w5.heap.size ≤ k) (fun _ => False) rfl rfl (Kd.Zar HG0.out (fun _ h => .inl h)) (Kd.Zah HG1.out).2.2 (fun _ _ h => h) (fun _ h => h.elim) (fun _ h => .inr h) HBL.out (Zd HBL.out) ?hl ?_
    (case hl => have := HLIM.out; omega)
    intro v1 w1 ho hb hg hat
    rw [← HY.out] at ho
    have HN0 := aM ho
    have HN1 := aM (Kd.R_grown (Kd.Zar (Kd.Zch HG1.out) (ok' := fun k => (oki k ∧ fE k = false) ∧ k < w5.heap.size) (fun k h => ⟨h.1, h.2.2.1⟩)) hg (fun k hk he => by have h1 := (HG0.out.1 k he.symm).2; rw [hk.1.2] at h1; exact absurd h1 (by decide)))
    have HN2 := aM (Kd.Zeh (Kd.H_widen HH.out) hg (fun k he => .inl (HG0.out.1 k he).1))
    have HN3 := aM (Yc HB1.out hg (Kd.R_ne HG0.out HB1.out (by decide)))
    have HN4 := aM (Yc HB2.out hg (Kd.R_ne HG0.out HB2.out (by decide)))
    have HN5 := aM hb
    clear ho hb hg hat
    obtain ⟨A3, c3, eo3⟩ := Kd.Za2 HN0.out
    subst eo3
    obtain ⟨_, _, hraw, _, _, hcc1, _⟩ := Kd.H_raw HN2.out c6p c17p
    obtain ⟨_, hfr1⟩ := Kd.H_at HN2.out c6p c17p
    have hz0 : World.cell? _ ⟨go, a1.toNat * 2, none⟩ = some (.slice A0 (Zo t258 a1).f0.length c0) := hcc1 0 _ rfl
    have hz1 : World.cell? _ ⟨go, a1.toNat * 2 + 1, none⟩ = some (.slice A1 (Zo t258 a1).f1.length c1) := hcc1 1 _ rfl
    have hy0 : World.frozen? _ ⟨go, a1.toNat * 2, none⟩ = false := hfr1 0
    have hy1 : World.frozen? _ ⟨go, a1.toNat * 2 + 1, none⟩ = false := hfr1 1
    refine hK.out _ _ ⟨hz0, hz1⟩ (fun hHeld => ?_)
    clear hK K
    refine Zb2 (a' := ?_) ?_ ?_
    rotate_left
    ·show Act.put _ (some 28) _ = _
     simp only [Act.put, Qa, Qb, Qc, Z5, Z6]
     rfl
    refine Yq (i := 11) (N := some 29) (v := ?_) (a' := ?_) #[Qt, Qt, Qt, Qt, Qt, Qt, Qt, Qt, Qt, Qt, Qt, Qt, Qf, Qf, Qf, Qf, Qf] rfl rfl (by kernel_rfl) (fun _ _ _ h => h) (Or.inl ⟨by rfl, ?_⟩) ?_ ?_
    rotate_left
    ·intro w'
     go_simp
     with_reducible rfl
    rotate_left
    ·simp only [Act.put, Qa, Qb, Qc, Z5, Z6]
     rfl
    refine Yq (i := 12) (N := some 30) (v := ?_) (a' := ?_) #[Qt, Qt, Qt, Qt, Qt, Qt, Qt, Qt, Qt, Qt, Qt, Qt, Qt, Qf, Qf, Qf, Qf] rfl rfl (by kernel_rfl) (fun _ _ _ h => h) (Or.inl ⟨by rfl, ?_⟩) ?_ ?_
    rotate_left
    ·intro w'
     go_simp
     with_reducible rfl
    rotate_left
    ·simp only [Act.put, Qa, Qb, Qc, Z5, Z6]
     rfl
    refine last_ (i := 13) (N := none) #[Qt, Qt, Qt, Qt, Qt, Qt, Qt, Qt, Qt, Qt, Qt, Qt, Qt, Qt, Qf, Qf, Qf] rfl rfl (by kernel_rfl) (by decide) (fun K hK => ?_)
    refine Zcp (w1 := ?_) (by rfl) rfl ?_ ?_
    rotate_left
    ·go_simp
     rfl
    refine hK.out _ _ ?_
    clear hK K
    refine Yq (i := 14) (N := some 31) (v := ?_) (a' := ?_) #[Qt, Qt, Qt, Qt, Qt, Qt, Qt, Qt, Qt, Qt, Qt, Qt, Qt, Qt, Qt, Qf, Qf] rfl rfl (by kernel_rfl) (fun _ _ _ h => h) (Or.inl ⟨by rfl, ?_⟩) ?_ ?_
    rotate_left
    ·intro w'
     go_simp
     with_reducible rfl
    rotate_left
    ·simp only [Act.put, Qa, Qb, Qc, Z5, Z6]
     rfl
    refine Yq (i := 15) (N := some 32) (v := ?_) (a' := ?_) #[Qt, Qt, Qt, Qt, Qt, Qt, Qt, Qt, Qt, Qt, Qt, Qt, Qt, Qt, Qt, Qt, Qf] rfl rfl (by kernel_rfl) (fun _ _ _ h => h) (Or.inl ⟨by rfl, ?_⟩) ?_ ?_
    rotate_left
    ·intro w'
     go_simp
     with_reducible rfl
    rotate_left
    ·simp only [Act.put, Qa, Qb, Qc, Z5, Z6]
     rfl
    refine last_ (i := 16) (N := none) #[Qt, Qt, Qt, Qt, Qt, Qt, Qt, Qt, Qt, Qt, Qt, Qt, Qt, Qt, Qt, Qt, Qt] rfl rfl (by kernel_rfl) (by decide) (fun K hK => ?_)
    refine Zcp (w1 := ?_) (by rfl) rfl ?_ ?_
    rotate_left
    ·go_simp
     rfl
    refine hK.out _ _ ?_
    clear hK K
    refine Zcv (by kernel_rfl) ?_
    have HP := Kd.S_seg0 HN2.out c6p c17p (seg := [.slice A3 y1.length c3, .slice none 0 0]) (j := 0) (show 0 + 2 ≤ 2 by decide) (x' := x1) (HX.out ▸ k48a_mk (⟨y1, []⟩ : S48) HN0.out (Kd.Zbx (Kd.int .u8) 5 _ _ (fun _ => False)) (fun _ _ h => h)) (fun k hk => hk.elim (fun h => h.elim (fun h => .inl h.1) (fun h => .inr ⟨trivial, h⟩)) (fun h => h.elim))
    have HB3 := aM (Yc HN3.out HP.2 (Kd.S_ne HS1.out HB1.out (by decide)))
    have HB4 := aM (Yc HN4.out HP.2 (Kd.S_ne HS1.out HB2.out (by decide)))
    have HS2 := aM HP.1
    have HB5 := aM (Za (j := a1.toNat * 2 + 1) (v := .slice none 0 0) (Za (j := a1.toNat * 2) (v := .slice A3 y1.length c3) HN5.out HGE.out) HGE.out)
    clear HP hraw hz0 hz1 hy0 hy1 hfr1 hcc1
    change Zq ((((w1.setCell ⟨go, a1.toNat * 2, none⟩ (.slice A3 y1.length c3)).setCell ⟨go, a1.toNat * 2 + 1, none⟩ (.slice none 0 0)).heap[gb255]?) = _) at HB3
    change Zq ((((w1.setCell ⟨go, a1.toNat * 2, none⟩ (.slice A3 y1.length c3)).setCell ⟨go, a1.toNat * 2 + 1, none⟩ (.slice none 0 0)).heap[gb256]?) = _) at HB4
    change Zq (Kd.S k48a 48 ((w1.setCell ⟨go, a1.toNat * 2, none⟩ (.slice A3 y1.length c3)).setCell ⟨go, a1.toNat * 2 + 1, none⟩ (.slice none 0 0)) _ _ _ _) at HS2
    generalize (w1.setCell ⟨go, a1.toNat * 2, none⟩ (.slice A3 y1.length c3)).setCell ⟨go, a1.toNat * 2 + 1, none⟩ (.slice none 0 0) = w6 at *
    have hcz1 := (Ze HB3.out 0).trans rfl
    have hfz1 := Zg HB3.out 0
    have hcz2 := (Ze HB4.out 0).trans rfl
    have hfz2 := Zg HB4.out 0
    clear hx0 hx1 hfr
    go_wp2
    refine bodyPost_ret (Zau rfl _ _ gb256 24 #[.slice (some ⟨go, 0, none⟩) t258.length co15] (0, 0) _ rfl (Yo (cs := #[.slice none 0 0]) HB4.out 0 _ rfl) Try.underlying24 rfl (by kernel_rfl)) rfl ?_
    exact ⟨_, rfl, k48a_S (Kd.S_set HS2.out HB4.out (by decide) 0 _), Za HB5.out GE256.out⟩
   ·rw [if_neg c7] at H
    exact absurd H (by simp)
  ·rw [if_neg c6] at H
   exact absurd H (by simp)
 ·replace c4 := Bool.eq_false_iff.mpr c4
  subst c4
  have H1 : (some (([] : List (S48)), 11)) = some (r1, r2) := by rw [if_neg (show ¬ (false = true) by decide)] at H; exact H
  clear H
  have H := H1
  clear H1
  simp only [Option.some.injEq, Prod.mk.injEq] at H
  obtain ⟨rfl, rfl⟩ := H
  go_enter Try.func17, Try.ntmps17
  go_wp2_with (first | ((with_reducible refine Z7 (N := 2) rfl ?_); refine Z4 ?hg (N := 2) ?hd (cs := #[.slice A0_0 l0_0.length c0_0]) (t := 24) ?hr ?_; (case hd => rfl); (case hg => rfl); (case hr => first | (go_simp; done) | (go_simp; rfl)); intro gb255 hg w19 hbox hb; have n0_ := aM (Zj (by repeat (first | (with_reducible first | exact HB.out | apply wA | apply wN | apply wD) | exact HB.out)) hb); have n1_ := aM (hbox); have n2_ := aM ((by rw [hg]; exact (Zd (by repeat (first | (with_reducible first | exact HB.out | apply wA | apply wN | apply wD) | exact HB.out))) : w.heap.size ≤ gb255)); have n3_ := aM ((by rw [hg]; exact (Zd (by repeat (first | (with_reducible first | exact HB.out | apply wA | apply wN | apply wD) | exact HB.out))) : w.heap.size ≤ gb255)); clear HB; have HB := n0_; have BK255 := n1_; have GW255 := n2_; have GE255 := n3_; clear n0_ n1_ n2_ n3_; clear hb hbox hg) | ((with_reducible refine Z7 (N := 4) rfl ?_); refine Z4 ?hg (N := 4) ?hd (cs := #[.slice none 0 0]) (t := 24) ?hr ?_; (case hd => rfl); (case hg => rfl); (case hr => first | (go_simp; done) | (go_simp; rfl)); intro gb256 hg w20 hbox hb; have n0_ := aM (Zf (g := gb255) (o := .cells #[.slice A0_0 l0_0.length c0_0] 24 (0, 0)) (by (with_reducible repeat first | apply bN | apply bD | apply bA); exact BK255.out) hb); have n1_ := aM (Zj (by repeat (first | (with_reducible first | exact HB.out | apply wA | apply wN | apply wD | refine Za ?_ GE255.out) | exact HB.out)) hb); have n2_ := aM (hbox); have n3_ := aM ((by rw [hg]; exact (Zd (by repeat (first | (with_reducible first | exact HB.out | apply wA | apply wN | apply wD | refine Za ?_ GE255.out) | exact HB.out))) : w.heap.size ≤ gb256)); have n4_ := aM ((by rw [hg]; exact (Zd (by repeat (first | (with_reducible first | exact HB.out | apply wA | apply wN | apply wD | refine Za ?_ GE255.out) | exact HB.out))) : w.heap.size ≤ gb256)); have n5_ := aM ((by rw [hg]; exact Nat.ne_of_lt (Ya (g := gb255) (o := .cells #[.slice A0_0 l0_0.length c0_0] 24 (0, 0)) (by (with_reducible repeat first | apply bN | apply bD | apply bA); exact BK255.out)) : gb255 ≠ gb256)); have n6_ := aM ((by rw [hg]; exact Nat.ne_of_gt (Ya (g := gb255) (o := .cells #[.slice A0_0 l0_0.length c0_0] 24 (0, 0)) (by (with_reducible repeat first | apply bN | apply bD | apply bA); exact BK255.out)) : gb256 ≠ gb255)); clear BK255 HB; have BK255 := n0_; have HB := n1_; have BK256 := n2_; have GW256 := n3_; have GE256 := n4_; have NB255_256 := n5_; have NB256_255 := n6_; clear n0_ n1_ n2_ n3_ n4_ n5_ n6_; clear hb hbox hg; have hnb21 := NB255_256.out; have hnc21 := NB256_255.out; have hcz22_0 : w20.cell? ⟨gb255, 0, none⟩ = some (.slice A0_0 l0_0.length c0_0) := (Ze BK255.out 0).trans rfl; have hfz22_0 := Zg BK255.out 0) | ((with_reducible refine Yf (f := 27) rfl ?_); refine Zap (some 9) rfl rfl Try.func27 (by kernel_rfl) rfl #[.agg #[.slice A0_0 l0_0.length c0_0], .int .i64 a1] rfl (by (try simp only [Qi, Qj, Qk]); first | done | rfl | (simp only [Qe, Qd]; rfl)) ?_; (with_reducible refine (Za1.calls _ _ l0_0 a1 false _ ?side1 ?side2 A3.out).mono ?_); (case side1 => repeat (first | exact (Kd.Yv HR0_0.out HB.out) | (with_reducible refine Kd.Yh ?_ _) | (with_reducible refine Kd.Yg ?_ _) | (with_reducible refine Kd.Yw ?_))); (case side2 => exact HC0_0.out); rintro e w23 ⟨rfl, hb⟩; refine ⟨_, rfl, ?_⟩; have n0_ := aM (Zf (g := gb255) (o := .cells #[.slice A0_0 l0_0.length c0_0] 24 (0, 0)) (by (with_reducible repeat first | apply bN | apply bD | apply bA); exact BK255.out) hb); have n1_ := aM (Zf (g := gb256) (o := .cells #[.slice none 0 0] 24 (0, 0)) (by (with_reducible repeat first | apply bN | apply bD | apply bA); exact BK256.out) hb); have n2_ := aM (Zj (by repeat (first | (with_reducible first | exact HB.out | apply wA | apply wN | apply wD | refine Za ?_ GE255.out | refine Za ?_ GE256.out) | exact HB.out)) hb); clear BK255 BK256 HB; have BK255 := n0_; have BK256 := n1_; have HB := n2_; clear n0_ n1_ n2_; (try clear hb); (try clear hb2); (try clear hk); (try clear hi); (try clear hge_); have hcz24_0 : w23.cell? ⟨gb256, 0, none⟩ = some (.slice none 0 0) := (Ze BK256.out 0).trans rfl; have hfz24_0 := Zg BK256.out 0))
  refine bodyPost_ret (Zau rfl _ _ gb256 24 #[.slice none 0 0] (0, 0) _ rfl (by (with_reducible repeat first | apply bN | apply bD | apply bA); refine Yo (cs := #[.slice none 0 0]) ?_ 0 _ rfl; (with_reducible repeat first | apply bN | apply bD | apply bA); exact BK256.out) Try.underlying24 rfl (by kernel_rfl)) rfl ?_
  exact ⟨_, by first | rfl | (simp [Zy, Zx] <;> rfl) | (simp [*, Zy, Zx] <;> rfl), by first | exact Kd.Zc0 _ _ _ _ _ | exact Kd.Zcw _ _ _ _ _ | exact Kd.Zcr _ _ _ _ _ | exact Kd.Zc1 _ _ _ _ _ | exact Kd.Zbx _ _ _ _ _, by repeat (first | (with_reducible first | exact HB.out | apply wA | apply wN | apply wD | refine Za ?_ GE255.out | refine Za ?_ GE256.out) | exact HB.out)⟩

end Go.Proofs.Ytnfbjdnflifcoaa.PDk

namespace Go.Proofs.Ytnfbjdnflifcoaa.PDk
open Go.RowKit Go.Proofs.YtnfbjdnflifcoaaW.PrintWords Go.Proofs.YtnfbjdnflifcoaaW.PrintLast Go.Proofs.YtnfbjdnflifcoaaW.PrintMore
attribute [local go_sem] Za0 Zay Zbe Zbd Zan Zam Zaz Zax
set_option linter.unusedVariables false
set_option linter.unusedSimpArgs false

mutual
def Zi.l0 : Nat → Int → List (S39) → Int → List Int → Int → Option ((List (S39)) × Int)
 | 0, _, _, _, _, _ => none
 | k + 1, x1, x5, x6, x1000, x1001 => if x6 < x1 then ((Zz.f x1000 x1001 60).bind fun bt265 => ((Zz.f x1000 bt265.2 3).bind fun bt268 => (Zi.l1 k x1 x5 x6 bt268.1 x1000 bt268.2 (wrap64 (bt265.1 - 2)) ([] : List Int)))) else (some (x5, x1001))
def Zi.l1 : Nat → Int → List (S39) → Int → Int → List Int → Int → Int → List Int → Option ((List (S39)) × Int)
 | 0, _, _, _, _, _, _, _, _ => none
 | k + 1, x1, x5, x6, x8, x1000, x1001, x268000, x268001 => if x8 > 0 then ((Zz.f x1000 x1001 5).bind fun bt270 => (if x268001.length < 17592186044416 then (Zi.l1 k x1 x5 x6 (wrap64 (x8 - 1)) x1000 bt270.2 x268000 (x268001 ++ [wrap64 (bt270.1 - 1)])) else (none))) else (if x5.length < 4398046511104 then (Zi.l0 k x1 (x5 ++ [(⟨x268000, x268001⟩ : S39)]) (wrap64 (x6 + 1)) x1000 x1001) else (none))
end
def Zi.f (k : Nat) (s0_0 : List Int) (s0_1 : Int) (a1 : Int) : Option ((List (S39)) × Int) := Zi.l0 k a1 ([] : List (S39)) 0 s0_0 s0_1
theorem Zi.Zbk : ∀ k, (∀ y0 y1 y2 y3 y4, LeO (Zi.l0 k y0 y1 y2 y3 y4) (Zi.l0 (k + 1) y0 y1 y2 y3 y4)) ∧ (∀ y0 y1 y2 y3 y4 y5 y6 y7, LeO (Zi.l1 k y0 y1 y2 y3 y4 y5 y6 y7) (Zi.l1 (k + 1) y0 y1 y2 y3 y4 y5 y6 y7))
 | 0 => ⟨fun _ _ _ _ _ r h => by simp [Zi.l0] at h, fun _ _ _ _ _ _ _ _ r h => by simp [Zi.l1] at h⟩
 | k + 1 => by
  obtain ⟨ih0, ih1⟩ := Zi.Zbk k
  refine ⟨?_, ?_⟩
  ·intro y0 y1 y2 y3 y4
   unfold Zi.l0
   repeat' first
   | (with_reducible exact ih0 _ _ _ _ _)
   | (with_reducible exact ih1 _ _ _ _ _ _ _ _)
   | (with_reducible exact LeO.refl _)
   | (with_reducible exact LeO.none _)
   | (with_reducible refine LeO.ite ?_ ?_)
   | (with_reducible refine LeO.bind ?_ (fun _ => ?_))
   | exact ih0 _ _ _ _ _
   | exact ih1 _ _ _ _ _ _ _ _
   | exact LeO.none _
   | refine LeO.ite ?_ ?_
   | refine LeO.bind ?_ (fun _ => ?_)
  ·intro y0 y1 y2 y3 y4 y5 y6 y7
   unfold Zi.l1
   repeat' first
   | (with_reducible exact ih0 _ _ _ _ _)
   | (with_reducible exact ih1 _ _ _ _ _ _ _ _)
   | (with_reducible exact LeO.refl _)
   | (with_reducible exact LeO.none _)
   | (with_reducible refine LeO.ite ?_ ?_)
   | (with_reducible refine LeO.bind ?_ (fun _ => ?_))
   | exact ih0 _ _ _ _ _
   | exact ih1 _ _ _ _ _ _ _ _
   | exact LeO.none _
   | refine LeO.ite ?_ ?_
   | refine LeO.bind ?_ (fun _ => ?_)
theorem Zi.mono : ∀ a0 a1 a2 k, LeO (Zi.f k a0 a1 a2) (Zi.f (k + 1) a0 a1 a2) := by
 intro a0 a1 a2 k
 obtain ⟨ih0, ih1⟩ := Zi.Zbk k
 unfold Zi.f
 repeat' first
   | (with_reducible exact ih0 _ _ _ _ _)
   | (with_reducible exact ih1 _ _ _ _ _ _ _ _)
   | (with_reducible exact LeO.refl _)
   | (with_reducible exact LeO.none _)
   | (with_reducible refine LeO.ite ?_ ?_)
   | (with_reducible refine LeO.bind ?_ (fun _ => ?_))
   | exact ih0 _ _ _ _ _
   | exact ih1 _ _ _ _ _ _ _ _
   | exact LeO.none _
   | refine LeO.ite ?_ ?_
   | refine LeO.bind ?_ (fun _ => ?_)
def Zi.T9 : Bool × List (List Nat × List Nat) := (true, [([], []), ([0], [0]), ([], []), ([2], [2]), ([3], [3]), ([4], [4]), ([1, 5, 3], [1, 5]), ([0, 1, 2, 3, 4, 5, 6], []), ([7, 6, 6, 0, 1, 2, 3, 4, 5, 6], [6, 7])])
def Zi.B9 : List Nat := [0, 1, 0, 4, 12, 28, 63, 127, 255]
theorem Zi.tab9 : rtab .any (opsOf Try.f18 9) = Zi.T9 := by kernel_rfl
theorem Zi.bits9 : Zcd Zi.T9.2 Zi.B9 = true := by kernel_rfl
set_option maxHeartbeats 8000000 in
set_option maxRecDepth 100000 in
theorem Zi.calls (k : Nat) (g : Nat) (s0_0 : List Int) (s0_1 : Int) (a1 : Int) (r1 : List (S39)) (r2 : Int) (w0 w : World) (hI : Zb w0 w g s0_0 s0_1) (hB : Below w0.heap.size w0 w) (h : Zi.f k s0_0 s0_1 a1 = some (r1, r2)) :
  Calls Try.prog 18 #[.pointer (some ⟨g, 0, none⟩), .int .i64 a1] w fun e w' => ∃ v0_ : Value, e = .returned (v0_) ∧ Kd.S k39 39 w' w.heap.size (fun _ => True) v0_ r1 ∧ Zb w0 w' g s0_0 r2 ∧ Below w0.heap.size w0 w' ∧ Zn w w' g none := by
 have hu39 := Try.underlying39
 have HI0 := aM hI
 have HK := aM (Zn.refl w g none)
 have HL := aM hB.size
 clear hI
 have HW0 := aM hB.size
 have HB := aM hB
 clear hB
 have H : (Zi.l0 k a1 ([] : List (S39)) 0 s0_0 s0_1) = some (r1, r2) := h
 clear h
 have H' := aM H
 clear H
 go_enter Try.func18, Try.ntmps18
 go_wp2
 go_loopg [5, 6] k (fun kq v5 v6 w' => ∃ (x5_1 : List (S39)) (x6_1 : Int) (x1001_1 : Int), v6 = .int .i64 x6_1 ∧ Zq (Zi.l0 kq a1 x5_1 x6_1 s0_0 x1001_1 = some (r1, r2)) ∧ Zq (kq ≤ k) ∧ Zq (Kd.S k39 39 w' w.heap.size (fun _ => True) v5 x5_1) ∧ Zq (Zb w0 w' g s0_0 x1001_1) ∧ Zq (Zn w w' g none) ∧ Zq (Below w0.heap.size w0 w'))
 case atStart => exact ⟨(([] : List (S39))), (0), (s0_1), (by first | rfl | (simp; done) | (simp [*]; done)), H', ⟨Nat.le_refl _⟩, ⟨by first | exact Kd.Zc0 _ _ _ _ _ | exact Kd.Zcw _ _ _ _ _ | exact Kd.Zcr _ _ _ _ _ | exact Kd.Zc1 _ _ _ _ _ | exact Kd.Zbx _ _ _ _ _⟩, ⟨by repeat (first | (with_reducible first | exact HI0.out | apply Zb.alloc | apply Zb.drewN | apply Zb.drew | apply Zb.Zad) | exact HI0.out)⟩, ⟨by repeat (first | (with_reducible first | exact HK.out | apply Zn.set_ | apply kN | apply kD | apply kA) | exact HK.out)⟩, ⟨by repeat (first | (with_reducible first | exact HB.out | apply wA | apply wN | apply wD | refine Za ?_ (Zb.ge HI0.out)) | exact HB.out)⟩⟩
 case round =>
  clear H'
  try clear c1
  try clear p2
  obtain ⟨x5_1, x6_1, x1001_1, rfl, HA, HK1, HO_5, HI0, HK, HB⟩ := hrel
  cases gk with
  | zero => exact absurd HA.out (by simp [Zi.l0])
  | succ k1 =>
   have H := HA.out
   clear HA
   simp only [Zi.l0] at H
   by_cases c3 : x6_1 < a1
   ·rw [if_pos c3] at H
    have c3b0 : decide (x6_1 < a1) = true := decide_eq_true c3
    clear c3
    replace H := Option.bind_eq_some_iff.mp H
    obtain ⟨⟨t265, t266⟩, A40, H⟩ := H
    replace H : ((Zz.f s0_0 t266 3).bind fun bt268 => (Zi.l1 k1 a1 x5_1 x6_1 bt268.1 s0_0 bt268.2 (wrap64 (t265 - 2)) ([] : List Int))) = some (r1, r2) := H
    have A4 := aM A40
    clear A40
    replace H := Option.bind_eq_some_iff.mp H
    obtain ⟨⟨t268, t269⟩, A50, H⟩ := H
    replace H : (Zi.l1 k1 a1 x5_1 x6_1 t268 s0_0 t269 (wrap64 (t265 - 2)) ([] : List Int)) = some (r1, r2) := H
    have A5 := aM A50
    clear A50
    have H' := aM H
    clear H
    go_wp2_with (first | ((with_reducible refine Yf (f := 29) rfl ?_); refine Zap (some 15) rfl rfl Try.func29 (by kernel_rfl) rfl #[.pointer (some ⟨g, 0, none⟩), .int .i64 60] rfl (by (try simp only [Qi, Qj, Qk]); first | done | rfl | (simp only [Qe, Qd]; rfl)) ?_; (with_reducible refine (Zz.calls g s0_0 x1001_1 60 t265 t266 w0 _ ?side1 ?side2 A4.out).mono ?_); (case side1 => repeat (first | (with_reducible first | exact HI0.out | apply Zb.alloc | apply Zb.drewN | apply Zb.drew | apply Zb.Zad) | exact HI0.out)); (case side2 => repeat (first | (with_reducible first | exact HB.out | apply wA | apply wN | apply wD | refine Za ?_ (Zb.ge HI0.out)) | exact HB.out)); rintro e w6 ⟨rfl, hi, hb, hk⟩; refine ⟨_, rfl, ?_⟩; have n0_ := aM (Kd.Zbc (Kd.S_keep (Zb.apartS (show Zb w0 _ g s0_0 x1001_1 from by repeat (first | (with_reducible first | exact HI0.out | apply Zb.alloc | apply Zb.drewN | apply Zb.drew | apply Zb.Zad) | exact HI0.out)) (by (with_reducible repeat first | apply Kd.Zao | apply Kd.Zal | apply Kd.Zaw); exact HO_5.out) (by decide)) hk (fun _ h => h.2)) (fun _ h => h.1)); have n1_ := aM (Zn.trans (by repeat (first | (with_reducible first | exact HK.out | apply Zn.set_ | apply kN | apply kD | apply kA) | exact HK.out)) hk (.inl rfl)); have n2_ := aM (hb); have n3_ := aM (hi); clear HO_5 HK HB HI0; have HO_5 := n0_; have HK := n1_; have HB := n2_; have HI0 := n3_; clear n0_ n1_ n2_ n3_; (try clear hb); (try clear hb2); (try clear hk); (try clear hi); (try clear hge_)) | ((with_reducible refine Z7 (N := 7) rfl ?_); refine Z4 ?hg (N := 7) ?hd (cs := #[.int .i64 0, .slice none 0 0]) (t := 39) ?hr ?_; (case hd => rfl); (case hg => rfl); (case hr => first | (go_simp; done) | (go_simp; rfl)); intro gb267 hg w7 hbox hb; have n0_ := aM (Kd.Zct (Kd.Zep (by (with_reducible repeat first | apply Kd.Zao | apply Kd.Zal | apply Kd.Zaw); exact HO_5.out) gb267 (Nat.le_of_eq hg.symm)) hb); have n1_ := aM (Zb.below (by repeat (first | (with_reducible first | exact HI0.out | apply Zb.alloc | apply Zb.drewN | apply Zb.drew | apply Zb.Zad) | exact HI0.out)) hb); have n2_ := aM (Zn.trans (by repeat (first | (with_reducible first | exact HK.out | apply Zn.set_ | apply kN | apply kD | apply kA) | exact HK.out)) (Zn.of_below hb g none) (.inl rfl)); have n3_ := aM (Zj (by repeat (first | (with_reducible first | exact HB.out | apply wA | apply wN | apply wD | refine Za ?_ (Zb.ge HI0.out)) | exact HB.out)) hb); have n4_ := aM (hbox); have n5_ := aM ((by rw [hg]; exact (Y7 (w := w) (g := g) (row := none) (by repeat (first | (with_reducible first | exact HK.out | apply Zn.set_ | apply kN | apply kD | apply kA) | exact HK.out))) : w.heap.size ≤ gb267)); have n6_ := aM ((Nat.le_trans HW0.out (by rw [hg]; exact (Y7 (w := w) (g := g) (row := none) (by repeat (first | (with_reducible first | exact HK.out | apply Zn.set_ | apply kN | apply kD | apply kA) | exact HK.out))) : w.heap.size ≤ gb267) : w0.heap.size ≤ gb267)); have n7_ := aM ((by rw [hg]; exact Nat.ne_of_lt (Zb.lt (show Zb w0 _ g s0_0 t266 from by repeat (first | (with_reducible first | exact HI0.out | apply Zb.alloc | apply Zb.drewN | apply Zb.drew | apply Zb.Zad) | exact HI0.out))) : g ≠ gb267)); have n8_ := aM ((by rw [hg]; exact Nat.ne_of_gt (Zb.lt (show Zb w0 _ g s0_0 t266 from by repeat (first | (with_reducible first | exact HI0.out | apply Zb.alloc | apply Zb.drewN | apply Zb.drew | apply Zb.Zad) | exact HI0.out))) : gb267 ≠ g)); clear HO_5 HI0 HK HB; have HO_5 := n0_; have HI0 := n1_; have HK := n2_; have HB := n3_; have BK267 := n4_; have GW267 := n5_; have GE267 := n6_; have NB0_267 := n7_; have NB267_0 := n8_; clear n0_ n1_ n2_ n3_ n4_ n5_ n6_ n7_ n8_; clear hb hbox hg; have hnb8 := NB267_0.out; have hnc8 := NB0_267.out; have hcz9_0 : w7.cell? ⟨gb267, 0, none⟩ = some (.int .i64 0) := (Ze BK267.out 0).trans rfl; have hcz9_1 : w7.cell? ⟨gb267, 1, none⟩ = some (.slice none 0 0) := (Ze BK267.out 1).trans rfl; have hfz9_0 := Zg BK267.out 0; have hfz9_1 := Zg BK267.out 1) | ((with_reducible refine Yf (f := 29) rfl ?_); refine Zap (some 19) rfl rfl Try.func29 (by kernel_rfl) rfl #[.pointer (some ⟨g, 0, none⟩), .int .i64 3] rfl (by (try simp only [Qi, Qj, Qk]); first | done | rfl | (simp only [Qe, Qd]; rfl)) ?_; (with_reducible refine (Zz.calls g s0_0 t266 3 t268 t269 w0 _ ?side1 ?side2 A5.out).mono ?_); (case side1 => repeat (first | (with_reducible first | exact HI0.out | apply Zb.alloc | apply Zb.drewN | apply Zb.drew | apply Zb.Zad | refine Zb.far ?_ NB0_267.out _) | exact HI0.out)); (case side2 => repeat (first | (with_reducible first | exact HB.out | apply wA | apply wN | apply wD | refine Za ?_ (Zb.ge HI0.out) | refine Za ?_ GE267.out) | exact HB.out)); rintro e w10 ⟨rfl, hi, hb, hk⟩; refine ⟨_, rfl, ?_⟩; have n0_ := aM (Kd.Zbc (Kd.S_keep (Zb.apartS (show Zb w0 _ g s0_0 t266 from by repeat (first | (with_reducible first | exact HI0.out | apply Zb.alloc | apply Zb.drewN | apply Zb.drew | apply Zb.Zad | refine Zb.far ?_ NB0_267.out _) | exact HI0.out)) (by (with_reducible repeat first | apply Kd.Zao | apply Kd.Zal | apply Kd.Zaw); exact (Kd.Zbc (Kd.Zcs (p := ⟨gb267, 1, none⟩) (Kd.Zcs (p := ⟨gb267, 0, none⟩) (Kd.Zbc HO_5.out (fun k_ hk => (⟨hk, hk.2⟩ : _ ∧ k_ ≠ gb267))) (fun _ hk => hk.2) (.int .i64 (wrap64 (t265 - 2)))) (fun _ hk => hk.2) (.slice none 0 0)) (fun _ h_ => h_.1))) (by decide)) hk (fun _ h => h.2)) (fun _ h => h.1)); have n1_ := aM (Zn.blk hk (g' := gb267) (o := .cells #[.int .i64 (wrap64 (t265 - 2)), .slice none 0 0] 39 (0, 0)) (by (with_reducible repeat first | apply bN | apply bD | apply bA); refine Yo (cs := #[.int .i64 (wrap64 (t265 - 2)), .slice none 0 0]) ?_ 1 _ rfl; (with_reducible repeat first | apply bN | apply bD | apply bA); refine Yo (cs := #[.int .i64 0, .slice none 0 0]) ?_ 0 _ rfl; (with_reducible repeat first | apply bN | apply bD | apply bA); exact BK267.out) NB267_0.out (by simp)); have n2_ := aM (Zn.trans (by repeat (first | (with_reducible first | exact HK.out | apply Zn.set_ | apply kN | apply kD | apply kA | refine kF ?_ GW267.out _) | exact HK.out)) hk (.inl rfl)); have n3_ := aM (hb); have n4_ := aM (hi); clear HO_5 BK267 HK HB HI0; have HO_5 := n0_; have BK267 := n1_; have HK := n2_; have HB := n3_; have HI0 := n4_; clear n0_ n1_ n2_ n3_ n4_; (try clear hb); (try clear hb2); (try clear hk); (try clear hi); (try clear hge_)))
    go_loopg [8] k1 (fun kq v8 w' => ∃ (x8_2 : Int) (x1001_2 : Int) (x268001_2 : List Int) (u268001 : Value), v8 = .int .i64 x8_2 ∧ Zq (Zi.l1 kq a1 x5_1 x6_1 x8_2 s0_0 x1001_2 (wrap64 (t265 - 2)) x268001_2 = some (r1, r2)) ∧ Zq (kq ≤ k1) ∧ Zq (Kd.S k39 39 w' w.heap.size (fun k_ => some k_ ≠ (u268001 : Value).ownBlock ∧ k_ ≠ gb267) u5 x5_1) ∧ Zq (Kd.R (Kd.int .i64) 3 w' w.heap.size (fun _ => True) u268001 x268001_2) ∧ Zq (w'.heap[gb267]? = some (.cells #[.int .i64 (wrap64 (t265 - 2)), u268001] 39 (0, 0))) ∧ Zq (Zb w0 w' g s0_0 x1001_2) ∧ Zq (Zn w w' g none) ∧ Zq (Below w0.heap.size w0 w'))
    case atStart => exact ⟨(t268), (t269), (([] : List Int)), (.slice none 0 0), (by first | rfl | (simp; done) | (simp [*]; done)), H', ⟨Nat.le_refl _⟩, ⟨by (with_reducible repeat first | apply Kd.Zao | apply Kd.Zal | apply Kd.Zaw); exact Kd.Zbc HO_5.out (fun _ hk => ⟨(by simp [Value.ownBlock]), hk.2⟩)⟩, ⟨by first | exact Kd.Zbx _ _ _ _ _ | exact Kd.Zcw _ _ _ _ _ | exact Kd.Zcr _ _ _ _ _ | exact Kd.Zc1 _ _ _ _ _ | exact Kd.Zc0 _ _ _ _ _⟩, ⟨by (with_reducible repeat first | apply bN | apply bD | apply bA); exact BK267.out⟩, ⟨by repeat (first | (with_reducible first | exact HI0.out | apply Zb.alloc | apply Zb.drewN | apply Zb.drew | apply Zb.Zad | refine Zb.far ?_ NB0_267.out _) | exact HI0.out)⟩, ⟨by repeat (first | (with_reducible first | exact HK.out | apply Zn.set_ | apply kN | apply kD | apply kA | refine kF ?_ GW267.out _) | exact HK.out)⟩, ⟨by repeat (first | (with_reducible first | exact HB.out | apply wA | apply wN | apply wD | refine Za ?_ (Zb.ge HI0.out) | refine Za ?_ GE267.out) | exact HB.out)⟩⟩
    case round =>
     clear H'
     try clear c1
     try clear c2
     try clear p2
     try clear c3
     try clear c3b0
     try clear p6
     try clear c8
     try clear hcz9_0
     try clear hcz9_1
     try clear hfz9_0
     try clear hfz9_1
     try clear p2
     obtain ⟨x8_2, x1001_2, x268001_2, u268001, rfl, HA, HK2, HO_5, HO_268001, BK267, HI0, HK, HB⟩ := hrel
     cases gk with
     | zero => exact absurd HA.out (by simp [Zi.l1])
     | succ k2 =>
      have H := HA.out
      clear HA
      simp only [Zi.l1] at H
      by_cases c11 : x8_2 > 0
      ·rw [if_pos c11] at H
       have c11b0 : decide (0 < x8_2) = true := decide_eq_true c11
       clear c11
       replace H := Option.bind_eq_some_iff.mp H
       obtain ⟨⟨t270, t271⟩, A120, H⟩ := H
       replace H : (if x268001_2.length < 17592186044416 then (Zi.l1 k2 a1 x5_1 x6_1 (wrap64 (x8_2 - 1)) s0_0 t271 (wrap64 (t265 - 2)) (x268001_2 ++ [wrap64 (t270 - 1)])) else (none)) = some (r1, r2) := H
       have A12 := aM A120
       clear A120
       by_cases c13 : x268001_2.length < 17592186044416
       ·rw [if_pos c13] at H
        have LMc13 := aM c13
        clear c13
        obtain ⟨y272, hy272⟩ : ∃ y_ : List Int, y_ = (x268001_2 ++ [wrap64 (t270 - 1)]) := ⟨_, rfl⟩
        replace H : (Zi.l1 k2 a1 x5_1 x6_1 (wrap64 (x8_2 - 1)) s0_0 t271 (wrap64 (t265 - 2)) y272) = some (r1, r2) := by first | (rw [hy272]; with_reducible exact H) | (have H2_ := (Option.bind_some _ _).symm.trans H; rw [hy272]; with_reducible exact H2_) | (have H2_ := (Option.bind_some _ _).symm.trans H; with_reducible exact H2_) | with_reducible exact H | (rw [hy272]; exact H) | exact H
        have Ny272 := aM hy272
        clear hy272
        have H' := aM H
        clear H
        try go_wp2
        have n0_ := aM (Kd.Zaw HO_5.out)
        have n1_ := aM (Kd.Zai HO_268001.out)
        have n2_ := aM (bD BK267.out)
        have n3_ := aM (Zb.drew HI0.out)
        have n4_ := aM (kD HK.out)
        have n5_ := aM (wD HB.out)
        clear HO_5 HO_268001 BK267 HI0 HK HB
        have HO_5 := n0_
        have HO_268001 := n1_
        have BK267 := n2_
        have HI0 := n3_
        have HK := n4_
        have HB := n5_
        clear n0_ n1_ n2_ n3_ n4_ n5_
        refine Zb9 (n := 9) (S := fun w' => w'.cell? ⟨gb267, 0, none⟩ = some (.int .i64 (wrap64 (t265 - 2))) ∧ w'.cell? ⟨gb267, 1, none⟩ = some (u268001)) (ds := [8]) #[Qf, Qf, Qf, Qf, Qf, Qf, Qf, Qf, Qf] (by kernel_rfl) rfl rfl ⟨(Ze BK267.out 0).trans rfl, (Ze BK267.out 1).trans rfl⟩ (fun hHeld => ?_); refine Zbs Zi.tab9 Zi.bits9 (fun HT_ HW_ => ?_)
        generalize wr.drew = w14 at HO_5 HO_268001 BK267 HI0 HK HB hHeld ⊢
        refine Yq (i := 0) (N := some 24) (v := ?_) (a' := ?_) #[Qt, Qf, Qf, Qf, Qf, Qf, Qf, Qf, Qf] rfl rfl (Yk HT_.out (by kernel_rfl)) (fun _ _ _ h => h) (Or.inl ⟨by rfl, ?_⟩) ?_ ?_
        rotate_left
        ·intro w'
         go_simp
         with_reducible rfl
        rotate_left
        ·simp only [Act.put, Qa, Qb, Qc, Z5, Z6]
         rfl
        refine Yq (i := 2) (N := some 26) (v := ?_) (a' := ?_) #[Qt, Qf, Qt, Qf, Qf, Qf, Qf, Qf, Qf] rfl rfl (Yk HT_.out (by kernel_rfl)) (fun _ _ _ h => h) (Or.inl ⟨by rfl, ?_⟩) ?_ ?_
        rotate_left
        ·intro w'
         go_simp
         with_reducible rfl
        rotate_left
        ·simp only [Act.put, Qa, Qb, Qc, Z5, Z6]
         rfl
        refine Za5 (i := 1) (N := some 25) (v := ?_) (a' := ?_) #[Qt, Qt, Qt, Qf, Qf, Qf, Qf, Qf, Qf] rfl rfl (Zac HT_.out HW_.out (by kernel_rfl)) (fun _ _ _ h => h) (Or.inl ⟨by rfl, ?_⟩) hHeld ?_ ?_
        rotate_left
        ·rintro w' ⟨s0, s1⟩
         go_simp
         with_reducible rfl
        rotate_left
        ·simp only [Act.put, Qa, Qb, Qc, Z5, Z6]
         rfl
        refine one_ (i := 3) (N := some 27) #[Qt, Qt, Qt, Qt, Qf, Qf, Qf, Qf, Qf] rfl rfl (Za6 HT_.out (by kernel_rfl)) (by decide) (fun K hK => ?_)
        refine Zdc Try.func29 (by kernel_rfl) rfl #[.pointer (some ⟨g, 0, none⟩), .int .i64 5] (by rfl) rfl rfl (by (try simp only [Qi, Qj, Qk]); first | done | rfl | (simp only [Qe, Qd]; rfl)) ?_
        with_reducible refine (Zz.calls g s0_0 x1001_2 5 t270 t271 w0 _ ?side1 ?side2 A12.out).mono ?_
        (case side1 => repeat (first | (with_reducible first | exact HI0.out | apply Zb.alloc | apply Zb.drewN | apply Zb.drew | apply Zb.Zad | refine Zb.far ?_ NB0_267.out _) | exact HI0.out))
        (case side2 => repeat (first | (with_reducible first | exact HB.out | apply wA | apply wN | apply wD | refine Za ?_ (Zb.ge HI0.out) | refine Za ?_ GE267.out) | exact HB.out))
        rintro e w15 ⟨rfl, hi, hb, hk⟩
        refine ⟨_, rfl, ?_⟩
        have n0_ := aM (Kd.Zbc (Kd.S_keep (Zb.apartS (show Zb w0 _ g s0_0 x1001_2 from by repeat (first | (with_reducible first | exact HI0.out | apply Zb.alloc | apply Zb.drewN | apply Zb.drew | apply Zb.Zad | refine Zb.far ?_ NB0_267.out _) | exact HI0.out)) (by (with_reducible repeat first | apply Kd.Zao | apply Kd.Zal | apply Kd.Zaw); exact HO_5.out) (by decide)) hk (fun _ h => h.2)) (fun _ h => h.1))
        have n1_ := aM (Kd.Zar (Kd.R_keep (Zb.apart (show Zb w0 _ g s0_0 x1001_2 from by repeat (first | (with_reducible first | exact HI0.out | apply Zb.alloc | apply Zb.drewN | apply Zb.drew | apply Zb.Zad | refine Zb.far ?_ NB0_267.out _) | exact HI0.out)) (by (with_reducible repeat first | apply Kd.Zab | apply Kd.Yu | apply Kd.Zai); exact HO_268001.out) (by decide)) hk (fun _ h => h.2)) (fun _ h => h.1))
        have n2_ := aM (Zn.blk hk (g' := gb267) (o := .cells #[.int .i64 (wrap64 (t265 - 2)), u268001] 39 (0, 0)) (by (with_reducible repeat first | apply bN | apply bD | apply bA); exact BK267.out) NB267_0.out (by simp))
        have n3_ := aM (Zn.trans (by repeat (first | (with_reducible first | exact HK.out | apply Zn.set_ | apply kN | apply kD | apply kA | refine kF ?_ GW267.out _) | exact HK.out)) hk (.inl rfl))
        have n4_ := aM (hb)
        have n5_ := aM (hi)
        clear HO_5 HO_268001 BK267 HK HB HI0
        have HO_5 := n0_
        have HO_268001 := n1_
        have BK267 := n2_
        have HK := n3_
        have HB := n4_
        have HI0 := n5_
        clear n0_ n1_ n2_ n3_ n4_ n5_
        (try clear hb)
        (try clear hb2)
        (try clear hk)
        (try clear hi)
        (try clear hge_)
        refine hK.out _ _ ⟨(Ze BK267.out 0).trans rfl, (Ze BK267.out 1).trans rfl⟩ (fun hHeld => ?_)
        clear hK K
        refine Zb2 (a' := ?_) ?_ ?_
        rotate_left
        ·show Act.put _ (some 27) _ = _
         simp only [Act.put, Qa, Qb, Qc, Z5, Z6]
         rfl
        refine Yq (i := 4) (N := some 28) (v := ?_) (a' := ?_) #[Qt, Qt, Qt, Qt, Qt, Qf, Qf, Qf, Qf] rfl rfl (Yk HT_.out (by kernel_rfl)) (fun _ _ _ h => h) (Or.inl ⟨by rfl, ?_⟩) ?_ ?_
        rotate_left
        ·intro w'
         go_simp
         with_reducible rfl
        rotate_left
        ·simp only [Act.put, Qa, Qb, Qc, Z5, Z6]
         rfl
        refine one_ (i := 5) (N := some 29) #[Qt, Qt, Qt, Qt, Qt, Qt, Qf, Qf, Qf] rfl rfl (Za6 HT_.out (by kernel_rfl)) (by decide) (fun K hK => ?_)
        refine value_ (w1 := ?_) (v := ?_) (by rfl) rfl ?_ ?_
        rotate_left 2
        ·go_simp
         constructor
         ·rfl
         ·rfl
        refine hK.out _ _ ⟨(Ze (bA BK267.out _) 0).trans rfl, (Ze (bA BK267.out _) 1).trans rfl⟩ (fun hHeld => ?_)
        clear hK K
        refine Zb2 (a' := ?_) ?_ ?_
        rotate_left
        ·show Act.put _ (some 29) _ = _
         simp only [Act.put, Qa, Qb, Qc, Z5, Z6]
         rfl
        refine one_ (i := 6) (N := some 30) #[Qt, Qt, Qt, Qt, Qt, Qt, Qt, Qf, Qf] rfl rfl (Za6 HT_.out (by kernel_rfl)) (by decide) (fun K hK => ?_)
        refine Kd.Zd8 (Kd.int .i64) w.heap.size (by rfl) (.tmp 25) (.tmp 29) 31 3 (.int .i64 0) 8 rfl Try.underlying31 info3 rfl (by decide) (by omega) u268001 x268001_2 (wrap64 (t270 - 1)) [.int .i64 (wrap64 (t270 - 1))] (fun _ => True) (fun _ => False) rfl rfl ?aP (fun _ hk => hk.elim) ?aF ?aO (Below.refl _ _) ?aS ?aL ?_
        (case aP => exact rfl)
        (case aF => exact (fun _ _ => trivial))
        (case aO => exact (by (with_reducible repeat first | apply Kd.Zab | apply Kd.Yu | apply Kd.Zai); exact HO_268001.out))
        (case aS => exact (Y7 (w := w) (g := g) (row := none) (by repeat (first | (with_reducible first | exact HK.out | apply Zn.set_ | apply kN | apply kD | apply kA | refine kF ?_ GW267.out _) | exact HK.out))))
        (case aL => have := LMc13.out; omega)
        intro v273 w16 ho hb hg hat
        rw [← Ny272.out] at ho
        have n0_ := aM (Kd.Ze2 (ok := (fun k_ => k_ ≠ gb267)) (by (with_reducible repeat first | apply Kd.Zao | apply Kd.Zal | apply Kd.Zaw); exact Kd.Zbc HO_5.out (fun _ hk => ⟨hk.2, hk.1⟩)) hg hat)
        have n1_ := aM (Yc (g := gb267) (o := .cells #[.int .i64 (wrap64 (t265 - 2)), u268001] 39 (0, 0)) (by (with_reducible repeat first | apply bN | apply bD | apply bA); exact BK267.out) hg (Kd.R_ne HO_268001.out BK267.out (by decide)))
        have n2_ := aM (Zb.grown (by repeat (first | (with_reducible first | exact HI0.out | apply Zb.alloc | apply Zb.drewN | apply Zb.drew | apply Zb.Zad | refine Zb.far ?_ NB0_267.out _) | exact HI0.out)) hg (Zb.own_ne HI0.out HO_268001.out (by decide)))
        have n3_ := aM (Zdh (by repeat (first | (with_reducible first | exact HB.out | apply wA | apply wN | apply wD | refine Za ?_ (Zb.ge HI0.out) | refine Za ?_ GE267.out) | exact HB.out)) HL.out hb)
        have n4_ := aM (Zn.trans (by repeat (first | (with_reducible first | exact HK.out | apply Zn.set_ | apply kN | apply kD | apply kA | refine kF ?_ GW267.out _) | exact HK.out)) (Zn.Zd2 hg g) (Kd.R_base2 HO_268001.out))
        have n5_ := aM (ho)
        clear HO_5 BK267 HI0 HB HK HO_268001
        have HO_5 := n0_
        have BK267 := n1_
        have HI0 := n2_
        have HB := n3_
        have HK := n4_
        have HO274 := n5_
        clear n0_ n1_ n2_ n3_ n4_ n5_ ho hb hg hat
        obtain ⟨Ao17, co17, eo17⟩ := Kd.Za2 HO274.out
        (first | subst eo17 | (injection eo17 with f1_ f2_ f3_; have f4_ := f1_.symm; have f5_ := f3_.symm; clear f1_ f2_ f3_; subst f4_; subst f5_))
        refine hK.out _ _ ⟨(Ze BK267.out 0).trans rfl, (Ze BK267.out 1).trans rfl⟩ (fun hHeld => ?_)
        clear hK K
        refine Zb2 (a' := ?_) ?_ ?_
        rotate_left
        ·show Act.put _ (some 30) _ = _
         simp only [Act.put, Qa, Qb, Qc, Z5, Z6]
         rfl
        refine Yq (i := 7) (N := some 31) (v := ?_) (a' := ?_) #[Qt, Qt, Qt, Qt, Qt, Qt, Qt, Qt, Qf] rfl rfl (Yk HT_.out (by kernel_rfl)) (fun _ _ _ h => h) (Or.inl ⟨by rfl, ?_⟩) ?_ ?_
        rotate_left
        ·intro w'
         go_simp
         with_reducible rfl
        rotate_left
        ·simp only [Act.put, Qa, Qb, Qc, Z5, Z6]
         rfl
        refine last_ (i := 8) (N := none) #[Qt, Qt, Qt, Qt, Qt, Qt, Qt, Qt, Qt] rfl rfl (Za6 HT_.out (by kernel_rfl)) (by decide) (fun K hK => ?_)
        have hs18 : w16.cell? ⟨gb267, 1, none⟩ = some (u268001) := (Ze BK267.out 1).trans rfl
        have hfs18 := Zg BK267.out 1
        refine Zcp (w1 := ?_) (by rfl) rfl ?_ ?_
        rotate_left
        ·go_simp
         rfl
        refine hK.out _ _ ?_
        clear hK K
        refine Zcv (Zcf HT_.out (by kernel_rfl)) ?_
        try go_wp2
        go_roundg k2
        case measure => have := HK1.out; have := HK2.out; omega
        case rel => exact ⟨(wrap64 (x8_2 - 1)), (t271), (y272), (.slice Ao17 y272.length co17), (by first | rfl | (simp; done) | (simp [*]; done)), H', ⟨by have := HK1.out; have := HK2.out; omega⟩, ⟨by (with_reducible repeat first | apply Kd.Zao | apply Kd.Zal | apply Kd.Zaw); exact Kd.Zbc (Kd.Zcs (p := ⟨gb267, 1, none⟩) (Kd.Zbc HO_5.out (fun k_ hk => (⟨hk, hk.1⟩ : _ ∧ k_ ≠ gb267))) (fun _ hk => hk.2) (.slice Ao17 y272.length co17)) (fun _ hk => ⟨hk.1.2, hk.1.1⟩)⟩, ⟨by (with_reducible repeat first | apply Kd.Zab | apply Kd.Yu | apply Kd.Zai); exact Kd.Zar (Kd.R_far (p := ⟨gb267, 1, none⟩) (Kd.Zaf HO274.out BK267.out (by decide)) (fun _ hk => hk.2) (.slice Ao17 y272.length co17)) (fun _ hk => trivial)⟩, ⟨by (with_reducible repeat first | apply bN | apply bD | apply bA); refine Yo (cs := #[.int .i64 (wrap64 (t265 - 2)), u268001]) ?_ 1 _ rfl; (with_reducible repeat first | apply bN | apply bD | apply bA); exact BK267.out⟩, ⟨by repeat (first | (with_reducible first | exact HI0.out | apply Zb.alloc | apply Zb.drewN | apply Zb.drew | apply Zb.Zad | refine Zb.far ?_ NB0_267.out _) | exact HI0.out)⟩, ⟨by repeat (first | (with_reducible first | exact HK.out | apply Zn.set_ | apply kN | apply kD | apply kA | refine kF ?_ GW267.out _) | exact HK.out)⟩, ⟨by repeat (first | (with_reducible first | exact HB.out | apply wA | apply wN | apply wD | refine Za ?_ (Zb.ge HI0.out) | refine Za ?_ GE267.out) | exact HB.out)⟩⟩
       ·rw [if_neg c13] at H
        exact absurd H (by simp)
      ·rw [if_neg c11] at H
       have c11b0 : decide (0 < x8_2) = false := decide_eq_false c11
       clear c11
       by_cases c19 : x5_1.length < 4398046511104
       ·rw [if_pos c19] at H
        have LMc19 := aM c19
        clear c19
        obtain ⟨y275, hy275⟩ : ∃ y_ : List (S39), y_ = (x5_1 ++ [(⟨(wrap64 (t265 - 2)), x268001_2⟩ : S39)]) := ⟨_, rfl⟩
        replace H : (Zi.l0 k2 a1 y275 (wrap64 (x6_1 + 1)) s0_0 x1001_2) = some (r1, r2) := by first | (rw [hy275]; with_reducible exact H) | (have H2_ := (Option.bind_some _ _).symm.trans H; rw [hy275]; with_reducible exact H2_) | (have H2_ := (Option.bind_some _ _).symm.trans H; with_reducible exact H2_) | with_reducible exact H | (rw [hy275]; exact H) | exact H
        have Ny275 := aM hy275
        clear hy275
        have H' := aM H
        clear H
        have hnb20 := NB267_0.out
        have hnc20 := NB0_267.out
        have hcz21_0 : wr.cell? ⟨gb267, 0, none⟩ = some (.int .i64 (wrap64 (t265 - 2))) := (Ze BK267.out 0).trans rfl
        have hcz21_1 : wr.cell? ⟨gb267, 1, none⟩ = some (u268001) := (Ze BK267.out 1).trans rfl
        have hfz21_0 := Zg BK267.out 0
        have hfz21_1 := Zg BK267.out 1
        obtain ⟨Ao23, co23, eo23⟩ := Kd.Za2 HO_268001.out
        subst eo23
        go_wp2_with (first | ((with_reducible refine Zbt (b := .append) (xs := #[(.tmp 32), .tmp 34]) rfl ?_); at_builtin; refine Kd.S_append k39 w.heap.size rfl (.tmp 32) (.tmp 34) 25 39 (.agg #[(.int .i64 0), (.slice none 0 0)]) 32 rfl Try.underlying25 info39 rfl (by decide) (by omega) u5 x5_1 (⟨(wrap64 (t265 - 2)), x268001_2⟩ : S39) [.int .i64 (wrap64 (t265 - 2)), .slice Ao23 x268001_2.length co23] (fun k_ => k_ ≠ gb267) (fun k_ => some k_ = (.slice Ao23 x268001_2.length co23 : Value).ownBlock) rfl rfl ?aP (fun k_ hk_ => ((Kd.Zar (ok' := fun k_ => ((fun k_ => k_ ≠ gb267)) k_ ∧ some k_ ≠ (u5 : Value).ownBlock) (Kd.Zaf (Kd.Zbq (HO_268001.out) (Kd.Zcl HO_5.out) (by decide)) BK267.out (by decide)) (fun k_ hk => ⟨hk.2, hk.1.2⟩))).1 k_ hk_.symm) ?aF ?aO (Below.refl _ _) ?aS ?aL ?_; (case aP => exact k39_mkM _ _ _ (⟨(wrap64 (t265 - 2)), x268001_2⟩ : S39) (Kd.Zar (Kd.Zcu rfl (Kd.Zar (ok' := fun k_ => ((fun k_ => k_ ≠ gb267)) k_ ∧ some k_ ≠ (u5 : Value).ownBlock) (Kd.Zaf (Kd.Zbq (HO_268001.out) (Kd.Zcl HO_5.out) (by decide)) BK267.out (by decide)) (fun k_ hk => ⟨hk.2, hk.1.2⟩))) (fun _ h_ => h_))); (case aF => exact (fun k_ hk => Kd.Y6 (g := gb267) (o := .cells #[.int .i64 (wrap64 (t265 - 2)), .slice Ao23 x268001_2.length co23] 39 (0, 0)) (by (with_reducible repeat first | apply bN | apply bD | apply bA); exact BK267.out) k_ hk)); (case aO => exact (by (with_reducible repeat first | apply Kd.Zao | apply Kd.Zal | apply Kd.Zaw); exact Kd.Zbc HO_5.out (fun k_ hk => ⟨hk.2, fun e_ => hk.1 e_⟩))); (case aS => exact (Y7 (w := w) (g := g) (row := none) (by repeat (first | (with_reducible first | exact HK.out | apply Zn.set_ | apply kN | apply kD | apply kA | refine kF ?_ GW267.out _) | exact HK.out)))); (case aL => have := LMc19.out; omega); intro v276 w22 ho hb hg hat; rw [← Ny275.out] at ho; have n0_ := aM (Yc (g := gb267) (o := .cells #[.int .i64 (wrap64 (t265 - 2)), .slice Ao23 x268001_2.length co23] 39 (0, 0)) (by (with_reducible repeat first | apply bN | apply bD | apply bA); exact BK267.out) hg (Kd.S_away HO_5.out (fun _ hk => hk.2))); have n1_ := aM (Zb.grown (by repeat (first | (with_reducible first | exact HI0.out | apply Zb.alloc | apply Zb.drewN | apply Zb.drew | apply Zb.Zad | refine Zb.far ?_ NB0_267.out _) | exact HI0.out)) hg (Zb.own_neS HI0.out HO_5.out (by decide))); have n2_ := aM (Zdh (by repeat (first | (with_reducible first | exact HB.out | apply wA | apply wN | apply wD | refine Za ?_ (Zb.ge HI0.out) | refine Za ?_ GE267.out) | exact HB.out)) HL.out hb); have n3_ := aM (Zn.trans (by repeat (first | (with_reducible first | exact HK.out | apply Zn.set_ | apply kN | apply kD | apply kA | refine kF ?_ GW267.out _) | exact HK.out)) (Zn.Zd2 hg g) (Kd.S_base2 HO_5.out)); have n4_ := aM (ho); clear BK267 HI0 HB HK HO_5 HO_268001; have BK267 := n0_; have HI0 := n1_; have HB := n2_; have HK := n3_; have HO277 := n4_; clear n0_ n1_ n2_ n3_ n4_; clear ho hb hg hat))
        go_roundg k2
        case measure => have := HK1.out; have := HK2.out; omega
        case rel => exact ⟨(y275), (wrap64 (x6_1 + 1)), (x1001_2), (by first | rfl | (simp; done) | (simp [*]; done)), H', ⟨by have := HK1.out; have := HK2.out; omega⟩, ⟨by (with_reducible repeat first | apply Kd.Zao | apply Kd.Zal | apply Kd.Zaw); exact Kd.Zbc HO277.out (fun _ hk => trivial)⟩, ⟨by repeat (first | (with_reducible first | exact HI0.out | apply Zb.alloc | apply Zb.drewN | apply Zb.drew | apply Zb.Zad | refine Zb.far ?_ NB0_267.out _) | exact HI0.out)⟩, ⟨by repeat (first | (with_reducible first | exact HK.out | apply Zn.set_ | apply kN | apply kD | apply kA | refine kF ?_ GW267.out _) | exact HK.out)⟩, ⟨by repeat (first | (with_reducible first | exact HB.out | apply wA | apply wN | apply wD | refine Za ?_ (Zb.ge HI0.out) | refine Za ?_ GE267.out) | exact HB.out)⟩⟩
       ·rw [if_neg c19] at H
        exact absurd H (by simp)
   ·rw [if_neg c3] at H
    have c3b0 : decide (x6_1 < a1) = false := decide_eq_false c3
    clear c3
    simp only [Option.some.injEq, Prod.mk.injEq] at H
    obtain ⟨rfl, rfl⟩ := H
    go_wp2
    go_ret
    exact ⟨_, by first | rfl | (simp [Zy, Zx] <;> rfl) | (simp [*, Zy, Zx] <;> rfl), by (with_reducible repeat first | apply Kd.Zao | apply Kd.Zal | apply Kd.Zaw); exact HO_5.out, by repeat (first | (with_reducible first | exact HI0.out | apply Zb.alloc | apply Zb.drewN | apply Zb.drew | apply Zb.Zad) | exact HI0.out), by repeat (first | (with_reducible first | exact HB.out | apply wA | apply wN | apply wD | refine Za ?_ (Zb.ge HI0.out)) | exact HB.out), by repeat (first | (with_reducible first | exact HK.out | apply Zn.set_ | apply kN | apply kD | apply kA) | exact HK.out)⟩

end Go.Proofs.Ytnfbjdnflifcoaa.PDk

namespace Go.Proofs.Ytnfbjdnflifcoaa.PDk
open Go.RowKit Go.Proofs.YtnfbjdnflifcoaaW.PrintWords Go.Proofs.YtnfbjdnflifcoaaW.PrintLast Go.Proofs.YtnfbjdnflifcoaaW.PrintMore
attribute [local go_sem] Za0 Zay Zbe Zbd Zan Zam Zaz Zax
set_option linter.unusedVariables false
set_option linter.unusedSimpArgs false

def Y5.f (k : Nat) (l0_0 : List (S48)) (a1 : Int) (l2 : List Int) : Option ((List (S48)) × Int) := (Za1.f l0_0 a1).bind fun t339 => (if t339 = true then (if (l2.length : Int) > 65536 then (some (([] : List (S48)), 5)) else ((Ye.f k l0_0).bind fun t340 => ((Yp.f l2).bind fun t343 => (if 0 ≤ a1 then (if a1 < (t340.length : Int) then (some ((t340.set (a1 : Int).toNat (⟨t343, ([] : List Int)⟩ : S48)), 0)) else (none)) else (none))))) else (some (([] : List (S48)), 11)))
theorem Y5.mono : ∀ a0 a1 a2 k, LeO (Y5.f k a0 a1 a2) (Y5.f (k + 1) a0 a1 a2) := by
 intro a0 a1 a2 k
 unfold Y5.f
 repeat' first
   | (with_reducible exact Ye.mono _ _)
   | (with_reducible exact LeO.refl _)
   | (with_reducible exact LeO.none _)
   | (with_reducible refine LeO.ite ?_ ?_)
   | (with_reducible refine LeO.bind ?_ (fun _ => ?_))
   | exact Ye.mono _ _
   | exact LeO.none _
   | refine LeO.ite ?_ ?_
   | refine LeO.bind ?_ (fun _ => ?_)
def Y5.T6 : Bool × List (List Nat × List Nat) := (true, [([], []), ([0], [0]), ([], []), ([], []), ([3], [3]), ([4], [4]), ([1, 2, 0, 1, 2, 3, 4, 5], [1, 2]), ([6, 5, 4, 0, 1, 2, 3, 4, 5], [5, 6])])
def Y5.B6 : List Nat := [0, 1, 0, 0, 8, 24, 63, 127]
theorem Y5.tab6 : rtab .any (opsOf Try.f20 6) = Y5.T6 := by kernel_rfl
theorem Y5.bits6 : Zcd Y5.T6.2 Y5.B6 = true := by kernel_rfl
set_option maxHeartbeats 8000000 in
set_option maxRecDepth 100000 in
theorem Y5.calls (k : Nat) (A0_0 : Option Addr) (c0_0 : Nat) (l0_0 : List (S48)) (a1 : Int) (A2 : Option Addr) (c2 : Nat) (l2 : List Int) (r1 : List (S48)) (r2 : Int) (w : World) (hr0_0 : Kd.C k48 w A0_0 l0_0.length l0_0) (hc0_0 : l0_0.length ≤ c0_0) (hr2 : Kd.C (Kd.int .u8) w A2 l2.length l2) (hc2 : l2.length ≤ c2) (h : Y5.f k l0_0 a1 l2 = some (r1, r2)) :
  Calls Try.prog 20 #[.agg #[.slice A0_0 l0_0.length c0_0], .int .i64 a1, .slice A2 l2.length c2] w fun e w' => ∃ v0_ : Value, e = .returned (.tuple #[.agg #[v0_], .int .i64 r2]) ∧ Kd.N k48 48 w' w.heap.size (fun k_ => (w.heap.size ≤ k_)) v0_ r1 ∧ Below w.heap.size w w' := by
 have hu24 := Try.underlying24
 have hu48 := Try.underlying48
 have HR0_0 := aM hr0_0
 have HC0_0 := aM hc0_0
 clear hr0_0 hc0_0
 have HR2 := aM hr2
 have HC2 := aM hc2
 clear hr2 hc2
 have HB := aM (Below.refl w.heap.size w)
 have H : ((Za1.f l0_0 a1).bind fun t339 => (if t339 = true then (if (l2.length : Int) > 65536 then (some (([] : List (S48)), 5)) else ((Ye.f k l0_0).bind fun t340 => ((Yp.f l2).bind fun t343 => (if 0 ≤ a1 then (if a1 < (t340.length : Int) then (some ((t340.set (a1 : Int).toNat (⟨t343, ([] : List Int)⟩ : S48)), 0)) else (none)) else (none))))) else (some (([] : List (S48)), 11)))) = some (r1, r2) := h
 clear h
 replace H := Option.bind_eq_some_iff.mp H
 obtain ⟨t339, A40, H⟩ := H
 replace H : (if t339 = true then (if (l2.length : Int) > 65536 then (some (([] : List (S48)), 5)) else ((Ye.f k l0_0).bind fun t340 => ((Yp.f l2).bind fun t343 => (if 0 ≤ a1 then (if a1 < (t340.length : Int) then (some ((t340.set (a1 : Int).toNat (⟨t343, ([] : List Int)⟩ : S48)), 0)) else (none)) else (none))))) else (some (([] : List (S48)), 11))) = some (r1, r2) := H
 have A4 := aM A40
 clear A40
 by_cases c5 : t339 = true
 ·subst c5
  have H1 : (if (l2.length : Int) > 65536 then (some (([] : List (S48)), 5)) else ((Ye.f k l0_0).bind fun t340 => ((Yp.f l2).bind fun t343 => (if 0 ≤ a1 then (if a1 < (t340.length : Int) then (some ((t340.set (a1 : Int).toNat (⟨t343, ([] : List Int)⟩ : S48)), 0)) else (none)) else (none))))) = some (r1, r2) := by rw [if_pos rfl] at H; exact H
  clear H
  have H := H1
  clear H1
  by_cases c6 : (l2.length : Int) > 65536
  ·rw [if_pos c6] at H
   have c6b0 : decide (65536 < (l2.length : Int)) = true := decide_eq_true c6
   have c6b1 : decide (65536 < l2.length) = true := decide_eq_true (by omega)
   clear c6
   simp only [Option.some.injEq, Prod.mk.injEq] at H
   obtain ⟨rfl, rfl⟩ := H
   go_enter Try.func20, Try.ntmps20
   go_wp2_with (first | ((with_reducible refine Z7 (N := 3) rfl ?_); refine Z4 ?hg (N := 3) ?hd (cs := #[.slice A0_0 l0_0.length c0_0]) (t := 24) ?hr ?_; (case hd => rfl); (case hg => rfl); (case hr => first | (go_simp; done) | (go_simp; rfl)); intro gb337 hg w7 hbox hb; have n0_ := aM (Zj (by repeat (first | (with_reducible first | exact HB.out | apply wA | apply wN | apply wD) | exact HB.out)) hb); have n1_ := aM (hbox); have n2_ := aM ((by rw [hg]; exact (Zd (by repeat (first | (with_reducible first | exact HB.out | apply wA | apply wN | apply wD) | exact HB.out))) : w.heap.size ≤ gb337)); have n3_ := aM ((by rw [hg]; exact (Zd (by repeat (first | (with_reducible first | exact HB.out | apply wA | apply wN | apply wD) | exact HB.out))) : w.heap.size ≤ gb337)); clear HB; have HB := n0_; have BK337 := n1_; have GW337 := n2_; have GE337 := n3_; clear n0_ n1_ n2_ n3_; clear hb hbox hg) | ((with_reducible refine Z7 (N := 6) rfl ?_); refine Z4 ?hg (N := 6) ?hd (cs := #[.slice none 0 0]) (t := 24) ?hr ?_; (case hd => rfl); (case hg => rfl); (case hr => first | (go_simp; done) | (go_simp; rfl)); intro gb338 hg w8 hbox hb; have n0_ := aM (Zf (g := gb337) (o := .cells #[.slice A0_0 l0_0.length c0_0] 24 (0, 0)) (by (with_reducible repeat first | apply bN | apply bD | apply bA); exact BK337.out) hb); have n1_ := aM (Zj (by repeat (first | (with_reducible first | exact HB.out | apply wA | apply wN | apply wD | refine Za ?_ GE337.out) | exact HB.out)) hb); have n2_ := aM (hbox); have n3_ := aM ((by rw [hg]; exact (Zd (by repeat (first | (with_reducible first | exact HB.out | apply wA | apply wN | apply wD | refine Za ?_ GE337.out) | exact HB.out))) : w.heap.size ≤ gb338)); have n4_ := aM ((by rw [hg]; exact (Zd (by repeat (first | (with_reducible first | exact HB.out | apply wA | apply wN | apply wD | refine Za ?_ GE337.out) | exact HB.out))) : w.heap.size ≤ gb338)); have n5_ := aM ((by rw [hg]; exact Nat.ne_of_lt (Ya (g := gb337) (o := .cells #[.slice A0_0 l0_0.length c0_0] 24 (0, 0)) (by (with_reducible repeat first | apply bN | apply bD | apply bA); exact BK337.out)) : gb337 ≠ gb338)); have n6_ := aM ((by rw [hg]; exact Nat.ne_of_gt (Ya (g := gb337) (o := .cells #[.slice A0_0 l0_0.length c0_0] 24 (0, 0)) (by (with_reducible repeat first | apply bN | apply bD | apply bA); exact BK337.out)) : gb338 ≠ gb337)); clear BK337 HB; have BK337 := n0_; have HB := n1_; have BK338 := n2_; have GW338 := n3_; have GE338 := n4_; have NB337_338 := n5_; have NB338_337 := n6_; clear n0_ n1_ n2_ n3_ n4_ n5_ n6_; clear hb hbox hg; have hnb9 := NB337_338.out; have hnc9 := NB338_337.out; have hcz10_0 : w8.cell? ⟨gb337, 0, none⟩ = some (.slice A0_0 l0_0.length c0_0) := (Ze BK337.out 0).trans rfl; have hfz10_0 := Zg BK337.out 0) | ((with_reducible refine Yf (f := 27) rfl ?_); refine Zap (some 10) rfl rfl Try.func27 (by kernel_rfl) rfl #[.agg #[.slice A0_0 l0_0.length c0_0], .int .i64 a1] rfl (by (try simp only [Qi, Qj, Qk]); first | done | rfl | (simp only [Qe, Qd]; rfl)) ?_; (with_reducible refine (Za1.calls _ _ l0_0 a1 true _ ?side1 ?side2 A4.out).mono ?_); (case side1 => repeat (first | exact (Kd.Yv HR0_0.out HB.out) | (with_reducible refine Kd.Yh ?_ _) | (with_reducible refine Kd.Yg ?_ _) | (with_reducible refine Kd.Yw ?_))); (case side2 => exact HC0_0.out); rintro e w11 ⟨rfl, hb⟩; refine ⟨_, rfl, ?_⟩; have n0_ := aM (Zf (g := gb337) (o := .cells #[.slice A0_0 l0_0.length c0_0] 24 (0, 0)) (by (with_reducible repeat first | apply bN | apply bD | apply bA); exact BK337.out) hb); have n1_ := aM (Zf (g := gb338) (o := .cells #[.slice none 0 0] 24 (0, 0)) (by (with_reducible repeat first | apply bN | apply bD | apply bA); exact BK338.out) hb); have n2_ := aM (Zj (by repeat (first | (with_reducible first | exact HB.out | apply wA | apply wN | apply wD | refine Za ?_ GE337.out | refine Za ?_ GE338.out) | exact HB.out)) hb); clear BK337 BK338 HB; have BK337 := n0_; have BK338 := n1_; have HB := n2_; clear n0_ n1_ n2_; (try clear hb); (try clear hb2); (try clear hk); (try clear hi); (try clear hge_); have hcz12_0 : w11.cell? ⟨gb338, 0, none⟩ = some (.slice none 0 0) := (Ze BK338.out 0).trans rfl; have hfz12_0 := Zg BK338.out 0))
   refine bodyPost_ret (Zau rfl _ _ gb338 24 #[.slice none 0 0] (0, 0) _ rfl (by (with_reducible repeat first | apply bN | apply bD | apply bA); refine Yo (cs := #[.slice none 0 0]) ?_ 0 _ rfl; (with_reducible repeat first | apply bN | apply bD | apply bA); exact BK338.out) Try.underlying24 rfl (by kernel_rfl)) rfl ?_
   exact ⟨_, by first | rfl | (simp [Zy, Zx] <;> rfl) | (simp [*, Zy, Zx] <;> rfl), by first | exact Kd.Zc0 _ _ _ _ _ | exact Kd.Zcw _ _ _ _ _ | exact Kd.Zcr _ _ _ _ _ | exact Kd.Zc1 _ _ _ _ _ | exact Kd.Zbx _ _ _ _ _, by repeat (first | (with_reducible first | exact HB.out | apply wA | apply wN | apply wD | refine Za ?_ GE337.out | refine Za ?_ GE338.out) | exact HB.out)⟩
  ·rw [if_neg c6] at H
   have c6b0 : decide (65536 < (l2.length : Int)) = false := decide_eq_false c6
   have c6b1 : decide (65536 < l2.length) = false := decide_eq_false (by omega)
   clear c6
   replace H := Option.bind_eq_some_iff.mp H
   obtain ⟨t340, A130, H⟩ := H
   replace H : ((Yp.f l2).bind fun t343 => (if 0 ≤ a1 then (if a1 < (t340.length : Int) then (some ((t340.set (a1 : Int).toNat (⟨t343, ([] : List Int)⟩ : S48)), 0)) else (none)) else (none))) = some (r1, r2) := H
   have A13 := aM A130
   clear A130
   replace H := Option.bind_eq_some_iff.mp H
   obtain ⟨t343, A140, H⟩ := H
   replace H : (if 0 ≤ a1 then (if a1 < (t340.length : Int) then (some ((t340.set (a1 : Int).toNat (⟨t343, ([] : List Int)⟩ : S48)), 0)) else (none)) else (none)) = some (r1, r2) := H
   have A14 := aM A140
   clear A140
   by_cases c15 : 0 ≤ a1
   ·rw [if_pos c15] at H
    have c15b0 : decide (0 ≤ a1) = true := decide_eq_true c15
    clear c15
    by_cases c16 : a1 < (t340.length : Int)
    ·rw [if_pos c16] at H
     have c16b0 : decide (a1 < (t340.length : Int)) = true := decide_eq_true c16
     clear c16
     obtain ⟨y346, hy346⟩ : ∃ y_ : List (S48), y_ = (t340.set (a1 : Int).toNat (⟨t343, ([] : List Int)⟩ : S48)) := ⟨_, rfl⟩
     replace H : (some (y346, 0)) = some (r1, r2) := by first | (rw [hy346]; with_reducible exact H) | (have H2_ := (Option.bind_some _ _).symm.trans H; rw [hy346]; with_reducible exact H2_) | (have H2_ := (Option.bind_some _ _).symm.trans H; with_reducible exact H2_) | with_reducible exact H | (rw [hy346]; exact H) | exact H
     have Ny346 := aM hy346
     clear hy346
     simp only [Option.some.injEq, Prod.mk.injEq] at H
     obtain ⟨rfl, rfl⟩ := H
     go_enter Try.func20, Try.ntmps20
     try go_wp2_with (first | ((with_reducible refine Z7 (N := 3) rfl ?_); refine Z4 ?hg (N := 3) ?hd (cs := #[.slice A0_0 l0_0.length c0_0]) (t := 24) ?hr ?_; (case hd => rfl); (case hg => rfl); (case hr => first | (go_simp; done) | (go_simp; rfl)); intro gb337 hg w18 hbox hb; have n0_ := aM (Zj (by repeat (first | (with_reducible first | exact HB.out | apply wA | apply wN | apply wD) | exact HB.out)) hb); have n1_ := aM (hbox); have n2_ := aM ((by rw [hg]; exact (Zd (by repeat (first | (with_reducible first | exact HB.out | apply wA | apply wN | apply wD) | exact HB.out))) : w.heap.size ≤ gb337)); have n3_ := aM ((by rw [hg]; exact (Zd (by repeat (first | (with_reducible first | exact HB.out | apply wA | apply wN | apply wD) | exact HB.out))) : w.heap.size ≤ gb337)); clear HB; have HB := n0_; have BK337 := n1_; have GW337 := n2_; have GE337 := n3_; clear n0_ n1_ n2_ n3_; clear hb hbox hg) | ((with_reducible refine Z7 (N := 6) rfl ?_); refine Z4 ?hg (N := 6) ?hd (cs := #[.slice none 0 0]) (t := 24) ?hr ?_; (case hd => rfl); (case hg => rfl); (case hr => first | (go_simp; done) | (go_simp; rfl)); intro gb338 hg w19 hbox hb; have n0_ := aM (Zf (g := gb337) (o := .cells #[.slice A0_0 l0_0.length c0_0] 24 (0, 0)) (by (with_reducible repeat first | apply bN | apply bD | apply bA); exact BK337.out) hb); have n1_ := aM (Zj (by repeat (first | (with_reducible first | exact HB.out | apply wA | apply wN | apply wD | refine Za ?_ GE337.out) | exact HB.out)) hb); have n2_ := aM (hbox); have n3_ := aM ((by rw [hg]; exact (Zd (by repeat (first | (with_reducible first | exact HB.out | apply wA | apply wN | apply wD | refine Za ?_ GE337.out) | exact HB.out))) : w.heap.size ≤ gb338)); have n4_ := aM ((by rw [hg]; exact (Zd (by repeat (first | (with_reducible first | exact HB.out | apply wA | apply wN | apply wD | refine Za ?_ GE337.out) | exact HB.out))) : w.heap.size ≤ gb338)); have n5_ := aM ((by rw [hg]; exact Nat.ne_of_lt (Ya (g := gb337) (o := .cells #[.slice A0_0 l0_0.length c0_0] 24 (0, 0)) (by (with_reducible repeat first | apply bN | apply bD | apply bA); exact BK337.out)) : gb337 ≠ gb338)); have n6_ := aM ((by rw [hg]; exact Nat.ne_of_gt (Ya (g := gb337) (o := .cells #[.slice A0_0 l0_0.length c0_0] 24 (0, 0)) (by (with_reducible repeat first | apply bN | apply bD | apply bA); exact BK337.out)) : gb338 ≠ gb337)); clear BK337 HB; have BK337 := n0_; have HB := n1_; have BK338 := n2_; have GW338 := n3_; have GE338 := n4_; have NB337_338 := n5_; have NB338_337 := n6_; clear n0_ n1_ n2_ n3_ n4_ n5_ n6_; clear hb hbox hg; have hnb20 := NB337_338.out; have hnc20 := NB338_337.out; have hcz21_0 : w19.cell? ⟨gb337, 0, none⟩ = some (.slice A0_0 l0_0.length c0_0) := (Ze BK337.out 0).trans rfl; have hfz21_0 := Zg BK337.out 0) | ((with_reducible refine Yf (f := 27) rfl ?_); refine Zap (some 10) rfl rfl Try.func27 (by kernel_rfl) rfl #[.agg #[.slice A0_0 l0_0.length c0_0], .int .i64 a1] rfl (by (try simp only [Qi, Qj, Qk]); first | done | rfl | (simp only [Qe, Qd]; rfl)) ?_; (with_reducible refine (Za1.calls _ _ l0_0 a1 true _ ?side1 ?side2 A4.out).mono ?_); (case side1 => repeat (first | exact (Kd.Yv HR0_0.out HB.out) | (with_reducible refine Kd.Yh ?_ _) | (with_reducible refine Kd.Yg ?_ _) | (with_reducible refine Kd.Yw ?_))); (case side2 => exact HC0_0.out); rintro e w22 ⟨rfl, hb⟩; refine ⟨_, rfl, ?_⟩; have n0_ := aM (Zf (g := gb337) (o := .cells #[.slice A0_0 l0_0.length c0_0] 24 (0, 0)) (by (with_reducible repeat first | apply bN | apply bD | apply bA); exact BK337.out) hb); have n1_ := aM (Zf (g := gb338) (o := .cells #[.slice none 0 0] 24 (0, 0)) (by (with_reducible repeat first | apply bN | apply bD | apply bA); exact BK338.out) hb); have n2_ := aM (Zj (by repeat (first | (with_reducible first | exact HB.out | apply wA | apply wN | apply wD | refine Za ?_ GE337.out | refine Za ?_ GE338.out) | exact HB.out)) hb); clear BK337 BK338 HB; have BK337 := n0_; have BK338 := n1_; have HB := n2_; clear n0_ n1_ n2_; (try clear hb); (try clear hb2); (try clear hk); (try clear hi); (try clear hge_); have hcz23_0 : w22.cell? ⟨gb337, 0, none⟩ = some (.slice A0_0 l0_0.length c0_0) := (Ze BK337.out 0).trans rfl; have hfz23_0 := Zg BK337.out 0) | ((with_reducible refine Yf (f := 24) rfl ?_); refine Zap (some 18) rfl rfl Try.func24 (by kernel_rfl) rfl #[.agg #[.slice A0_0 l0_0.length c0_0]] rfl (by (try simp only [Qi, Qj, Qk]); first | done | rfl | (simp only [Qe, Qd]; rfl)) ?_; (with_reducible refine (Ye.calls k _ _ l0_0 t340 _ ?side1 ?side2 A13.out).mono ?_); (case side1 => repeat (first | exact (Kd.Yv HR0_0.out HB.out) | (with_reducible refine Kd.Yh ?_ _) | (with_reducible refine Kd.Yg ?_ _) | (with_reducible refine Kd.Yw ?_))); (case side2 => exact HC0_0.out); rintro e w24 ⟨v341, rfl, ho0, hb⟩; refine ⟨_, rfl, ?_⟩; have n0_ := aM (Kd.Zbr (Kd.Yr (ok' := fun k_ => (w.heap.size ≤ k_) ∧ k_ ≠ gb337 ∧ k_ ≠ gb338) (Kd.S_N (Kd.Zcb ho0)) (fun k_ hk_ => ⟨(Nat.le_trans (Zd (by repeat (first | (with_reducible first | exact HB.out | apply wA | apply wN | apply wD | refine Za ?_ GE337.out | refine Za ?_ GE338.out) | exact HB.out))) hk_.2.1), (Kd.Y6 (g := gb337) (o := .cells #[.slice A0_0 l0_0.length c0_0] 24 (0, 0)) (by (with_reducible repeat first | apply bN | apply bD | apply bA); exact BK337.out) k_ hk_.2.1), (Kd.Y6 (g := gb338) (o := .cells #[.slice none 0 0] 24 (0, 0)) (by (with_reducible repeat first | apply bN | apply bD | apply bA); exact BK338.out) k_ hk_.2.1)⟩)) (Zd (by repeat (first | (with_reducible first | exact HB.out | apply wA | apply wN | apply wD | refine Za ?_ GE337.out | refine Za ?_ GE338.out) | exact HB.out)))); have n1_ := aM (Zf (g := gb337) (o := .cells #[.slice A0_0 l0_0.length c0_0] 24 (0, 0)) (by (with_reducible repeat first | apply bN | apply bD | apply bA); exact BK337.out) hb); have n2_ := aM (Zf (g := gb338) (o := .cells #[.slice none 0 0] 24 (0, 0)) (by (with_reducible repeat first | apply bN | apply bD | apply bA); exact BK338.out) hb); have n3_ := aM (Zj (by repeat (first | (with_reducible first | exact HB.out | apply wA | apply wN | apply wD | refine Za ?_ GE337.out | refine Za ?_ GE338.out) | exact HB.out)) hb); clear BK337 BK338 HB; have HO342 := n0_; have BK337 := n1_; have BK338 := n2_; have HB := n3_; clear n0_ n1_ n2_ n3_; (try clear hb); (try clear hb2); (try clear hk); (try clear hi); (try clear hge_); (try clear ho0); obtain ⟨Ao25, co25, eo25⟩ := Kd.Zbj HO342.out; subst eo25; have hcz26_0 : w24.cell? ⟨gb337, 0, none⟩ = some (.slice A0_0 l0_0.length c0_0) := (Ze BK337.out 0).trans rfl; have hfz26_0 := Zg BK337.out 0))
     have n0_ : Zq (Kd.N k48 48 (w24.setCell ⟨gb337, 0, none⟩ (.slice Ao25 t340.length co25)) w.heap.size (fun k_ => (w.heap.size ≤ k_) ∧ k_ ≠ gb337 ∧ k_ ≠ gb338) (.slice Ao25 t340.length co25) t340) := ⟨by (with_reducible repeat first | apply Kd.Ym | apply Kd.Yl | apply Kd.Yy); exact Kd.Yr (Kd.Zby (p := ⟨gb337, 0, none⟩) (Kd.Yr HO342.out (fun k_ hk => (⟨hk, hk.2.1⟩ : _ ∧ k_ ≠ gb337))) (fun _ hk => hk.2) (.slice Ao25 t340.length co25)) (fun _ hk => ⟨hk.1.1, ⟨hk.1.2.1, hk.1.2.2⟩⟩)⟩
     have n1_ : Zq ((w24.setCell ⟨gb337, 0, none⟩ (.slice Ao25 t340.length co25)).heap[gb337]? = some (.cells #[.slice Ao25 t340.length co25] 24 (0, 0))) := ⟨by (with_reducible repeat first | apply bN | apply bD | apply bA); refine Yo (cs := #[.slice A0_0 l0_0.length c0_0]) ?_ 0 _ rfl; (with_reducible repeat first | apply bN | apply bD | apply bA); exact BK337.out⟩
     have n2_ : Zq ((w24.setCell ⟨gb337, 0, none⟩ (.slice Ao25 t340.length co25)).heap[gb338]? = some (.cells #[.slice none 0 0] 24 (0, 0))) := ⟨by (with_reducible repeat first | apply bN | apply bD | apply bA); refine Z8 ?_ NB338_337.out _; (with_reducible repeat first | apply bN | apply bD | apply bA); exact BK338.out⟩
     have n3_ : Zq (Below w.heap.size w (w24.setCell ⟨gb337, 0, none⟩ (.slice Ao25 t340.length co25))) := ⟨by repeat (first | (with_reducible first | exact HB.out | apply wA | apply wN | apply wD | refine Za ?_ GE337.out | refine Za ?_ GE338.out) | exact HB.out)⟩
     (try clear HO342)
     (try clear BK337)
     (try clear BK338)
     (try clear HB)
     generalize (w24.setCell ⟨gb337, 0, none⟩ (.slice Ao25 t340.length co25)) = w27 at n0_ n1_ n2_ n3_ ⊢
     have HO342 := n0_
     have BK337 := n1_
     have BK338 := n2_
     have HB := n3_
     clear n0_ n1_ n2_ n3_
     have n0_ := aM (Kd.Yy HO342.out)
     have n1_ := aM (bD BK337.out)
     have n2_ := aM (bD BK338.out)
     have n3_ := aM (wD HB.out)
     clear HO342 BK337 BK338 HB
     have HO342 := n0_
     have BK337 := n1_
     have BK338 := n2_
     have HB := n3_
     clear n0_ n1_ n2_ n3_
     refine Zb9 (n := 8) (S := fun w' => w'.cell? ⟨gb337, 0, none⟩ = some (.slice Ao25 t340.length co25)) (ds := [7]) #[Qf, Qf, Qf, Qf, Qf, Qf, Qf, Qf] (by kernel_rfl) rfl rfl ((Ze BK337.out 0).trans rfl) (fun hHeld => ?_); refine Zbs Y5.tab6 Y5.bits6 (fun HT_ HW_ => ?_)
     generalize w27.drew = w28 at HO342 BK337 BK338 HB hHeld ⊢
     refine Yq (i := 0) (N := some 19) (v := ?_) (a' := ?_) #[Qt, Qf, Qf, Qf, Qf, Qf, Qf, Qf] rfl rfl (Yk HT_.out (by kernel_rfl)) (fun _ _ _ h => h) (Or.inl ⟨by rfl, ?_⟩) ?_ ?_
     rotate_left
     ·intro w'
      go_simp
      with_reducible rfl
     rotate_left
     ·simp only [Act.put, Qa, Qb, Qc, Z5, Z6]
      rfl
     refine Yq (i := 2) (N := some 21) (v := ?_) (a' := ?_) #[Qt, Qf, Qt, Qf, Qf, Qf, Qf, Qf] rfl rfl (Yk HT_.out (by kernel_rfl)) (fun _ _ _ h => h) (Or.inl ⟨by rfl, ?_⟩) ?_ ?_
     rotate_left
     ·intro w'
      go_simp
      with_reducible rfl
     rotate_left
     ·simp only [Act.put, Qa, Qb, Qc, Z5, Z6]
      rfl
     refine Yq (i := 3) (N := some 22) (v := ?_) (a' := ?_) #[Qt, Qf, Qt, Qt, Qf, Qf, Qf, Qf] rfl rfl (Yk HT_.out (by kernel_rfl)) (fun _ _ _ h => h) (Or.inl ⟨by rfl, ?_⟩) ?_ ?_
     rotate_left
     ·intro w'
      go_simp
      with_reducible rfl
     rotate_left
     ·simp only [Act.put, Qa, Qb, Qc, Z5, Z6]
      rfl
     refine Za5 (i := 1) (N := some 20) (v := ?_) (a' := ?_) #[Qt, Qt, Qt, Qt, Qf, Qf, Qf, Qf] rfl rfl (Zac HT_.out HW_.out (by kernel_rfl)) (fun _ _ _ h => h) (Or.inl ⟨by rfl, ?_⟩) hHeld ?_ ?_
     rotate_left
     ·intro w' s0
      go_simp
      with_reducible rfl
     rotate_left
     ·simp only [Act.put, Qa, Qb, Qc, Z5, Z6]
      rfl
     refine one_ (i := 4) (N := some 23) #[Qt, Qt, Qt, Qt, Qt, Qf, Qf, Qf] rfl rfl (Za6 HT_.out (by kernel_rfl)) (by decide) (fun K hK => ?_)
     refine Zdc Try.func30 (by kernel_rfl) rfl #[.slice A2 l2.length c2] (by rfl) rfl rfl (by (try simp only [Qi, Qj, Qk]); first | done | rfl | (simp only [Qe, Qd]; rfl)) ?_
     with_reducible refine (Yp.calls _ _ l2 t343 _ ?side1 ?side2 A14.out).mono ?_
     (case side1 => repeat (first | exact (Kd.Yv HR2.out HB.out) | (with_reducible refine Kd.Yh ?_ _) | (with_reducible refine Kd.Yg ?_ _) | (with_reducible refine Kd.Yw ?_)))
     (case side2 => exact HC2.out)
     rintro e w29 ⟨v344, rfl, ho0, hb⟩
     refine ⟨_, rfl, ?_⟩
     have n0_ := aM (Kd.Za4 (by (with_reducible repeat first | apply Kd.Ym | apply Kd.Yl | apply Kd.Yy); exact HO342.out) (Kd.Zbg ho0) hb)
     have n1_ := aM (Kd.Zb1 (Kd.Ze5 (M := fun k_ => (w.heap.size ≤ k_)) ho0 (Zd (by repeat (first | (with_reducible first | exact HB.out | apply wA | apply wN | apply wD | refine Za ?_ GE337.out | refine Za ?_ GE338.out) | exact HB.out))) (fun k_ h_ => h_)) (Zd (by repeat (first | (with_reducible first | exact HB.out | apply wA | apply wN | apply wD | refine Za ?_ GE337.out | refine Za ?_ GE338.out) | exact HB.out))))
     have n2_ := aM (Zf (g := gb337) (o := .cells #[.slice Ao25 t340.length co25] 24 (0, 0)) (by (with_reducible repeat first | apply bN | apply bD | apply bA); exact BK337.out) hb)
     have n3_ := aM (Zf (g := gb338) (o := .cells #[.slice none 0 0] 24 (0, 0)) (by (with_reducible repeat first | apply bN | apply bD | apply bA); exact BK338.out) hb)
     have n4_ := aM (Zj (by repeat (first | (with_reducible first | exact HB.out | apply wA | apply wN | apply wD | refine Za ?_ GE337.out | refine Za ?_ GE338.out) | exact HB.out)) hb)
     clear HO342 BK337 BK338 HB
     have HO342 := n0_
     have HO345 := n1_
     have BK337 := n2_
     have BK338 := n3_
     have HB := n4_
     clear n0_ n1_ n2_ n3_ n4_
     (try clear hb)
     (try clear hb2)
     (try clear hk)
     (try clear hi)
     (try clear hge_)
     (try clear ho0)
     obtain ⟨Ao30, co30, eo30⟩ := Kd.Za2 HO345.out
     (first | subst eo30 | (injection eo30 with f1_ f2_ f3_; have f4_ := f1_.symm; have f5_ := f3_.symm; clear f1_ f2_ f3_; subst f4_; subst f5_))
     have p17 : 0 ≤ (a1 : Int) := of_decide_eq_true (by first | (with_reducible assumption) | assumption)
     have q17 : (a1 : Int) < ((t340.length : Int) : Int) := of_decide_eq_true (by first | (with_reducible assumption) | assumption)
     obtain ⟨go17, co17, eo17, gb17, gl17, cl17, HG17⟩ := Kd.N_form HO342.out (by omega)
     (first | cases eo17 | (injection eo17 with ea_ en_ ec_; (first | subst ea_ | (injection ea_ with ea_; subst ea_)); subst ec_; clear en_))
     have GB17 := aM gb17
     have GG17 := aM HG17
     clear gb17 gl17 HG17
     obtain ⟨ce17, hcl17, hM17, hcc17, hfr17⟩ := Kd.N_elem HO342.out z48 (a1 : Int) p17 q17
     obtain ⟨ua17_0, uc17_0, ua17_1, uc17_1, rfl, ul17_0, ge17_0, ul17_1, ge17_1⟩ := Zce hM17
     have hx17_0 : World.cell? _ ⟨go17, (a1 : Int).toNat * 2, none⟩ = some (.slice ua17_0 ((Zo t340 a1).f0).length uc17_0) := hcc17 0 _ rfl
     have hx17_1 : World.cell? _ ⟨go17, (a1 : Int).toNat * 2 + 1, none⟩ = some (.slice ua17_1 ((Zo t340 a1).f1).length uc17_1) := hcc17 1 _ rfl
     have hf17_0 : World.frozen? _ ⟨go17, (a1 : Int).toNat * 2, none⟩ = false := hfr17 0
     have hf17_1 : World.frozen? _ ⟨go17, (a1 : Int).toNat * 2 + 1, none⟩ = false := hfr17 1
     clear hcl17 hcc17 hfr17 hM17
     replace p17 := eq_true p17
     replace q17 := eq_true q17
     have HX31 := aM (show Kd.N k48 48 _ w.heap.size (fun k_ => (w.heap.size ≤ k_) ∧ some k_ ≠ (.slice Ao30 t343.length co30 : Value).ownBlock ∧ k_ ≠ gb337 ∧ k_ ≠ gb338) (.slice (some ⟨go17, 0, none⟩) t340.length co25) t340 from (Kd.Yr (HO342.out) (fun k_ hk => ⟨hk.1.1, ⟨hk.2, ⟨hk.1.2.1, hk.1.2.2⟩⟩⟩)))
     replace HX31 := aM (show Kd.N k48 48 _ w.heap.size (fun k_ => (w.heap.size ≤ k_) ∧ k_ ≠ gb337 ∧ k_ ≠ gb338) (.slice (some ⟨go17, 0, none⟩) t340.length co25) t340 from Kd.Yr HX31.out (fun k_ hk => ⟨hk.1, ⟨hk.2.2.1, hk.2.2.2⟩⟩))
     obtain ⟨ce31, hcl31, hM31, hcc31, hfr31⟩ := Kd.N_elem HX31.out z48 (a1 : Int) (of_decide_eq_true (by first | (with_reducible assumption) | assumption)) (by have h_ : (a1 : Int) < ((t340.length : Int) : Int) := of_decide_eq_true (by first | (with_reducible assumption) | assumption); first | exact h_ | (have e_ := (Kd.Za9 HO342.out).1; omega) | simpa using h_)
     obtain ⟨ua31_0, uc31_0, ua31_1, uc31_1, rfl, ul31_0, ge31_0, ul31_1, ge31_1⟩ := Zce hM31
     have HP31 := (Kd.N_seg HX31.out (a1 : Int) (of_decide_eq_true (by first | (with_reducible assumption) | assumption)) (by have h_ : (a1 : Int) < ((t340.length : Int) : Int) := of_decide_eq_true (by first | (with_reducible assumption) | assumption); first | exact h_ | (have e_ := (Kd.Za9 HO342.out).1; omega) | simpa using h_) (seg := [.slice Ao30 t343.length co30, .slice none 0 0]) (j := 0) hcl31 hcc31 (show 2 ≤ 2 from by decide) (x' := (⟨t343, ([] : List Int)⟩ : S48)) (k48_mkF _ _ (⟨t343, ([] : List Int)⟩ : S48) (Kd.Zah (Kd.Zar (ok' := (fun k_ => ((fun k_ => (w.heap.size ≤ k_) ∧ k_ ≠ gb337 ∧ k_ ≠ gb338)) k_ ∧ k_ ≠ go17)) (Kd.Zaf (Kd.Zaf (Kd.Zbq (HO345.out) (Kd.Zeg HO342.out) (by decide)) BK337.out (by decide)) BK338.out (by decide)) (fun k_ hk => ⟨⟨hk.1.1.1.1, ⟨hk.1.2, hk.2⟩⟩, fun e_ => (hk.1.1.2) (by rw [e_]; rfl)⟩))).2.1 (Kd.R_F (Kd.Zar (ok' := (fun k_ => ((fun k_ => (w.heap.size ≤ k_) ∧ k_ ≠ gb337 ∧ k_ ≠ gb338)) k_ ∧ k_ ≠ go17)) (Kd.Zaf (Kd.Zaf (Kd.Zbq (HO345.out) (Kd.Zeg HO342.out) (by decide)) BK337.out (by decide)) BK338.out (by decide)) (fun k_ hk => ⟨⟨hk.1.1.1.1, ⟨hk.1.2, hk.2⟩⟩, fun e_ => (hk.1.1.2) (by rw [e_]; rfl)⟩))) (Nat.le_refl _) (Kd.F_nil _ _ _)) (fun _ hk => hk)).1
     rw [← Ny346.out] at HP31
     have HQ31 := aM HP31
     clear hcl31 hcc31 hfr31 hM31 HP31
     refine hK.out _ _ ((Ze BK337.out 0).trans rfl) (fun hHeld => ?_)
     clear hK K
     refine Zb2 (a' := ?_) ?_ ?_
     rotate_left
     ·show Act.put _ (some 23) _ = _
      simp only [Act.put, Qa, Qb, Qc, Z5, Z6]
      rfl
     refine Yq (i := 5) (N := some 24) (v := ?_) (a' := ?_) #[Qt, Qt, Qt, Qt, Qt, Qt, Qf, Qf] rfl rfl (Yk HT_.out (by kernel_rfl)) (fun _ _ _ h => h) (Or.inl ⟨by rfl, ?_⟩) ?_ ?_
     rotate_left
     ·intro w'
      go_simp
      with_reducible rfl
     rotate_left
     ·simp only [Act.put, Qa, Qb, Qc, Z5, Z6]
      rfl
     refine Yq (i := 6) (N := some 25) (v := ?_) (a' := ?_) #[Qt, Qt, Qt, Qt, Qt, Qt, Qt, Qf] rfl rfl (Yk HT_.out (by kernel_rfl)) (fun _ _ _ h => h) (Or.inl ⟨by rfl, ?_⟩) ?_ ?_
     rotate_left
     ·intro w'
      go_simp
      with_reducible rfl
     rotate_left
     ·simp only [Act.put, Qa, Qb, Qc, Z5, Z6]
      rfl
     refine last_ (i := 7) (N := none) #[Qt, Qt, Qt, Qt, Qt, Qt, Qt, Qt] rfl rfl (Za6 HT_.out (by kernel_rfl)) (by decide) (fun K hK => ?_)
     refine Zcp (w1 := ?_) (by rfl) rfl ?_ ?_
     rotate_left
     ·go_simp
      rfl
     refine hK.out _ _ ?_
     clear hK K
     refine Zcv (Zcf HT_.out (by kernel_rfl)) ?_
     have n0_ : Zq (Kd.N k48 48 ((w29.setCell ⟨go17, (a1 : Int).toNat * 2, none⟩ (.slice Ao30 t343.length co30)).setCell ⟨go17, (a1 : Int).toNat * 2 + 1, none⟩ (.slice none 0 0)) w.heap.size (fun k_ => (w.heap.size ≤ k_) ∧ k_ ≠ gb337 ∧ k_ ≠ gb338) (.slice (some ⟨go17, 0, none⟩) t340.length co25) y346) := ⟨by (with_reducible repeat first | apply Kd.Ym | apply Kd.Yl | apply Kd.Yy); exact HQ31.out⟩
     have n1_ : Zq (((w29.setCell ⟨go17, (a1 : Int).toNat * 2, none⟩ (.slice Ao30 t343.length co30)).setCell ⟨go17, (a1 : Int).toNat * 2 + 1, none⟩ (.slice none 0 0)).heap[gb337]? = some (.cells #[.slice (some ⟨go17, 0, none⟩) t340.length co25] 24 (0, 0))) := ⟨by (with_reducible repeat first | apply bN | apply bD | apply bA); refine Z8 ?_ (by have h_ := Kd.N_away (g := gb337) HO342.out (fun _ hk => (by have hk_ := hk; (try simp only [and_assoc] at hk_); first | exact hk.2.1 | exact hk_.2.1 | exact hk_.2.2.1 | exact hk_.2.2.2.1 | exact hk_.2.2 | exact hk_.2 | exact hk_.2.2.2 | exact hk_.1 | exact hk_)); intro e_; exact h_ (by rw [e_]; rfl)) _; (with_reducible repeat first | apply bN | apply bD | apply bA); refine Z8 ?_ (by have h_ := Kd.N_away (g := gb337) HO342.out (fun _ hk => (by have hk_ := hk; (try simp only [and_assoc] at hk_); first | exact hk.2.1 | exact hk_.2.1 | exact hk_.2.2.1 | exact hk_.2.2.2.1 | exact hk_.2.2 | exact hk_.2 | exact hk_.2.2.2 | exact hk_.1 | exact hk_)); intro e_; exact h_ (by rw [e_]; rfl)) _; (with_reducible repeat first | apply bN | apply bD | apply bA); exact BK337.out⟩
     have n2_ : Zq (((w29.setCell ⟨go17, (a1 : Int).toNat * 2, none⟩ (.slice Ao30 t343.length co30)).setCell ⟨go17, (a1 : Int).toNat * 2 + 1, none⟩ (.slice none 0 0)).heap[gb338]? = some (.cells #[.slice none 0 0] 24 (0, 0))) := ⟨by (with_reducible repeat first | apply bN | apply bD | apply bA); refine Z8 ?_ (by have h_ := Kd.N_away (g := gb338) HO342.out (fun _ hk => (by have hk_ := hk; (try simp only [and_assoc] at hk_); first | exact hk.2.2 | exact hk_.2.1 | exact hk_.2.2.1 | exact hk_.2.2.2.1 | exact hk_.2.2 | exact hk_.2 | exact hk_.2.2.2 | exact hk_.1 | exact hk_)); intro e_; exact h_ (by rw [e_]; rfl)) _; (with_reducible repeat first | apply bN | apply bD | apply bA); refine Z8 ?_ (by have h_ := Kd.N_away (g := gb338) HO342.out (fun _ hk => (by have hk_ := hk; (try simp only [and_assoc] at hk_); first | exact hk.2.2 | exact hk_.2.1 | exact hk_.2.2.1 | exact hk_.2.2.2.1 | exact hk_.2.2 | exact hk_.2 | exact hk_.2.2.2 | exact hk_.1 | exact hk_)); intro e_; exact h_ (by rw [e_]; rfl)) _; (with_reducible repeat first | apply bN | apply bD | apply bA); exact BK338.out⟩
     have n3_ : Zq (Below w.heap.size w ((w29.setCell ⟨go17, (a1 : Int).toNat * 2, none⟩ (.slice Ao30 t343.length co30)).setCell ⟨go17, (a1 : Int).toNat * 2 + 1, none⟩ (.slice none 0 0))) := ⟨by repeat (first | (with_reducible first | exact HB.out | apply wA | apply wN | apply wD | refine Za ?_ GB17.out | refine Za ?_ GB17.out | refine Za ?_ GE337.out | refine Za ?_ GE338.out) | exact HB.out)⟩
     (try clear HO342)
     (try clear BK337)
     (try clear BK338)
     (try clear HB)
     generalize ((w29.setCell ⟨go17, (a1 : Int).toNat * 2, none⟩ (.slice Ao30 t343.length co30)).setCell ⟨go17, (a1 : Int).toNat * 2 + 1, none⟩ (.slice none 0 0)) = w32 at n0_ n1_ n2_ n3_ ⊢
     have HO342 := n0_
     have BK337 := n1_
     have BK338 := n2_
     have HB := n3_
     clear n0_ n1_ n2_ n3_
     have hcz33_0 : w32.cell? ⟨gb337, 0, none⟩ = some (.slice (some ⟨go17, 0, none⟩) t340.length co25) := (Ze BK337.out 0).trans rfl
     have hfz33_0 := Zg BK337.out 0
     have hcz34_0 : w32.cell? ⟨gb338, 0, none⟩ = some (.slice none 0 0) := (Ze BK338.out 0).trans rfl
     have hfz34_0 := Zg BK338.out 0
     try go_wp2
     refine bodyPost_ret (Zau rfl _ _ gb338 24 #[.slice (some ⟨go17, 0, none⟩) t340.length co25] (0, 0) _ rfl (by (with_reducible repeat first | apply bN | apply bD | apply bA); refine Yo (cs := #[.slice none 0 0]) ?_ 0 _ rfl; (with_reducible repeat first | apply bN | apply bD | apply bA); exact BK338.out) Try.underlying24 rfl (by kernel_rfl)) rfl ?_
     exact ⟨_, by first | rfl | (simp [Zy, Zx] <;> rfl) | (simp [*, Zy, Zx] <;> rfl), by (with_reducible repeat first | apply Kd.Ym | apply Kd.Yl | apply Kd.Yy); exact Kd.Yr (Kd.Zby (p := ⟨gb338, 0, none⟩) (Kd.Yr HO342.out (fun k_ hk => (⟨hk, hk.2.2⟩ : _ ∧ k_ ≠ gb338))) (fun _ hk => hk.2) (.slice (some ⟨go17, 0, none⟩) t340.length co25)) (fun _ hk => hk.1.1), by repeat (first | (with_reducible first | exact HB.out | apply wA | apply wN | apply wD | refine Za ?_ GE337.out | refine Za ?_ GE338.out) | exact HB.out)⟩
    ·rw [if_neg c16] at H
     exact absurd H (by simp)
   ·rw [if_neg c15] at H
    exact absurd H (by simp)
 ·replace c5 := Bool.eq_false_iff.mpr c5
  subst c5
  have H1 : (some (([] : List (S48)), 11)) = some (r1, r2) := by rw [if_neg (show ¬ (false = true) by decide)] at H; exact H
  clear H
  have H := H1
  clear H1
  simp only [Option.some.injEq, Prod.mk.injEq] at H
  obtain ⟨rfl, rfl⟩ := H
  go_enter Try.func20, Try.ntmps20
  go_wp2_with (first | ((with_reducible refine Z7 (N := 3) rfl ?_); refine Z4 ?hg (N := 3) ?hd (cs := #[.slice A0_0 l0_0.length c0_0]) (t := 24) ?hr ?_; (case hd => rfl); (case hg => rfl); (case hr => first | (go_simp; done) | (go_simp; rfl)); intro gb337 hg w35 hbox hb; have n0_ := aM (Zj (by repeat (first | (with_reducible first | exact HB.out | apply wA | apply wN | apply wD) | exact HB.out)) hb); have n1_ := aM (hbox); have n2_ := aM ((by rw [hg]; exact (Zd (by repeat (first | (with_reducible first | exact HB.out | apply wA | apply wN | apply wD) | exact HB.out))) : w.heap.size ≤ gb337)); have n3_ := aM ((by rw [hg]; exact (Zd (by repeat (first | (with_reducible first | exact HB.out | apply wA | apply wN | apply wD) | exact HB.out))) : w.heap.size ≤ gb337)); clear HB; have HB := n0_; have BK337 := n1_; have GW337 := n2_; have GE337 := n3_; clear n0_ n1_ n2_ n3_; clear hb hbox hg) | ((with_reducible refine Z7 (N := 6) rfl ?_); refine Z4 ?hg (N := 6) ?hd (cs := #[.slice none 0 0]) (t := 24) ?hr ?_; (case hd => rfl); (case hg => rfl); (case hr => first | (go_simp; done) | (go_simp; rfl)); intro gb338 hg w36 hbox hb; have n0_ := aM (Zf (g := gb337) (o := .cells #[.slice A0_0 l0_0.length c0_0] 24 (0, 0)) (by (with_reducible repeat first | apply bN | apply bD | apply bA); exact BK337.out) hb); have n1_ := aM (Zj (by repeat (first | (with_reducible first | exact HB.out | apply wA | apply wN | apply wD | refine Za ?_ GE337.out) | exact HB.out)) hb); have n2_ := aM (hbox); have n3_ := aM ((by rw [hg]; exact (Zd (by repeat (first | (with_reducible first | exact HB.out | apply wA | apply wN | apply wD | refine Za ?_ GE337.out) | exact HB.out))) : w.heap.size ≤ gb338)); have n4_ := aM ((by rw [hg]; exact (Zd (by repeat (first | (with_reducible first | exact HB.out | apply wA | apply wN | apply wD | refine Za ?_ GE337.out) | exact HB.out))) : w.heap.size ≤ gb338)); have n5_ := aM ((by rw [hg]; exact Nat.ne_of_lt (Ya (g := gb337) (o := .cells #[.slice A0_0 l0_0.length c0_0] 24 (0, 0)) (by (with_reducible repeat first | apply bN | apply bD | apply bA); exact BK337.out)) : gb337 ≠ gb338)); have n6_ := aM ((by rw [hg]; exact Nat.ne_of_gt (Ya (g := gb337) (o := .cells #[.slice A0_0 l0_0.length c0_0] 24 (0, 0)) (by (with_reducible repeat first | apply bN | apply bD | apply bA); exact BK337.out)) : gb338 ≠ gb337)); clear BK337 HB; have BK337 := n0_; have HB := n1_; have BK338 := n2_; have GW338 := n3_; have GE338 := n4_; have NB337_338 := n5_; have NB338_337 := n6_; clear n0_ n1_ n2_ n3_ n4_ n5_ n6_; clear hb hbox hg; have hnb37 := NB337_338.out; have hnc37 := NB338_337.out; have hcz38_0 : w36.cell? ⟨gb337, 0, none⟩ = some (.slice A0_0 l0_0.length c0_0) := (Ze BK337.out 0).trans rfl; have hfz38_0 := Zg BK337.out 0) | ((with_reducible refine Yf (f := 27) rfl ?_); refine Zap (some 10) rfl rfl Try.func27 (by kernel_rfl) rfl #[.agg #[.slice A0_0 l0_0.length c0_0], .int .i64 a1] rfl (by (try simp only [Qi, Qj, Qk]); first | done | rfl | (simp only [Qe, Qd]; rfl)) ?_; (with_reducible refine (Za1.calls _ _ l0_0 a1 false _ ?side1 ?side2 A4.out).mono ?_); (case side1 => repeat (first | exact (Kd.Yv HR0_0.out HB.out) | (with_reducible refine Kd.Yh ?_ _) | (with_reducible refine Kd.Yg ?_ _) | (with_reducible refine Kd.Yw ?_))); (case side2 => exact HC0_0.out); rintro e w39 ⟨rfl, hb⟩; refine ⟨_, rfl, ?_⟩; have n0_ := aM (Zf (g := gb337) (o := .cells #[.slice A0_0 l0_0.length c0_0] 24 (0, 0)) (by (with_reducible repeat first | apply bN | apply bD | apply bA); exact BK337.out) hb); have n1_ := aM (Zf (g := gb338) (o := .cells #[.slice none 0 0] 24 (0, 0)) (by (with_reducible repeat first | apply bN | apply bD | apply bA); exact BK338.out) hb); have n2_ := aM (Zj (by repeat (first | (with_reducible first | exact HB.out | apply wA | apply wN | apply wD | refine Za ?_ GE337.out | refine Za ?_ GE338.out) | exact HB.out)) hb); clear BK337 BK338 HB; have BK337 := n0_; have BK338 := n1_; have HB := n2_; clear n0_ n1_ n2_; (try clear hb); (try clear hb2); (try clear hk); (try clear hi); (try clear hge_); have hcz40_0 : w39.cell? ⟨gb338, 0, none⟩ = some (.slice none 0 0) := (Ze BK338.out 0).trans rfl; have hfz40_0 := Zg BK338.out 0))
  refine bodyPost_ret (Zau rfl _ _ gb338 24 #[.slice none 0 0] (0, 0) _ rfl (by (with_reducible repeat first | apply bN | apply bD | apply bA); refine Yo (cs := #[.slice none 0 0]) ?_ 0 _ rfl; (with_reducible repeat first | apply bN | apply bD | apply bA); exact BK338.out) Try.underlying24 rfl (by kernel_rfl)) rfl ?_
  exact ⟨_, by first | rfl | (simp [Zy, Zx] <;> rfl) | (simp [*, Zy, Zx] <;> rfl), by first | exact Kd.Zc0 _ _ _ _ _ | exact Kd.Zcw _ _ _ _ _ | exact Kd.Zcr _ _ _ _ _ | exact Kd.Zc1 _ _ _ _ _ | exact Kd.Zbx _ _ _ _ _, by repeat (first | (with_reducible first | exact HB.out | apply wA | apply wN | apply wD | refine Za ?_ GE337.out | refine Za ?_ GE338.out) | exact HB.out)⟩

end Go.Proofs.Ytnfbjdnflifcoaa.PDk

namespace Go.Proofs.Ytnfbjdnflifcoaa.PDk
open Go.RowKit Go.Proofs.YtnfbjdnflifcoaaW.PrintWords Go.Proofs.YtnfbjdnflifcoaaW.PrintLast Go.Proofs.YtnfbjdnflifcoaaW.PrintMore
attribute [local go_sem] Za0 Zay Zbe Zbd Zan Zam Zaz Zax
set_option linter.unusedVariables false
set_option linter.unusedSimpArgs false

def Yi.f (l0_0 : List (S48)) (a1 : Int) (l2_0 : List Int) (l2_1 : List Int) : Option ((List (S48))) := if ([] : List (S48)).length + l0_0.length < 2932031007402 then ((some (([] : List (S48)) ++ l0_0 : List (S48))).bind fun y392 => (if 0 ≤ a1 then (if a1 < (y392.length : Int) then (some (y392.set (a1 : Int).toNat (⟨l2_0, l2_1⟩ : S48))) else (none)) else (none))) else (none)
set_option maxHeartbeats 8000000 in
set_option maxRecDepth 100000 in
theorem Yi.calls (P0_0_ : Nat → Prop) (A0_0 : Option Addr) (c0_0 : Nat) (l0_0 : List (S48)) (a1 : Int) (P2_0_ : Nat → Prop) (A2_0 : Option Addr) (c2_0 : Nat) (l2_0 : List Int) (P2_1_ : Nat → Prop) (A2_1 : Option Addr) (c2_1 : Nat) (l2_1 : List Int) (r : List (S48)) (w : World) (hs0_0 : Kd.V k48 48 w w.heap.size (fun k_ => P0_0_ k_) (.slice A0_0 l0_0.length c0_0) l0_0) (hs2_0 : Kd.V (Kd.int .u8) 5 w w.heap.size (fun k_ => P2_0_ k_) (.slice A2_0 l2_0.length c2_0) l2_0) (hs2_1 : Kd.V (Kd.int .u8) 5 w w.heap.size (fun k_ => P2_1_ k_) (.slice A2_1 l2_1.length c2_1) l2_1) (h : Yi.f l0_0 a1 l2_0 l2_1 = some r) :
  Calls Try.prog 40 #[.agg #[.slice A0_0 l0_0.length c0_0], .int .i64 a1, .agg #[.slice A2_0 l2_0.length c2_0, .slice A2_1 l2_1.length c2_1]] w fun e w' => ∃ v0_ : Value, e = .returned (.agg #[v0_]) ∧ Kd.N k48 48 w' w.heap.size (fun k_ => ((P0_0_ k_ ∨ P2_0_ k_ ∨ P2_1_ k_) ∨ w.heap.size ≤ k_)) v0_ r ∧ Below w.heap.size w w' := by
 have hu24 := Try.underlying24
 have hu48 := Try.underlying48
 have HO0_0 := aM (show Kd.V k48 48 w w.heap.size (fun k_ => ((P0_0_ k_ ∨ P2_0_ k_ ∨ P2_1_ k_) ∨ w.heap.size ≤ k_)) (.slice A0_0 l0_0.length c0_0) l0_0 from Kd.Yd hs0_0 (fun k_ hk => .inl (.inl hk)))
 have HO2_0 := aM (show Kd.V (Kd.int .u8) 5 w w.heap.size (fun k_ => ((P0_0_ k_ ∨ P2_0_ k_ ∨ P2_1_ k_) ∨ w.heap.size ≤ k_)) (.slice A2_0 l2_0.length c2_0) l2_0 from Kd.Yd hs2_0 (fun k_ hk => .inl (.inr (.inl hk))))
 have HO2_1 := aM (show Kd.V (Kd.int .u8) 5 w w.heap.size (fun k_ => ((P0_0_ k_ ∨ P2_0_ k_ ∨ P2_1_ k_) ∨ w.heap.size ≤ k_)) (.slice A2_1 l2_1.length c2_1) l2_1 from Kd.Yd hs2_1 (fun k_ hk => .inl (.inr (.inr hk))))
 have HB := aM (Below.refl w.heap.size w)
 have H : (if ([] : List (S48)).length + l0_0.length < 2932031007402 then ((some (([] : List (S48)) ++ l0_0 : List (S48))).bind fun y392 => (if 0 ≤ a1 then (if a1 < (y392.length : Int) then (some (y392.set (a1 : Int).toNat (⟨l2_0, l2_1⟩ : S48))) else (none)) else (none))) else (none)) = some r := h
 clear h
 by_cases c4 : ([] : List (S48)).length + l0_0.length < 2932031007402
 ·rw [if_pos c4] at H
  have LMc4 := aM c4
  clear c4
  obtain ⟨y392, hy392⟩ : ∃ y_ : List (S48), y_ = (([] : List (S48)) ++ l0_0) := ⟨_, rfl⟩
  replace H : (if 0 ≤ a1 then (if a1 < (y392.length : Int) then (some (y392.set (a1 : Int).toNat (⟨l2_0, l2_1⟩ : S48))) else (none)) else (none)) = some r := by first | (rw [hy392]; with_reducible exact H) | (have H2_ := (Option.bind_some _ _).symm.trans H; rw [hy392]; with_reducible exact H2_) | (have H2_ := (Option.bind_some _ _).symm.trans H; with_reducible exact H2_) | with_reducible exact H | (rw [hy392]; exact H) | exact H
  have Ny392 := aM hy392
  clear hy392
  by_cases c5 : 0 ≤ a1
  ·rw [if_pos c5] at H
   have c5b0 : decide (0 ≤ a1) = true := decide_eq_true c5
   clear c5
   by_cases c6 : a1 < (y392.length : Int)
   ·rw [if_pos c6] at H
    have c6b0 : decide (a1 < (y392.length : Int)) = true := decide_eq_true c6
    clear c6
    obtain ⟨y395, hy395⟩ : ∃ y_ : List (S48), y_ = (y392.set (a1 : Int).toNat (⟨l2_0, l2_1⟩ : S48)) := ⟨_, rfl⟩
    replace H : (some y395) = some r := by first | (rw [hy395]; with_reducible exact H) | (have H2_ := (Option.bind_some _ _).symm.trans H; rw [hy395]; with_reducible exact H2_) | (have H2_ := (Option.bind_some _ _).symm.trans H; with_reducible exact H2_) | with_reducible exact H | (rw [hy395]; exact H) | exact H
    have Ny395 := aM hy395
    clear hy395
    obtain rfl := Option.some.inj H
    go_enter Try.func40, Try.ntmps40
    go_wp2_with (first | ((with_reducible refine Z7 (N := 3) rfl ?_); refine Z4 ?hg (N := 3) ?hd (cs := #[.slice A0_0 l0_0.length c0_0]) (t := 24) ?hr ?_; (case hd => rfl); (case hg => rfl); (case hr => first | (go_simp; done) | (go_simp; rfl)); intro gb389 hg w8 hbox hb; have n0_ := aM (Kd.Y0 (Kd.Yx (by (with_reducible repeat first | apply Kd.Zv | apply Kd.Zu | apply Kd.Z0); exact HO0_0.out) gb389 (Nat.le_of_eq hg.symm)) hb); have n1_ := aM (Kd.Y0 (Kd.Yx (by (with_reducible repeat first | apply Kd.Zv | apply Kd.Zu | apply Kd.Z0); exact HO2_0.out) gb389 (Nat.le_of_eq hg.symm)) hb); have n2_ := aM (Kd.Y0 (Kd.Yx (by (with_reducible repeat first | apply Kd.Zv | apply Kd.Zu | apply Kd.Z0); exact HO2_1.out) gb389 (Nat.le_of_eq hg.symm)) hb); have n3_ := aM (Zj (by repeat (first | (with_reducible first | exact HB.out | apply wA | apply wN | apply wD) | exact HB.out)) hb); have n4_ := aM (hbox); have n5_ := aM ((by rw [hg]; exact (Zd (by repeat (first | (with_reducible first | exact HB.out | apply wA | apply wN | apply wD) | exact HB.out))) : w.heap.size ≤ gb389)); have n6_ := aM ((by rw [hg]; exact (Zd (by repeat (first | (with_reducible first | exact HB.out | apply wA | apply wN | apply wD) | exact HB.out))) : w.heap.size ≤ gb389)); clear HO0_0 HO2_0 HO2_1 HB; have HO0_0 := n0_; have HO2_0 := n1_; have HO2_1 := n2_; have HB := n3_; have BK389 := n4_; have GW389 := n5_; have GE389 := n6_; clear n0_ n1_ n2_ n3_ n4_ n5_ n6_; clear hb hbox hg) | ((with_reducible refine Z7 (N := 5) rfl ?_); refine Z4 ?hg (N := 5) ?hd (cs := #[.slice A2_0 l2_0.length c2_0, .slice A2_1 l2_1.length c2_1]) (t := 48) ?hr ?_; (case hd => rfl); (case hg => rfl); (case hr => first | (go_simp; done) | (go_simp; rfl)); intro gb390 hg w9 hbox hb; have n0_ := aM (Kd.Y0 (Kd.Yx (by (with_reducible repeat first | apply Kd.Zv | apply Kd.Zu | apply Kd.Z0); exact HO0_0.out) gb390 (Nat.le_of_eq hg.symm)) hb); have n1_ := aM (Kd.Y0 (Kd.Yx (by (with_reducible repeat first | apply Kd.Zv | apply Kd.Zu | apply Kd.Z0); exact HO2_0.out) gb390 (Nat.le_of_eq hg.symm)) hb); have n2_ := aM (Kd.Y0 (Kd.Yx (by (with_reducible repeat first | apply Kd.Zv | apply Kd.Zu | apply Kd.Z0); exact HO2_1.out) gb390 (Nat.le_of_eq hg.symm)) hb); have n3_ := aM (Zf (g := gb389) (o := .cells #[.slice A0_0 l0_0.length c0_0] 24 (0, 0)) (by (with_reducible repeat first | apply bN | apply bD | apply bA); exact BK389.out) hb); have n4_ := aM (Zj (by repeat (first | (with_reducible first | exact HB.out | apply wA | apply wN | apply wD | refine Za ?_ GE389.out) | exact HB.out)) hb); have n5_ := aM (hbox); have n6_ := aM ((by rw [hg]; exact (Zd (by repeat (first | (with_reducible first | exact HB.out | apply wA | apply wN | apply wD | refine Za ?_ GE389.out) | exact HB.out))) : w.heap.size ≤ gb390)); have n7_ := aM ((by rw [hg]; exact (Zd (by repeat (first | (with_reducible first | exact HB.out | apply wA | apply wN | apply wD | refine Za ?_ GE389.out) | exact HB.out))) : w.heap.size ≤ gb390)); have n8_ := aM ((by rw [hg]; exact Nat.ne_of_lt (Ya (g := gb389) (o := .cells #[.slice A0_0 l0_0.length c0_0] 24 (0, 0)) (by (with_reducible repeat first | apply bN | apply bD | apply bA); exact BK389.out)) : gb389 ≠ gb390)); have n9_ := aM ((by rw [hg]; exact Nat.ne_of_gt (Ya (g := gb389) (o := .cells #[.slice A0_0 l0_0.length c0_0] 24 (0, 0)) (by (with_reducible repeat first | apply bN | apply bD | apply bA); exact BK389.out)) : gb390 ≠ gb389)); clear HO0_0 HO2_0 HO2_1 BK389 HB; have HO0_0 := n0_; have HO2_0 := n1_; have HO2_1 := n2_; have BK389 := n3_; have HB := n4_; have BK390 := n5_; have GW390 := n6_; have GE390 := n7_; have NB389_390 := n8_; have NB390_389 := n9_; clear n0_ n1_ n2_ n3_ n4_ n5_ n6_ n7_ n8_ n9_; clear hb hbox hg) | ((with_reducible refine Z7 (N := 6) rfl ?_); refine Z4 ?hg (N := 6) ?hd (cs := #[.slice none 0 0]) (t := 24) ?hr ?_; (case hd => rfl); (case hg => rfl); (case hr => first | (go_simp; done) | (go_simp; rfl)); intro gb391 hg w10 hbox hb; have n0_ := aM (Kd.Y0 (Kd.Yx (by (with_reducible repeat first | apply Kd.Zv | apply Kd.Zu | apply Kd.Z0); exact HO0_0.out) gb391 (Nat.le_of_eq hg.symm)) hb); have n1_ := aM (Kd.Y0 (Kd.Yx (by (with_reducible repeat first | apply Kd.Zv | apply Kd.Zu | apply Kd.Z0); exact HO2_0.out) gb391 (Nat.le_of_eq hg.symm)) hb); have n2_ := aM (Kd.Y0 (Kd.Yx (by (with_reducible repeat first | apply Kd.Zv | apply Kd.Zu | apply Kd.Z0); exact HO2_1.out) gb391 (Nat.le_of_eq hg.symm)) hb); have n3_ := aM (Zf (g := gb389) (o := .cells #[.slice A0_0 l0_0.length c0_0] 24 (0, 0)) (by (with_reducible repeat first | apply bN | apply bD | apply bA); exact BK389.out) hb); have n4_ := aM (Zf (g := gb390) (o := .cells #[.slice A2_0 l2_0.length c2_0, .slice A2_1 l2_1.length c2_1] 48 (0, 0)) (by (with_reducible repeat first | apply bN | apply bD | apply bA); exact BK390.out) hb); have n5_ := aM (Zj (by repeat (first | (with_reducible first | exact HB.out | apply wA | apply wN | apply wD | refine Za ?_ GE389.out | refine Za ?_ GE390.out) | exact HB.out)) hb); have n6_ := aM (hbox); have n7_ := aM ((by rw [hg]; exact (Zd (by repeat (first | (with_reducible first | exact HB.out | apply wA | apply wN | apply wD | refine Za ?_ GE389.out | refine Za ?_ GE390.out) | exact HB.out))) : w.heap.size ≤ gb391)); have n8_ := aM ((by rw [hg]; exact (Zd (by repeat (first | (with_reducible first | exact HB.out | apply wA | apply wN | apply wD | refine Za ?_ GE389.out | refine Za ?_ GE390.out) | exact HB.out))) : w.heap.size ≤ gb391)); have n9_ := aM ((by rw [hg]; exact Nat.ne_of_lt (Ya (g := gb389) (o := .cells #[.slice A0_0 l0_0.length c0_0] 24 (0, 0)) (by (with_reducible repeat first | apply bN | apply bD | apply bA); exact BK389.out)) : gb389 ≠ gb391)); have n10_ := aM ((by rw [hg]; exact Nat.ne_of_gt (Ya (g := gb389) (o := .cells #[.slice A0_0 l0_0.length c0_0] 24 (0, 0)) (by (with_reducible repeat first | apply bN | apply bD | apply bA); exact BK389.out)) : gb391 ≠ gb389)); have n11_ := aM ((by rw [hg]; exact Nat.ne_of_lt (Ya (g := gb390) (o := .cells #[.slice A2_0 l2_0.length c2_0, .slice A2_1 l2_1.length c2_1] 48 (0, 0)) (by (with_reducible repeat first | apply bN | apply bD | apply bA); exact BK390.out)) : gb390 ≠ gb391)); have n12_ := aM ((by rw [hg]; exact Nat.ne_of_gt (Ya (g := gb390) (o := .cells #[.slice A2_0 l2_0.length c2_0, .slice A2_1 l2_1.length c2_1] 48 (0, 0)) (by (with_reducible repeat first | apply bN | apply bD | apply bA); exact BK390.out)) : gb391 ≠ gb390)); clear HO0_0 HO2_0 HO2_1 BK389 BK390 HB; have HO0_0 := n0_; have HO2_0 := n1_; have HO2_1 := n2_; have BK389 := n3_; have BK390 := n4_; have HB := n5_; have BK391 := n6_; have GW391 := n7_; have GE391 := n8_; have NB389_391 := n9_; have NB391_389 := n10_; have NB390_391 := n11_; have NB391_390 := n12_; clear n0_ n1_ n2_ n3_ n4_ n5_ n6_ n7_ n8_ n9_ n10_ n11_ n12_; clear hb hbox hg; have hnb11 := NB389_390.out; have hnc11 := NB390_389.out; have hnb12 := NB389_391.out; have hnc12 := NB391_389.out; have hcz13_0 : w10.cell? ⟨gb389, 0, none⟩ = some (.slice A0_0 l0_0.length c0_0) := (Ze BK389.out 0).trans rfl; have hfz13_0 := Zg BK389.out 0) | ((with_reducible refine Zbt (b := .append) (xs := #[(.const (.slice none 0 0)), .tmp 9]) rfl ?_); at_builtin; refine Kd.N_append_rows k48 (w0 := w) w.heap.size rfl (.const (.slice none 0 0)) (.tmp 9) 22 48 (.agg #[(.slice none 0 0), (.slice none 0 0)]) 48 rfl Try.underlying22 Zfh rfl (by decide) (by omega) (.slice none 0 0) ([] : List (S48)) l0_0 _ _ _ (fun k_ => ((P0_0_ k_ ∨ P2_0_ k_ ∨ P2_1_ k_) ∨ w.heap.size ≤ k_) ∧ k_ ≠ gb389 ∧ k_ ≠ gb390 ∧ k_ ≠ gb391) (fun k_ => ((fun k_ => ((P0_0_ k_ ∨ P2_0_ k_ ∨ P2_1_ k_) ∨ w.heap.size ≤ k_) ∧ k_ ≠ gb389 ∧ k_ ≠ gb390 ∧ k_ ≠ gb391)) k_ ∧ some k_ ≠ (.slice none 0 0 : Value).ownBlock) rfl rfl ?aO ?aR (fun _ hk => hk) ?aF ?aB ?aS ?aL ?_; (case aR => exact (by skip; exact Kd.V_F (Kd.Yd (ok' := (fun k_ => ((fun k_ => ((P0_0_ k_ ∨ P2_0_ k_ ∨ P2_1_ k_) ∨ w.heap.size ≤ k_) ∧ k_ ≠ gb389 ∧ k_ ≠ gb390 ∧ k_ ≠ gb391)) k_ ∧ some k_ ≠ (.slice none 0 0 : Value).ownBlock)) (HO0_0.out) (fun k_ hk => ⟨⟨hk.1.1.1, ⟨hk.1.1.2, ⟨hk.1.2, hk.2⟩⟩⟩, (by simp [Value.ownBlock])⟩)))); (case aB => exact (by repeat (first | (with_reducible first | exact HB.out | apply wA | apply wN | apply wD | refine Za ?_ GE389.out | refine Za ?_ GE390.out | refine Za ?_ GE391.out) | exact HB.out))); (case aF => exact (fun k_ hk => ⟨(.inr (Nat.le_trans (Zd (by repeat (first | (with_reducible first | exact HB.out | apply wA | apply wN | apply wD | refine Za ?_ GE389.out | refine Za ?_ GE390.out | refine Za ?_ GE391.out) | exact HB.out))) hk)), Kd.Y6 (g := gb389) (o := .cells #[.slice A0_0 l0_0.length c0_0] 24 (0, 0)) (by (with_reducible repeat first | apply bN | apply bD | apply bA); exact BK389.out) k_ hk, Kd.Y6 (g := gb390) (o := .cells #[.slice A2_0 l2_0.length c2_0, .slice A2_1 l2_1.length c2_1] 48 (0, 0)) (by (with_reducible repeat first | apply bN | apply bD | apply bA); exact BK390.out) k_ hk, Kd.Y6 (g := gb391) (o := .cells #[.slice none 0 0] 24 (0, 0)) (by (with_reducible repeat first | apply bN | apply bD | apply bA); exact BK391.out) k_ hk⟩)); (case aO => exact ((Kd.Zcw _ _ _ _ (fun k_ => ((P0_0_ k_ ∨ P2_0_ k_ ∨ P2_1_ k_) ∨ w.heap.size ≤ k_) ∧ k_ ≠ gb389 ∧ k_ ≠ gb390 ∧ k_ ≠ gb391)))); (case aS => exact (Zd (by repeat (first | (with_reducible first | exact HB.out | apply wA | apply wN | apply wD | refine Za ?_ GE389.out | refine Za ?_ GE390.out | refine Za ?_ GE391.out) | exact HB.out)))); (case aL => have := LMc4.out; omega); intro v393 w14 ho hb hg hat; rw [← Ny392.out] at ho; have n0_ := aM (Kd.Zb8 (Kd.Zca (by (with_reducible repeat first | apply Kd.Zv | apply Kd.Zu | apply Kd.Z0); exact HO0_0.out)) hg hat); have n1_ := aM (Kd.Zb8 (Kd.Zca (by (with_reducible repeat first | apply Kd.Zv | apply Kd.Zu | apply Kd.Z0); exact HO2_0.out)) hg hat); have n2_ := aM (Kd.Zb8 (Kd.Zca (by (with_reducible repeat first | apply Kd.Zv | apply Kd.Zu | apply Kd.Z0); exact HO2_1.out)) hg hat); have n3_ := aM (Yc (g := gb389) (o := .cells #[.slice A0_0 l0_0.length c0_0] 24 (0, 0)) (by (with_reducible repeat first | apply bN | apply bD | apply bA); exact BK389.out) hg (by simp [Value.ownBlock])); have n4_ := aM (Yc (g := gb390) (o := .cells #[.slice A2_0 l2_0.length c2_0, .slice A2_1 l2_1.length c2_1] 48 (0, 0)) (by (with_reducible repeat first | apply bN | apply bD | apply bA); exact BK390.out) hg (by simp [Value.ownBlock])); have n5_ := aM (Yc (g := gb391) (o := .cells #[.slice none 0 0] 24 (0, 0)) (by (with_reducible repeat first | apply bN | apply bD | apply bA); exact BK391.out) hg (by simp [Value.ownBlock])); have n6_ := aM (hb); have n7_ := aM (ho); clear HO0_0 HO2_0 HO2_1 BK389 BK390 BK391 HB; have HO0_0 := n0_; have HO2_0 := n1_; have HO2_1 := n2_; have BK389 := n3_; have BK390 := n4_; have BK391 := n5_; have HB := n6_; have HO394 := n7_; clear n0_ n1_ n2_ n3_ n4_ n5_ n6_ n7_; clear ho hb hg hat; have hnb15 := NB390_391.out; have hnc15 := NB391_390.out; have hcz16_0 : w14.cell? ⟨gb390, 0, none⟩ = some (.slice A2_0 l2_0.length c2_0) := (Ze BK390.out 0).trans rfl; have hcz16_1 : w14.cell? ⟨gb390, 1, none⟩ = some (.slice A2_1 l2_1.length c2_1) := (Ze BK390.out 1).trans rfl; have hfz16_0 := Zg BK390.out 0; have hfz16_1 := Zg BK390.out 1; have p7 : 0 ≤ (a1 : Int) := of_decide_eq_true (by first | (with_reducible assumption) | assumption); have q7 : (a1 : Int) < ((y392.length : Int) : Int) := of_decide_eq_true (by first | (with_reducible assumption) | assumption); obtain ⟨go7, co7, eo7, gb7, gl7, cl7, HG7⟩ := Kd.N_form HO394.out (by omega); (first | cases eo7 | (injection eo7 with ea_ en_ ec_; (first | subst ea_ | (injection ea_ with ea_; subst ea_)); subst ec_; clear en_)); have GB7 := aM gb7; have GG7 := aM HG7; clear gb7 gl7 HG7; obtain ⟨ce7, hcl7, hM7, hcc7, hfr7⟩ := Kd.N_elem HO394.out z48 (a1 : Int) p7 q7; obtain ⟨ua7_0, uc7_0, ua7_1, uc7_1, rfl, ul7_0, ge7_0, ul7_1, ge7_1⟩ := Zce hM7; have hx7_0 : w14.cell? ⟨go7, (a1 : Int).toNat * 2, none⟩ = some (.slice ua7_0 ((Zo y392 a1).f0).length uc7_0) := hcc7 0 _ rfl; have hx7_1 : w14.cell? ⟨go7, (a1 : Int).toNat * 2 + 1, none⟩ = some (.slice ua7_1 ((Zo y392 a1).f1).length uc7_1) := hcc7 1 _ rfl; have hf7_0 : w14.frozen? ⟨go7, (a1 : Int).toNat * 2, none⟩ = false := hfr7 0; have hf7_1 : w14.frozen? ⟨go7, (a1 : Int).toNat * 2 + 1, none⟩ = false := hfr7 1; clear hcl7 hcc7 hfr7 hM7; replace p7 := eq_true p7; replace q7 := eq_true q7; have HX17 := aM (show Kd.N k48 48 w14 w.heap.size (fun k_ => ((P0_0_ k_ ∨ P2_0_ k_ ∨ P2_1_ k_) ∨ w.heap.size ≤ k_) ∧ k_ ≠ gb389 ∧ k_ ≠ gb390 ∧ k_ ≠ gb391) (.slice (some ⟨go7, 0, none⟩) y392.length co7) y392 from (by (with_reducible repeat first | apply Kd.Ym | apply Kd.Yl | apply Kd.Yy); exact HO394.out)); obtain ⟨ce17, hcl17, hM17, hcc17, hfr17⟩ := Kd.N_elem HX17.out z48 (a1 : Int) (of_decide_eq_true (by first | (with_reducible assumption) | assumption)) (by have h_ : (a1 : Int) < ((y392.length : Int) : Int) := of_decide_eq_true (by first | (with_reducible assumption) | assumption); first | exact h_ | (have e_ := (Kd.Za9 HO394.out).1; omega) | simpa using h_); obtain ⟨ua17_0, uc17_0, ua17_1, uc17_1, rfl, ul17_0, ge17_0, ul17_1, ge17_1⟩ := Zce hM17; have HP17 := Kd.N_seg HX17.out (a1 : Int) (of_decide_eq_true (by first | (with_reducible assumption) | assumption)) (by have h_ : (a1 : Int) < ((y392.length : Int) : Int) := of_decide_eq_true (by first | (with_reducible assumption) | assumption); first | exact h_ | (have e_ := (Kd.Za9 HO394.out).1; omega) | simpa using h_) (seg := [.slice A2_0 l2_0.length c2_0, .slice A2_1 l2_1.length c2_1]) (j := 0) hcl17 hcc17 (show 2 ≤ 2 from by decide) (x' := (⟨l2_0, l2_1⟩ : S48)) (k48_mkF _ _ (⟨l2_0, l2_1⟩ : S48) (Kd.Zae (Kd.Yd (ok' := (fun k_ => ((fun k_ => ((P0_0_ k_ ∨ P2_0_ k_ ∨ P2_1_ k_) ∨ w.heap.size ≤ k_) ∧ k_ ≠ gb389 ∧ k_ ≠ gb390 ∧ k_ ≠ gb391)) k_ ∧ k_ ≠ go7)) (HO2_0.out) (fun k_ hk => ⟨⟨hk.1.1.1.1, ⟨hk.1.1.1.2, ⟨hk.1.1.2, hk.1.2⟩⟩⟩, fun e_ => (hk.2) (by rw [e_]; rfl)⟩))).2.1 (Kd.V_F (Kd.Yd (ok' := (fun k_ => ((fun k_ => ((P0_0_ k_ ∨ P2_0_ k_ ∨ P2_1_ k_) ∨ w.heap.size ≤ k_) ∧ k_ ≠ gb389 ∧ k_ ≠ gb390 ∧ k_ ≠ gb391)) k_ ∧ k_ ≠ go7)) (HO2_0.out) (fun k_ hk => ⟨⟨hk.1.1.1.1, ⟨hk.1.1.1.2, ⟨hk.1.1.2, hk.1.2⟩⟩⟩, fun e_ => (hk.2) (by rw [e_]; rfl)⟩))) (Kd.Zae (Kd.Yd (ok' := (fun k_ => ((fun k_ => ((P0_0_ k_ ∨ P2_0_ k_ ∨ P2_1_ k_) ∨ w.heap.size ≤ k_) ∧ k_ ≠ gb389 ∧ k_ ≠ gb390 ∧ k_ ≠ gb391)) k_ ∧ k_ ≠ go7)) (HO2_1.out) (fun k_ hk => ⟨⟨hk.1.1.1.1, ⟨hk.1.1.1.2, ⟨hk.1.1.2, hk.1.2⟩⟩⟩, fun e_ => (hk.2) (by rw [e_]; rfl)⟩))).2.1 (Kd.V_F (Kd.Yd (ok' := (fun k_ => ((fun k_ => ((P0_0_ k_ ∨ P2_0_ k_ ∨ P2_1_ k_) ∨ w.heap.size ≤ k_) ∧ k_ ≠ gb389 ∧ k_ ≠ gb390 ∧ k_ ≠ gb391)) k_ ∧ k_ ≠ go7)) (HO2_1.out) (fun k_ hk => ⟨⟨hk.1.1.1.1, ⟨hk.1.1.1.2, ⟨hk.1.1.2, hk.1.2⟩⟩⟩, fun e_ => (hk.2) (by rw [e_]; rfl)⟩)))) (fun _ hk => hk); have hx17_0 := hcc17 0 _ rfl; (try simp only [show (k48).sz = 2 from rfl, Nat.mul_one, Nat.add_zero] at hx17_0); have hf17_0 := hfr17 0; (try simp only [show (k48).sz = 2 from rfl, Nat.mul_one, Nat.add_zero] at hf17_0); have hx17_1 := hcc17 1 _ rfl; (try simp only [show (k48).sz = 2 from rfl, Nat.mul_one, Nat.add_zero] at hx17_1); have hf17_1 := hfr17 1; (try simp only [show (k48).sz = 2 from rfl, Nat.mul_one, Nat.add_zero] at hf17_1); clear hcl17 hcc17 hfr17 hM17) | ((with_reducible refine Zbm (t := 48) (p := 14) rfl ?_); refine Zbh (t := 48) (p := 14) (v := ?vo_w18) (w1 := ((w14.setCell ⟨go7, (a1 : Int).toNat * 2, none⟩ (.slice A2_0 l2_0.length c2_0)).setCell ⟨go7, (a1 : Int).toNat * 2 + 1, none⟩ (.slice A2_1 l2_1.length c2_1))) ?hg ?ho ?hn ?hr ?_; (case ho => rfl); (case hg => rfl); (case hn => rfl); (case hr => first | (go_simp; done) | (go_simp; rfl)); intro w18 hw; have hg : w14.grownBy w18 (some go7) := (by rw [hw]; exact HP17.2); have hp_ : Kd.N k48 48 w18 w.heap.size (fun k_ => ((P0_0_ k_ ∨ P2_0_ k_ ∨ P2_1_ k_) ∨ w.heap.size ≤ k_) ∧ k_ ≠ gb389 ∧ k_ ≠ gb390 ∧ k_ ≠ gb391) (.slice (some ⟨go7, 0, none⟩) y392.length co7) y395 := (by rw [hw, Ny395.out]; exact HP17.1); clear HP17; have n0_ := aM (Kd.Zb8 (v := (.slice (some ⟨go7, 0, none⟩) y392.length co7)) (v1 := (.slice (some ⟨go7, 0, none⟩) y392.length co7)) (ok := (fun k_ => ((P0_0_ k_ ∨ P2_0_ k_ ∨ P2_1_ k_) ∨ w.heap.size ≤ k_) ∧ k_ ≠ gb389 ∧ k_ ≠ gb390 ∧ k_ ≠ gb391)) (by (with_reducible repeat first | apply Kd.Zv | apply Kd.Zu | apply Kd.Z0); exact Kd.Yd HO0_0.out (fun _ hk => ⟨⟨hk.1.1.1.1, ⟨hk.1.1.1.2, ⟨hk.1.1.2, hk.1.2⟩⟩⟩, hk.2⟩)) hg (.inl rfl)); have n1_ := aM (Kd.Zb8 (v := (.slice (some ⟨go7, 0, none⟩) y392.length co7)) (v1 := (.slice (some ⟨go7, 0, none⟩) y392.length co7)) (ok := (fun k_ => ((P0_0_ k_ ∨ P2_0_ k_ ∨ P2_1_ k_) ∨ w.heap.size ≤ k_) ∧ k_ ≠ gb389 ∧ k_ ≠ gb390 ∧ k_ ≠ gb391)) (by (with_reducible repeat first | apply Kd.Zv | apply Kd.Zu | apply Kd.Z0); exact Kd.Yd HO2_0.out (fun _ hk => ⟨⟨hk.1.1.1.1, ⟨hk.1.1.1.2, ⟨hk.1.1.2, hk.1.2⟩⟩⟩, hk.2⟩)) hg (.inl rfl)); have n2_ := aM (Kd.Zb8 (v := (.slice (some ⟨go7, 0, none⟩) y392.length co7)) (v1 := (.slice (some ⟨go7, 0, none⟩) y392.length co7)) (ok := (fun k_ => ((P0_0_ k_ ∨ P2_0_ k_ ∨ P2_1_ k_) ∨ w.heap.size ≤ k_) ∧ k_ ≠ gb389 ∧ k_ ≠ gb390 ∧ k_ ≠ gb391)) (by (with_reducible repeat first | apply Kd.Zv | apply Kd.Zu | apply Kd.Z0); exact Kd.Yd HO2_1.out (fun _ hk => ⟨⟨hk.1.1.1.1, ⟨hk.1.1.1.2, ⟨hk.1.1.2, hk.1.2⟩⟩⟩, hk.2⟩)) hg (.inl rfl)); have n3_ := aM (Yc (g := gb389) (o := .cells #[.slice A0_0 l0_0.length c0_0] 24 (0, 0)) (by (with_reducible repeat first | apply bN | apply bD | apply bA); exact BK389.out) hg (Kd.N_ne HO394.out BK389.out (by decide))); have n4_ := aM (Yc (g := gb390) (o := .cells #[.slice A2_0 l2_0.length c2_0, .slice A2_1 l2_1.length c2_1] 48 (0, 0)) (by (with_reducible repeat first | apply bN | apply bD | apply bA); exact BK390.out) hg (Kd.N_away HO394.out (fun _ hk => hk.2.2.1))); have n5_ := aM (Yc (g := gb391) (o := .cells #[.slice none 0 0] 24 (0, 0)) (by (with_reducible repeat first | apply bN | apply bD | apply bA); exact BK391.out) hg (Kd.N_ne HO394.out BK391.out (by decide))); have n6_ := aM (hp_); have n7_ := aM ((by rw [hw]; exact Za (Za (HB.out) GB7.out) GB7.out : Below w.heap.size w w18)); clear HO0_0 HO2_0 HO2_1 BK389 BK390 BK391 HO394 HB; have HO0_0 := n0_; have HO2_0 := n1_; have HO2_1 := n2_; have BK389 := n3_; have BK390 := n4_; have BK391 := n5_; have HO394 := n6_; have HB := n7_; clear n0_ n1_ n2_ n3_ n4_ n5_ n6_ n7_; clear hg hw hp_; have hcz19_0 : w18.cell? ⟨gb391, 0, none⟩ = some (.slice none 0 0) := (Ze BK391.out 0).trans rfl; have hfz19_0 := Zg BK391.out 0))
    refine bodyPost_ret (results_cell_row rfl _ _ gb391 24 #[.slice (some ⟨go7, 0, none⟩) y392.length co7] (0, 0) _ rfl (by (with_reducible repeat first | apply bN | apply bD | apply bA); refine Yo (cs := #[.slice none 0 0]) ?_ 0 _ rfl; (with_reducible repeat first | apply bN | apply bD | apply bA); exact BK391.out) Try.underlying24 rfl (by kernel_rfl)) rfl ?_
    exact ⟨_, by first | rfl | (simp [Zy, Zx] <;> rfl) | (simp [*, Zy, Zx] <;> rfl), by (with_reducible repeat first | apply Kd.Ym | apply Kd.Yl | apply Kd.Yy); exact Kd.Yr (Kd.Zby (p := ⟨gb391, 0, none⟩) (Kd.Yr HO394.out (fun k_ hk => (⟨hk, hk.2.2.2⟩ : _ ∧ k_ ≠ gb391))) (fun _ hk => hk.2) (.slice (some ⟨go7, 0, none⟩) y392.length co7)) (fun _ hk => hk.1.1), by repeat (first | (with_reducible first | exact HB.out | apply wA | apply wN | apply wD | refine Za ?_ GE389.out | refine Za ?_ GE390.out | refine Za ?_ GE391.out) | exact HB.out)⟩
   ·rw [if_neg c6] at H
    exact absurd H (by simp)
  ·rw [if_neg c5] at H
   exact absurd H (by simp)
 ·rw [if_neg c4] at H
  exact absurd H (by simp)

def Zaj.f (l0_0 : List (S48)) (a1 : Int) (l2 : List Int) : Option ((List (S48)) × Int) := (Yn.f l0_0 a1).bind fun t398 => (if t398 = true then (if 0 ≤ a1 then (if a1 < (l0_0.length : Int) then (if (wrap64 ((wrap64 ((((Zo l0_0 a1).f0).length : Int) + (((Zo l0_0 a1).f1).length : Int))) + (l2.length : Int))) > 65536 then (some (([] : List (S48)), 5)) else (if ([] : List Int).length + ((Zo l0_0 a1).f1).length < 140737488355328 then ((some (([] : List Int) ++ ((Zo l0_0 a1).f1) : List Int)).bind fun y401 => (if y401.length + l2.length < 140737488355328 then ((Yi.f l0_0 a1 ((Zo l0_0 a1).f0) (y401 ++ l2)).bind fun t407 => (some (t407, 0))) else (none))) else (none))) else (none)) else (none)) else (some (([] : List (S48)), 11)))
set_option maxHeartbeats 8000000 in
set_option maxRecDepth 100000 in
theorem Zaj.calls (P0_0_ : Nat → Prop) (A0_0 : Option Addr) (c0_0 : Nat) (l0_0 : List (S48)) (a1 : Int) (A2 : Option Addr) (c2 : Nat) (l2 : List Int) (r1 : List (S48)) (r2 : Int) (w : World) (hs0_0 : Kd.V k48 48 w w.heap.size (fun k_ => P0_0_ k_) (.slice A0_0 l0_0.length c0_0) l0_0) (hr2 : Kd.C (Kd.int .u8) w A2 l2.length l2) (hc2 : l2.length ≤ c2) (h : Zaj.f l0_0 a1 l2 = some (r1, r2)) :
  Calls Try.prog 31 #[.agg #[.slice A0_0 l0_0.length c0_0], .int .i64 a1, .slice A2 l2.length c2] w fun e w' => ∃ v0_ : Value, e = .returned (.tuple #[.agg #[v0_], .int .i64 r2]) ∧ Kd.N k48 48 w' w.heap.size (fun k_ => (P0_0_ k_ ∨ w.heap.size ≤ k_)) v0_ r1 ∧ Below w.heap.size w w' := by
 have hu24 := Try.underlying24
 have hu48 := Try.underlying48
 have HO0_0 := aM (show Kd.V k48 48 w w.heap.size (fun k_ => (P0_0_ k_ ∨ w.heap.size ≤ k_)) (.slice A0_0 l0_0.length c0_0) l0_0 from Kd.Yd hs0_0 (fun k_ hk => .inl hk))
 have HR2 := aM hr2
 have HC2 := aM hc2
 clear hr2 hc2
 have HB := aM (Below.refl w.heap.size w)
 have H : ((Yn.f l0_0 a1).bind fun t398 => (if t398 = true then (if 0 ≤ a1 then (if a1 < (l0_0.length : Int) then (if (wrap64 ((wrap64 ((((Zo l0_0 a1).f0).length : Int) + (((Zo l0_0 a1).f1).length : Int))) + (l2.length : Int))) > 65536 then (some (([] : List (S48)), 5)) else (if ([] : List Int).length + ((Zo l0_0 a1).f1).length < 140737488355328 then ((some (([] : List Int) ++ ((Zo l0_0 a1).f1) : List Int)).bind fun y401 => (if y401.length + l2.length < 140737488355328 then ((Yi.f l0_0 a1 ((Zo l0_0 a1).f0) (y401 ++ l2)).bind fun t407 => (some (t407, 0))) else (none))) else (none))) else (none)) else (none)) else (some (([] : List (S48)), 11)))) = some (r1, r2) := h
 clear h
 replace H := Option.bind_eq_some_iff.mp H
 obtain ⟨t398, A40, H⟩ := H
 replace H : (if t398 = true then (if 0 ≤ a1 then (if a1 < (l0_0.length : Int) then (if (wrap64 ((wrap64 ((((Zo l0_0 a1).f0).length : Int) + (((Zo l0_0 a1).f1).length : Int))) + (l2.length : Int))) > 65536 then (some (([] : List (S48)), 5)) else (if ([] : List Int).length + ((Zo l0_0 a1).f1).length < 140737488355328 then ((some (([] : List Int) ++ ((Zo l0_0 a1).f1) : List Int)).bind fun y401 => (if y401.length + l2.length < 140737488355328 then ((Yi.f l0_0 a1 ((Zo l0_0 a1).f0) (y401 ++ l2)).bind fun t407 => (some (t407, 0))) else (none))) else (none))) else (none)) else (none)) else (some (([] : List (S48)), 11))) = some (r1, r2) := H
 have A4 := aM A40
 clear A40
 by_cases c5 : t398 = true
 ·subst c5
  have H1 : (if 0 ≤ a1 then (if a1 < (l0_0.length : Int) then (if (wrap64 ((wrap64 ((((Zo l0_0 a1).f0).length : Int) + (((Zo l0_0 a1).f1).length : Int))) + (l2.length : Int))) > 65536 then (some (([] : List (S48)), 5)) else (if ([] : List Int).length + ((Zo l0_0 a1).f1).length < 140737488355328 then ((some (([] : List Int) ++ ((Zo l0_0 a1).f1) : List Int)).bind fun y401 => (if y401.length + l2.length < 140737488355328 then ((Yi.f l0_0 a1 ((Zo l0_0 a1).f0) (y401 ++ l2)).bind fun t407 => (some (t407, 0))) else (none))) else (none))) else (none)) else (none)) = some (r1, r2) := by rw [if_pos rfl] at H; exact H
  clear H
  have H := H1
  clear H1
  by_cases c6 : 0 ≤ a1
  ·rw [if_pos c6] at H
   have c6b0 : decide (0 ≤ a1) = true := decide_eq_true c6
   clear c6
   by_cases c7 : a1 < (l0_0.length : Int)
   ·rw [if_pos c7] at H
    have c7b0 : decide (a1 < (l0_0.length : Int)) = true := decide_eq_true c7
    clear c7
    by_cases c8 : (wrap64 ((wrap64 ((((Zo l0_0 a1).f0).length : Int) + (((Zo l0_0 a1).f1).length : Int))) + (l2.length : Int))) > 65536
    ·rw [if_pos c8] at H
     have c8b0 : decide (65536 < (wrap64 ((wrap64 ((((Zo l0_0 a1).f0).length : Int) + (((Zo l0_0 a1).f1).length : Int))) + (l2.length : Int)))) = true := decide_eq_true c8
     clear c8
     simp only [Option.some.injEq, Prod.mk.injEq] at H
     obtain ⟨rfl, rfl⟩ := H
     go_enter Try.func31, Try.ntmps31
     go_wp2_with (first | ((with_reducible refine Z7 (N := 3) rfl ?_); refine Z4 ?hg (N := 3) ?hd (cs := #[.slice A0_0 l0_0.length c0_0]) (t := 24) ?hr ?_; (case hd => rfl); (case hg => rfl); (case hr => first | (go_simp; done) | (go_simp; rfl)); intro gb396 hg w9 hbox hb; have n0_ := aM (Kd.Y0 (Kd.Yx (by (with_reducible repeat first | apply Kd.Zv | apply Kd.Zu | apply Kd.Z0); exact HO0_0.out) gb396 (Nat.le_of_eq hg.symm)) hb); have n1_ := aM (Zj (by repeat (first | (with_reducible first | exact HB.out | apply wA | apply wN | apply wD) | exact HB.out)) hb); have n2_ := aM (hbox); have n3_ := aM ((by rw [hg]; exact (Zd (by repeat (first | (with_reducible first | exact HB.out | apply wA | apply wN | apply wD) | exact HB.out))) : w.heap.size ≤ gb396)); have n4_ := aM ((by rw [hg]; exact (Zd (by repeat (first | (with_reducible first | exact HB.out | apply wA | apply wN | apply wD) | exact HB.out))) : w.heap.size ≤ gb396)); clear HO0_0 HB; have HO0_0 := n0_; have HB := n1_; have BK396 := n2_; have GW396 := n3_; have GE396 := n4_; clear n0_ n1_ n2_ n3_ n4_; clear hb hbox hg) | ((with_reducible refine Z7 (N := 6) rfl ?_); refine Z4 ?hg (N := 6) ?hd (cs := #[.slice none 0 0]) (t := 24) ?hr ?_; (case hd => rfl); (case hg => rfl); (case hr => first | (go_simp; done) | (go_simp; rfl)); intro gb397 hg w10 hbox hb; have n0_ := aM (Kd.Y0 (Kd.Yx (by (with_reducible repeat first | apply Kd.Zv | apply Kd.Zu | apply Kd.Z0); exact HO0_0.out) gb397 (Nat.le_of_eq hg.symm)) hb); have n1_ := aM (Zf (g := gb396) (o := .cells #[.slice A0_0 l0_0.length c0_0] 24 (0, 0)) (by (with_reducible repeat first | apply bN | apply bD | apply bA); exact BK396.out) hb); have n2_ := aM (Zj (by repeat (first | (with_reducible first | exact HB.out | apply wA | apply wN | apply wD | refine Za ?_ GE396.out) | exact HB.out)) hb); have n3_ := aM (hbox); have n4_ := aM ((by rw [hg]; exact (Zd (by repeat (first | (with_reducible first | exact HB.out | apply wA | apply wN | apply wD | refine Za ?_ GE396.out) | exact HB.out))) : w.heap.size ≤ gb397)); have n5_ := aM ((by rw [hg]; exact (Zd (by repeat (first | (with_reducible first | exact HB.out | apply wA | apply wN | apply wD | refine Za ?_ GE396.out) | exact HB.out))) : w.heap.size ≤ gb397)); have n6_ := aM ((by rw [hg]; exact Nat.ne_of_lt (Ya (g := gb396) (o := .cells #[.slice A0_0 l0_0.length c0_0] 24 (0, 0)) (by (with_reducible repeat first | apply bN | apply bD | apply bA); exact BK396.out)) : gb396 ≠ gb397)); have n7_ := aM ((by rw [hg]; exact Nat.ne_of_gt (Ya (g := gb396) (o := .cells #[.slice A0_0 l0_0.length c0_0] 24 (0, 0)) (by (with_reducible repeat first | apply bN | apply bD | apply bA); exact BK396.out)) : gb397 ≠ gb396)); clear HO0_0 BK396 HB; have HO0_0 := n0_; have BK396 := n1_; have HB := n2_; have BK397 := n3_; have GW397 := n4_; have GE397 := n5_; have NB396_397 := n6_; have NB397_396 := n7_; clear n0_ n1_ n2_ n3_ n4_ n5_ n6_ n7_; clear hb hbox hg; have hnb11 := NB396_397.out; have hnc11 := NB397_396.out; have hcz12_0 : w10.cell? ⟨gb396, 0, none⟩ = some (.slice A0_0 l0_0.length c0_0) := (Ze BK396.out 0).trans rfl; have hfz12_0 := Zg BK396.out 0) | ((with_reducible refine Yf (f := 39) rfl ?_); refine Zap (some 11) rfl rfl Try.func39 (by kernel_rfl) rfl #[.agg #[.slice A0_0 l0_0.length c0_0], .int .i64 a1] rfl (by (try simp only [Qi, Qj, Qk]); first | done | rfl | (simp only [Qe, Qd]; rfl)) ?_; (with_reducible refine (Yn.calls _ _ l0_0 a1 true _ ?side1 ?side2 A4.out).mono ?_); (case side1 => repeat (first | exact (Kd.Zae HO0_0.out).2.2 | (with_reducible refine Kd.Yh ?_ _) | (with_reducible refine Kd.Yg ?_ _) | (with_reducible refine Kd.Yw ?_))); (case side2 => exact (Kd.Zae HO0_0.out).2.1); rintro e w13 ⟨rfl, hb⟩; refine ⟨_, rfl, ?_⟩; have n0_ := aM (Kd.Y0 (by (with_reducible repeat first | apply Kd.Zv | apply Kd.Zu | apply Kd.Z0); exact HO0_0.out) hb); have n1_ := aM (Zf (g := gb396) (o := .cells #[.slice A0_0 l0_0.length c0_0] 24 (0, 0)) (by (with_reducible repeat first | apply bN | apply bD | apply bA); exact BK396.out) hb); have n2_ := aM (Zf (g := gb397) (o := .cells #[.slice none 0 0] 24 (0, 0)) (by (with_reducible repeat first | apply bN | apply bD | apply bA); exact BK397.out) hb); have n3_ := aM (Zj (by repeat (first | (with_reducible first | exact HB.out | apply wA | apply wN | apply wD | refine Za ?_ GE396.out | refine Za ?_ GE397.out) | exact HB.out)) hb); clear HO0_0 BK396 BK397 HB; have HO0_0 := n0_; have BK396 := n1_; have BK397 := n2_; have HB := n3_; clear n0_ n1_ n2_ n3_; (try clear hb); (try clear hb2); (try clear hk); (try clear hi); (try clear hge_); have hcz14_0 : w13.cell? ⟨gb396, 0, none⟩ = some (.slice A0_0 l0_0.length c0_0) := (Ze BK396.out 0).trans rfl; have hfz14_0 := Zg BK396.out 0; have p399 : 0 ≤ (a1 : Int) := of_decide_eq_true (by first | (with_reducible assumption) | assumption); have q399 : a1 < (l0_0.length : Int) := of_decide_eq_true (by first | (with_reducible assumption) | assumption); obtain ⟨ad399, A399_0, c399_0, A399_1, c399_1, e399, hx399_0, hx399_1, hl399_0, hi399_0, hl399_1, hi399_1⟩ := Zbl (Kd.Zae HO0_0.out).2.2 a1 p399 q399; cases e399; obtain ⟨ce399, hce399, hMe399, hcc399⟩ := Kd.V_get HO0_0.out z48 a1 p399 (by first | exact q399 | exact of_decide_eq_true (by first | (with_reducible assumption) | assumption) | (have e_ := (Kd.Zae HO0_0.out).1; omega)); obtain ⟨ua399_0, uc399_0, ua399_1, uc399_1, rfl, ul399_0, ge399_0, ul399_1, ge399_1⟩ := Zce hMe399; have hv399_0 := hcc399 0 _ rfl; rw [Nat.add_zero] at hv399_0; replace hv399_0 := Option.some.inj (hv399_0.symm.trans hx399_0); injection hv399_0 with hva_ hvn_ hvc_; rw [hva_] at ge399_0; rw [hvc_] at ul399_0; have HL399_0 := aM (show Kd.V (Kd.int .u8) 5 _ w.heap.size _ _ ((Zo l0_0 a1).f0) from Kd.V_mk ul399_0 ge399_0); clear hva_ hvn_ hvc_ ge399_0 ul399_0; have hv399_1 := hcc399 1 _ rfl; rw [Zb4 _ _ 1 (by omega)] at hv399_1; replace hv399_1 := Option.some.inj (hv399_1.symm.trans hx399_1); injection hv399_1 with hva_ hvn_ hvc_; rw [hva_] at ge399_1; rw [hvc_] at ul399_1; have HL399_1 := aM (show Kd.V (Kd.int .u8) 5 _ w.heap.size _ _ ((Zo l0_0 a1).f1) from Kd.V_mk ul399_1 ge399_1); clear hva_ hvn_ hvc_ ge399_1 ul399_1; clear hcc399 hce399; have HR399_0 := aM hi399_0; have HC399_0 := aM hl399_0; clear hi399_0 hl399_0; have HR399_1 := aM hi399_1; have HC399_1 := aM hl399_1; clear hi399_1 hl399_1; replace p399 := eq_true p399; replace q399 := eq_true q399) | ((with_reducible refine Z7 (N := 8) rfl ?_); refine Z4 ?hg (N := 8) ?hd (cs := #[.slice none 0 0, .slice none 0 0]) (t := 48) ?hr ?_; (case hd => rfl); (case hg => rfl); (case hr => first | (go_simp; done) | (go_simp; rfl)); intro gb400 hg w15 hbox hb; have n0_ := aM (Kd.Y0 (Kd.Yx (by (with_reducible repeat first | apply Kd.Zv | apply Kd.Zu | apply Kd.Z0); exact HO0_0.out) gb400 (Nat.le_of_eq hg.symm)) hb); have n1_ := aM (Kd.Y0 (Kd.Yx (by (with_reducible repeat first | apply Kd.Zv | apply Kd.Zu | apply Kd.Z0); exact HL399_0.out) gb400 (Nat.le_of_eq hg.symm)) hb); have n2_ := aM (Kd.Y0 (Kd.Yx (by (with_reducible repeat first | apply Kd.Zv | apply Kd.Zu | apply Kd.Z0); exact HL399_1.out) gb400 (Nat.le_of_eq hg.symm)) hb); have n3_ := aM (Zf (g := gb396) (o := .cells #[.slice (some ad399) l0_0.length c0_0] 24 (0, 0)) (by (with_reducible repeat first | apply bN | apply bD | apply bA); exact BK396.out) hb); have n4_ := aM (Zf (g := gb397) (o := .cells #[.slice none 0 0] 24 (0, 0)) (by (with_reducible repeat first | apply bN | apply bD | apply bA); exact BK397.out) hb); have n5_ := aM (Kd.Yv (by repeat (first | (with_reducible exact HR399_0.out) | (with_reducible refine Kd.Yh ?_ _) | (with_reducible refine Kd.Yg ?_ _) | (with_reducible refine Kd.Yw ?_) | exact HR399_0.out)) hb); have n6_ := aM (Kd.Yv (by repeat (first | (with_reducible exact HR399_1.out) | (with_reducible refine Kd.Yh ?_ _) | (with_reducible refine Kd.Yg ?_ _) | (with_reducible refine Kd.Yw ?_) | exact HR399_1.out)) hb); have n7_ := aM (Zj (by repeat (first | (with_reducible first | exact HB.out | apply wA | apply wN | apply wD | refine Za ?_ GE396.out | refine Za ?_ GE397.out) | exact HB.out)) hb); have n8_ := aM (hbox); have n9_ := aM ((by rw [hg]; exact (Zd (by repeat (first | (with_reducible first | exact HB.out | apply wA | apply wN | apply wD | refine Za ?_ GE396.out | refine Za ?_ GE397.out) | exact HB.out))) : w.heap.size ≤ gb400)); have n10_ := aM ((by rw [hg]; exact (Zd (by repeat (first | (with_reducible first | exact HB.out | apply wA | apply wN | apply wD | refine Za ?_ GE396.out | refine Za ?_ GE397.out) | exact HB.out))) : w.heap.size ≤ gb400)); have n11_ := aM ((by rw [hg]; exact Nat.ne_of_lt (Ya (g := gb396) (o := .cells #[.slice (some ad399) l0_0.length c0_0] 24 (0, 0)) (by (with_reducible repeat first | apply bN | apply bD | apply bA); exact BK396.out)) : gb396 ≠ gb400)); have n12_ := aM ((by rw [hg]; exact Nat.ne_of_gt (Ya (g := gb396) (o := .cells #[.slice (some ad399) l0_0.length c0_0] 24 (0, 0)) (by (with_reducible repeat first | apply bN | apply bD | apply bA); exact BK396.out)) : gb400 ≠ gb396)); have n13_ := aM ((by rw [hg]; exact Nat.ne_of_lt (Ya (g := gb397) (o := .cells #[.slice none 0 0] 24 (0, 0)) (by (with_reducible repeat first | apply bN | apply bD | apply bA); exact BK397.out)) : gb397 ≠ gb400)); have n14_ := aM ((by rw [hg]; exact Nat.ne_of_gt (Ya (g := gb397) (o := .cells #[.slice none 0 0] 24 (0, 0)) (by (with_reducible repeat first | apply bN | apply bD | apply bA); exact BK397.out)) : gb400 ≠ gb397)); clear HO0_0 HL399_0 HL399_1 BK396 BK397 HR399_0 HR399_1 HB; have HO0_0 := n0_; have HL399_0 := n1_; have HL399_1 := n2_; have BK396 := n3_; have BK397 := n4_; have HR399_0 := n5_; have HR399_1 := n6_; have HB := n7_; have BK400 := n8_; have GW400 := n9_; have GE400 := n10_; have NB396_400 := n11_; have NB400_396 := n12_; have NB397_400 := n13_; have NB400_397 := n14_; clear n0_ n1_ n2_ n3_ n4_ n5_ n6_ n7_ n8_ n9_ n10_ n11_ n12_ n13_ n14_; clear hb hbox hg; have hnb16 := NB400_396.out; have hnc16 := NB396_400.out; have hnb17 := NB400_397.out; have hnc17 := NB397_400.out; have hcz18_0 : w15.cell? ⟨gb400, 0, none⟩ = some (.slice none 0 0) := (Ze BK400.out 0).trans rfl; have hcz18_1 : w15.cell? ⟨gb400, 1, none⟩ = some (.slice none 0 0) := (Ze BK400.out 1).trans rfl; have hfz18_0 := Zg BK400.out 0; have hfz18_1 := Zg BK400.out 1; have hcz19_0 : w15.cell? ⟨gb397, 0, none⟩ = some (.slice none 0 0) := (Ze BK397.out 0).trans rfl; have hfz19_0 := Zg BK397.out 0))
     refine bodyPost_ret (Zau rfl _ _ gb397 24 #[.slice none 0 0] (0, 0) _ rfl (by (with_reducible repeat first | apply bN | apply bD | apply bA); refine Yo (cs := #[.slice none 0 0]) ?_ 0 _ rfl; (with_reducible repeat first | apply bN | apply bD | apply bA); refine Z8 ?_ NB397_400.out _; (with_reducible repeat first | apply bN | apply bD | apply bA); refine Z8 ?_ NB397_400.out _; (with_reducible repeat first | apply bN | apply bD | apply bA); exact BK397.out) Try.underlying24 rfl (by kernel_rfl)) rfl ?_
     exact ⟨_, by first | rfl | (simp [Zy, Zx] <;> rfl) | (simp [*, Zy, Zx] <;> rfl), by first | exact Kd.Zc0 _ _ _ _ _ | exact Kd.Zcw _ _ _ _ _ | exact Kd.Zcr _ _ _ _ _ | exact Kd.Zc1 _ _ _ _ _ | exact Kd.Zbx _ _ _ _ _, by repeat (first | (with_reducible first | exact HB.out | apply wA | apply wN | apply wD | refine Za ?_ GE396.out | refine Za ?_ GE397.out | refine Za ?_ GE400.out) | exact HB.out)⟩
    ·rw [if_neg c8] at H
     have c8b0 : decide (65536 < (wrap64 ((wrap64 ((((Zo l0_0 a1).f0).length : Int) + (((Zo l0_0 a1).f1).length : Int))) + (l2.length : Int)))) = false := decide_eq_false c8
     clear c8
     by_cases c20 : ([] : List Int).length + ((Zo l0_0 a1).f1).length < 140737488355328
     ·rw [if_pos c20] at H
      have LMc20 := aM c20
      clear c20
      obtain ⟨y401, hy401⟩ : ∃ y_ : List Int, y_ = (([] : List Int) ++ ((Zo l0_0 a1).f1)) := ⟨_, rfl⟩
      replace H : (if y401.length + l2.length < 140737488355328 then ((Yi.f l0_0 a1 ((Zo l0_0 a1).f0) (y401 ++ l2)).bind fun t407 => (some (t407, 0))) else (none)) = some (r1, r2) := by first | (rw [hy401]; with_reducible exact H) | (have H2_ := (Option.bind_some _ _).symm.trans H; rw [hy401]; with_reducible exact H2_) | (have H2_ := (Option.bind_some _ _).symm.trans H; with_reducible exact H2_) | with_reducible exact H | (rw [hy401]; exact H) | exact H
      have Ny401 := aM hy401
      clear hy401
      by_cases c21 : y401.length + l2.length < 140737488355328
      ·rw [if_pos c21] at H
       have LMc21 := aM c21
       clear c21
       obtain ⟨y404, hy404⟩ : ∃ y_ : List Int, y_ = (y401 ++ l2) := ⟨_, rfl⟩
       replace H : ((Yi.f l0_0 a1 ((Zo l0_0 a1).f0) y404).bind fun t407 => (some (t407, 0))) = some (r1, r2) := by first | (rw [hy404]; with_reducible exact H) | (have H2_ := (Option.bind_some _ _).symm.trans H; rw [hy404]; with_reducible exact H2_) | (have H2_ := (Option.bind_some _ _).symm.trans H; with_reducible exact H2_) | with_reducible exact H | (rw [hy404]; exact H) | exact H
       have Ny404 := aM hy404
       clear hy404
       replace H := Option.bind_eq_some_iff.mp H
       obtain ⟨t407, A220, H⟩ := H
       replace H : (some (t407, 0)) = some (r1, r2) := H
       have A22 := aM A220
       clear A220
       simp only [Option.some.injEq, Prod.mk.injEq] at H
       obtain ⟨rfl, rfl⟩ := H
       go_enter Try.func31, Try.ntmps31
       go_wp2_with (first | ((with_reducible refine Z7 (N := 3) rfl ?_); refine Z4 ?hg (N := 3) ?hd (cs := #[.slice A0_0 l0_0.length c0_0]) (t := 24) ?hr ?_; (case hd => rfl); (case hg => rfl); (case hr => first | (go_simp; done) | (go_simp; rfl)); intro gb396 hg w23 hbox hb; have n0_ := aM (Kd.Y0 (Kd.Yx (by (with_reducible repeat first | apply Kd.Zv | apply Kd.Zu | apply Kd.Z0); exact HO0_0.out) gb396 (Nat.le_of_eq hg.symm)) hb); have n1_ := aM (Zj (by repeat (first | (with_reducible first | exact HB.out | apply wA | apply wN | apply wD) | exact HB.out)) hb); have n2_ := aM (hbox); have n3_ := aM ((by rw [hg]; exact (Zd (by repeat (first | (with_reducible first | exact HB.out | apply wA | apply wN | apply wD) | exact HB.out))) : w.heap.size ≤ gb396)); have n4_ := aM ((by rw [hg]; exact (Zd (by repeat (first | (with_reducible first | exact HB.out | apply wA | apply wN | apply wD) | exact HB.out))) : w.heap.size ≤ gb396)); clear HO0_0 HB; have HO0_0 := n0_; have HB := n1_; have BK396 := n2_; have GW396 := n3_; have GE396 := n4_; clear n0_ n1_ n2_ n3_ n4_; clear hb hbox hg) | ((with_reducible refine Z7 (N := 6) rfl ?_); refine Z4 ?hg (N := 6) ?hd (cs := #[.slice none 0 0]) (t := 24) ?hr ?_; (case hd => rfl); (case hg => rfl); (case hr => first | (go_simp; done) | (go_simp; rfl)); intro gb397 hg w24 hbox hb; have n0_ := aM (Kd.Y0 (Kd.Yx (by (with_reducible repeat first | apply Kd.Zv | apply Kd.Zu | apply Kd.Z0); exact HO0_0.out) gb397 (Nat.le_of_eq hg.symm)) hb); have n1_ := aM (Zf (g := gb396) (o := .cells #[.slice A0_0 l0_0.length c0_0] 24 (0, 0)) (by (with_reducible repeat first | apply bN | apply bD | apply bA); exact BK396.out) hb); have n2_ := aM (Zj (by repeat (first | (with_reducible first | exact HB.out | apply wA | apply wN | apply wD | refine Za ?_ GE396.out) | exact HB.out)) hb); have n3_ := aM (hbox); have n4_ := aM ((by rw [hg]; exact (Zd (by repeat (first | (with_reducible first | exact HB.out | apply wA | apply wN | apply wD | refine Za ?_ GE396.out) | exact HB.out))) : w.heap.size ≤ gb397)); have n5_ := aM ((by rw [hg]; exact (Zd (by repeat (first | (with_reducible first | exact HB.out | apply wA | apply wN | apply wD | refine Za ?_ GE396.out) | exact HB.out))) : w.heap.size ≤ gb397)); have n6_ := aM ((by rw [hg]; exact Nat.ne_of_lt (Ya (g := gb396) (o := .cells #[.slice A0_0 l0_0.length c0_0] 24 (0, 0)) (by (with_reducible repeat first | apply bN | apply bD | apply bA); exact BK396.out)) : gb396 ≠ gb397)); have n7_ := aM ((by rw [hg]; exact Nat.ne_of_gt (Ya (g := gb396) (o := .cells #[.slice A0_0 l0_0.length c0_0] 24 (0, 0)) (by (with_reducible repeat first | apply bN | apply bD | apply bA); exact BK396.out)) : gb397 ≠ gb396)); clear HO0_0 BK396 HB; have HO0_0 := n0_; have BK396 := n1_; have HB := n2_; have BK397 := n3_; have GW397 := n4_; have GE397 := n5_; have NB396_397 := n6_; have NB397_396 := n7_; clear n0_ n1_ n2_ n3_ n4_ n5_ n6_ n7_; clear hb hbox hg; have hnb25 := NB396_397.out; have hnc25 := NB397_396.out; have hcz26_0 : w24.cell? ⟨gb396, 0, none⟩ = some (.slice A0_0 l0_0.length c0_0) := (Ze BK396.out 0).trans rfl; have hfz26_0 := Zg BK396.out 0) | ((with_reducible refine Yf (f := 39) rfl ?_); refine Zap (some 11) rfl rfl Try.func39 (by kernel_rfl) rfl #[.agg #[.slice A0_0 l0_0.length c0_0], .int .i64 a1] rfl (by (try simp only [Qi, Qj, Qk]); first | done | rfl | (simp only [Qe, Qd]; rfl)) ?_; (with_reducible refine (Yn.calls _ _ l0_0 a1 true _ ?side1 ?side2 A4.out).mono ?_); (case side1 => repeat (first | exact (Kd.Zae HO0_0.out).2.2 | (with_reducible refine Kd.Yh ?_ _) | (with_reducible refine Kd.Yg ?_ _) | (with_reducible refine Kd.Yw ?_))); (case side2 => exact (Kd.Zae HO0_0.out).2.1); rintro e w27 ⟨rfl, hb⟩; refine ⟨_, rfl, ?_⟩; have n0_ := aM (Kd.Y0 (by (with_reducible repeat first | apply Kd.Zv | apply Kd.Zu | apply Kd.Z0); exact HO0_0.out) hb); have n1_ := aM (Zf (g := gb396) (o := .cells #[.slice A0_0 l0_0.length c0_0] 24 (0, 0)) (by (with_reducible repeat first | apply bN | apply bD | apply bA); exact BK396.out) hb); have n2_ := aM (Zf (g := gb397) (o := .cells #[.slice none 0 0] 24 (0, 0)) (by (with_reducible repeat first | apply bN | apply bD | apply bA); exact BK397.out) hb); have n3_ := aM (Zj (by repeat (first | (with_reducible first | exact HB.out | apply wA | apply wN | apply wD | refine Za ?_ GE396.out | refine Za ?_ GE397.out) | exact HB.out)) hb); clear HO0_0 BK396 BK397 HB; have HO0_0 := n0_; have BK396 := n1_; have BK397 := n2_; have HB := n3_; clear n0_ n1_ n2_ n3_; (try clear hb); (try clear hb2); (try clear hk); (try clear hi); (try clear hge_); have hcz28_0 : w27.cell? ⟨gb396, 0, none⟩ = some (.slice A0_0 l0_0.length c0_0) := (Ze BK396.out 0).trans rfl; have hfz28_0 := Zg BK396.out 0; have p399 : 0 ≤ (a1 : Int) := of_decide_eq_true (by first | (with_reducible assumption) | assumption); have q399 : a1 < (l0_0.length : Int) := of_decide_eq_true (by first | (with_reducible assumption) | assumption); obtain ⟨ad399, A399_0, c399_0, A399_1, c399_1, e399, hx399_0, hx399_1, hl399_0, hi399_0, hl399_1, hi399_1⟩ := Zbl (Kd.Zae HO0_0.out).2.2 a1 p399 q399; cases e399; obtain ⟨ce399, hce399, hMe399, hcc399⟩ := Kd.V_get HO0_0.out z48 a1 p399 (by first | exact q399 | exact of_decide_eq_true (by first | (with_reducible assumption) | assumption) | (have e_ := (Kd.Zae HO0_0.out).1; omega)); obtain ⟨ua399_0, uc399_0, ua399_1, uc399_1, rfl, ul399_0, ge399_0, ul399_1, ge399_1⟩ := Zce hMe399; have hv399_0 := hcc399 0 _ rfl; rw [Nat.add_zero] at hv399_0; replace hv399_0 := Option.some.inj (hv399_0.symm.trans hx399_0); injection hv399_0 with hva_ hvn_ hvc_; rw [hva_] at ge399_0; rw [hvc_] at ul399_0; have HL399_0 := aM (show Kd.V (Kd.int .u8) 5 _ w.heap.size _ _ ((Zo l0_0 a1).f0) from Kd.V_mk ul399_0 ge399_0); clear hva_ hvn_ hvc_ ge399_0 ul399_0; have hv399_1 := hcc399 1 _ rfl; rw [Zb4 _ _ 1 (by omega)] at hv399_1; replace hv399_1 := Option.some.inj (hv399_1.symm.trans hx399_1); injection hv399_1 with hva_ hvn_ hvc_; rw [hva_] at ge399_1; rw [hvc_] at ul399_1; have HL399_1 := aM (show Kd.V (Kd.int .u8) 5 _ w.heap.size _ _ ((Zo l0_0 a1).f1) from Kd.V_mk ul399_1 ge399_1); clear hva_ hvn_ hvc_ ge399_1 ul399_1; clear hcc399 hce399; have HR399_0 := aM hi399_0; have HC399_0 := aM hl399_0; clear hi399_0 hl399_0; have HR399_1 := aM hi399_1; have HC399_1 := aM hl399_1; clear hi399_1 hl399_1; replace p399 := eq_true p399; replace q399 := eq_true q399) | ((with_reducible refine Z7 (N := 8) rfl ?_); refine Z4 ?hg (N := 8) ?hd (cs := #[.slice none 0 0, .slice none 0 0]) (t := 48) ?hr ?_; (case hd => rfl); (case hg => rfl); (case hr => first | (go_simp; done) | (go_simp; rfl)); intro gb400 hg w29 hbox hb; have n0_ := aM (Kd.Y0 (Kd.Yx (by (with_reducible repeat first | apply Kd.Zv | apply Kd.Zu | apply Kd.Z0); exact HO0_0.out) gb400 (Nat.le_of_eq hg.symm)) hb); have n1_ := aM (Kd.Y0 (Kd.Yx (by (with_reducible repeat first | apply Kd.Zv | apply Kd.Zu | apply Kd.Z0); exact HL399_0.out) gb400 (Nat.le_of_eq hg.symm)) hb); have n2_ := aM (Kd.Y0 (Kd.Yx (by (with_reducible repeat first | apply Kd.Zv | apply Kd.Zu | apply Kd.Z0); exact HL399_1.out) gb400 (Nat.le_of_eq hg.symm)) hb); have n3_ := aM (Zf (g := gb396) (o := .cells #[.slice (some ad399) l0_0.length c0_0] 24 (0, 0)) (by (with_reducible repeat first | apply bN | apply bD | apply bA); exact BK396.out) hb); have n4_ := aM (Zf (g := gb397) (o := .cells #[.slice none 0 0] 24 (0, 0)) (by (with_reducible repeat first | apply bN | apply bD | apply bA); exact BK397.out) hb); have n5_ := aM (Kd.Yv (by repeat (first | (with_reducible exact HR399_0.out) | (with_reducible refine Kd.Yh ?_ _) | (with_reducible refine Kd.Yg ?_ _) | (with_reducible refine Kd.Yw ?_) | exact HR399_0.out)) hb); have n6_ := aM (Kd.Yv (by repeat (first | (with_reducible exact HR399_1.out) | (with_reducible refine Kd.Yh ?_ _) | (with_reducible refine Kd.Yg ?_ _) | (with_reducible refine Kd.Yw ?_) | exact HR399_1.out)) hb); have n7_ := aM (Zj (by repeat (first | (with_reducible first | exact HB.out | apply wA | apply wN | apply wD | refine Za ?_ GE396.out | refine Za ?_ GE397.out) | exact HB.out)) hb); have n8_ := aM (hbox); have n9_ := aM ((by rw [hg]; exact (Zd (by repeat (first | (with_reducible first | exact HB.out | apply wA | apply wN | apply wD | refine Za ?_ GE396.out | refine Za ?_ GE397.out) | exact HB.out))) : w.heap.size ≤ gb400)); have n10_ := aM ((by rw [hg]; exact (Zd (by repeat (first | (with_reducible first | exact HB.out | apply wA | apply wN | apply wD | refine Za ?_ GE396.out | refine Za ?_ GE397.out) | exact HB.out))) : w.heap.size ≤ gb400)); have n11_ := aM ((by rw [hg]; exact Nat.ne_of_lt (Ya (g := gb396) (o := .cells #[.slice (some ad399) l0_0.length c0_0] 24 (0, 0)) (by (with_reducible repeat first | apply bN | apply bD | apply bA); exact BK396.out)) : gb396 ≠ gb400)); have n12_ := aM ((by rw [hg]; exact Nat.ne_of_gt (Ya (g := gb396) (o := .cells #[.slice (some ad399) l0_0.length c0_0] 24 (0, 0)) (by (with_reducible repeat first | apply bN | apply bD | apply bA); exact BK396.out)) : gb400 ≠ gb396)); have n13_ := aM ((by rw [hg]; exact Nat.ne_of_lt (Ya (g := gb397) (o := .cells #[.slice none 0 0] 24 (0, 0)) (by (with_reducible repeat first | apply bN | apply bD | apply bA); exact BK397.out)) : gb397 ≠ gb400)); have n14_ := aM ((by rw [hg]; exact Nat.ne_of_gt (Ya (g := gb397) (o := .cells #[.slice none 0 0] 24 (0, 0)) (by (with_reducible repeat first | apply bN | apply bD | apply bA); exact BK397.out)) : gb400 ≠ gb397)); clear HO0_0 HL399_0 HL399_1 BK396 BK397 HR399_0 HR399_1 HB; have HO0_0 := n0_; have HL399_0 := n1_; have HL399_1 := n2_; have BK396 := n3_; have BK397 := n4_; have HR399_0 := n5_; have HR399_1 := n6_; have HB := n7_; have BK400 := n8_; have GW400 := n9_; have GE400 := n10_; have NB396_400 := n11_; have NB400_396 := n12_; have NB397_400 := n13_; have NB400_397 := n14_; clear n0_ n1_ n2_ n3_ n4_ n5_ n6_ n7_ n8_ n9_ n10_ n11_ n12_ n13_ n14_; clear hb hbox hg; have hnb30 := NB400_396.out; have hnc30 := NB396_400.out; have hnb31 := NB400_397.out; have hnc31 := NB397_400.out; have hcz32_0 : w29.cell? ⟨gb400, 0, none⟩ = some (.slice none 0 0) := (Ze BK400.out 0).trans rfl; have hcz32_1 : w29.cell? ⟨gb400, 1, none⟩ = some (.slice none 0 0) := (Ze BK400.out 1).trans rfl; have hfz32_0 := Zg BK400.out 0; have hfz32_1 := Zg BK400.out 1) | ((with_reducible refine Zbt (b := .append) (xs := #[(.const (.slice none 0 0)), .tmp 32]) rfl ?_); at_builtin; refine Kd.Zbp (Kd.int .u8) (w0 := w) w.heap.size rfl (.const (.slice none 0 0)) (.tmp 32) 30 5 (.int .u8 0) 1 rfl Try.underlying30 info5 rfl (by decide) (by omega) (.slice none 0 0) ([] : List Int) ((Zo l0_0 a1).f1) _ _ _ (fun k_ => (w.heap.size ≤ k_)) (fun _ => False) rfl rfl ?aO ?aR (fun _ _ h => h) (fun _ h => h.elim) ?aF ?aB ?aS ?aL ?_; (case aR => repeat (first | exact ((Kd.Zae (by (with_reducible repeat first | apply Kd.Zv | apply Kd.Zu | apply Kd.Z0); exact (Kd.Yd (Kd.Zbi (p := ⟨gb400, 1, none⟩) (Kd.Zbi (p := ⟨gb400, 0, none⟩) (Kd.Yd HL399_1.out (fun k_ hk => (⟨hk, hk.2⟩ : _ ∧ k_ ≠ gb400))) (fun _ hk => hk.2) (.slice A399_0 ((Zo l0_0 a1).f0).length c399_0)) (fun _ hk => hk.2) (.slice A399_1 ((Zo l0_0 a1).f1).length c399_1)) (fun _ h_ => h_.1)))).2.2) | (with_reducible refine Kd.Yh ?_ _) | (with_reducible refine Kd.Yg ?_ _) | (with_reducible refine Kd.Yw ?_))); (case aB => exact (by repeat (first | (with_reducible first | exact HB.out | apply wA | apply wN | apply wD | refine Za ?_ GE396.out | refine Za ?_ GE397.out | refine Za ?_ GE400.out) | exact HB.out))); (case aF => exact (fun k_ hk => (Nat.le_trans (Zd (by repeat (first | (with_reducible first | exact HB.out | apply wA | apply wN | apply wD | refine Za ?_ GE396.out | refine Za ?_ GE397.out | refine Za ?_ GE400.out) | exact HB.out))) hk))); (case aO => exact ((Kd.Zbx _ _ _ _ (fun k_ => (w.heap.size ≤ k_))))); (case aS => exact (Zd (by repeat (first | (with_reducible first | exact HB.out | apply wA | apply wN | apply wD | refine Za ?_ GE396.out | refine Za ?_ GE397.out | refine Za ?_ GE400.out) | exact HB.out)))); (case aL => have := LMc20.out; omega); intro v402 w33 ho hb hg hat; rw [← Ny401.out] at ho; have n0_ := aM (Kd.Zb8 (Kd.Zca (by (with_reducible repeat first | apply Kd.Zv | apply Kd.Zu | apply Kd.Z0); exact (Kd.Yd (Kd.Zbi (p := ⟨gb400, 1, none⟩) (Kd.Zbi (p := ⟨gb400, 0, none⟩) (Kd.Yd HO0_0.out (fun k_ hk => (⟨hk, hk.2⟩ : _ ∧ k_ ≠ gb400))) (fun _ hk => hk.2) (.slice A399_0 ((Zo l0_0 a1).f0).length c399_0)) (fun _ hk => hk.2) (.slice A399_1 ((Zo l0_0 a1).f1).length c399_1)) (fun _ h_ => h_.1)))) hg hat); have n1_ := aM (Yc (g := gb396) (o := .cells #[.slice (some ad399) l0_0.length c0_0] 24 (0, 0)) (by (with_reducible repeat first | apply bN | apply bD | apply bA); refine Z8 ?_ NB396_400.out _; (with_reducible repeat first | apply bN | apply bD | apply bA); refine Z8 ?_ NB396_400.out _; (with_reducible repeat first | apply bN | apply bD | apply bA); exact BK396.out) hg (by simp [Value.ownBlock])); have n2_ := aM (Yc (g := gb397) (o := .cells #[.slice none 0 0] 24 (0, 0)) (by (with_reducible repeat first | apply bN | apply bD | apply bA); refine Z8 ?_ NB397_400.out _; (with_reducible repeat first | apply bN | apply bD | apply bA); refine Z8 ?_ NB397_400.out _; (with_reducible repeat first | apply bN | apply bD | apply bA); exact BK397.out) hg (by simp [Value.ownBlock])); have n3_ := aM (Kd.Zb8 (Kd.Zca (by (with_reducible repeat first | apply Kd.Zv | apply Kd.Zu | apply Kd.Z0); exact (Kd.Yd (Kd.Zbi (p := ⟨gb400, 1, none⟩) (Kd.Zbi (p := ⟨gb400, 0, none⟩) (Kd.Yd HL399_0.out (fun k_ hk => (⟨hk, hk.2⟩ : _ ∧ k_ ≠ gb400))) (fun _ hk => hk.2) (.slice A399_0 ((Zo l0_0 a1).f0).length c399_0)) (fun _ hk => hk.2) (.slice A399_1 ((Zo l0_0 a1).f1).length c399_1)) (fun _ h_ => h_.1)))) hg hat); have n4_ := aM (Kd.Zb8 (Kd.Zca (by (with_reducible repeat first | apply Kd.Zv | apply Kd.Zu | apply Kd.Z0); exact (Kd.Yd (Kd.Zbi (p := ⟨gb400, 1, none⟩) (Kd.Zbi (p := ⟨gb400, 0, none⟩) (Kd.Yd HL399_1.out (fun k_ hk => (⟨hk, hk.2⟩ : _ ∧ k_ ≠ gb400))) (fun _ hk => hk.2) (.slice A399_0 ((Zo l0_0 a1).f0).length c399_0)) (fun _ hk => hk.2) (.slice A399_1 ((Zo l0_0 a1).f1).length c399_1)) (fun _ h_ => h_.1)))) hg hat); have n5_ := aM (Yc (g := gb400) (o := .cells #[.slice A399_0 ((Zo l0_0 a1).f0).length c399_0, .slice A399_1 ((Zo l0_0 a1).f1).length c399_1] 48 (0, 0)) (by (with_reducible repeat first | apply bN | apply bD | apply bA); refine Yo (cs := #[.slice A399_0 ((Zo l0_0 a1).f0).length c399_0, .slice none 0 0]) ?_ 1 _ rfl; (with_reducible repeat first | apply bN | apply bD | apply bA); refine Yo (cs := #[.slice none 0 0, .slice none 0 0]) ?_ 0 _ rfl; (with_reducible repeat first | apply bN | apply bD | apply bA); exact BK400.out) hg (by simp [Value.ownBlock])); have n6_ := aM (hb); have n7_ := aM (ho); clear HO0_0 BK396 BK397 HL399_0 HL399_1 BK400 HB; have HO0_0 := n0_; have BK396 := n1_; have BK397 := n2_; have HL399_0 := n3_; have HL399_1 := n4_; have BK400 := n5_; have HB := n6_; have HO403 := n7_; clear n0_ n1_ n2_ n3_ n4_ n5_ n6_ n7_; clear ho hb hg hat) | ((with_reducible refine Zbt (b := .append) (xs := #[(.tmp 33), .tmp 34]) rfl ?_); at_builtin; refine Kd.Zbp (Kd.int .u8) (w0 := w) w.heap.size rfl (.tmp 33) (.tmp 34) 30 5 (.int .u8 0) 1 rfl Try.underlying30 info5 rfl (by decide) (by omega) v402 y401 l2 _ _ _ (fun k_ => (w.heap.size ≤ k_)) (fun _ => False) rfl rfl ?aO ?aR (fun _ _ h => h) (fun _ h => h.elim) ?aF ?aB ?aS ?aL ?_; (case aR => repeat (first | exact (Kd.Yv HR2.out HB.out) | (with_reducible refine Kd.Yh ?_ _) | (with_reducible refine Kd.Yg ?_ _) | (with_reducible refine Kd.Yw ?_))); (case aB => exact (by repeat (first | (with_reducible first | exact HB.out | apply wA | apply wN | apply wD | refine Za ?_ GE396.out | refine Za ?_ GE397.out | refine Za ?_ GE400.out) | exact HB.out))); (case aF => exact (fun k_ hk => (Nat.le_trans (Zd (by repeat (first | (with_reducible first | exact HB.out | apply wA | apply wN | apply wD | refine Za ?_ GE396.out | refine Za ?_ GE397.out | refine Za ?_ GE400.out) | exact HB.out))) hk))); (case aO => exact (by (with_reducible repeat first | apply Kd.Zab | apply Kd.Yu | apply Kd.Zai); exact HO403.out)); (case aS => exact (Zd (by repeat (first | (with_reducible first | exact HB.out | apply wA | apply wN | apply wD | refine Za ?_ GE396.out | refine Za ?_ GE397.out | refine Za ?_ GE400.out) | exact HB.out)))); (case aL => have := LMc21.out; omega); intro v405 w34 ho hb hg hat; rw [← Ny404.out] at ho; have n0_ := aM (Kd.Zb8 (ok := (fun k_ => (P0_0_ k_ ∨ w.heap.size ≤ k_) ∧ k_ ≠ gb396 ∧ k_ ≠ gb397 ∧ k_ ≠ gb400)) (by (with_reducible repeat first | apply Kd.Zv | apply Kd.Zu | apply Kd.Z0); exact Kd.Yd HO0_0.out (fun _ hk => ⟨⟨hk.1.1.1.1, ⟨hk.1.1.1.2, ⟨hk.1.1.2, hk.1.2⟩⟩⟩, hk.2⟩)) hg hat); have n1_ := aM (Yc (g := gb396) (o := .cells #[.slice (some ad399) l0_0.length c0_0] 24 (0, 0)) (by (with_reducible repeat first | apply bN | apply bD | apply bA); exact BK396.out) hg (Kd.R_ne HO403.out BK396.out (by decide))); have n2_ := aM (Yc (g := gb397) (o := .cells #[.slice none 0 0] 24 (0, 0)) (by (with_reducible repeat first | apply bN | apply bD | apply bA); exact BK397.out) hg (Kd.R_ne HO403.out BK397.out (by decide))); have n3_ := aM (Kd.Zb8 (ok := (fun k_ => (P0_0_ k_ ∨ w.heap.size ≤ k_) ∧ k_ ≠ gb396 ∧ k_ ≠ gb397 ∧ k_ ≠ gb400)) (by (with_reducible repeat first | apply Kd.Zv | apply Kd.Zu | apply Kd.Z0); exact Kd.Yd HL399_0.out (fun _ hk => ⟨⟨hk.1.1.1.1, ⟨hk.1.1.1.2, ⟨hk.1.1.2, hk.1.2⟩⟩⟩, hk.2⟩)) hg hat); have n4_ := aM (Kd.Zb8 (ok := (fun k_ => (P0_0_ k_ ∨ w.heap.size ≤ k_) ∧ k_ ≠ gb396 ∧ k_ ≠ gb397 ∧ k_ ≠ gb400)) (by (with_reducible repeat first | apply Kd.Zv | apply Kd.Zu | apply Kd.Z0); exact Kd.Yd HL399_1.out (fun _ hk => ⟨⟨hk.1.1.1.1, ⟨hk.1.1.1.2, ⟨hk.1.1.2, hk.1.2⟩⟩⟩, hk.2⟩)) hg hat); have n5_ := aM (Yc (g := gb400) (o := .cells #[.slice A399_0 ((Zo l0_0 a1).f0).length c399_0, .slice A399_1 ((Zo l0_0 a1).f1).length c399_1] 48 (0, 0)) (by (with_reducible repeat first | apply bN | apply bD | apply bA); exact BK400.out) hg (Kd.R_ne HO403.out BK400.out (by decide))); have n6_ := aM (hb); have n7_ := aM (ho); clear HO0_0 BK396 BK397 HL399_0 HL399_1 BK400 HB HO403; have HO0_0 := n0_; have BK396 := n1_; have BK397 := n2_; have HL399_0 := n3_; have HL399_1 := n4_; have BK400 := n5_; have HB := n6_; have HO406 := n7_; clear n0_ n1_ n2_ n3_ n4_ n5_ n6_ n7_; clear ho hb hg hat; obtain ⟨Ao35, co35, eo35⟩ := Kd.Za2 HO406.out; subst eo35; have hcz36_0 : w34.cell? ⟨gb400, 0, none⟩ = some (.slice A399_0 ((Zo l0_0 a1).f0).length c399_0) := (Ze BK400.out 0).trans rfl; have hcz36_1 : w34.cell? ⟨gb400, 1, none⟩ = some (.slice A399_1 ((Zo l0_0 a1).f1).length c399_1) := (Ze BK400.out 1).trans rfl; have hfz36_0 := Zg BK400.out 0; have hfz36_1 := Zg BK400.out 1) | ((with_reducible refine Zbm (t := 30) (p := 36) rfl ?_); refine Zbh (t := 30) (p := 36) (v := ?vo_w37) (w1 := (w34.setCell ⟨gb400, 1, none⟩ (.slice Ao35 y404.length co35))) ?hg ?ho ?hn ?hr ?_; (case ho => rfl); (case hg => rfl); (case hn => rfl); (case hr => first | (go_simp; done) | (go_simp; rfl)); intro w37 hw; have n0_ : Zq (Kd.V k48 48 w37 w.heap.size (fun k_ => (P0_0_ k_ ∨ w.heap.size ≤ k_) ∧ some k_ ≠ (.slice Ao35 y404.length co35 : Value).ownBlock ∧ k_ ≠ gb396 ∧ k_ ≠ gb397 ∧ k_ ≠ gb400) (.slice (some ad399) l0_0.length c0_0) l0_0) := ⟨(by rw [hw]; exact (by (with_reducible repeat first | apply Kd.Zv | apply Kd.Zu | apply Kd.Z0); exact Kd.Yd (Kd.Zbi (p := ⟨gb400, 1, none⟩) (Kd.Yd HO0_0.out (fun k_ hk => (⟨hk, hk.1.2.2.2⟩ : _ ∧ k_ ≠ gb400))) (fun _ hk => hk.2) (.slice Ao35 y404.length co35)) (fun _ hk => ⟨hk.1.1.1, ⟨hk.1.2, ⟨hk.1.1.2.1, ⟨hk.1.1.2.2.1, hk.1.1.2.2.2⟩⟩⟩⟩)))⟩; have n1_ : Zq (Kd.V (Kd.int .u8) 5 w37 w.heap.size (fun k_ => (P0_0_ k_ ∨ w.heap.size ≤ k_) ∧ some k_ ≠ (.slice Ao35 y404.length co35 : Value).ownBlock ∧ k_ ≠ gb396 ∧ k_ ≠ gb397 ∧ k_ ≠ gb400) (.slice A399_0 ((Zo l0_0 a1).f0).length c399_0) ((Zo l0_0 a1).f0)) := ⟨(by rw [hw]; exact (by (with_reducible repeat first | apply Kd.Zv | apply Kd.Zu | apply Kd.Z0); exact Kd.Yd (Kd.Zbi (p := ⟨gb400, 1, none⟩) (Kd.Yd HL399_0.out (fun k_ hk => (⟨hk, hk.1.2.2.2⟩ : _ ∧ k_ ≠ gb400))) (fun _ hk => hk.2) (.slice Ao35 y404.length co35)) (fun _ hk => ⟨hk.1.1.1, ⟨hk.1.2, ⟨hk.1.1.2.1, ⟨hk.1.1.2.2.1, hk.1.1.2.2.2⟩⟩⟩⟩)))⟩; have n2_ : Zq (Kd.V (Kd.int .u8) 5 w37 w.heap.size (fun k_ => (P0_0_ k_ ∨ w.heap.size ≤ k_) ∧ some k_ ≠ (.slice Ao35 y404.length co35 : Value).ownBlock ∧ k_ ≠ gb396 ∧ k_ ≠ gb397 ∧ k_ ≠ gb400) (.slice A399_1 ((Zo l0_0 a1).f1).length c399_1) ((Zo l0_0 a1).f1)) := ⟨(by rw [hw]; exact (by (with_reducible repeat first | apply Kd.Zv | apply Kd.Zu | apply Kd.Z0); exact Kd.Yd (Kd.Zbi (p := ⟨gb400, 1, none⟩) (Kd.Yd HL399_1.out (fun k_ hk => (⟨hk, hk.1.2.2.2⟩ : _ ∧ k_ ≠ gb400))) (fun _ hk => hk.2) (.slice Ao35 y404.length co35)) (fun _ hk => ⟨hk.1.1.1, ⟨hk.1.2, ⟨hk.1.1.2.1, ⟨hk.1.1.2.2.1, hk.1.1.2.2.2⟩⟩⟩⟩)))⟩; have n3_ : Zq (Kd.R (Kd.int .u8) 5 w37 w.heap.size (fun k_ => (w.heap.size ≤ k_)) (.slice Ao35 y404.length co35) y404) := ⟨(by rw [hw]; exact (by (with_reducible repeat first | apply Kd.Zab | apply Kd.Yu | apply Kd.Zai); exact Kd.Zar (Kd.R_far (p := ⟨gb400, 1, none⟩) (Kd.Zaf HO406.out BK400.out (by decide)) (fun _ hk => hk.2) (.slice Ao35 y404.length co35)) (fun _ hk => hk.1)))⟩; have n4_ : Zq (w37.heap[gb396]? = some (.cells #[.slice (some ad399) l0_0.length c0_0] 24 (0, 0))) := ⟨(by rw [hw]; exact (by (with_reducible repeat first | apply bN | apply bD | apply bA); refine Z8 ?_ NB396_400.out _; (with_reducible repeat first | apply bN | apply bD | apply bA); exact BK396.out))⟩; have n5_ : Zq (w37.heap[gb397]? = some (.cells #[.slice none 0 0] 24 (0, 0))) := ⟨(by rw [hw]; exact (by (with_reducible repeat first | apply bN | apply bD | apply bA); refine Z8 ?_ NB397_400.out _; (with_reducible repeat first | apply bN | apply bD | apply bA); exact BK397.out))⟩; have n6_ : Zq (w37.heap[gb400]? = some (.cells #[.slice A399_0 ((Zo l0_0 a1).f0).length c399_0, .slice Ao35 y404.length co35] 48 (0, 0))) := ⟨(by rw [hw]; exact (by (with_reducible repeat first | apply bN | apply bD | apply bA); refine Yo (cs := #[.slice A399_0 ((Zo l0_0 a1).f0).length c399_0, .slice A399_1 ((Zo l0_0 a1).f1).length c399_1]) ?_ 1 _ rfl; (with_reducible repeat first | apply bN | apply bD | apply bA); exact BK400.out))⟩; have n7_ : Zq (Below w.heap.size w w37) := ⟨(by rw [hw]; exact (by repeat (first | (with_reducible first | exact HB.out | apply wA | apply wN | apply wD | refine Za ?_ GE396.out | refine Za ?_ GE397.out | refine Za ?_ GE400.out) | exact HB.out)))⟩; clear hw HO0_0 HL399_0 HL399_1 HO406 BK396 BK397 BK400 HB; have HO0_0 := n0_; have HL399_0 := n1_; have HL399_1 := n2_; have HO406 := n3_; have BK396 := n4_; have BK397 := n5_; have BK400 := n6_; have HB := n7_; clear n0_ n1_ n2_ n3_ n4_ n5_ n6_ n7_; have hcz38_0 : w37.cell? ⟨gb396, 0, none⟩ = some (.slice (some ad399) l0_0.length c0_0) := (Ze BK396.out 0).trans rfl; have hfz38_0 := Zg BK396.out 0; have hcz39_0 : w37.cell? ⟨gb400, 0, none⟩ = some (.slice A399_0 ((Zo l0_0 a1).f0).length c399_0) := (Ze BK400.out 0).trans rfl; have hcz39_1 : w37.cell? ⟨gb400, 1, none⟩ = some (.slice Ao35 y404.length co35) := (Ze BK400.out 1).trans rfl; have hfz39_0 := Zg BK400.out 0; have hfz39_1 := Zg BK400.out 1) | ((with_reducible refine Yf (f := 40) rfl ?_); refine Zap (some 40) rfl rfl Try.func40 (by kernel_rfl) rfl #[.agg #[.slice (some ad399) l0_0.length c0_0], .int .i64 a1, .agg #[.slice A399_0 ((Zo l0_0 a1).f0).length c399_0, .slice Ao35 y404.length co35]] rfl (by (try simp only [Qi, Qj, Qk]); first | done | rfl | (simp only [Qe, Qd]; rfl)) ?_; (with_reducible refine (Yi.calls (fun k_ => ((P0_0_ k_ ∨ w.heap.size ≤ k_) ∧ (some k_ ≠ (.slice Ao35 y404.length co35 : Value).ownBlock ∧ (k_ ≠ gb396 ∧ (k_ ≠ gb397 ∧ k_ ≠ gb400))))) _ _ l0_0 a1 (fun k_ => ((P0_0_ k_ ∨ w.heap.size ≤ k_) ∧ (some k_ ≠ (.slice Ao35 y404.length co35 : Value).ownBlock ∧ (k_ ≠ gb396 ∧ (k_ ≠ gb397 ∧ k_ ≠ gb400))))) _ _ ((Zo l0_0 a1).f0) (fun k_ => some k_ = (.slice Ao35 y404.length co35 : Value).ownBlock) _ _ y404 t407 _ ?side1 ?side2 ?side3 A22.out).mono ?_); (case side1 => exact HO0_0.out); (case side2 => exact HL399_0.out); (case side3 => exact Kd.R_V (Kd.Zcu rfl (Kd.Zaf (Kd.Zaf (Kd.Zaf (HO406.out) BK396.out (by decide)) BK397.out (by decide)) BK400.out (by decide)))); rintro e w40 ⟨v408, rfl, ho0, hb⟩; refine ⟨_, rfl, ?_⟩; have n0_ := aM (Kd.Zag (by (with_reducible repeat first | apply Kd.Zv | apply Kd.Zu | apply Kd.Z0); exact HO0_0.out) (by first | exact Kd.Y1 ho0 | exact Kd.Y1 (Kd.S_N ho0)) hb); have n1_ := aM (Kd.Zag (by (with_reducible repeat first | apply Kd.Zv | apply Kd.Zu | apply Kd.Z0); exact HL399_0.out) (by first | exact Kd.Y1 ho0 | exact Kd.Y1 (Kd.S_N ho0)) hb); have n2_ := aM (Kd.Zag (by (with_reducible repeat first | apply Kd.Zv | apply Kd.Zu | apply Kd.Z0); exact HL399_1.out) (by first | exact Kd.Y1 ho0 | exact Kd.Y1 (Kd.S_N ho0)) hb); have n3_ := aM (Kd.Zci (by (with_reducible repeat first | apply Kd.Zab | apply Kd.Yu | apply Kd.Zai); exact HO406.out) hb); have n4_ := aM (Kd.Zbr (Kd.Yr (ok' := fun k_ => (P0_0_ k_ ∨ w.heap.size ≤ k_) ∧ k_ ≠ gb396 ∧ k_ ≠ gb397 ∧ k_ ≠ gb400) ho0 (fun k_ hk_ => ⟨Or.elim hk_ (fun hs_ => Or.elim hs_ (fun hs_ => hs_.1) (fun hs_ => Or.elim hs_ (fun hs_ => hs_.1) (fun hs_ => (.inr (((Kd.Zaf (Kd.Zaf (Kd.Zaf (HO406.out) BK396.out (by decide)) BK397.out (by decide)) BK400.out (by decide)).1 k_ hs_.symm).1.1.1))))) (fun hn_ => (.inr (Nat.le_trans (Zd (by repeat (first | (with_reducible first | exact HB.out | apply wA | apply wN | apply wD | refine Za ?_ GE396.out | refine Za ?_ GE397.out | refine Za ?_ GE400.out) | exact HB.out))) hn_))), Or.elim hk_ (fun hs_ => Or.elim hs_ (fun hs_ => hs_.2.2.1) (fun hs_ => Or.elim hs_ (fun hs_ => hs_.2.2.1) (fun hs_ => ((Kd.Zaf (Kd.Zaf (Kd.Zaf (HO406.out) BK396.out (by decide)) BK397.out (by decide)) BK400.out (by decide)).1 k_ hs_.symm).1.1.2))) (fun hn_ => (Kd.Y6 (g := gb396) (o := .cells #[.slice (some ad399) l0_0.length c0_0] 24 (0, 0)) (by (with_reducible repeat first | apply bN | apply bD | apply bA); exact BK396.out) k_ hn_)), Or.elim hk_ (fun hs_ => Or.elim hs_ (fun hs_ => hs_.2.2.2.1) (fun hs_ => Or.elim hs_ (fun hs_ => hs_.2.2.2.1) (fun hs_ => ((Kd.Zaf (Kd.Zaf (Kd.Zaf (HO406.out) BK396.out (by decide)) BK397.out (by decide)) BK400.out (by decide)).1 k_ hs_.symm).1.2))) (fun hn_ => (Kd.Y6 (g := gb397) (o := .cells #[.slice none 0 0] 24 (0, 0)) (by (with_reducible repeat first | apply bN | apply bD | apply bA); exact BK397.out) k_ hn_)), Or.elim hk_ (fun hs_ => Or.elim hs_ (fun hs_ => hs_.2.2.2.2) (fun hs_ => Or.elim hs_ (fun hs_ => hs_.2.2.2.2) (fun hs_ => ((Kd.Zaf (Kd.Zaf (Kd.Zaf (HO406.out) BK396.out (by decide)) BK397.out (by decide)) BK400.out (by decide)).1 k_ hs_.symm).2))) (fun hn_ => (Kd.Y6 (g := gb400) (o := .cells #[.slice A399_0 ((Zo l0_0 a1).f0).length c399_0, .slice Ao35 y404.length co35] 48 (0, 0)) (by (with_reducible repeat first | apply bN | apply bD | apply bA); exact BK400.out) k_ hn_))⟩)) (Zd (by repeat (first | (with_reducible first | exact HB.out | apply wA | apply wN | apply wD | refine Za ?_ GE396.out | refine Za ?_ GE397.out | refine Za ?_ GE400.out) | exact HB.out)))); have n5_ := aM (Zf (g := gb396) (o := .cells #[.slice (some ad399) l0_0.length c0_0] 24 (0, 0)) (by (with_reducible repeat first | apply bN | apply bD | apply bA); exact BK396.out) hb); have n6_ := aM (Zf (g := gb397) (o := .cells #[.slice none 0 0] 24 (0, 0)) (by (with_reducible repeat first | apply bN | apply bD | apply bA); exact BK397.out) hb); have n7_ := aM (Zf (g := gb400) (o := .cells #[.slice A399_0 ((Zo l0_0 a1).f0).length c399_0, .slice Ao35 y404.length co35] 48 (0, 0)) (by (with_reducible repeat first | apply bN | apply bD | apply bA); exact BK400.out) hb); have n8_ := aM (Zj (by repeat (first | (with_reducible first | exact HB.out | apply wA | apply wN | apply wD | refine Za ?_ GE396.out | refine Za ?_ GE397.out | refine Za ?_ GE400.out) | exact HB.out)) hb); clear HO0_0 HL399_0 HL399_1 HO406 BK396 BK397 BK400 HB; have HO0_0 := n0_; have HL399_0 := n1_; have HL399_1 := n2_; have HO406 := n3_; have HO409 := n4_; have BK396 := n5_; have BK397 := n6_; have BK400 := n7_; have HB := n8_; clear n0_ n1_ n2_ n3_ n4_ n5_ n6_ n7_ n8_; (try clear hb); (try clear hb2); (try clear hk); (try clear hi); (try clear hge_); (try clear ho0); obtain ⟨Ao41, co41, eo41⟩ := Kd.Zbj HO409.out; subst eo41; have hcz42_0 : w40.cell? ⟨gb397, 0, none⟩ = some (.slice none 0 0) := (Ze BK397.out 0).trans rfl; have hfz42_0 := Zg BK397.out 0))
       refine bodyPost_ret (Zau rfl _ _ gb397 24 #[.slice Ao41 t407.length co41] (0, 0) _ rfl (by (with_reducible repeat first | apply bN | apply bD | apply bA); refine Yo (cs := #[.slice none 0 0]) ?_ 0 _ rfl; (with_reducible repeat first | apply bN | apply bD | apply bA); exact BK397.out) Try.underlying24 rfl (by kernel_rfl)) rfl ?_
       exact ⟨_, by first | rfl | (simp [Zy, Zx] <;> rfl) | (simp [*, Zy, Zx] <;> rfl), by (with_reducible repeat first | apply Kd.Ym | apply Kd.Yl | apply Kd.Yy); exact Kd.Yr (Kd.Zby (p := ⟨gb397, 0, none⟩) (Kd.Yr HO409.out (fun k_ hk => (⟨hk, hk.2.2.1⟩ : _ ∧ k_ ≠ gb397))) (fun _ hk => hk.2) (.slice Ao41 t407.length co41)) (fun _ hk => hk.1.1), by repeat (first | (with_reducible first | exact HB.out | apply wA | apply wN | apply wD | refine Za ?_ GE396.out | refine Za ?_ GE397.out | refine Za ?_ GE400.out) | exact HB.out)⟩
      ·rw [if_neg c21] at H
       exact absurd H (by simp)
     ·rw [if_neg c20] at H
      exact absurd H (by simp)
   ·rw [if_neg c7] at H
    exact absurd H (by simp)
  ·rw [if_neg c6] at H
   exact absurd H (by simp)
 ·replace c5 := Bool.eq_false_iff.mpr c5
  subst c5
  have H1 : (some (([] : List (S48)), 11)) = some (r1, r2) := by rw [if_neg (show ¬ (false = true) by decide)] at H; exact H
  clear H
  have H := H1
  clear H1
  simp only [Option.some.injEq, Prod.mk.injEq] at H
  obtain ⟨rfl, rfl⟩ := H
  go_enter Try.func31, Try.ntmps31
  go_wp2_with (first | ((with_reducible refine Z7 (N := 3) rfl ?_); refine Z4 ?hg (N := 3) ?hd (cs := #[.slice A0_0 l0_0.length c0_0]) (t := 24) ?hr ?_; (case hd => rfl); (case hg => rfl); (case hr => first | (go_simp; done) | (go_simp; rfl)); intro gb396 hg w43 hbox hb; have n0_ := aM (Kd.Y0 (Kd.Yx (by (with_reducible repeat first | apply Kd.Zv | apply Kd.Zu | apply Kd.Z0); exact HO0_0.out) gb396 (Nat.le_of_eq hg.symm)) hb); have n1_ := aM (Zj (by repeat (first | (with_reducible first | exact HB.out | apply wA | apply wN | apply wD) | exact HB.out)) hb); have n2_ := aM (hbox); have n3_ := aM ((by rw [hg]; exact (Zd (by repeat (first | (with_reducible first | exact HB.out | apply wA | apply wN | apply wD) | exact HB.out))) : w.heap.size ≤ gb396)); have n4_ := aM ((by rw [hg]; exact (Zd (by repeat (first | (with_reducible first | exact HB.out | apply wA | apply wN | apply wD) | exact HB.out))) : w.heap.size ≤ gb396)); clear HO0_0 HB; have HO0_0 := n0_; have HB := n1_; have BK396 := n2_; have GW396 := n3_; have GE396 := n4_; clear n0_ n1_ n2_ n3_ n4_; clear hb hbox hg) | ((with_reducible refine Z7 (N := 6) rfl ?_); refine Z4 ?hg (N := 6) ?hd (cs := #[.slice none 0 0]) (t := 24) ?hr ?_; (case hd => rfl); (case hg => rfl); (case hr => first | (go_simp; done) | (go_simp; rfl)); intro gb397 hg w44 hbox hb; have n0_ := aM (Kd.Y0 (Kd.Yx (by (with_reducible repeat first | apply Kd.Zv | apply Kd.Zu | apply Kd.Z0); exact HO0_0.out) gb397 (Nat.le_of_eq hg.symm)) hb); have n1_ := aM (Zf (g := gb396) (o := .cells #[.slice A0_0 l0_0.length c0_0] 24 (0, 0)) (by (with_reducible repeat first | apply bN | apply bD | apply bA); exact BK396.out) hb); have n2_ := aM (Zj (by repeat (first | (with_reducible first | exact HB.out | apply wA | apply wN | apply wD | refine Za ?_ GE396.out) | exact HB.out)) hb); have n3_ := aM (hbox); have n4_ := aM ((by rw [hg]; exact (Zd (by repeat (first | (with_reducible first | exact HB.out | apply wA | apply wN | apply wD | refine Za ?_ GE396.out) | exact HB.out))) : w.heap.size ≤ gb397)); have n5_ := aM ((by rw [hg]; exact (Zd (by repeat (first | (with_reducible first | exact HB.out | apply wA | apply wN | apply wD | refine Za ?_ GE396.out) | exact HB.out))) : w.heap.size ≤ gb397)); have n6_ := aM ((by rw [hg]; exact Nat.ne_of_lt (Ya (g := gb396) (o := .cells #[.slice A0_0 l0_0.length c0_0] 24 (0, 0)) (by (with_reducible repeat first | apply bN | apply bD | apply bA); exact BK396.out)) : gb396 ≠ gb397)); have n7_ := aM ((by rw [hg]; exact Nat.ne_of_gt (Ya (g := gb396) (o := .cells #[.slice A0_0 l0_0.length c0_0] 24 (0, 0)) (by (with_reducible repeat first | apply bN | apply bD | apply bA); exact BK396.out)) : gb397 ≠ gb396)); clear HO0_0 BK396 HB; have HO0_0 := n0_; have BK396 := n1_; have HB := n2_; have BK397 := n3_; have GW397 := n4_; have GE397 := n5_; have NB396_397 := n6_; have NB397_396 := n7_; clear n0_ n1_ n2_ n3_ n4_ n5_ n6_ n7_; clear hb hbox hg; have hnb45 := NB396_397.out; have hnc45 := NB397_396.out; have hcz46_0 : w44.cell? ⟨gb396, 0, none⟩ = some (.slice A0_0 l0_0.length c0_0) := (Ze BK396.out 0).trans rfl; have hfz46_0 := Zg BK396.out 0) | ((with_reducible refine Yf (f := 39) rfl ?_); refine Zap (some 11) rfl rfl Try.func39 (by kernel_rfl) rfl #[.agg #[.slice A0_0 l0_0.length c0_0], .int .i64 a1] rfl (by (try simp only [Qi, Qj, Qk]); first | done | rfl | (simp only [Qe, Qd]; rfl)) ?_; (with_reducible refine (Yn.calls _ _ l0_0 a1 false _ ?side1 ?side2 A4.out).mono ?_); (case side1 => repeat (first | exact (Kd.Zae HO0_0.out).2.2 | (with_reducible refine Kd.Yh ?_ _) | (with_reducible refine Kd.Yg ?_ _) | (with_reducible refine Kd.Yw ?_))); (case side2 => exact (Kd.Zae HO0_0.out).2.1); rintro e w47 ⟨rfl, hb⟩; refine ⟨_, rfl, ?_⟩; have n0_ := aM (Kd.Y0 (by (with_reducible repeat first | apply Kd.Zv | apply Kd.Zu | apply Kd.Z0); exact HO0_0.out) hb); have n1_ := aM (Zf (g := gb396) (o := .cells #[.slice A0_0 l0_0.length c0_0] 24 (0, 0)) (by (with_reducible repeat first | apply bN | apply bD | apply bA); exact BK396.out) hb); have n2_ := aM (Zf (g := gb397) (o := .cells #[.slice none 0 0] 24 (0, 0)) (by (with_reducible repeat first | apply bN | apply bD | apply bA); exact BK397.out) hb); have n3_ := aM (Zj (by repeat (first | (with_reducible first | exact HB.out | apply wA | apply wN | apply wD | refine Za ?_ GE396.out | refine Za ?_ GE397.out) | exact HB.out)) hb); clear HO0_0 BK396 BK397 HB; have HO0_0 := n0_; have BK396 := n1_; have BK397 := n2_; have HB := n3_; clear n0_ n1_ n2_ n3_; (try clear hb); (try clear hb2); (try clear hk); (try clear hi); (try clear hge_); have hcz48_0 : w47.cell? ⟨gb397, 0, none⟩ = some (.slice none 0 0) := (Ze BK397.out 0).trans rfl; have hfz48_0 := Zg BK397.out 0))
  refine bodyPost_ret (Zau rfl _ _ gb397 24 #[.slice none 0 0] (0, 0) _ rfl (by (with_reducible repeat first | apply bN | apply bD | apply bA); refine Yo (cs := #[.slice none 0 0]) ?_ 0 _ rfl; (with_reducible repeat first | apply bN | apply bD | apply bA); exact BK397.out) Try.underlying24 rfl (by kernel_rfl)) rfl ?_
  exact ⟨_, by first | rfl | (simp [Zy, Zx] <;> rfl) | (simp [*, Zy, Zx] <;> rfl), by first | exact Kd.Zc0 _ _ _ _ _ | exact Kd.Zcw _ _ _ _ _ | exact Kd.Zcr _ _ _ _ _ | exact Kd.Zc1 _ _ _ _ _ | exact Kd.Zbx _ _ _ _ _, by repeat (first | (with_reducible first | exact HB.out | apply wA | apply wN | apply wD | refine Za ?_ GE396.out | refine Za ?_ GE397.out) | exact HB.out)⟩

end Go.Proofs.Ytnfbjdnflifcoaa.PDk

namespace Go.Proofs.Ytnfbjdnflifcoaa.PDk
open Go.RowKit Go.Proofs.YtnfbjdnflifcoaaW.PrintWords Go.Proofs.YtnfbjdnflifcoaaW.PrintLast Go.Proofs.YtnfbjdnflifcoaaW.PrintMore
attribute [local go_sem] Za0 Zay Zbe Zbd Zan Zam Zaz Zax
set_option linter.unusedVariables false
set_option linter.unusedSimpArgs false

def Zaa.f (l0_0 : List Int) (l0_1 : List Int) : Option (List Int) := if ([] : List Int).length + l0_0.length < 140737488355328 then ((some (([] : List Int) ++ l0_0 : List Int)).bind fun y411 => (if y411.length + l0_1.length < 140737488355328 then (some (y411 ++ l0_1)) else (none))) else (none)
set_option maxHeartbeats 8000000 in
set_option maxRecDepth 100000 in
theorem Zaa.calls (A0_0 : Option Addr) (c0_0 : Nat) (l0_0 : List Int) (A0_1 : Option Addr) (c0_1 : Nat) (l0_1 : List Int) (r : List Int) (w : World) (hr0_0 : Kd.C (Kd.int .u8) w A0_0 l0_0.length l0_0) (hc0_0 : l0_0.length ≤ c0_0) (hr0_1 : Kd.C (Kd.int .u8) w A0_1 l0_1.length l0_1) (hc0_1 : l0_1.length ≤ c0_1) (h : Zaa.f l0_0 l0_1 = some r) :
  Calls Try.prog 41 #[.agg #[.slice A0_0 l0_0.length c0_0, .slice A0_1 l0_1.length c0_1]] w fun e w' => ∃ v0_ : Value, e = .returned (v0_) ∧ Kd.R (Kd.int .u8) 5 w' w.heap.size (fun _ => True) v0_ r ∧ Below w.heap.size w w' := by
 have hu48 := Try.underlying48
 have HR0_0 := aM hr0_0
 have HC0_0 := aM hc0_0
 clear hr0_0 hc0_0
 have HR0_1 := aM hr0_1
 have HC0_1 := aM hc0_1
 clear hr0_1 hc0_1
 have HB := aM (Below.refl w.heap.size w)
 have H : (if ([] : List Int).length + l0_0.length < 140737488355328 then ((some (([] : List Int) ++ l0_0 : List Int)).bind fun y411 => (if y411.length + l0_1.length < 140737488355328 then (some (y411 ++ l0_1)) else (none))) else (none)) = some r := h
 clear h
 by_cases c2 : ([] : List Int).length + l0_0.length < 140737488355328
 ·rw [if_pos c2] at H
  have LMc2 := aM c2
  clear c2
  obtain ⟨y411, hy411⟩ : ∃ y_ : List Int, y_ = (([] : List Int) ++ l0_0) := ⟨_, rfl⟩
  replace H : (if y411.length + l0_1.length < 140737488355328 then (some (y411 ++ l0_1)) else (none)) = some r := by first | (rw [hy411]; with_reducible exact H) | (have H2_ := (Option.bind_some _ _).symm.trans H; rw [hy411]; with_reducible exact H2_) | (have H2_ := (Option.bind_some _ _).symm.trans H; with_reducible exact H2_) | with_reducible exact H | (rw [hy411]; exact H) | exact H
  have Ny411 := aM hy411
  clear hy411
  by_cases c3 : y411.length + l0_1.length < 140737488355328
  ·rw [if_pos c3] at H
   have LMc3 := aM c3
   clear c3
   obtain ⟨y414, hy414⟩ : ∃ y_ : List Int, y_ = (y411 ++ l0_1) := ⟨_, rfl⟩
   replace H : (some y414) = some r := by first | (rw [hy414]; with_reducible exact H) | (have H2_ := (Option.bind_some _ _).symm.trans H; rw [hy414]; with_reducible exact H2_) | (have H2_ := (Option.bind_some _ _).symm.trans H; with_reducible exact H2_) | with_reducible exact H | (rw [hy414]; exact H) | exact H
   have Ny414 := aM hy414
   clear hy414
   obtain rfl := Option.some.inj H
   go_enter Try.func41, Try.ntmps41
   try go_wp2_with (first | ((with_reducible refine Z7 (N := 1) rfl ?_); refine Z4 ?hg (N := 1) ?hd (cs := #[.slice A0_0 l0_0.length c0_0, .slice A0_1 l0_1.length c0_1]) (t := 48) ?hr ?_; (case hd => rfl); (case hg => rfl); (case hr => first | (go_simp; done) | (go_simp; rfl)); intro gb410 hg w4 hbox hb; have n0_ := aM (Zj (by repeat (first | (with_reducible first | exact HB.out | apply wA | apply wN | apply wD) | exact HB.out)) hb); have n1_ := aM (hbox); have n2_ := aM ((by rw [hg]; exact (Zd (by repeat (first | (with_reducible first | exact HB.out | apply wA | apply wN | apply wD) | exact HB.out))) : w.heap.size ≤ gb410)); have n3_ := aM ((by rw [hg]; exact (Zd (by repeat (first | (with_reducible first | exact HB.out | apply wA | apply wN | apply wD) | exact HB.out))) : w.heap.size ≤ gb410)); clear HB; have HB := n0_; have BK410 := n1_; have GW410 := n2_; have GE410 := n3_; clear n0_ n1_ n2_ n3_; clear hb hbox hg))
   have n0_ := aM (bD BK410.out)
   have n1_ := aM (wD HB.out)
   clear BK410 HB
   have BK410 := n0_
   have HB := n1_
   clear n0_ n1_
   refine Zb9 (n := 7) (S := fun w' => w'.cell? ⟨gb410, 0, none⟩ = some (.slice A0_0 l0_0.length c0_0) ∧ w'.cell? ⟨gb410, 1, none⟩ = some (.slice A0_1 l0_1.length c0_1)) (ds := []) #[Qf, Qf, Qf, Qf, Qf, Qf, Qf] (by kernel_rfl) rfl rfl ⟨(Ze BK410.out 0).trans rfl, (Ze BK410.out 1).trans rfl⟩ (fun hHeld => ?_)
   generalize w4.drew = w5 at BK410 HB hHeld ⊢
   refine Yq (i := 0) (N := some 3) (v := ?_) (a' := ?_) #[Qt, Qf, Qf, Qf, Qf, Qf, Qf] rfl rfl (by kernel_rfl) (fun _ _ _ h => h) (Or.inl ⟨by rfl, ?_⟩) ?_ ?_
   rotate_left
   ·intro w'
    go_simp
    with_reducible rfl
   rotate_left
   ·simp only [Act.put, Qa, Qb, Qc, Z5, Z6]
    rfl
   refine Yq (i := 3) (N := some 6) (v := ?_) (a' := ?_) #[Qt, Qf, Qf, Qt, Qf, Qf, Qf] rfl rfl (by kernel_rfl) (fun _ _ _ h => h) (Or.inl ⟨by rfl, ?_⟩) ?_ ?_
   rotate_left
   ·intro w'
    go_simp
    with_reducible rfl
   rotate_left
   ·simp only [Act.put, Qa, Qb, Qc, Z5, Z6]
    rfl
   refine Za5 (i := 1) (N := some 4) (v := ?_) (a' := ?_) #[Qt, Qt, Qf, Qt, Qf, Qf, Qf] rfl rfl (by kernel_rfl) (fun _ _ _ h => h) (Or.inl ⟨by rfl, ?_⟩) hHeld ?_ ?_
   rotate_left
   ·rintro w' ⟨s0, s1⟩
    go_simp
    with_reducible rfl
   rotate_left
   ·simp only [Act.put, Qa, Qb, Qc, Z5, Z6]
    rfl
   refine Za5 (i := 4) (N := some 7) (v := ?_) (a' := ?_) #[Qt, Qt, Qf, Qt, Qt, Qf, Qf] rfl rfl (by kernel_rfl) (fun _ _ _ h => h) (Or.inl ⟨by rfl, ?_⟩) hHeld ?_ ?_
   rotate_left
   ·rintro w' ⟨s0, s1⟩
    go_simp
    with_reducible rfl
   rotate_left
   ·simp only [Act.put, Qa, Qb, Qc, Z5, Z6]
    rfl
   refine one_ (i := 2) (N := some 5) #[Qt, Qt, Qt, Qt, Qt, Qf, Qf] rfl rfl (by kernel_rfl) (by decide) (fun K hK => ?_)
   refine Kd.Za8 (Kd.int .u8) (w0 := w) w.heap.size rfl (.const (.slice none 0 0)) (.tmp 4) 30 5 (.int .u8 0) 1 rfl Try.underlying30 info5 rfl (by decide) (by omega) (.slice none 0 0) ([] : List Int) l0_0 _ _ _ (fun _ => True) (fun _ => False) rfl rfl ?aO ?aR (fun _ _ h => h) (fun _ h => h.elim) ?aF ?aB ?aS ?aL ?_
   (case aR => repeat (first | exact (Kd.Yv HR0_0.out HB.out) | (with_reducible refine Kd.Yh ?_ _) | (with_reducible refine Kd.Yg ?_ _) | (with_reducible refine Kd.Yw ?_)))
   (case aB => exact (by repeat (first | (with_reducible first | exact HB.out | apply wA | apply wN | apply wD | refine Za ?_ GE410.out) | exact HB.out)))
   (case aF => exact (fun _ _ => trivial))
   (case aO => exact ((Kd.Zbx _ _ _ _ (fun _ => True))))
   (case aS => exact (Zd (by repeat (first | (with_reducible first | exact HB.out | apply wA | apply wN | apply wD | refine Za ?_ GE410.out) | exact HB.out))))
   (case aL => have := LMc2.out; omega)
   intro v412 w6 ho hb hg hat
   rw [← Ny411.out] at ho
   have n0_ := aM (Yc (g := gb410) (o := .cells #[.slice A0_0 l0_0.length c0_0, .slice A0_1 l0_1.length c0_1] 48 (0, 0)) (by (with_reducible repeat first | apply bN | apply bD | apply bA); exact BK410.out) hg (by simp [Value.ownBlock]))
   have n1_ := aM (hb)
   have n2_ := aM (ho)
   clear BK410 HB
   have BK410 := n0_
   have HB := n1_
   have HO413 := n2_
   clear n0_ n1_ n2_ ho hb hg hat
   refine hK.out _ _ ⟨(Ze BK410.out 0).trans rfl, (Ze BK410.out 1).trans rfl⟩ (fun hHeld => ?_)
   clear hK K
   refine Zb2 (a' := ?_) ?_ ?_
   rotate_left
   ·show Act.put _ (some 5) _ = _
    simp only [Act.put, Qa, Qb, Qc, Z5, Z6]
    rfl
   refine one_ (i := 5) (N := some 8) #[Qt, Qt, Qt, Qt, Qt, Qt, Qf] rfl rfl (by kernel_rfl) (by decide) (fun K hK => ?_)
   refine Kd.Za8 (Kd.int .u8) (w0 := w) w.heap.size (by rfl) (.tmp 5) (.tmp 7) 30 5 (.int .u8 0) 1 rfl Try.underlying30 info5 rfl (by decide) (by omega) v412 y411 l0_1 _ _ _ (fun _ => True) (fun _ => False) rfl rfl ?aO ?aR (fun _ _ h => h) (fun _ h => h.elim) ?aF ?aB ?aS ?aL ?_
   (case aR => repeat (first | exact (Kd.Yv HR0_1.out HB.out) | (with_reducible refine Kd.Yh ?_ _) | (with_reducible refine Kd.Yg ?_ _) | (with_reducible refine Kd.Yw ?_)))
   (case aB => exact (by repeat (first | (with_reducible first | exact HB.out | apply wA | apply wN | apply wD | refine Za ?_ GE410.out) | exact HB.out)))
   (case aF => exact (fun _ _ => trivial))
   (case aO => exact (by (with_reducible repeat first | apply Kd.Zab | apply Kd.Yu | apply Kd.Zai); exact HO413.out))
   (case aS => exact (Zd (by repeat (first | (with_reducible first | exact HB.out | apply wA | apply wN | apply wD | refine Za ?_ GE410.out) | exact HB.out))))
   (case aL => have := LMc3.out; omega)
   intro v415 w7 ho hb hg hat
   rw [← Ny414.out] at ho
   have n0_ := aM (Yc (g := gb410) (o := .cells #[.slice A0_0 l0_0.length c0_0, .slice A0_1 l0_1.length c0_1] 48 (0, 0)) (by (with_reducible repeat first | apply bN | apply bD | apply bA); exact BK410.out) hg (Kd.R_ne HO413.out BK410.out (by decide)))
   have n1_ := aM (hb)
   have n2_ := aM (ho)
   clear BK410 HB HO413
   have BK410 := n0_
   have HB := n1_
   have HO416 := n2_
   clear n0_ n1_ n2_ ho hb hg hat
   refine hK.out _ _ ⟨(Ze BK410.out 0).trans rfl, (Ze BK410.out 1).trans rfl⟩ (fun hHeld => ?_)
   clear hK K
   refine Zb2 (a' := ?_) ?_ ?_
   rotate_left
   ·show Act.put _ (some 8) _ = _
    simp only [Act.put, Qa, Qb, Qc, Z5, Z6]
    rfl
   refine Yq (i := 6) (N := some 2) (v := ?_) (a' := ?_) #[Qt, Qt, Qt, Qt, Qt, Qt, Qt] rfl rfl (by kernel_rfl) (fun _ _ _ h => h) (Or.inl ⟨by rfl, ?_⟩) ?_ ?_
   rotate_left
   ·intro w'
    go_simp
    with_reducible rfl
   rotate_left
   ·simp only [Act.put, Qa, Qb, Qc, Z5, Z6]
    rfl
   refine Zcv (by kernel_rfl) ?_
   try go_wp2
   go_ret
   exact ⟨_, by first | rfl | (simp [Zy, Zx] <;> rfl) | (simp [*, Zy, Zx] <;> rfl), by (with_reducible repeat first | apply Kd.Zab | apply Kd.Yu | apply Kd.Zai); exact HO416.out, by repeat (first | (with_reducible first | exact HB.out | apply wA | apply wN | apply wD | refine Za ?_ GE410.out) | exact HB.out)⟩
  ·rw [if_neg c3] at H
   exact absurd H (by simp)
 ·rw [if_neg c2] at H
  exact absurd H (by simp)

end Go.Proofs.Ytnfbjdnflifcoaa.PDk

namespace Go.Proofs.Ytnfbjdnflifcoaa.PDk
open Go.RowKit Go.Proofs.YtnfbjdnflifcoaaW.PrintWords Go.Proofs.YtnfbjdnflifcoaaW.PrintLast Go.Proofs.YtnfbjdnflifcoaaW.PrintMore
attribute [local go_sem] Za0 Zay Zbe Zbd Zan Zam Zaz Zax
set_option linter.unusedVariables false
set_option linter.unusedSimpArgs false

def Yt.f (l0_0 : List (S48)) (a1 : Int) : Option ((List (S48)) × Int) := (Yn.f l0_0 a1).bind fun t419 => (if t419 = true then (if 0 ≤ a1 then (if a1 < (l0_0.length : Int) then ((Zaa.f ((Zo l0_0 a1).f0) ((Zo l0_0 a1).f1)).bind fun t421 => ((Yi.f l0_0 a1 t421 ([] : List Int)).bind fun t424 => (some (t424, 0)))) else (none)) else (none)) else (some (([] : List (S48)), 11)))
def Yt.T3 : Bool × List (List Nat × List Nat) := (true, [([], []), ([], []), ([], []), ([2], [2]), ([], []), ([3, 4], [3, 4]), ([5], [5]), ([6], [6]), ([7], [7]), ([0, 1, 8, 7], [0, 1, 8]), ([9, 9, 0, 1, 2, 3, 4, 5, 6, 7, 8, 9], [9]), ([10, 0, 1, 2, 3, 4, 5, 6, 7, 8, 9, 10], [])])
def Yt.B3 : List Nat := [0, 0, 0, 4, 0, 28, 60, 124, 252, 511, 1023, 2047]
theorem Yt.tab3 : rtab .any (opsOf Try.f32 3) = Yt.T3 := by kernel_rfl
theorem Yt.bits3 : Zcd Yt.T3.2 Yt.B3 = true := by kernel_rfl
set_option maxHeartbeats 8000000 in
set_option maxRecDepth 100000 in
theorem Yt.calls (P0_0_ : Nat → Prop) (A0_0 : Option Addr) (c0_0 : Nat) (l0_0 : List (S48)) (a1 : Int) (r1 : List (S48)) (r2 : Int) (w : World) (hs0_0 : Kd.V k48 48 w w.heap.size (fun k_ => P0_0_ k_) (.slice A0_0 l0_0.length c0_0) l0_0) (h : Yt.f l0_0 a1 = some (r1, r2)) :
  Calls Try.prog 32 #[.agg #[.slice A0_0 l0_0.length c0_0], .int .i64 a1] w fun e w' => ∃ v0_ : Value, e = .returned (.tuple #[.agg #[v0_], .int .i64 r2]) ∧ Kd.N k48 48 w' w.heap.size (fun k_ => (P0_0_ k_ ∨ w.heap.size ≤ k_)) v0_ r1 ∧ Below w.heap.size w w' := by
 have hu24 := Try.underlying24
 have hu48 := Try.underlying48
 have HO0_0 := aM (show Kd.V k48 48 w w.heap.size (fun k_ => (P0_0_ k_ ∨ w.heap.size ≤ k_)) (.slice A0_0 l0_0.length c0_0) l0_0 from Kd.Yd hs0_0 (fun k_ hk => .inl hk))
 have HB := aM (Below.refl w.heap.size w)
 have H : ((Yn.f l0_0 a1).bind fun t419 => (if t419 = true then (if 0 ≤ a1 then (if a1 < (l0_0.length : Int) then ((Zaa.f ((Zo l0_0 a1).f0) ((Zo l0_0 a1).f1)).bind fun t421 => ((Yi.f l0_0 a1 t421 ([] : List Int)).bind fun t424 => (some (t424, 0)))) else (none)) else (none)) else (some (([] : List (S48)), 11)))) = some (r1, r2) := h
 clear h
 replace H := Option.bind_eq_some_iff.mp H
 obtain ⟨t419, A30, H⟩ := H
 replace H : (if t419 = true then (if 0 ≤ a1 then (if a1 < (l0_0.length : Int) then ((Zaa.f ((Zo l0_0 a1).f0) ((Zo l0_0 a1).f1)).bind fun t421 => ((Yi.f l0_0 a1 t421 ([] : List Int)).bind fun t424 => (some (t424, 0)))) else (none)) else (none)) else (some (([] : List (S48)), 11))) = some (r1, r2) := H
 have A3 := aM A30
 clear A30
 by_cases c4 : t419 = true
 ·subst c4
  have H1 : (if 0 ≤ a1 then (if a1 < (l0_0.length : Int) then ((Zaa.f ((Zo l0_0 a1).f0) ((Zo l0_0 a1).f1)).bind fun t421 => ((Yi.f l0_0 a1 t421 ([] : List Int)).bind fun t424 => (some (t424, 0)))) else (none)) else (none)) = some (r1, r2) := by rw [if_pos rfl] at H; exact H
  clear H
  have H := H1
  clear H1
  by_cases c5 : 0 ≤ a1
  ·rw [if_pos c5] at H
   have c5b0 : decide (0 ≤ a1) = true := decide_eq_true c5
   clear c5
   by_cases c6 : a1 < (l0_0.length : Int)
   ·rw [if_pos c6] at H
    have c6b0 : decide (a1 < (l0_0.length : Int)) = true := decide_eq_true c6
    clear c6
    replace H := Option.bind_eq_some_iff.mp H
    obtain ⟨t421, A70, H⟩ := H
    replace H : ((Yi.f l0_0 a1 t421 ([] : List Int)).bind fun t424 => (some (t424, 0))) = some (r1, r2) := H
    have A7 := aM A70
    clear A70
    replace H := Option.bind_eq_some_iff.mp H
    obtain ⟨t424, A80, H⟩ := H
    replace H : (some (t424, 0)) = some (r1, r2) := H
    have A8 := aM A80
    clear A80
    simp only [Option.some.injEq, Prod.mk.injEq] at H
    obtain ⟨rfl, rfl⟩ := H
    go_enter Try.func32, Try.ntmps32
    try go_wp2_with (first | ((with_reducible refine Z7 (N := 2) rfl ?_); refine Z4 ?hg (N := 2) ?hd (cs := #[.slice A0_0 l0_0.length c0_0]) (t := 24) ?hr ?_; (case hd => rfl); (case hg => rfl); (case hr => first | (go_simp; done) | (go_simp; rfl)); intro gb417 hg w9 hbox hb; have n0_ := aM (Kd.Y0 (Kd.Yx (by (with_reducible repeat first | apply Kd.Zv | apply Kd.Zu | apply Kd.Z0); exact HO0_0.out) gb417 (Nat.le_of_eq hg.symm)) hb); have n1_ := aM (Zj (by repeat (first | (with_reducible first | exact HB.out | apply wA | apply wN | apply wD) | exact HB.out)) hb); have n2_ := aM (hbox); have n3_ := aM ((by rw [hg]; exact (Zd (by repeat (first | (with_reducible first | exact HB.out | apply wA | apply wN | apply wD) | exact HB.out))) : w.heap.size ≤ gb417)); have n4_ := aM ((by rw [hg]; exact (Zd (by repeat (first | (with_reducible first | exact HB.out | apply wA | apply wN | apply wD) | exact HB.out))) : w.heap.size ≤ gb417)); clear HO0_0 HB; have HO0_0 := n0_; have HB := n1_; have BK417 := n2_; have GW417 := n3_; have GE417 := n4_; clear n0_ n1_ n2_ n3_ n4_; clear hb hbox hg) | ((with_reducible refine Z7 (N := 4) rfl ?_); refine Z4 ?hg (N := 4) ?hd (cs := #[.slice none 0 0]) (t := 24) ?hr ?_; (case hd => rfl); (case hg => rfl); (case hr => first | (go_simp; done) | (go_simp; rfl)); intro gb418 hg w10 hbox hb; have n0_ := aM (Kd.Y0 (Kd.Yx (by (with_reducible repeat first | apply Kd.Zv | apply Kd.Zu | apply Kd.Z0); exact HO0_0.out) gb418 (Nat.le_of_eq hg.symm)) hb); have n1_ := aM (Zf (g := gb417) (o := .cells #[.slice A0_0 l0_0.length c0_0] 24 (0, 0)) (by (with_reducible repeat first | apply bN | apply bD | apply bA); exact BK417.out) hb); have n2_ := aM (Zj (by repeat (first | (with_reducible first | exact HB.out | apply wA | apply wN | apply wD | refine Za ?_ GE417.out) | exact HB.out)) hb); have n3_ := aM (hbox); have n4_ := aM ((by rw [hg]; exact (Zd (by repeat (first | (with_reducible first | exact HB.out | apply wA | apply wN | apply wD | refine Za ?_ GE417.out) | exact HB.out))) : w.heap.size ≤ gb418)); have n5_ := aM ((by rw [hg]; exact (Zd (by repeat (first | (with_reducible first | exact HB.out | apply wA | apply wN | apply wD | refine Za ?_ GE417.out) | exact HB.out))) : w.heap.size ≤ gb418)); have n6_ := aM ((by rw [hg]; exact Nat.ne_of_lt (Ya (g := gb417) (o := .cells #[.slice A0_0 l0_0.length c0_0] 24 (0, 0)) (by (with_reducible repeat first | apply bN | apply bD | apply bA); exact BK417.out)) : gb417 ≠ gb418)); have n7_ := aM ((by rw [hg]; exact Nat.ne_of_gt (Ya (g := gb417) (o := .cells #[.slice A0_0 l0_0.length c0_0] 24 (0, 0)) (by (with_reducible repeat first | apply bN | apply bD | apply bA); exact BK417.out)) : gb418 ≠ gb417)); clear HO0_0 BK417 HB; have HO0_0 := n0_; have BK417 := n1_; have HB := n2_; have BK418 := n3_; have GW418 := n4_; have GE418 := n5_; have NB417_418 := n6_; have NB418_417 := n7_; clear n0_ n1_ n2_ n3_ n4_ n5_ n6_ n7_; clear hb hbox hg; have hnb11 := NB417_418.out; have hnc11 := NB418_417.out; have hcz12_0 : w10.cell? ⟨gb417, 0, none⟩ = some (.slice A0_0 l0_0.length c0_0) := (Ze BK417.out 0).trans rfl; have hfz12_0 := Zg BK417.out 0) | ((with_reducible refine Yf (f := 39) rfl ?_); refine Zap (some 8) rfl rfl Try.func39 (by kernel_rfl) rfl #[.agg #[.slice A0_0 l0_0.length c0_0], .int .i64 a1] rfl (by (try simp only [Qi, Qj, Qk]); first | done | rfl | (simp only [Qe, Qd]; rfl)) ?_; (with_reducible refine (Yn.calls _ _ l0_0 a1 true _ ?side1 ?side2 A3.out).mono ?_); (case side1 => repeat (first | exact (Kd.Zae HO0_0.out).2.2 | (with_reducible refine Kd.Yh ?_ _) | (with_reducible refine Kd.Yg ?_ _) | (with_reducible refine Kd.Yw ?_))); (case side2 => exact (Kd.Zae HO0_0.out).2.1); rintro e w13 ⟨rfl, hb⟩; refine ⟨_, rfl, ?_⟩; have n0_ := aM (Kd.Y0 (by (with_reducible repeat first | apply Kd.Zv | apply Kd.Zu | apply Kd.Z0); exact HO0_0.out) hb); have n1_ := aM (Zf (g := gb417) (o := .cells #[.slice A0_0 l0_0.length c0_0] 24 (0, 0)) (by (with_reducible repeat first | apply bN | apply bD | apply bA); exact BK417.out) hb); have n2_ := aM (Zf (g := gb418) (o := .cells #[.slice none 0 0] 24 (0, 0)) (by (with_reducible repeat first | apply bN | apply bD | apply bA); exact BK418.out) hb); have n3_ := aM (Zj (by repeat (first | (with_reducible first | exact HB.out | apply wA | apply wN | apply wD | refine Za ?_ GE417.out | refine Za ?_ GE418.out) | exact HB.out)) hb); clear HO0_0 BK417 BK418 HB; have HO0_0 := n0_; have BK417 := n1_; have BK418 := n2_; have HB := n3_; clear n0_ n1_ n2_ n3_; (try clear hb); (try clear hb2); (try clear hk); (try clear hi); (try clear hge_)))
    have n0_ := aM (Kd.Z0 HO0_0.out)
    have n1_ := aM (bD BK417.out)
    have n2_ := aM (bD BK418.out)
    have n3_ := aM (wD HB.out)
    clear HO0_0 BK417 BK418 HB
    have HO0_0 := n0_
    have BK417 := n1_
    have BK418 := n2_
    have HB := n3_
    clear n0_ n1_ n2_ n3_
    have p420 : 0 ≤ (a1 : Int) := of_decide_eq_true (by first | (with_reducible assumption) | assumption)
    have q420 : a1 < (l0_0.length : Int) := of_decide_eq_true (by first | (with_reducible assumption) | assumption)
    obtain ⟨ad420, A420_0, c420_0, A420_1, c420_1, e420, hx420_0, hx420_1, hl420_0, hi420_0, hl420_1, hi420_1⟩ := Zbl (Kd.Zae HO0_0.out).2.2 a1 p420 q420
    cases e420
    obtain ⟨ce420, hce420, hMe420, hcc420⟩ := Kd.V_get HO0_0.out z48 a1 p420 (by first | exact q420 | exact of_decide_eq_true (by first | (with_reducible assumption) | assumption) | (have e_ := (Kd.Zae HO0_0.out).1; omega))
    obtain ⟨ua420_0, uc420_0, ua420_1, uc420_1, rfl, ul420_0, ge420_0, ul420_1, ge420_1⟩ := Zce hMe420
    have hv420_0 := hcc420 0 _ rfl
    rw [Nat.add_zero] at hv420_0
    replace hv420_0 := Option.some.inj (hv420_0.symm.trans hx420_0)
    injection hv420_0 with hva_ hvn_ hvc_
    rw [hva_] at ge420_0
    rw [hvc_] at ul420_0
    have HL420_0 := aM (show Kd.V (Kd.int .u8) 5 _ w.heap.size _ _ ((Zo l0_0 a1).f0) from Kd.V_mk ul420_0 ge420_0)
    clear hva_ hvn_ hvc_ ge420_0 ul420_0
    have hv420_1 := hcc420 1 _ rfl
    rw [Zb4 _ _ 1 (by omega)] at hv420_1
    replace hv420_1 := Option.some.inj (hv420_1.symm.trans hx420_1)
    injection hv420_1 with hva_ hvn_ hvc_
    rw [hva_] at ge420_1
    rw [hvc_] at ul420_1
    have HL420_1 := aM (show Kd.V (Kd.int .u8) 5 _ w.heap.size _ _ ((Zo l0_0 a1).f1) from Kd.V_mk ul420_1 ge420_1)
    clear hva_ hvn_ hvc_ ge420_1 ul420_1 hcc420 hce420
    have HR420_0 := aM hi420_0
    have HC420_0 := aM hl420_0
    clear hi420_0 hl420_0
    have HR420_1 := aM hi420_1
    have HC420_1 := aM hl420_1
    clear hi420_1 hl420_1
    replace p420 := eq_true p420
    replace q420 := eq_true q420
    refine Zb9 (n := 12) (S := fun w' => w'.cell? ⟨gb417, 0, none⟩ = some (.slice (some ad420) l0_0.length c0_0) ∧ w'.cell? (ad420.add ((a1).toNat * 2)) = some (.slice A420_0 ((Zo l0_0 a1).f0).length c420_0) ∧ w'.cell? ⟨(ad420.add ((a1).toNat * 2)).block, (ad420.add ((a1).toNat * 2)).off + 1, none⟩ = some (.slice A420_1 ((Zo l0_0 a1).f1).length c420_1)) (ds := []) #[Qf, Qf, Qf, Qf, Qf, Qf, Qf, Qf, Qf, Qf, Qf, Qf] (by kernel_rfl) rfl rfl ⟨(Ze BK417.out 0).trans rfl, hx420_0, hx420_1⟩ (fun hHeld => ?_); refine Zbs Yt.tab3 Yt.bits3 (fun HT_ HW_ => ?_)
    generalize w13.drew = w14 at HO0_0 BK417 BK418 HB HL420_0 HL420_1 HR420_0 HR420_1 hx420_0 hx420_1 hHeld ⊢
    refine Yq (i := 1) (N := some 12) (v := ?_) (a' := ?_) #[Qf, Qt, Qf, Qf, Qf, Qf, Qf, Qf, Qf, Qf, Qf, Qf] rfl rfl (Yk HT_.out (by kernel_rfl)) (fun _ _ _ h => h) (Or.inl ⟨by rfl, ?_⟩) ?_ ?_
    rotate_left
    ·intro w'
     go_simp
     with_reducible rfl
    rotate_left
    ·simp only [Act.put, Qa, Qb, Qc, Z5, Z6]
     rfl
    refine Yq (i := 2) (N := some 13) (v := ?_) (a' := ?_) #[Qf, Qt, Qt, Qf, Qf, Qf, Qf, Qf, Qf, Qf, Qf, Qf] rfl rfl (Yk HT_.out (by kernel_rfl)) (fun _ _ _ h => h) (Or.inl ⟨by rfl, ?_⟩) ?_ ?_
    rotate_left
    ·intro w'
     go_simp
     with_reducible rfl
    rotate_left
    ·simp only [Act.put, Qa, Qb, Qc, Z5, Z6]
     rfl
    refine Yq (i := 4) (N := some 15) (v := ?_) (a' := ?_) #[Qf, Qt, Qt, Qf, Qt, Qf, Qf, Qf, Qf, Qf, Qf, Qf] rfl rfl (Yk HT_.out (by kernel_rfl)) (fun _ _ _ h => h) (Or.inl ⟨by rfl, ?_⟩) ?_ ?_
    rotate_left
    ·intro w'
     go_simp
     with_reducible rfl
    rotate_left
    ·simp only [Act.put, Qa, Qb, Qc, Z5, Z6]
     rfl
    refine Za5 (i := 0) (N := some 11) (v := ?_) (a' := ?_) #[Qt, Qt, Qt, Qf, Qt, Qf, Qf, Qf, Qf, Qf, Qf, Qf] rfl rfl (Zac HT_.out HW_.out (by kernel_rfl)) (fun _ _ _ h => h) (Or.inl ⟨by rfl, ?_⟩) hHeld ?_ ?_
    rotate_left
    ·rintro w' ⟨s0, s1, s2⟩
     go_simp
     with_reducible rfl
    rotate_left
    ·simp only [Act.put, Qa, Qb, Qc, Z5, Z6]
     rfl
    refine Za5 (i := 3) (N := some 14) (v := ?_) (a' := ?_) #[Qt, Qt, Qt, Qt, Qt, Qf, Qf, Qf, Qf, Qf, Qf, Qf] rfl rfl (Zac HT_.out HW_.out (by kernel_rfl)) (fun _ _ _ h => h) (Or.inl ⟨by rfl, ?_⟩) hHeld ?_ ?_
    rotate_left
    ·rintro w' ⟨s0, s1, s2⟩
     go_simp
     with_reducible rfl
    rotate_left
    ·simp only [Act.put, Qa, Qb, Qc, Z5, Z6]
     rfl
    refine Yq (i := 5) (N := some 16) (v := ?_) (a' := ?_) #[Qt, Qt, Qt, Qt, Qt, Qt, Qf, Qf, Qf, Qf, Qf, Qf] rfl rfl (Yk HT_.out (by kernel_rfl)) (fun _ _ _ h => h) (Or.inl ⟨by rfl, ?_⟩) ?_ ?_
    rotate_left
    ·intro w'
     go_simp
     with_reducible rfl
    rotate_left
    ·simp only [Act.put, Qa, Qb, Qc, Z5, Z6]
     rfl
    refine Za5 (i := 6) (N := some 17) (v := ?_) (a' := ?_) #[Qt, Qt, Qt, Qt, Qt, Qt, Qt, Qf, Qf, Qf, Qf, Qf] rfl rfl (Zac HT_.out HW_.out (by kernel_rfl)) (fun _ _ _ h => h) (Or.inl ⟨by rfl, ?_⟩) hHeld ?_ ?_
    rotate_left
    ·rintro w' ⟨s0, s1, s2⟩
     go_simp
     with_reducible rfl
    rotate_left
    ·simp only [Act.put, Qa, Qb, Qc, Z5, Z6]
     rfl
    refine one_ (i := 7) (N := some 18) #[Qt, Qt, Qt, Qt, Qt, Qt, Qt, Qt, Qf, Qf, Qf, Qf] rfl rfl (Za6 HT_.out (by kernel_rfl)) (by decide) (fun K hK => ?_)
    refine Zdc Try.func41 (by kernel_rfl) rfl #[.agg #[.slice A420_0 ((Zo l0_0 a1).f0).length c420_0, .slice A420_1 ((Zo l0_0 a1).f1).length c420_1]] (by rfl) rfl rfl (by (try simp only [Qi, Qj, Qk]); first | done | rfl | (simp only [Qe, Qd]; rfl)) ?_
    with_reducible refine (Zaa.calls _ _ ((Zo l0_0 a1).f0) _ _ ((Zo l0_0 a1).f1) t421 _ ?side1 ?side2 ?side3 ?side4 A7.out).mono ?_
    (case side1 => repeat (first | exact (by repeat (first | (with_reducible exact HR420_0.out) | (with_reducible refine Kd.Yh ?_ _) | (with_reducible refine Kd.Yg ?_ _) | (with_reducible refine Kd.Yw ?_) | exact HR420_0.out)) | (with_reducible refine Kd.Yh ?_ _) | (with_reducible refine Kd.Yg ?_ _) | (with_reducible refine Kd.Yw ?_)))
    (case side2 => exact HC420_0.out)
    (case side3 => repeat (first | exact (by repeat (first | (with_reducible exact HR420_1.out) | (with_reducible refine Kd.Yh ?_ _) | (with_reducible refine Kd.Yg ?_ _) | (with_reducible refine Kd.Yw ?_) | exact HR420_1.out)) | (with_reducible refine Kd.Yh ?_ _) | (with_reducible refine Kd.Yg ?_ _) | (with_reducible refine Kd.Yw ?_)))
    (case side4 => exact HC420_1.out)
    rintro e w15 ⟨v422, rfl, ho0, hb⟩
    have HS1_ := (hb.cell (Qw _ _ (hHeld.2.1))).trans (hHeld.2.1)
    have HS2_ := (hb.cell (Qw _ _ (hHeld.2.2))).trans (hHeld.2.2)
    refine ⟨_, rfl, ?_⟩
    have n0_ := aM (Kd.Zag (by (with_reducible repeat first | apply Kd.Zv | apply Kd.Zu | apply Kd.Z0); exact HO0_0.out) (Kd.Zbg ho0) hb)
    have n1_ := aM (Kd.Zag (by (with_reducible repeat first | apply Kd.Zv | apply Kd.Zu | apply Kd.Z0); exact HL420_0.out) (Kd.Zbg ho0) hb)
    have n2_ := aM (Kd.Zag (by (with_reducible repeat first | apply Kd.Zv | apply Kd.Zu | apply Kd.Z0); exact HL420_1.out) (Kd.Zbg ho0) hb)
    have n3_ := aM (Kd.Zb1 (Kd.Ze5 (M := fun k_ => (w.heap.size ≤ k_)) ho0 (Zd (by repeat (first | (with_reducible first | exact HB.out | apply wA | apply wN | apply wD | refine Za ?_ GE417.out | refine Za ?_ GE418.out) | exact HB.out))) (fun k_ h_ => h_)) (Zd (by repeat (first | (with_reducible first | exact HB.out | apply wA | apply wN | apply wD | refine Za ?_ GE417.out | refine Za ?_ GE418.out) | exact HB.out))))
    have n4_ := aM (Zf (g := gb417) (o := .cells #[.slice (some ad420) l0_0.length c0_0] 24 (0, 0)) (by (with_reducible repeat first | apply bN | apply bD | apply bA); exact BK417.out) hb)
    have n5_ := aM (Zf (g := gb418) (o := .cells #[.slice none 0 0] 24 (0, 0)) (by (with_reducible repeat first | apply bN | apply bD | apply bA); exact BK418.out) hb)
    have n6_ := aM (Kd.Yv (by repeat (first | (with_reducible exact HR420_0.out) | (with_reducible refine Kd.Yh ?_ _) | (with_reducible refine Kd.Yg ?_ _) | (with_reducible refine Kd.Yw ?_) | exact HR420_0.out)) hb)
    have n7_ := aM (Kd.Yv (by repeat (first | (with_reducible exact HR420_1.out) | (with_reducible refine Kd.Yh ?_ _) | (with_reducible refine Kd.Yg ?_ _) | (with_reducible refine Kd.Yw ?_) | exact HR420_1.out)) hb)
    have n8_ := aM (Zj (by repeat (first | (with_reducible first | exact HB.out | apply wA | apply wN | apply wD | refine Za ?_ GE417.out | refine Za ?_ GE418.out) | exact HB.out)) hb)
    clear HO0_0 HL420_0 HL420_1 BK417 BK418 HR420_0 HR420_1 HB
    have HO0_0 := n0_
    have HL420_0 := n1_
    have HL420_1 := n2_
    have HO423 := n3_
    have BK417 := n4_
    have BK418 := n5_
    have HR420_0 := n6_
    have HR420_1 := n7_
    have HB := n8_
    clear n0_ n1_ n2_ n3_ n4_ n5_ n6_ n7_ n8_
    (try clear hb)
    (try clear hb2)
    (try clear hk)
    (try clear hi)
    (try clear hge_)
    (try clear ho0)
    obtain ⟨Ao16, co16, eo16⟩ := Kd.Za2 HO423.out
    (first | subst eo16 | (injection eo16 with f1_ f2_ f3_; have f4_ := f1_.symm; have f5_ := f3_.symm; clear f1_ f2_ f3_; subst f4_; subst f5_))
    refine hK.out _ _ ⟨(Ze BK417.out 0).trans rfl, HS1_, HS2_⟩ (fun hHeld => ?_)
    clear hK K
    refine Zb2 (a' := ?_) ?_ ?_
    rotate_left
    ·show Act.put _ (some 18) _ = _
     simp only [Act.put, Qa, Qb, Qc, Z5, Z6]
     rfl
    refine Yq (i := 8) (N := some 19) (v := ?_) (a' := ?_) #[Qt, Qt, Qt, Qt, Qt, Qt, Qt, Qt, Qt, Qf, Qf, Qf] rfl rfl (Yk HT_.out (by kernel_rfl)) (fun _ _ _ h => h) (Or.inl ⟨by rfl, ?_⟩) ?_ ?_
    rotate_left
    ·intro w'
     go_simp
     with_reducible rfl
    rotate_left
    ·simp only [Act.put, Qa, Qb, Qc, Z5, Z6]
     rfl
    refine one_ (i := 9) (N := some 20) #[Qt, Qt, Qt, Qt, Qt, Qt, Qt, Qt, Qt, Qt, Qf, Qf] rfl rfl (Za6 HT_.out (by kernel_rfl)) (by decide) (fun K hK => ?_)
    refine Zdc Try.func40 (by kernel_rfl) rfl #[.agg #[.slice (some ad420) l0_0.length c0_0], .int .i64 a1, .agg #[.slice Ao16 t421.length co16, .slice none 0 0]] (by rfl) rfl rfl (by (try simp only [Qi, Qj, Qk]); first | done | rfl | (simp only [Qe, Qd]; rfl)) ?_
    refine (Yi.calls (fun k_ => ((((P0_0_ k_ ∨ w.heap.size ≤ k_) ∧ k_ ≠ gb417) ∧ k_ ≠ gb418) ∧ some k_ ≠ (.slice Ao16 t421.length co16 : Value).ownBlock)) _ _ l0_0 a1 (fun k_ => some k_ = (.slice Ao16 t421.length co16 : Value).ownBlock) _ _ t421 (fun k_ => False) _ _ ([] : List Int) t424 _ ?side1 ?side2 ?side3 A8.out).mono ?_
    (case side1 => exact HO0_0.out)
    (case side2 => exact Kd.R_V (Kd.Zcu rfl (Kd.Zaf (Kd.Zaf (HO423.out) BK417.out (by decide)) BK418.out (by decide))))
    (case side3 => exact Kd.Zcr _ _ _ _ _)
    rintro e w17 ⟨v425, rfl, ho0, hb⟩
    have HS1_ := (hb.cell (Qw _ _ (hHeld.2.1))).trans (hHeld.2.1)
    have HS2_ := (hb.cell (Qw _ _ (hHeld.2.2))).trans (hHeld.2.2)
    refine ⟨_, rfl, ?_⟩
    have n0_ := aM (Kd.Zag (by (with_reducible repeat first | apply Kd.Zv | apply Kd.Zu | apply Kd.Z0); exact HO0_0.out) (by first | exact Kd.Y1 ho0 | exact Kd.Y1 (Kd.S_N ho0)) hb)
    have n1_ := aM (Kd.Zag (by (with_reducible repeat first | apply Kd.Zv | apply Kd.Zu | apply Kd.Z0); exact HL420_0.out) (by first | exact Kd.Y1 ho0 | exact Kd.Y1 (Kd.S_N ho0)) hb)
    have n2_ := aM (Kd.Zag (by (with_reducible repeat first | apply Kd.Zv | apply Kd.Zu | apply Kd.Z0); exact HL420_1.out) (by first | exact Kd.Y1 ho0 | exact Kd.Y1 (Kd.S_N ho0)) hb)
    have n3_ := aM (Kd.Zci (by (with_reducible repeat first | apply Kd.Zab | apply Kd.Yu | apply Kd.Zai); exact HO423.out) hb)
    have n4_ := aM (Kd.Zbr (Kd.Yr (ok' := fun k_ => (P0_0_ k_ ∨ w.heap.size ≤ k_) ∧ k_ ≠ gb417 ∧ k_ ≠ gb418) ho0 (fun k_ hk_ => ⟨Or.elim hk_ (fun hs_ => Or.elim hs_ (fun hs_ => hs_.1.1.1) (fun hs_ => Or.elim hs_ (fun hs_ => (.inr (((Kd.Zaf (Kd.Zaf (HO423.out) BK417.out (by decide)) BK418.out (by decide)).1 k_ hs_.symm).1.1.1))) (fun hs_ => (hs_).elim))) (fun hn_ => (.inr (Nat.le_trans (Zd (by repeat (first | (with_reducible first | exact HB.out | apply wA | apply wN | apply wD | refine Za ?_ GE417.out | refine Za ?_ GE418.out) | exact HB.out))) hn_))), Or.elim hk_ (fun hs_ => Or.elim hs_ (fun hs_ => hs_.1.1.2) (fun hs_ => Or.elim hs_ (fun hs_ => ((Kd.Zaf (Kd.Zaf (HO423.out) BK417.out (by decide)) BK418.out (by decide)).1 k_ hs_.symm).1.2) (fun hs_ => (hs_).elim))) (fun hn_ => (Kd.Y6 (g := gb417) (o := .cells #[.slice (some ad420) l0_0.length c0_0] 24 (0, 0)) (by (with_reducible repeat first | apply bN | apply bD | apply bA); exact BK417.out) k_ hn_)), Or.elim hk_ (fun hs_ => Or.elim hs_ (fun hs_ => hs_.1.2) (fun hs_ => Or.elim hs_ (fun hs_ => ((Kd.Zaf (Kd.Zaf (HO423.out) BK417.out (by decide)) BK418.out (by decide)).1 k_ hs_.symm).2) (fun hs_ => (hs_).elim))) (fun hn_ => (Kd.Y6 (g := gb418) (o := .cells #[.slice none 0 0] 24 (0, 0)) (by (with_reducible repeat first | apply bN | apply bD | apply bA); exact BK418.out) k_ hn_))⟩)) (Zd (by repeat (first | (with_reducible first | exact HB.out | apply wA | apply wN | apply wD | refine Za ?_ GE417.out | refine Za ?_ GE418.out) | exact HB.out))))
    have n5_ := aM (Zf (g := gb417) (o := .cells #[.slice (some ad420) l0_0.length c0_0] 24 (0, 0)) (by (with_reducible repeat first | apply bN | apply bD | apply bA); exact BK417.out) hb)
    have n6_ := aM (Zf (g := gb418) (o := .cells #[.slice none 0 0] 24 (0, 0)) (by (with_reducible repeat first | apply bN | apply bD | apply bA); exact BK418.out) hb)
    have n7_ := aM (Kd.Yv (by repeat (first | (with_reducible exact HR420_0.out) | (with_reducible refine Kd.Yh ?_ _) | (with_reducible refine Kd.Yg ?_ _) | (with_reducible refine Kd.Yw ?_) | exact HR420_0.out)) hb)
    have n8_ := aM (Kd.Yv (by repeat (first | (with_reducible exact HR420_1.out) | (with_reducible refine Kd.Yh ?_ _) | (with_reducible refine Kd.Yg ?_ _) | (with_reducible refine Kd.Yw ?_) | exact HR420_1.out)) hb)
    have n9_ := aM (Zj (by repeat (first | (with_reducible first | exact HB.out | apply wA | apply wN | apply wD | refine Za ?_ GE417.out | refine Za ?_ GE418.out) | exact HB.out)) hb)
    clear HO0_0 HL420_0 HL420_1 HO423 BK417 BK418 HR420_0 HR420_1 HB
    have HO0_0 := n0_
    have HL420_0 := n1_
    have HL420_1 := n2_
    have HO423 := n3_
    have HO426 := n4_
    have BK417 := n5_
    have BK418 := n6_
    have HR420_0 := n7_
    have HR420_1 := n8_
    have HB := n9_
    clear n0_ n1_ n2_ n3_ n4_ n5_ n6_ n7_ n8_ n9_
    (try clear hb)
    (try clear hb2)
    (try clear hk)
    (try clear hi)
    (try clear hge_)
    (try clear ho0)
    obtain ⟨Ao18, co18, eo18⟩ := Kd.Zbj HO426.out
    (first | subst eo18 | (injection eo18 with f1_ f2_ f3_; have f4_ := f1_.symm; have f5_ := f3_.symm; clear f1_ f2_ f3_; subst f4_; subst f5_))
    refine hK.out _ _ ⟨(Ze BK417.out 0).trans rfl, HS1_, HS2_⟩ (fun hHeld => ?_)
    clear hK K
    refine Zb2 (a' := ?_) ?_ ?_
    rotate_left
    ·show Act.put _ (some 20) _ = _
     simp only [Act.put, Qa, Qb, Qc, Z5, Z6]
     rfl
    refine one_ (i := 10) (N := none) #[Qt, Qt, Qt, Qt, Qt, Qt, Qt, Qt, Qt, Qt, Qt, Qf] rfl rfl (Za6 HT_.out (by kernel_rfl)) (by decide) (fun K hK => ?_)
    have hs19 : w17.cell? ⟨gb418, 0, none⟩ = some (.slice none 0 0) := (Ze BK418.out 0).trans rfl
    have hfs19 := Zg BK418.out 0
    have hns19_0 := NB417_418.out
    have hms19_0 := NB418_417.out
    refine Zcp (w1 := ?_) (by rfl) rfl ?_ ?_
    rotate_left
    ·go_simp
     rfl
    refine hK.out _ _ ⟨((cell_far (p := ⟨gb418, _, none⟩) NB417_418.out _).trans (hHeld.1)), ((cell_far (p := ⟨gb418, _, none⟩) (by first | exact Kd.Zc7 (Kd.Zel HO0_0.out (fun _ hk => hk.1.1.2)) | (rw [add_block]; exact Kd.Zc7 (Kd.Zel HO0_0.out (fun _ hk => hk.1.1.2))) | (show (Addr.add _ _).block ≠ _; rw [add_block]; exact Kd.Zc7 (Kd.Zel HO0_0.out (fun _ hk => hk.1.1.2))) | (dsimp only; exact Kd.Zc7 (Kd.Zel HO0_0.out (fun _ hk => hk.1.1.2)))) _).trans (hHeld.2.1)), ((cell_far (p := ⟨gb418, _, none⟩) (by first | exact Kd.Zc7 (Kd.Zel HO0_0.out (fun _ hk => hk.1.1.2)) | (rw [add_block]; exact Kd.Zc7 (Kd.Zel HO0_0.out (fun _ hk => hk.1.1.2))) | (show (Addr.add _ _).block ≠ _; rw [add_block]; exact Kd.Zc7 (Kd.Zel HO0_0.out (fun _ hk => hk.1.1.2))) | (dsimp only; exact Kd.Zc7 (Kd.Zel HO0_0.out (fun _ hk => hk.1.1.2)))) _).trans (hHeld.2.2))⟩ (fun hHeld => ?_)
    clear hK K
    refine Yq (i := 11) (N := some 5) (v := ?_) (a' := ?_) #[Qt, Qt, Qt, Qt, Qt, Qt, Qt, Qt, Qt, Qt, Qt, Qt] rfl rfl (Yk HT_.out (by kernel_rfl)) (fun _ _ _ h => h) (Or.inl ⟨by rfl, ?_⟩) ?_ ?_
    rotate_left
    ·intro w'
     go_simp
     with_reducible rfl
    rotate_left
    ·simp only [Act.put, Qa, Qb, Qc, Z5, Z6]
     rfl
    refine Zcv (Zcf HT_.out (by kernel_rfl)) ?_
    try go_wp2
    refine bodyPost_ret (Zau rfl _ _ gb418 24 #[.slice Ao18 t424.length co18] (0, 0) _ rfl (by (with_reducible repeat first | apply bN | apply bD | apply bA); refine Yo (cs := #[.slice none 0 0]) ?_ 0 _ rfl; (with_reducible repeat first | apply bN | apply bD | apply bA); exact BK418.out) Try.underlying24 rfl (by kernel_rfl)) rfl ?_
    exact ⟨_, by first | rfl | (simp [Zy, Zx] <;> rfl) | (simp [*, Zy, Zx] <;> rfl), by (with_reducible repeat first | apply Kd.Ym | apply Kd.Yl | apply Kd.Yy); exact Kd.Yr (Kd.Zby (p := ⟨gb418, 0, none⟩) (Kd.Yr HO426.out (fun k_ hk => (⟨hk, hk.2.2⟩ : _ ∧ k_ ≠ gb418))) (fun _ hk => hk.2) (.slice Ao18 t424.length co18)) (fun _ hk => hk.1.1), by repeat (first | (with_reducible first | exact HB.out | apply wA | apply wN | apply wD | refine Za ?_ GE417.out | refine Za ?_ GE418.out) | exact HB.out)⟩
   ·rw [if_neg c6] at H
    exact absurd H (by simp)
  ·rw [if_neg c5] at H
   exact absurd H (by simp)
 ·replace c4 := Bool.eq_false_iff.mpr c4
  subst c4
  have H1 : (some (([] : List (S48)), 11)) = some (r1, r2) := by rw [if_neg (show ¬ (false = true) by decide)] at H; exact H
  clear H
  have H := H1
  clear H1
  simp only [Option.some.injEq, Prod.mk.injEq] at H
  obtain ⟨rfl, rfl⟩ := H
  go_enter Try.func32, Try.ntmps32
  go_wp2_with (first | ((with_reducible refine Z7 (N := 2) rfl ?_); refine Z4 ?hg (N := 2) ?hd (cs := #[.slice A0_0 l0_0.length c0_0]) (t := 24) ?hr ?_; (case hd => rfl); (case hg => rfl); (case hr => first | (go_simp; done) | (go_simp; rfl)); intro gb417 hg w20 hbox hb; have n0_ := aM (Kd.Y0 (Kd.Yx (by (with_reducible repeat first | apply Kd.Zv | apply Kd.Zu | apply Kd.Z0); exact HO0_0.out) gb417 (Nat.le_of_eq hg.symm)) hb); have n1_ := aM (Zj (by repeat (first | (with_reducible first | exact HB.out | apply wA | apply wN | apply wD) | exact HB.out)) hb); have n2_ := aM (hbox); have n3_ := aM ((by rw [hg]; exact (Zd (by repeat (first | (with_reducible first | exact HB.out | apply wA | apply wN | apply wD) | exact HB.out))) : w.heap.size ≤ gb417)); have n4_ := aM ((by rw [hg]; exact (Zd (by repeat (first | (with_reducible first | exact HB.out | apply wA | apply wN | apply wD) | exact HB.out))) : w.heap.size ≤ gb417)); clear HO0_0 HB; have HO0_0 := n0_; have HB := n1_; have BK417 := n2_; have GW417 := n3_; have GE417 := n4_; clear n0_ n1_ n2_ n3_ n4_; clear hb hbox hg) | ((with_reducible refine Z7 (N := 4) rfl ?_); refine Z4 ?hg (N := 4) ?hd (cs := #[.slice none 0 0]) (t := 24) ?hr ?_; (case hd => rfl); (case hg => rfl); (case hr => first | (go_simp; done) | (go_simp; rfl)); intro gb418 hg w21 hbox hb; have n0_ := aM (Kd.Y0 (Kd.Yx (by (with_reducible repeat first | apply Kd.Zv | apply Kd.Zu | apply Kd.Z0); exact HO0_0.out) gb418 (Nat.le_of_eq hg.symm)) hb); have n1_ := aM (Zf (g := gb417) (o := .cells #[.slice A0_0 l0_0.length c0_0] 24 (0, 0)) (by (with_reducible repeat first | apply bN | apply bD | apply bA); exact BK417.out) hb); have n2_ := aM (Zj (by repeat (first | (with_reducible first | exact HB.out | apply wA | apply wN | apply wD | refine Za ?_ GE417.out) | exact HB.out)) hb); have n3_ := aM (hbox); have n4_ := aM ((by rw [hg]; exact (Zd (by repeat (first | (with_reducible first | exact HB.out | apply wA | apply wN | apply wD | refine Za ?_ GE417.out) | exact HB.out))) : w.heap.size ≤ gb418)); have n5_ := aM ((by rw [hg]; exact (Zd (by repeat (first | (with_reducible first | exact HB.out | apply wA | apply wN | apply wD | refine Za ?_ GE417.out) | exact HB.out))) : w.heap.size ≤ gb418)); have n6_ := aM ((by rw [hg]; exact Nat.ne_of_lt (Ya (g := gb417) (o := .cells #[.slice A0_0 l0_0.length c0_0] 24 (0, 0)) (by (with_reducible repeat first | apply bN | apply bD | apply bA); exact BK417.out)) : gb417 ≠ gb418)); have n7_ := aM ((by rw [hg]; exact Nat.ne_of_gt (Ya (g := gb417) (o := .cells #[.slice A0_0 l0_0.length c0_0] 24 (0, 0)) (by (with_reducible repeat first | apply bN | apply bD | apply bA); exact BK417.out)) : gb418 ≠ gb417)); clear HO0_0 BK417 HB; have HO0_0 := n0_; have BK417 := n1_; have HB := n2_; have BK418 := n3_; have GW418 := n4_; have GE418 := n5_; have NB417_418 := n6_; have NB418_417 := n7_; clear n0_ n1_ n2_ n3_ n4_ n5_ n6_ n7_; clear hb hbox hg; have hnb22 := NB417_418.out; have hnc22 := NB418_417.out; have hcz23_0 : w21.cell? ⟨gb417, 0, none⟩ = some (.slice A0_0 l0_0.length c0_0) := (Ze BK417.out 0).trans rfl; have hfz23_0 := Zg BK417.out 0) | ((with_reducible refine Yf (f := 39) rfl ?_); refine Zap (some 8) rfl rfl Try.func39 (by kernel_rfl) rfl #[.agg #[.slice A0_0 l0_0.length c0_0], .int .i64 a1] rfl (by (try simp only [Qi, Qj, Qk]); first | done | rfl | (simp only [Qe, Qd]; rfl)) ?_; (with_reducible refine (Yn.calls _ _ l0_0 a1 false _ ?side1 ?side2 A3.out).mono ?_); (case side1 => repeat (first | exact (Kd.Zae HO0_0.out).2.2 | (with_reducible refine Kd.Yh ?_ _) | (with_reducible refine Kd.Yg ?_ _) | (with_reducible refine Kd.Yw ?_))); (case side2 => exact (Kd.Zae HO0_0.out).2.1); rintro e w24 ⟨rfl, hb⟩; refine ⟨_, rfl, ?_⟩; have n0_ := aM (Kd.Y0 (by (with_reducible repeat first | apply Kd.Zv | apply Kd.Zu | apply Kd.Z0); exact HO0_0.out) hb); have n1_ := aM (Zf (g := gb417) (o := .cells #[.slice A0_0 l0_0.length c0_0] 24 (0, 0)) (by (with_reducible repeat first | apply bN | apply bD | apply bA); exact BK417.out) hb); have n2_ := aM (Zf (g := gb418) (o := .cells #[.slice none 0 0] 24 (0, 0)) (by (with_reducible repeat first | apply bN | apply bD | apply bA); exact BK418.out) hb); have n3_ := aM (Zj (by repeat (first | (with_reducible first | exact HB.out | apply wA | apply wN | apply wD | refine Za ?_ GE417.out | refine Za ?_ GE418.out) | exact HB.out)) hb); clear HO0_0 BK417 BK418 HB; have HO0_0 := n0_; have BK417 := n1_; have BK418 := n2_; have HB := n3_; clear n0_ n1_ n2_ n3_; (try clear hb); (try clear hb2); (try clear hk); (try clear hi); (try clear hge_); have hcz25_0 : w24.cell? ⟨gb418, 0, none⟩ = some (.slice none 0 0) := (Ze BK418.out 0).trans rfl; have hfz25_0 := Zg BK418.out 0))
  refine bodyPost_ret (Zau rfl _ _ gb418 24 #[.slice none 0 0] (0, 0) _ rfl (by (with_reducible repeat first | apply bN | apply bD | apply bA); refine Yo (cs := #[.slice none 0 0]) ?_ 0 _ rfl; (with_reducible repeat first | apply bN | apply bD | apply bA); exact BK418.out) Try.underlying24 rfl (by kernel_rfl)) rfl ?_
  exact ⟨_, by first | rfl | (simp [Zy, Zx] <;> rfl) | (simp [*, Zy, Zx] <;> rfl), by first | exact Kd.Zc0 _ _ _ _ _ | exact Kd.Zcw _ _ _ _ _ | exact Kd.Zcr _ _ _ _ _ | exact Kd.Zc1 _ _ _ _ _ | exact Kd.Zbx _ _ _ _ _, by repeat (first | (with_reducible first | exact HB.out | apply wA | apply wN | apply wD | refine Za ?_ GE417.out | refine Za ?_ GE418.out) | exact HB.out)⟩

end Go.Proofs.Ytnfbjdnflifcoaa.PDk

namespace Go.Proofs.Ytnfbjdnflifcoaa.PDk
open Go.RowKit Go.Proofs.YtnfbjdnflifcoaaW.PrintWords Go.Proofs.YtnfbjdnflifcoaaW.PrintLast Go.Proofs.YtnfbjdnflifcoaaW.PrintMore
attribute [local go_sem] Za0 Zay Zbe Zbd Zan Zam Zaz Zax
set_option linter.unusedVariables false
set_option linter.unusedSimpArgs false

def Yj.f (l0_0 : List (S48)) (a1 : Int) (l2 : List Int) : Option ((List (S48)) × Int) := (Yn.f l0_0 a1).bind fun t429 => (if t429 = true then (if (l2.length : Int) > 65536 then (some (([] : List (S48)), 5)) else (if ([] : List Int).length + l2.length < 140737488355328 then ((Yi.f l0_0 a1 (([] : List Int) ++ l2) ([] : List Int)).bind fun t433 => (some (t433, 0))) else (none))) else (some (([] : List (S48)), 11)))
def Yj.T5 : Bool × List (List Nat × List Nat) := (true, [([], []), ([], []), ([], []), ([2], [2]), ([3], [3]), ([0, 1, 4, 3], [0, 1, 4]), ([5, 5, 0, 1, 2, 3, 4, 5], [5]), ([6, 0, 1, 2, 3, 4, 5, 6], [])])
def Yj.B5 : List Nat := [0, 0, 0, 4, 12, 31, 63, 127]
theorem Yj.tab5 : rtab .any (opsOf Try.f33 5) = Yj.T5 := by kernel_rfl
theorem Yj.bits5 : Zcd Yj.T5.2 Yj.B5 = true := by kernel_rfl
set_option maxHeartbeats 8000000 in
set_option maxRecDepth 100000 in
theorem Yj.calls (P0_0_ : Nat → Prop) (A0_0 : Option Addr) (c0_0 : Nat) (l0_0 : List (S48)) (a1 : Int) (A2 : Option Addr) (c2 : Nat) (l2 : List Int) (r1 : List (S48)) (r2 : Int) (w : World) (hs0_0 : Kd.V k48 48 w w.heap.size (fun k_ => P0_0_ k_) (.slice A0_0 l0_0.length c0_0) l0_0) (hr2 : Kd.C (Kd.int .u8) w A2 l2.length l2) (hc2 : l2.length ≤ c2) (h : Yj.f l0_0 a1 l2 = some (r1, r2)) :
  Calls Try.prog 33 #[.agg #[.slice A0_0 l0_0.length c0_0], .int .i64 a1, .slice A2 l2.length c2] w fun e w' => ∃ v0_ : Value, e = .returned (.tuple #[.agg #[v0_], .int .i64 r2]) ∧ Kd.N k48 48 w' w.heap.size (fun k_ => (P0_0_ k_ ∨ w.heap.size ≤ k_)) v0_ r1 ∧ Below w.heap.size w w' := by
 have hu24 := Try.underlying24
 have hu48 := Try.underlying48
 have HO0_0 := aM (show Kd.V k48 48 w w.heap.size (fun k_ => (P0_0_ k_ ∨ w.heap.size ≤ k_)) (.slice A0_0 l0_0.length c0_0) l0_0 from Kd.Yd hs0_0 (fun k_ hk => .inl hk))
 have HR2 := aM hr2
 have HC2 := aM hc2
 clear hr2 hc2
 have HB := aM (Below.refl w.heap.size w)
 have H : ((Yn.f l0_0 a1).bind fun t429 => (if t429 = true then (if (l2.length : Int) > 65536 then (some (([] : List (S48)), 5)) else (if ([] : List Int).length + l2.length < 140737488355328 then ((Yi.f l0_0 a1 (([] : List Int) ++ l2) ([] : List Int)).bind fun t433 => (some (t433, 0))) else (none))) else (some (([] : List (S48)), 11)))) = some (r1, r2) := h
 clear h
 replace H := Option.bind_eq_some_iff.mp H
 obtain ⟨t429, A40, H⟩ := H
 replace H : (if t429 = true then (if (l2.length : Int) > 65536 then (some (([] : List (S48)), 5)) else (if ([] : List Int).length + l2.length < 140737488355328 then ((Yi.f l0_0 a1 (([] : List Int) ++ l2) ([] : List Int)).bind fun t433 => (some (t433, 0))) else (none))) else (some (([] : List (S48)), 11))) = some (r1, r2) := H
 have A4 := aM A40
 clear A40
 by_cases c5 : t429 = true
 ·subst c5
  have H1 : (if (l2.length : Int) > 65536 then (some (([] : List (S48)), 5)) else (if ([] : List Int).length + l2.length < 140737488355328 then ((Yi.f l0_0 a1 (([] : List Int) ++ l2) ([] : List Int)).bind fun t433 => (some (t433, 0))) else (none))) = some (r1, r2) := by rw [if_pos rfl] at H; exact H
  clear H
  have H := H1
  clear H1
  by_cases c6 : (l2.length : Int) > 65536
  ·rw [if_pos c6] at H
   have c6b0 : decide (65536 < (l2.length : Int)) = true := decide_eq_true c6
   have c6b1 : decide (65536 < l2.length) = true := decide_eq_true (by omega)
   clear c6
   simp only [Option.some.injEq, Prod.mk.injEq] at H
   obtain ⟨rfl, rfl⟩ := H
   go_enter Try.func33, Try.ntmps33
   go_wp2_with (first | ((with_reducible refine Z7 (N := 3) rfl ?_); refine Z4 ?hg (N := 3) ?hd (cs := #[.slice A0_0 l0_0.length c0_0]) (t := 24) ?hr ?_; (case hd => rfl); (case hg => rfl); (case hr => first | (go_simp; done) | (go_simp; rfl)); intro gb427 hg w7 hbox hb; have n0_ := aM (Kd.Y0 (Kd.Yx (by (with_reducible repeat first | apply Kd.Zv | apply Kd.Zu | apply Kd.Z0); exact HO0_0.out) gb427 (Nat.le_of_eq hg.symm)) hb); have n1_ := aM (Zj (by repeat (first | (with_reducible first | exact HB.out | apply wA | apply wN | apply wD) | exact HB.out)) hb); have n2_ := aM (hbox); have n3_ := aM ((by rw [hg]; exact (Zd (by repeat (first | (with_reducible first | exact HB.out | apply wA | apply wN | apply wD) | exact HB.out))) : w.heap.size ≤ gb427)); have n4_ := aM ((by rw [hg]; exact (Zd (by repeat (first | (with_reducible first | exact HB.out | apply wA | apply wN | apply wD) | exact HB.out))) : w.heap.size ≤ gb427)); clear HO0_0 HB; have HO0_0 := n0_; have HB := n1_; have BK427 := n2_; have GW427 := n3_; have GE427 := n4_; clear n0_ n1_ n2_ n3_ n4_; clear hb hbox hg) | ((with_reducible refine Z7 (N := 6) rfl ?_); refine Z4 ?hg (N := 6) ?hd (cs := #[.slice none 0 0]) (t := 24) ?hr ?_; (case hd => rfl); (case hg => rfl); (case hr => first | (go_simp; done) | (go_simp; rfl)); intro gb428 hg w8 hbox hb; have n0_ := aM (Kd.Y0 (Kd.Yx (by (with_reducible repeat first | apply Kd.Zv | apply Kd.Zu | apply Kd.Z0); exact HO0_0.out) gb428 (Nat.le_of_eq hg.symm)) hb); have n1_ := aM (Zf (g := gb427) (o := .cells #[.slice A0_0 l0_0.length c0_0] 24 (0, 0)) (by (with_reducible repeat first | apply bN | apply bD | apply bA); exact BK427.out) hb); have n2_ := aM (Zj (by repeat (first | (with_reducible first | exact HB.out | apply wA | apply wN | apply wD | refine Za ?_ GE427.out) | exact HB.out)) hb); have n3_ := aM (hbox); have n4_ := aM ((by rw [hg]; exact (Zd (by repeat (first | (with_reducible first | exact HB.out | apply wA | apply wN | apply wD | refine Za ?_ GE427.out) | exact HB.out))) : w.heap.size ≤ gb428)); have n5_ := aM ((by rw [hg]; exact (Zd (by repeat (first | (with_reducible first | exact HB.out | apply wA | apply wN | apply wD | refine Za ?_ GE427.out) | exact HB.out))) : w.heap.size ≤ gb428)); have n6_ := aM ((by rw [hg]; exact Nat.ne_of_lt (Ya (g := gb427) (o := .cells #[.slice A0_0 l0_0.length c0_0] 24 (0, 0)) (by (with_reducible repeat first | apply bN | apply bD | apply bA); exact BK427.out)) : gb427 ≠ gb428)); have n7_ := aM ((by rw [hg]; exact Nat.ne_of_gt (Ya (g := gb427) (o := .cells #[.slice A0_0 l0_0.length c0_0] 24 (0, 0)) (by (with_reducible repeat first | apply bN | apply bD | apply bA); exact BK427.out)) : gb428 ≠ gb427)); clear HO0_0 BK427 HB; have HO0_0 := n0_; have BK427 := n1_; have HB := n2_; have BK428 := n3_; have GW428 := n4_; have GE428 := n5_; have NB427_428 := n6_; have NB428_427 := n7_; clear n0_ n1_ n2_ n3_ n4_ n5_ n6_ n7_; clear hb hbox hg; have hnb9 := NB427_428.out; have hnc9 := NB428_427.out; have hcz10_0 : w8.cell? ⟨gb427, 0, none⟩ = some (.slice A0_0 l0_0.length c0_0) := (Ze BK427.out 0).trans rfl; have hfz10_0 := Zg BK427.out 0) | ((with_reducible refine Yf (f := 39) rfl ?_); refine Zap (some 10) rfl rfl Try.func39 (by kernel_rfl) rfl #[.agg #[.slice A0_0 l0_0.length c0_0], .int .i64 a1] rfl (by (try simp only [Qi, Qj, Qk]); first | done | rfl | (simp only [Qe, Qd]; rfl)) ?_; (with_reducible refine (Yn.calls _ _ l0_0 a1 true _ ?side1 ?side2 A4.out).mono ?_); (case side1 => repeat (first | exact (Kd.Zae HO0_0.out).2.2 | (with_reducible refine Kd.Yh ?_ _) | (with_reducible refine Kd.Yg ?_ _) | (with_reducible refine Kd.Yw ?_))); (case side2 => exact (Kd.Zae HO0_0.out).2.1); rintro e w11 ⟨rfl, hb⟩; refine ⟨_, rfl, ?_⟩; have n0_ := aM (Kd.Y0 (by (with_reducible repeat first | apply Kd.Zv | apply Kd.Zu | apply Kd.Z0); exact HO0_0.out) hb); have n1_ := aM (Zf (g := gb427) (o := .cells #[.slice A0_0 l0_0.length c0_0] 24 (0, 0)) (by (with_reducible repeat first | apply bN | apply bD | apply bA); exact BK427.out) hb); have n2_ := aM (Zf (g := gb428) (o := .cells #[.slice none 0 0] 24 (0, 0)) (by (with_reducible repeat first | apply bN | apply bD | apply bA); exact BK428.out) hb); have n3_ := aM (Zj (by repeat (first | (with_reducible first | exact HB.out | apply wA | apply wN | apply wD | refine Za ?_ GE427.out | refine Za ?_ GE428.out) | exact HB.out)) hb); clear HO0_0 BK427 BK428 HB; have HO0_0 := n0_; have BK427 := n1_; have BK428 := n2_; have HB := n3_; clear n0_ n1_ n2_ n3_; (try clear hb); (try clear hb2); (try clear hk); (try clear hi); (try clear hge_); have hcz12_0 : w11.cell? ⟨gb428, 0, none⟩ = some (.slice none 0 0) := (Ze BK428.out 0).trans rfl; have hfz12_0 := Zg BK428.out 0))
   refine bodyPost_ret (Zau rfl _ _ gb428 24 #[.slice none 0 0] (0, 0) _ rfl (by (with_reducible repeat first | apply bN | apply bD | apply bA); refine Yo (cs := #[.slice none 0 0]) ?_ 0 _ rfl; (with_reducible repeat first | apply bN | apply bD | apply bA); exact BK428.out) Try.underlying24 rfl (by kernel_rfl)) rfl ?_
   exact ⟨_, by first | rfl | (simp [Zy, Zx] <;> rfl) | (simp [*, Zy, Zx] <;> rfl), by first | exact Kd.Zc0 _ _ _ _ _ | exact Kd.Zcw _ _ _ _ _ | exact Kd.Zcr _ _ _ _ _ | exact Kd.Zc1 _ _ _ _ _ | exact Kd.Zbx _ _ _ _ _, by repeat (first | (with_reducible first | exact HB.out | apply wA | apply wN | apply wD | refine Za ?_ GE427.out | refine Za ?_ GE428.out) | exact HB.out)⟩
  ·rw [if_neg c6] at H
   have c6b0 : decide (65536 < (l2.length : Int)) = false := decide_eq_false c6
   have c6b1 : decide (65536 < l2.length) = false := decide_eq_false (by omega)
   clear c6
   by_cases c13 : ([] : List Int).length + l2.length < 140737488355328
   ·rw [if_pos c13] at H
    have LMc13 := aM c13
    clear c13
    obtain ⟨y430, hy430⟩ : ∃ y_ : List Int, y_ = (([] : List Int) ++ l2) := ⟨_, rfl⟩
    replace H : ((Yi.f l0_0 a1 y430 ([] : List Int)).bind fun t433 => (some (t433, 0))) = some (r1, r2) := by first | (rw [hy430]; with_reducible exact H) | (have H2_ := (Option.bind_some _ _).symm.trans H; rw [hy430]; with_reducible exact H2_) | (have H2_ := (Option.bind_some _ _).symm.trans H; with_reducible exact H2_) | with_reducible exact H | (rw [hy430]; exact H) | exact H
    have Ny430 := aM hy430
    clear hy430
    replace H := Option.bind_eq_some_iff.mp H
    obtain ⟨t433, A140, H⟩ := H
    replace H : (some (t433, 0)) = some (r1, r2) := H
    have A14 := aM A140
    clear A140
    simp only [Option.some.injEq, Prod.mk.injEq] at H
    obtain ⟨rfl, rfl⟩ := H
    go_enter Try.func33, Try.ntmps33
    try go_wp2_with (first | ((with_reducible refine Z7 (N := 3) rfl ?_); refine Z4 ?hg (N := 3) ?hd (cs := #[.slice A0_0 l0_0.length c0_0]) (t := 24) ?hr ?_; (case hd => rfl); (case hg => rfl); (case hr => first | (go_simp; done) | (go_simp; rfl)); intro gb427 hg w15 hbox hb; have n0_ := aM (Kd.Y0 (Kd.Yx (by (with_reducible repeat first | apply Kd.Zv | apply Kd.Zu | apply Kd.Z0); exact HO0_0.out) gb427 (Nat.le_of_eq hg.symm)) hb); have n1_ := aM (Zj (by repeat (first | (with_reducible first | exact HB.out | apply wA | apply wN | apply wD) | exact HB.out)) hb); have n2_ := aM (hbox); have n3_ := aM ((by rw [hg]; exact (Zd (by repeat (first | (with_reducible first | exact HB.out | apply wA | apply wN | apply wD) | exact HB.out))) : w.heap.size ≤ gb427)); have n4_ := aM ((by rw [hg]; exact (Zd (by repeat (first | (with_reducible first | exact HB.out | apply wA | apply wN | apply wD) | exact HB.out))) : w.heap.size ≤ gb427)); clear HO0_0 HB; have HO0_0 := n0_; have HB := n1_; have BK427 := n2_; have GW427 := n3_; have GE427 := n4_; clear n0_ n1_ n2_ n3_ n4_; clear hb hbox hg) | ((with_reducible refine Z7 (N := 6) rfl ?_); refine Z4 ?hg (N := 6) ?hd (cs := #[.slice none 0 0]) (t := 24) ?hr ?_; (case hd => rfl); (case hg => rfl); (case hr => first | (go_simp; done) | (go_simp; rfl)); intro gb428 hg w16 hbox hb; have n0_ := aM (Kd.Y0 (Kd.Yx (by (with_reducible repeat first | apply Kd.Zv | apply Kd.Zu | apply Kd.Z0); exact HO0_0.out) gb428 (Nat.le_of_eq hg.symm)) hb); have n1_ := aM (Zf (g := gb427) (o := .cells #[.slice A0_0 l0_0.length c0_0] 24 (0, 0)) (by (with_reducible repeat first | apply bN | apply bD | apply bA); exact BK427.out) hb); have n2_ := aM (Zj (by repeat (first | (with_reducible first | exact HB.out | apply wA | apply wN | apply wD | refine Za ?_ GE427.out) | exact HB.out)) hb); have n3_ := aM (hbox); have n4_ := aM ((by rw [hg]; exact (Zd (by repeat (first | (with_reducible first | exact HB.out | apply wA | apply wN | apply wD | refine Za ?_ GE427.out) | exact HB.out))) : w.heap.size ≤ gb428)); have n5_ := aM ((by rw [hg]; exact (Zd (by repeat (first | (with_reducible first | exact HB.out | apply wA | apply wN | apply wD | refine Za ?_ GE427.out) | exact HB.out))) : w.heap.size ≤ gb428)); have n6_ := aM ((by rw [hg]; exact Nat.ne_of_lt (Ya (g := gb427) (o := .cells #[.slice A0_0 l0_0.length c0_0] 24 (0, 0)) (by (with_reducible repeat first | apply bN | apply bD | apply bA); exact BK427.out)) : gb427 ≠ gb428)); have n7_ := aM ((by rw [hg]; exact Nat.ne_of_gt (Ya (g := gb427) (o := .cells #[.slice A0_0 l0_0.length c0_0] 24 (0, 0)) (by (with_reducible repeat first | apply bN | apply bD | apply bA); exact BK427.out)) : gb428 ≠ gb427)); clear HO0_0 BK427 HB; have HO0_0 := n0_; have BK427 := n1_; have HB := n2_; have BK428 := n3_; have GW428 := n4_; have GE428 := n5_; have NB427_428 := n6_; have NB428_427 := n7_; clear n0_ n1_ n2_ n3_ n4_ n5_ n6_ n7_; clear hb hbox hg; have hnb17 := NB427_428.out; have hnc17 := NB428_427.out; have hcz18_0 : w16.cell? ⟨gb427, 0, none⟩ = some (.slice A0_0 l0_0.length c0_0) := (Ze BK427.out 0).trans rfl; have hfz18_0 := Zg BK427.out 0) | ((with_reducible refine Yf (f := 39) rfl ?_); refine Zap (some 10) rfl rfl Try.func39 (by kernel_rfl) rfl #[.agg #[.slice A0_0 l0_0.length c0_0], .int .i64 a1] rfl (by (try simp only [Qi, Qj, Qk]); first | done | rfl | (simp only [Qe, Qd]; rfl)) ?_; (with_reducible refine (Yn.calls _ _ l0_0 a1 true _ ?side1 ?side2 A4.out).mono ?_); (case side1 => repeat (first | exact (Kd.Zae HO0_0.out).2.2 | (with_reducible refine Kd.Yh ?_ _) | (with_reducible refine Kd.Yg ?_ _) | (with_reducible refine Kd.Yw ?_))); (case side2 => exact (Kd.Zae HO0_0.out).2.1); rintro e w19 ⟨rfl, hb⟩; refine ⟨_, rfl, ?_⟩; have n0_ := aM (Kd.Y0 (by (with_reducible repeat first | apply Kd.Zv | apply Kd.Zu | apply Kd.Z0); exact HO0_0.out) hb); have n1_ := aM (Zf (g := gb427) (o := .cells #[.slice A0_0 l0_0.length c0_0] 24 (0, 0)) (by (with_reducible repeat first | apply bN | apply bD | apply bA); exact BK427.out) hb); have n2_ := aM (Zf (g := gb428) (o := .cells #[.slice none 0 0] 24 (0, 0)) (by (with_reducible repeat first | apply bN | apply bD | apply bA); exact BK428.out) hb); have n3_ := aM (Zj (by repeat (first | (with_reducible first | exact HB.out | apply wA | apply wN | apply wD | refine Za ?_ GE427.out | refine Za ?_ GE428.out) | exact HB.out)) hb); clear HO0_0 BK427 BK428 HB; have HO0_0 := n0_; have BK427 := n1_; have BK428 := n2_; have HB := n3_; clear n0_ n1_ n2_ n3_; (try clear hb); (try clear hb2); (try clear hk); (try clear hi); (try clear hge_)))
    have n0_ := aM (Kd.Z0 HO0_0.out)
    have n1_ := aM (bD BK427.out)
    have n2_ := aM (bD BK428.out)
    have n3_ := aM (wD HB.out)
    clear HO0_0 BK427 BK428 HB
    have HO0_0 := n0_
    have BK427 := n1_
    have BK428 := n2_
    have HB := n3_
    clear n0_ n1_ n2_ n3_
    refine Zb9 (n := 8) (S := fun w' => w'.cell? ⟨gb427, 0, none⟩ = some (.slice A0_0 l0_0.length c0_0)) (ds := []) #[Qf, Qf, Qf, Qf, Qf, Qf, Qf, Qf] (by kernel_rfl) rfl rfl ((Ze BK427.out 0).trans rfl) (fun hHeld => ?_); refine Zbs Yj.tab5 Yj.bits5 (fun HT_ HW_ => ?_)
    generalize w19.drew = w20 at HO0_0 BK427 BK428 HB hHeld ⊢
    refine Yq (i := 1) (N := some 18) (v := ?_) (a' := ?_) #[Qf, Qt, Qf, Qf, Qf, Qf, Qf, Qf] rfl rfl (Yk HT_.out (by kernel_rfl)) (fun _ _ _ h => h) (Or.inl ⟨by rfl, ?_⟩) ?_ ?_
    rotate_left
    ·intro w'
     go_simp
     with_reducible rfl
    rotate_left
    ·simp only [Act.put, Qa, Qb, Qc, Z5, Z6]
     rfl
    refine Yq (i := 2) (N := some 19) (v := ?_) (a' := ?_) #[Qf, Qt, Qt, Qf, Qf, Qf, Qf, Qf] rfl rfl (Yk HT_.out (by kernel_rfl)) (fun _ _ _ h => h) (Or.inl ⟨by rfl, ?_⟩) ?_ ?_
    rotate_left
    ·intro w'
     go_simp
     with_reducible rfl
    rotate_left
    ·simp only [Act.put, Qa, Qb, Qc, Z5, Z6]
     rfl
    refine Za5 (i := 0) (N := some 17) (v := ?_) (a' := ?_) #[Qt, Qt, Qt, Qf, Qf, Qf, Qf, Qf] rfl rfl (Zac HT_.out HW_.out (by kernel_rfl)) (fun _ _ _ h => h) (Or.inl ⟨by rfl, ?_⟩) hHeld ?_ ?_
    rotate_left
    ·intro w' s0
     go_simp
     with_reducible rfl
    rotate_left
    ·simp only [Act.put, Qa, Qb, Qc, Z5, Z6]
     rfl
    refine one_ (i := 3) (N := some 20) #[Qt, Qt, Qt, Qt, Qf, Qf, Qf, Qf] rfl rfl (Za6 HT_.out (by kernel_rfl)) (by decide) (fun K hK => ?_)
    refine Kd.Za8 (Kd.int .u8) (w0 := w) w.heap.size rfl (.const (.slice none 0 0)) (.tmp 19) 30 5 (.int .u8 0) 1 rfl Try.underlying30 info5 rfl (by decide) (by omega) (.slice none 0 0) ([] : List Int) l2 _ _ _ (fun k_ => (w.heap.size ≤ k_)) (fun _ => False) rfl rfl ?aO ?aR (fun _ _ h => h) (fun _ h => h.elim) ?aF ?aB ?aS ?aL ?_
    (case aR => repeat (first | exact (Kd.Yv HR2.out HB.out) | (with_reducible refine Kd.Yh ?_ _) | (with_reducible refine Kd.Yg ?_ _) | (with_reducible refine Kd.Yw ?_)))
    (case aB => exact (by repeat (first | (with_reducible first | exact HB.out | apply wA | apply wN | apply wD | refine Za ?_ GE427.out | refine Za ?_ GE428.out) | exact HB.out)))
    (case aF => exact (fun k_ hk => (Nat.le_trans (Zd (by repeat (first | (with_reducible first | exact HB.out | apply wA | apply wN | apply wD | refine Za ?_ GE427.out | refine Za ?_ GE428.out) | exact HB.out))) hk)))
    (case aO => exact ((Kd.Zbx _ _ _ _ (fun k_ => (w.heap.size ≤ k_)))))
    (case aS => exact (Zd (by repeat (first | (with_reducible first | exact HB.out | apply wA | apply wN | apply wD | refine Za ?_ GE427.out | refine Za ?_ GE428.out) | exact HB.out))))
    (case aL => have := LMc13.out; omega)
    intro v431 w21 ho hb hg hat
    rw [← Ny430.out] at ho
    have n0_ := aM (Kd.Zb8 (Kd.Zca (by (with_reducible repeat first | apply Kd.Zv | apply Kd.Zu | apply Kd.Z0); exact HO0_0.out)) hg hat)
    have n1_ := aM (Yc (g := gb427) (o := .cells #[.slice A0_0 l0_0.length c0_0] 24 (0, 0)) (by (with_reducible repeat first | apply bN | apply bD | apply bA); exact BK427.out) hg (by simp [Value.ownBlock]))
    have n2_ := aM (Yc (g := gb428) (o := .cells #[.slice none 0 0] 24 (0, 0)) (by (with_reducible repeat first | apply bN | apply bD | apply bA); exact BK428.out) hg (by simp [Value.ownBlock]))
    have n3_ := aM (hb)
    have n4_ := aM (ho)
    clear HO0_0 BK427 BK428 HB
    have HO0_0 := n0_
    have BK427 := n1_
    have BK428 := n2_
    have HB := n3_
    have HO432 := n4_
    clear n0_ n1_ n2_ n3_ n4_ ho hb hg hat
    obtain ⟨Ao22, co22, eo22⟩ := Kd.Za2 HO432.out
    (first | subst eo22 | (injection eo22 with f1_ f2_ f3_; have f4_ := f1_.symm; have f5_ := f3_.symm; clear f1_ f2_ f3_; subst f4_; subst f5_))
    refine hK.out _ _ ((Ze BK427.out 0).trans rfl) (fun hHeld => ?_)
    clear hK K
    refine Zb2 (a' := ?_) ?_ ?_
    rotate_left
    ·show Act.put _ (some 20) _ = _
     simp only [Act.put, Qa, Qb, Qc, Z5, Z6]
     rfl
    refine Yq (i := 4) (N := some 21) (v := ?_) (a' := ?_) #[Qt, Qt, Qt, Qt, Qt, Qf, Qf, Qf] rfl rfl (Yk HT_.out (by kernel_rfl)) (fun _ _ _ h => h) (Or.inl ⟨by rfl, ?_⟩) ?_ ?_
    rotate_left
    ·intro w'
     go_simp
     with_reducible rfl
    rotate_left
    ·simp only [Act.put, Qa, Qb, Qc, Z5, Z6]
     rfl
    refine one_ (i := 5) (N := some 22) #[Qt, Qt, Qt, Qt, Qt, Qt, Qf, Qf] rfl rfl (Za6 HT_.out (by kernel_rfl)) (by decide) (fun K hK => ?_)
    refine Zdc Try.func40 (by kernel_rfl) rfl #[.agg #[.slice A0_0 l0_0.length c0_0], .int .i64 a1, .agg #[.slice Ao22 y430.length co22, .slice none 0 0]] (by rfl) rfl rfl (by (try simp only [Qi, Qj, Qk]); first | done | rfl | (simp only [Qe, Qd]; rfl)) ?_
    refine (Yi.calls (fun k_ => ((((P0_0_ k_ ∨ w.heap.size ≤ k_) ∧ k_ ≠ gb427) ∧ k_ ≠ gb428) ∧ some k_ ≠ (.slice Ao22 y430.length co22 : Value).ownBlock)) _ _ l0_0 a1 (fun k_ => some k_ = (.slice Ao22 y430.length co22 : Value).ownBlock) _ _ y430 (fun k_ => False) _ _ ([] : List Int) t433 _ ?side1 ?side2 ?side3 A14.out).mono ?_
    (case side1 => exact HO0_0.out)
    (case side2 => exact Kd.R_V (Kd.Zcu rfl (Kd.Zaf (Kd.Zaf (HO432.out) BK427.out (by decide)) BK428.out (by decide))))
    (case side3 => exact Kd.Zcr _ _ _ _ _)
    rintro e w23 ⟨v434, rfl, ho0, hb⟩
    refine ⟨_, rfl, ?_⟩
    have n0_ := aM (Kd.Zag (by (with_reducible repeat first | apply Kd.Zv | apply Kd.Zu | apply Kd.Z0); exact HO0_0.out) (by first | exact Kd.Y1 ho0 | exact Kd.Y1 (Kd.S_N ho0)) hb)
    have n1_ := aM (Kd.Zci (by (with_reducible repeat first | apply Kd.Zab | apply Kd.Yu | apply Kd.Zai); exact HO432.out) hb)
    have n2_ := aM (Kd.Zbr (Kd.Yr (ok' := fun k_ => (P0_0_ k_ ∨ w.heap.size ≤ k_) ∧ k_ ≠ gb427 ∧ k_ ≠ gb428) ho0 (fun k_ hk_ => ⟨Or.elim hk_ (fun hs_ => Or.elim hs_ (fun hs_ => hs_.1.1.1) (fun hs_ => Or.elim hs_ (fun hs_ => (.inr (((Kd.Zaf (Kd.Zaf (HO432.out) BK427.out (by decide)) BK428.out (by decide)).1 k_ hs_.symm).1.1))) (fun hs_ => (hs_).elim))) (fun hn_ => (.inr (Nat.le_trans (Zd (by repeat (first | (with_reducible first | exact HB.out | apply wA | apply wN | apply wD | refine Za ?_ GE427.out | refine Za ?_ GE428.out) | exact HB.out))) hn_))), Or.elim hk_ (fun hs_ => Or.elim hs_ (fun hs_ => hs_.1.1.2) (fun hs_ => Or.elim hs_ (fun hs_ => ((Kd.Zaf (Kd.Zaf (HO432.out) BK427.out (by decide)) BK428.out (by decide)).1 k_ hs_.symm).1.2) (fun hs_ => (hs_).elim))) (fun hn_ => (Kd.Y6 (g := gb427) (o := .cells #[.slice A0_0 l0_0.length c0_0] 24 (0, 0)) (by (with_reducible repeat first | apply bN | apply bD | apply bA); exact BK427.out) k_ hn_)), Or.elim hk_ (fun hs_ => Or.elim hs_ (fun hs_ => hs_.1.2) (fun hs_ => Or.elim hs_ (fun hs_ => ((Kd.Zaf (Kd.Zaf (HO432.out) BK427.out (by decide)) BK428.out (by decide)).1 k_ hs_.symm).2) (fun hs_ => (hs_).elim))) (fun hn_ => (Kd.Y6 (g := gb428) (o := .cells #[.slice none 0 0] 24 (0, 0)) (by (with_reducible repeat first | apply bN | apply bD | apply bA); exact BK428.out) k_ hn_))⟩)) (Zd (by repeat (first | (with_reducible first | exact HB.out | apply wA | apply wN | apply wD | refine Za ?_ GE427.out | refine Za ?_ GE428.out) | exact HB.out))))
    have n3_ := aM (Zf (g := gb427) (o := .cells #[.slice A0_0 l0_0.length c0_0] 24 (0, 0)) (by (with_reducible repeat first | apply bN | apply bD | apply bA); exact BK427.out) hb)
    have n4_ := aM (Zf (g := gb428) (o := .cells #[.slice none 0 0] 24 (0, 0)) (by (with_reducible repeat first | apply bN | apply bD | apply bA); exact BK428.out) hb)
    have n5_ := aM (Zj (by repeat (first | (with_reducible first | exact HB.out | apply wA | apply wN | apply wD | refine Za ?_ GE427.out | refine Za ?_ GE428.out) | exact HB.out)) hb)
    clear HO0_0 HO432 BK427 BK428 HB
    have HO0_0 := n0_
    have HO432 := n1_
    have HO435 := n2_
    have BK427 := n3_
    have BK428 := n4_
    have HB := n5_
    clear n0_ n1_ n2_ n3_ n4_ n5_
    (try clear hb)
    (try clear hb2)
    (try clear hk)
    (try clear hi)
    (try clear hge_)
    (try clear ho0)
    obtain ⟨Ao24, co24, eo24⟩ := Kd.Zbj HO435.out
    (first | subst eo24 | (injection eo24 with f1_ f2_ f3_; have f4_ := f1_.symm; have f5_ := f3_.symm; clear f1_ f2_ f3_; subst f4_; subst f5_))
    refine hK.out _ _ ((Ze BK427.out 0).trans rfl) (fun hHeld => ?_)
    clear hK K
    refine Zb2 (a' := ?_) ?_ ?_
    rotate_left
    ·show Act.put _ (some 22) _ = _
     simp only [Act.put, Qa, Qb, Qc, Z5, Z6]
     rfl
    refine one_ (i := 6) (N := none) #[Qt, Qt, Qt, Qt, Qt, Qt, Qt, Qf] rfl rfl (Za6 HT_.out (by kernel_rfl)) (by decide) (fun K hK => ?_)
    have hs25 : w23.cell? ⟨gb428, 0, none⟩ = some (.slice none 0 0) := (Ze BK428.out 0).trans rfl
    have hfs25 := Zg BK428.out 0
    have hns25_0 := NB427_428.out
    have hms25_0 := NB428_427.out
    refine Zcp (w1 := ?_) (by rfl) rfl ?_ ?_
    rotate_left
    ·go_simp
     rfl
    refine hK.out _ _ (((cell_far (p := ⟨gb428, _, none⟩) NB427_428.out _).trans (hHeld))) (fun hHeld => ?_)
    clear hK K
    refine Yq (i := 7) (N := some 7) (v := ?_) (a' := ?_) #[Qt, Qt, Qt, Qt, Qt, Qt, Qt, Qt] rfl rfl (Yk HT_.out (by kernel_rfl)) (fun _ _ _ h => h) (Or.inl ⟨by rfl, ?_⟩) ?_ ?_
    rotate_left
    ·intro w'
     go_simp
     with_reducible rfl
    rotate_left
    ·simp only [Act.put, Qa, Qb, Qc, Z5, Z6]
     rfl
    refine Zcv (Zcf HT_.out (by kernel_rfl)) ?_
    try go_wp2
    refine bodyPost_ret (Zau rfl _ _ gb428 24 #[.slice Ao24 t433.length co24] (0, 0) _ rfl (by (with_reducible repeat first | apply bN | apply bD | apply bA); refine Yo (cs := #[.slice none 0 0]) ?_ 0 _ rfl; (with_reducible repeat first | apply bN | apply bD | apply bA); exact BK428.out) Try.underlying24 rfl (by kernel_rfl)) rfl ?_
    exact ⟨_, by first | rfl | (simp [Zy, Zx] <;> rfl) | (simp [*, Zy, Zx] <;> rfl), by (with_reducible repeat first | apply Kd.Ym | apply Kd.Yl | apply Kd.Yy); exact Kd.Yr (Kd.Zby (p := ⟨gb428, 0, none⟩) (Kd.Yr HO435.out (fun k_ hk => (⟨hk, hk.2.2⟩ : _ ∧ k_ ≠ gb428))) (fun _ hk => hk.2) (.slice Ao24 t433.length co24)) (fun _ hk => hk.1.1), by repeat (first | (with_reducible first | exact HB.out | apply wA | apply wN | apply wD | refine Za ?_ GE427.out | refine Za ?_ GE428.out) | exact HB.out)⟩
   ·rw [if_neg c13] at H
    exact absurd H (by simp)
 ·replace c5 := Bool.eq_false_iff.mpr c5
  subst c5
  have H1 : (some (([] : List (S48)), 11)) = some (r1, r2) := by rw [if_neg (show ¬ (false = true) by decide)] at H; exact H
  clear H
  have H := H1
  clear H1
  simp only [Option.some.injEq, Prod.mk.injEq] at H
  obtain ⟨rfl, rfl⟩ := H
  go_enter Try.func33, Try.ntmps33
  go_wp2_with (first | ((with_reducible refine Z7 (N := 3) rfl ?_); refine Z4 ?hg (N := 3) ?hd (cs := #[.slice A0_0 l0_0.length c0_0]) (t := 24) ?hr ?_; (case hd => rfl); (case hg => rfl); (case hr => first | (go_simp; done) | (go_simp; rfl)); intro gb427 hg w26 hbox hb; have n0_ := aM (Kd.Y0 (Kd.Yx (by (with_reducible repeat first | apply Kd.Zv | apply Kd.Zu | apply Kd.Z0); exact HO0_0.out) gb427 (Nat.le_of_eq hg.symm)) hb); have n1_ := aM (Zj (by repeat (first | (with_reducible first | exact HB.out | apply wA | apply wN | apply wD) | exact HB.out)) hb); have n2_ := aM (hbox); have n3_ := aM ((by rw [hg]; exact (Zd (by repeat (first | (with_reducible first | exact HB.out | apply wA | apply wN | apply wD) | exact HB.out))) : w.heap.size ≤ gb427)); have n4_ := aM ((by rw [hg]; exact (Zd (by repeat (first | (with_reducible first | exact HB.out | apply wA | apply wN | apply wD) | exact HB.out))) : w.heap.size ≤ gb427)); clear HO0_0 HB; have HO0_0 := n0_; have HB := n1_; have BK427 := n2_; have GW427 := n3_; have GE427 := n4_; clear n0_ n1_ n2_ n3_ n4_; clear hb hbox hg) | ((with_reducible refine Z7 (N := 6) rfl ?_); refine Z4 ?hg (N := 6) ?hd (cs := #[.slice none 0 0]) (t := 24) ?hr ?_; (case hd => rfl); (case hg => rfl); (case hr => first | (go_simp; done) | (go_simp; rfl)); intro gb428 hg w27 hbox hb; have n0_ := aM (Kd.Y0 (Kd.Yx (by (with_reducible repeat first | apply Kd.Zv | apply Kd.Zu | apply Kd.Z0); exact HO0_0.out) gb428 (Nat.le_of_eq hg.symm)) hb); have n1_ := aM (Zf (g := gb427) (o := .cells #[.slice A0_0 l0_0.length c0_0] 24 (0, 0)) (by (with_reducible repeat first | apply bN | apply bD | apply bA); exact BK427.out) hb); have n2_ := aM (Zj (by repeat (first | (with_reducible first | exact HB.out | apply wA | apply wN | apply wD | refine Za ?_ GE427.out) | exact HB.out)) hb); have n3_ := aM (hbox); have n4_ := aM ((by rw [hg]; exact (Zd (by repeat (first | (with_reducible first | exact HB.out | apply wA | apply wN | apply wD | refine Za ?_ GE427.out) | exact HB.out))) : w.heap.size ≤ gb428)); have n5_ := aM ((by rw [hg]; exact (Zd (by repeat (first | (with_reducible first | exact HB.out | apply wA | apply wN | apply wD | refine Za ?_ GE427.out) | exact HB.out))) : w.heap.size ≤ gb428)); have n6_ := aM ((by rw [hg]; exact Nat.ne_of_lt (Ya (g := gb427) (o := .cells #[.slice A0_0 l0_0.length c0_0] 24 (0, 0)) (by (with_reducible repeat first | apply bN | apply bD | apply bA); exact BK427.out)) : gb427 ≠ gb428)); have n7_ := aM ((by rw [hg]; exact Nat.ne_of_gt (Ya (g := gb427) (o := .cells #[.slice A0_0 l0_0.length c0_0] 24 (0, 0)) (by (with_reducible repeat first | apply bN | apply bD | apply bA); exact BK427.out)) : gb428 ≠ gb427)); clear HO0_0 BK427 HB; have HO0_0 := n0_; have BK427 := n1_; have HB := n2_; have BK428 := n3_; have GW428 := n4_; have GE428 := n5_; have NB427_428 := n6_; have NB428_427 := n7_; clear n0_ n1_ n2_ n3_ n4_ n5_ n6_ n7_; clear hb hbox hg; have hnb28 := NB427_428.out; have hnc28 := NB428_427.out; have hcz29_0 : w27.cell? ⟨gb427, 0, none⟩ = some (.slice A0_0 l0_0.length c0_0) := (Ze BK427.out 0).trans rfl; have hfz29_0 := Zg BK427.out 0) | ((with_reducible refine Yf (f := 39) rfl ?_); refine Zap (some 10) rfl rfl Try.func39 (by kernel_rfl) rfl #[.agg #[.slice A0_0 l0_0.length c0_0], .int .i64 a1] rfl (by (try simp only [Qi, Qj, Qk]); first | done | rfl | (simp only [Qe, Qd]; rfl)) ?_; (with_reducible refine (Yn.calls _ _ l0_0 a1 false _ ?side1 ?side2 A4.out).mono ?_); (case side1 => repeat (first | exact (Kd.Zae HO0_0.out).2.2 | (with_reducible refine Kd.Yh ?_ _) | (with_reducible refine Kd.Yg ?_ _) | (with_reducible refine Kd.Yw ?_))); (case side2 => exact (Kd.Zae HO0_0.out).2.1); rintro e w30 ⟨rfl, hb⟩; refine ⟨_, rfl, ?_⟩; have n0_ := aM (Kd.Y0 (by (with_reducible repeat first | apply Kd.Zv | apply Kd.Zu | apply Kd.Z0); exact HO0_0.out) hb); have n1_ := aM (Zf (g := gb427) (o := .cells #[.slice A0_0 l0_0.length c0_0] 24 (0, 0)) (by (with_reducible repeat first | apply bN | apply bD | apply bA); exact BK427.out) hb); have n2_ := aM (Zf (g := gb428) (o := .cells #[.slice none 0 0] 24 (0, 0)) (by (with_reducible repeat first | apply bN | apply bD | apply bA); exact BK428.out) hb); have n3_ := aM (Zj (by repeat (first | (with_reducible first | exact HB.out | apply wA | apply wN | apply wD | refine Za ?_ GE427.out | refine Za ?_ GE428.out) | exact HB.out)) hb); clear HO0_0 BK427 BK428 HB; have HO0_0 := n0_; have BK427 := n1_; have BK428 := n2_; have HB := n3_; clear n0_ n1_ n2_ n3_; (try clear hb); (try clear hb2); (try clear hk); (try clear hi); (try clear hge_); have hcz31_0 : w30.cell? ⟨gb428, 0, none⟩ = some (.slice none 0 0) := (Ze BK428.out 0).trans rfl; have hfz31_0 := Zg BK428.out 0))
  refine bodyPost_ret (Zau rfl _ _ gb428 24 #[.slice none 0 0] (0, 0) _ rfl (by (with_reducible repeat first | apply bN | apply bD | apply bA); refine Yo (cs := #[.slice none 0 0]) ?_ 0 _ rfl; (with_reducible repeat first | apply bN | apply bD | apply bA); exact BK428.out) Try.underlying24 rfl (by kernel_rfl)) rfl ?_
  exact ⟨_, by first | rfl | (simp [Zy, Zx] <;> rfl) | (simp [*, Zy, Zx] <;> rfl), by first | exact Kd.Zc0 _ _ _ _ _ | exact Kd.Zcw _ _ _ _ _ | exact Kd.Zcr _ _ _ _ _ | exact Kd.Zc1 _ _ _ _ _ | exact Kd.Zbx _ _ _ _ _, by repeat (first | (with_reducible first | exact HB.out | apply wA | apply wN | apply wD | refine Za ?_ GE427.out | refine Za ?_ GE428.out) | exact HB.out)⟩

end Go.Proofs.Ytnfbjdnflifcoaa.PDk

namespace Go.Proofs.Ytnfbjdnflifcoaa.PDk
open Go.RowKit Go.Proofs.YtnfbjdnflifcoaaW.PrintWords Go.Proofs.YtnfbjdnflifcoaaW.PrintLast Go.Proofs.YtnfbjdnflifcoaaW.PrintMore
attribute [local go_sem] Za0 Zay Zbe Zbd Zan Zam Zaz Zax
set_option linter.unusedVariables false
set_option linter.unusedSimpArgs false

def Zat.f (l0_0 : List (S48)) (a1 : Int) : Option (List Int × Int) := (Yn.f l0_0 a1).bind fun t437 => (if t437 = true then (if 0 ≤ a1 then (if a1 < (l0_0.length : Int) then ((Zaa.f ((Zo l0_0 a1).f0) ((Zo l0_0 a1).f1)).bind fun t439 => (some (t439, 0))) else (none)) else (none)) else (some (([] : List Int), 11)))
set_option maxHeartbeats 8000000 in
set_option maxRecDepth 100000 in
theorem Zat.calls (A0_0 : Option Addr) (c0_0 : Nat) (l0_0 : List (S48)) (a1 : Int) (r1 : List Int) (r2 : Int) (w : World) (hr0_0 : Kd.C k48 w A0_0 l0_0.length l0_0) (hc0_0 : l0_0.length ≤ c0_0) (h : Zat.f l0_0 a1 = some (r1, r2)) :
  Calls Try.prog 34 #[.agg #[.slice A0_0 l0_0.length c0_0], .int .i64 a1] w fun e w' => ∃ v0_ : Value, e = .returned (.tuple #[v0_, .int .i64 r2]) ∧ Kd.R (Kd.int .u8) 5 w' w.heap.size (fun _ => True) v0_ r1 ∧ Below w.heap.size w w' := by
 have hu24 := Try.underlying24
 have hu48 := Try.underlying48
 have HR0_0 := aM hr0_0
 have HC0_0 := aM hc0_0
 clear hr0_0 hc0_0
 have HB := aM (Below.refl w.heap.size w)
 have H : ((Yn.f l0_0 a1).bind fun t437 => (if t437 = true then (if 0 ≤ a1 then (if a1 < (l0_0.length : Int) then ((Zaa.f ((Zo l0_0 a1).f0) ((Zo l0_0 a1).f1)).bind fun t439 => (some (t439, 0))) else (none)) else (none)) else (some (([] : List Int), 11)))) = some (r1, r2) := h
 clear h
 replace H := Option.bind_eq_some_iff.mp H
 obtain ⟨t437, A30, H⟩ := H
 replace H : (if t437 = true then (if 0 ≤ a1 then (if a1 < (l0_0.length : Int) then ((Zaa.f ((Zo l0_0 a1).f0) ((Zo l0_0 a1).f1)).bind fun t439 => (some (t439, 0))) else (none)) else (none)) else (some (([] : List Int), 11))) = some (r1, r2) := H
 have A3 := aM A30
 clear A30
 by_cases c4 : t437 = true
 ·subst c4
  have H1 : (if 0 ≤ a1 then (if a1 < (l0_0.length : Int) then ((Zaa.f ((Zo l0_0 a1).f0) ((Zo l0_0 a1).f1)).bind fun t439 => (some (t439, 0))) else (none)) else (none)) = some (r1, r2) := by rw [if_pos rfl] at H; exact H
  clear H
  have H := H1
  clear H1
  by_cases c5 : 0 ≤ a1
  ·rw [if_pos c5] at H
   have c5b0 : decide (0 ≤ a1) = true := decide_eq_true c5
   clear c5
   by_cases c6 : a1 < (l0_0.length : Int)
   ·rw [if_pos c6] at H
    have c6b0 : decide (a1 < (l0_0.length : Int)) = true := decide_eq_true c6
    clear c6
    replace H := Option.bind_eq_some_iff.mp H
    obtain ⟨t439, A70, H⟩ := H
    replace H : (some (t439, 0)) = some (r1, r2) := H
    have A7 := aM A70
    clear A70
    simp only [Option.some.injEq, Prod.mk.injEq] at H
    obtain ⟨rfl, rfl⟩ := H
    go_enter Try.func34, Try.ntmps34
    go_wp2_with (first | ((with_reducible refine Z7 (N := 2) rfl ?_); refine Z4 ?hg (N := 2) ?hd (cs := #[.slice A0_0 l0_0.length c0_0]) (t := 24) ?hr ?_; (case hd => rfl); (case hg => rfl); (case hr => first | (go_simp; done) | (go_simp; rfl)); intro gb436 hg w8 hbox hb; have n0_ := aM (Zj (by repeat (first | (with_reducible first | exact HB.out | apply wA | apply wN | apply wD) | exact HB.out)) hb); have n1_ := aM (hbox); have n2_ := aM ((by rw [hg]; exact (Zd (by repeat (first | (with_reducible first | exact HB.out | apply wA | apply wN | apply wD) | exact HB.out))) : w.heap.size ≤ gb436)); have n3_ := aM ((by rw [hg]; exact (Zd (by repeat (first | (with_reducible first | exact HB.out | apply wA | apply wN | apply wD) | exact HB.out))) : w.heap.size ≤ gb436)); clear HB; have HB := n0_; have BK436 := n1_; have GW436 := n2_; have GE436 := n3_; clear n0_ n1_ n2_ n3_; clear hb hbox hg; have hcz9_0 : w8.cell? ⟨gb436, 0, none⟩ = some (.slice A0_0 l0_0.length c0_0) := (Ze BK436.out 0).trans rfl; have hfz9_0 := Zg BK436.out 0) | ((with_reducible refine Yf (f := 39) rfl ?_); refine Zap (some 8) rfl rfl Try.func39 (by kernel_rfl) rfl #[.agg #[.slice A0_0 l0_0.length c0_0], .int .i64 a1] rfl (by (try simp only [Qi, Qj, Qk]); first | done | rfl | (simp only [Qe, Qd]; rfl)) ?_; (with_reducible refine (Yn.calls _ _ l0_0 a1 true _ ?side1 ?side2 A3.out).mono ?_); (case side1 => repeat (first | exact (Kd.Yv HR0_0.out HB.out) | (with_reducible refine Kd.Yh ?_ _) | (with_reducible refine Kd.Yg ?_ _) | (with_reducible refine Kd.Yw ?_))); (case side2 => exact HC0_0.out); rintro e w10 ⟨rfl, hb⟩; refine ⟨_, rfl, ?_⟩; have n0_ := aM (Zf (g := gb436) (o := .cells #[.slice A0_0 l0_0.length c0_0] 24 (0, 0)) (by (with_reducible repeat first | apply bN | apply bD | apply bA); exact BK436.out) hb); have n1_ := aM (Zj (by repeat (first | (with_reducible first | exact HB.out | apply wA | apply wN | apply wD | refine Za ?_ GE436.out) | exact HB.out)) hb); clear BK436 HB; have BK436 := n0_; have HB := n1_; clear n0_ n1_; (try clear hb); (try clear hb2); (try clear hk); (try clear hi); (try clear hge_); have hcz11_0 : w10.cell? ⟨gb436, 0, none⟩ = some (.slice A0_0 l0_0.length c0_0) := (Ze BK436.out 0).trans rfl; have hfz11_0 := Zg BK436.out 0; have p438 : 0 ≤ (a1 : Int) := of_decide_eq_true (by first | (with_reducible assumption) | assumption); have q438 : a1 < (l0_0.length : Int) := of_decide_eq_true (by first | (with_reducible assumption) | assumption); obtain ⟨ad438, A438_0, c438_0, A438_1, c438_1, e438, hx438_0, hx438_1, hl438_0, hi438_0, hl438_1, hi438_1⟩ := Zbl HR0_0.out a1 p438 q438; cases e438; replace hx438_0 := (HB.out.cell (Qw w _ hx438_0)).trans hx438_0; replace hx438_1 := (HB.out.cell (Qw w _ hx438_1)).trans hx438_1; have HR438_0 := aM hi438_0; have HC438_0 := aM hl438_0; clear hi438_0 hl438_0; have HR438_1 := aM hi438_1; have HC438_1 := aM hl438_1; clear hi438_1 hl438_1; replace p438 := eq_true p438; replace q438 := eq_true q438) | ((with_reducible refine Yf (f := 41) rfl ?_); refine Zap (some 15) rfl rfl Try.func41 (by kernel_rfl) rfl #[.agg #[.slice A438_0 ((Zo l0_0 a1).f0).length c438_0, .slice A438_1 ((Zo l0_0 a1).f1).length c438_1]] rfl (by (try simp only [Qi, Qj, Qk]); first | done | rfl | (simp only [Qe, Qd]; rfl)) ?_; (with_reducible refine (Zaa.calls _ _ ((Zo l0_0 a1).f0) _ _ ((Zo l0_0 a1).f1) t439 _ ?side1 ?side2 ?side3 ?side4 A7.out).mono ?_); (case side1 => repeat (first | exact (Kd.Yv HR438_0.out HB.out) | (with_reducible refine Kd.Yh ?_ _) | (with_reducible refine Kd.Yg ?_ _) | (with_reducible refine Kd.Yw ?_))); (case side2 => exact HC438_0.out); (case side3 => repeat (first | exact (Kd.Yv HR438_1.out HB.out) | (with_reducible refine Kd.Yh ?_ _) | (with_reducible refine Kd.Yg ?_ _) | (with_reducible refine Kd.Yw ?_))); (case side4 => exact HC438_1.out); rintro e w12 ⟨v440, rfl, ho0, hb⟩; refine ⟨_, rfl, ?_⟩; have n0_ := aM (Kd.Zb1 ho0 (Zd (by repeat (first | (with_reducible first | exact HB.out | apply wA | apply wN | apply wD | refine Za ?_ GE436.out) | exact HB.out)))); have n1_ := aM (Zf (g := gb436) (o := .cells #[.slice (some ad438) l0_0.length c0_0] 24 (0, 0)) (by (with_reducible repeat first | apply bN | apply bD | apply bA); exact BK436.out) hb); have n2_ := aM (Zj (by repeat (first | (with_reducible first | exact HB.out | apply wA | apply wN | apply wD | refine Za ?_ GE436.out) | exact HB.out)) hb); clear BK436 HB; have HO441 := n0_; have BK436 := n1_; have HB := n2_; clear n0_ n1_ n2_; (try clear hb); (try clear hb2); (try clear hk); (try clear hi); (try clear hge_); (try clear ho0)))
    go_ret2
    exact ⟨_, by first | rfl | (simp [Zy, Zx] <;> rfl) | (simp [*, Zy, Zx] <;> rfl), by (with_reducible repeat first | apply Kd.Zab | apply Kd.Yu | apply Kd.Zai); exact HO441.out, by repeat (first | (with_reducible first | exact HB.out | apply wA | apply wN | apply wD | refine Za ?_ GE436.out) | exact HB.out)⟩
   ·rw [if_neg c6] at H
    exact absurd H (by simp)
  ·rw [if_neg c5] at H
   exact absurd H (by simp)
 ·replace c4 := Bool.eq_false_iff.mpr c4
  subst c4
  have H1 : (some (([] : List Int), 11)) = some (r1, r2) := by rw [if_neg (show ¬ (false = true) by decide)] at H; exact H
  clear H
  have H := H1
  clear H1
  simp only [Option.some.injEq, Prod.mk.injEq] at H
  obtain ⟨rfl, rfl⟩ := H
  go_enter Try.func34, Try.ntmps34
  go_wp2_with (first | ((with_reducible refine Z7 (N := 2) rfl ?_); refine Z4 ?hg (N := 2) ?hd (cs := #[.slice A0_0 l0_0.length c0_0]) (t := 24) ?hr ?_; (case hd => rfl); (case hg => rfl); (case hr => first | (go_simp; done) | (go_simp; rfl)); intro gb436 hg w13 hbox hb; have n0_ := aM (Zj (by repeat (first | (with_reducible first | exact HB.out | apply wA | apply wN | apply wD) | exact HB.out)) hb); have n1_ := aM (hbox); have n2_ := aM ((by rw [hg]; exact (Zd (by repeat (first | (with_reducible first | exact HB.out | apply wA | apply wN | apply wD) | exact HB.out))) : w.heap.size ≤ gb436)); have n3_ := aM ((by rw [hg]; exact (Zd (by repeat (first | (with_reducible first | exact HB.out | apply wA | apply wN | apply wD) | exact HB.out))) : w.heap.size ≤ gb436)); clear HB; have HB := n0_; have BK436 := n1_; have GW436 := n2_; have GE436 := n3_; clear n0_ n1_ n2_ n3_; clear hb hbox hg; have hcz14_0 : w13.cell? ⟨gb436, 0, none⟩ = some (.slice A0_0 l0_0.length c0_0) := (Ze BK436.out 0).trans rfl; have hfz14_0 := Zg BK436.out 0) | ((with_reducible refine Yf (f := 39) rfl ?_); refine Zap (some 8) rfl rfl Try.func39 (by kernel_rfl) rfl #[.agg #[.slice A0_0 l0_0.length c0_0], .int .i64 a1] rfl (by (try simp only [Qi, Qj, Qk]); first | done | rfl | (simp only [Qe, Qd]; rfl)) ?_; (with_reducible refine (Yn.calls _ _ l0_0 a1 false _ ?side1 ?side2 A3.out).mono ?_); (case side1 => repeat (first | exact (Kd.Yv HR0_0.out HB.out) | (with_reducible refine Kd.Yh ?_ _) | (with_reducible refine Kd.Yg ?_ _) | (with_reducible refine Kd.Yw ?_))); (case side2 => exact HC0_0.out); rintro e w15 ⟨rfl, hb⟩; refine ⟨_, rfl, ?_⟩; have n0_ := aM (Zf (g := gb436) (o := .cells #[.slice A0_0 l0_0.length c0_0] 24 (0, 0)) (by (with_reducible repeat first | apply bN | apply bD | apply bA); exact BK436.out) hb); have n1_ := aM (Zj (by repeat (first | (with_reducible first | exact HB.out | apply wA | apply wN | apply wD | refine Za ?_ GE436.out) | exact HB.out)) hb); clear BK436 HB; have BK436 := n0_; have HB := n1_; clear n0_ n1_; (try clear hb); (try clear hb2); (try clear hk); (try clear hi); (try clear hge_)))
  go_ret2
  exact ⟨_, by first | rfl | (simp [Zy, Zx] <;> rfl) | (simp [*, Zy, Zx] <;> rfl), by first | exact Kd.Zbx _ _ _ _ _ | exact Kd.Zcw _ _ _ _ _ | exact Kd.Zcr _ _ _ _ _ | exact Kd.Zc1 _ _ _ _ _ | exact Kd.Zc0 _ _ _ _ _, by repeat (first | (with_reducible first | exact HB.out | apply wA | apply wN | apply wD | refine Za ?_ GE436.out) | exact HB.out)⟩

end Go.Proofs.Ytnfbjdnflifcoaa.PDk
