/- Texts of one proof, joined: part 5. No condition. -/
import Derived.Test.YtnfbjdnflifcoaaMp4
import Derived.ProofKit
import Derived.Deep.Slices
import Derived.SizedLaws
import Derived.Lib.SmallJoins
import Derived.Test.YtnfbjdnflifcoaaRows
import Derived.WalkKit
import Derived.OpenShut
import Derived.ShutString
import Derived.ChangeOld
import Derived.Below
open List renaming setIfInBounds_toArray → Qa, set_cons_zero → Qb, set_cons_succ → Qc, length_take → Qd, length_drop → Qe, map_toArray → Qi, map_cons → Qj, map_nil → Qk, getElem?_eq_getElem → Qm
open Bool renaming false → Qf, true → Qt
open Go.World renaming block_lt_of_cell? → Qw
namespace Go.Proofs.Ytnfbjdnflifcoaa.PDk
open Go.RowKit Go.Proofs.YtnfbjdnflifcoaaW.PrintWords Go.Proofs.YtnfbjdnflifcoaaW.PrintLast Go.Proofs.YtnfbjdnflifcoaaW.PrintMore
attribute [local go_sem] Za0 Zay Zbe Zbd Zan Zam Zaz Zax
set_option linter.unusedVariables false
set_option linter.unusedSimpArgs false

mutual
def Zh.j0 : Nat → List Int → Bool → Option (Bool)
 | 0, _, _ => none
 | k + 1, x1, x34 => if x34 = true then (some false) else ((Zbb.f x1 200).bind fun bt518 => ((Zbn.f 3).bind fun bt521 => ((Y4.f 3).bind fun bt525 => (Zh.l0 k 0 bt521.1 bt525.1 bt518.1 bt518.2))))
def Zh.l0 : Nat → Int → List (S48) → List (S48) → List Int → Int → Option (Bool)
 | 0, _, _, _, _, _ => none
 | k + 1, x10, x512000, x517000, x521000, x521001 => if x10 < 20 then ((Zc.f k x521000 x521001 x512000 x517000).bind fun bt529 => (if bt529.2.2.1 = true then (Zh.l0 k (wrap64 (x10 + 1)) bt529.1 bt529.2.1 x521000 bt529.2.2.2) else (some false))) else (some true)
end
def Zh.f (k : Nat) (a0 : Int) (l1 : List Int) : Option (Bool) := (Zw.f k).bind fun t506 => (if t506 = true then ((Zbn.f a0).bind fun bt507 => ((Y4.f a0).bind fun bt512 => (if bt507.2 = bt512.2 then ((Zl.f k bt507.1 bt512.1).bind fun t517 => (Zh.j0 k l1 (!t517))) else (Zh.j0 k l1 true)))) else (some false))
theorem Zh.Zbk : ∀ k, (∀ y0 y1, LeO (Zh.j0 k y0 y1) (Zh.j0 (k + 1) y0 y1)) ∧ (∀ y0 y1 y2 y3 y4, LeO (Zh.l0 k y0 y1 y2 y3 y4) (Zh.l0 (k + 1) y0 y1 y2 y3 y4))
 | 0 => ⟨fun _ _ r h => by simp [Zh.j0] at h, fun _ _ _ _ _ r h => by simp [Zh.l0] at h⟩
 | k + 1 => by
  obtain ⟨ih0, ih1⟩ := Zh.Zbk k
  refine ⟨?_, ?_⟩
  ·intro y0 y1
   unfold Zh.j0
   repeat' first
   | (with_reducible exact ih0 _ _)
   | (with_reducible exact ih1 _ _ _ _ _)
   | (with_reducible exact Zw.mono _)
   | (with_reducible exact Zc.mono _ _ _ _ _)
   | (with_reducible exact Zl.mono _ _ _)
   | (with_reducible exact LeO.refl _)
   | (with_reducible exact LeO.none _)
   | (with_reducible refine LeO.ite ?_ ?_)
   | (with_reducible refine LeO.bind ?_ (fun _ => ?_))
   | exact ih0 _ _
   | exact ih1 _ _ _ _ _
   | exact Zw.mono _
   | exact Zc.mono _ _ _ _ _
   | exact Zl.mono _ _ _
   | exact LeO.none _
   | refine LeO.ite ?_ ?_
   | refine LeO.bind ?_ (fun _ => ?_)
  ·intro y0 y1 y2 y3 y4
   unfold Zh.l0
   repeat' first
   | (with_reducible exact ih0 _ _)
   | (with_reducible exact ih1 _ _ _ _ _)
   | (with_reducible exact Zw.mono _)
   | (with_reducible exact Zc.mono _ _ _ _ _)
   | (with_reducible exact Zl.mono _ _ _)
   | (with_reducible exact LeO.refl _)
   | (with_reducible exact LeO.none _)
   | (with_reducible refine LeO.ite ?_ ?_)
   | (with_reducible refine LeO.bind ?_ (fun _ => ?_))
   | exact ih0 _ _
   | exact ih1 _ _ _ _ _
   | exact Zw.mono _
   | exact Zc.mono _ _ _ _ _
   | exact Zl.mono _ _ _
   | exact LeO.none _
   | refine LeO.ite ?_ ?_
   | refine LeO.bind ?_ (fun _ => ?_)
theorem Zh.mono : ∀ a0 a1 k, LeO (Zh.f k a0 a1) (Zh.f (k + 1) a0 a1) := by
 intro a0 a1 k
 obtain ⟨ih0, ih1⟩ := Zh.Zbk k
 unfold Zh.f
 repeat' first
   | (with_reducible exact ih0 _ _)
   | (with_reducible exact ih1 _ _ _ _ _)
   | (with_reducible exact Zw.mono _)
   | (with_reducible exact Zc.mono _ _ _ _ _)
   | (with_reducible exact Zl.mono _ _ _)
   | (with_reducible exact LeO.refl _)
   | (with_reducible exact LeO.none _)
   | (with_reducible refine LeO.ite ?_ ?_)
   | (with_reducible refine LeO.bind ?_ (fun _ => ?_))
   | exact ih0 _ _
   | exact ih1 _ _ _ _ _
   | exact Zw.mono _
   | exact Zc.mono _ _ _ _ _
   | exact Zl.mono _ _ _
   | exact LeO.none _
   | refine LeO.ite ?_ ?_
   | refine LeO.bind ?_ (fun _ => ?_)
set_option maxHeartbeats 8000000 in
set_option maxRecDepth 100000 in
theorem Zh.calls (k : Nat) (a0 : Int) (A1 : Option Addr) (c1 : Nat) (l1 : List Int) (r : Bool) (w : World) (hr1 : Kd.C (Kd.int .u8) w A1 l1.length l1) (hc1 : l1.length ≤ c1) (h : Zh.f k a0 l1 = some r) :
  Calls Try.prog 7 #[.int .i64 a0, .slice A1 l1.length c1] w fun e w' => e = .returned (.bool r) ∧ Below w.heap.size w w' := by
 have hu24 := Try.underlying24
 have HR1 := aM hr1
 have HC1 := aM hc1
 clear hr1 hc1
 have HB := aM (Below.refl w.heap.size w)
 have H : ((Zw.f k).bind fun t506 => (if t506 = true then ((Zbn.f a0).bind fun bt507 => ((Y4.f a0).bind fun bt512 => (if bt507.2 = bt512.2 then ((Zl.f k bt507.1 bt512.1).bind fun t517 => (Zh.j0 k l1 (!t517))) else (Zh.j0 k l1 true)))) else (some false))) = some r := h
 clear h
 replace H := Option.bind_eq_some_iff.mp H
 obtain ⟨t506, A30, H⟩ := H
 replace H : (if t506 = true then ((Zbn.f a0).bind fun bt507 => ((Y4.f a0).bind fun bt512 => (if bt507.2 = bt512.2 then ((Zl.f k bt507.1 bt512.1).bind fun t517 => (Zh.j0 k l1 (!t517))) else (Zh.j0 k l1 true)))) else (some false)) = some r := H
 have A3 := aM A30
 clear A30
 by_cases c4 : t506 = true
 ·subst c4
  have H1 : ((Zbn.f a0).bind fun bt507 => ((Y4.f a0).bind fun bt512 => (if bt507.2 = bt512.2 then ((Zl.f k bt507.1 bt512.1).bind fun t517 => (Zh.j0 k l1 (!t517))) else (Zh.j0 k l1 true)))) = some r := by rw [if_pos rfl] at H; exact H
  clear H
  have H := H1
  clear H1
  replace H := Option.bind_eq_some_iff.mp H
  obtain ⟨⟨t507, t510⟩, A50, H⟩ := H
  replace H : ((Y4.f a0).bind fun bt512 => (if t510 = bt512.2 then ((Zl.f k t507 bt512.1).bind fun t517 => (Zh.j0 k l1 (!t517))) else (Zh.j0 k l1 true))) = some r := H
  have A5 := aM A50
  clear A50
  replace H := Option.bind_eq_some_iff.mp H
  obtain ⟨⟨t512, t515⟩, A60, H⟩ := H
  replace H : (if t510 = t515 then ((Zl.f k t507 t512).bind fun t517 => (Zh.j0 k l1 (!t517))) else (Zh.j0 k l1 true)) = some r := H
  have A6 := aM A60
  clear A60
  have HC7 := aM H
  clear H
  go_enter Try.func7, Try.ntmps7
  go_upto_region 5 with (first | ((with_reducible refine Yf (f := 9) rfl ?_); refine Zap (some 14) rfl rfl Try.func9 (by kernel_rfl) rfl #[] rfl (by (try simp only [Qi, Qj, Qk]); first | done | rfl | (simp only [Qe, Qd]; rfl)) ?_; (with_reducible refine (Zw.calls k  true _ A3.out).mono ?_); rintro e w8 ⟨rfl, hb⟩; refine ⟨_, rfl, ?_⟩; have n0_ := aM (Zj (by repeat (first | (with_reducible first | exact HB.out | apply wA | apply wN | apply wD) | exact HB.out)) hb); clear HB; have HB := n0_; clear n0_; (try clear hb); (try clear hb2); (try clear hk); (try clear hi); (try clear hge_)) | ((with_reducible refine Yf (f := 13) rfl ?_); refine Zap (some 18) rfl rfl Try.func13 (by kernel_rfl) rfl #[.int .i64 a0] rfl (by (try simp only [Qi, Qj, Qk]); first | done | rfl | (simp only [Qe, Qd]; rfl)) ?_; (with_reducible refine (Zbn.calls a0 t507 t510 _ A5.out).mono ?_); rintro e w9 ⟨v508, rfl, ho0, hb⟩; refine ⟨_, rfl, ?_⟩; have n0_ := aM (Kd.Zbr (Kd.Yr (ok' := fun k_ => True) (Kd.S_N (Kd.Zcb ho0)) (fun k_ hk_ => trivial)) (Zd (by repeat (first | (with_reducible first | exact HB.out | apply wA | apply wN | apply wD) | exact HB.out)))); have n1_ := aM (Zj (by repeat (first | (with_reducible first | exact HB.out | apply wA | apply wN | apply wD) | exact HB.out)) hb); clear HB; have HO509 := n0_; have HB := n1_; clear n0_ n1_; (try clear hb); (try clear hb2); (try clear hk); (try clear hi); (try clear hge_); (try clear ho0)) | ((with_reducible refine Z7 (N := 5) rfl ?_); refine Z4 ?hg (N := 5) ?hd (cs := #[.slice none 0 0]) (t := 24) ?hr ?_; (case hd => rfl); (case hg => rfl); (case hr => first | (go_simp; done) | (go_simp; rfl)); intro gb511 hg w10 hbox hb; have n0_ := aM (Kd.Zcj (Kd.Zdn (by (with_reducible repeat first | apply Kd.Ym | apply Kd.Yl | apply Kd.Yy); exact HO509.out) gb511 (Nat.le_of_eq hg.symm)) hb); have n1_ := aM (Zj (by repeat (first | (with_reducible first | exact HB.out | apply wA | apply wN | apply wD) | exact HB.out)) hb); have n2_ := aM (hbox); have n3_ := aM ((by rw [hg]; exact (Zd (by repeat (first | (with_reducible first | exact HB.out | apply wA | apply wN | apply wD) | exact HB.out))) : w.heap.size ≤ gb511)); have n4_ := aM ((by rw [hg]; exact (Zd (by repeat (first | (with_reducible first | exact HB.out | apply wA | apply wN | apply wD) | exact HB.out))) : w.heap.size ≤ gb511)); clear HO509 HB; have HO509 := n0_; have HB := n1_; have BK511 := n2_; have GW511 := n3_; have GE511 := n4_; clear n0_ n1_ n2_ n3_ n4_; clear hb hbox hg; obtain ⟨Ao11, co11, eo11⟩ := Kd.Zbj HO509.out; subst eo11; have hcz12_0 : w10.cell? ⟨gb511, 0, none⟩ = some (.slice none 0 0) := (Ze BK511.out 0).trans rfl; have hfz12_0 := Zg BK511.out 0) | ((with_reducible refine Yf (f := 21) rfl ?_); refine Zap (some 23) rfl rfl Try.func21 (by kernel_rfl) rfl #[.int .i64 a0] rfl (by (try simp only [Qi, Qj, Qk]); first | done | rfl | (simp only [Qe, Qd]; rfl)) ?_; (with_reducible refine (Y4.calls a0 t512 t515 _ A6.out).mono ?_); rintro e w13 ⟨v513, rfl, ho0, hb⟩; refine ⟨_, rfl, ?_⟩; have n0_ := aM (Kd.Za4 (by (with_reducible repeat first | apply Kd.Ym | apply Kd.Yl | apply Kd.Yy); exact (Kd.Yr (Kd.Zby (p := ⟨gb511, 0, none⟩) (Kd.Yr HO509.out (fun k_ hk => (⟨hk, hk.2⟩ : _ ∧ k_ ≠ gb511))) (fun _ hk => hk.2) (.slice Ao11 t507.length co11)) (fun _ h_ => h_.1))) (by first | exact Kd.Y1 ho0 | exact Kd.Y1 (Kd.S_N ho0)) hb); have n1_ := aM (Kd.Zbr (Kd.Yr (ok' := fun k_ => some k_ ≠ (.slice Ao11 t507.length co11 : Value).ownBlock ∧ k_ ≠ gb511) (Kd.S_N (Kd.Zcb ho0)) (fun k_ hk_ => ⟨(Kd.fresh' (Kd.N_lt (by (with_reducible repeat first | apply Kd.Ym | apply Kd.Yl | apply Kd.Yy); exact (Kd.Yr (Kd.Zby (p := ⟨gb511, 0, none⟩) (Kd.Yr HO509.out (fun k_ hk => (⟨hk, hk.2⟩ : _ ∧ k_ ≠ gb511))) (fun _ hk => hk.2) (.slice Ao11 t507.length co11)) (fun _ h_ => h_.1)))) k_ hk_.2.1), (Kd.Y6 (g := gb511) (o := .cells #[.slice Ao11 t507.length co11] 24 (0, 0)) (by (with_reducible repeat first | apply bN | apply bD | apply bA); refine Yo (cs := #[.slice none 0 0]) ?_ 0 _ rfl; (with_reducible repeat first | apply bN | apply bD | apply bA); exact BK511.out) k_ hk_.2.1)⟩)) (Zd (by repeat (first | (with_reducible first | exact HB.out | apply wA | apply wN | apply wD | refine Za ?_ GE511.out) | exact HB.out)))); have n2_ := aM (Zf (g := gb511) (o := .cells #[.slice Ao11 t507.length co11] 24 (0, 0)) (by (with_reducible repeat first | apply bN | apply bD | apply bA); refine Yo (cs := #[.slice none 0 0]) ?_ 0 _ rfl; (with_reducible repeat first | apply bN | apply bD | apply bA); exact BK511.out) hb); have n3_ := aM (Zj (by repeat (first | (with_reducible first | exact HB.out | apply wA | apply wN | apply wD | refine Za ?_ GE511.out) | exact HB.out)) hb); clear HO509 BK511 HB; have HO509 := n0_; have HO514 := n1_; have BK511 := n2_; have HB := n3_; clear n0_ n1_ n2_ n3_; (try clear hb); (try clear hb2); (try clear hk); (try clear hi); (try clear hge_); (try clear ho0)) | ((with_reducible refine Z7 (N := 7) rfl ?_); refine Z4 ?hg (N := 7) ?hd (cs := #[.slice none 0 0]) (t := 24) ?hr ?_; (case hd => rfl); (case hg => rfl); (case hr => first | (go_simp; done) | (go_simp; rfl)); intro gb516 hg w14 hbox hb; have n0_ := aM (Kd.Zcj (Kd.Zdn (by (with_reducible repeat first | apply Kd.Ym | apply Kd.Yl | apply Kd.Yy); exact HO509.out) gb516 (Nat.le_of_eq hg.symm)) hb); have n1_ := aM (Kd.Zcj (Kd.Zdn (by (with_reducible repeat first | apply Kd.Ym | apply Kd.Yl | apply Kd.Yy); exact HO514.out) gb516 (Nat.le_of_eq hg.symm)) hb); have n2_ := aM (Zf (g := gb511) (o := .cells #[.slice Ao11 t507.length co11] 24 (0, 0)) (by (with_reducible repeat first | apply bN | apply bD | apply bA); exact BK511.out) hb); have n3_ := aM (Zj (by repeat (first | (with_reducible first | exact HB.out | apply wA | apply wN | apply wD | refine Za ?_ GE511.out) | exact HB.out)) hb); have n4_ := aM (hbox); have n5_ := aM ((by rw [hg]; exact (Zd (by repeat (first | (with_reducible first | exact HB.out | apply wA | apply wN | apply wD | refine Za ?_ GE511.out) | exact HB.out))) : w.heap.size ≤ gb516)); have n6_ := aM ((by rw [hg]; exact (Zd (by repeat (first | (with_reducible first | exact HB.out | apply wA | apply wN | apply wD | refine Za ?_ GE511.out) | exact HB.out))) : w.heap.size ≤ gb516)); have n7_ := aM ((by rw [hg]; exact Nat.ne_of_lt (Ya (g := gb511) (o := .cells #[.slice Ao11 t507.length co11] 24 (0, 0)) (by (with_reducible repeat first | apply bN | apply bD | apply bA); exact BK511.out)) : gb511 ≠ gb516)); have n8_ := aM ((by rw [hg]; exact Nat.ne_of_gt (Ya (g := gb511) (o := .cells #[.slice Ao11 t507.length co11] 24 (0, 0)) (by (with_reducible repeat first | apply bN | apply bD | apply bA); exact BK511.out)) : gb516 ≠ gb511)); clear HO509 HO514 BK511 HB; have HO509 := n0_; have HO514 := n1_; have BK511 := n2_; have HB := n3_; have BK516 := n4_; have GW516 := n5_; have GE516 := n6_; have NB511_516 := n7_; have NB516_511 := n8_; clear n0_ n1_ n2_ n3_ n4_ n5_ n6_ n7_ n8_; clear hb hbox hg; obtain ⟨Ao15, co15, eo15⟩ := Kd.Zbj HO514.out; subst eo15; have hnb16 := NB516_511.out; have hnc16 := NB511_516.out; have hcz17_0 : w14.cell? ⟨gb516, 0, none⟩ = some (.slice none 0 0) := (Ze BK516.out 0).trans rfl; have hfz17_0 := Zg BK516.out 0))
  (try simp only [Act.put, Qa, Qb, Qc])
  go_cut [34] (fun v34 wc => ∃ (kq : Nat) (x34_6 : Bool), v34 = .bool x34_6 ∧ Zq (Zh.j0 kq l1 x34_6 = some r) ∧ Zq (kq ≤ k) ∧ Zq (Kd.N k48 48 wc w.heap.size (fun k_ => k_ ≠ gb511 ∧ k_ ≠ gb516) (.slice Ao11 t507.length co11) t507) ∧ Zq (Kd.N k48 48 wc w.heap.size (fun k_ => k_ ≠ gb511 ∧ k_ ≠ gb516) (.slice Ao15 t512.length co15) t512) ∧ Zq (wc.heap[gb511]? = some (.cells #[(.slice Ao11 t507.length co11)] 24 (0, 0))) ∧ Zq (wc.heap[gb516]? = some (.cells #[(.slice Ao15 t512.length co15)] 24 (0, 0))) ∧ Zq (Below w.heap.size w wc))
  case first =>
   have H := HC7.out
   clear HC7
   by_cases c18 : t510 = t515
   ·rw [if_pos c18] at H
    have c18b0 : (t510 == t515) = true := beq_iff_eq.mpr c18
    have c18b1 : (t510 != t515) = false := bne_eq_false_iff_eq.mpr c18
    clear c18
    (first | rw [c18b0] | (simp only [Z5, Z6]; rw [c18b0]) | skip)
    replace H := Option.bind_eq_some_iff.mp H
    obtain ⟨t517, A190, H⟩ := H
    replace H : (Zh.j0 k l1 (!t517)) = some r := H
    have A19 := aM A190
    clear A190
    have H' := aM H
    clear H
    have hnb20 := NB511_516.out
    have hnc20 := NB516_511.out
    have hcz21_0 : w14.cell? ⟨gb511, 0, none⟩ = some (.slice Ao11 t507.length co11) := (Ze BK511.out 0).trans rfl
    have hfz21_0 := Zg BK511.out 0
    have hcz22_0 : w14.cell? ⟨gb516, 0, none⟩ = some (.slice none 0 0) := (Ze BK516.out 0).trans rfl
    have hfz22_0 := Zg BK516.out 0
    go_wp2_with (first | (go_at_call 10; (with_reducible refine (Zl.calls k _ _ t507 _ _ t512 t517 _ ?side1 ?side2 ?side3 ?side4 A19.out).mono ?_); (case side1 => refine (Kd.Za9 (e := 48) (base := w.heap.size) (ok := fun k_ => (((True ∧ k_ ≠ gb511) ∧ some k_ ≠ (.slice Ao15 t512.length co15 : Value).ownBlock) ∧ k_ ≠ gb516)) (n := t507.length) (c := co11) ?_).2.2; exact (by (with_reducible repeat first | apply Kd.Ym | apply Kd.Yl | apply Kd.Yy); exact (Kd.Yr (Kd.Zby (p := ⟨gb516, 0, none⟩) (Kd.Yr HO509.out (fun k_ hk => (⟨hk, hk.2⟩ : _ ∧ k_ ≠ gb516))) (fun _ hk => hk.2) (.slice Ao15 t512.length co15)) (fun _ h_ => h_.1)))); (case side2 => exact (Kd.Za9 HO509.out).2.1); (case side3 => refine (Kd.Za9 (e := 48) (base := w.heap.size) (ok := fun k_ => ((some k_ ≠ (.slice Ao11 t507.length co11 : Value).ownBlock ∧ k_ ≠ gb511) ∧ k_ ≠ gb516)) (n := t512.length) (c := co15) ?_).2.2; exact (by (with_reducible repeat first | apply Kd.Ym | apply Kd.Yl | apply Kd.Yy); exact (Kd.Yr (Kd.Zby (p := ⟨gb516, 0, none⟩) (Kd.Yr HO514.out (fun k_ hk => (⟨hk, hk.2⟩ : _ ∧ k_ ≠ gb516))) (fun _ hk => hk.2) (.slice Ao15 t512.length co15)) (fun _ h_ => h_.1)))); (case side4 => exact (Kd.Za9 HO514.out).2.1); rintro e w23 ⟨rfl, hb⟩; have n0_ := aM (Kd.Zcj (by (with_reducible repeat first | apply Kd.Ym | apply Kd.Yl | apply Kd.Yy); exact (Kd.Yr (Kd.Zby (p := ⟨gb516, 0, none⟩) (Kd.Yr HO509.out (fun k_ hk => (⟨hk, hk.2⟩ : _ ∧ k_ ≠ gb516))) (fun _ hk => hk.2) (.slice Ao15 t512.length co15)) (fun _ h_ => h_.1))) hb); have n1_ := aM (Kd.Zcj (by (with_reducible repeat first | apply Kd.Ym | apply Kd.Yl | apply Kd.Yy); exact (Kd.Yr (Kd.Zby (p := ⟨gb516, 0, none⟩) (Kd.Yr HO514.out (fun k_ hk => (⟨hk, hk.2⟩ : _ ∧ k_ ≠ gb516))) (fun _ hk => hk.2) (.slice Ao15 t512.length co15)) (fun _ h_ => h_.1))) hb); have n2_ := aM (Zf (g := gb511) (o := .cells #[.slice Ao11 t507.length co11] 24 (0, 0)) (by (with_reducible repeat first | apply bN | apply bD | apply bA); refine Z8 ?_ NB511_516.out _; (with_reducible repeat first | apply bN | apply bD | apply bA); exact BK511.out) hb); have n3_ := aM (Zf (g := gb516) (o := .cells #[.slice Ao15 t512.length co15] 24 (0, 0)) (by (with_reducible repeat first | apply bN | apply bD | apply bA); refine Yo (cs := #[.slice none 0 0]) ?_ 0 _ rfl; (with_reducible repeat first | apply bN | apply bD | apply bA); exact BK516.out) hb); have n4_ := aM (Zj (by repeat (first | (with_reducible first | exact HB.out | apply wA | apply wN | apply wD | refine Za ?_ GE511.out | refine Za ?_ GE516.out) | exact HB.out)) hb); clear HO509 HO514 BK511 BK516 HB; have HO509 := n0_; have HO514 := n1_; have BK511 := n2_; have BK516 := n3_; have HB := n4_; clear n0_ n1_ n2_ n3_ n4_; (try clear hb); (try clear hb2); (try clear hk); (try clear hi); (try clear hge_)))
    go_meet
    case rel => exact ⟨_, (!t517), (by first | rfl | (simp; done) | (simp [*]; done)), H', ⟨by first | omega | exact Nat.le_refl _⟩, ⟨by (with_reducible repeat first | apply Kd.Ym | apply Kd.Yl | apply Kd.Yy); exact Kd.Yr HO509.out (fun _ hk => ⟨hk.1.1.2, hk.2⟩)⟩, ⟨by (with_reducible repeat first | apply Kd.Ym | apply Kd.Yl | apply Kd.Yy); exact Kd.Yr HO514.out (fun _ hk => ⟨hk.1.2, hk.2⟩)⟩, ⟨by (with_reducible repeat first | apply bN | apply bD | apply bA); exact BK511.out⟩, ⟨by (with_reducible repeat first | apply bN | apply bD | apply bA); exact BK516.out⟩, ⟨by repeat (first | (with_reducible first | exact HB.out | apply wA | apply wN | apply wD | refine Za ?_ GE511.out | refine Za ?_ GE516.out) | exact HB.out)⟩⟩
   ·rw [if_neg c18] at H
    have c18b0 : (t510 == t515) = false := beq_eq_false_iff_ne.mpr c18
    have c18b1 : (t510 != t515) = true := bne_iff_ne.mpr c18
    (first | rw [c18b0] | (simp only [Z5, Z6]; rw [c18b0]) | skip)
    have H' := aM H
    clear H
    go_wp2
    go_meet
    case rel => exact ⟨_, (true), (by first | rfl | (simp; done) | (simp [*]; done)), H', ⟨by first | omega | exact Nat.le_refl _⟩, ⟨by (with_reducible repeat first | apply Kd.Ym | apply Kd.Yl | apply Kd.Yy); exact Kd.Yr (Kd.Zby (p := ⟨gb516, 0, none⟩) (Kd.Yr HO509.out (fun k_ hk => (⟨hk, hk.2⟩ : _ ∧ k_ ≠ gb516))) (fun _ hk => hk.2) (.slice Ao15 t512.length co15)) (fun _ hk => ⟨hk.1.1.1.2, hk.1.2⟩)⟩, ⟨by (with_reducible repeat first | apply Kd.Ym | apply Kd.Yl | apply Kd.Yy); exact Kd.Yr (Kd.Zby (p := ⟨gb516, 0, none⟩) (Kd.Yr HO514.out (fun k_ hk => (⟨hk, hk.2⟩ : _ ∧ k_ ≠ gb516))) (fun _ hk => hk.2) (.slice Ao15 t512.length co15)) (fun _ hk => ⟨hk.1.1.2, hk.1.2⟩)⟩, ⟨by (with_reducible repeat first | apply bN | apply bD | apply bA); refine Z8 ?_ NB511_516.out _; (with_reducible repeat first | apply bN | apply bD | apply bA); exact BK511.out⟩, ⟨by (with_reducible repeat first | apply bN | apply bD | apply bA); refine Yo (cs := #[.slice none 0 0]) ?_ 0 _ rfl; (with_reducible repeat first | apply bN | apply bD | apply bA); exact BK516.out⟩, ⟨by repeat (first | (with_reducible first | exact HB.out | apply wA | apply wN | apply wD | refine Za ?_ GE511.out | refine Za ?_ GE516.out) | exact HB.out)⟩⟩
  case rest =>
   clear HC7
   try clear c1
   try clear c2
   try clear p2
   try clear c4
   try clear c7
   try clear c9
   try clear c13
   try clear c16
   try clear c18
   try clear c18b0
   try clear c18b1
   try clear c20
   try clear c21
   try clear hcz12_0
   try clear hcz17_0
   try clear hcz21_0
   try clear hcz22_0
   try clear hfz12_0
   try clear hfz17_0
   try clear hfz21_0
   try clear hfz22_0
   obtain ⟨kq, x34_6, rfl, HA, HJ6, J512, J517, BK511, BK516, HB⟩ := hcut
   cases kq with
   | zero => exact absurd HA.out (by simp [Zh.j0])
   | succ kj6 =>
    have H := HA.out
    clear HA
    simp only [Zh.j0] at H
    by_cases c24 : x34_6 = true
    ·subst c24
     have H1 : (some false) = some r := by rw [if_pos rfl] at H; exact H
     clear H
     have H := H1
     clear H1
     obtain rfl := Option.some.inj H
     go_wp2
     go_ret
     exact ⟨by first | rfl | (simp [Zy, Zx] <;> rfl) | (simp [*, Zy, Zx] <;> rfl), by repeat (first | (with_reducible first | exact HB.out | apply wA | apply wN | apply wD | refine Za ?_ GE511.out | refine Za ?_ GE516.out) | exact HB.out)⟩
    ·replace c24 := Bool.eq_false_iff.mpr c24
     subst c24
     have H1 : ((Zbb.f l1 200).bind fun bt518 => ((Zbn.f 3).bind fun bt521 => ((Y4.f 3).bind fun bt525 => (Zh.l0 kj6 0 bt521.1 bt525.1 bt518.1 bt518.2)))) = some r := by rw [if_neg (show ¬ (false = true) by decide)] at H; exact H
     clear H
     have H := H1
     clear H1
     replace H := Option.bind_eq_some_iff.mp H
     obtain ⟨⟨t518, t519⟩, A250, H⟩ := H
     replace H : ((Zbn.f 3).bind fun bt521 => ((Y4.f 3).bind fun bt525 => (Zh.l0 kj6 0 bt521.1 bt525.1 t518 t519))) = some r := H
     have A25 := aM A250
     clear A250
     replace H := Option.bind_eq_some_iff.mp H
     obtain ⟨⟨t521, t524⟩, A260, H⟩ := H
     replace H : ((Y4.f 3).bind fun bt525 => (Zh.l0 kj6 0 t521 bt525.1 t518 t519)) = some r := H
     have A26 := aM A260
     clear A260
     replace H := Option.bind_eq_some_iff.mp H
     obtain ⟨⟨t525, t528⟩, A270, H⟩ := H
     replace H : (Zh.l0 kj6 0 t521 t525 t518 t519) = some r := H
     have A27 := aM A270
     clear A270
     have H' := aM H
     clear H
     go_wp2_with (first | ((with_reducible refine Yf (f := 16) rfl ?_); refine Zap (some 36) rfl rfl Try.func16 (by kernel_rfl) rfl #[.slice A1 l1.length c1, .int .i64 200] rfl (by (try simp only [Qi, Qj, Qk]); first | done | rfl | (simp only [Qe, Qd]; rfl)) ?_; (with_reducible refine (Zbb.calls _ _ l1 200 t518 t519 w _ ?side1 ?side2 ?side3 A25.out).mono ?_); (case side1 => repeat (first | (with_reducible first | exact HB.out | apply wA | apply wN | apply wD | refine Za ?_ GE511.out | refine Za ?_ GE516.out) | exact HB.out)); (case side2 => exact HR1.out); (case side3 => exact HC1.out); rintro e w28 ⟨g520, rfl, hi, hb, hb2, hge_⟩; refine ⟨_, rfl, ?_⟩; have n0_ := aM (Kd.Zcj (Kd.Zdn (by (with_reducible repeat first | apply Kd.Ym | apply Kd.Yl | apply Kd.Yy); exact J512.out) g520 hge_) hb2); have n1_ := aM (Kd.Zcj (Kd.Zdn (by (with_reducible repeat first | apply Kd.Ym | apply Kd.Yl | apply Kd.Yy); exact J517.out) g520 hge_) hb2); have n2_ := aM (Zf (g := gb511) (o := .cells #[.slice Ao11 t507.length co11] 24 (0, 0)) (by (with_reducible repeat first | apply bN | apply bD | apply bA); exact BK511.out) hb2); have n3_ := aM (Zf (g := gb516) (o := .cells #[.slice Ao15 t512.length co15] 24 (0, 0)) (by (with_reducible repeat first | apply bN | apply bD | apply bA); exact BK516.out) hb2); have n4_ := aM (hb); have n5_ := aM (hi); have n6_ := aM (Zb.ne_blk hi (Zf (g := gb511) (o := .cells #[.slice Ao11 t507.length co11] 24 (0, 0)) (by (with_reducible repeat first | apply bN | apply bD | apply bA); exact BK511.out) hb2) (by decide)); have n7_ := aM (Ne.symm (Zb.ne_blk hi (Zf (g := gb511) (o := .cells #[.slice Ao11 t507.length co11] 24 (0, 0)) (by (with_reducible repeat first | apply bN | apply bD | apply bA); exact BK511.out) hb2) (by decide))); have n8_ := aM (Zb.ne_blk hi (Zf (g := gb516) (o := .cells #[.slice Ao15 t512.length co15] 24 (0, 0)) (by (with_reducible repeat first | apply bN | apply bD | apply bA); exact BK516.out) hb2) (by decide)); have n9_ := aM (Ne.symm (Zb.ne_blk hi (Zf (g := gb516) (o := .cells #[.slice Ao15 t512.length co15] 24 (0, 0)) (by (with_reducible repeat first | apply bN | apply bD | apply bA); exact BK516.out) hb2) (by decide))); clear J512 J517 BK511 BK516 HB; have J512 := n0_; have J517 := n1_; have BK511 := n2_; have BK516 := n3_; have HB := n4_; have HI520 := n5_; have NB520_511 := n6_; have NB511_520 := n7_; have NB520_516 := n8_; have NB516_520 := n9_; clear n0_ n1_ n2_ n3_ n4_ n5_ n6_ n7_ n8_ n9_; (try clear hb); (try clear hb2); (try clear hk); (try clear hi); (try clear hge_)) | ((with_reducible refine Yf (f := 13) rfl ?_); refine Zap (some 38) rfl rfl Try.func13 (by kernel_rfl) rfl #[.int .i64 3] rfl (by (try simp only [Qi, Qj, Qk]); first | done | rfl | (simp only [Qe, Qd]; rfl)) ?_; (with_reducible refine (Zbn.calls 3 t521 t524 _ A26.out).mono ?_); rintro e w29 ⟨v522, rfl, ho0, hb⟩; refine ⟨_, rfl, ?_⟩; have n0_ := aM (Kd.Za4 (by (with_reducible repeat first | apply Kd.Ym | apply Kd.Yl | apply Kd.Yy); exact J512.out) (by first | exact Kd.Y1 ho0 | exact Kd.Y1 (Kd.S_N ho0)) hb); have n1_ := aM (Kd.Za4 (by (with_reducible repeat first | apply Kd.Ym | apply Kd.Yl | apply Kd.Yy); exact J517.out) (by first | exact Kd.Y1 ho0 | exact Kd.Y1 (Kd.S_N ho0)) hb); have n2_ := aM (Kd.Zbr (Kd.Yr (ok' := fun k_ => some k_ ≠ (.slice Ao11 t507.length co11 : Value).ownBlock ∧ some k_ ≠ (.slice Ao15 t512.length co15 : Value).ownBlock ∧ k_ ≠ gb511 ∧ k_ ≠ gb516 ∧ k_ ≠ g520) (Kd.S_N (Kd.Zcb ho0)) (fun k_ hk_ => ⟨(Kd.fresh' (Kd.N_lt (by (with_reducible repeat first | apply Kd.Ym | apply Kd.Yl | apply Kd.Yy); exact J512.out)) k_ hk_.2.1), (Kd.fresh' (Kd.N_lt (by (with_reducible repeat first | apply Kd.Ym | apply Kd.Yl | apply Kd.Yy); exact J517.out)) k_ hk_.2.1), (Kd.Y6 (g := gb511) (o := .cells #[.slice Ao11 t507.length co11] 24 (0, 0)) (by (with_reducible repeat first | apply bN | apply bD | apply bA); exact BK511.out) k_ hk_.2.1), (Kd.Y6 (g := gb516) (o := .cells #[.slice Ao15 t512.length co15] 24 (0, 0)) (by (with_reducible repeat first | apply bN | apply bD | apply bA); exact BK516.out) k_ hk_.2.1), (Zb.fresh (by repeat (first | (with_reducible first | exact HI520.out | apply Zb.alloc | apply Zb.drewN | apply Zb.drew | apply Zb.Zad | refine Zb.far ?_ NB520_511.out _ | refine Zb.far ?_ NB520_516.out _) | exact HI520.out)) k_ hk_.2.1)⟩)) (Zd (by repeat (first | (with_reducible first | exact HB.out | apply wA | apply wN | apply wD | refine Za ?_ (Zb.ge HI520.out) | refine Za ?_ GE511.out | refine Za ?_ GE516.out) | exact HB.out)))); have n3_ := aM (Zf (g := gb511) (o := .cells #[.slice Ao11 t507.length co11] 24 (0, 0)) (by (with_reducible repeat first | apply bN | apply bD | apply bA); exact BK511.out) hb); have n4_ := aM (Zf (g := gb516) (o := .cells #[.slice Ao15 t512.length co15] 24 (0, 0)) (by (with_reducible repeat first | apply bN | apply bD | apply bA); exact BK516.out) hb); have n5_ := aM (Zb.below (by repeat (first | (with_reducible first | exact HI520.out | apply Zb.alloc | apply Zb.drewN | apply Zb.drew | apply Zb.Zad | refine Zb.far ?_ NB520_511.out _ | refine Zb.far ?_ NB520_516.out _) | exact HI520.out)) hb); have n6_ := aM (Zj (by repeat (first | (with_reducible first | exact HB.out | apply wA | apply wN | apply wD | refine Za ?_ (Zb.ge HI520.out) | refine Za ?_ GE511.out | refine Za ?_ GE516.out) | exact HB.out)) hb); clear J512 J517 BK511 BK516 HI520 HB; have J512 := n0_; have J517 := n1_; have HO523 := n2_; have BK511 := n3_; have BK516 := n4_; have HI520 := n5_; have HB := n6_; clear n0_ n1_ n2_ n3_ n4_ n5_ n6_; (try clear hb); (try clear hb2); (try clear hk); (try clear hi); (try clear hge_); (try clear ho0); obtain ⟨Ao30, co30, eo30⟩ := Kd.Zbj HO523.out; subst eo30; have hnb31 := NB511_516.out; have hnc31 := NB516_511.out; have hnb32 := NB511_520.out; have hnc32 := NB520_511.out; have hcz33_0 : w29.cell? ⟨gb511, 0, none⟩ = some (.slice Ao11 t507.length co11) := (Ze BK511.out 0).trans rfl; have hfz33_0 := Zg BK511.out 0) | ((with_reducible refine Yf (f := 21) rfl ?_); refine Zap (some 42) rfl rfl Try.func21 (by kernel_rfl) rfl #[.int .i64 3] rfl (by (try simp only [Qi, Qj, Qk]); first | done | rfl | (simp only [Qe, Qd]; rfl)) ?_; (with_reducible refine (Y4.calls 3 t525 t528 _ A27.out).mono ?_); rintro e w34 ⟨v526, rfl, ho0, hb⟩; refine ⟨_, rfl, ?_⟩; have n0_ := aM (Kd.Za4 (by (with_reducible repeat first | apply Kd.Ym | apply Kd.Yl | apply Kd.Yy); exact (Kd.Yr (Kd.Zby (p := ⟨gb511, 0, none⟩) (Kd.Yr J512.out (fun k_ hk => (⟨hk, hk.1.1.1⟩ : _ ∧ k_ ≠ gb511))) (fun _ hk => hk.2) (.slice Ao30 t521.length co30)) (fun _ h_ => h_.1))) (by first | exact Kd.Y1 ho0 | exact Kd.Y1 (Kd.S_N ho0)) hb); have n1_ := aM (Kd.Za4 (by (with_reducible repeat first | apply Kd.Ym | apply Kd.Yl | apply Kd.Yy); exact (Kd.Yr (Kd.Zby (p := ⟨gb511, 0, none⟩) (Kd.Yr J517.out (fun k_ hk => (⟨hk, hk.1.1.1⟩ : _ ∧ k_ ≠ gb511))) (fun _ hk => hk.2) (.slice Ao30 t521.length co30)) (fun _ h_ => h_.1))) (by first | exact Kd.Y1 ho0 | exact Kd.Y1 (Kd.S_N ho0)) hb); have n2_ := aM (Kd.Za4 (by (with_reducible repeat first | apply Kd.Ym | apply Kd.Yl | apply Kd.Yy); exact (Kd.Yr (Kd.Zby (p := ⟨gb511, 0, none⟩) (Kd.Yr HO523.out (fun k_ hk => (⟨hk, hk.2.2.1⟩ : _ ∧ k_ ≠ gb511))) (fun _ hk => hk.2) (.slice Ao30 t521.length co30)) (fun _ h_ => h_.1))) (by first | exact Kd.Y1 ho0 | exact Kd.Y1 (Kd.S_N ho0)) hb); have n3_ := aM (Kd.Zbr (Kd.Yr (ok' := fun k_ => some k_ ≠ (.slice Ao11 t507.length co11 : Value).ownBlock ∧ some k_ ≠ (.slice Ao15 t512.length co15 : Value).ownBlock ∧ some k_ ≠ (.slice Ao30 t521.length co30 : Value).ownBlock ∧ k_ ≠ gb511 ∧ k_ ≠ gb516 ∧ k_ ≠ g520) (Kd.S_N (Kd.Zcb ho0)) (fun k_ hk_ => ⟨(Kd.fresh' (Kd.N_lt (by (with_reducible repeat first | apply Kd.Ym | apply Kd.Yl | apply Kd.Yy); exact (Kd.Yr (Kd.Zby (p := ⟨gb511, 0, none⟩) (Kd.Yr J512.out (fun k_ hk => (⟨hk, hk.1.1.1⟩ : _ ∧ k_ ≠ gb511))) (fun _ hk => hk.2) (.slice Ao30 t521.length co30)) (fun _ h_ => h_.1)))) k_ hk_.2.1), (Kd.fresh' (Kd.N_lt (by (with_reducible repeat first | apply Kd.Ym | apply Kd.Yl | apply Kd.Yy); exact (Kd.Yr (Kd.Zby (p := ⟨gb511, 0, none⟩) (Kd.Yr J517.out (fun k_ hk => (⟨hk, hk.1.1.1⟩ : _ ∧ k_ ≠ gb511))) (fun _ hk => hk.2) (.slice Ao30 t521.length co30)) (fun _ h_ => h_.1)))) k_ hk_.2.1), (Kd.fresh' (Kd.N_lt (by (with_reducible repeat first | apply Kd.Ym | apply Kd.Yl | apply Kd.Yy); exact (Kd.Yr (Kd.Zby (p := ⟨gb511, 0, none⟩) (Kd.Yr HO523.out (fun k_ hk => (⟨hk, hk.2.2.1⟩ : _ ∧ k_ ≠ gb511))) (fun _ hk => hk.2) (.slice Ao30 t521.length co30)) (fun _ h_ => h_.1)))) k_ hk_.2.1), (Kd.Y6 (g := gb511) (o := .cells #[.slice Ao30 t521.length co30] 24 (0, 0)) (by (with_reducible repeat first | apply bN | apply bD | apply bA); refine Yo (cs := #[.slice Ao11 t507.length co11]) ?_ 0 _ rfl; (with_reducible repeat first | apply bN | apply bD | apply bA); exact BK511.out) k_ hk_.2.1), (Kd.Y6 (g := gb516) (o := .cells #[.slice Ao15 t512.length co15] 24 (0, 0)) (by (with_reducible repeat first | apply bN | apply bD | apply bA); refine Z8 ?_ NB516_511.out _; (with_reducible repeat first | apply bN | apply bD | apply bA); exact BK516.out) k_ hk_.2.1), (Zb.fresh (by repeat (first | (with_reducible first | exact HI520.out | apply Zb.alloc | apply Zb.drewN | apply Zb.drew | apply Zb.Zad | refine Zb.far ?_ NB520_511.out _ | refine Zb.far ?_ NB520_516.out _) | exact HI520.out)) k_ hk_.2.1)⟩)) (Zd (by repeat (first | (with_reducible first | exact HB.out | apply wA | apply wN | apply wD | refine Za ?_ (Zb.ge HI520.out) | refine Za ?_ GE511.out | refine Za ?_ GE516.out) | exact HB.out)))); have n4_ := aM (Zf (g := gb511) (o := .cells #[.slice Ao30 t521.length co30] 24 (0, 0)) (by (with_reducible repeat first | apply bN | apply bD | apply bA); refine Yo (cs := #[.slice Ao11 t507.length co11]) ?_ 0 _ rfl; (with_reducible repeat first | apply bN | apply bD | apply bA); exact BK511.out) hb); have n5_ := aM (Zf (g := gb516) (o := .cells #[.slice Ao15 t512.length co15] 24 (0, 0)) (by (with_reducible repeat first | apply bN | apply bD | apply bA); refine Z8 ?_ NB516_511.out _; (with_reducible repeat first | apply bN | apply bD | apply bA); exact BK516.out) hb); have n6_ := aM (Zb.below (show Zb w (w29.setCell ⟨gb511, 0, none⟩ (.slice Ao30 t521.length co30)) g520 t518 t519 from by repeat (first | (with_reducible first | exact HI520.out | apply Zb.alloc | apply Zb.drewN | apply Zb.drew | apply Zb.Zad | refine Zb.far ?_ NB520_511.out _ | refine Zb.far ?_ NB520_516.out _) | exact HI520.out)) hb); have n7_ := aM (Zj (by repeat (first | (with_reducible first | exact HB.out | apply wA | apply wN | apply wD | refine Za ?_ (Zb.ge HI520.out) | refine Za ?_ GE511.out | refine Za ?_ GE516.out) | exact HB.out)) hb); clear J512 J517 HO523 BK511 BK516 HI520 HB; have J512 := n0_; have J517 := n1_; have HO523 := n2_; have HO527 := n3_; have BK511 := n4_; have BK516 := n5_; have HI520 := n6_; have HB := n7_; clear n0_ n1_ n2_ n3_ n4_ n5_ n6_ n7_; (try clear hb); (try clear hb2); (try clear hk); (try clear hi); (try clear hge_); (try clear ho0); obtain ⟨Ao35, co35, eo35⟩ := Kd.Zbj HO527.out; subst eo35; have hnb36 := NB516_520.out; have hnc36 := NB520_516.out; have hcz37_0 : w34.cell? ⟨gb516, 0, none⟩ = some (.slice Ao15 t512.length co15) := (Ze BK516.out 0).trans rfl; have hfz37_0 := Zg BK516.out 0))
     go_loopg [10] kj6 (fun kq v10 w' => ∃ (x10_2 : Int) (x512000_2 : List (S48)) (x517000_2 : List (S48)) (x521001_2 : Int) (u512000 : Value) (u517000 : Value), v10 = .int .i64 x10_2 ∧ Zq (Zh.l0 kq x10_2 x512000_2 x517000_2 t518 x521001_2 = some r) ∧ Zq (kq ≤ kj6) ∧ Zq (Kd.V k48 48 w' w.heap.size (fun k_ => k_ ≠ gb511 ∧ k_ ≠ gb516 ∧ k_ ≠ g520) u512000 x512000_2) ∧ Zq (Kd.V k48 48 w' w.heap.size (fun k_ => k_ ≠ gb511 ∧ k_ ≠ gb516 ∧ k_ ≠ g520) u517000 x517000_2) ∧ Zq (w'.heap[gb511]? = some (.cells #[u512000] 24 (0, 0))) ∧ Zq (w'.heap[gb516]? = some (.cells #[u517000] 24 (0, 0))) ∧ Zq (Zb w w' g520 t518 x521001_2) ∧ Zq (Below w.heap.size w w'))
     case atStart => exact ⟨(0), (t521), (t525), (t519), (.slice Ao30 t521.length co30), (.slice Ao35 t525.length co35), (by first | rfl | (simp; done) | (simp [*]; done)), H', ⟨Nat.le_refl _⟩, ⟨Kd.N_V (by (with_reducible repeat first | apply Kd.Ym | apply Kd.Yl | apply Kd.Yy); exact Kd.Yr (Kd.Zby (p := ⟨gb516, 0, none⟩) (Kd.Yr HO523.out (fun k_ hk => (⟨hk, hk.1.2.2.2.1⟩ : _ ∧ k_ ≠ gb516))) (fun _ hk => hk.2) (.slice Ao35 t525.length co35)) (fun _ hk => ⟨hk.1.1.2.2.1, ⟨hk.1.1.2.2.2.1, hk.1.1.2.2.2.2⟩⟩))⟩, ⟨Kd.N_V (by (with_reducible repeat first | apply Kd.Ym | apply Kd.Yl | apply Kd.Yy); exact Kd.Yr (Kd.Zby (p := ⟨gb516, 0, none⟩) (Kd.Yr HO527.out (fun k_ hk => (⟨hk, hk.2.2.2.2.1⟩ : _ ∧ k_ ≠ gb516))) (fun _ hk => hk.2) (.slice Ao35 t525.length co35)) (fun _ hk => ⟨hk.1.2.2.2.1, ⟨hk.1.2.2.2.2.1, hk.1.2.2.2.2.2⟩⟩))⟩, ⟨by (with_reducible repeat first | apply bN | apply bD | apply bA); refine Z8 ?_ NB511_516.out _; (with_reducible repeat first | apply bN | apply bD | apply bA); exact BK511.out⟩, ⟨by (with_reducible repeat first | apply bN | apply bD | apply bA); refine Yo (cs := #[.slice Ao15 t512.length co15]) ?_ 0 _ rfl; (with_reducible repeat first | apply bN | apply bD | apply bA); exact BK516.out⟩, ⟨by repeat (first | (with_reducible first | exact HI520.out | apply Zb.alloc | apply Zb.drewN | apply Zb.drew | apply Zb.Zad | refine Zb.far ?_ NB520_511.out _ | refine Zb.far ?_ NB520_516.out _) | exact HI520.out)⟩, ⟨by repeat (first | (with_reducible first | exact HB.out | apply wA | apply wN | apply wD | refine Za ?_ (Zb.ge HI520.out) | refine Za ?_ GE511.out | refine Za ?_ GE516.out) | exact HB.out)⟩⟩
     case round =>
      clear H'
      try clear c1
      try clear c2
      try clear p2
      try clear c3
      try clear c4
      try clear c7
      try clear c9
      try clear c13
      try clear c16
      try clear c18
      try clear c18b0
      try clear c18b1
      try clear c20
      try clear c21
      try clear c24
      try clear c31
      try clear c32
      try clear c36
      try clear hcz12_0
      try clear hcz17_0
      try clear hcz21_0
      try clear hcz22_0
      try clear hcz33_0
      try clear hcz37_0
      try clear hfz12_0
      try clear hfz17_0
      try clear hfz21_0
      try clear hfz22_0
      try clear hfz33_0
      try clear hfz37_0
      try clear p2
      obtain ⟨x10_2, x512000_2, x517000_2, x521001_2, u512000, u517000, rfl, HA, HK2, J512, J517, BK511, BK516, HI520, HB⟩ := hrel
      cases gk with
      | zero => exact absurd HA.out (by simp [Zh.l0])
      | succ k2 =>
       have H := HA.out
       clear HA
       simp only [Zh.l0] at H
       by_cases c38 : x10_2 < 20
       ·rw [if_pos c38] at H
        have c38b0 : decide (x10_2 < 20) = true := decide_eq_true c38
        clear c38
        replace H := Option.bind_eq_some_iff.mp H
        obtain ⟨⟨t529, t532, t535, t536⟩, A390, H⟩ := H
        replace H : (if t535 = true then (Zh.l0 k2 (wrap64 (x10_2 + 1)) t529 t532 t518 t536) else (some false)) = some r := H
        have A39 := aM A390
        clear A390
        by_cases c40 : t535 = true
        ·subst c40
         have H1 : (Zh.l0 k2 (wrap64 (x10_2 + 1)) t529 t532 t518 t536) = some r := by rw [if_pos rfl] at H; exact H
         clear H
         have H := H1
         clear H1
         have H' := aM H
         clear H
         have hnb41 := NB511_516.out
         have hnc41 := NB516_511.out
         have hnb42 := NB511_520.out
         have hnc42 := NB520_511.out
         have hcz43_0 : wr.cell? ⟨gb511, 0, none⟩ = some (u512000) := (Ze BK511.out 0).trans rfl
         have hfz43_0 := Zg BK511.out 0
         have hnb44 := NB516_520.out
         have hnc44 := NB520_516.out
         have hcz45_0 : wr.cell? ⟨gb516, 0, none⟩ = some (u517000) := (Ze BK516.out 0).trans rfl
         have hfz45_0 := Zg BK516.out 0
         obtain ⟨Ao46, co46, eo46⟩ := Kd.Zdi J512.out
         subst eo46
         obtain ⟨Ao47, co47, eo47⟩ := Kd.Zdi J517.out
         subst eo47
         try go_wp2_with (first | ((with_reducible refine Yf (f := 22) rfl ?_); refine Zap (some 53) rfl rfl Try.func22 (by kernel_rfl) rfl #[.pointer (some ⟨g520, 0, none⟩), .agg #[.slice Ao46 x512000_2.length co46], .agg #[.slice Ao47 x517000_2.length co47]] rfl (by (try simp only [Qi, Qj, Qk]); first | done | rfl | (simp only [Qe, Qd]; rfl)) ?_; (with_reducible refine (Zc.calls k2 g520 t518 x521001_2 (fun k_ => (k_ ≠ gb511 ∧ (k_ ≠ gb516 ∧ k_ ≠ g520))) _ _ x512000_2 (fun k_ => (k_ ≠ gb511 ∧ (k_ ≠ gb516 ∧ k_ ≠ g520))) _ _ x517000_2 t529 t532 true t536 w _ ?side1 ?side2 ?side3 ?side4 A39.out).mono ?_); (case side1 => repeat (first | (with_reducible first | exact HI520.out | apply Zb.alloc | apply Zb.drewN | apply Zb.drew | apply Zb.Zad | refine Zb.far ?_ NB520_511.out _ | refine Zb.far ?_ NB520_516.out _) | exact HI520.out)); (case side2 => repeat (first | (with_reducible first | exact HB.out | apply wA | apply wN | apply wD | refine Za ?_ (Zb.ge HI520.out) | refine Za ?_ GE511.out | refine Za ?_ GE516.out) | exact HB.out)); (case side3 => exact Kd.Yd (J512.out) (fun k_ hk_ => ⟨hk_, hk_.2.2⟩)); (case side4 => exact Kd.Yd (J517.out) (fun k_ hk_ => ⟨hk_, hk_.2.2⟩)); rintro e w48 ⟨v530, v533, rfl, ho0, ho1, hi, hb, hk⟩; refine ⟨_, rfl, ?_⟩; have n0_ := aM (Kd.Yd (Kd.Zdq (Kd.Yd (ok := fun k_ => (k_ ≠ gb511 ∧ (k_ ≠ gb516 ∧ k_ ≠ g520))) (by (with_reducible repeat first | apply Kd.Zv | apply Kd.Zu | apply Kd.Z0); exact J512.out) (fun k_ hk_ => (⟨hk_, hk_.2.2⟩ : _ ∧ k_ ≠ g520))) hk (fun _ h => h.2)) (fun _ h => h.1)); have n1_ := aM (Kd.Yd (Kd.Zdq (Kd.Yd (ok := fun k_ => (k_ ≠ gb511 ∧ (k_ ≠ gb516 ∧ k_ ≠ g520))) (by (with_reducible repeat first | apply Kd.Zv | apply Kd.Zu | apply Kd.Z0); exact J517.out) (fun k_ hk_ => (⟨hk_, hk_.2.2⟩ : _ ∧ k_ ≠ g520))) hk (fun _ h => h.2)) (fun _ h => h.1)); have n2_ := aM (Zn.blk hk (g' := gb511) (o := .cells #[.slice Ao46 x512000_2.length co46] 24 (0, 0)) (by (with_reducible repeat first | apply bN | apply bD | apply bA); exact BK511.out) NB511_520.out (by simp)); have n3_ := aM (Zn.blk hk (g' := gb516) (o := .cells #[.slice Ao47 x517000_2.length co47] 24 (0, 0)) (by (with_reducible repeat first | apply bN | apply bD | apply bA); exact BK516.out) NB516_520.out (by simp)); have n4_ := aM (Kd.V_lower (Kd.Yd (ok' := fun k_ => k_ ≠ gb511 ∧ k_ ≠ gb516 ∧ k_ ≠ g520) ho0 (fun k_ hk_ => ⟨Or.elim hk_ (fun hs_ => Or.elim hs_ (fun hs_ => hs_.1) (fun hs_ => hs_.1)) (fun hn_ => (Kd.Y6 (g := gb511) (o := .cells #[.slice Ao46 x512000_2.length co46] 24 (0, 0)) (by (with_reducible repeat first | apply bN | apply bD | apply bA); exact BK511.out) k_ hn_)), Or.elim hk_ (fun hs_ => Or.elim hs_ (fun hs_ => hs_.2.1) (fun hs_ => hs_.2.1)) (fun hn_ => (Kd.Y6 (g := gb516) (o := .cells #[.slice Ao47 x517000_2.length co47] 24 (0, 0)) (by (with_reducible repeat first | apply bN | apply bD | apply bA); exact BK516.out) k_ hn_)), Or.elim hk_ (fun hs_ => Or.elim hs_ (fun hs_ => hs_.2.2) (fun hs_ => hs_.2.2)) (fun hn_ => (Zb.fresh (by repeat (first | (with_reducible first | exact HI520.out | apply Zb.alloc | apply Zb.drewN | apply Zb.drew | apply Zb.Zad | refine Zb.far ?_ NB520_511.out _ | refine Zb.far ?_ NB520_516.out _) | exact HI520.out)) k_ hn_))⟩)) (Zd (by repeat (first | (with_reducible first | exact HB.out | apply wA | apply wN | apply wD | refine Za ?_ (Zb.ge HI520.out) | refine Za ?_ GE511.out | refine Za ?_ GE516.out) | exact HB.out)))); have n5_ := aM (Kd.V_lower (Kd.Yd (ok' := fun k_ => k_ ≠ gb511 ∧ k_ ≠ gb516 ∧ k_ ≠ g520) ho1 (fun k_ hk_ => ⟨Or.elim hk_ (fun hs_ => Or.elim hs_ (fun hs_ => hs_.1) (fun hs_ => hs_.1)) (fun hn_ => (Kd.Y6 (g := gb511) (o := .cells #[.slice Ao46 x512000_2.length co46] 24 (0, 0)) (by (with_reducible repeat first | apply bN | apply bD | apply bA); exact BK511.out) k_ hn_)), Or.elim hk_ (fun hs_ => Or.elim hs_ (fun hs_ => hs_.2.1) (fun hs_ => hs_.2.1)) (fun hn_ => (Kd.Y6 (g := gb516) (o := .cells #[.slice Ao47 x517000_2.length co47] 24 (0, 0)) (by (with_reducible repeat first | apply bN | apply bD | apply bA); exact BK516.out) k_ hn_)), Or.elim hk_ (fun hs_ => Or.elim hs_ (fun hs_ => hs_.2.2) (fun hs_ => hs_.2.2)) (fun hn_ => (Zb.fresh (by repeat (first | (with_reducible first | exact HI520.out | apply Zb.alloc | apply Zb.drewN | apply Zb.drew | apply Zb.Zad | refine Zb.far ?_ NB520_511.out _ | refine Zb.far ?_ NB520_516.out _) | exact HI520.out)) k_ hn_))⟩)) (Zd (by repeat (first | (with_reducible first | exact HB.out | apply wA | apply wN | apply wD | refine Za ?_ (Zb.ge HI520.out) | refine Za ?_ GE511.out | refine Za ?_ GE516.out) | exact HB.out)))); have n6_ := aM (hb); have n7_ := aM (hi); clear J512 J517 BK511 BK516 HB HI520; have J512 := n0_; have J517 := n1_; have BK511 := n2_; have BK516 := n3_; have HO531 := n4_; have HO534 := n5_; have HB := n6_; have HI520 := n7_; clear n0_ n1_ n2_ n3_ n4_ n5_ n6_ n7_; (try clear hb); (try clear hb2); (try clear hk); (try clear hi); (try clear hge_); (try clear ho0); (try clear ho1)) | ((with_reducible refine Z7 (N := 11) rfl ?_); refine Z4 ?hg (N := 11) ?hd (cs := #[.slice none 0 0]) (t := 24) ?hr ?_; (case hd => rfl); (case hg => rfl); (case hr => first | (go_simp; done) | (go_simp; rfl)); intro gb537 hg w49 hbox hb; have n0_ := aM (Kd.Y0 (Kd.Yx (by (with_reducible repeat first | apply Kd.Zv | apply Kd.Zu | apply Kd.Z0); exact J512.out) gb537 (Nat.le_of_eq hg.symm)) hb); have n1_ := aM (Kd.Y0 (Kd.Yx (by (with_reducible repeat first | apply Kd.Zv | apply Kd.Zu | apply Kd.Z0); exact J517.out) gb537 (Nat.le_of_eq hg.symm)) hb); have n2_ := aM (Kd.Y0 (Kd.Yx (by (with_reducible repeat first | apply Kd.Zv | apply Kd.Zu | apply Kd.Z0); exact HO531.out) gb537 (Nat.le_of_eq hg.symm)) hb); have n3_ := aM (Kd.Y0 (Kd.Yx (by (with_reducible repeat first | apply Kd.Zv | apply Kd.Zu | apply Kd.Z0); exact HO534.out) gb537 (Nat.le_of_eq hg.symm)) hb); have n4_ := aM (Zf (g := gb511) (o := .cells #[.slice Ao46 x512000_2.length co46] 24 (0, 0)) (by (with_reducible repeat first | apply bN | apply bD | apply bA); exact BK511.out) hb); have n5_ := aM (Zf (g := gb516) (o := .cells #[.slice Ao47 x517000_2.length co47] 24 (0, 0)) (by (with_reducible repeat first | apply bN | apply bD | apply bA); exact BK516.out) hb); have n6_ := aM (Zb.below (by repeat (first | (with_reducible first | exact HI520.out | apply Zb.alloc | apply Zb.drewN | apply Zb.drew | apply Zb.Zad | refine Zb.far ?_ NB520_511.out _ | refine Zb.far ?_ NB520_516.out _) | exact HI520.out)) hb); have n7_ := aM (Zj (by repeat (first | (with_reducible first | exact HB.out | apply wA | apply wN | apply wD | refine Za ?_ (Zb.ge HI520.out) | refine Za ?_ GE511.out | refine Za ?_ GE516.out) | exact HB.out)) hb); have n8_ := aM (hbox); have n9_ := aM ((by rw [hg]; exact (Zd (by repeat (first | (with_reducible first | exact HB.out | apply wA | apply wN | apply wD | refine Za ?_ (Zb.ge HI520.out) | refine Za ?_ GE511.out | refine Za ?_ GE516.out) | exact HB.out))) : w.heap.size ≤ gb537)); have n10_ := aM ((by rw [hg]; exact (Zd (by repeat (first | (with_reducible first | exact HB.out | apply wA | apply wN | apply wD | refine Za ?_ (Zb.ge HI520.out) | refine Za ?_ GE511.out | refine Za ?_ GE516.out) | exact HB.out))) : w.heap.size ≤ gb537)); have n11_ := aM ((by rw [hg]; exact Nat.ne_of_lt (Ya (g := gb511) (o := .cells #[.slice Ao46 x512000_2.length co46] 24 (0, 0)) (by (with_reducible repeat first | apply bN | apply bD | apply bA); exact BK511.out)) : gb511 ≠ gb537)); have n12_ := aM ((by rw [hg]; exact Nat.ne_of_gt (Ya (g := gb511) (o := .cells #[.slice Ao46 x512000_2.length co46] 24 (0, 0)) (by (with_reducible repeat first | apply bN | apply bD | apply bA); exact BK511.out)) : gb537 ≠ gb511)); have n13_ := aM ((by rw [hg]; exact Nat.ne_of_lt (Ya (g := gb516) (o := .cells #[.slice Ao47 x517000_2.length co47] 24 (0, 0)) (by (with_reducible repeat first | apply bN | apply bD | apply bA); exact BK516.out)) : gb516 ≠ gb537)); have n14_ := aM ((by rw [hg]; exact Nat.ne_of_gt (Ya (g := gb516) (o := .cells #[.slice Ao47 x517000_2.length co47] 24 (0, 0)) (by (with_reducible repeat first | apply bN | apply bD | apply bA); exact BK516.out)) : gb537 ≠ gb516)); have n15_ := aM ((by rw [hg]; exact Nat.ne_of_lt (Zb.lt (show Zb w _ g520 t518 t536 from by repeat (first | (with_reducible first | exact HI520.out | apply Zb.alloc | apply Zb.drewN | apply Zb.drew | apply Zb.Zad | refine Zb.far ?_ NB520_511.out _ | refine Zb.far ?_ NB520_516.out _) | exact HI520.out))) : g520 ≠ gb537)); have n16_ := aM ((by rw [hg]; exact Nat.ne_of_gt (Zb.lt (show Zb w _ g520 t518 t536 from by repeat (first | (with_reducible first | exact HI520.out | apply Zb.alloc | apply Zb.drewN | apply Zb.drew | apply Zb.Zad | refine Zb.far ?_ NB520_511.out _ | refine Zb.far ?_ NB520_516.out _) | exact HI520.out))) : gb537 ≠ g520)); clear J512 J517 HO531 HO534 BK511 BK516 HI520 HB; have J512 := n0_; have J517 := n1_; have HO531 := n2_; have HO534 := n3_; have BK511 := n4_; have BK516 := n5_; have HI520 := n6_; have HB := n7_; have BK537 := n8_; have GW537 := n9_; have GE537 := n10_; have NB511_537 := n11_; have NB537_511 := n12_; have NB516_537 := n13_; have NB537_516 := n14_; have NB520_537 := n15_; have NB537_520 := n16_; clear n0_ n1_ n2_ n3_ n4_ n5_ n6_ n7_ n8_ n9_ n10_ n11_ n12_ n13_ n14_ n15_ n16_; clear hb hbox hg) | ((with_reducible refine Z7 (N := 12) rfl ?_); refine Z4 ?hg (N := 12) ?hd (cs := #[.slice none 0 0]) (t := 24) ?hr ?_; (case hd => rfl); (case hg => rfl); (case hr => first | (go_simp; done) | (go_simp; rfl)); intro gb538 hg w50 hbox hb; have n0_ := aM (Kd.Y0 (Kd.Yx (by (with_reducible repeat first | apply Kd.Zv | apply Kd.Zu | apply Kd.Z0); exact J512.out) gb538 (Nat.le_of_eq hg.symm)) hb); have n1_ := aM (Kd.Y0 (Kd.Yx (by (with_reducible repeat first | apply Kd.Zv | apply Kd.Zu | apply Kd.Z0); exact J517.out) gb538 (Nat.le_of_eq hg.symm)) hb); have n2_ := aM (Kd.Y0 (Kd.Yx (by (with_reducible repeat first | apply Kd.Zv | apply Kd.Zu | apply Kd.Z0); exact HO531.out) gb538 (Nat.le_of_eq hg.symm)) hb); have n3_ := aM (Kd.Y0 (Kd.Yx (by (with_reducible repeat first | apply Kd.Zv | apply Kd.Zu | apply Kd.Z0); exact HO534.out) gb538 (Nat.le_of_eq hg.symm)) hb); have n4_ := aM (Zf (g := gb511) (o := .cells #[.slice Ao46 x512000_2.length co46] 24 (0, 0)) (by (with_reducible repeat first | apply bN | apply bD | apply bA); exact BK511.out) hb); have n5_ := aM (Zf (g := gb516) (o := .cells #[.slice Ao47 x517000_2.length co47] 24 (0, 0)) (by (with_reducible repeat first | apply bN | apply bD | apply bA); exact BK516.out) hb); have n6_ := aM (Zb.below (by repeat (first | (with_reducible first | exact HI520.out | apply Zb.alloc | apply Zb.drewN | apply Zb.drew | apply Zb.Zad | refine Zb.far ?_ NB520_511.out _ | refine Zb.far ?_ NB520_516.out _ | refine Zb.far ?_ NB520_537.out _) | exact HI520.out)) hb); have n7_ := aM (Zf (g := gb537) (o := .cells #[.slice none 0 0] 24 (0, 0)) (by (with_reducible repeat first | apply bN | apply bD | apply bA); exact BK537.out) hb); have n8_ := aM (Zj (by repeat (first | (with_reducible first | exact HB.out | apply wA | apply wN | apply wD | refine Za ?_ (Zb.ge HI520.out) | refine Za ?_ GE511.out | refine Za ?_ GE516.out | refine Za ?_ GE537.out) | exact HB.out)) hb); have n9_ := aM (hbox); have n10_ := aM ((by rw [hg]; exact (Zd (by repeat (first | (with_reducible first | exact HB.out | apply wA | apply wN | apply wD | refine Za ?_ (Zb.ge HI520.out) | refine Za ?_ GE511.out | refine Za ?_ GE516.out | refine Za ?_ GE537.out) | exact HB.out))) : w.heap.size ≤ gb538)); have n11_ := aM ((by rw [hg]; exact (Zd (by repeat (first | (with_reducible first | exact HB.out | apply wA | apply wN | apply wD | refine Za ?_ (Zb.ge HI520.out) | refine Za ?_ GE511.out | refine Za ?_ GE516.out | refine Za ?_ GE537.out) | exact HB.out))) : w.heap.size ≤ gb538)); have n12_ := aM ((by rw [hg]; exact Nat.ne_of_lt (Ya (g := gb511) (o := .cells #[.slice Ao46 x512000_2.length co46] 24 (0, 0)) (by (with_reducible repeat first | apply bN | apply bD | apply bA); exact BK511.out)) : gb511 ≠ gb538)); have n13_ := aM ((by rw [hg]; exact Nat.ne_of_gt (Ya (g := gb511) (o := .cells #[.slice Ao46 x512000_2.length co46] 24 (0, 0)) (by (with_reducible repeat first | apply bN | apply bD | apply bA); exact BK511.out)) : gb538 ≠ gb511)); have n14_ := aM ((by rw [hg]; exact Nat.ne_of_lt (Ya (g := gb516) (o := .cells #[.slice Ao47 x517000_2.length co47] 24 (0, 0)) (by (with_reducible repeat first | apply bN | apply bD | apply bA); exact BK516.out)) : gb516 ≠ gb538)); have n15_ := aM ((by rw [hg]; exact Nat.ne_of_gt (Ya (g := gb516) (o := .cells #[.slice Ao47 x517000_2.length co47] 24 (0, 0)) (by (with_reducible repeat first | apply bN | apply bD | apply bA); exact BK516.out)) : gb538 ≠ gb516)); have n16_ := aM ((by rw [hg]; exact Nat.ne_of_lt (Ya (g := gb537) (o := .cells #[.slice none 0 0] 24 (0, 0)) (by (with_reducible repeat first | apply bN | apply bD | apply bA); exact BK537.out)) : gb537 ≠ gb538)); have n17_ := aM ((by rw [hg]; exact Nat.ne_of_gt (Ya (g := gb537) (o := .cells #[.slice none 0 0] 24 (0, 0)) (by (with_reducible repeat first | apply bN | apply bD | apply bA); exact BK537.out)) : gb538 ≠ gb537)); have n18_ := aM ((by rw [hg]; exact Nat.ne_of_lt (Zb.lt (show Zb w _ g520 t518 t536 from by repeat (first | (with_reducible first | exact HI520.out | apply Zb.alloc | apply Zb.drewN | apply Zb.drew | apply Zb.Zad | refine Zb.far ?_ NB520_511.out _ | refine Zb.far ?_ NB520_516.out _ | refine Zb.far ?_ NB520_537.out _) | exact HI520.out))) : g520 ≠ gb538)); have n19_ := aM ((by rw [hg]; exact Nat.ne_of_gt (Zb.lt (show Zb w _ g520 t518 t536 from by repeat (first | (with_reducible first | exact HI520.out | apply Zb.alloc | apply Zb.drewN | apply Zb.drew | apply Zb.Zad | refine Zb.far ?_ NB520_511.out _ | refine Zb.far ?_ NB520_516.out _ | refine Zb.far ?_ NB520_537.out _) | exact HI520.out))) : gb538 ≠ g520)); clear J512 J517 HO531 HO534 BK511 BK516 HI520 BK537 HB; have J512 := n0_; have J517 := n1_; have HO531 := n2_; have HO534 := n3_; have BK511 := n4_; have BK516 := n5_; have HI520 := n6_; have BK537 := n7_; have HB := n8_; have BK538 := n9_; have GW538 := n10_; have GE538 := n11_; have NB511_538 := n12_; have NB538_511 := n13_; have NB516_538 := n14_; have NB538_516 := n15_; have NB537_538 := n16_; have NB538_537 := n17_; have NB520_538 := n18_; have NB538_520 := n19_; clear n0_ n1_ n2_ n3_ n4_ n5_ n6_ n7_ n8_ n9_ n10_ n11_ n12_ n13_ n14_ n15_ n16_ n17_ n18_ n19_; clear hb hbox hg; obtain ⟨Ao51, co51, eo51⟩ := Kd.Zdi HO531.out; subst eo51; have hnb52 := NB537_511.out; have hnc52 := NB511_537.out; have hnb53 := NB537_516.out; have hnc53 := NB516_537.out; have hnb54 := NB537_538.out; have hnc54 := NB538_537.out; have hnb55 := NB537_520.out; have hnc55 := NB520_537.out; have hcz56_0 : w50.cell? ⟨gb537, 0, none⟩ = some (.slice none 0 0) := (Ze BK537.out 0).trans rfl; have hfz56_0 := Zg BK537.out 0; obtain ⟨Ao57, co57, eo57⟩ := Kd.Zdi HO534.out; subst eo57; have hnb58 := NB538_511.out; have hnc58 := NB511_538.out; have hnb59 := NB538_516.out; have hnc59 := NB516_538.out; have hnb60 := NB538_520.out; have hnc60 := NB520_538.out; have hcz61_0 : w50.cell? ⟨gb538, 0, none⟩ = some (.slice none 0 0) := (Ze BK538.out 0).trans rfl; have hfz61_0 := Zg BK538.out 0))
         have n0_ : Zq (Kd.V k48 48 ((w50.setCell ⟨gb537, 0, none⟩ (.slice Ao51 t529.length co51)).setCell ⟨gb538, 0, none⟩ (.slice Ao57 t532.length co57)) w.heap.size (fun k_ => k_ ≠ gb511 ∧ k_ ≠ gb516 ∧ k_ ≠ g520 ∧ k_ ≠ gb537 ∧ k_ ≠ gb538) (.slice Ao46 x512000_2.length co46) x512000_2) := ⟨by (with_reducible repeat first | apply Kd.Zv | apply Kd.Zu | apply Kd.Z0); exact Kd.Yd (Kd.Zbi (p := ⟨gb538, 0, none⟩) (Kd.Zbi (p := ⟨gb537, 0, none⟩) (Kd.Yd (Kd.Yd J512.out (fun k_ hk => (⟨hk, hk.1.2⟩ : _ ∧ k_ ≠ gb537))) (fun k_ hk => (⟨hk, hk.1.2⟩ : _ ∧ k_ ≠ gb538))) (fun _ hk => hk.1.2) (.slice Ao51 t529.length co51)) (fun _ hk => hk.2) (.slice Ao57 t532.length co57)) (fun _ hk => ⟨hk.1.1.1.1.1, ⟨hk.1.1.1.1.2.1, ⟨hk.1.1.1.1.2.2, ⟨hk.1.1.1.2, hk.1.1.2⟩⟩⟩⟩)⟩
         have n1_ : Zq (Kd.V k48 48 ((w50.setCell ⟨gb537, 0, none⟩ (.slice Ao51 t529.length co51)).setCell ⟨gb538, 0, none⟩ (.slice Ao57 t532.length co57)) w.heap.size (fun k_ => k_ ≠ gb511 ∧ k_ ≠ gb516 ∧ k_ ≠ g520 ∧ k_ ≠ gb537 ∧ k_ ≠ gb538) (.slice Ao47 x517000_2.length co47) x517000_2) := ⟨by (with_reducible repeat first | apply Kd.Zv | apply Kd.Zu | apply Kd.Z0); exact Kd.Yd (Kd.Zbi (p := ⟨gb538, 0, none⟩) (Kd.Zbi (p := ⟨gb537, 0, none⟩) (Kd.Yd (Kd.Yd J517.out (fun k_ hk => (⟨hk, hk.1.2⟩ : _ ∧ k_ ≠ gb537))) (fun k_ hk => (⟨hk, hk.1.2⟩ : _ ∧ k_ ≠ gb538))) (fun _ hk => hk.1.2) (.slice Ao51 t529.length co51)) (fun _ hk => hk.2) (.slice Ao57 t532.length co57)) (fun _ hk => ⟨hk.1.1.1.1.1, ⟨hk.1.1.1.1.2.1, ⟨hk.1.1.1.1.2.2, ⟨hk.1.1.1.2, hk.1.1.2⟩⟩⟩⟩)⟩
         have n2_ : Zq (Kd.V k48 48 ((w50.setCell ⟨gb537, 0, none⟩ (.slice Ao51 t529.length co51)).setCell ⟨gb538, 0, none⟩ (.slice Ao57 t532.length co57)) w.heap.size (fun k_ => k_ ≠ gb511 ∧ k_ ≠ gb516 ∧ k_ ≠ g520 ∧ k_ ≠ gb537 ∧ k_ ≠ gb538) (.slice Ao51 t529.length co51) t529) := ⟨by (with_reducible repeat first | apply Kd.Zv | apply Kd.Zu | apply Kd.Z0); exact Kd.Yd (Kd.Zbi (p := ⟨gb538, 0, none⟩) (Kd.Zbi (p := ⟨gb537, 0, none⟩) (Kd.Yd (Kd.Yd HO531.out (fun k_ hk => (⟨hk, hk.1.2⟩ : _ ∧ k_ ≠ gb537))) (fun k_ hk => (⟨hk, hk.1.2⟩ : _ ∧ k_ ≠ gb538))) (fun _ hk => hk.1.2) (.slice Ao51 t529.length co51)) (fun _ hk => hk.2) (.slice Ao57 t532.length co57)) (fun _ hk => ⟨hk.1.1.1.1.1, ⟨hk.1.1.1.1.2.1, ⟨hk.1.1.1.1.2.2, ⟨hk.1.1.1.2, hk.1.1.2⟩⟩⟩⟩)⟩
         have n3_ : Zq (Kd.V k48 48 ((w50.setCell ⟨gb537, 0, none⟩ (.slice Ao51 t529.length co51)).setCell ⟨gb538, 0, none⟩ (.slice Ao57 t532.length co57)) w.heap.size (fun k_ => k_ ≠ gb511 ∧ k_ ≠ gb516 ∧ k_ ≠ g520 ∧ k_ ≠ gb537 ∧ k_ ≠ gb538) (.slice Ao57 t532.length co57) t532) := ⟨by (with_reducible repeat first | apply Kd.Zv | apply Kd.Zu | apply Kd.Z0); exact Kd.Yd (Kd.Zbi (p := ⟨gb538, 0, none⟩) (Kd.Zbi (p := ⟨gb537, 0, none⟩) (Kd.Yd (Kd.Yd HO534.out (fun k_ hk => (⟨hk, hk.1.2⟩ : _ ∧ k_ ≠ gb537))) (fun k_ hk => (⟨hk, hk.1.2⟩ : _ ∧ k_ ≠ gb538))) (fun _ hk => hk.1.2) (.slice Ao51 t529.length co51)) (fun _ hk => hk.2) (.slice Ao57 t532.length co57)) (fun _ hk => ⟨hk.1.1.1.1.1, ⟨hk.1.1.1.1.2.1, ⟨hk.1.1.1.1.2.2, ⟨hk.1.1.1.2, hk.1.1.2⟩⟩⟩⟩)⟩
         have n4_ : Zq (((w50.setCell ⟨gb537, 0, none⟩ (.slice Ao51 t529.length co51)).setCell ⟨gb538, 0, none⟩ (.slice Ao57 t532.length co57)).heap[gb511]? = some (.cells #[.slice Ao46 x512000_2.length co46] 24 (0, 0))) := ⟨by (with_reducible repeat first | apply bN | apply bD | apply bA); refine Z8 ?_ NB511_538.out _; (with_reducible repeat first | apply bN | apply bD | apply bA); refine Z8 ?_ NB511_537.out _; (with_reducible repeat first | apply bN | apply bD | apply bA); exact BK511.out⟩
         have n5_ : Zq (((w50.setCell ⟨gb537, 0, none⟩ (.slice Ao51 t529.length co51)).setCell ⟨gb538, 0, none⟩ (.slice Ao57 t532.length co57)).heap[gb516]? = some (.cells #[.slice Ao47 x517000_2.length co47] 24 (0, 0))) := ⟨by (with_reducible repeat first | apply bN | apply bD | apply bA); refine Z8 ?_ NB516_538.out _; (with_reducible repeat first | apply bN | apply bD | apply bA); refine Z8 ?_ NB516_537.out _; (with_reducible repeat first | apply bN | apply bD | apply bA); exact BK516.out⟩
         have n6_ : Zq (((w50.setCell ⟨gb537, 0, none⟩ (.slice Ao51 t529.length co51)).setCell ⟨gb538, 0, none⟩ (.slice Ao57 t532.length co57)).heap[gb537]? = some (.cells #[.slice Ao51 t529.length co51] 24 (0, 0))) := ⟨by (with_reducible repeat first | apply bN | apply bD | apply bA); refine Z8 ?_ NB537_538.out _; (with_reducible repeat first | apply bN | apply bD | apply bA); refine Yo (cs := #[.slice none 0 0]) ?_ 0 _ rfl; (with_reducible repeat first | apply bN | apply bD | apply bA); exact BK537.out⟩
         have n7_ : Zq (((w50.setCell ⟨gb537, 0, none⟩ (.slice Ao51 t529.length co51)).setCell ⟨gb538, 0, none⟩ (.slice Ao57 t532.length co57)).heap[gb538]? = some (.cells #[.slice Ao57 t532.length co57] 24 (0, 0))) := ⟨by (with_reducible repeat first | apply bN | apply bD | apply bA); refine Yo (cs := #[.slice none 0 0]) ?_ 0 _ rfl; (with_reducible repeat first | apply bN | apply bD | apply bA); refine Z8 ?_ NB538_537.out _; (with_reducible repeat first | apply bN | apply bD | apply bA); exact BK538.out⟩
         have n8_ : Zq (Zb w ((w50.setCell ⟨gb537, 0, none⟩ (.slice Ao51 t529.length co51)).setCell ⟨gb538, 0, none⟩ (.slice Ao57 t532.length co57)) g520 t518 t536) := ⟨by repeat (first | (with_reducible first | exact HI520.out | apply Zb.alloc | apply Zb.drewN | apply Zb.drew | apply Zb.Zad | refine Zb.far ?_ NB520_511.out _ | refine Zb.far ?_ NB520_516.out _ | refine Zb.far ?_ NB520_537.out _ | refine Zb.far ?_ NB520_538.out _) | exact HI520.out)⟩
         have n9_ : Zq (Below w.heap.size w ((w50.setCell ⟨gb537, 0, none⟩ (.slice Ao51 t529.length co51)).setCell ⟨gb538, 0, none⟩ (.slice Ao57 t532.length co57))) := ⟨by repeat (first | (with_reducible first | exact HB.out | apply wA | apply wN | apply wD | refine Za ?_ (Zb.ge HI520.out) | refine Za ?_ GE511.out | refine Za ?_ GE516.out | refine Za ?_ GE537.out | refine Za ?_ GE538.out) | exact HB.out)⟩
         (try clear J512)
         (try clear J517)
         (try clear HO531)
         (try clear HO534)
         (try clear BK511)
         (try clear BK516)
         (try clear BK537)
         (try clear BK538)
         (try clear HI520)
         (try clear HB)
         generalize ((w50.setCell ⟨gb537, 0, none⟩ (.slice Ao51 t529.length co51)).setCell ⟨gb538, 0, none⟩ (.slice Ao57 t532.length co57)) = w62 at n0_ n1_ n2_ n3_ n4_ n5_ n6_ n7_ n8_ n9_ ⊢
         have J512 := n0_
         have J517 := n1_
         have HO531 := n2_
         have HO534 := n3_
         have BK511 := n4_
         have BK516 := n5_
         have BK537 := n6_
         have BK538 := n7_
         have HI520 := n8_
         have HB := n9_
         clear n0_ n1_ n2_ n3_ n4_ n5_ n6_ n7_ n8_ n9_
         have n0_ := aM (Kd.Z0 J512.out)
         have n1_ := aM (Kd.Z0 J517.out)
         have n2_ := aM (Kd.Z0 HO531.out)
         have n3_ := aM (Kd.Z0 HO534.out)
         have n4_ := aM (bD BK511.out)
         have n5_ := aM (bD BK516.out)
         have n6_ := aM (bD BK537.out)
         have n7_ := aM (bD BK538.out)
         have n8_ := aM (Zb.drew HI520.out)
         have n9_ := aM (wD HB.out)
         clear J512 J517 HO531 HO534 BK511 BK516 BK537 BK538 HI520 HB
         have J512 := n0_
         have J517 := n1_
         have HO531 := n2_
         have HO534 := n3_
         have BK511 := n4_
         have BK516 := n5_
         have BK537 := n6_
         have BK538 := n7_
         have HI520 := n8_
         have HB := n9_
         clear n0_ n1_ n2_ n3_ n4_ n5_ n6_ n7_ n8_ n9_
         refine Zb9 (n := 4) (S := fun w' => w'.cell? ⟨gb537, 0, none⟩ = some (.slice Ao51 t529.length co51) ∧ w'.cell? ⟨gb538, 0, none⟩ = some (.slice Ao57 t532.length co57)) (ds := []) #[Qf, Qf, Qf, Qf] (by kernel_rfl) rfl rfl ⟨(Ze BK537.out 0).trans rfl, (Ze BK538.out 0).trans rfl⟩ (fun hHeld => ?_)
         generalize w62.drew = w63 at J512 J517 HO531 HO534 BK511 BK516 BK537 BK538 HI520 HB hHeld ⊢
         refine Za5 (i := 0) (N := some 59) (v := ?_) (a' := ?_) #[Qt, Qf, Qf, Qf] rfl rfl (by kernel_rfl) (fun _ _ _ h => h) (Or.inl ⟨by rfl, ?_⟩) hHeld ?_ ?_
         rotate_left
         ·rintro w' ⟨s0, s1⟩
          go_simp
          with_reducible rfl
         rotate_left
         ·simp only [Act.put, Qa, Qb, Qc, Z5, Z6]
          rfl
         refine Za5 (i := 1) (N := some 60) (v := ?_) (a' := ?_) #[Qt, Qt, Qf, Qf] rfl rfl (by kernel_rfl) (fun _ _ _ h => h) (Or.inl ⟨by rfl, ?_⟩) hHeld ?_ ?_
         rotate_left
         ·rintro w' ⟨s0, s1⟩
          go_simp
          with_reducible rfl
         rotate_left
         ·simp only [Act.put, Qa, Qb, Qc, Z5, Z6]
          rfl
         refine one_ (i := 2) (N := none) #[Qt, Qt, Qt, Qf] rfl rfl (by kernel_rfl) (by decide) (fun K hK => ?_)
         have hs64 : w63.cell? ⟨gb511, 0, none⟩ = some (.slice Ao46 x512000_2.length co46) := (Ze BK511.out 0).trans rfl
         have hfs64 := Zg BK511.out 0
         have hns64_1 := NB516_511.out
         have hns64_2 := NB537_511.out
         have hns64_3 := NB538_511.out
         have hms64_1 := NB511_516.out
         have hms64_2 := NB511_537.out
         have hms64_3 := NB511_538.out
         refine Zcp (w1 := ?_) (by rfl) rfl ?_ ?_
         rotate_left
         ·go_simp
          rfl
         refine hK.out _ _ ⟨((cell_far (p := ⟨gb511, _, none⟩) NB537_511.out _).trans (hHeld.1)), ((cell_far (p := ⟨gb511, _, none⟩) NB538_511.out _).trans (hHeld.2))⟩ (fun hHeld => ?_)
         clear hK K
         refine one_ (i := 3) (N := none) #[Qt, Qt, Qt, Qt] rfl rfl (by kernel_rfl) (by decide) (fun K hK => ?_)
         have hs65 : w63.cell? ⟨gb516, 0, none⟩ = some (.slice Ao47 x517000_2.length co47) := (Ze BK516.out 0).trans rfl
         have hfs65 := Zg BK516.out 0
         have hns65_0 := NB511_516.out
         have hns65_2 := NB537_516.out
         have hns65_3 := NB538_516.out
         have hms65_0 := NB516_511.out
         have hms65_2 := NB516_537.out
         have hms65_3 := NB516_538.out
         refine Zcp (w1 := ?_) (by rfl) rfl ?_ ?_
         rotate_left
         ·go_simp
          rfl
         refine hK.out _ _ ⟨((cell_far (p := ⟨gb516, _, none⟩) NB537_516.out _).trans (hHeld.1)), ((cell_far (p := ⟨gb516, _, none⟩) NB538_516.out _).trans (hHeld.2))⟩ (fun hHeld => ?_)
         clear hK K
         refine Zcv (by kernel_rfl) ?_
         try go_wp2
         go_roundg k2
         case measure => have := HJ6.out; have := HK2.out; omega
         case rel => exact ⟨(wrap64 (x10_2 + 1)), (t529), (t532), (t536), (.slice Ao51 t529.length co51), (.slice Ao57 t532.length co57), (by first | rfl | (simp; done) | (simp [*]; done)), H', ⟨by have := HJ6.out; have := HK2.out; omega⟩, ⟨by (with_reducible repeat first | apply Kd.Zv | apply Kd.Zu | apply Kd.Z0); exact Kd.Yd (Kd.Zbi (p := ⟨gb516, 0, none⟩) (Kd.Zbi (p := ⟨gb511, 0, none⟩) (Kd.Yd (Kd.Yd HO531.out (fun k_ hk => (⟨hk, hk.1⟩ : _ ∧ k_ ≠ gb511))) (fun k_ hk => (⟨hk, hk.1.2.1⟩ : _ ∧ k_ ≠ gb516))) (fun _ hk => hk.1.2) (.slice Ao51 t529.length co51)) (fun _ hk => hk.2) (.slice Ao57 t532.length co57)) (fun _ hk => ⟨hk.1.1.1, ⟨hk.1.1.2.1, hk.1.1.2.2.1⟩⟩)⟩, ⟨by (with_reducible repeat first | apply Kd.Zv | apply Kd.Zu | apply Kd.Z0); exact Kd.Yd (Kd.Zbi (p := ⟨gb516, 0, none⟩) (Kd.Zbi (p := ⟨gb511, 0, none⟩) (Kd.Yd (Kd.Yd HO534.out (fun k_ hk => (⟨hk, hk.1⟩ : _ ∧ k_ ≠ gb511))) (fun k_ hk => (⟨hk, hk.1.2.1⟩ : _ ∧ k_ ≠ gb516))) (fun _ hk => hk.1.2) (.slice Ao51 t529.length co51)) (fun _ hk => hk.2) (.slice Ao57 t532.length co57)) (fun _ hk => ⟨hk.1.1.1, ⟨hk.1.1.2.1, hk.1.1.2.2.1⟩⟩)⟩, ⟨by (with_reducible repeat first | apply bN | apply bD | apply bA); refine Z8 ?_ NB511_516.out _; (with_reducible repeat first | apply bN | apply bD | apply bA); refine Yo (cs := #[.slice Ao46 x512000_2.length co46]) ?_ 0 _ rfl; (with_reducible repeat first | apply bN | apply bD | apply bA); exact BK511.out⟩, ⟨by (with_reducible repeat first | apply bN | apply bD | apply bA); refine Yo (cs := #[.slice Ao47 x517000_2.length co47]) ?_ 0 _ rfl; (with_reducible repeat first | apply bN | apply bD | apply bA); refine Z8 ?_ NB516_511.out _; (with_reducible repeat first | apply bN | apply bD | apply bA); exact BK516.out⟩, ⟨by repeat (first | (with_reducible first | exact HI520.out | apply Zb.alloc | apply Zb.drewN | apply Zb.drew | apply Zb.Zad | refine Zb.far ?_ NB520_511.out _ | refine Zb.far ?_ NB520_516.out _ | refine Zb.far ?_ NB520_537.out _ | refine Zb.far ?_ NB520_538.out _) | exact HI520.out)⟩, ⟨by repeat (first | (with_reducible first | exact HB.out | apply wA | apply wN | apply wD | refine Za ?_ (Zb.ge HI520.out) | refine Za ?_ GE511.out | refine Za ?_ GE516.out | refine Za ?_ GE537.out | refine Za ?_ GE538.out) | exact HB.out)⟩⟩
        ·replace c40 := Bool.eq_false_iff.mpr c40
         subst c40
         have H1 : (some false) = some r := by rw [if_neg (show ¬ (false = true) by decide)] at H; exact H
         clear H
         have H := H1
         clear H1
         obtain rfl := Option.some.inj H
         have hnb66 := NB511_516.out
         have hnc66 := NB516_511.out
         have hnb67 := NB511_520.out
         have hnc67 := NB520_511.out
         have hcz68_0 : wr.cell? ⟨gb511, 0, none⟩ = some (u512000) := (Ze BK511.out 0).trans rfl
         have hfz68_0 := Zg BK511.out 0
         have hnb69 := NB516_520.out
         have hnc69 := NB520_516.out
         have hcz70_0 : wr.cell? ⟨gb516, 0, none⟩ = some (u517000) := (Ze BK516.out 0).trans rfl
         have hfz70_0 := Zg BK516.out 0
         obtain ⟨Ao71, co71, eo71⟩ := Kd.Zdi J512.out
         subst eo71
         obtain ⟨Ao72, co72, eo72⟩ := Kd.Zdi J517.out
         subst eo72
         go_wp2_with (first | ((with_reducible refine Yf (f := 22) rfl ?_); refine Zap (some 53) rfl rfl Try.func22 (by kernel_rfl) rfl #[.pointer (some ⟨g520, 0, none⟩), .agg #[.slice Ao71 x512000_2.length co71], .agg #[.slice Ao72 x517000_2.length co72]] rfl (by (try simp only [Qi, Qj, Qk]); first | done | rfl | (simp only [Qe, Qd]; rfl)) ?_; (with_reducible refine (Zc.calls k2 g520 t518 x521001_2 (fun k_ => (k_ ≠ gb511 ∧ (k_ ≠ gb516 ∧ k_ ≠ g520))) _ _ x512000_2 (fun k_ => (k_ ≠ gb511 ∧ (k_ ≠ gb516 ∧ k_ ≠ g520))) _ _ x517000_2 t529 t532 false t536 w _ ?side1 ?side2 ?side3 ?side4 A39.out).mono ?_); (case side1 => repeat (first | (with_reducible first | exact HI520.out | apply Zb.alloc | apply Zb.drewN | apply Zb.drew | apply Zb.Zad | refine Zb.far ?_ NB520_511.out _ | refine Zb.far ?_ NB520_516.out _) | exact HI520.out)); (case side2 => repeat (first | (with_reducible first | exact HB.out | apply wA | apply wN | apply wD | refine Za ?_ (Zb.ge HI520.out) | refine Za ?_ GE511.out | refine Za ?_ GE516.out) | exact HB.out)); (case side3 => exact Kd.Yd (J512.out) (fun k_ hk_ => ⟨hk_, hk_.2.2⟩)); (case side4 => exact Kd.Yd (J517.out) (fun k_ hk_ => ⟨hk_, hk_.2.2⟩)); rintro e w73 ⟨v530, v533, rfl, ho0, ho1, hi, hb, hk⟩; refine ⟨_, rfl, ?_⟩; have n0_ := aM (Kd.Yd (Kd.Zdq (Kd.Yd (ok := fun k_ => (k_ ≠ gb511 ∧ (k_ ≠ gb516 ∧ k_ ≠ g520))) (by (with_reducible repeat first | apply Kd.Zv | apply Kd.Zu | apply Kd.Z0); exact J512.out) (fun k_ hk_ => (⟨hk_, hk_.2.2⟩ : _ ∧ k_ ≠ g520))) hk (fun _ h => h.2)) (fun _ h => h.1)); have n1_ := aM (Kd.Yd (Kd.Zdq (Kd.Yd (ok := fun k_ => (k_ ≠ gb511 ∧ (k_ ≠ gb516 ∧ k_ ≠ g520))) (by (with_reducible repeat first | apply Kd.Zv | apply Kd.Zu | apply Kd.Z0); exact J517.out) (fun k_ hk_ => (⟨hk_, hk_.2.2⟩ : _ ∧ k_ ≠ g520))) hk (fun _ h => h.2)) (fun _ h => h.1)); have n2_ := aM (Zn.blk hk (g' := gb511) (o := .cells #[.slice Ao71 x512000_2.length co71] 24 (0, 0)) (by (with_reducible repeat first | apply bN | apply bD | apply bA); exact BK511.out) NB511_520.out (by simp)); have n3_ := aM (Zn.blk hk (g' := gb516) (o := .cells #[.slice Ao72 x517000_2.length co72] 24 (0, 0)) (by (with_reducible repeat first | apply bN | apply bD | apply bA); exact BK516.out) NB516_520.out (by simp)); have n4_ := aM (Kd.V_lower (Kd.Yd (ok' := fun k_ => k_ ≠ gb511 ∧ k_ ≠ gb516 ∧ k_ ≠ g520) ho0 (fun k_ hk_ => ⟨Or.elim hk_ (fun hs_ => Or.elim hs_ (fun hs_ => hs_.1) (fun hs_ => hs_.1)) (fun hn_ => (Kd.Y6 (g := gb511) (o := .cells #[.slice Ao71 x512000_2.length co71] 24 (0, 0)) (by (with_reducible repeat first | apply bN | apply bD | apply bA); exact BK511.out) k_ hn_)), Or.elim hk_ (fun hs_ => Or.elim hs_ (fun hs_ => hs_.2.1) (fun hs_ => hs_.2.1)) (fun hn_ => (Kd.Y6 (g := gb516) (o := .cells #[.slice Ao72 x517000_2.length co72] 24 (0, 0)) (by (with_reducible repeat first | apply bN | apply bD | apply bA); exact BK516.out) k_ hn_)), Or.elim hk_ (fun hs_ => Or.elim hs_ (fun hs_ => hs_.2.2) (fun hs_ => hs_.2.2)) (fun hn_ => (Zb.fresh (by repeat (first | (with_reducible first | exact HI520.out | apply Zb.alloc | apply Zb.drewN | apply Zb.drew | apply Zb.Zad | refine Zb.far ?_ NB520_511.out _ | refine Zb.far ?_ NB520_516.out _) | exact HI520.out)) k_ hn_))⟩)) (Zd (by repeat (first | (with_reducible first | exact HB.out | apply wA | apply wN | apply wD | refine Za ?_ (Zb.ge HI520.out) | refine Za ?_ GE511.out | refine Za ?_ GE516.out) | exact HB.out)))); have n5_ := aM (Kd.V_lower (Kd.Yd (ok' := fun k_ => k_ ≠ gb511 ∧ k_ ≠ gb516 ∧ k_ ≠ g520) ho1 (fun k_ hk_ => ⟨Or.elim hk_ (fun hs_ => Or.elim hs_ (fun hs_ => hs_.1) (fun hs_ => hs_.1)) (fun hn_ => (Kd.Y6 (g := gb511) (o := .cells #[.slice Ao71 x512000_2.length co71] 24 (0, 0)) (by (with_reducible repeat first | apply bN | apply bD | apply bA); exact BK511.out) k_ hn_)), Or.elim hk_ (fun hs_ => Or.elim hs_ (fun hs_ => hs_.2.1) (fun hs_ => hs_.2.1)) (fun hn_ => (Kd.Y6 (g := gb516) (o := .cells #[.slice Ao72 x517000_2.length co72] 24 (0, 0)) (by (with_reducible repeat first | apply bN | apply bD | apply bA); exact BK516.out) k_ hn_)), Or.elim hk_ (fun hs_ => Or.elim hs_ (fun hs_ => hs_.2.2) (fun hs_ => hs_.2.2)) (fun hn_ => (Zb.fresh (by repeat (first | (with_reducible first | exact HI520.out | apply Zb.alloc | apply Zb.drewN | apply Zb.drew | apply Zb.Zad | refine Zb.far ?_ NB520_511.out _ | refine Zb.far ?_ NB520_516.out _) | exact HI520.out)) k_ hn_))⟩)) (Zd (by repeat (first | (with_reducible first | exact HB.out | apply wA | apply wN | apply wD | refine Za ?_ (Zb.ge HI520.out) | refine Za ?_ GE511.out | refine Za ?_ GE516.out) | exact HB.out)))); have n6_ := aM (hb); have n7_ := aM (hi); clear J512 J517 BK511 BK516 HB HI520; have J512 := n0_; have J517 := n1_; have BK511 := n2_; have BK516 := n3_; have HO531 := n4_; have HO534 := n5_; have HB := n6_; have HI520 := n7_; clear n0_ n1_ n2_ n3_ n4_ n5_ n6_ n7_; (try clear hb); (try clear hb2); (try clear hk); (try clear hi); (try clear hge_); (try clear ho0); (try clear ho1)) | ((with_reducible refine Z7 (N := 11) rfl ?_); refine Z4 ?hg (N := 11) ?hd (cs := #[.slice none 0 0]) (t := 24) ?hr ?_; (case hd => rfl); (case hg => rfl); (case hr => first | (go_simp; done) | (go_simp; rfl)); intro gb537 hg w74 hbox hb; have n0_ := aM (Kd.Y0 (Kd.Yx (by (with_reducible repeat first | apply Kd.Zv | apply Kd.Zu | apply Kd.Z0); exact J512.out) gb537 (Nat.le_of_eq hg.symm)) hb); have n1_ := aM (Kd.Y0 (Kd.Yx (by (with_reducible repeat first | apply Kd.Zv | apply Kd.Zu | apply Kd.Z0); exact J517.out) gb537 (Nat.le_of_eq hg.symm)) hb); have n2_ := aM (Kd.Y0 (Kd.Yx (by (with_reducible repeat first | apply Kd.Zv | apply Kd.Zu | apply Kd.Z0); exact HO531.out) gb537 (Nat.le_of_eq hg.symm)) hb); have n3_ := aM (Kd.Y0 (Kd.Yx (by (with_reducible repeat first | apply Kd.Zv | apply Kd.Zu | apply Kd.Z0); exact HO534.out) gb537 (Nat.le_of_eq hg.symm)) hb); have n4_ := aM (Zf (g := gb511) (o := .cells #[.slice Ao71 x512000_2.length co71] 24 (0, 0)) (by (with_reducible repeat first | apply bN | apply bD | apply bA); exact BK511.out) hb); have n5_ := aM (Zf (g := gb516) (o := .cells #[.slice Ao72 x517000_2.length co72] 24 (0, 0)) (by (with_reducible repeat first | apply bN | apply bD | apply bA); exact BK516.out) hb); have n6_ := aM (Zb.below (by repeat (first | (with_reducible first | exact HI520.out | apply Zb.alloc | apply Zb.drewN | apply Zb.drew | apply Zb.Zad | refine Zb.far ?_ NB520_511.out _ | refine Zb.far ?_ NB520_516.out _) | exact HI520.out)) hb); have n7_ := aM (Zj (by repeat (first | (with_reducible first | exact HB.out | apply wA | apply wN | apply wD | refine Za ?_ (Zb.ge HI520.out) | refine Za ?_ GE511.out | refine Za ?_ GE516.out) | exact HB.out)) hb); have n8_ := aM (hbox); have n9_ := aM ((by rw [hg]; exact (Zd (by repeat (first | (with_reducible first | exact HB.out | apply wA | apply wN | apply wD | refine Za ?_ (Zb.ge HI520.out) | refine Za ?_ GE511.out | refine Za ?_ GE516.out) | exact HB.out))) : w.heap.size ≤ gb537)); have n10_ := aM ((by rw [hg]; exact (Zd (by repeat (first | (with_reducible first | exact HB.out | apply wA | apply wN | apply wD | refine Za ?_ (Zb.ge HI520.out) | refine Za ?_ GE511.out | refine Za ?_ GE516.out) | exact HB.out))) : w.heap.size ≤ gb537)); have n11_ := aM ((by rw [hg]; exact Nat.ne_of_lt (Ya (g := gb511) (o := .cells #[.slice Ao71 x512000_2.length co71] 24 (0, 0)) (by (with_reducible repeat first | apply bN | apply bD | apply bA); exact BK511.out)) : gb511 ≠ gb537)); have n12_ := aM ((by rw [hg]; exact Nat.ne_of_gt (Ya (g := gb511) (o := .cells #[.slice Ao71 x512000_2.length co71] 24 (0, 0)) (by (with_reducible repeat first | apply bN | apply bD | apply bA); exact BK511.out)) : gb537 ≠ gb511)); have n13_ := aM ((by rw [hg]; exact Nat.ne_of_lt (Ya (g := gb516) (o := .cells #[.slice Ao72 x517000_2.length co72] 24 (0, 0)) (by (with_reducible repeat first | apply bN | apply bD | apply bA); exact BK516.out)) : gb516 ≠ gb537)); have n14_ := aM ((by rw [hg]; exact Nat.ne_of_gt (Ya (g := gb516) (o := .cells #[.slice Ao72 x517000_2.length co72] 24 (0, 0)) (by (with_reducible repeat first | apply bN | apply bD | apply bA); exact BK516.out)) : gb537 ≠ gb516)); have n15_ := aM ((by rw [hg]; exact Nat.ne_of_lt (Zb.lt (show Zb w _ g520 t518 t536 from by repeat (first | (with_reducible first | exact HI520.out | apply Zb.alloc | apply Zb.drewN | apply Zb.drew | apply Zb.Zad | refine Zb.far ?_ NB520_511.out _ | refine Zb.far ?_ NB520_516.out _) | exact HI520.out))) : g520 ≠ gb537)); have n16_ := aM ((by rw [hg]; exact Nat.ne_of_gt (Zb.lt (show Zb w _ g520 t518 t536 from by repeat (first | (with_reducible first | exact HI520.out | apply Zb.alloc | apply Zb.drewN | apply Zb.drew | apply Zb.Zad | refine Zb.far ?_ NB520_511.out _ | refine Zb.far ?_ NB520_516.out _) | exact HI520.out))) : gb537 ≠ g520)); clear J512 J517 HO531 HO534 BK511 BK516 HI520 HB; have J512 := n0_; have J517 := n1_; have HO531 := n2_; have HO534 := n3_; have BK511 := n4_; have BK516 := n5_; have HI520 := n6_; have HB := n7_; have BK537 := n8_; have GW537 := n9_; have GE537 := n10_; have NB511_537 := n11_; have NB537_511 := n12_; have NB516_537 := n13_; have NB537_516 := n14_; have NB520_537 := n15_; have NB537_520 := n16_; clear n0_ n1_ n2_ n3_ n4_ n5_ n6_ n7_ n8_ n9_ n10_ n11_ n12_ n13_ n14_ n15_ n16_; clear hb hbox hg) | ((with_reducible refine Z7 (N := 12) rfl ?_); refine Z4 ?hg (N := 12) ?hd (cs := #[.slice none 0 0]) (t := 24) ?hr ?_; (case hd => rfl); (case hg => rfl); (case hr => first | (go_simp; done) | (go_simp; rfl)); intro gb538 hg w75 hbox hb; have n0_ := aM (Kd.Y0 (Kd.Yx (by (with_reducible repeat first | apply Kd.Zv | apply Kd.Zu | apply Kd.Z0); exact J512.out) gb538 (Nat.le_of_eq hg.symm)) hb); have n1_ := aM (Kd.Y0 (Kd.Yx (by (with_reducible repeat first | apply Kd.Zv | apply Kd.Zu | apply Kd.Z0); exact J517.out) gb538 (Nat.le_of_eq hg.symm)) hb); have n2_ := aM (Kd.Y0 (Kd.Yx (by (with_reducible repeat first | apply Kd.Zv | apply Kd.Zu | apply Kd.Z0); exact HO531.out) gb538 (Nat.le_of_eq hg.symm)) hb); have n3_ := aM (Kd.Y0 (Kd.Yx (by (with_reducible repeat first | apply Kd.Zv | apply Kd.Zu | apply Kd.Z0); exact HO534.out) gb538 (Nat.le_of_eq hg.symm)) hb); have n4_ := aM (Zf (g := gb511) (o := .cells #[.slice Ao71 x512000_2.length co71] 24 (0, 0)) (by (with_reducible repeat first | apply bN | apply bD | apply bA); exact BK511.out) hb); have n5_ := aM (Zf (g := gb516) (o := .cells #[.slice Ao72 x517000_2.length co72] 24 (0, 0)) (by (with_reducible repeat first | apply bN | apply bD | apply bA); exact BK516.out) hb); have n6_ := aM (Zb.below (by repeat (first | (with_reducible first | exact HI520.out | apply Zb.alloc | apply Zb.drewN | apply Zb.drew | apply Zb.Zad | refine Zb.far ?_ NB520_511.out _ | refine Zb.far ?_ NB520_516.out _ | refine Zb.far ?_ NB520_537.out _) | exact HI520.out)) hb); have n7_ := aM (Zf (g := gb537) (o := .cells #[.slice none 0 0] 24 (0, 0)) (by (with_reducible repeat first | apply bN | apply bD | apply bA); exact BK537.out) hb); have n8_ := aM (Zj (by repeat (first | (with_reducible first | exact HB.out | apply wA | apply wN | apply wD | refine Za ?_ (Zb.ge HI520.out) | refine Za ?_ GE511.out | refine Za ?_ GE516.out | refine Za ?_ GE537.out) | exact HB.out)) hb); have n9_ := aM (hbox); have n10_ := aM ((by rw [hg]; exact (Zd (by repeat (first | (with_reducible first | exact HB.out | apply wA | apply wN | apply wD | refine Za ?_ (Zb.ge HI520.out) | refine Za ?_ GE511.out | refine Za ?_ GE516.out | refine Za ?_ GE537.out) | exact HB.out))) : w.heap.size ≤ gb538)); have n11_ := aM ((by rw [hg]; exact (Zd (by repeat (first | (with_reducible first | exact HB.out | apply wA | apply wN | apply wD | refine Za ?_ (Zb.ge HI520.out) | refine Za ?_ GE511.out | refine Za ?_ GE516.out | refine Za ?_ GE537.out) | exact HB.out))) : w.heap.size ≤ gb538)); have n12_ := aM ((by rw [hg]; exact Nat.ne_of_lt (Ya (g := gb511) (o := .cells #[.slice Ao71 x512000_2.length co71] 24 (0, 0)) (by (with_reducible repeat first | apply bN | apply bD | apply bA); exact BK511.out)) : gb511 ≠ gb538)); have n13_ := aM ((by rw [hg]; exact Nat.ne_of_gt (Ya (g := gb511) (o := .cells #[.slice Ao71 x512000_2.length co71] 24 (0, 0)) (by (with_reducible repeat first | apply bN | apply bD | apply bA); exact BK511.out)) : gb538 ≠ gb511)); have n14_ := aM ((by rw [hg]; exact Nat.ne_of_lt (Ya (g := gb516) (o := .cells #[.slice Ao72 x517000_2.length co72] 24 (0, 0)) (by (with_reducible repeat first | apply bN | apply bD | apply bA); exact BK516.out)) : gb516 ≠ gb538)); have n15_ := aM ((by rw [hg]; exact Nat.ne_of_gt (Ya (g := gb516) (o := .cells #[.slice Ao72 x517000_2.length co72] 24 (0, 0)) (by (with_reducible repeat first | apply bN | apply bD | apply bA); exact BK516.out)) : gb538 ≠ gb516)); have n16_ := aM ((by rw [hg]; exact Nat.ne_of_lt (Ya (g := gb537) (o := .cells #[.slice none 0 0] 24 (0, 0)) (by (with_reducible repeat first | apply bN | apply bD | apply bA); exact BK537.out)) : gb537 ≠ gb538)); have n17_ := aM ((by rw [hg]; exact Nat.ne_of_gt (Ya (g := gb537) (o := .cells #[.slice none 0 0] 24 (0, 0)) (by (with_reducible repeat first | apply bN | apply bD | apply bA); exact BK537.out)) : gb538 ≠ gb537)); have n18_ := aM ((by rw [hg]; exact Nat.ne_of_lt (Zb.lt (show Zb w _ g520 t518 t536 from by repeat (first | (with_reducible first | exact HI520.out | apply Zb.alloc | apply Zb.drewN | apply Zb.drew | apply Zb.Zad | refine Zb.far ?_ NB520_511.out _ | refine Zb.far ?_ NB520_516.out _ | refine Zb.far ?_ NB520_537.out _) | exact HI520.out))) : g520 ≠ gb538)); have n19_ := aM ((by rw [hg]; exact Nat.ne_of_gt (Zb.lt (show Zb w _ g520 t518 t536 from by repeat (first | (with_reducible first | exact HI520.out | apply Zb.alloc | apply Zb.drewN | apply Zb.drew | apply Zb.Zad | refine Zb.far ?_ NB520_511.out _ | refine Zb.far ?_ NB520_516.out _ | refine Zb.far ?_ NB520_537.out _) | exact HI520.out))) : gb538 ≠ g520)); clear J512 J517 HO531 HO534 BK511 BK516 HI520 BK537 HB; have J512 := n0_; have J517 := n1_; have HO531 := n2_; have HO534 := n3_; have BK511 := n4_; have BK516 := n5_; have HI520 := n6_; have BK537 := n7_; have HB := n8_; have BK538 := n9_; have GW538 := n10_; have GE538 := n11_; have NB511_538 := n12_; have NB538_511 := n13_; have NB516_538 := n14_; have NB538_516 := n15_; have NB537_538 := n16_; have NB538_537 := n17_; have NB520_538 := n18_; have NB538_520 := n19_; clear n0_ n1_ n2_ n3_ n4_ n5_ n6_ n7_ n8_ n9_ n10_ n11_ n12_ n13_ n14_ n15_ n16_ n17_ n18_ n19_; clear hb hbox hg; obtain ⟨Ao76, co76, eo76⟩ := Kd.Zdi HO531.out; subst eo76; have hnb77 := NB537_511.out; have hnc77 := NB511_537.out; have hnb78 := NB537_516.out; have hnc78 := NB516_537.out; have hnb79 := NB537_538.out; have hnc79 := NB538_537.out; have hnb80 := NB537_520.out; have hnc80 := NB520_537.out; have hcz81_0 : w75.cell? ⟨gb537, 0, none⟩ = some (.slice none 0 0) := (Ze BK537.out 0).trans rfl; have hfz81_0 := Zg BK537.out 0; obtain ⟨Ao82, co82, eo82⟩ := Kd.Zdi HO534.out; subst eo82; have hnb83 := NB538_511.out; have hnc83 := NB511_538.out; have hnb84 := NB538_516.out; have hnc84 := NB516_538.out; have hnb85 := NB538_520.out; have hnc85 := NB520_538.out; have hcz86_0 : w75.cell? ⟨gb538, 0, none⟩ = some (.slice none 0 0) := (Ze BK538.out 0).trans rfl; have hfz86_0 := Zg BK538.out 0))
         go_ret
         exact ⟨by first | rfl | (simp [Zy, Zx] <;> rfl) | (simp [*, Zy, Zx] <;> rfl), by repeat (first | (with_reducible first | exact HB.out | apply wA | apply wN | apply wD | refine Za ?_ (Zb.ge HI520.out) | refine Za ?_ GE511.out | refine Za ?_ GE516.out | refine Za ?_ GE537.out | refine Za ?_ GE538.out) | exact HB.out)⟩
       ·rw [if_neg c38] at H
        have c38b0 : decide (x10_2 < 20) = false := decide_eq_false c38
        clear c38
        obtain rfl := Option.some.inj H
        go_wp2
        go_ret
        exact ⟨by first | rfl | (simp [Zy, Zx] <;> rfl) | (simp [*, Zy, Zx] <;> rfl), by repeat (first | (with_reducible first | exact HB.out | apply wA | apply wN | apply wD | refine Za ?_ (Zb.ge HI520.out) | refine Za ?_ GE511.out | refine Za ?_ GE516.out) | exact HB.out)⟩
 ·replace c4 := Bool.eq_false_iff.mpr c4
  subst c4
  have H1 : (some false) = some r := by rw [if_neg (show ¬ (false = true) by decide)] at H; exact H
  clear H
  have H := H1
  clear H1
  obtain rfl := Option.some.inj H
  go_enter Try.func7, Try.ntmps7
  go_wp2_with (first | ((with_reducible refine Yf (f := 9) rfl ?_); refine Zap (some 14) rfl rfl Try.func9 (by kernel_rfl) rfl #[] rfl (by (try simp only [Qi, Qj, Qk]); first | done | rfl | (simp only [Qe, Qd]; rfl)) ?_; (with_reducible refine (Zw.calls k  false _ A3.out).mono ?_); rintro e w87 ⟨rfl, hb⟩; refine ⟨_, rfl, ?_⟩; have n0_ := aM (Zj (by repeat (first | (with_reducible first | exact HB.out | apply wA | apply wN | apply wD) | exact HB.out)) hb); clear HB; have HB := n0_; clear n0_; (try clear hb); (try clear hb2); (try clear hk); (try clear hi); (try clear hge_)))
  go_ret
  exact ⟨by first | rfl | (simp [Zy, Zx] <;> rfl) | (simp [*, Zy, Zx] <;> rfl), by repeat (first | (with_reducible first | exact HB.out | apply wA | apply wN | apply wD) | exact HB.out)⟩

end Go.Proofs.Ytnfbjdnflifcoaa.PDk

namespace Go.Proofs.YtnfbjdnflifcoaaX
open Go.ChangeShapes Go.WideShapes Go.Deep Go.RowKit Go.Proofs.YtnfbjdnflifcoaaW.PrintWords

/-- No part of the data is longer than the reach. -/
def Light {H : Type} (P : Program) (t : TypeId) (D : DataW H) : Prop := ∀ n ∈ D.weights P t, n ≤ reachBytes
theorem Light.of {H : Type} {P : Program} {ts : List TypeId} {ds : List (DataW H)} {j : Nat} {t : TypeId} {D : DataW H} (hsz : (DataW.weightsEach P ts ds).all (· ≤ reachBytes) = true) (ht : ts[j]? = some t) (hd : ds[j]? = some D) : Light P t D :=
  fun n hn => by have := List.all_eq_true.1 hsz _ (DataW.weights_mem_each ht hd n hn); simpa using this
theorem mem_all {H : Type} {P : Program} {e : TypeId} {n : Nat} : ∀ {l : List (DataW H)} {D : DataW H}, D ∈ l → n ∈ D.weights P e → n ∈ DataW.weightsAll P e l
  | x :: l, D, h, hn => by
    rw [DataW.weightsAll, List.mem_append]
    rcases List.mem_cons.1 h with rfl | h
    · exact .inl hn
    · exact .inr (mem_all h hn)
theorem Light.elems {H : Type} {P : Program} {t e : TypeId} {l s : List (DataW H)} (h : Light P t (.slice l s)) (hu : P.underlying t = some (.slice e)) : (l.length + s.length) * P.bytesOf e ≤ 140737488351232 ∧ ∀ D ∈ l, Light P e D :=
  ⟨by have := h _ (show (l.length + s.length) * P.bytesOf e ∈ DataW.weights P t (.slice l s) by simp [DataW.weights, hu]); simpa [reachBytes] using this,
   fun D hD n hn => h n (by simp only [DataW.weights, hu, List.mem_cons, List.mem_append]; exact .inr (.inl (mem_all hD hn)))⟩
theorem Light.part {H : Type} {P : Program} {t : TypeId} {fs : Array Field} {l : List (DataW H)} (h : Light P t (.agg l)) (hu : P.underlying t = some (.struct fs)) {i : Nat} {f : Field} {D : DataW H} (hf : fs[i]? = some f) (hD : l[i]? = some D) : Light P f.type D :=
  fun n hn => h n (by simp only [DataW.weights, hu]; exact DataW.weights_mem_each (j := i) (by simp [hf]) hD n hn)
/-- What reads az data of type t is a value of kind d with what g says. -/
def Zd9 {α : Type} (P : Program) (t : TypeId) (d : Kd α) (g : α → Prop) : Prop :=
  ∀ {H : Type} {enc : TypeId × Value → H} {w : World} {base : Nat} {spare : Nat → Bool} {held : Bool} {fuel : Nat} {cs : List Value} {x : DataW H × List MemPlace}, DataW.trod enc P w base spare held fuel t cs = some x → Light P t x.1 → ∃ v, d.K w v cs ∧ g v

section
variable {P : Program} {t e : TypeId}
theorem Zd9.int {k : IntKind} (hu : P.underlying t = some (.int k)) : Zd9 P t (Kd.int k) (fun x => (Lit.int k x).wf = true) := by
  intro H enc w base spare held fuel cs x h _
  obtain ⟨n, rfl, _, hw⟩ := DataW.trod_int hu h
  exact ⟨n, rfl, hw⟩
theorem Zd9.bool (hu : P.underlying t = some .bool) : Zd9 P t Kd.bool (fun _ => True) := by
  intro H enc w base spare held fuel cs x h _
  obtain ⟨n, rfl, _⟩ := DataW.trod_bool hu h
  exact ⟨n, rfl, trivial⟩
theorem Zd9.string (hu : P.underlying t = some .string) : Zd9 P t Kd.string (fun s => s.size ≤ 140737488351232) := by
  intro H enc w base spare held fuel cs x h hs
  obtain ⟨n, rfl, rfl, hw⟩ := DataW.trod_string hu h
  exact ⟨n, rfl, by have := hs _ (show n.data.toList.length ∈ _ by simp [DataW.weights]); simpa [reachBytes] using this⟩

theorem list_of {α : Type} {p : Nat → α → Prop} : ∀ n : Nat, (∀ i, i < n → ∃ x, p i x) → ∃ l : List α, l.length = n ∧ ∀ i x, l[i]? = some x → p i x := by
  intro n
  induction n with
  | zero => intro _; exact ⟨[], rfl, fun i x h => by simp at h⟩
  | succ n ih =>
    intro h
    obtain ⟨l, hl, hp⟩ := ih (fun i hi => h i (by omega))
    obtain ⟨x, hx⟩ := h n (by omega)
    refine ⟨l ++ [x], by simp [hl], fun i y hy => ?_⟩
    rcases Nat.lt_or_ge i n with hi | hi
    · rw [List.getElem?_append_left (by omega)] at hy
      exact hp i y hy
    · have hi' : i = n := by
        have := (List.getElem?_eq_some_iff.1 hy).1
        simp [hl] at this
        omega
      subst hi'
      rw [List.getElem?_append_right (by omega), hl] at hy
      simp at hy
      subst hy
      exact hx

theorem Zd9.slice {α : Type} {d : Kd α} {g : α → Prop} {B : Nat} (hu : P.underlying t = some (.slice e)) (hc : P.cellsOf e = d.sz) (hB : P.bytesOf e = B) (ho : Zd9 P e d g) : Zd9 P t (Kd.slice e d) (fun l => l.length ≤ maxLen ∧ l.length * B ≤ 140737488351232 ∧ ∀ x ∈ l, g x) := by
  intro H enc w base spare held fuel cs x h hs
  rcases open_slice hu h with ⟨rfl, _⟩ | ⟨a, len, cap, m, n, D, Pl, rfl, _, hl, hm, hmm, rfl, hx⟩
  · exact ⟨[], ⟨none, 0, rfl, Nat.le_refl _, rfl, by simp, fun h => absurd h (by simp)⟩, by simp, by simp, fun x hx => by simp at hx⟩
  · obtain ⟨hs1, hs2⟩ := hs.elems hu
    rw [hB] at hs1
    simp only [List.length_map, List.length_range] at hs1
    have hlm : len ≤ m := by rw [hmm]; split <;> omega
    obtain ⟨l, hll, hp⟩ := list_of (p := fun i v => g v ∧ ∃ c, c.length = d.sz ∧ d.K w v c ∧ ∀ j u, c[j]? = some u → w.cell? (a.add (i * d.sz + j)) = some u) len (fun i hi => by
      obtain ⟨cs', h1, h2⟩ := hx i (by omega)
      obtain ⟨v, hK, hg⟩ := ho h2 (hs2 (D i) (List.mem_map.2 ⟨i, List.mem_range.2 hi, rfl⟩))
      refine ⟨v, hg, cs', d.K_len hK, hK, fun j u hu' => ?_⟩
      obtain ⟨_, hlen, hcell⟩ := World.cells?_some h1
      have hj : j < P.cellsOf e := by
        have := (List.getElem?_eq_some_iff.1 hu').1
        omega
      have := hcell j hj
      rw [Deep.add_add, hc] at this
      rw [this]
      exact hu')
    refine ⟨l, ⟨some a, cap, by rw [hll], by omega, rfl, ?_, fun _ => ⟨a, rfl, fun j p hj => (hp j p hj).2⟩⟩, by omega, by rw [hll]; exact Nat.le_trans (Nat.mul_le_mul_right _ (Nat.le_add_right _ _)) hs1, fun y hy => ?_⟩
    · unfold maxLen at hm
      omega
    · obtain ⟨i, hi⟩ := List.getElem?_of_mem hy
      exact (hp i y hi).1

theorem cut2 (cs : List Value) (o n : Nat) : cs.drop o = (cs.drop o).take n ++ cs.drop (o + n) := by
  rw [← List.drop_drop, List.take_append_drop]
theorem cutlast {cs : List Value} {o n : Nat} (h : cs.length = o + n) : (cs.drop o).take n = cs.drop o := List.take_of_length_le (by simp; omega)

/-- A field of what reads az a struct. -/
theorem field_of {t : TypeId} {H : Type} {enc : TypeId × Value → H} {w : World} {base : Nat} {spare : Nat → Bool} {held : Bool} {fs : Array Field} {xs : List (DataW H × List MemPlace)} {n : Nat} {cs : List Value} (hl : xs.length = fs.size) (hu : P.underlying t = some (.struct fs)) (hs : Light P t (.agg (xs.map (·.1))))
    (h : ∀ (i : Nat) (f : Field), fs[i]? = some f → DataW.trod enc P w base spare held n f.type ((cs.drop f.offset).take (P.cellsOf f.type)) = xs[i]?) {i : Nat} {f : Field} (hf : fs[i]? = some f) {α : Type} {d : Kd α} {g : α → Prop} (ho : Zd9 P f.type d g) (hc : P.cellsOf f.type = d.sz) :
    ∃ v, d.K w v ((cs.drop f.offset).take d.sz) ∧ g v := by
  have hi : i < xs.length := by rw [hl]; exact (Array.getElem?_eq_some_iff.1 hf).1
  have := h i f hf
  rw [Qm hi, hc] at this
  exact ho this (hs.part hu hf (by rw [List.getElem?_map, Qm hi]; rfl))

/-- A slice that came in. -/
theorem arg_slice {α : Type} {d : Kd α} {g : α → Prop} {H : Type} {enc : TypeId × Value → H} {w : World} {base : Nat} {spare : Nat → Bool} {held : Bool} {a : Option Addr} {len cap : Nat} {D : DataW H} {ps : List MemPlace}
    {B : Nat} (hu : P.underlying t = some (.slice e)) (hc : P.cellsOf e = d.sz) (hB : P.bytesOf e = B) (ho : Zd9 P e d g) (hs : Light P t D) (h : DataW.Trod enc P w base spare held t (.slice a len cap) D ps) :
    ∃ l : List α, len = l.length ∧ Kd.C d w a l.length l ∧ l.length ≤ cap ∧ l.length ≤ maxLen ∧ l.length * B ≤ 140737488351232 ∧ ∀ x ∈ l, g x := by
  obtain ⟨fuel, hf⟩ := h
  obtain ⟨l, ⟨A, c, he, hle, hC⟩, hm, hb, hg⟩ := Zd9.slice hu hc hB ho hf hs
  simp [Value.cells] at he
  obtain ⟨rfl, rfl, rfl⟩ := he
  exact ⟨l, rfl, hC, hle, hm, hb, hg⟩

/-- A struct by value. -/
theorem arg_struct {α : Type} {d : Kd α} {g : α → Prop} {fs : Array Field} {H : Type} {enc : TypeId × Value → H} {w : World} {base b0 : Nat} {r : Reach} {spare : Nat → Bool} {held : Bool} {v : Value} {D : DataW H} {ps : List MemPlace}
    (hu : P.underlying t = some (.struct fs)) (hv : Value.okWide P w r b0 t v) (ho : Zd9 P t d g) (hs : Light P t D) (h : DataW.Trod enc P w base spare held t v D ps) :
    ∃ (x : α) (cs : List Value), v = .agg cs.toArray ∧ d.K w x cs ∧ g x := by
  obtain ⟨cs, rfl, hsz⟩ := okWide_struct hu hv
  obtain ⟨fuel, hf⟩ := h
  obtain ⟨x, hK, hg⟩ := ho hf hs
  exact ⟨x, cs.toList, by simp, by simpa [Value.cells] using hK, hg⟩
end
end Go.Proofs.YtnfbjdnflifcoaaX

namespace Go.Proofs.Ytnfbjdnflifcoaa.PDk
open Go.RowKit Go.Proofs.YtnfbjdnflifcoaaX Go.Proofs.YtnfbjdnflifcoaaW.PrintWords
end Go.Proofs.Ytnfbjdnflifcoaa.PDk

namespace Go.Proofs.Ytnfbjdnflifcoaa.PDk
open Go.RowKit Go.Proofs.YtnfbjdnflifcoaaX Go.Proofs.YtnfbjdnflifcoaaW.PrintWords
/-- The pure statement of DiskPlays. -/
def Zh.Pure : Prop := ∀ (a0 : Int) (l1 : List Int), (Lit.int .i64 a0).wf = true → l1.length ≤ maxLen → l1.length * 1 ≤ 140737488351232 → (∀ y0_ ∈ l1, (Lit.int .u8 y0_).wf = true) → ∃ k, Zh.f k a0 l1 = some true
end Go.Proofs.Ytnfbjdnflifcoaa.PDk

namespace Go.Proofs.Ytnfbjdnflifcoaa.Dk
open Go.RowKit Go.Proofs.Ytnfbjdnflifcoaa.PDk Go.Proofs.YtnfbjdnflifcoaaW.PrintWords Go.Proofs.YtnfbjdnflifcoaaW.PrintLast
theorem w64 {x : Int} (h : -9223372036854775808 ≤ x ∧ x ≤ 9223372036854775807) : wrap64 x = x := by unfold wrap64; omega

theorem rd_mem {l : List Int} {i : Int} (h0 : 0 ≤ i) (h1 : i < (l.length : Int)) : rd l i ∈ l := by
  unfold rd
  rw [List.getD_eq_getElem?_getD, Qm (by omega)]
  simp

theorem wf_u8 {x : Int} (h : (Lit.int .u8 x).wf = true) : 0 ≤ x ∧ x < 256 := by
  simp [Lit.wf, IntKind.min, IntKind.max, IntKind.bits, IntKind.signed] at h
  omega
theorem wf_i64 {x : Int} (h : (Lit.int .i64 x).wf = true) : -9223372036854775808 ≤ x ∧ x ≤ 9223372036854775807 := by
  simp [Lit.wf, IntKind.min, IntKind.max, IntKind.bits, IntKind.signed] at h
  omega
theorem Y8 {α β : Type} {o : Option α} {a : α} {f : α → Option β} (h : o = some a) : o.bind f = f a := by rw [h]; rfl
abbrev File := S48
abbrev Tear := S39
theorem w64n {n : Nat} (h : n < 140737488355328) : wrap64 ((n : Int) + 1) = ((n + 1 : Nat) : Int) := by rw [w64 (by omega)]; rfl
theorem file_at {t : List File} {i : Nat} (h : i < t.length) : Zo t (i : Int) = t[i] := by
  simp [Zo, List.getD_eq_getElem?_getD, Qm h]
theorem tear_at {l : List Tear} {i : Nat} (h : i < l.length) : Za3 l (i : Int) = l[i] := by
  simp [Za3, List.getD_eq_getElem?_getD, Qm h]
theorem rd_at {l : List Int} {i : Nat} (h : i < l.length) : rd l (i : Int) = l[i] := by
  simp [rd, List.getD_eq_getElem?_getD, Qm h]

/-- A disk of at most 100 files of at most m bytes each, synchronized and pending. -/
structure Zb6 (m : Nat) (t : List File) : Prop where
  len : t.length ≤ 100
  file : ∀ f ∈ t, f.f0.length ≤ m ∧ f.f1.length ≤ m
theorem Zb6.at {m : Nat} {t : List File} (h : Zb6 m t) {i : Nat} (hi : i < t.length) : t[i].f0.length ≤ m ∧ t[i].f1.length ≤ m := h.file _ (List.getElem_mem hi)
theorem Zb6.mono {m n : Nat} {t : List File} (h : Zb6 m t) (hn : m ≤ n) : Zb6 n t := ⟨h.len, fun f hf => ⟨by have := h.file f hf; omega, by have := h.file f hf; omega⟩⟩
theorem Zb6.set {m : Nat} {t : List File} (h : Zb6 m t) {i : Nat} {f : File} (hf : f.f0.length ≤ m ∧ f.f1.length ≤ m) : Zb6 m (t.set i f) :=
  ⟨by rw [List.length_set]; exact h.len, fun g hg => by rcases List.mem_or_eq_of_mem_set hg with h1 | h1; exact h.file g h1; rw [h1]; exact hf⟩
theorem Zb6.nil (m : Nat) : Zb6 m [] := ⟨by simp, fun _ h => by simp at h⟩

theorem clone_l0 {m : Nat} {t : List File} (h : Zb6 m t) (hm : m ≤ 70368744177664) : ∀ (n i k : Nat), t.length - i ≤ n → n < k → i ≤ t.length → Ye.l0 k (t.length : Int) (i : Int) t (t.take i) = some t := by
  have hl := h.len
  intro n
  induction n with
  | zero =>
    intro i k hn hk hi
    obtain ⟨k, rfl⟩ : ∃ q, k = q + 1 := ⟨k - 1, by omega⟩
    obtain rfl : i = t.length := by omega
    simp only [Ye.l0]
    rw [if_neg (by omega), List.take_length]
  | succ n ih =>
    intro i k hn hk hi
    obtain ⟨k, rfl⟩ : ∃ q, k = q + 1 := ⟨k - 1, by omega⟩
    by_cases hlt : i < t.length
    · have g := ih (i + 1) k (by omega) (by omega) (by omega)
      have hf := h.at hlt
      simp only [Ye.l0]
      rw [if_pos (by omega), if_pos (by omega), if_pos (by omega), file_at hlt, Y8 (show Yp.f t[i].f0 = some t[i].f0 from if_pos (by omega)), Y8 (show Yp.f t[i].f1 = some t[i].f1 from if_pos (by omega)),
        if_pos (by rw [Qd]; omega), w64n (by omega)]
      rw [List.take_succ_eq_append_getElem hlt] at g
      exact g
    · obtain rfl : i = t.length := by omega
      simp only [Ye.l0]
      rw [if_neg (by omega), List.take_length]
theorem clone_f {m : Nat} {t : List File} (h : Zb6 m t) (hm : m ≤ 70368744177664) {k : Nat} (hk : 100 < k) : Ye.f k t = some t := by
  have := h.len
  exact clone_l0 h hm t.length 0 k (by omega) (by omega) (by omega)

theorem has_f (t : List File) (i : Int) : Za1.f t i = some (decide (0 ≤ i ∧ i < t.length)) := by
  unfold Za1.f
  by_cases h : i ≥ 0
  · rw [if_pos h]
    by_cases h2 : i < (t.length : Int)
    · rw [decide_eq_true h2, decide_eq_true ⟨h, h2⟩]
    · rw [decide_eq_false h2, decide_eq_false (fun hh => h2 hh.2)]
  · rw [if_neg h, decide_eq_false (fun hh => h hh.1)]
/-- The file at an index, where there is one. -/
def at_ (t : List File) (i : Int) : File := t.getD i.toNat z48
theorem at_rd (t : List File) (i : Int) : Zo t i = at_ t i := rfl
theorem Zb6.at_ {m : Nat} {t : List File} (h : Zb6 m t) (i : Int) : (at_ t i).f0.length ≤ m ∧ (at_ t i).f1.length ≤ m := by
  unfold Dk.at_
  rw [List.getD_eq_getElem?_getD]
  by_cases hi : i.toNat < t.length
  · rw [Qm hi]
    exact h.at hi
  · rw [List.getElem?_eq_none (by omega)]
    exact ⟨Nat.zero_le _, Nat.zero_le _⟩
/-- The answers. -/
def apd (t : List File) (i : Int) (b : List Int) : List File × Int :=
  if 0 ≤ i ∧ i < t.length then (if (at_ t i).f0.length + (at_ t i).f1.length + b.length > 65536 then ([], 5) else (t.set i.toNat ⟨(at_ t i).f0, (at_ t i).f1 ++ b⟩, 0)) else ([], 11)
def syn (t : List File) (i : Int) : List File × Int := if 0 ≤ i ∧ i < t.length then (t.set i.toNat ⟨(at_ t i).f0 ++ (at_ t i).f1, []⟩, 0) else ([], 11)
def rep (t : List File) (i : Int) (b : List Int) : List File × Int := if 0 ≤ i ∧ i < t.length then (if b.length > 65536 then ([], 5) else (t.set i.toNat ⟨b, []⟩, 0)) else ([], 11)
def rdd (t : List File) (i : Int) : List Int × Int := if 0 ≤ i ∧ i < t.length then ((at_ t i).f0 ++ (at_ t i).f1, 0) else ([], 11)

theorem new_f {n : Int} : Zbn.f n = some (if n < 0 ∨ n > 16 then ([], 3) else (List.replicate n.toNat z48, 0)) := by
  unfold Zbn.f
  by_cases h : n < 0
  · rw [if_pos h, if_pos (.inl h)]
  · rw [if_neg h]
    by_cases h2 : n > 16
    · rw [if_pos h2, if_pos (.inr h2)]
    · rw [if_neg h2, if_pos (by omega), if_pos (by omega), if_neg (by omega)]
theorem new_one : Zbn.f 1 = some (List.replicate 1 z48, 0) := by kernel_rfl
theorem new_two : Zbn.f 2 = some (List.replicate 2 z48, 0) := by kernel_rfl
theorem new_three : Zbn.f 3 = some (List.replicate 3 z48, 0) := by kernel_rfl
theorem new_four : Zbn.f 4 = some (List.replicate 4 z48, 0) := by kernel_rfl
theorem Zb6.new (m n : Nat) (h : n ≤ 100) : Zb6 m (List.replicate n z48) := ⟨by simpa using h, fun f hf => by rw [List.eq_of_mem_replicate hf]; exact ⟨Nat.zero_le _, Nat.zero_le _⟩⟩

end Go.Proofs.Ytnfbjdnflifcoaa.Dk

namespace Go.Proofs.Ytnfbjdnflifcoaa.Dk
open Go.RowKit Go.Proofs.Ytnfbjdnflifcoaa.PDk Go.Proofs.YtnfbjdnflifcoaaW.PrintWords Go.Proofs.YtnfbjdnflifcoaaW.PrintLast

theorem Zd3 {l : List Int} {v : Int} {i : Nat} (h : i < l.length) : v ∈ l.drop i ↔ v = l[i] ∨ v ∈ l.drop (i + 1) := by rw [List.drop_eq_getElem_cons h, List.mem_cons]
theorem index_l0 (l : List Int) (v : Int) (hl : l.length < 140737488355328) : ∀ (n i k : Nat), l.length - i ≤ n → n < k → i ≤ l.length → ∃ r, Z9.l0 k l v (l.length : Int) (i : Int) = some r ∧ (r ≥ 0 ↔ v ∈ l.drop i) := by
  intro n
  induction n with
  | zero =>
    intro i k hn hk hi
    obtain ⟨k, rfl⟩ : ∃ q, k = q + 1 := ⟨k - 1, by omega⟩
    refine ⟨-1, ?_, ?_⟩
    · simp only [Z9.l0]
      rw [if_neg (by omega)]
    · rw [List.drop_of_length_le (by omega)]
      simp
  | succ n ih =>
    intro i k hn hk hi
    obtain ⟨k, rfl⟩ : ∃ q, k = q + 1 := ⟨k - 1, by omega⟩
    simp only [Z9.l0]
    by_cases hlt : i < l.length
    · rw [if_pos (by omega), if_pos (by omega), if_pos (by omega), rd_at hlt]
      by_cases hv : v = l[i]
      · rw [if_pos hv]
        exact ⟨_, rfl, ⟨fun _ => (Zd3 hlt).2 (.inl hv), fun _ => by omega⟩⟩
      · rw [if_neg hv, w64n (by omega)]
        obtain ⟨r, hr, hm⟩ := ih (i + 1) k (by omega) (by omega) (by omega)
        exact ⟨r, hr, by rw [hm, Zd3 hlt]; exact ⟨.inr, fun h => h.resolve_left hv⟩⟩
    · refine ⟨-1, by rw [if_neg (by omega)], ?_⟩
      rw [List.drop_of_length_le (by omega)]
      simp
theorem contains_f {l : List Int} (hl : l.length < 140737488355328) (v : Int) {k : Nat} (hk : l.length < k) : Yz.f k l v = some (decide (v ∈ l)) := by
  obtain ⟨r, hr, hm⟩ := index_l0 l v hl l.length 0 k (by omega) hk (by omega)
  unfold Yz.f Z9.f
  rw [Y8 (show Z9.l0 k l v (l.length : Int) 0 = some r from hr)]
  congr 1
  rw [List.drop_zero] at hm
  exact decide_eq_decide.2 hm
/-- The lost sectors made zero, from byte a on, before byte n. -/
def zp (lost : List Int) (n a : Nat) (xs : List Int) : List Int := xs.mapIdx fun j x => if a ≤ j ∧ j < n ∧ ((j / 16 : Nat) : Int) ∈ lost then 0 else x
theorem zp_at (lost : List Int) (n a : Nat) (xs : List Int) (j : Nat) : (zp lost n a xs)[j]? = xs[j]?.map fun x => if a ≤ j ∧ j < n ∧ ((j / 16 : Nat) : Int) ∈ lost then 0 else x := List.getElem?_mapIdx
theorem zp_length (lost : List Int) (n a : Nat) (xs : List Int) : (zp lost n a xs).length = xs.length := List.length_mapIdx
theorem zp_done {lost : List Int} {n a : Nat} (h : n ≤ a) (xs : List Int) : zp lost n a xs = xs := by
  apply List.ext_getElem?
  intro j
  rw [zp_at]
  cases xs[j]? with
  | none => rfl
  | some x => simp only [Option.map_some]; rw [if_neg (by omega)]
theorem zp_take (lost : List Int) (n : Nat) (xs : List Int) : (zp lost n 0 xs).take n = zp lost n 0 (xs.take n) := by
  apply List.ext_getElem?
  intro j
  rw [zp_at]
  by_cases h : j < n
  · rw [List.getElem?_take_of_lt h, List.getElem?_take_of_lt h, zp_at]
  · rw [List.getElem?_take_eq_none (by omega), List.getElem?_take_eq_none (by omega)]
    rfl
theorem clr_at : ∀ (m a : Nat) (xs : List Int) (j : Nat), (Zt.clr xs a m)[j]? = xs[j]?.map fun x => if a ≤ j ∧ j < a + m then 0 else x
  | 0, a, xs, j => by
    rw [Zt.clr]
    cases xs[j]? with
    | none => rfl
    | some x => simp only [Option.map_some]; rw [if_neg (by omega)]
  | m + 1, a, xs, j => by
    rw [Zt.clr, clr_at m (a + 1) (xs.set a 0) j, List.getElem?_set]
    by_cases h : a = j
    · subst h
      rw [if_pos rfl]
      by_cases hl : a < xs.length
      · rw [if_pos hl, Qm hl]
        simp only [Option.map_some]
        rw [if_neg (by omega), if_pos (by omega)]
      · rw [if_neg hl, List.getElem?_eq_none (by omega)]
        rfl
    · rw [if_neg h]
      cases xs[j]? with
      | none => rfl
      | some x =>
        simp only [Option.map_some]
        by_cases h2 : a + 1 ≤ j ∧ j < a + 1 + m
        · rw [if_pos h2, if_pos (by omega)]
        · rw [if_neg h2, if_neg (by omega)]
theorem zp_sector (lost : List Int) (n a : Nat) (ha : a % 16 = 0) (xs : List Int) :
    zp lost n (a + 16) (if ((a / 16 : Nat) : Int) ∈ lost then Zt.clr xs a (min (a + 16) n - a) else xs) = zp lost n a xs := by
  apply List.ext_getElem?
  intro j
  rw [zp_at, zp_at]
  by_cases hl : ((a / 16 : Nat) : Int) ∈ lost
  · rw [if_pos hl, clr_at]
    cases xs[j]? with
    | none => rfl
    | some x =>
      simp only [Option.map_some]
      congr 1
      by_cases h1 : a ≤ j ∧ j < a + (min (a + 16) n - a)
      · have e : j / 16 = a / 16 := by omega
        rw [if_pos h1, if_pos (show a ≤ j ∧ j < n ∧ ((j / 16 : Nat) : Int) ∈ lost from ⟨h1.1, by omega, by rw [e]; exact hl⟩)]
        split <;> rfl
      · rw [if_neg h1]
        by_cases h2 : a + 16 ≤ j ∧ j < n ∧ ((j / 16 : Nat) : Int) ∈ lost
        · rw [if_pos h2, if_pos ⟨by omega, h2.2⟩]
        · rw [if_neg h2, if_neg (fun h => h2 ⟨by omega, h.2⟩)]
  · rw [if_neg hl]
    cases xs[j]? with
    | none => rfl
    | some x =>
      simp only [Option.map_some]
      congr 1
      by_cases h2 : a + 16 ≤ j ∧ j < n ∧ ((j / 16 : Nat) : Int) ∈ lost
      · rw [if_pos h2, if_pos ⟨by omega, h2.2⟩]
      · rw [if_neg h2, if_neg (fun h => h2 ⟨by
          rcases Nat.lt_or_ge j (a + 16) with h3 | h3
          · exact absurd (show ((a / 16 : Nat) : Int) ∈ lost by rw [← show j / 16 = a / 16 by omega]; exact h.2.2) hl
          · exact h3, h.2⟩)]
theorem zap_f {lost : List Int} (hl : lost.length < 140737488355328) {k : Nat} (hk : lost.length < k) (n : Nat) : ∀ (m a : Nat) (xs : List Int), n - a < m → a % 16 = 0 → Zt.zap k lost n m xs a = some (zp lost n a xs) := by
  intro m
  induction m with
  | zero => intro a xs h; omega
  | succ m ih =>
    intro a xs h ha
    rw [Zt.zap]
    by_cases hn : a < n
    · rw [if_pos hn, Y8 (contains_f hl _ hk), ih (a + 16) _ (by omega) (by omega)]
      congr 1
      rw [← zp_sector lost n a ha xs]
      simp only [decide_eq_true_eq]
    · rw [if_neg hn, zp_done (by omega)]

/-- How many pending bytes a tear keeps. -/
def keep (t : Tear) (p : List Int) : Nat := (max 0 (min t.f0 (p.length : Int))).toNat
theorem Zed (t : Tear) (p : List Int) : keep t p ≤ p.length := by unfold keep; omega
/-- What survives of pending bytes. -/
def torn (t : Tear) (p : List Int) : List Int := zp t.f1 (keep t p) 0 (p.take (keep t p))
theorem Zc4 (t : Tear) (p : List Int) : (torn t p).length = keep t p := by
  have := Zed t p
  unfold torn
  rw [zp_length, Qd]
  omega
/-- The tear of a file. -/
def tear (l : List Tear) (i : Nat) : Tear := if i < l.length then Za3 l (i : Int) else z39
theorem tear_pos {l : List Tear} {i : Nat} (h : i < l.length) : tear l i = l[i] := by unfold tear; rw [if_pos h, tear_at h]
theorem tear_neg {l : List Tear} {i : Nat} (h : ¬ i < l.length) : tear l i = z39 := by unfold tear; rw [if_neg h]
theorem tear_lost {l : List Tear} {q : Nat} (h : ∀ x ∈ l, x.f1.length ≤ q) (i : Nat) : (tear l i).f1.length ≤ q := by
  by_cases hi : i < l.length
  · rw [tear_pos hi]
    exact h _ (List.getElem_mem hi)
  · rw [tear_neg hi]
    exact Nat.zero_le _
/-- A disk after a Zds, from file a on. -/
def crf (l : List Tear) (a : Nat) (t : List File) : List File := t.mapIdx fun j f => if a ≤ j then ⟨f.f0 ++ torn (tear l j) f.f1, []⟩ else f
/-- A disk after a Zds. -/
def Zds (l : List Tear) (t : List File) : List File := crf l 0 t
theorem crf_at (l : List Tear) (a : Nat) (t : List File) (j : Nat) : (crf l a t)[j]? = t[j]?.map fun f => if a ≤ j then ⟨f.f0 ++ torn (tear l j) f.f1, []⟩ else f := List.getElem?_mapIdx
theorem crf_done {l : List Tear} {a : Nat} {t : List File} (h : t.length ≤ a) : crf l a t = t := by
  apply List.ext_getElem?
  intro j
  rw [crf_at]
  by_cases hj : j < t.length
  · rw [Qm hj]
    simp only [Option.map_some]
    rw [if_neg (by omega)]
  · rw [List.getElem?_eq_none (by omega)]
    rfl
theorem crf_step {l : List Tear} {a : Nat} {t : List File} (h : a < t.length) : crf l (a + 1) (t.set a ⟨t[a].f0 ++ torn (tear l a) t[a].f1, []⟩) = crf l a t := by
  apply List.ext_getElem?
  intro j
  rw [crf_at, crf_at, List.getElem?_set]
  by_cases hj : a = j
  · subst hj
    rw [if_pos rfl, if_pos h, Qm h]
    simp only [Option.map_some]
    rw [if_neg (by omega), if_pos (Nat.le_refl _)]
  · rw [if_neg hj]
    cases t[j]? with
    | none => rfl
    | some f =>
      simp only [Option.map_some]
      congr 1
      by_cases h2 : a + 1 ≤ j
      · rw [if_pos h2, if_pos (by omega)]
      · rw [if_neg h2, if_neg (by omega)]
theorem Zb3 (l : List Tear) (t : List File) : (Zds l t).length = t.length := List.length_mapIdx
theorem crash_at (l : List Tear) (t : List File) {j : Nat} (h : j < t.length) : (Zds l t)[j]? = some ⟨t[j].f0 ++ torn (tear l j) t[j].f1, []⟩ := by
  unfold Zds
  rw [crf_at, Qm h]
  rfl
theorem crash_good {m : Nat} {l : List Tear} {t : List File} (h : Zb6 m t) : Zb6 (m + m) (Zds l t) := by
  refine ⟨by rw [Zb3]; exact h.len, fun f hf => ?_⟩
  obtain ⟨j, hj, he⟩ := List.getElem_of_mem hf
  have hj2 : j < t.length := by rw [← Zb3 l t]; exact hj
  have h1 := crash_at l t hj2
  rw [Qm hj, he] at h1
  obtain rfl := Option.some.inj h1
  have h2 := h.at hj2
  have h3 := Zed (tear l j) t[j].f1
  simp only [List.length_append, Zc4, List.length_nil]
  omega

theorem all_f {m q k : Nat} {l : List Tear} (hl : ∀ x ∈ l, x.f1.length ≤ q) (hq : q < 140737488355328) (hm : m ≤ 70368744177663) (hk : q < k) (hk2 : m < k) : ∀ (n i r : Nat) (t : List File), (∀ j (h : j < t.length), i ≤ j → t[j].f0.length ≤ m ∧ t[j].f1.length ≤ m) → t.length - i ≤ n → n < r →
    Zt.all k l r t i = some (crf l i t) := by
  intro n
  induction n with
  | zero =>
    intro i r t h hn hr
    obtain ⟨r, rfl⟩ : ∃ q, r = q + 1 := ⟨r - 1, by omega⟩
    rw [Zt.all, if_neg (by omega), crf_done (by omega)]
  | succ n ih =>
    intro i r t h hn hr
    obtain ⟨r, rfl⟩ : ∃ q, r = q + 1 := ⟨r - 1, by omega⟩
    rw [Zt.all]
    by_cases hi : i < t.length
    · have hf := h i hi (Nat.le_refl _)
      have ht := tear_lost hl i
      have hkp := Zed (tear l i) t[i].f1
      have e1 : Zt.tear l i = tear l i := rfl
      have e2 : Zt.kept (tear l i).f0 t[i] = keep (tear l i) t[i].f1 := rfl
      rw [if_pos hi, e1, file_at hi, e2, Y8 (zap_f (by omega) (by omega) _ k 0 _ (by omega) rfl), if_pos (by omega), zp_take]
      have g := ih (i + 1) r (t.set i ⟨t[i].f0 ++ torn (tear l i) t[i].f1, []⟩) (fun j hj hij => by
        rw [List.length_set] at hj
        rw [List.getElem_set_ne (by omega)]
        exact h j hj (by omega)) (by rw [List.length_set]; omega) (by omega)
      rw [crf_step hi] at g
      exact g
    · rw [if_neg hi, crf_done (by omega)]
theorem crash_f {m q k : Nat} {l : List Tear} {t : List File} (h : Zb6 m t) (hm : m ≤ 70368744177663) (hl : ∀ x ∈ l, x.f1.length ≤ q) (hq : q < 140737488355328) (hk : q < k) (hk2 : m < k) (hk3 : 100 < k) : Zt.f k t l = some (Zds l t) := by
  have := h.len
  unfold Zt.f
  rw [Y8 (clone_f h (by omega) hk3)]
  exact all_f hl hq hm hk hk2 t.length 0 k t (fun j hj _ => h.at hj) (by omega) (by omega)

end Go.Proofs.Ytnfbjdnflifcoaa.Dk

namespace Go.Proofs.Ytnfbjdnflifcoaa.Dk
open Go.RowKit Go.Proofs.Ytnfbjdnflifcoaa.PDk Go.Proofs.YtnfbjdnflifcoaaW.PrintWords Go.Proofs.YtnfbjdnflifcoaaW.PrintLast
theorem in_l0 (l : List Int) (v : Int) (hl : l.length < 140737488355328) : ∀ (n i k : Nat), l.length - i ≤ n → n < k → i ≤ l.length → Yb.l0 k l v (i : Int) = some (decide (v ∈ l.drop i)) := by
  intro n
  induction n with
  | zero =>
    intro i k hn hk hi
    obtain ⟨k, rfl⟩ : ∃ q, k = q + 1 := ⟨k - 1, by omega⟩
    simp only [Yb.l0]
    rw [if_neg (by omega), List.drop_of_length_le (by omega)]
    simp
  | succ n ih =>
    intro i k hn hk hi
    obtain ⟨k, rfl⟩ : ∃ q, k = q + 1 := ⟨k - 1, by omega⟩
    simp only [Yb.l0]
    by_cases hlt : i < l.length
    · rw [if_pos (by omega), if_pos (by omega), rd_at hlt]
      by_cases hv : l[i] = v
      · rw [if_pos hv, decide_eq_true ((Zd3 hlt).2 (.inl hv.symm))]
      · rw [if_neg hv, w64n (by omega), ih (i + 1) k (by omega) (by omega) (by omega)]
        congr 1
        exact decide_eq_decide.2 ⟨fun h => (Zd3 hlt).2 (.inr h), fun h => ((Zd3 hlt).1 h).resolve_left (fun e => hv e.symm)⟩
    · rw [if_neg (by omega), List.drop_of_length_le (by omega)]
      simp
theorem in_f {l : List Int} (hl : l.length < 140737488355328) (v : Int) {k : Nat} (hk : l.length < k) : Yb.f k l v = some (decide (v ∈ l)) :=
  in_l0 l v hl l.length 0 k (by omega) hk (by omega)

theorem rtorn_l0 {lost : List Int} (hl : lost.length < 140737488355328) (x : Int) (n : Nat) (hn : n < 140737488355328) : ∀ (d i k : Nat) (xs : List Int), n ≤ xs.length → n - i ≤ d → d + lost.length < k → Zr.l0 k (n : Int) xs (i : Int) x lost = some (zp lost n i xs) := by
  intro d
  induction d with
  | zero =>
    intro i k xs hx hd hk
    obtain ⟨k, rfl⟩ : ∃ q, k = q + 1 := ⟨k - 1, by omega⟩
    simp only [Zr.l0]
    rw [if_neg (by omega), zp_done (by omega)]
  | succ d ih =>
    intro i k xs hx hd hk
    obtain ⟨k, rfl⟩ : ∃ q, k = q + 1 := ⟨k - 1, by omega⟩
    simp only [Zr.l0]
    by_cases hi : i < n
    · have e : wrap64 (Int.tdiv (i : Int) 16) = ((i / 16 : Nat) : Int) := by rw [Int.tdiv_eq_ediv_of_nonneg (by omega), w64 (by omega)]; omega
      rw [if_pos (by omega), e, Y8 (in_f hl _ (by omega))]
      have hn2 : ((i : Nat) : Int).toNat = i := by omega
      have key : zp lost n (i + 1) (if ((i / 16 : Nat) : Int) ∈ lost then xs.set i 0 else xs) = zp lost n i xs := by
        apply List.ext_getElem?
        intro j
        rw [zp_at, zp_at]
        by_cases hs : ((i / 16 : Nat) : Int) ∈ lost
        · rw [if_pos hs, List.getElem?_set]
          by_cases hj : i = j
          · subst hj
            rw [if_pos rfl, if_pos (by omega), Qm (by omega)]
            simp only [Option.map_some]
            rw [if_pos (show i ≤ i ∧ i < n ∧ _ from ⟨Nat.le_refl _, hi, hs⟩)]
            split <;> rfl
          · rw [if_neg hj]
            cases xs[j]? with
            | none => rfl
            | some y =>
              simp only [Option.map_some]
              congr 1
              by_cases h2 : i + 1 ≤ j ∧ j < n ∧ ((j / 16 : Nat) : Int) ∈ lost
              · rw [if_pos h2, if_pos ⟨by omega, h2.2⟩]
              · rw [if_neg h2, if_neg (fun h => h2 ⟨by omega, h.2⟩)]
        · rw [if_neg hs]
          cases xs[j]? with
          | none => rfl
          | some y =>
            simp only [Option.map_some]
            congr 1
            by_cases h2 : i + 1 ≤ j ∧ j < n ∧ ((j / 16 : Nat) : Int) ∈ lost
            · rw [if_pos h2, if_pos ⟨by omega, h2.2⟩]
            · rw [if_neg h2, if_neg (fun h => h2 ⟨by
                rcases Nat.lt_or_ge i j with h3 | h3
                · exact h3
                · obtain rfl : i = j := by omega
                  exact absurd h.2.2 hs, h.2⟩)]
      by_cases hs : ((i / 16 : Nat) : Int) ∈ lost
      · rw [if_pos hs] at key
        rw [if_pos (decide_eq_true hs), if_pos (by omega), if_pos (by omega), hn2, w64n (by omega), ih (i + 1) k _ (by rw [List.length_set]; exact hx) (by omega) (by omega), key]
      · rw [if_neg hs] at key
        rw [decide_eq_false hs, if_neg (by simp), w64n (by omega), ih (i + 1) k _ hx (by omega) (by omega), key]
    · rw [if_neg (by omega), zp_done (by omega)]
theorem rtorn_f {t : Tear} {p : List Int} (hl : t.f1.length < 140737488355328) (hp : p.length < 140737488355328) {k : Nat} (hk : p.length + t.f1.length < k) : Zr.f k p t.f0 t.f1 = some (torn t p) := by
  have hkp := Zed t p
  have e : mn (mx t.f0 0) (p.length : Int) = ((keep t p : Nat) : Int) := by unfold mn mx keep; split <;> split <;> omega
  unfold Zr.f
  rw [e, if_pos (by omega), if_pos (by omega), Int.toNat_natCast, if_pos (by rw [Qd]; simp only [List.length_nil]; omega), List.nil_append]
  exact rtorn_l0 hl t.f0 (keep t p) (by omega) p.length 0 k _ (by rw [Qd]; omega) (by omega) (by omega)
theorem rcrash_l0 {m q : Nat} {l : List Tear} {t : List File} (h : Zb6 m t) (hm : m ≤ 70368744177663) (hl : ∀ x ∈ l, x.f1.length ≤ q) (hq : q < 140737488355328) : ∀ (n i k : Nat), t.length - i ≤ n → n + m + q < k → i ≤ t.length →
    Zm.l0 k l (i : Int) t ((Zds l t).take i) = some (Zds l t) := by
  have hlen := h.len
  intro n
  induction n with
  | zero =>
    intro i k hn hk hi
    obtain ⟨k, rfl⟩ : ∃ q, k = q + 1 := ⟨k - 1, by omega⟩
    simp only [Zm.l0]
    rw [if_neg (by omega), List.take_of_length_le (by rw [Zb3]; omega)]
  | succ n ih =>
    intro i k hn hk hi
    obtain ⟨k, rfl⟩ : ∃ q, k = q + 1 := ⟨k - 1, by omega⟩
    simp only [Zm.l0]
    by_cases hi2 : i < t.length
    · have hf := h.at hi2
      have ht := tear_lost hl i
      have hkp := Zed (tear l i) t[i].f1
      have g := ih (i + 1) k (by omega) (by omega) (by omega)
      have hc : i < (Zds l t).length := by rw [Zb3]; exact hi2
      have hx : (Zds l t)[i] = ⟨t[i].f0 ++ torn (tear l i) t[i].f1, []⟩ := by
        have := crash_at l t hi2
        rw [Qm hc] at this
        exact Option.some.inj this
      rw [List.take_succ_eq_append_getElem hc, hx] at g
      have hR := rtorn_f (t := tear l i) (p := t[i].f1) (by omega) (by omega) (k := k) (by omega)
      rw [if_pos (by omega), file_at hi2]
      by_cases hil : i < l.length
      · have e : Za3 l (i : Int) = tear l i := by rw [tear_pos hil, tear_at hil]
        rw [if_pos (by omega), e, if_pos (by omega), if_pos (by simp only [List.length_nil]; omega), Y8 rfl, List.nil_append, Y8 hR, if_pos (by rw [Zc4]; omega), if_pos (by rw [Qd]; omega), w64n (by omega)]
        exact g
      · have e : tear l i = z39 := tear_neg hil
        rw [e] at hR g
        have hR2 : Zr.f k t[i].f1 0 [] = some (torn z39 t[i].f1) := hR
        rw [if_neg (by omega), if_pos (by omega), if_pos (by simp only [List.length_nil]; omega), Y8 rfl, List.nil_append, Y8 hR2, if_pos (by rw [← e, Zc4]; omega), if_pos (by rw [Qd]; omega), w64n (by omega)]
        exact g
    · rw [if_neg (by omega), List.take_of_length_le (by rw [Zb3]; omega)]
theorem rcrash_f {m q : Nat} {l : List Tear} {t : List File} (h : Zb6 m t) (hm : m ≤ 70368744177663) (hl : ∀ x ∈ l, x.f1.length ≤ q) (hq : q < 140737488355328) {k : Nat} (hk : 100 + m + q < k) : Zm.f k t l = some (Zds l t) := by
  have := h.len
  unfold Zm.f
  exact rcrash_l0 h hm hl hq t.length 0 k (by omega) (by omega) (by omega)

end Go.Proofs.Ytnfbjdnflifcoaa.Dk

namespace Go.Proofs.Ytnfbjdnflifcoaa.Dk
open Go.RowKit Go.Proofs.Ytnfbjdnflifcoaa.PDk Go.Proofs.YtnfbjdnflifcoaaW.PrintWords Go.Proofs.YtnfbjdnflifcoaaW.PrintLast
theorem bytes_l0 (l : List Int) (hl : l.length ≤ 1099511627776) : ∀ (n i k : Nat), l.length - i ≤ n → n < k → i ≤ l.length → Zk.l0 k l l (i : Int) = some true := by
  intro n
  induction n with
  | zero =>
    intro i k hn hk hi
    obtain ⟨k, rfl⟩ : ∃ q, k = q + 1 := ⟨k - 1, by omega⟩
    simp only [Zk.l0]
    rw [if_neg (by omega)]
  | succ n ih =>
    intro i k hn hk hi
    obtain ⟨k, rfl⟩ : ∃ q, k = q + 1 := ⟨k - 1, by omega⟩
    simp only [Zk.l0]
    by_cases hlt : i < l.length
    · rw [if_pos (by omega), if_pos (by omega), if_pos (by omega), if_pos trivial, w64n (by omega)]
      exact ih (i + 1) k (by omega) (by omega) (by omega)
    · rw [if_neg (by omega)]
theorem bytes_f {l : List Int} (hl : l.length ≤ 1099511627776) {k : Nat} (hk : l.length < k) : Zk.f k l l = some true := by
  unfold Zk.f
  rw [if_pos rfl]
  exact bytes_l0 l hl l.length 0 k (by omega) hk (by omega)
end Go.Proofs.Ytnfbjdnflifcoaa.Dk

namespace Go.Proofs.Ytnfbjdnflifcoaa.Dk
open Go.RowKit Go.Proofs.Ytnfbjdnflifcoaa.PDk Go.Proofs.YtnfbjdnflifcoaaW.PrintWords Go.Proofs.YtnfbjdnflifcoaaW.PrintLast
theorem same_l0 {m : Nat} {t : List File} (h : Zb6 m t) (hm : m ≤ 1099511627776) : ∀ (n i k : Nat), t.length - i ≤ n → m + n < k → i ≤ t.length → Zl.l0 k (i : Int) t t = some true := by
  have hl := h.len
  intro n
  induction n with
  | zero =>
    intro i k hn hk hi
    obtain ⟨k, rfl⟩ : ∃ q, k = q + 1 := ⟨k - 1, by omega⟩
    simp only [Zl.l0]
    rw [if_neg (by omega)]
  | succ n ih =>
    intro i k hn hk hi
    obtain ⟨k, rfl⟩ : ∃ q, k = q + 1 := ⟨k - 1, by omega⟩
    simp only [Zl.l0]
    by_cases hlt : i < t.length
    · have ha := h.at_ (i : Int)
      rw [if_pos (by omega), if_pos (by omega), if_pos (by omega), at_rd, Y8 (bytes_f (by omega) (by omega)), if_pos rfl, Y8 (bytes_f (by omega) (by omega)), if_pos rfl, w64n (by omega)]
      exact ih (i + 1) k (by omega) (by omega) (by omega)
    · rw [if_neg (by omega)]
theorem same_f {m : Nat} {t : List File} (h : Zb6 m t) (hm : m ≤ 1099511627776) {k : Nat} (hk : m + 100 < k) : Zl.f k t t = some true := by
  have := h.len
  unfold Zl.f
  rw [if_pos rfl]
  exact same_l0 h hm t.length 0 k (by omega) (by omega) (by omega)
end Go.Proofs.Ytnfbjdnflifcoaa.Dk

namespace Go.Proofs.Ytnfbjdnflifcoaa.Dk
open Go.RowKit Go.Proofs.Ytnfbjdnflifcoaa.PDk Go.Proofs.YtnfbjdnflifcoaaW.PrintWords Go.Proofs.YtnfbjdnflifcoaaW.PrintLast
theorem append_f {m : Nat} {t : List File} (h : Zb6 m t) (hm : m ≤ 1099511627776) (i : Int) {b : List Int} (hb : b.length ≤ 1099511627776) {k : Nat} (hk : 100 < k) : Y2.f k t i b = some (apd t i b) := by
  unfold Y2.f apd
  rw [Y8 (has_f t i)]
  have ha := h.at_ i
  by_cases hi : 0 ≤ i ∧ i < t.length
  · rw [if_pos (decide_eq_true hi), if_pos hi.1, if_pos hi.2, at_rd, w64 (x := ((at_ t i).f0.length : Int) + ((at_ t i).f1.length : Int)) (by omega), w64 (by omega), if_pos hi]
    by_cases hl : (at_ t i).f0.length + (at_ t i).f1.length + b.length > 65536
    · rw [if_pos (by omega), if_pos hl]
    · rw [if_neg (by omega), if_neg hl, Y8 (clone_f h (by omega) hk), if_pos hi.2]
      unfold Y2.tail
      rw [if_pos hi.1, if_pos hi.2, at_rd, if_pos (by omega)]
  · rw [decide_eq_false hi, if_neg (by simp), if_neg hi]
end Go.Proofs.Ytnfbjdnflifcoaa.Dk

namespace Go.Proofs.Ytnfbjdnflifcoaa.Dk
open Go.RowKit Go.Proofs.Ytnfbjdnflifcoaa.PDk Go.Proofs.YtnfbjdnflifcoaaW.PrintWords Go.Proofs.YtnfbjdnflifcoaaW.PrintLast
theorem sync_f {m : Nat} {t : List File} (h : Zb6 m t) (hm : m ≤ 1099511627776) (i : Int) {k : Nat} (hk : 100 < k) : Zaq.f k t i = some (syn t i) := by
  unfold Zaq.f syn
  rw [Y8 (has_f t i)]
  have ha := h.at_ i
  by_cases hi : 0 ≤ i ∧ i < t.length
  · rw [if_pos (decide_eq_true hi), Y8 (clone_f h (by omega) hk), if_pos hi.1, if_pos hi.2, if_pos hi]
    unfold Zaq.tail
    rw [if_pos hi.1, if_pos hi.2, at_rd, if_pos (by omega)]
  · rw [decide_eq_false hi, if_neg (by simp), if_neg hi]
end Go.Proofs.Ytnfbjdnflifcoaa.Dk

namespace Go.Proofs.Ytnfbjdnflifcoaa.Dk
open Go.RowKit Go.Proofs.Ytnfbjdnflifcoaa.PDk Go.Proofs.YtnfbjdnflifcoaaW.PrintWords Go.Proofs.YtnfbjdnflifcoaaW.PrintLast
theorem replace_f {m : Nat} {t : List File} (h : Zb6 m t) (hm : m ≤ 1099511627776) (i : Int) {b : List Int} (hb : b.length ≤ 1099511627776) {k : Nat} (hk : 100 < k) : Y5.f k t i b = some (rep t i b) := by
  unfold Y5.f rep
  rw [Y8 (has_f t i)]
  by_cases hi : 0 ≤ i ∧ i < t.length
  · rw [if_pos (decide_eq_true hi), if_pos hi]
    by_cases hl : b.length > 65536
    · rw [if_pos (by omega), if_pos hl]
    · rw [if_neg (by omega), if_neg hl, Y8 (clone_f h (by omega) hk), Y8 (show Yp.f b = some b from if_pos (by omega)), if_pos hi.1, if_pos hi.2]
  · rw [decide_eq_false hi, if_neg (by simp), if_neg hi]
end Go.Proofs.Ytnfbjdnflifcoaa.Dk

namespace Go.Proofs.Ytnfbjdnflifcoaa.Dk
open Go.RowKit Go.Proofs.Ytnfbjdnflifcoaa.PDk Go.Proofs.YtnfbjdnflifcoaaW.PrintWords Go.Proofs.YtnfbjdnflifcoaaW.PrintLast
theorem read_f {m : Nat} {t : List File} (h : Zb6 m t) (hm : m ≤ 1099511627776) (i : Int) : Za7.f t i = some (rdd t i) := by
  unfold Za7.f rdd
  rw [Y8 (has_f t i)]
  have ha := h.at_ i
  by_cases hi : 0 ≤ i ∧ i < t.length
  · rw [if_pos (decide_eq_true hi), if_pos hi.1, if_pos hi.2, at_rd, if_pos hi]
    unfold Y9.f
    simp only [List.flatten_cons, List.flatten_nil, List.append_nil]
    rw [if_pos (by rw [List.length_append]; omega), Y8 rfl]
  · rw [decide_eq_false hi, if_neg (by simp), if_neg hi]
end Go.Proofs.Ytnfbjdnflifcoaa.Dk

namespace Go.Proofs.Ytnfbjdnflifcoaa.Dk
open Go.RowKit Go.Proofs.Ytnfbjdnflifcoaa.PDk Go.Proofs.YtnfbjdnflifcoaaW.PrintWords Go.Proofs.YtnfbjdnflifcoaaW.PrintLast
theorem rhas_f (t : List File) (i : Int) : Yn.f t i = some (decide (0 ≤ i ∧ i < t.length)) := has_f t i

theorem rset_f {t : List File} (ht : t.length ≤ 100) {i : Int} (hi : 0 ≤ i ∧ i < t.length) (x y : List Int) : Yi.f t i x y = some (t.set i.toNat ⟨x, y⟩) := by
  unfold Yi.f
  rw [if_pos (by simp; omega), Y8 rfl, List.nil_append, if_pos hi.1, if_pos hi.2]
theorem rappend_f {m : Nat} {t : List File} (h : Zb6 m t) (hm : m ≤ 1099511627776) (i : Int) {b : List Int} (hb : b.length ≤ 1099511627776) : Zaj.f t i b = some (apd t i b) := by
  unfold Zaj.f apd
  rw [Y8 (rhas_f t i)]
  have ha := h.at_ i
  by_cases hi : 0 ≤ i ∧ i < t.length
  · rw [if_pos (decide_eq_true hi), if_pos hi.1, if_pos hi.2, at_rd, w64 (x := ((at_ t i).f0.length : Int) + ((at_ t i).f1.length : Int)) (by omega), w64 (by omega), if_pos hi]
    by_cases hl : (at_ t i).f0.length + (at_ t i).f1.length + b.length > 65536
    · rw [if_pos (by omega), if_pos hl]
    · rw [if_neg (by omega), if_neg hl, if_pos (by simp; omega), Y8 rfl, List.nil_append, if_pos (by omega), Y8 (rset_f h.len hi _ _)]
  · rw [decide_eq_false hi, if_neg (by simp), if_neg hi]
theorem rall_f {x y : List Int} (hx : x.length ≤ 1099511627776) (hy : y.length ≤ 1099511627776) : Zaa.f x y = some (x ++ y) := by
  unfold Zaa.f
  rw [if_pos (by simp; omega), Y8 rfl, List.nil_append, if_pos (by omega)]
theorem rsync_f {m : Nat} {t : List File} (h : Zb6 m t) (hm : m ≤ 1099511627776) (i : Int) : Yt.f t i = some (syn t i) := by
  unfold Yt.f syn
  rw [Y8 (rhas_f t i)]
  have ha := h.at_ i
  by_cases hi : 0 ≤ i ∧ i < t.length
  · rw [if_pos (decide_eq_true hi), if_pos hi.1, if_pos hi.2, at_rd, Y8 (rall_f (by omega) (by omega)), Y8 (rset_f h.len hi _ _), if_pos hi]
  · rw [decide_eq_false hi, if_neg (by simp), if_neg hi]
theorem rnew_f {n : Int} : Y4.f n = some (if n < 0 ∨ n > 16 then ([], 3) else (List.replicate n.toNat z48, 0)) := new_f
theorem rreplace_f {m : Nat} {t : List File} (h : Zb6 m t) (i : Int) {b : List Int} (hb : b.length ≤ 1099511627776) : Yj.f t i b = some (rep t i b) := by
  unfold Yj.f rep
  rw [Y8 (rhas_f t i)]
  by_cases hi : 0 ≤ i ∧ i < t.length
  · rw [if_pos (decide_eq_true hi), if_pos hi]
    by_cases hl : b.length > 65536
    · rw [if_pos (by omega), if_pos hl]
    · rw [if_neg (by omega), if_neg hl, if_pos (by simp; omega), List.nil_append, Y8 (rset_f h.len hi _ _)]
  · rw [decide_eq_false hi, if_neg (by simp), if_neg hi]
theorem rread_f {m : Nat} {t : List File} (h : Zb6 m t) (hm : m ≤ 1099511627776) (i : Int) : Zat.f t i = some (rdd t i) := by
  unfold Zat.f rdd
  rw [Y8 (rhas_f t i)]
  have ha := h.at_ i
  by_cases hi : 0 ≤ i ∧ i < t.length
  · rw [if_pos (decide_eq_true hi), if_pos hi.1, if_pos hi.2, at_rd, if_pos hi, Y8 (rall_f (by omega) (by omega))]
  · rw [decide_eq_false hi, if_neg (by simp), if_neg hi]
end Go.Proofs.Ytnfbjdnflifcoaa.Dk

namespace Go.Proofs.Ytnfbjdnflifcoaa.Dk
open Go.RowKit Go.Proofs.Ytnfbjdnflifcoaa.PDk Go.Proofs.YtnfbjdnflifcoaaW.PrintWords Go.Proofs.YtnfbjdnflifcoaaW.PrintLast
/-- A state of the choices. -/
structure Ok (l : List Int) (p : Int) : Prop where
  lo : 0 ≤ p
  hi : p ≤ (l.length : Int)
  len : (l.length : Int) ≤ 1000000
  byte : ∀ x ∈ l, 0 ≤ x ∧ x < 256

theorem left_eq (l : List Int) (p : Int) : Y3.f l p = some (decide (p < (l.length : Int)), p) := rfl

theorem Zdg {l : List Int} {p : Int} (h : Ok l p) {n : Int} (h1 : 1 ≤ n) (h2 : n ≤ 256) :
    ∃ r q, Zz.f l p n = some (r, q) ∧ 0 ≤ r ∧ r < n ∧ Ok l q := by
  obtain ⟨a, b, c, d⟩ := h
  unfold Zz.f
  rw [left_eq]
  simp only [Option.bind_some]
  by_cases hl : p < (l.length : Int)
  · have e1 : wrap64 (p + 1) = p + 1 := w64 (by omega)
    have e2 : wrap64 (p + 1 - 1) = p := by rw [w64 (by omega)]; omega
    have hb := d _ (rd_mem a hl)
    rw [if_pos (by simpa using hl), e1, e2, if_pos a, if_pos hl, if_neg (by omega), w64 (by omega)]
    rw [Int.tmod_eq_emod_of_nonneg hb.1]
    exact ⟨_, _, rfl, Int.emod_nonneg _ (by omega), Int.emod_lt_of_pos _ (by omega), by omega, by omega, c, d⟩
  · rw [if_neg (by simpa using hl)]
    exact ⟨_, _, rfl, by omega, by omega, a, b, c, d⟩

theorem new_ok {l : List Int} {m : Int} (hl : ∀ x ∈ l, (Lit.int .u8 x).wf = true) (h0 : 0 ≤ m) (h1 : m ≤ 1000000) :
    ∃ l', Zbb.f l m = some (l', 0) ∧ Ok l' 0 := by
  have hb : ∀ x ∈ l, 0 ≤ x ∧ x < 256 := by
    intro x hx
    exact wf_u8 (hl x hx)
  unfold Zbb.f
  by_cases h : (l.length : Int) > m
  · rw [if_pos h, if_pos h0, if_pos (by omega)]
    refine ⟨_, rfl, by omega, by omega, ?_, fun x hx => hb x (List.mem_of_mem_take hx)⟩
    simp only [Qd]
    omega
  · rw [if_neg h]
    exact ⟨_, rfl, by omega, by omega, by omega, hb⟩
end Go.Proofs.Ytnfbjdnflifcoaa.Dk

namespace Go.Proofs.Ytnfbjdnflifcoaa.Dk
open Go.RowKit Go.Proofs.Ytnfbjdnflifcoaa.PDk Go.Proofs.YtnfbjdnflifcoaaW.PrintWords Go.Proofs.YtnfbjdnflifcoaaW.PrintLast
theorem mkbytes_l0 (l : List Int) : ∀ (n k : Nat) (acc : List Int) (p : Int), Ok l p → n < k → acc.length + n ≤ 1000 →
    ∃ b q, Zp.l0 k acc (n : Int) l p = some (b, q) ∧ b.length = acc.length + n ∧ Ok l q := by
  intro n
  induction n with
  | zero =>
    intro k acc p h hk ha
    obtain ⟨k, rfl⟩ : ∃ q, k = q + 1 := ⟨k - 1, by omega⟩
    refine ⟨acc, p, ?_, by omega, h⟩
    simp only [Zp.l0]
    rw [if_neg (by omega)]
  | succ n ih =>
    intro k acc p h hk ha
    obtain ⟨k, rfl⟩ : ∃ q, k = q + 1 := ⟨k - 1, by omega⟩
    obtain ⟨r, q, e, h1, h2, hq⟩ := Zdg h (n := 256) (by omega) (by omega)
    obtain ⟨b, q2, e2, hb, hq2⟩ := ih k (acc ++ [r % 256]) q hq (by omega) (by simp; omega)
    refine ⟨b, q2, ?_, by rw [hb]; simp; omega, hq2⟩
    simp only [Zp.l0]
    rw [if_pos (by omega), Y8 e, if_pos (by omega), w64 (by omega), show ((n + 1 : Nat) : Int) - 1 = (n : Int) by omega]
    exact e2
theorem mkbytes {l : List Int} {p : Int} (h : Ok l p) {n : Int} (h1 : 0 ≤ n) (h2 : n ≤ 200) {k : Nat} (hk : 1000 ≤ k) : ∃ b q, Zp.f k l p n = some (b, q) ∧ (b.length : Int) ≤ n ∧ Ok l q := by
  obtain ⟨r, q, e, r1, r2, hq⟩ := Zdg h (n := n + 1) (by omega) (by omega)
  obtain ⟨m, rfl⟩ := Int.eq_ofNat_of_zero_le r1
  obtain ⟨b, q2, e2, hb, hq2⟩ := mkbytes_l0 l m k [] q hq (by omega) (by simp; omega)
  refine ⟨b, q2, ?_, by rw [hb]; simp; omega, hq2⟩
  unfold Zp.f
  rw [w64 (by omega), Y8 e]
  exact e2

end Go.Proofs.Ytnfbjdnflifcoaa.Dk

namespace Go.Proofs.Ytnfbjdnflifcoaa.Dk
open Go.RowKit Go.Proofs.Ytnfbjdnflifcoaa.PDk Go.Proofs.YtnfbjdnflifcoaaW.PrintWords Go.Proofs.YtnfbjdnflifcoaaW.PrintLast
def Few (L : List Tear) : Prop := ∀ x ∈ L, x.f1.length ≤ 2
theorem mktears_l1 (l : List Int) (a i N : Nat) (x5 : List Tear) (h5 : x5.length = i) (hi : i < 100) (hf : Few x5) (hnext : ∀ (k : Nat) (y : List Tear) (p : Int), N ≤ k → Ok l p → y.length = i + 1 → Few y → ∃ L q, Zi.l0 k (a : Int) y ((i + 1 : Nat) : Int) l p = some (L, q) ∧ Ok l q ∧ Few L) (keep : Int) :
    ∀ (n k : Nat) (lost : List Int) (p : Int), N + n < k → lost.length + n ≤ 2 → Ok l p → ∃ L q, Zi.l1 k (a : Int) x5 (i : Int) (n : Int) l p keep lost = some (L, q) ∧ Ok l q ∧ Few L := by
  intro n
  induction n with
  | zero =>
    intro k lost p hk hl h
    obtain ⟨k, rfl⟩ : ∃ q, k = q + 1 := ⟨k - 1, by omega⟩
    obtain ⟨L, q, e, hq, hL⟩ := hnext k (x5 ++ [⟨keep, lost⟩]) p (by omega) h (by simp [h5]) (fun x hx => by
      rcases List.mem_append.1 hx with h1 | h1
      · exact hf x h1
      · rw [List.mem_singleton.1 h1]
        simp only []
        omega)
    refine ⟨L, q, ?_, hq, hL⟩
    simp only [Zi.l1]
    rw [if_neg (by omega), if_pos (by omega), w64n (by omega)]
    exact e
  | succ n ih =>
    intro k lost p hk hl h
    obtain ⟨k, rfl⟩ : ∃ q, k = q + 1 := ⟨k - 1, by omega⟩
    obtain ⟨r, q, e, h1, h2, hq⟩ := Zdg h (n := 5) (by omega) (by omega)
    obtain ⟨L, q2, e2, hq2, hL⟩ := ih k (lost ++ [wrap64 (r - 1)]) q (by omega) (by simp; omega) hq
    refine ⟨L, q2, ?_, hq2, hL⟩
    simp only [Zi.l1]
    rw [if_pos (by omega), Y8 e, if_pos (by omega), w64 (x := ((n + 1 : Nat) : Int) - 1) (by omega), show ((n + 1 : Nat) : Int) - 1 = (n : Int) by omega]
    exact e2
theorem mktears_l0 (l : List Int) (a : Nat) (ha : a ≤ 50) : ∀ (d i k : Nat) (x5 : List Tear) (p : Int), a - i ≤ d → d * 5 < k → x5.length = i → i ≤ a → Few x5 → Ok l p → ∃ L q, Zi.l0 k (a : Int) x5 (i : Int) l p = some (L, q) ∧ Ok l q ∧ Few L := by
  intro d
  induction d with
  | zero =>
    intro i k x5 p hd hk h5 hi hf h
    obtain ⟨k, rfl⟩ : ∃ q, k = q + 1 := ⟨k - 1, by omega⟩
    refine ⟨x5, p, ?_, h, hf⟩
    simp only [Zi.l0]
    rw [if_neg (by omega)]
  | succ d ih =>
    intro i k x5 p hd hk h5 hi hf h
    obtain ⟨k, rfl⟩ : ∃ q, k = q + 1 := ⟨k - 1, by omega⟩
    by_cases hlt : i < a
    · obtain ⟨r, q, e, h1, h2, hq⟩ := Zdg h (n := 60) (by omega) (by omega)
      obtain ⟨s, q2, e2, s1, s2, hq2⟩ := Zdg hq (n := 3) (by omega) (by omega)
      obtain ⟨m, rfl⟩ := Int.eq_ofNat_of_zero_le s1
      obtain ⟨L, q3, e3, hq3, hL⟩ := mktears_l1 l a i (d * 5 + 1) x5 h5 (by omega) hf (fun k y p hk hp hy hfy => ih (i + 1) k y p (by omega) (by omega) hy (by omega) hfy hp) (wrap64 (r - 2)) m k [] q2 (by omega) (by simp; omega) hq2
      refine ⟨L, q3, ?_, hq3, hL⟩
      simp only [Zi.l0]
      rw [if_pos (by omega), Y8 e, Y8 e2]
      exact e3
    · refine ⟨x5, p, ?_, h, hf⟩
      simp only [Zi.l0]
      rw [if_neg (by omega)]
theorem mktears {l : List Int} {p : Int} (h : Ok l p) {n : Int} (h1 : 0 ≤ n) (h2 : n ≤ 50) {k : Nat} (hk : 1000 ≤ k) : ∃ L q, Zi.f k l p n = some (L, q) ∧ Ok l q ∧ Few L := by
  obtain ⟨m, rfl⟩ := Int.eq_ofNat_of_zero_le h1
  exact mktears_l0 l m (by omega) m 0 k [] p (by omega) (by omega) rfl (by omega) (fun _ hx => by simp at hx) h
end Go.Proofs.Ytnfbjdnflifcoaa.Dk

namespace Go.Proofs.Ytnfbjdnflifcoaa.Dk
open Go.RowKit Go.Proofs.Ytnfbjdnflifcoaa.PDk Go.Proofs.YtnfbjdnflifcoaaW.PrintWords Go.Proofs.YtnfbjdnflifcoaaW.PrintLast
theorem awake_f {k : Nat} (hk : 200 ≤ k) : Zw.f k = some true :=
  Zd7 (g := fun k => Zw.f k) Zw.mono hk (by kernel_rfl)
end Go.Proofs.Ytnfbjdnflifcoaa.Dk

namespace Go.Proofs.Ytnfbjdnflifcoaa.Pure
open Go.RowKit Go.Proofs.Ytnfbjdnflifcoaa.PDk Go.Proofs.YtnfbjdnflifcoaaW.PrintWords Go.Proofs.YtnfbjdnflifcoaaW.PrintLast Go.Proofs.Ytnfbjdnflifcoaa.Dk

/-- A disk of at most 100 files of at most m bytes each. -/
structure DTot (m : Nat) (t : List File) : Prop where
  len : t.length ≤ 100
  file : ∀ f ∈ t, f.f0.length + f.f1.length ≤ m
theorem DTot.good {m : Nat} {t : List File} (h : DTot m t) : Zb6 m t := ⟨h.len, fun f hf => by have := h.file f hf; omega⟩
theorem DTot.mono {m n : Nat} {t : List File} (h : DTot m t) (hn : m ≤ n) : DTot n t := ⟨h.len, fun f hf => by have := h.file f hf; omega⟩
theorem DTot.set {m : Nat} {t : List File} (h : DTot m t) {i : Nat} {f : File} (hf : f.f0.length + f.f1.length ≤ m) : DTot m (t.set i f) :=
  ⟨by rw [List.length_set]; exact h.len, fun g hg => by rcases List.mem_or_eq_of_mem_set hg with h1 | h1; exact h.file g h1; rw [h1]; exact hf⟩
theorem DTot.nil (m : Nat) : DTot m [] := ⟨by simp, fun _ h => by simp at h⟩
theorem DTot.at_ {m : Nat} {t : List File} (h : DTot m t) (i : Int) : (at_ t i).f0.length + (at_ t i).f1.length ≤ m := by
  unfold Dk.at_
  rw [List.getD_eq_getElem?_getD]
  by_cases hi : i.toNat < t.length
  · rw [Qm hi]
    exact h.file _ (List.getElem_mem hi)
  · rw [List.getElem?_eq_none (by omega)]
    exact Nat.zero_le _
theorem DTot.apd {m : Nat} {t : List File} (h : DTot m t) (i : Int) {b : List Int} {n : Nat} (hb : m + b.length ≤ n) : DTot n (apd t i b).1 := by
  have := h.at_ i
  unfold Dk.apd
  split
  · split
    · exact DTot.nil _
    · exact (h.mono (by omega)).set (by simp only [List.length_append]; omega)
  · exact DTot.nil _
theorem DTot.syn {m : Nat} {t : List File} (h : DTot m t) (i : Int) : DTot m (syn t i).1 := by
  have := h.at_ i
  unfold Dk.syn
  split
  · exact h.set (by simp only [List.length_append, List.length_nil]; omega)
  · exact DTot.nil _
theorem DTot.rep {m : Nat} {t : List File} (h : DTot m t) (i : Int) {b : List Int} {n : Nat} (hb : b.length ≤ n) (hm : m ≤ n) : DTot n (rep t i b).1 := by
  unfold Dk.rep
  split
  · split
    · exact DTot.nil _
    · exact (h.mono hm).set (by simp only [List.length_nil]; omega)
  · exact DTot.nil _
theorem DTot.Zds {m : Nat} {t : List File} (h : DTot m t) (l : List Tear) : DTot m (Zds l t) := by
  refine ⟨by rw [Zb3]; exact h.len, fun f hf => ?_⟩
  obtain ⟨j, hj, he⟩ := List.getElem_of_mem hf
  have hj2 : j < t.length := by rw [← Zb3 l t]; exact hj
  have h1 := crash_at l t hj2
  rw [Qm hj, he] at h1
  obtain rfl := Option.some.inj h1
  have h2 := h.file _ (List.getElem_mem hj2)
  have h3 := Zed (tear l j) t[j].f1
  simp only [List.length_append, Zc4, List.length_nil]
  omega

theorem step_j1 (l : List Int) (p e : Int) {m : Nat} {x : List File} (a : List File) (h : DTot m x) (hm : m ≤ 5000) {k : Nat} (hk : 10000 ≤ k) :
    ∃ y, Zc.j1 k e e l p a a x x = some (y, y, true, p) ∧ (y = x ∨ y = a) := by
  obtain ⟨k, rfl⟩ : ∃ q, k = q + 1 := ⟨k - 1, by omega⟩
  obtain ⟨k, rfl⟩ : ∃ q, k = q + 1 := ⟨k - 1, by omega⟩
  simp only [Zc.j1]
  rw [if_pos trivial, Y8 (same_f h.good (by omega) (by omega))]
  simp only [Zc.j2]
  rw [if_neg (by simp)]
  by_cases he : e = 0
  · rw [if_pos he]
    exact ⟨x, rfl, .inl rfl⟩
  · rw [if_neg he]
    exact ⟨a, rfl, .inr rfl⟩
theorem step_f {l : List Int} {p : Int} (hp : Ok l p) {m : Nat} {a : List File} (h : DTot m a) (hm : m ≤ 2000) {k : Nat} (hk : 20000 ≤ k) :
    ∃ y q, Zc.f k l p a a = some (y, y, true, q) ∧ DTot (m + 40) y ∧ Ok l q := by
  obtain ⟨r, q, e1, r0, r1, hq⟩ := Zdg hp (n := 5) (by omega) (by omega)
  obtain ⟨s, q2, e2, s0, s1, hq2⟩ := Zdg hq (n := 7) (by omega) (by omega)
  unfold Zc.f
  rw [Y8 e1, Y8 e2]
  simp only []
  generalize wrap64 (r - 1) = i
  have key : ∀ b : Bool, (b = true ∨ ¬ (s = 0 ∨ s = 1 ∨ s = 2)) → (b = true → s < 3) → ∃ y q, Zc.j0 k i 0 0 s b l q2 a a = some (y, y, true, q) ∧ DTot (m + 40) y ∧ Ok l q := by
    intro b hb hb2
    obtain ⟨k, rfl⟩ : ∃ q, k = q + 1 := ⟨k - 1, by omega⟩
    have fin : ∀ (p e : Int) {x : List File}, DTot (m + 40) x → Ok l p → ∃ y q, Zc.j1 k e e l p a a x x = some (y, y, true, q) ∧ DTot (m + 40) y ∧ Ok l q := by
      intro p e x hx hp
      obtain ⟨y, ey, hy⟩ := step_j1 l p e a hx (by omega) (k := k) (by omega)
      refine ⟨y, p, ey, ?_, hp⟩
      rcases hy with rfl | rfl
      · exact hx
      · exact h.mono (by omega)
    simp only [Zc.j0]
    cases b with
    | true =>
      rw [if_pos rfl]
      obtain ⟨b, q3, eb, hb, hq3⟩ := mkbytes hq2 (n := 40) (by omega) (by omega) (k := k) (by omega)
      rw [Y8 eb]
      simp only []
      rw [Y8 (append_f h.good (by omega) i (by omega) (by omega)), Y8 (rappend_f h.good (by omega) i (by omega))]
      exact fin _ _ (h.apd i (by omega)) hq3
    | false =>
      rw [if_neg (by simp)]
      by_cases h3 : s = 3
      · rw [if_pos h3, Y8 (sync_f h.good (by omega) i (by omega)), Y8 (rsync_f h.good (by omega) i)]
        exact fin _ _ ((h.syn i).mono (by omega)) hq2
      · rw [if_neg h3]
        by_cases h4 : s = 4
        · obtain ⟨b, q3, eb, hb, hq3⟩ := mkbytes hq2 (n := 40) (by omega) (by omega) (k := k) (by omega)
          rw [if_pos h4, Y8 eb]
          simp only []
          rw [Y8 (replace_f h.good (by omega) i (by omega) (by omega)), Y8 (rreplace_f h.good i (by omega))]
          exact fin _ _ (h.rep i (by omega) (by omega)) hq3
        · rw [if_neg h4]
          by_cases h5 : s = 5
          · obtain ⟨n, q3, e3, n0, n1, hq3⟩ := Zdg hq2 (n := 4) (by omega) (by omega)
            obtain ⟨L, q4, eL, hq4, hL⟩ := mktears hq3 (n := n) n0 (by omega) (k := k) (by omega)
            rw [if_pos h5, Y8 e3]
            simp only []
            rw [Y8 eL]
            simp only []
            rw [Y8 (crash_f h.good (by omega) hL (by omega) (by omega) (by omega) (by omega)), Y8 (rcrash_f h.good (by omega) hL (by omega) (by omega))]
            exact fin _ _ ((h.Zds L).mono (by omega)) hq4
          · have hl : (rdd a i).1.length ≤ m := by
              have := h.at_ i
              unfold rdd
              split
              · simp only [List.length_append]; omega
              · exact Nat.zero_le _
            rw [if_neg h5, Y8 (read_f h.good (by omega) i), Y8 (rread_f h.good (by omega) i), if_pos rfl, Y8 (bytes_f (by omega) (by omega))]
            exact ⟨a, q2, rfl, h.mono (by omega), hq2⟩
  by_cases c0 : s = 0
  · rw [if_pos c0]
    exact key _ (.inl (by simp [c0])) (fun _ => by omega)
  · rw [if_neg c0]
    by_cases c1 : s = 1
    · rw [if_pos c1]
      exact key _ (.inl (by simp [c1])) (fun _ => by omega)
    · rw [if_neg c1]
      by_cases c2 : s = 2
      · exact key _ (.inl (by simp [c2])) (fun _ => by omega)
      · exact key _ (.inr (by omega)) (fun h => by rw [beq_iff_eq] at h; omega)
theorem plays_l0 {l : List Int} : ∀ (n i k : Nat) (p : Int) (a : List File), 20 - i ≤ n → 30000 + n < k → i ≤ 20 → Ok l p → DTot (40 * i) a → Zh.l0 k (i : Int) a a l p = some true := by
  intro n
  induction n with
  | zero =>
    intro i k p a hn hk hi hp h
    obtain ⟨k, rfl⟩ : ∃ q, k = q + 1 := ⟨k - 1, by omega⟩
    simp only [Zh.l0]
    rw [if_neg (by omega)]
  | succ n ih =>
    intro i k p a hn hk hi hp h
    obtain ⟨k, rfl⟩ : ∃ q, k = q + 1 := ⟨k - 1, by omega⟩
    simp only [Zh.l0]
    by_cases hlt : i < 20
    · obtain ⟨y, q, e, hy, hq⟩ := step_f hp h (by omega) (k := k) (by omega)
      rw [if_pos (by omega), Y8 e]
      simp only []
      rw [if_pos trivial, w64n (by omega)]
      exact ih (i + 1) k q y (by omega) (by omega) (by omega) hq (hy.mono (by omega))
    · rw [if_neg (by omega)]

theorem DiskPlays : Zh.Pure := by
  intro a0 l1 h0 _ _ hb
  obtain ⟨K, hK⟩ : ∃ K : Nat, 100000 ≤ K := ⟨100000, Nat.le_refl _⟩
  refine ⟨K, ?_⟩
  obtain ⟨l, el, hl⟩ := new_ok (l := l1) (m := 200) hb (by omega) (by omega)
  unfold Zh.f
  rw [Y8 (awake_f (by omega)), if_pos rfl, Y8 new_f, Y8 rnew_f, if_pos rfl]
  have hg : Zb6 1000 (if a0 < 0 ∨ a0 > 16 then (([], 3) : List File × Int) else (List.replicate a0.toNat z48, 0)).1 := by
    split
    · exact Zb6.nil _
    · exact Zb6.new _ _ (by omega)
  rw [Y8 (same_f hg (by omega) (by omega))]
  obtain ⟨K, rfl⟩ : ∃ q, K = q + 1 := ⟨K - 1, by omega⟩
  simp only [Zh.j0]
  rw [if_neg (by simp), Y8 el, Y8 new_three, Y8 (show Y4.f 3 = _ from new_three)]
  exact plays_l0 20 0 K 0 _ (by omega) (by omega) (by omega) hl ⟨by simp, fun f hf => by rw [List.eq_of_mem_replicate hf]; exact Nat.zero_le _⟩
end Go.Proofs.Ytnfbjdnflifcoaa.Pure

namespace Go.Proofs.Ytnfbjdnflifcoaa.diskPlays
open Go.ChangeShapes Go.WideShapes Go.ChangeAt Go.RowKit Go.Proofs.Ytnfbjdnflifcoaa.PDk Go.Proofs.YtnfbjdnflifcoaaX Go.Proofs.YtnfbjdnflifcoaaW.PrintWords
open Go.ChangeMaps (open_string shut_string)
set_option linter.unusedVariables false
theorem own : ownKnob Try.prog.godebug = none := by kernel_rfl
theorem laidOut : laidOutB Try.prog = true := by kernel_rfl
set_option maxRecDepth 100000 in
theorem lifted (os : Os) (started : os.Started) (H : Type) (enc : TypeId × Value → H) :
    ReturnsInHanded {} Try.checked os 7 .any (Rows.diskPlaysSpec.pre6 enc Try.prog Try.f7 Rows.diskPlaysRow.domain false) (Rows.diskPlaysSpec.post enc Try.prog Try.f7 false true false false) := by
  refine returnsInHanded_of_change_sized (C := Try.checked) own started (by kernel_rfl) Try.func7
    (ChangeSpec.witness6 (enc := enc) (C := Try.checked) false ⟨#[], #[.int .i64 0, .slice none 0 0], []⟩ 8 (by kernel_rfl) (by kernel_rfl) (by kernel_rfl) (by kernel_rfl)) ?_
  intro W base args ds gs before hval0 hW hcnd hsz0 _
  have hsz : (DataW.weightsEach Try.prog (Try.f7.params.toList ++ Rows.diskPlaysSpec.plain.varTypes Try.prog) (ds ++ gs)).all (· ≤ reachBytes) = true := hsz0
  have hval : ∀ (j : Nat) t v, Try.f7.params[j]? = some t → args[j]? = some v → Value.okWide Try.prog W .any base t v := hval0
  have hW' := hW
  obtain ⟨p, q, hA0, hV, rfl, hfz, hnd⟩ := hW
  have hA : DataW.TrodAll enc Try.prog W 0 (fun _ => true) true Try.f7.params.toList args.toList ds p := hA0
  rw [Try.params7] at hA hval hsz
  obtain ⟨v0, vs0, d0, ds0, p0, q0, hargs, rfl, rfl, h0, r0⟩ := trodAll_cons hA
  obtain ⟨v1, vs1, d1, ds1, p1, q1, rfl, rfl, rfl, h1, r1⟩ := trodAll_cons r0
  obtain ⟨rfl, rfl, rfl⟩ := trodAll_nil r1
  obtain rfl : args = #[v0, v1] := by cases args; simp_all
  obtain ⟨rfl, rfl⟩ := trodVars_none hV
  obtain ⟨a0, rfl, rfl, rfl, w0⟩ := open_int Try.underlying3 (hval 0 3 v0 rfl rfl) h0
  obtain ⟨a1, len1, cap1, rfl⟩ := okWide_slice Try.underlying30 (hval 1 30 v1 rfl rfl)
  have k1 := h1
  have lt1 : ∀ x ∈ p1, x.block < W.heap.size := by obtain ⟨m, hm⟩ := k1; exact DataW.trod_lt m _ _ _ hm
  obtain ⟨l1, rfl, hr1, hc1, hm1, y1, hg1⟩ := arg_slice (d := (Kd.int .u8)) (B := 1) Try.underlying30 (by kernel_rfl) (by kernel_rfl) (Zd9.int Try.underlying5) (Light.of hsz (j := 1) (t := 30) rfl rfl) h1
  clear hA0 hval0 hsz0 hsz
  obtain ⟨k, h⟩ := Pure.DiskPlays a0 l1 w0 hm1 y1 hg1
  refine (Zh.calls k a0 _ _ l1 true W hr1 hc1 h).mono fun e W' ⟨he, bel⟩ => ?_
  subst he
  exact ⟨_, rfl, _, _, _, [], _, [], hW', trodAll_mk1 (shut_bool Try.underlying4 _), (trodAll_cons_mk (shut_int Try.underlying3 w0) (trodAll_cons_mk (Below.trod laidOut (by kernel_rfl) (of_decide_eq_true (by kernel_rfl)) k1 bel lt1) trodAll_mk0)), rfl, bel.frame _, fun h => by cases h⟩
theorem over : Rows.diskPlaysRow.holds Try.pinned (OpenSpec.ofChange Rows.diskPlaysSpec) :=
  OpenClaim.holds_of_wide 7 Try.f7 rfl rfl rfl rfl rfl rfl rfl ⟨rfl, rfl, rfl, rfl, rfl⟩ rfl rfl rfl rfl rfl (by kernel_rfl) Try.func7 (by kernel_rfl)
    (of_decide_eq_true (by kernel_rfl)) (by unfold Func.isWrapper; first | (rw [if_pos (by decide +kernel)]; kernel_rfl) | (rw [if_neg (by decide +kernel)]; exact ⟨rfl, rfl⟩))
    (fun os started H enc _ => lifted os started H enc)
theorem proved : Rows.DiskPlaysSaid := over
#print axioms proved
end Go.Proofs.Ytnfbjdnflifcoaa.diskPlays
namespace Go.Proofs.Ytnfbjdnflifcoaa
/-- The law, under a short name, for the claim. -/
theorem diskPlays_holds : Rows.DiskPlaysSaid := diskPlays.proved
end Go.Proofs.Ytnfbjdnflifcoaa
