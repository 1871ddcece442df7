/- Texts of one proof, joined: part 4. No condition. -/
import Derived.Test.YtnfbjdnflifcoaaMp3
open List renaming setIfInBounds_toArray → Qa, set_cons_zero → Qb, set_cons_succ → Qc, length_take → Qd, length_drop → Qe, map_toArray → Qi, map_cons → Qj, map_nil → Qk, getElem?_eq_getElem → Qm
open Bool renaming false → Qf, true → Qt
open Go.World renaming block_lt_of_cell? → Qw
namespace Go.Proofs.Ytnfbjdnflifcoaa.PDk
open Go.RowKit Go.Proofs.YtnfbjdnflifcoaaW.PrintWords Go.Proofs.YtnfbjdnflifcoaaW.PrintLast Go.Proofs.YtnfbjdnflifcoaaW.PrintMore
attribute [local go_sem] Za0 Zay Zbe Zbd Zan Zam Zaz Zax
set_option linter.unusedVariables false
set_option linter.unusedSimpArgs false

mutual
def Zc.j1 : Nat → Int → Int → List Int → Int → List (S48) → List (S48) → List (S48) → List (S48) → Option ((List (S48)) × (List (S48)) × Bool × Int)
 | 0, _, _, _, _, _, _, _, _ => none
 | k + 1, x12, x13, x1000, x1001, x443000, x444000, x449000, x450000 => if x12 = x13 then ((Zl.f k x449000 x450000).bind fun t505 => (Zc.j2 k x12 (!t505) x1000 x1001 x443000 x444000 x449000 x450000)) else (Zc.j2 k x12 true x1000 x1001 x443000 x444000 x449000 x450000)
def Zc.j2 : Nat → Int → Bool → List Int → Int → List (S48) → List (S48) → List (S48) → List (S48) → Option ((List (S48)) × (List (S48)) × Bool × Int)
 | 0, _, _, _, _, _, _, _, _ => none
 | k + 1, x12, x120, x1000, x1001, x443000, x444000, x449000, x450000 => if x120 = true then (some (x443000, x444000, false, x1001)) else (if x12 = 0 then (some (x449000, x450000, true, x1001)) else (some (x443000, x444000, true, x1001)))
def Zc.j0 : Nat → Int → Int → Int → Int → Bool → List Int → Int → List (S48) → List (S48) → Option ((List (S48)) × (List (S48)) × Bool × Int)
 | 0, _, _, _, _, _, _, _, _, _ => none
 | k + 1, x9, x12, x13, x25, x48, x1000, x1001, x443000, x444000 => if x48 = true then ((Zp.f k x1000 x1001 40).bind fun bt452 => ((Y2.f k x443000 x9 bt452.1).bind fun bt456 => ((Zaj.f x444000 x9 bt452.1).bind fun bt460 => (Zc.j1 k bt456.2 bt460.2 x1000 bt452.2 x443000 x444000 bt456.1 bt460.1)))) else (if x25 = 3 then ((Zaq.f k x443000 x9).bind fun bt464 => ((Yt.f x444000 x9).bind fun bt468 => (Zc.j1 k bt464.2 bt468.2 x1000 x1001 x443000 x444000 bt464.1 bt468.1))) else (if x25 = 4 then ((Zp.f k x1000 x1001 40).bind fun bt472 => ((Y5.f k x443000 x9 bt472.1).bind fun bt476 => ((Yj.f x444000 x9 bt472.1).bind fun bt480 => (Zc.j1 k bt476.2 bt480.2 x1000 bt472.2 x443000 x444000 bt476.1 bt480.1)))) else (if x25 = 5 then ((Zz.f x1000 x1001 4).bind fun bt484 => ((Zi.f k x1000 bt484.2 bt484.1).bind fun bt486 => ((Zt.f k x443000 bt486.1).bind fun t490 => ((Zm.f k x444000 bt486.1).bind fun t493 => (Zc.j1 k x12 x13 x1000 bt486.2 x443000 x444000 t490 t493))))) else ((Za7.f x443000 x9).bind fun bt496 => ((Zat.f x444000 x9).bind fun bt500 => (if bt496.2 = bt500.2 then ((Zk.f k bt496.1 bt500.1).bind fun t504 => (some (x443000, x444000, t504, x1001))) else (some (x443000, x444000, false, x1001))))))))
end
def Zc.f (k : Nat) (s0_0 : List Int) (s0_1 : Int) (l1_0 : List (S48)) (l2_0 : List (S48)) : Option ((List (S48)) × (List (S48)) × Bool × Int) := (Zz.f s0_0 s0_1 5).bind fun bt446 => ((Zz.f s0_0 bt446.2 7).bind fun bt450 => (if bt450.1 = 0 then (Zc.j0 k (wrap64 (bt446.1 - 1)) 0 0 bt450.1 (bt450.1 == 0) s0_0 bt450.2 l1_0 l2_0) else (if bt450.1 = 1 then (Zc.j0 k (wrap64 (bt446.1 - 1)) 0 0 bt450.1 (bt450.1 == 1) s0_0 bt450.2 l1_0 l2_0) else (Zc.j0 k (wrap64 (bt446.1 - 1)) 0 0 bt450.1 (bt450.1 == 2) s0_0 bt450.2 l1_0 l2_0))))
theorem Zc.Zbk : ∀ k, (∀ y0 y1 y2 y3 y4 y5 y6 y7, LeO (Zc.j1 k y0 y1 y2 y3 y4 y5 y6 y7) (Zc.j1 (k + 1) y0 y1 y2 y3 y4 y5 y6 y7)) ∧ (∀ y0 y1 y2 y3 y4 y5 y6 y7, LeO (Zc.j2 k y0 y1 y2 y3 y4 y5 y6 y7) (Zc.j2 (k + 1) y0 y1 y2 y3 y4 y5 y6 y7)) ∧ (∀ y0 y1 y2 y3 y4 y5 y6 y7 y8, LeO (Zc.j0 k y0 y1 y2 y3 y4 y5 y6 y7 y8) (Zc.j0 (k + 1) y0 y1 y2 y3 y4 y5 y6 y7 y8))
 | 0 => ⟨fun _ _ _ _ _ _ _ _ r h => by simp [Zc.j1] at h, fun _ _ _ _ _ _ _ _ r h => by simp [Zc.j2] at h, fun _ _ _ _ _ _ _ _ _ r h => by simp [Zc.j0] at h⟩
 | k + 1 => by
  obtain ⟨ih0, ih1, ih2⟩ := Zc.Zbk k
  refine ⟨?_, ?_, ?_⟩
  ·intro y0 y1 y2 y3 y4 y5 y6 y7
   unfold Zc.j1
   repeat' first
   | (with_reducible exact ih0 _ _ _ _ _ _ _ _)
   | (with_reducible exact ih1 _ _ _ _ _ _ _ _)
   | (with_reducible exact ih2 _ _ _ _ _ _ _ _ _)
   | (with_reducible exact Y2.mono _ _ _ _)
   | (with_reducible exact Zt.mono _ _ _)
   | (with_reducible exact Y5.mono _ _ _ _)
   | (with_reducible exact Zaq.mono _ _ _)
   | (with_reducible exact Zi.mono _ _ _ _)
   | (with_reducible exact Zp.mono _ _ _ _)
   | (with_reducible exact Zk.mono _ _ _)
   | (with_reducible exact Zm.mono _ _ _)
   | (with_reducible exact Zl.mono _ _ _)
   | (with_reducible exact LeO.refl _)
   | (with_reducible exact LeO.none _)
   | (with_reducible refine LeO.ite ?_ ?_)
   | (with_reducible refine LeO.bind ?_ (fun _ => ?_))
   | exact ih0 _ _ _ _ _ _ _ _
   | exact ih1 _ _ _ _ _ _ _ _
   | exact ih2 _ _ _ _ _ _ _ _ _
   | exact Y2.mono _ _ _ _
   | exact Zt.mono _ _ _
   | exact Y5.mono _ _ _ _
   | exact Zaq.mono _ _ _
   | exact Zi.mono _ _ _ _
   | exact Zp.mono _ _ _ _
   | exact Zk.mono _ _ _
   | exact Zm.mono _ _ _
   | exact Zl.mono _ _ _
   | exact LeO.none _
   | refine LeO.ite ?_ ?_
   | refine LeO.bind ?_ (fun _ => ?_)
  ·intro y0 y1 y2 y3 y4 y5 y6 y7
   unfold Zc.j2
   repeat' first
   | (with_reducible exact ih0 _ _ _ _ _ _ _ _)
   | (with_reducible exact ih1 _ _ _ _ _ _ _ _)
   | (with_reducible exact ih2 _ _ _ _ _ _ _ _ _)
   | (with_reducible exact Y2.mono _ _ _ _)
   | (with_reducible exact Zt.mono _ _ _)
   | (with_reducible exact Y5.mono _ _ _ _)
   | (with_reducible exact Zaq.mono _ _ _)
   | (with_reducible exact Zi.mono _ _ _ _)
   | (with_reducible exact Zp.mono _ _ _ _)
   | (with_reducible exact Zk.mono _ _ _)
   | (with_reducible exact Zm.mono _ _ _)
   | (with_reducible exact Zl.mono _ _ _)
   | (with_reducible exact LeO.refl _)
   | (with_reducible exact LeO.none _)
   | (with_reducible refine LeO.ite ?_ ?_)
   | (with_reducible refine LeO.bind ?_ (fun _ => ?_))
   | exact ih0 _ _ _ _ _ _ _ _
   | exact ih1 _ _ _ _ _ _ _ _
   | exact ih2 _ _ _ _ _ _ _ _ _
   | exact Y2.mono _ _ _ _
   | exact Zt.mono _ _ _
   | exact Y5.mono _ _ _ _
   | exact Zaq.mono _ _ _
   | exact Zi.mono _ _ _ _
   | exact Zp.mono _ _ _ _
   | exact Zk.mono _ _ _
   | exact Zm.mono _ _ _
   | exact Zl.mono _ _ _
   | exact LeO.none _
   | refine LeO.ite ?_ ?_
   | refine LeO.bind ?_ (fun _ => ?_)
  ·intro y0 y1 y2 y3 y4 y5 y6 y7 y8
   unfold Zc.j0
   repeat' first
   | (with_reducible exact ih0 _ _ _ _ _ _ _ _)
   | (with_reducible exact ih1 _ _ _ _ _ _ _ _)
   | (with_reducible exact ih2 _ _ _ _ _ _ _ _ _)
   | (with_reducible exact Y2.mono _ _ _ _)
   | (with_reducible exact Zt.mono _ _ _)
   | (with_reducible exact Y5.mono _ _ _ _)
   | (with_reducible exact Zaq.mono _ _ _)
   | (with_reducible exact Zi.mono _ _ _ _)
   | (with_reducible exact Zp.mono _ _ _ _)
   | (with_reducible exact Zk.mono _ _ _)
   | (with_reducible exact Zm.mono _ _ _)
   | (with_reducible exact Zl.mono _ _ _)
   | (with_reducible exact LeO.refl _)
   | (with_reducible exact LeO.none _)
   | (with_reducible refine LeO.ite ?_ ?_)
   | (with_reducible refine LeO.bind ?_ (fun _ => ?_))
   | exact ih0 _ _ _ _ _ _ _ _
   | exact ih1 _ _ _ _ _ _ _ _
   | exact ih2 _ _ _ _ _ _ _ _ _
   | exact Y2.mono _ _ _ _
   | exact Zt.mono _ _ _
   | exact Y5.mono _ _ _ _
   | exact Zaq.mono _ _ _
   | exact Zi.mono _ _ _ _
   | exact Zp.mono _ _ _ _
   | exact Zk.mono _ _ _
   | exact Zm.mono _ _ _
   | exact Zl.mono _ _ _
   | exact LeO.none _
   | refine LeO.ite ?_ ?_
   | refine LeO.bind ?_ (fun _ => ?_)
theorem Zc.mono : ∀ a0 a1 a2 a3 k, LeO (Zc.f k a0 a1 a2 a3) (Zc.f (k + 1) a0 a1 a2 a3) := by
 intro a0 a1 a2 a3 k
 obtain ⟨ih0, ih1, ih2⟩ := Zc.Zbk k
 unfold Zc.f
 repeat' first
   | (with_reducible exact ih0 _ _ _ _ _ _ _ _)
   | (with_reducible exact ih1 _ _ _ _ _ _ _ _)
   | (with_reducible exact ih2 _ _ _ _ _ _ _ _ _)
   | (with_reducible exact Y2.mono _ _ _ _)
   | (with_reducible exact Zt.mono _ _ _)
   | (with_reducible exact Y5.mono _ _ _ _)
   | (with_reducible exact Zaq.mono _ _ _)
   | (with_reducible exact Zi.mono _ _ _ _)
   | (with_reducible exact Zp.mono _ _ _ _)
   | (with_reducible exact Zk.mono _ _ _)
   | (with_reducible exact Zm.mono _ _ _)
   | (with_reducible exact Zl.mono _ _ _)
   | (with_reducible exact LeO.refl _)
   | (with_reducible exact LeO.none _)
   | (with_reducible refine LeO.ite ?_ ?_)
   | (with_reducible refine LeO.bind ?_ (fun _ => ?_))
   | exact ih0 _ _ _ _ _ _ _ _
   | exact ih1 _ _ _ _ _ _ _ _
   | exact ih2 _ _ _ _ _ _ _ _ _
   | exact Y2.mono _ _ _ _
   | exact Zt.mono _ _ _
   | exact Y5.mono _ _ _ _
   | exact Zaq.mono _ _ _
   | exact Zi.mono _ _ _ _
   | exact Zp.mono _ _ _ _
   | exact Zk.mono _ _ _
   | exact Zm.mono _ _ _
   | exact Zl.mono _ _ _
   | exact LeO.none _
   | refine LeO.ite ?_ ?_
   | refine LeO.bind ?_ (fun _ => ?_)
def Zc.T7 : Bool × List (List Nat × List Nat) := (true, [([], []), ([], []), ([], []), ([], []), ([2, 3], [2, 3]), ([4], [4]), ([5], [5]), ([5], [5]), ([6, 7, 5, 5], [5, 6, 7]), ([5, 8], [5, 8]), ([0, 8, 0], [0]), ([1, 10, 0, 1, 10], [1]), ([9, 11, 0, 1, 2, 3, 4, 5, 6, 7, 8, 9, 10, 11], [9])])
def Zc.B7 : List Nat := [0, 0, 0, 0, 12, 28, 60, 60, 252, 508, 509, 1535, 4095]
theorem Zc.tab7 : rtab .any (opsOf Try.f22 7) = Zc.T7 := by kernel_rfl
theorem Zc.bits7 : Zcd Zc.T7.2 Zc.B7 = true := by kernel_rfl
def Zc.T23 : Bool × List (List Nat × List Nat) := (true, [([], []), ([], []), ([0, 1], [0, 1]), ([], []), ([], []), ([3, 4, 2], [3, 4]), ([2, 5, 0, 1, 2], [2]), ([5, 6, 0, 1, 2, 3, 4, 5, 6], [5])])
def Zc.B23 : List Nat := [0, 0, 3, 0, 0, 31, 63, 127]
theorem Zc.tab23 : rtab .any (opsOf Try.f22 23) = Zc.T23 := by kernel_rfl
theorem Zc.bits23 : Zcd Zc.T23.2 Zc.B23 = true := by kernel_rfl
set_option maxHeartbeats 8000000 in
set_option maxRecDepth 100000 in
theorem Zc.calls (k : Nat) (g : Nat) (s0_0 : List Int) (s0_1 : Int) (P1_0_ : Nat → Prop) (A1_0 : Option Addr) (c1_0 : Nat) (l1_0 : List (S48)) (P2_0_ : Nat → Prop) (A2_0 : Option Addr) (c2_0 : Nat) (l2_0 : List (S48)) (r1 : List (S48)) (r2 : List (S48)) (r3 : Bool) (r4 : Int) (w0 w : World) (hI : Zb w0 w g s0_0 s0_1) (hB : Below w0.heap.size w0 w) (hs1_0 : Kd.V k48 48 w w.heap.size (fun k_ => P1_0_ k_ ∧ k_ ≠ g) (.slice A1_0 l1_0.length c1_0) l1_0) (hs2_0 : Kd.V k48 48 w w.heap.size (fun k_ => P2_0_ k_ ∧ k_ ≠ g) (.slice A2_0 l2_0.length c2_0) l2_0) (h : Zc.f k s0_0 s0_1 l1_0 l2_0 = some (r1, r2, r3, r4)) :
  Calls Try.prog 22 #[.pointer (some ⟨g, 0, none⟩), .agg #[.slice A1_0 l1_0.length c1_0], .agg #[.slice A2_0 l2_0.length c2_0]] w fun e w' => ∃ v0_ v1_ : Value, e = .returned (.tuple #[.agg #[v0_], .agg #[v1_], .bool r3]) ∧ Kd.V k48 48 w' w.heap.size (fun k_ => ((P1_0_ k_ ∨ P2_0_ k_) ∨ w.heap.size ≤ k_)) v0_ r1 ∧ Kd.V k48 48 w' w.heap.size (fun k_ => ((P1_0_ k_ ∨ P2_0_ k_) ∨ w.heap.size ≤ k_)) v1_ r2 ∧ Zb w0 w' g s0_0 r4 ∧ Below w0.heap.size w0 w' ∧ Zn w w' g none := by
 have hu24 := Try.underlying24
 have HO1_0 := aM (show Kd.V k48 48 w w.heap.size (fun k_ => ((P1_0_ k_ ∨ P2_0_ k_) ∨ w.heap.size ≤ k_) ∧ k_ ≠ g) (.slice A1_0 l1_0.length c1_0) l1_0 from Kd.Yd hs1_0 (fun k_ hk => ⟨.inl (.inl hk.1), hk.2⟩))
 have HO2_0 := aM (show Kd.V k48 48 w w.heap.size (fun k_ => ((P1_0_ k_ ∨ P2_0_ k_) ∨ w.heap.size ≤ k_) ∧ k_ ≠ g) (.slice A2_0 l2_0.length c2_0) l2_0 from Kd.Yd hs2_0 (fun k_ hk => ⟨.inl (.inr hk.1), hk.2⟩))
 have HI0 := aM hI
 have HK := aM (Zn.refl w g none)
 have HL := aM hB.size
 clear hI
 have HW0 := aM hB.size
 have HB := aM hB
 clear hB
 have H : ((Zz.f s0_0 s0_1 5).bind fun bt446 => ((Zz.f s0_0 bt446.2 7).bind fun bt450 => (if bt450.1 = 0 then (Zc.j0 k (wrap64 (bt446.1 - 1)) 0 0 bt450.1 (bt450.1 == 0) s0_0 bt450.2 l1_0 l2_0) else (if bt450.1 = 1 then (Zc.j0 k (wrap64 (bt446.1 - 1)) 0 0 bt450.1 (bt450.1 == 1) s0_0 bt450.2 l1_0 l2_0) else (Zc.j0 k (wrap64 (bt446.1 - 1)) 0 0 bt450.1 (bt450.1 == 2) s0_0 bt450.2 l1_0 l2_0))))) = some (r1, r2, r3, r4) := h
 clear h
 replace H := Option.bind_eq_some_iff.mp H
 obtain ⟨⟨t446, t447⟩, A40, H⟩ := H
 replace H : ((Zz.f s0_0 t447 7).bind fun bt450 => (if bt450.1 = 0 then (Zc.j0 k (wrap64 (t446 - 1)) 0 0 bt450.1 (bt450.1 == 0) s0_0 bt450.2 l1_0 l2_0) else (if bt450.1 = 1 then (Zc.j0 k (wrap64 (t446 - 1)) 0 0 bt450.1 (bt450.1 == 1) s0_0 bt450.2 l1_0 l2_0) else (Zc.j0 k (wrap64 (t446 - 1)) 0 0 bt450.1 (bt450.1 == 2) s0_0 bt450.2 l1_0 l2_0)))) = some (r1, r2, r3, r4) := H
 have A4 := aM A40
 clear A40
 have HC5 := aM H
 clear H
 go_enter Try.func22, Try.ntmps22
 go_upto_region 2 with (first | ((with_reducible refine Z7 (N := 4) rfl ?_); refine Z4 ?hg (N := 4) ?hd (cs := #[.slice A1_0 l1_0.length c1_0]) (t := 24) ?hr ?_; (case hd => rfl); (case hg => rfl); (case hr => first | (go_simp; done) | (go_simp; rfl)); intro gb442 hg w6 hbox hb; have n0_ := aM (Kd.Y0 (Kd.Yx (by (with_reducible repeat first | apply Kd.Zv | apply Kd.Zu | apply Kd.Z0); exact HO1_0.out) gb442 (Nat.le_of_eq hg.symm)) hb); have n1_ := aM (Kd.Y0 (Kd.Yx (by (with_reducible repeat first | apply Kd.Zv | apply Kd.Zu | apply Kd.Z0); exact HO2_0.out) gb442 (Nat.le_of_eq hg.symm)) hb); have n2_ := aM (Zb.below (by repeat (first | (with_reducible first | exact HI0.out | apply Zb.alloc | apply Zb.drewN | apply Zb.drew | apply Zb.Zad) | exact HI0.out)) hb); have n3_ := aM (Zn.trans (by repeat (first | (with_reducible first | exact HK.out | apply Zn.set_ | apply kN | apply kD | apply kA) | exact HK.out)) (Zn.of_below hb g none) (.inl rfl)); have n4_ := aM (Zj (by repeat (first | (with_reducible first | exact HB.out | apply wA | apply wN | apply wD | refine Za ?_ (Zb.ge HI0.out)) | exact HB.out)) hb); have n5_ := aM (hbox); have n6_ := aM ((by rw [hg]; exact (Y7 (w := w) (g := g) (row := none) (by repeat (first | (with_reducible first | exact HK.out | apply Zn.set_ | apply kN | apply kD | apply kA) | exact HK.out))) : w.heap.size ≤ gb442)); have n7_ := aM ((Nat.le_trans HW0.out (by rw [hg]; exact (Y7 (w := w) (g := g) (row := none) (by repeat (first | (with_reducible first | exact HK.out | apply Zn.set_ | apply kN | apply kD | apply kA) | exact HK.out))) : w.heap.size ≤ gb442) : w0.heap.size ≤ gb442)); have n8_ := aM ((by rw [hg]; exact Nat.ne_of_lt (Zb.lt (show Zb w0 _ g s0_0 s0_1 from by repeat (first | (with_reducible first | exact HI0.out | apply Zb.alloc | apply Zb.drewN | apply Zb.drew | apply Zb.Zad) | exact HI0.out))) : g ≠ gb442)); have n9_ := aM ((by rw [hg]; exact Nat.ne_of_gt (Zb.lt (show Zb w0 _ g s0_0 s0_1 from by repeat (first | (with_reducible first | exact HI0.out | apply Zb.alloc | apply Zb.drewN | apply Zb.drew | apply Zb.Zad) | exact HI0.out))) : gb442 ≠ g)); clear HO1_0 HO2_0 HI0 HK HB; have HO1_0 := n0_; have HO2_0 := n1_; have HI0 := n2_; have HK := n3_; have HB := n4_; have BK442 := n5_; have GW442 := n6_; have GE442 := n7_; have NB0_442 := n8_; have NB442_0 := n9_; clear n0_ n1_ n2_ n3_ n4_ n5_ n6_ n7_ n8_ n9_; clear hb hbox hg) | ((with_reducible refine Z7 (N := 5) rfl ?_); refine Z4 ?hg (N := 5) ?hd (cs := #[.slice A2_0 l2_0.length c2_0]) (t := 24) ?hr ?_; (case hd => rfl); (case hg => rfl); (case hr => first | (go_simp; done) | (go_simp; rfl)); intro gb443 hg w7 hbox hb; have n0_ := aM (Kd.Y0 (Kd.Yx (by (with_reducible repeat first | apply Kd.Zv | apply Kd.Zu | apply Kd.Z0); exact HO1_0.out) gb443 (Nat.le_of_eq hg.symm)) hb); have n1_ := aM (Kd.Y0 (Kd.Yx (by (with_reducible repeat first | apply Kd.Zv | apply Kd.Zu | apply Kd.Z0); exact HO2_0.out) gb443 (Nat.le_of_eq hg.symm)) hb); have n2_ := aM (Zb.below (by repeat (first | (with_reducible first | exact HI0.out | apply Zb.alloc | apply Zb.drewN | apply Zb.drew | apply Zb.Zad | refine Zb.far ?_ NB0_442.out _) | exact HI0.out)) hb); have n3_ := aM (Zf (g := gb442) (o := .cells #[.slice A1_0 l1_0.length c1_0] 24 (0, 0)) (by (with_reducible repeat first | apply bN | apply bD | apply bA); exact BK442.out) hb); have n4_ := aM (Zn.trans (by repeat (first | (with_reducible first | exact HK.out | apply Zn.set_ | apply kN | apply kD | apply kA | refine kF ?_ GW442.out _) | exact HK.out)) (Zn.of_below hb g none) (.inl rfl)); have n5_ := aM (Zj (by repeat (first | (with_reducible first | exact HB.out | apply wA | apply wN | apply wD | refine Za ?_ (Zb.ge HI0.out) | refine Za ?_ GE442.out) | exact HB.out)) hb); have n6_ := aM (hbox); have n7_ := aM ((by rw [hg]; exact (Y7 (w := w) (g := g) (row := none) (by repeat (first | (with_reducible first | exact HK.out | apply Zn.set_ | apply kN | apply kD | apply kA | refine kF ?_ GW442.out _) | exact HK.out))) : w.heap.size ≤ gb443)); have n8_ := aM ((Nat.le_trans HW0.out (by rw [hg]; exact (Y7 (w := w) (g := g) (row := none) (by repeat (first | (with_reducible first | exact HK.out | apply Zn.set_ | apply kN | apply kD | apply kA | refine kF ?_ GW442.out _) | exact HK.out))) : w.heap.size ≤ gb443) : w0.heap.size ≤ gb443)); have n9_ := aM ((by rw [hg]; exact Nat.ne_of_lt (Ya (g := gb442) (o := .cells #[.slice A1_0 l1_0.length c1_0] 24 (0, 0)) (by (with_reducible repeat first | apply bN | apply bD | apply bA); exact BK442.out)) : gb442 ≠ gb443)); have n10_ := aM ((by rw [hg]; exact Nat.ne_of_gt (Ya (g := gb442) (o := .cells #[.slice A1_0 l1_0.length c1_0] 24 (0, 0)) (by (with_reducible repeat first | apply bN | apply bD | apply bA); exact BK442.out)) : gb443 ≠ gb442)); have n11_ := aM ((by rw [hg]; exact Nat.ne_of_lt (Zb.lt (show Zb w0 _ g s0_0 s0_1 from by repeat (first | (with_reducible first | exact HI0.out | apply Zb.alloc | apply Zb.drewN | apply Zb.drew | apply Zb.Zad | refine Zb.far ?_ NB0_442.out _) | exact HI0.out))) : g ≠ gb443)); have n12_ := aM ((by rw [hg]; exact Nat.ne_of_gt (Zb.lt (show Zb w0 _ g s0_0 s0_1 from by repeat (first | (with_reducible first | exact HI0.out | apply Zb.alloc | apply Zb.drewN | apply Zb.drew | apply Zb.Zad | refine Zb.far ?_ NB0_442.out _) | exact HI0.out))) : gb443 ≠ g)); clear HO1_0 HO2_0 HI0 BK442 HK HB; have HO1_0 := n0_; have HO2_0 := n1_; have HI0 := n2_; have BK442 := n3_; have HK := n4_; have HB := n5_; have BK443 := n6_; have GW443 := n7_; have GE443 := n8_; have NB442_443 := n9_; have NB443_442 := n10_; have NB0_443 := n11_; have NB443_0 := n12_; clear n0_ n1_ n2_ n3_ n4_ n5_ n6_ n7_ n8_ n9_ n10_ n11_ n12_; clear hb hbox hg) | ((with_reducible refine Z7 (N := 6) rfl ?_); refine Z4 ?hg (N := 6) ?hd (cs := #[.slice none 0 0]) (t := 24) ?hr ?_; (case hd => rfl); (case hg => rfl); (case hr => first | (go_simp; done) | (go_simp; rfl)); intro gb444 hg w8 hbox hb; have n0_ := aM (Kd.Y0 (Kd.Yx (by (with_reducible repeat first | apply Kd.Zv | apply Kd.Zu | apply Kd.Z0); exact HO1_0.out) gb444 (Nat.le_of_eq hg.symm)) hb); have n1_ := aM (Kd.Y0 (Kd.Yx (by (with_reducible repeat first | apply Kd.Zv | apply Kd.Zu | apply Kd.Z0); exact HO2_0.out) gb444 (Nat.le_of_eq hg.symm)) hb); have n2_ := aM (Zb.below (by repeat (first | (with_reducible first | exact HI0.out | apply Zb.alloc | apply Zb.drewN | apply Zb.drew | apply Zb.Zad | refine Zb.far ?_ NB0_442.out _ | refine Zb.far ?_ NB0_443.out _) | exact HI0.out)) hb); have n3_ := aM (Zf (g := gb442) (o := .cells #[.slice A1_0 l1_0.length c1_0] 24 (0, 0)) (by (with_reducible repeat first | apply bN | apply bD | apply bA); exact BK442.out) hb); have n4_ := aM (Zf (g := gb443) (o := .cells #[.slice A2_0 l2_0.length c2_0] 24 (0, 0)) (by (with_reducible repeat first | apply bN | apply bD | apply bA); exact BK443.out) hb); have n5_ := aM (Zn.trans (by repeat (first | (with_reducible first | exact HK.out | apply Zn.set_ | apply kN | apply kD | apply kA | refine kF ?_ GW442.out _ | refine kF ?_ GW443.out _) | exact HK.out)) (Zn.of_below hb g none) (.inl rfl)); have n6_ := aM (Zj (by repeat (first | (with_reducible first | exact HB.out | apply wA | apply wN | apply wD | refine Za ?_ (Zb.ge HI0.out) | refine Za ?_ GE442.out | refine Za ?_ GE443.out) | exact HB.out)) hb); have n7_ := aM (hbox); have n8_ := aM ((by rw [hg]; exact (Y7 (w := w) (g := g) (row := none) (by repeat (first | (with_reducible first | exact HK.out | apply Zn.set_ | apply kN | apply kD | apply kA | refine kF ?_ GW442.out _ | refine kF ?_ GW443.out _) | exact HK.out))) : w.heap.size ≤ gb444)); have n9_ := aM ((Nat.le_trans HW0.out (by rw [hg]; exact (Y7 (w := w) (g := g) (row := none) (by repeat (first | (with_reducible first | exact HK.out | apply Zn.set_ | apply kN | apply kD | apply kA | refine kF ?_ GW442.out _ | refine kF ?_ GW443.out _) | exact HK.out))) : w.heap.size ≤ gb444) : w0.heap.size ≤ gb444)); have n10_ := aM ((by rw [hg]; exact Nat.ne_of_lt (Ya (g := gb442) (o := .cells #[.slice A1_0 l1_0.length c1_0] 24 (0, 0)) (by (with_reducible repeat first | apply bN | apply bD | apply bA); exact BK442.out)) : gb442 ≠ gb444)); have n11_ := aM ((by rw [hg]; exact Nat.ne_of_gt (Ya (g := gb442) (o := .cells #[.slice A1_0 l1_0.length c1_0] 24 (0, 0)) (by (with_reducible repeat first | apply bN | apply bD | apply bA); exact BK442.out)) : gb444 ≠ gb442)); have n12_ := aM ((by rw [hg]; exact Nat.ne_of_lt (Ya (g := gb443) (o := .cells #[.slice A2_0 l2_0.length c2_0] 24 (0, 0)) (by (with_reducible repeat first | apply bN | apply bD | apply bA); exact BK443.out)) : gb443 ≠ gb444)); have n13_ := aM ((by rw [hg]; exact Nat.ne_of_gt (Ya (g := gb443) (o := .cells #[.slice A2_0 l2_0.length c2_0] 24 (0, 0)) (by (with_reducible repeat first | apply bN | apply bD | apply bA); exact BK443.out)) : gb444 ≠ gb443)); have n14_ := aM ((by rw [hg]; exact Nat.ne_of_lt (Zb.lt (show Zb w0 _ g s0_0 s0_1 from by repeat (first | (with_reducible first | exact HI0.out | apply Zb.alloc | apply Zb.drewN | apply Zb.drew | apply Zb.Zad | refine Zb.far ?_ NB0_442.out _ | refine Zb.far ?_ NB0_443.out _) | exact HI0.out))) : g ≠ gb444)); have n15_ := aM ((by rw [hg]; exact Nat.ne_of_gt (Zb.lt (show Zb w0 _ g s0_0 s0_1 from by repeat (first | (with_reducible first | exact HI0.out | apply Zb.alloc | apply Zb.drewN | apply Zb.drew | apply Zb.Zad | refine Zb.far ?_ NB0_442.out _ | refine Zb.far ?_ NB0_443.out _) | exact HI0.out))) : gb444 ≠ g)); clear HO1_0 HO2_0 HI0 BK442 BK443 HK HB; have HO1_0 := n0_; have HO2_0 := n1_; have HI0 := n2_; have BK442 := n3_; have BK443 := n4_; have HK := n5_; have HB := n6_; have BK444 := n7_; have GW444 := n8_; have GE444 := n9_; have NB442_444 := n10_; have NB444_442 := n11_; have NB443_444 := n12_; have NB444_443 := n13_; have NB0_444 := n14_; have NB444_0 := n15_; clear n0_ n1_ n2_ n3_ n4_ n5_ n6_ n7_ n8_ n9_ n10_ n11_ n12_ n13_ n14_ n15_; clear hb hbox hg) | ((with_reducible refine Z7 (N := 7) rfl ?_); refine Z4 ?hg (N := 7) ?hd (cs := #[.slice none 0 0]) (t := 24) ?hr ?_; (case hd => rfl); (case hg => rfl); (case hr => first | (go_simp; done) | (go_simp; rfl)); intro gb445 hg w9 hbox hb; have n0_ := aM (Kd.Y0 (Kd.Yx (by (with_reducible repeat first | apply Kd.Zv | apply Kd.Zu | apply Kd.Z0); exact HO1_0.out) gb445 (Nat.le_of_eq hg.symm)) hb); have n1_ := aM (Kd.Y0 (Kd.Yx (by (with_reducible repeat first | apply Kd.Zv | apply Kd.Zu | apply Kd.Z0); exact HO2_0.out) gb445 (Nat.le_of_eq hg.symm)) hb); have n2_ := aM (Zb.below (by repeat (first | (with_reducible first | exact HI0.out | apply Zb.alloc | apply Zb.drewN | apply Zb.drew | apply Zb.Zad | refine Zb.far ?_ NB0_442.out _ | refine Zb.far ?_ NB0_443.out _ | refine Zb.far ?_ NB0_444.out _) | exact HI0.out)) hb); have n3_ := aM (Zf (g := gb442) (o := .cells #[.slice A1_0 l1_0.length c1_0] 24 (0, 0)) (by (with_reducible repeat first | apply bN | apply bD | apply bA); exact BK442.out) hb); have n4_ := aM (Zf (g := gb443) (o := .cells #[.slice A2_0 l2_0.length c2_0] 24 (0, 0)) (by (with_reducible repeat first | apply bN | apply bD | apply bA); exact BK443.out) hb); have n5_ := aM (Zf (g := gb444) (o := .cells #[.slice none 0 0] 24 (0, 0)) (by (with_reducible repeat first | apply bN | apply bD | apply bA); exact BK444.out) hb); have n6_ := aM (Zn.trans (by repeat (first | (with_reducible first | exact HK.out | apply Zn.set_ | apply kN | apply kD | apply kA | refine kF ?_ GW442.out _ | refine kF ?_ GW443.out _ | refine kF ?_ GW444.out _) | exact HK.out)) (Zn.of_below hb g none) (.inl rfl)); have n7_ := aM (Zj (by repeat (first | (with_reducible first | exact HB.out | apply wA | apply wN | apply wD | refine Za ?_ (Zb.ge HI0.out) | refine Za ?_ GE442.out | refine Za ?_ GE443.out | refine Za ?_ GE444.out) | exact HB.out)) hb); have n8_ := aM (hbox); have n9_ := aM ((by rw [hg]; exact (Y7 (w := w) (g := g) (row := none) (by repeat (first | (with_reducible first | exact HK.out | apply Zn.set_ | apply kN | apply kD | apply kA | refine kF ?_ GW442.out _ | refine kF ?_ GW443.out _ | refine kF ?_ GW444.out _) | exact HK.out))) : w.heap.size ≤ gb445)); have n10_ := aM ((Nat.le_trans HW0.out (by rw [hg]; exact (Y7 (w := w) (g := g) (row := none) (by repeat (first | (with_reducible first | exact HK.out | apply Zn.set_ | apply kN | apply kD | apply kA | refine kF ?_ GW442.out _ | refine kF ?_ GW443.out _ | refine kF ?_ GW444.out _) | exact HK.out))) : w.heap.size ≤ gb445) : w0.heap.size ≤ gb445)); have n11_ := aM ((by rw [hg]; exact Nat.ne_of_lt (Ya (g := gb442) (o := .cells #[.slice A1_0 l1_0.length c1_0] 24 (0, 0)) (by (with_reducible repeat first | apply bN | apply bD | apply bA); exact BK442.out)) : gb442 ≠ gb445)); have n12_ := aM ((by rw [hg]; exact Nat.ne_of_gt (Ya (g := gb442) (o := .cells #[.slice A1_0 l1_0.length c1_0] 24 (0, 0)) (by (with_reducible repeat first | apply bN | apply bD | apply bA); exact BK442.out)) : gb445 ≠ gb442)); have n13_ := aM ((by rw [hg]; exact Nat.ne_of_lt (Ya (g := gb443) (o := .cells #[.slice A2_0 l2_0.length c2_0] 24 (0, 0)) (by (with_reducible repeat first | apply bN | apply bD | apply bA); exact BK443.out)) : gb443 ≠ gb445)); have n14_ := aM ((by rw [hg]; exact Nat.ne_of_gt (Ya (g := gb443) (o := .cells #[.slice A2_0 l2_0.length c2_0] 24 (0, 0)) (by (with_reducible repeat first | apply bN | apply bD | apply bA); exact BK443.out)) : gb445 ≠ gb443)); have n15_ := aM ((by rw [hg]; exact Nat.ne_of_lt (Ya (g := gb444) (o := .cells #[.slice none 0 0] 24 (0, 0)) (by (with_reducible repeat first | apply bN | apply bD | apply bA); exact BK444.out)) : gb444 ≠ gb445)); have n16_ := aM ((by rw [hg]; exact Nat.ne_of_gt (Ya (g := gb444) (o := .cells #[.slice none 0 0] 24 (0, 0)) (by (with_reducible repeat first | apply bN | apply bD | apply bA); exact BK444.out)) : gb445 ≠ gb444)); have n17_ := aM ((by rw [hg]; exact Nat.ne_of_lt (Zb.lt (show Zb w0 _ g s0_0 s0_1 from by repeat (first | (with_reducible first | exact HI0.out | apply Zb.alloc | apply Zb.drewN | apply Zb.drew | apply Zb.Zad | refine Zb.far ?_ NB0_442.out _ | refine Zb.far ?_ NB0_443.out _ | refine Zb.far ?_ NB0_444.out _) | exact HI0.out))) : g ≠ gb445)); have n18_ := aM ((by rw [hg]; exact Nat.ne_of_gt (Zb.lt (show Zb w0 _ g s0_0 s0_1 from by repeat (first | (with_reducible first | exact HI0.out | apply Zb.alloc | apply Zb.drewN | apply Zb.drew | apply Zb.Zad | refine Zb.far ?_ NB0_442.out _ | refine Zb.far ?_ NB0_443.out _ | refine Zb.far ?_ NB0_444.out _) | exact HI0.out))) : gb445 ≠ g)); clear HO1_0 HO2_0 HI0 BK442 BK443 BK444 HK HB; have HO1_0 := n0_; have HO2_0 := n1_; have HI0 := n2_; have BK442 := n3_; have BK443 := n4_; have BK444 := n5_; have HK := n6_; have HB := n7_; have BK445 := n8_; have GW445 := n9_; have GE445 := n10_; have NB442_445 := n11_; have NB445_442 := n12_; have NB443_445 := n13_; have NB445_443 := n14_; have NB444_445 := n15_; have NB445_444 := n16_; have NB0_445 := n17_; have NB445_0 := n18_; clear n0_ n1_ n2_ n3_ n4_ n5_ n6_ n7_ n8_ n9_ n10_ n11_ n12_ n13_ n14_ n15_ n16_ n17_ n18_; clear hb hbox hg) | ((with_reducible refine Yf (f := 29) rfl ?_); refine Zap (some 22) rfl rfl Try.func29 (by kernel_rfl) rfl #[.pointer (some ⟨g, 0, none⟩), .int .i64 5] rfl (by (try simp only [Qi, Qj, Qk]); first | done | rfl | (simp only [Qe, Qd]; rfl)) ?_; (with_reducible refine (Zz.calls g s0_0 s0_1 5 t446 t447 w0 _ ?side1 ?side2 A4.out).mono ?_); (case side1 => repeat (first | (with_reducible first | exact HI0.out | apply Zb.alloc | apply Zb.drewN | apply Zb.drew | apply Zb.Zad | refine Zb.far ?_ NB0_442.out _ | refine Zb.far ?_ NB0_443.out _ | refine Zb.far ?_ NB0_444.out _ | refine Zb.far ?_ NB0_445.out _) | exact HI0.out)); (case side2 => repeat (first | (with_reducible first | exact HB.out | apply wA | apply wN | apply wD | refine Za ?_ (Zb.ge HI0.out) | refine Za ?_ GE442.out | refine Za ?_ GE443.out | refine Za ?_ GE444.out | refine Za ?_ GE445.out) | exact HB.out)); rintro e w10 ⟨rfl, hi, hb, hk⟩; refine ⟨_, rfl, ?_⟩; have n0_ := aM (Kd.Yd (Kd.Zdq (Kd.Yd (ok := fun k_ => ((((((((P1_0_ k_ ∨ P2_0_ k_) ∨ w.heap.size ≤ k_)) ∧ k_ ≠ g) ∧ k_ ≠ gb442) ∧ k_ ≠ gb443) ∧ k_ ≠ gb444) ∧ k_ ≠ gb445)) (by (with_reducible repeat first | apply Kd.Zv | apply Kd.Zu | apply Kd.Z0); exact HO1_0.out) (fun k_ hk_ => (⟨hk_, hk_.1.1.1.1.2⟩ : _ ∧ k_ ≠ g))) hk (fun _ h => h.2)) (fun _ h => h.1)); have n1_ := aM (Kd.Yd (Kd.Zdq (Kd.Yd (ok := fun k_ => ((((((((P1_0_ k_ ∨ P2_0_ k_) ∨ w.heap.size ≤ k_)) ∧ k_ ≠ g) ∧ k_ ≠ gb442) ∧ k_ ≠ gb443) ∧ k_ ≠ gb444) ∧ k_ ≠ gb445)) (by (with_reducible repeat first | apply Kd.Zv | apply Kd.Zu | apply Kd.Z0); exact HO2_0.out) (fun k_ hk_ => (⟨hk_, hk_.1.1.1.1.2⟩ : _ ∧ k_ ≠ g))) hk (fun _ h => h.2)) (fun _ h => h.1)); have n2_ := aM (Zn.blk hk (g' := gb442) (o := .cells #[.slice A1_0 l1_0.length c1_0] 24 (0, 0)) (by (with_reducible repeat first | apply bN | apply bD | apply bA); exact BK442.out) NB442_0.out (by simp)); have n3_ := aM (Zn.blk hk (g' := gb443) (o := .cells #[.slice A2_0 l2_0.length c2_0] 24 (0, 0)) (by (with_reducible repeat first | apply bN | apply bD | apply bA); exact BK443.out) NB443_0.out (by simp)); have n4_ := aM (Zn.blk hk (g' := gb444) (o := .cells #[.slice none 0 0] 24 (0, 0)) (by (with_reducible repeat first | apply bN | apply bD | apply bA); exact BK444.out) NB444_0.out (by simp)); have n5_ := aM (Zn.blk hk (g' := gb445) (o := .cells #[.slice none 0 0] 24 (0, 0)) (by (with_reducible repeat first | apply bN | apply bD | apply bA); exact BK445.out) NB445_0.out (by simp)); have n6_ := aM (Zn.trans (by repeat (first | (with_reducible first | exact HK.out | apply Zn.set_ | apply kN | apply kD | apply kA | refine kF ?_ GW442.out _ | refine kF ?_ GW443.out _ | refine kF ?_ GW444.out _ | refine kF ?_ GW445.out _) | exact HK.out)) hk (.inl rfl)); have n7_ := aM (hb); have n8_ := aM (hi); clear HO1_0 HO2_0 BK442 BK443 BK444 BK445 HK HB HI0; have HO1_0 := n0_; have HO2_0 := n1_; have BK442 := n2_; have BK443 := n3_; have BK444 := n4_; have BK445 := n5_; have HK := n6_; have HB := n7_; have HI0 := n8_; clear n0_ n1_ n2_ n3_ n4_ n5_ n6_ n7_ n8_; (try clear hb); (try clear hb2); (try clear hk); (try clear hi); (try clear hge_)))
 (try simp only [Act.put, Qa, Qb, Qc])
 have H := HC5.out
 clear HC5
 replace H := Option.bind_eq_some_iff.mp H
 obtain ⟨⟨t450, t451⟩, A110, H⟩ := H
 replace H : (if t450 = 0 then (Zc.j0 k (wrap64 (t446 - 1)) 0 0 t450 (t450 == 0) s0_0 t451 l1_0 l2_0) else (if t450 = 1 then (Zc.j0 k (wrap64 (t446 - 1)) 0 0 t450 (t450 == 1) s0_0 t451 l1_0 l2_0) else (Zc.j0 k (wrap64 (t446 - 1)) 0 0 t450 (t450 == 2) s0_0 t451 l1_0 l2_0))) = some (r1, r2, r3, r4) := H
 have A11 := aM A110
 clear A110
 have HC12 := aM H
 clear H
 go_upto_block 0 with (first | ((with_reducible refine Z7 (N := 10) rfl ?_); refine Z4 ?hg (N := 10) ?hd (cs := #[.slice none 0 0]) (t := 24) ?hr ?_; (case hd => rfl); (case hg => rfl); (case hr => first | (go_simp; done) | (go_simp; rfl)); intro gb448 hg w13 hbox hb; have n0_ := aM (Kd.Y0 (Kd.Yx (by (with_reducible repeat first | apply Kd.Zv | apply Kd.Zu | apply Kd.Z0); exact HO1_0.out) gb448 (Nat.le_of_eq hg.symm)) hb); have n1_ := aM (Kd.Y0 (Kd.Yx (by (with_reducible repeat first | apply Kd.Zv | apply Kd.Zu | apply Kd.Z0); exact HO2_0.out) gb448 (Nat.le_of_eq hg.symm)) hb); have n2_ := aM (Zb.below (by repeat (first | (with_reducible first | exact HI0.out | apply Zb.alloc | apply Zb.drewN | apply Zb.drew | apply Zb.Zad | refine Zb.far ?_ NB0_442.out _ | refine Zb.far ?_ NB0_443.out _ | refine Zb.far ?_ NB0_444.out _ | refine Zb.far ?_ NB0_445.out _) | exact HI0.out)) hb); have n3_ := aM (Zf (g := gb442) (o := .cells #[.slice A1_0 l1_0.length c1_0] 24 (0, 0)) (by (with_reducible repeat first | apply bN | apply bD | apply bA); exact BK442.out) hb); have n4_ := aM (Zf (g := gb443) (o := .cells #[.slice A2_0 l2_0.length c2_0] 24 (0, 0)) (by (with_reducible repeat first | apply bN | apply bD | apply bA); exact BK443.out) hb); have n5_ := aM (Zf (g := gb444) (o := .cells #[.slice none 0 0] 24 (0, 0)) (by (with_reducible repeat first | apply bN | apply bD | apply bA); exact BK444.out) hb); have n6_ := aM (Zf (g := gb445) (o := .cells #[.slice none 0 0] 24 (0, 0)) (by (with_reducible repeat first | apply bN | apply bD | apply bA); exact BK445.out) hb); have n7_ := aM (Zn.trans (by repeat (first | (with_reducible first | exact HK.out | apply Zn.set_ | apply kN | apply kD | apply kA | refine kF ?_ GW442.out _ | refine kF ?_ GW443.out _ | refine kF ?_ GW444.out _ | refine kF ?_ GW445.out _) | exact HK.out)) (Zn.of_below hb g none) (.inl rfl)); have n8_ := aM (Zj (by repeat (first | (with_reducible first | exact HB.out | apply wA | apply wN | apply wD | refine Za ?_ (Zb.ge HI0.out) | refine Za ?_ GE442.out | refine Za ?_ GE443.out | refine Za ?_ GE444.out | refine Za ?_ GE445.out) | exact HB.out)) hb); have n9_ := aM (hbox); have n10_ := aM ((by rw [hg]; exact (Y7 (w := w) (g := g) (row := none) (by repeat (first | (with_reducible first | exact HK.out | apply Zn.set_ | apply kN | apply kD | apply kA | refine kF ?_ GW442.out _ | refine kF ?_ GW443.out _ | refine kF ?_ GW444.out _ | refine kF ?_ GW445.out _) | exact HK.out))) : w.heap.size ≤ gb448)); have n11_ := aM ((Nat.le_trans HW0.out (by rw [hg]; exact (Y7 (w := w) (g := g) (row := none) (by repeat (first | (with_reducible first | exact HK.out | apply Zn.set_ | apply kN | apply kD | apply kA | refine kF ?_ GW442.out _ | refine kF ?_ GW443.out _ | refine kF ?_ GW444.out _ | refine kF ?_ GW445.out _) | exact HK.out))) : w.heap.size ≤ gb448) : w0.heap.size ≤ gb448)); have n12_ := aM ((by rw [hg]; exact Nat.ne_of_lt (Ya (g := gb442) (o := .cells #[.slice A1_0 l1_0.length c1_0] 24 (0, 0)) (by (with_reducible repeat first | apply bN | apply bD | apply bA); exact BK442.out)) : gb442 ≠ gb448)); have n13_ := aM ((by rw [hg]; exact Nat.ne_of_gt (Ya (g := gb442) (o := .cells #[.slice A1_0 l1_0.length c1_0] 24 (0, 0)) (by (with_reducible repeat first | apply bN | apply bD | apply bA); exact BK442.out)) : gb448 ≠ gb442)); have n14_ := aM ((by rw [hg]; exact Nat.ne_of_lt (Ya (g := gb443) (o := .cells #[.slice A2_0 l2_0.length c2_0] 24 (0, 0)) (by (with_reducible repeat first | apply bN | apply bD | apply bA); exact BK443.out)) : gb443 ≠ gb448)); have n15_ := aM ((by rw [hg]; exact Nat.ne_of_gt (Ya (g := gb443) (o := .cells #[.slice A2_0 l2_0.length c2_0] 24 (0, 0)) (by (with_reducible repeat first | apply bN | apply bD | apply bA); exact BK443.out)) : gb448 ≠ gb443)); have n16_ := aM ((by rw [hg]; exact Nat.ne_of_lt (Ya (g := gb444) (o := .cells #[.slice none 0 0] 24 (0, 0)) (by (with_reducible repeat first | apply bN | apply bD | apply bA); exact BK444.out)) : gb444 ≠ gb448)); have n17_ := aM ((by rw [hg]; exact Nat.ne_of_gt (Ya (g := gb444) (o := .cells #[.slice none 0 0] 24 (0, 0)) (by (with_reducible repeat first | apply bN | apply bD | apply bA); exact BK444.out)) : gb448 ≠ gb444)); have n18_ := aM ((by rw [hg]; exact Nat.ne_of_lt (Ya (g := gb445) (o := .cells #[.slice none 0 0] 24 (0, 0)) (by (with_reducible repeat first | apply bN | apply bD | apply bA); exact BK445.out)) : gb445 ≠ gb448)); have n19_ := aM ((by rw [hg]; exact Nat.ne_of_gt (Ya (g := gb445) (o := .cells #[.slice none 0 0] 24 (0, 0)) (by (with_reducible repeat first | apply bN | apply bD | apply bA); exact BK445.out)) : gb448 ≠ gb445)); have n20_ := aM ((by rw [hg]; exact Nat.ne_of_lt (Zb.lt (show Zb w0 _ g s0_0 t447 from by repeat (first | (with_reducible first | exact HI0.out | apply Zb.alloc | apply Zb.drewN | apply Zb.drew | apply Zb.Zad | refine Zb.far ?_ NB0_442.out _ | refine Zb.far ?_ NB0_443.out _ | refine Zb.far ?_ NB0_444.out _ | refine Zb.far ?_ NB0_445.out _) | exact HI0.out))) : g ≠ gb448)); have n21_ := aM ((by rw [hg]; exact Nat.ne_of_gt (Zb.lt (show Zb w0 _ g s0_0 t447 from by repeat (first | (with_reducible first | exact HI0.out | apply Zb.alloc | apply Zb.drewN | apply Zb.drew | apply Zb.Zad | refine Zb.far ?_ NB0_442.out _ | refine Zb.far ?_ NB0_443.out _ | refine Zb.far ?_ NB0_444.out _ | refine Zb.far ?_ NB0_445.out _) | exact HI0.out))) : gb448 ≠ g)); clear HO1_0 HO2_0 HI0 BK442 BK443 BK444 BK445 HK HB; have HO1_0 := n0_; have HO2_0 := n1_; have HI0 := n2_; have BK442 := n3_; have BK443 := n4_; have BK444 := n5_; have BK445 := n6_; have HK := n7_; have HB := n8_; have BK448 := n9_; have GW448 := n10_; have GE448 := n11_; have NB442_448 := n12_; have NB448_442 := n13_; have NB443_448 := n14_; have NB448_443 := n15_; have NB444_448 := n16_; have NB448_444 := n17_; have NB445_448 := n18_; have NB448_445 := n19_; have NB0_448 := n20_; have NB448_0 := n21_; clear n0_ n1_ n2_ n3_ n4_ n5_ n6_ n7_ n8_ n9_ n10_ n11_ n12_ n13_ n14_ n15_ n16_ n17_ n18_ n19_ n20_ n21_; clear hb hbox hg) | ((with_reducible refine Z7 (N := 11) rfl ?_); refine Z4 ?hg (N := 11) ?hd (cs := #[.slice none 0 0]) (t := 24) ?hr ?_; (case hd => rfl); (case hg => rfl); (case hr => first | (go_simp; done) | (go_simp; rfl)); intro gb449 hg w14 hbox hb; have n0_ := aM (Kd.Y0 (Kd.Yx (by (with_reducible repeat first | apply Kd.Zv | apply Kd.Zu | apply Kd.Z0); exact HO1_0.out) gb449 (Nat.le_of_eq hg.symm)) hb); have n1_ := aM (Kd.Y0 (Kd.Yx (by (with_reducible repeat first | apply Kd.Zv | apply Kd.Zu | apply Kd.Z0); exact HO2_0.out) gb449 (Nat.le_of_eq hg.symm)) hb); have n2_ := aM (Zb.below (by repeat (first | (with_reducible first | exact HI0.out | apply Zb.alloc | apply Zb.drewN | apply Zb.drew | apply Zb.Zad | refine Zb.far ?_ NB0_442.out _ | refine Zb.far ?_ NB0_443.out _ | refine Zb.far ?_ NB0_444.out _ | refine Zb.far ?_ NB0_445.out _ | refine Zb.far ?_ NB0_448.out _) | exact HI0.out)) hb); have n3_ := aM (Zf (g := gb442) (o := .cells #[.slice A1_0 l1_0.length c1_0] 24 (0, 0)) (by (with_reducible repeat first | apply bN | apply bD | apply bA); exact BK442.out) hb); have n4_ := aM (Zf (g := gb443) (o := .cells #[.slice A2_0 l2_0.length c2_0] 24 (0, 0)) (by (with_reducible repeat first | apply bN | apply bD | apply bA); exact BK443.out) hb); have n5_ := aM (Zf (g := gb444) (o := .cells #[.slice none 0 0] 24 (0, 0)) (by (with_reducible repeat first | apply bN | apply bD | apply bA); exact BK444.out) hb); have n6_ := aM (Zf (g := gb445) (o := .cells #[.slice none 0 0] 24 (0, 0)) (by (with_reducible repeat first | apply bN | apply bD | apply bA); exact BK445.out) hb); have n7_ := aM (Zf (g := gb448) (o := .cells #[.slice none 0 0] 24 (0, 0)) (by (with_reducible repeat first | apply bN | apply bD | apply bA); exact BK448.out) hb); have n8_ := aM (Zn.trans (by repeat (first | (with_reducible first | exact HK.out | apply Zn.set_ | apply kN | apply kD | apply kA | refine kF ?_ GW442.out _ | refine kF ?_ GW443.out _ | refine kF ?_ GW444.out _ | refine kF ?_ GW445.out _ | refine kF ?_ GW448.out _) | exact HK.out)) (Zn.of_below hb g none) (.inl rfl)); have n9_ := aM (Zj (by repeat (first | (with_reducible first | exact HB.out | apply wA | apply wN | apply wD | refine Za ?_ (Zb.ge HI0.out) | refine Za ?_ GE442.out | refine Za ?_ GE443.out | refine Za ?_ GE444.out | refine Za ?_ GE445.out | refine Za ?_ GE448.out) | exact HB.out)) hb); have n10_ := aM (hbox); have n11_ := aM ((by rw [hg]; exact (Y7 (w := w) (g := g) (row := none) (by repeat (first | (with_reducible first | exact HK.out | apply Zn.set_ | apply kN | apply kD | apply kA | refine kF ?_ GW442.out _ | refine kF ?_ GW443.out _ | refine kF ?_ GW444.out _ | refine kF ?_ GW445.out _ | refine kF ?_ GW448.out _) | exact HK.out))) : w.heap.size ≤ gb449)); have n12_ := aM ((Nat.le_trans HW0.out (by rw [hg]; exact (Y7 (w := w) (g := g) (row := none) (by repeat (first | (with_reducible first | exact HK.out | apply Zn.set_ | apply kN | apply kD | apply kA | refine kF ?_ GW442.out _ | refine kF ?_ GW443.out _ | refine kF ?_ GW444.out _ | refine kF ?_ GW445.out _ | refine kF ?_ GW448.out _) | exact HK.out))) : w.heap.size ≤ gb449) : w0.heap.size ≤ gb449)); have n13_ := aM ((by rw [hg]; exact Nat.ne_of_lt (Ya (g := gb442) (o := .cells #[.slice A1_0 l1_0.length c1_0] 24 (0, 0)) (by (with_reducible repeat first | apply bN | apply bD | apply bA); exact BK442.out)) : gb442 ≠ gb449)); have n14_ := aM ((by rw [hg]; exact Nat.ne_of_gt (Ya (g := gb442) (o := .cells #[.slice A1_0 l1_0.length c1_0] 24 (0, 0)) (by (with_reducible repeat first | apply bN | apply bD | apply bA); exact BK442.out)) : gb449 ≠ gb442)); have n15_ := aM ((by rw [hg]; exact Nat.ne_of_lt (Ya (g := gb443) (o := .cells #[.slice A2_0 l2_0.length c2_0] 24 (0, 0)) (by (with_reducible repeat first | apply bN | apply bD | apply bA); exact BK443.out)) : gb443 ≠ gb449)); have n16_ := aM ((by rw [hg]; exact Nat.ne_of_gt (Ya (g := gb443) (o := .cells #[.slice A2_0 l2_0.length c2_0] 24 (0, 0)) (by (with_reducible repeat first | apply bN | apply bD | apply bA); exact BK443.out)) : gb449 ≠ gb443)); have n17_ := aM ((by rw [hg]; exact Nat.ne_of_lt (Ya (g := gb444) (o := .cells #[.slice none 0 0] 24 (0, 0)) (by (with_reducible repeat first | apply bN | apply bD | apply bA); exact BK444.out)) : gb444 ≠ gb449)); have n18_ := aM ((by rw [hg]; exact Nat.ne_of_gt (Ya (g := gb444) (o := .cells #[.slice none 0 0] 24 (0, 0)) (by (with_reducible repeat first | apply bN | apply bD | apply bA); exact BK444.out)) : gb449 ≠ gb444)); have n19_ := aM ((by rw [hg]; exact Nat.ne_of_lt (Ya (g := gb445) (o := .cells #[.slice none 0 0] 24 (0, 0)) (by (with_reducible repeat first | apply bN | apply bD | apply bA); exact BK445.out)) : gb445 ≠ gb449)); have n20_ := aM ((by rw [hg]; exact Nat.ne_of_gt (Ya (g := gb445) (o := .cells #[.slice none 0 0] 24 (0, 0)) (by (with_reducible repeat first | apply bN | apply bD | apply bA); exact BK445.out)) : gb449 ≠ gb445)); have n21_ := aM ((by rw [hg]; exact Nat.ne_of_lt (Ya (g := gb448) (o := .cells #[.slice none 0 0] 24 (0, 0)) (by (with_reducible repeat first | apply bN | apply bD | apply bA); exact BK448.out)) : gb448 ≠ gb449)); have n22_ := aM ((by rw [hg]; exact Nat.ne_of_gt (Ya (g := gb448) (o := .cells #[.slice none 0 0] 24 (0, 0)) (by (with_reducible repeat first | apply bN | apply bD | apply bA); exact BK448.out)) : gb449 ≠ gb448)); have n23_ := aM ((by rw [hg]; exact Nat.ne_of_lt (Zb.lt (show Zb w0 _ g s0_0 t447 from by repeat (first | (with_reducible first | exact HI0.out | apply Zb.alloc | apply Zb.drewN | apply Zb.drew | apply Zb.Zad | refine Zb.far ?_ NB0_442.out _ | refine Zb.far ?_ NB0_443.out _ | refine Zb.far ?_ NB0_444.out _ | refine Zb.far ?_ NB0_445.out _ | refine Zb.far ?_ NB0_448.out _) | exact HI0.out))) : g ≠ gb449)); have n24_ := aM ((by rw [hg]; exact Nat.ne_of_gt (Zb.lt (show Zb w0 _ g s0_0 t447 from by repeat (first | (with_reducible first | exact HI0.out | apply Zb.alloc | apply Zb.drewN | apply Zb.drew | apply Zb.Zad | refine Zb.far ?_ NB0_442.out _ | refine Zb.far ?_ NB0_443.out _ | refine Zb.far ?_ NB0_444.out _ | refine Zb.far ?_ NB0_445.out _ | refine Zb.far ?_ NB0_448.out _) | exact HI0.out))) : gb449 ≠ g)); clear HO1_0 HO2_0 HI0 BK442 BK443 BK444 BK445 BK448 HK HB; have HO1_0 := n0_; have HO2_0 := n1_; have HI0 := n2_; have BK442 := n3_; have BK443 := n4_; have BK444 := n5_; have BK445 := n6_; have BK448 := n7_; have HK := n8_; have HB := n9_; have BK449 := n10_; have GW449 := n11_; have GE449 := n12_; have NB442_449 := n13_; have NB449_442 := n14_; have NB443_449 := n15_; have NB449_443 := n16_; have NB444_449 := n17_; have NB449_444 := n18_; have NB445_449 := n19_; have NB449_445 := n20_; have NB448_449 := n21_; have NB449_448 := n22_; have NB0_449 := n23_; have NB449_0 := n24_; clear n0_ n1_ n2_ n3_ n4_ n5_ n6_ n7_ n8_ n9_ n10_ n11_ n12_ n13_ n14_ n15_ n16_ n17_ n18_ n19_ n20_ n21_ n22_ n23_ n24_; clear hb hbox hg) | ((with_reducible refine Yf (f := 29) rfl ?_); refine Zap (some 25) rfl rfl Try.func29 (by kernel_rfl) rfl #[.pointer (some ⟨g, 0, none⟩), .int .i64 7] rfl (by (try simp only [Qi, Qj, Qk]); first | done | rfl | (simp only [Qe, Qd]; rfl)) ?_; (with_reducible refine (Zz.calls g s0_0 t447 7 t450 t451 w0 _ ?side1 ?side2 A11.out).mono ?_); (case side1 => repeat (first | (with_reducible first | exact HI0.out | apply Zb.alloc | apply Zb.drewN | apply Zb.drew | apply Zb.Zad | refine Zb.far ?_ NB0_442.out _ | refine Zb.far ?_ NB0_443.out _ | refine Zb.far ?_ NB0_444.out _ | refine Zb.far ?_ NB0_445.out _ | refine Zb.far ?_ NB0_448.out _ | refine Zb.far ?_ NB0_449.out _) | exact HI0.out)); (case side2 => repeat (first | (with_reducible first | exact HB.out | apply wA | apply wN | apply wD | refine Za ?_ (Zb.ge HI0.out) | refine Za ?_ GE442.out | refine Za ?_ GE443.out | refine Za ?_ GE444.out | refine Za ?_ GE445.out | refine Za ?_ GE448.out | refine Za ?_ GE449.out) | exact HB.out)); rintro e w15 ⟨rfl, hi, hb, hk⟩; refine ⟨_, rfl, ?_⟩; have n0_ := aM (Kd.Yd (Kd.Zdq (Kd.Yd (ok := fun k_ => ((((((((((P1_0_ k_ ∨ P2_0_ k_) ∨ w.heap.size ≤ k_)) ∧ k_ ≠ g) ∧ k_ ≠ gb442) ∧ k_ ≠ gb443) ∧ k_ ≠ gb444) ∧ k_ ≠ gb445) ∧ k_ ≠ gb448) ∧ k_ ≠ gb449)) (by (with_reducible repeat first | apply Kd.Zv | apply Kd.Zu | apply Kd.Z0); exact HO1_0.out) (fun k_ hk_ => (⟨hk_, hk_.1.1.1.1.1.1.2⟩ : _ ∧ k_ ≠ g))) hk (fun _ h => h.2)) (fun _ h => h.1)); have n1_ := aM (Kd.Yd (Kd.Zdq (Kd.Yd (ok := fun k_ => ((((((((((P1_0_ k_ ∨ P2_0_ k_) ∨ w.heap.size ≤ k_)) ∧ k_ ≠ g) ∧ k_ ≠ gb442) ∧ k_ ≠ gb443) ∧ k_ ≠ gb444) ∧ k_ ≠ gb445) ∧ k_ ≠ gb448) ∧ k_ ≠ gb449)) (by (with_reducible repeat first | apply Kd.Zv | apply Kd.Zu | apply Kd.Z0); exact HO2_0.out) (fun k_ hk_ => (⟨hk_, hk_.1.1.1.1.1.1.2⟩ : _ ∧ k_ ≠ g))) hk (fun _ h => h.2)) (fun _ h => h.1)); have n2_ := aM (Zn.blk hk (g' := gb442) (o := .cells #[.slice A1_0 l1_0.length c1_0] 24 (0, 0)) (by (with_reducible repeat first | apply bN | apply bD | apply bA); exact BK442.out) NB442_0.out (by simp)); have n3_ := aM (Zn.blk hk (g' := gb443) (o := .cells #[.slice A2_0 l2_0.length c2_0] 24 (0, 0)) (by (with_reducible repeat first | apply bN | apply bD | apply bA); exact BK443.out) NB443_0.out (by simp)); have n4_ := aM (Zn.blk hk (g' := gb444) (o := .cells #[.slice none 0 0] 24 (0, 0)) (by (with_reducible repeat first | apply bN | apply bD | apply bA); exact BK444.out) NB444_0.out (by simp)); have n5_ := aM (Zn.blk hk (g' := gb445) (o := .cells #[.slice none 0 0] 24 (0, 0)) (by (with_reducible repeat first | apply bN | apply bD | apply bA); exact BK445.out) NB445_0.out (by simp)); have n6_ := aM (Zn.blk hk (g' := gb448) (o := .cells #[.slice none 0 0] 24 (0, 0)) (by (with_reducible repeat first | apply bN | apply bD | apply bA); exact BK448.out) NB448_0.out (by simp)); have n7_ := aM (Zn.blk hk (g' := gb449) (o := .cells #[.slice none 0 0] 24 (0, 0)) (by (with_reducible repeat first | apply bN | apply bD | apply bA); exact BK449.out) NB449_0.out (by simp)); have n8_ := aM (Zn.trans (by repeat (first | (with_reducible first | exact HK.out | apply Zn.set_ | apply kN | apply kD | apply kA | refine kF ?_ GW442.out _ | refine kF ?_ GW443.out _ | refine kF ?_ GW444.out _ | refine kF ?_ GW445.out _ | refine kF ?_ GW448.out _ | refine kF ?_ GW449.out _) | exact HK.out)) hk (.inl rfl)); have n9_ := aM (hb); have n10_ := aM (hi); clear HO1_0 HO2_0 BK442 BK443 BK444 BK445 BK448 BK449 HK HB HI0; have HO1_0 := n0_; have HO2_0 := n1_; have BK442 := n2_; have BK443 := n3_; have BK444 := n4_; have BK445 := n5_; have BK448 := n6_; have BK449 := n7_; have HK := n8_; have HB := n9_; have HI0 := n10_; clear n0_ n1_ n2_ n3_ n4_ n5_ n6_ n7_ n8_ n9_ n10_; (try clear hb); (try clear hb2); (try clear hk); (try clear hi); (try clear hge_)))
 (try simp only [Act.put, Qa, Qb, Qc])
 go_cut [12, 13] (fun v12 v13 wc => ∃ (kq : Nat) (x12_11 : Int) (x13_11 : Int) (x1001_11 : Int) (x449000_11 : List (S48)) (x450000_11 : List (S48)) (u449000 : Value) (u450000 : Value), v12 = .int .i64 x12_11 ∧ v13 = .int .i64 x13_11 ∧ Zq (Zc.j1 kq x12_11 x13_11 s0_0 x1001_11 l1_0 l2_0 x449000_11 x450000_11 = some (r1, r2, r3, r4)) ∧ Zq (kq ≤ k) ∧ Zq (Kd.V k48 48 wc w.heap.size (fun k_ => ((P1_0_ k_ ∨ P2_0_ k_) ∨ w.heap.size ≤ k_) ∧ some k_ ≠ (u449000 : Value).ownBlock ∧ some k_ ≠ (u450000 : Value).ownBlock ∧ k_ ≠ gb442 ∧ k_ ≠ gb443 ∧ k_ ≠ gb444 ∧ k_ ≠ gb445 ∧ k_ ≠ gb448 ∧ k_ ≠ gb449 ∧ k_ ≠ g) (.slice A1_0 l1_0.length c1_0) l1_0) ∧ Zq (Kd.V k48 48 wc w.heap.size (fun k_ => ((P1_0_ k_ ∨ P2_0_ k_) ∨ w.heap.size ≤ k_) ∧ some k_ ≠ (u449000 : Value).ownBlock ∧ some k_ ≠ (u450000 : Value).ownBlock ∧ k_ ≠ gb442 ∧ k_ ≠ gb443 ∧ k_ ≠ gb444 ∧ k_ ≠ gb445 ∧ k_ ≠ gb448 ∧ k_ ≠ gb449 ∧ k_ ≠ g) (.slice A2_0 l2_0.length c2_0) l2_0) ∧ Zq (Kd.N k48 48 wc w.heap.size (fun k_ => ((P1_0_ k_ ∨ P2_0_ k_) ∨ w.heap.size ≤ k_) ∧ some k_ ≠ (u450000 : Value).ownBlock ∧ k_ ≠ gb442 ∧ k_ ≠ gb443 ∧ k_ ≠ gb444 ∧ k_ ≠ gb445 ∧ k_ ≠ gb448 ∧ k_ ≠ gb449 ∧ k_ ≠ g) u449000 x449000_11) ∧ Zq (Kd.N k48 48 wc w.heap.size (fun k_ => ((P1_0_ k_ ∨ P2_0_ k_) ∨ w.heap.size ≤ k_) ∧ some k_ ≠ (u449000 : Value).ownBlock ∧ k_ ≠ gb442 ∧ k_ ≠ gb443 ∧ k_ ≠ gb444 ∧ k_ ≠ gb445 ∧ k_ ≠ gb448 ∧ k_ ≠ gb449 ∧ k_ ≠ g) u450000 x450000_11) ∧ Zq (wc.heap[gb442]? = some (.cells #[(.slice A1_0 l1_0.length c1_0)] 24 (0, 0))) ∧ Zq (wc.heap[gb443]? = some (.cells #[(.slice A2_0 l2_0.length c2_0)] 24 (0, 0))) ∧ Zq (wc.heap[gb444]? = some (.cells #[(.slice none 0 0)] 24 (0, 0))) ∧ Zq (wc.heap[gb445]? = some (.cells #[(.slice none 0 0)] 24 (0, 0))) ∧ Zq (wc.heap[gb448]? = some (.cells #[u449000] 24 (0, 0))) ∧ Zq (wc.heap[gb449]? = some (.cells #[u450000] 24 (0, 0))) ∧ Zq (Zb w0 wc g s0_0 x1001_11) ∧ Zq (Zn w wc g none) ∧ Zq (Below w0.heap.size w0 wc))
 case first =>
  have H := HC12.out
  clear HC12
  have HC16 := aM H
  clear H
  go_upto_if 48 with (fail)
  go_cut [48] (fun v48 wc => ∃ (kq : Nat) (x48_15 : Bool), v48 = .bool x48_15 ∧ Zq (Zc.j0 kq (wrap64 (t446 - 1)) 0 0 t450 x48_15 s0_0 t451 l1_0 l2_0 = some (r1, r2, r3, r4)) ∧ Zq (kq ≤ k) ∧ Zq (Kd.V k48 48 wc w.heap.size (fun k_ => ((P1_0_ k_ ∨ P2_0_ k_) ∨ w.heap.size ≤ k_) ∧ k_ ≠ gb442 ∧ k_ ≠ gb443 ∧ k_ ≠ gb444 ∧ k_ ≠ gb445 ∧ k_ ≠ gb448 ∧ k_ ≠ gb449 ∧ k_ ≠ g) (.slice A1_0 l1_0.length c1_0) l1_0) ∧ Zq (Kd.V k48 48 wc w.heap.size (fun k_ => ((P1_0_ k_ ∨ P2_0_ k_) ∨ w.heap.size ≤ k_) ∧ k_ ≠ gb442 ∧ k_ ≠ gb443 ∧ k_ ≠ gb444 ∧ k_ ≠ gb445 ∧ k_ ≠ gb448 ∧ k_ ≠ gb449 ∧ k_ ≠ g) (.slice A2_0 l2_0.length c2_0) l2_0) ∧ Zq (wc.heap[gb442]? = some (.cells #[(.slice A1_0 l1_0.length c1_0)] 24 (0, 0))) ∧ Zq (wc.heap[gb443]? = some (.cells #[(.slice A2_0 l2_0.length c2_0)] 24 (0, 0))) ∧ Zq (wc.heap[gb444]? = some (.cells #[(.slice none 0 0)] 24 (0, 0))) ∧ Zq (wc.heap[gb445]? = some (.cells #[(.slice none 0 0)] 24 (0, 0))) ∧ Zq (wc.heap[gb448]? = some (.cells #[(.slice none 0 0)] 24 (0, 0))) ∧ Zq (wc.heap[gb449]? = some (.cells #[(.slice none 0 0)] 24 (0, 0))) ∧ Zq (Zb w0 wc g s0_0 t451) ∧ Zq (Zn w wc g none) ∧ Zq (Below w0.heap.size w0 wc))
  case first =>
   have H := HC16.out
   clear HC16
   by_cases c17 : t450 = 0
   ·rw [if_pos c17] at H
    have c17b0 : (t450 == 0) = true := beq_iff_eq.mpr c17
    have c17b1 : (t450 != 0) = false := bne_eq_false_iff_eq.mpr c17
    clear c17
    (first | rw [c17b0] | (simp only [Z5, Z6]; rw [c17b0]) | skip)
    have H' := aM H
    clear H
    go_wp2
    go_meet
    case rel => exact ⟨_, ((t450 == 0)), (by first | rfl | (simp; done) | (simp [*]; done)), H', ⟨by first | omega | exact Nat.le_refl _⟩, ⟨by (with_reducible repeat first | apply Kd.Zv | apply Kd.Zu | apply Kd.Z0); exact Kd.Yd HO1_0.out (fun _ hk => ⟨hk.1.1.1.1.1.1.1, ⟨hk.1.1.1.1.1.2, ⟨hk.1.1.1.1.2, ⟨hk.1.1.1.2, ⟨hk.1.1.2, ⟨hk.1.2, ⟨hk.2, hk.1.1.1.1.1.1.2⟩⟩⟩⟩⟩⟩⟩)⟩, ⟨by (with_reducible repeat first | apply Kd.Zv | apply Kd.Zu | apply Kd.Z0); exact Kd.Yd HO2_0.out (fun _ hk => ⟨hk.1.1.1.1.1.1.1, ⟨hk.1.1.1.1.1.2, ⟨hk.1.1.1.1.2, ⟨hk.1.1.1.2, ⟨hk.1.1.2, ⟨hk.1.2, ⟨hk.2, hk.1.1.1.1.1.1.2⟩⟩⟩⟩⟩⟩⟩)⟩, ⟨by (with_reducible repeat first | apply bN | apply bD | apply bA); exact BK442.out⟩, ⟨by (with_reducible repeat first | apply bN | apply bD | apply bA); exact BK443.out⟩, ⟨by (with_reducible repeat first | apply bN | apply bD | apply bA); exact BK444.out⟩, ⟨by (with_reducible repeat first | apply bN | apply bD | apply bA); exact BK445.out⟩, ⟨by (with_reducible repeat first | apply bN | apply bD | apply bA); exact BK448.out⟩, ⟨by (with_reducible repeat first | apply bN | apply bD | apply bA); exact BK449.out⟩, ⟨by repeat (first | (with_reducible first | exact HI0.out | apply Zb.alloc | apply Zb.drewN | apply Zb.drew | apply Zb.Zad | refine Zb.far ?_ NB0_442.out _ | refine Zb.far ?_ NB0_443.out _ | refine Zb.far ?_ NB0_444.out _ | refine Zb.far ?_ NB0_445.out _ | refine Zb.far ?_ NB0_448.out _ | refine Zb.far ?_ NB0_449.out _) | exact HI0.out)⟩, ⟨by repeat (first | (with_reducible first | exact HK.out | apply Zn.set_ | apply kN | apply kD | apply kA | refine kF ?_ GW442.out _ | refine kF ?_ GW443.out _ | refine kF ?_ GW444.out _ | refine kF ?_ GW445.out _ | refine kF ?_ GW448.out _ | refine kF ?_ GW449.out _) | exact HK.out)⟩, ⟨by repeat (first | (with_reducible first | exact HB.out | apply wA | apply wN | apply wD | refine Za ?_ (Zb.ge HI0.out) | refine Za ?_ GE442.out | refine Za ?_ GE443.out | refine Za ?_ GE444.out | refine Za ?_ GE445.out | refine Za ?_ GE448.out | refine Za ?_ GE449.out) | exact HB.out)⟩⟩
   ·rw [if_neg c17] at H
    have c17b0 : (t450 == 0) = false := beq_eq_false_iff_ne.mpr c17
    have c17b1 : (t450 != 0) = true := bne_iff_ne.mpr c17
    (first | rw [c17b0] | (simp only [Z5, Z6]; rw [c17b0]) | skip)
    by_cases c18 : t450 = 1
    ·rw [if_pos c18] at H
     have c18b0 : (t450 == 1) = true := beq_iff_eq.mpr c18
     have c18b1 : (t450 != 1) = false := bne_eq_false_iff_eq.mpr c18
     clear c18
     have H' := aM H
     clear H
     go_wp2
     go_meet
     case rel => exact ⟨_, ((t450 == 1)), (by first | rfl | (simp; done) | (simp [*]; done)), H', ⟨by first | omega | exact Nat.le_refl _⟩, ⟨by (with_reducible repeat first | apply Kd.Zv | apply Kd.Zu | apply Kd.Z0); exact Kd.Yd HO1_0.out (fun _ hk => ⟨hk.1.1.1.1.1.1.1, ⟨hk.1.1.1.1.1.2, ⟨hk.1.1.1.1.2, ⟨hk.1.1.1.2, ⟨hk.1.1.2, ⟨hk.1.2, ⟨hk.2, hk.1.1.1.1.1.1.2⟩⟩⟩⟩⟩⟩⟩)⟩, ⟨by (with_reducible repeat first | apply Kd.Zv | apply Kd.Zu | apply Kd.Z0); exact Kd.Yd HO2_0.out (fun _ hk => ⟨hk.1.1.1.1.1.1.1, ⟨hk.1.1.1.1.1.2, ⟨hk.1.1.1.1.2, ⟨hk.1.1.1.2, ⟨hk.1.1.2, ⟨hk.1.2, ⟨hk.2, hk.1.1.1.1.1.1.2⟩⟩⟩⟩⟩⟩⟩)⟩, ⟨by (with_reducible repeat first | apply bN | apply bD | apply bA); exact BK442.out⟩, ⟨by (with_reducible repeat first | apply bN | apply bD | apply bA); exact BK443.out⟩, ⟨by (with_reducible repeat first | apply bN | apply bD | apply bA); exact BK444.out⟩, ⟨by (with_reducible repeat first | apply bN | apply bD | apply bA); exact BK445.out⟩, ⟨by (with_reducible repeat first | apply bN | apply bD | apply bA); exact BK448.out⟩, ⟨by (with_reducible repeat first | apply bN | apply bD | apply bA); exact BK449.out⟩, ⟨by repeat (first | (with_reducible first | exact HI0.out | apply Zb.alloc | apply Zb.drewN | apply Zb.drew | apply Zb.Zad | refine Zb.far ?_ NB0_442.out _ | refine Zb.far ?_ NB0_443.out _ | refine Zb.far ?_ NB0_444.out _ | refine Zb.far ?_ NB0_445.out _ | refine Zb.far ?_ NB0_448.out _ | refine Zb.far ?_ NB0_449.out _) | exact HI0.out)⟩, ⟨by repeat (first | (with_reducible first | exact HK.out | apply Zn.set_ | apply kN | apply kD | apply kA | refine kF ?_ GW442.out _ | refine kF ?_ GW443.out _ | refine kF ?_ GW444.out _ | refine kF ?_ GW445.out _ | refine kF ?_ GW448.out _ | refine kF ?_ GW449.out _) | exact HK.out)⟩, ⟨by repeat (first | (with_reducible first | exact HB.out | apply wA | apply wN | apply wD | refine Za ?_ (Zb.ge HI0.out) | refine Za ?_ GE442.out | refine Za ?_ GE443.out | refine Za ?_ GE444.out | refine Za ?_ GE445.out | refine Za ?_ GE448.out | refine Za ?_ GE449.out) | exact HB.out)⟩⟩
    ·rw [if_neg c18] at H
     have c18b0 : (t450 == 1) = false := beq_eq_false_iff_ne.mpr c18
     have c18b1 : (t450 != 1) = true := bne_iff_ne.mpr c18
     have H' := aM H
     clear H
     go_wp2
     go_meet
     case rel => exact ⟨_, ((t450 == 2)), (by first | rfl | (simp; done) | (simp [*]; done)), H', ⟨by first | omega | exact Nat.le_refl _⟩, ⟨by (with_reducible repeat first | apply Kd.Zv | apply Kd.Zu | apply Kd.Z0); exact Kd.Yd HO1_0.out (fun _ hk => ⟨hk.1.1.1.1.1.1.1, ⟨hk.1.1.1.1.1.2, ⟨hk.1.1.1.1.2, ⟨hk.1.1.1.2, ⟨hk.1.1.2, ⟨hk.1.2, ⟨hk.2, hk.1.1.1.1.1.1.2⟩⟩⟩⟩⟩⟩⟩)⟩, ⟨by (with_reducible repeat first | apply Kd.Zv | apply Kd.Zu | apply Kd.Z0); exact Kd.Yd HO2_0.out (fun _ hk => ⟨hk.1.1.1.1.1.1.1, ⟨hk.1.1.1.1.1.2, ⟨hk.1.1.1.1.2, ⟨hk.1.1.1.2, ⟨hk.1.1.2, ⟨hk.1.2, ⟨hk.2, hk.1.1.1.1.1.1.2⟩⟩⟩⟩⟩⟩⟩)⟩, ⟨by (with_reducible repeat first | apply bN | apply bD | apply bA); exact BK442.out⟩, ⟨by (with_reducible repeat first | apply bN | apply bD | apply bA); exact BK443.out⟩, ⟨by (with_reducible repeat first | apply bN | apply bD | apply bA); exact BK444.out⟩, ⟨by (with_reducible repeat first | apply bN | apply bD | apply bA); exact BK445.out⟩, ⟨by (with_reducible repeat first | apply bN | apply bD | apply bA); exact BK448.out⟩, ⟨by (with_reducible repeat first | apply bN | apply bD | apply bA); exact BK449.out⟩, ⟨by repeat (first | (with_reducible first | exact HI0.out | apply Zb.alloc | apply Zb.drewN | apply Zb.drew | apply Zb.Zad | refine Zb.far ?_ NB0_442.out _ | refine Zb.far ?_ NB0_443.out _ | refine Zb.far ?_ NB0_444.out _ | refine Zb.far ?_ NB0_445.out _ | refine Zb.far ?_ NB0_448.out _ | refine Zb.far ?_ NB0_449.out _) | exact HI0.out)⟩, ⟨by repeat (first | (with_reducible first | exact HK.out | apply Zn.set_ | apply kN | apply kD | apply kA | refine kF ?_ GW442.out _ | refine kF ?_ GW443.out _ | refine kF ?_ GW444.out _ | refine kF ?_ GW445.out _ | refine kF ?_ GW448.out _ | refine kF ?_ GW449.out _) | exact HK.out)⟩, ⟨by repeat (first | (with_reducible first | exact HB.out | apply wA | apply wN | apply wD | refine Za ?_ (Zb.ge HI0.out) | refine Za ?_ GE442.out | refine Za ?_ GE443.out | refine Za ?_ GE444.out | refine Za ?_ GE445.out | refine Za ?_ GE448.out | refine Za ?_ GE449.out) | exact HB.out)⟩⟩
  case rest =>
   clear HC16
   try clear c1
   try clear c2
   try clear p2
   try clear p6
   try clear c17
   try clear c17b0
   try clear c17b1
   try clear c18
   try clear c18b0
   try clear c18b1
   obtain ⟨kq, x48_15, rfl, HA, HJ15, J443, J444, BK442, BK443, BK444, BK445, BK448, BK449, HI0, HK, HB⟩ := hcut
   cases kq with
   | zero => exact absurd HA.out (by simp [Zc.j0])
   | succ kj15 =>
    have H := HA.out
    clear HA
    simp only [Zc.j0] at H
    by_cases c19 : x48_15 = true
    ·subst c19
     have H1 : ((Zp.f kj15 s0_0 t451 40).bind fun bt452 => ((Y2.f kj15 l1_0 (wrap64 (t446 - 1)) bt452.1).bind fun bt456 => ((Zaj.f l2_0 (wrap64 (t446 - 1)) bt452.1).bind fun bt460 => (Zc.j1 kj15 bt456.2 bt460.2 s0_0 bt452.2 l1_0 l2_0 bt456.1 bt460.1)))) = some (r1, r2, r3, r4) := by rw [if_pos rfl] at H; exact H
     clear H
     have H := H1
     clear H1
     replace H := Option.bind_eq_some_iff.mp H
     obtain ⟨⟨t452, t455⟩, A200, H⟩ := H
     replace H : ((Y2.f kj15 l1_0 (wrap64 (t446 - 1)) t452).bind fun bt456 => ((Zaj.f l2_0 (wrap64 (t446 - 1)) t452).bind fun bt460 => (Zc.j1 kj15 bt456.2 bt460.2 s0_0 t455 l1_0 l2_0 bt456.1 bt460.1))) = some (r1, r2, r3, r4) := H
     have A20 := aM A200
     clear A200
     have HC21 := aM H
     clear H
     go_upto_region 12 with (first | ((with_reducible refine Yf (f := 23) rfl ?_); refine Zap (some 53) rfl rfl Try.func23 (by kernel_rfl) rfl #[.pointer (some ⟨g, 0, none⟩), .int .i64 40] rfl (by (try simp only [Qi, Qj, Qk]); first | done | rfl | (simp only [Qe, Qd]; rfl)) ?_; (with_reducible refine (Zp.calls kj15 g s0_0 t451 40 t452 t455 w0 _ ?side1 ?side2 A20.out).mono ?_); (case side1 => repeat (first | (with_reducible first | exact HI0.out | apply Zb.alloc | apply Zb.drewN | apply Zb.drew | apply Zb.Zad | refine Zb.far ?_ NB0_442.out _ | refine Zb.far ?_ NB0_443.out _ | refine Zb.far ?_ NB0_444.out _ | refine Zb.far ?_ NB0_445.out _ | refine Zb.far ?_ NB0_448.out _ | refine Zb.far ?_ NB0_449.out _) | exact HI0.out)); (case side2 => repeat (first | (with_reducible first | exact HB.out | apply wA | apply wN | apply wD | refine Za ?_ (Zb.ge HI0.out) | refine Za ?_ GE442.out | refine Za ?_ GE443.out | refine Za ?_ GE444.out | refine Za ?_ GE445.out | refine Za ?_ GE448.out | refine Za ?_ GE449.out) | exact HB.out)); rintro e w22 ⟨v453, rfl, ho0, hi, hb, hk⟩; refine ⟨_, rfl, ?_⟩; have n0_ := aM (Kd.Yd (Kd.Zfk (Kd.Zfl (Kd.Yd (ok := fun k_ => ((((P1_0_ k_ ∨ P2_0_ k_) ∨ w.heap.size ≤ k_)) ∧ (k_ ≠ gb442 ∧ (k_ ≠ gb443 ∧ (k_ ≠ gb444 ∧ (k_ ≠ gb445 ∧ (k_ ≠ gb448 ∧ (k_ ≠ gb449 ∧ k_ ≠ g)))))))) (by (with_reducible repeat first | apply Kd.Zv | apply Kd.Zu | apply Kd.Z0); exact J443.out) (fun k_ hk_ => (⟨hk_, hk_.2.2.2.2.2.2.2⟩ : _ ∧ k_ ≠ g))) hk) (Kd.Zbg ho0)) (fun _ h_ => h_.1)); have n1_ := aM (Kd.Yd (Kd.Zfk (Kd.Zfl (Kd.Yd (ok := fun k_ => ((((P1_0_ k_ ∨ P2_0_ k_) ∨ w.heap.size ≤ k_)) ∧ (k_ ≠ gb442 ∧ (k_ ≠ gb443 ∧ (k_ ≠ gb444 ∧ (k_ ≠ gb445 ∧ (k_ ≠ gb448 ∧ (k_ ≠ gb449 ∧ k_ ≠ g)))))))) (by (with_reducible repeat first | apply Kd.Zv | apply Kd.Zu | apply Kd.Z0); exact J444.out) (fun k_ hk_ => (⟨hk_, hk_.2.2.2.2.2.2.2⟩ : _ ∧ k_ ≠ g))) hk) (Kd.Zbg ho0)) (fun _ h_ => h_.1)); have n2_ := aM (Zn.blk hk (g' := gb442) (o := .cells #[.slice A1_0 l1_0.length c1_0] 24 (0, 0)) (by (with_reducible repeat first | apply bN | apply bD | apply bA); exact BK442.out) NB442_0.out (by simp)); have n3_ := aM (Zn.blk hk (g' := gb443) (o := .cells #[.slice A2_0 l2_0.length c2_0] 24 (0, 0)) (by (with_reducible repeat first | apply bN | apply bD | apply bA); exact BK443.out) NB443_0.out (by simp)); have n4_ := aM (Zn.blk hk (g' := gb444) (o := .cells #[.slice none 0 0] 24 (0, 0)) (by (with_reducible repeat first | apply bN | apply bD | apply bA); exact BK444.out) NB444_0.out (by simp)); have n5_ := aM (Zn.blk hk (g' := gb445) (o := .cells #[.slice none 0 0] 24 (0, 0)) (by (with_reducible repeat first | apply bN | apply bD | apply bA); exact BK445.out) NB445_0.out (by simp)); have n6_ := aM (Zn.blk hk (g' := gb448) (o := .cells #[.slice none 0 0] 24 (0, 0)) (by (with_reducible repeat first | apply bN | apply bD | apply bA); exact BK448.out) NB448_0.out (by simp)); have n7_ := aM (Zn.blk hk (g' := gb449) (o := .cells #[.slice none 0 0] 24 (0, 0)) (by (with_reducible repeat first | apply bN | apply bD | apply bA); exact BK449.out) NB449_0.out (by simp)); have n8_ := aM (Kd.Zb1 (Kd.Ze5 (M := fun k_ => (w.heap.size ≤ k_)) ho0 (Y7 (w := w) (g := g) (row := none) (by repeat (first | (with_reducible first | exact HK.out | apply Zn.set_ | apply kN | apply kD | apply kA | refine kF ?_ GW442.out _ | refine kF ?_ GW443.out _ | refine kF ?_ GW444.out _ | refine kF ?_ GW445.out _ | refine kF ?_ GW448.out _ | refine kF ?_ GW449.out _) | exact HK.out))) (fun k_ h_ => h_)) (Y7 (w := w) (g := g) (row := none) (by repeat (first | (with_reducible first | exact HK.out | apply Zn.set_ | apply kN | apply kD | apply kA | refine kF ?_ GW442.out _ | refine kF ?_ GW443.out _ | refine kF ?_ GW444.out _ | refine kF ?_ GW445.out _ | refine kF ?_ GW448.out _ | refine kF ?_ GW449.out _) | exact HK.out)))); have n9_ := aM (Zn.trans (by repeat (first | (with_reducible first | exact HK.out | apply Zn.set_ | apply kN | apply kD | apply kA | refine kF ?_ GW442.out _ | refine kF ?_ GW443.out _ | refine kF ?_ GW444.out _ | refine kF ?_ GW445.out _ | refine kF ?_ GW448.out _ | refine kF ?_ GW449.out _) | exact HK.out)) hk (.inl rfl)); have n10_ := aM (hb); have n11_ := aM (hi); clear J443 J444 BK442 BK443 BK444 BK445 BK448 BK449 HK HB HI0; have J443 := n0_; have J444 := n1_; have BK442 := n2_; have BK443 := n3_; have BK444 := n4_; have BK445 := n5_; have BK448 := n6_; have BK449 := n7_; have HO454 := n8_; have HK := n9_; have HB := n10_; have HI0 := n11_; clear n0_ n1_ n2_ n3_ n4_ n5_ n6_ n7_ n8_ n9_ n10_ n11_; (try clear hb); (try clear hb2); (try clear hk); (try clear hi); (try clear hge_); (try clear ho0)))
     (try simp only [Act.put, Qa, Qb, Qc])
     have H := HC21.out
     clear HC21
     replace H := Option.bind_eq_some_iff.mp H
     obtain ⟨⟨t456, t459⟩, A230, H⟩ := H
     replace H : ((Zaj.f l2_0 (wrap64 (t446 - 1)) t452).bind fun bt460 => (Zc.j1 kj15 t459 bt460.2 s0_0 t455 l1_0 l2_0 t456 bt460.1)) = some (r1, r2, r3, r4) := H
     have A23 := aM A230
     clear A230
     have HC24 := aM H
     clear H
     have hnb25 := NB442_443.out
     have hnc25 := NB443_442.out
     have hnb26 := NB442_444.out
     have hnc26 := NB444_442.out
     have hnb27 := NB442_445.out
     have hnc27 := NB445_442.out
     have hnb28 := NB442_448.out
     have hnc28 := NB448_442.out
     have hnb29 := NB442_449.out
     have hnc29 := NB449_442.out
     have hnb30 := NB442_0.out
     have hnc30 := NB0_442.out
     have hcz31_0 : w22.cell? ⟨gb442, 0, none⟩ = some (.slice A1_0 l1_0.length c1_0) := (Ze BK442.out 0).trans rfl
     have hfz31_0 := Zg BK442.out 0
     obtain ⟨Ao32, co32, eo32⟩ := Kd.Za2 HO454.out
     subst eo32
     go_upto_region 13 with (first | ((with_reducible refine Yf (f := 14) rfl ?_); refine Zap (some 58) rfl rfl Try.func14 (by kernel_rfl) rfl #[.agg #[.slice A1_0 l1_0.length c1_0], .int .i64 (wrap64 (t446 - 1)), .slice Ao32 t452.length co32] rfl (by (try simp only [Qi, Qj, Qk]); first | done | rfl | (simp only [Qe, Qd]; rfl)) ?_; (with_reducible refine (Y2.calls kj15 _ _ l1_0 (wrap64 (t446 - 1)) _ _ t452 t456 t459 _ ?side1 ?side2 ?side3 ?side4 A23.out).mono ?_); (case side1 => repeat (first | exact (Kd.Zae J443.out).2.2 | (with_reducible refine Kd.Yh ?_ _) | (with_reducible refine Kd.Yg ?_ _) | (with_reducible refine Kd.Yw ?_))); (case side2 => exact (Kd.Zae J443.out).2.1); (case side3 => repeat (first | exact (Kd.Zah HO454.out).2.2 | (with_reducible refine Kd.Yh ?_ _) | (with_reducible refine Kd.Yg ?_ _) | (with_reducible refine Kd.Yw ?_))); (case side4 => exact (Kd.Zah HO454.out).2.1); rintro e w33 ⟨v457, rfl, ho0, hb⟩; refine ⟨_, rfl, ?_⟩; have n0_ := aM (Kd.Zag (by (with_reducible repeat first | apply Kd.Zv | apply Kd.Zu | apply Kd.Z0); exact J443.out) (by first | exact Kd.Y1 ho0 | exact Kd.Y1 (Kd.S_N ho0)) hb); have n1_ := aM (Kd.Zag (by (with_reducible repeat first | apply Kd.Zv | apply Kd.Zu | apply Kd.Z0); exact J444.out) (by first | exact Kd.Y1 ho0 | exact Kd.Y1 (Kd.S_N ho0)) hb); have n2_ := aM (Kd.Zci (by (with_reducible repeat first | apply Kd.Zab | apply Kd.Yu | apply Kd.Zai); exact HO454.out) hb); have n3_ := aM (Kd.Zbr (Kd.Yr (ok' := fun k_ => ((P1_0_ k_ ∨ P2_0_ k_) ∨ w.heap.size ≤ k_) ∧ some k_ ≠ (.slice Ao32 t452.length co32 : Value).ownBlock ∧ k_ ≠ gb442 ∧ k_ ≠ gb443 ∧ k_ ≠ gb444 ∧ k_ ≠ gb445 ∧ k_ ≠ gb448 ∧ k_ ≠ gb449 ∧ k_ ≠ g) (Kd.S_N (Kd.Zcb ho0)) (fun k_ hk_ => ⟨(.inr (Nat.le_trans (Y7 (w := w) (g := g) (row := none) (by repeat (first | (with_reducible first | exact HK.out | apply Zn.set_ | apply kN | apply kD | apply kA | refine kF ?_ GW442.out _ | refine kF ?_ GW443.out _ | refine kF ?_ GW444.out _ | refine kF ?_ GW445.out _ | refine kF ?_ GW448.out _ | refine kF ?_ GW449.out _) | exact HK.out))) hk_.2.1)), (Kd.fresh' (Kd.R_lt (by (with_reducible repeat first | apply Kd.Zab | apply Kd.Yu | apply Kd.Zai); exact HO454.out)) k_ hk_.2.1), (Kd.Y6 (g := gb442) (o := .cells #[.slice A1_0 l1_0.length c1_0] 24 (0, 0)) (by (with_reducible repeat first | apply bN | apply bD | apply bA); exact BK442.out) k_ hk_.2.1), (Kd.Y6 (g := gb443) (o := .cells #[.slice A2_0 l2_0.length c2_0] 24 (0, 0)) (by (with_reducible repeat first | apply bN | apply bD | apply bA); exact BK443.out) k_ hk_.2.1), (Kd.Y6 (g := gb444) (o := .cells #[.slice none 0 0] 24 (0, 0)) (by (with_reducible repeat first | apply bN | apply bD | apply bA); exact BK444.out) k_ hk_.2.1), (Kd.Y6 (g := gb445) (o := .cells #[.slice none 0 0] 24 (0, 0)) (by (with_reducible repeat first | apply bN | apply bD | apply bA); exact BK445.out) k_ hk_.2.1), (Kd.Y6 (g := gb448) (o := .cells #[.slice none 0 0] 24 (0, 0)) (by (with_reducible repeat first | apply bN | apply bD | apply bA); exact BK448.out) k_ hk_.2.1), (Kd.Y6 (g := gb449) (o := .cells #[.slice none 0 0] 24 (0, 0)) (by (with_reducible repeat first | apply bN | apply bD | apply bA); exact BK449.out) k_ hk_.2.1), (Zb.fresh (by repeat (first | (with_reducible first | exact HI0.out | apply Zb.alloc | apply Zb.drewN | apply Zb.drew | apply Zb.Zad | refine Zb.far ?_ NB0_442.out _ | refine Zb.far ?_ NB0_443.out _ | refine Zb.far ?_ NB0_444.out _ | refine Zb.far ?_ NB0_445.out _ | refine Zb.far ?_ NB0_448.out _ | refine Zb.far ?_ NB0_449.out _) | exact HI0.out)) k_ hk_.2.1)⟩)) (Y7 (w := w) (g := g) (row := none) (by repeat (first | (with_reducible first | exact HK.out | apply Zn.set_ | apply kN | apply kD | apply kA | refine kF ?_ GW442.out _ | refine kF ?_ GW443.out _ | refine kF ?_ GW444.out _ | refine kF ?_ GW445.out _ | refine kF ?_ GW448.out _ | refine kF ?_ GW449.out _) | exact HK.out)))); have n4_ := aM (Zf (g := gb442) (o := .cells #[.slice A1_0 l1_0.length c1_0] 24 (0, 0)) (by (with_reducible repeat first | apply bN | apply bD | apply bA); exact BK442.out) hb); have n5_ := aM (Zf (g := gb443) (o := .cells #[.slice A2_0 l2_0.length c2_0] 24 (0, 0)) (by (with_reducible repeat first | apply bN | apply bD | apply bA); exact BK443.out) hb); have n6_ := aM (Zf (g := gb444) (o := .cells #[.slice none 0 0] 24 (0, 0)) (by (with_reducible repeat first | apply bN | apply bD | apply bA); exact BK444.out) hb); have n7_ := aM (Zf (g := gb445) (o := .cells #[.slice none 0 0] 24 (0, 0)) (by (with_reducible repeat first | apply bN | apply bD | apply bA); exact BK445.out) hb); have n8_ := aM (Zf (g := gb448) (o := .cells #[.slice none 0 0] 24 (0, 0)) (by (with_reducible repeat first | apply bN | apply bD | apply bA); exact BK448.out) hb); have n9_ := aM (Zf (g := gb449) (o := .cells #[.slice none 0 0] 24 (0, 0)) (by (with_reducible repeat first | apply bN | apply bD | apply bA); exact BK449.out) hb); have n10_ := aM (Zb.below (by repeat (first | (with_reducible first | exact HI0.out | apply Zb.alloc | apply Zb.drewN | apply Zb.drew | apply Zb.Zad | refine Zb.far ?_ NB0_442.out _ | refine Zb.far ?_ NB0_443.out _ | refine Zb.far ?_ NB0_444.out _ | refine Zb.far ?_ NB0_445.out _ | refine Zb.far ?_ NB0_448.out _ | refine Zb.far ?_ NB0_449.out _) | exact HI0.out)) hb); have n11_ := aM (Zn.trans (by repeat (first | (with_reducible first | exact HK.out | apply Zn.set_ | apply kN | apply kD | apply kA | refine kF ?_ GW442.out _ | refine kF ?_ GW443.out _ | refine kF ?_ GW444.out _ | refine kF ?_ GW445.out _ | refine kF ?_ GW448.out _ | refine kF ?_ GW449.out _) | exact HK.out)) (Zn.of_below hb g none) (.inl rfl)); have n12_ := aM (Zj (by repeat (first | (with_reducible first | exact HB.out | apply wA | apply wN | apply wD | refine Za ?_ (Zb.ge HI0.out) | refine Za ?_ GE442.out | refine Za ?_ GE443.out | refine Za ?_ GE444.out | refine Za ?_ GE445.out | refine Za ?_ GE448.out | refine Za ?_ GE449.out) | exact HB.out)) hb); clear J443 J444 HO454 BK442 BK443 BK444 BK445 BK448 BK449 HI0 HK HB; have J443 := n0_; have J444 := n1_; have HO454 := n2_; have HO458 := n3_; have BK442 := n4_; have BK443 := n5_; have BK444 := n6_; have BK445 := n7_; have BK448 := n8_; have BK449 := n9_; have HI0 := n10_; have HK := n11_; have HB := n12_; clear n0_ n1_ n2_ n3_ n4_ n5_ n6_ n7_ n8_ n9_ n10_ n11_ n12_; (try clear hb); (try clear hb2); (try clear hk); (try clear hi); (try clear hge_); (try clear ho0); obtain ⟨Ao34, co34, eo34⟩ := Kd.Zbj HO458.out; subst eo34; have hnb35 := NB448_443.out; have hnc35 := NB443_448.out; have hnb36 := NB448_444.out; have hnc36 := NB444_448.out; have hnb37 := NB448_445.out; have hnc37 := NB445_448.out; have hnb38 := NB448_449.out; have hnc38 := NB449_448.out; have hnb39 := NB448_0.out; have hnc39 := NB0_448.out; have hcz40_0 : w33.cell? ⟨gb448, 0, none⟩ = some (.slice none 0 0) := (Ze BK448.out 0).trans rfl; have hfz40_0 := Zg BK448.out 0) | ((with_reducible refine Zbm (t := 24) (p := 10) rfl ?_); refine Zbh (t := 24) (p := 10) (v := ?vo_w41) (w1 := (w33.setCell ⟨gb448, 0, none⟩ (.slice Ao34 t456.length co34))) ?hg ?ho ?hn ?hr ?_; (case ho => rfl); (case hg => rfl); (case hn => rfl); (case hr => first | (go_simp; done) | (go_simp; rfl)); intro w41 hw; have n0_ : Zq (Kd.V k48 48 w41 w.heap.size (fun k_ => ((P1_0_ k_ ∨ P2_0_ k_) ∨ w.heap.size ≤ k_) ∧ some k_ ≠ (.slice Ao32 t452.length co32 : Value).ownBlock ∧ some k_ ≠ (.slice Ao34 t456.length co34 : Value).ownBlock ∧ k_ ≠ gb442 ∧ k_ ≠ gb443 ∧ k_ ≠ gb444 ∧ k_ ≠ gb445 ∧ k_ ≠ gb448 ∧ k_ ≠ gb449 ∧ k_ ≠ g) (.slice A1_0 l1_0.length c1_0) l1_0) := ⟨(by rw [hw]; exact (by (with_reducible repeat first | apply Kd.Zv | apply Kd.Zu | apply Kd.Z0); exact Kd.Yd (Kd.Zbi (p := ⟨gb448, 0, none⟩) (Kd.Yd J443.out (fun k_ hk => (⟨hk, hk.1.1.2.2.2.2.2.1⟩ : _ ∧ k_ ≠ gb448))) (fun _ hk => hk.2) (.slice Ao34 t456.length co34)) (fun _ hk => ⟨hk.1.1.1.1, ⟨hk.1.1.2, ⟨hk.1.2, ⟨hk.1.1.1.2.1, ⟨hk.1.1.1.2.2.1, ⟨hk.1.1.1.2.2.2.1, ⟨hk.1.1.1.2.2.2.2.1, ⟨hk.1.1.1.2.2.2.2.2.1, ⟨hk.1.1.1.2.2.2.2.2.2.1, hk.1.1.1.2.2.2.2.2.2.2⟩⟩⟩⟩⟩⟩⟩⟩⟩)))⟩; have n1_ : Zq (Kd.V k48 48 w41 w.heap.size (fun k_ => ((P1_0_ k_ ∨ P2_0_ k_) ∨ w.heap.size ≤ k_) ∧ some k_ ≠ (.slice Ao32 t452.length co32 : Value).ownBlock ∧ some k_ ≠ (.slice Ao34 t456.length co34 : Value).ownBlock ∧ k_ ≠ gb442 ∧ k_ ≠ gb443 ∧ k_ ≠ gb444 ∧ k_ ≠ gb445 ∧ k_ ≠ gb448 ∧ k_ ≠ gb449 ∧ k_ ≠ g) (.slice A2_0 l2_0.length c2_0) l2_0) := ⟨(by rw [hw]; exact (by (with_reducible repeat first | apply Kd.Zv | apply Kd.Zu | apply Kd.Z0); exact Kd.Yd (Kd.Zbi (p := ⟨gb448, 0, none⟩) (Kd.Yd J444.out (fun k_ hk => (⟨hk, hk.1.1.2.2.2.2.2.1⟩ : _ ∧ k_ ≠ gb448))) (fun _ hk => hk.2) (.slice Ao34 t456.length co34)) (fun _ hk => ⟨hk.1.1.1.1, ⟨hk.1.1.2, ⟨hk.1.2, ⟨hk.1.1.1.2.1, ⟨hk.1.1.1.2.2.1, ⟨hk.1.1.1.2.2.2.1, ⟨hk.1.1.1.2.2.2.2.1, ⟨hk.1.1.1.2.2.2.2.2.1, ⟨hk.1.1.1.2.2.2.2.2.2.1, hk.1.1.1.2.2.2.2.2.2.2⟩⟩⟩⟩⟩⟩⟩⟩⟩)))⟩; have n2_ : Zq (Kd.R (Kd.int .u8) 5 w41 w.heap.size (fun k_ => (w.heap.size ≤ k_)) (.slice Ao32 t452.length co32) t452) := ⟨(by rw [hw]; exact (by (with_reducible repeat first | apply Kd.Zab | apply Kd.Yu | apply Kd.Zai); exact Kd.Zar (Kd.R_far (p := ⟨gb448, 0, none⟩) (Kd.Zaf HO454.out BK448.out (by decide)) (fun _ hk => hk.2) (.slice Ao34 t456.length co34)) (fun _ hk => hk.1.1)))⟩; have n3_ : Zq (Kd.N k48 48 w41 w.heap.size (fun k_ => ((P1_0_ k_ ∨ P2_0_ k_) ∨ w.heap.size ≤ k_) ∧ some k_ ≠ (.slice Ao32 t452.length co32 : Value).ownBlock ∧ k_ ≠ gb442 ∧ k_ ≠ gb443 ∧ k_ ≠ gb444 ∧ k_ ≠ gb445 ∧ k_ ≠ gb448 ∧ k_ ≠ gb449 ∧ k_ ≠ g) (.slice Ao34 t456.length co34) t456) := ⟨(by rw [hw]; exact (by (with_reducible repeat first | apply Kd.Ym | apply Kd.Yl | apply Kd.Yy); exact Kd.Yr (Kd.Zby (p := ⟨gb448, 0, none⟩) (Kd.Yr HO458.out (fun k_ hk => (⟨hk, hk.2.2.2.2.2.2.1⟩ : _ ∧ k_ ≠ gb448))) (fun _ hk => hk.2) (.slice Ao34 t456.length co34)) (fun _ hk => ⟨hk.1.1, ⟨hk.1.2.1, ⟨hk.1.2.2.1, ⟨hk.1.2.2.2.1, ⟨hk.1.2.2.2.2.1, ⟨hk.1.2.2.2.2.2.1, ⟨hk.1.2.2.2.2.2.2.1, ⟨hk.1.2.2.2.2.2.2.2.1, hk.1.2.2.2.2.2.2.2.2⟩⟩⟩⟩⟩⟩⟩⟩)))⟩; have n4_ : Zq (w41.heap[gb442]? = some (.cells #[.slice A1_0 l1_0.length c1_0] 24 (0, 0))) := ⟨(by rw [hw]; exact (by (with_reducible repeat first | apply bN | apply bD | apply bA); refine Z8 ?_ NB442_448.out _; (with_reducible repeat first | apply bN | apply bD | apply bA); exact BK442.out))⟩; have n5_ : Zq (w41.heap[gb443]? = some (.cells #[.slice A2_0 l2_0.length c2_0] 24 (0, 0))) := ⟨(by rw [hw]; exact (by (with_reducible repeat first | apply bN | apply bD | apply bA); refine Z8 ?_ NB443_448.out _; (with_reducible repeat first | apply bN | apply bD | apply bA); exact BK443.out))⟩; have n6_ : Zq (w41.heap[gb444]? = some (.cells #[.slice none 0 0] 24 (0, 0))) := ⟨(by rw [hw]; exact (by (with_reducible repeat first | apply bN | apply bD | apply bA); refine Z8 ?_ NB444_448.out _; (with_reducible repeat first | apply bN | apply bD | apply bA); exact BK444.out))⟩; have n7_ : Zq (w41.heap[gb445]? = some (.cells #[.slice none 0 0] 24 (0, 0))) := ⟨(by rw [hw]; exact (by (with_reducible repeat first | apply bN | apply bD | apply bA); refine Z8 ?_ NB445_448.out _; (with_reducible repeat first | apply bN | apply bD | apply bA); exact BK445.out))⟩; have n8_ : Zq (w41.heap[gb448]? = some (.cells #[.slice Ao34 t456.length co34] 24 (0, 0))) := ⟨(by rw [hw]; exact (by (with_reducible repeat first | apply bN | apply bD | apply bA); refine Yo (cs := #[.slice none 0 0]) ?_ 0 _ rfl; (with_reducible repeat first | apply bN | apply bD | apply bA); exact BK448.out))⟩; have n9_ : Zq (w41.heap[gb449]? = some (.cells #[.slice none 0 0] 24 (0, 0))) := ⟨(by rw [hw]; exact (by (with_reducible repeat first | apply bN | apply bD | apply bA); refine Z8 ?_ NB449_448.out _; (with_reducible repeat first | apply bN | apply bD | apply bA); exact BK449.out))⟩; have n10_ : Zq (Zb w0 w41 g s0_0 t455) := ⟨(by rw [hw]; exact (by repeat (first | (with_reducible first | exact HI0.out | apply Zb.alloc | apply Zb.drewN | apply Zb.drew | apply Zb.Zad | refine Zb.far ?_ NB0_442.out _ | refine Zb.far ?_ NB0_443.out _ | refine Zb.far ?_ NB0_444.out _ | refine Zb.far ?_ NB0_445.out _ | refine Zb.far ?_ NB0_448.out _ | refine Zb.far ?_ NB0_449.out _) | exact HI0.out)))⟩; have n11_ : Zq (Zn w w41 g none) := ⟨(by rw [hw]; exact (by repeat (first | (with_reducible first | exact HK.out | apply Zn.set_ | apply kN | apply kD | apply kA | refine kF ?_ GW442.out _ | refine kF ?_ GW443.out _ | refine kF ?_ GW444.out _ | refine kF ?_ GW445.out _ | refine kF ?_ GW448.out _ | refine kF ?_ GW449.out _) | exact HK.out)))⟩; have n12_ : Zq (Below w0.heap.size w0 w41) := ⟨(by rw [hw]; exact (by repeat (first | (with_reducible first | exact HB.out | apply wA | apply wN | apply wD | refine Za ?_ (Zb.ge HI0.out) | refine Za ?_ GE442.out | refine Za ?_ GE443.out | refine Za ?_ GE444.out | refine Za ?_ GE445.out | refine Za ?_ GE448.out | refine Za ?_ GE449.out) | exact HB.out)))⟩; clear hw J443 J444 HO454 HO458 BK442 BK443 BK444 BK445 BK448 BK449 HI0 HK HB; have J443 := n0_; have J444 := n1_; have HO454 := n2_; have HO458 := n3_; have BK442 := n4_; have BK443 := n5_; have BK444 := n6_; have BK445 := n7_; have BK448 := n8_; have BK449 := n9_; have HI0 := n10_; have HK := n11_; have HB := n12_; clear n0_ n1_ n2_ n3_ n4_ n5_ n6_ n7_ n8_ n9_ n10_ n11_ n12_))
     (try simp only [Act.put, Qa, Qb, Qc])
     have H := HC24.out
     clear HC24
     replace H := Option.bind_eq_some_iff.mp H
     obtain ⟨⟨t460, t463⟩, A420, H⟩ := H
     replace H : (Zc.j1 kj15 t459 t463 s0_0 t455 l1_0 l2_0 t456 t460) = some (r1, r2, r3, r4) := H
     have A42 := aM A420
     clear A420
     have H' := aM H
     clear H
     have hnb43 := NB443_442.out
     have hnc43 := NB442_443.out
     have hnb44 := NB443_444.out
     have hnc44 := NB444_443.out
     have hnb45 := NB443_445.out
     have hnc45 := NB445_443.out
     have hnb46 := NB443_448.out
     have hnc46 := NB448_443.out
     have hnb47 := NB443_449.out
     have hnc47 := NB449_443.out
     have hnb48 := NB443_0.out
     have hnc48 := NB0_443.out
     have hcz49_0 : w41.cell? ⟨gb443, 0, none⟩ = some (.slice A2_0 l2_0.length c2_0) := (Ze BK443.out 0).trans rfl
     have hfz49_0 := Zg BK443.out 0
     go_wp2_with (first | ((with_reducible refine Yf (f := 31) rfl ?_); refine Zap (some 65) rfl rfl Try.func31 (by kernel_rfl) rfl #[.agg #[.slice A2_0 l2_0.length c2_0], .int .i64 (wrap64 (t446 - 1)), .slice Ao32 t452.length co32] rfl (by (try simp only [Qi, Qj, Qk]); first | done | rfl | (simp only [Qe, Qd]; rfl)) ?_; (with_reducible refine (Zaj.calls (fun k_ => (((P1_0_ k_ ∨ P2_0_ k_) ∨ w.heap.size ≤ k_) ∧ (some k_ ≠ (.slice Ao32 t452.length co32 : Value).ownBlock ∧ (some k_ ≠ (.slice Ao34 t456.length co34 : Value).ownBlock ∧ (k_ ≠ gb442 ∧ (k_ ≠ gb443 ∧ (k_ ≠ gb444 ∧ (k_ ≠ gb445 ∧ (k_ ≠ gb448 ∧ (k_ ≠ gb449 ∧ k_ ≠ g)))))))))) _ _ l2_0 (wrap64 (t446 - 1)) _ _ t452 t460 t463 _ ?side1 ?side2 ?side3 A42.out).mono ?_); (case side1 => exact J444.out); (case side2 => repeat (first | exact (Kd.Zah HO454.out).2.2 | (with_reducible refine Kd.Yh ?_ _) | (with_reducible refine Kd.Yg ?_ _) | (with_reducible refine Kd.Yw ?_))); (case side3 => exact (Kd.Zah HO454.out).2.1); rintro e w50 ⟨v461, rfl, ho0, hb⟩; refine ⟨_, rfl, ?_⟩; have n0_ := aM (Kd.Zag (by (with_reducible repeat first | apply Kd.Zv | apply Kd.Zu | apply Kd.Z0); exact J443.out) (by first | exact Kd.Y1 ho0 | exact Kd.Y1 (Kd.S_N ho0)) hb); have n1_ := aM (Kd.Zag (by (with_reducible repeat first | apply Kd.Zv | apply Kd.Zu | apply Kd.Z0); exact J444.out) (by first | exact Kd.Y1 ho0 | exact Kd.Y1 (Kd.S_N ho0)) hb); have n2_ := aM (Kd.Zci (by (with_reducible repeat first | apply Kd.Zab | apply Kd.Yu | apply Kd.Zai); exact HO454.out) hb); have n3_ := aM (Kd.Za4 (by (with_reducible repeat first | apply Kd.Ym | apply Kd.Yl | apply Kd.Yy); exact HO458.out) (by first | exact Kd.Y1 ho0 | exact Kd.Y1 (Kd.S_N ho0)) hb); have n4_ := aM (Kd.Zbr (Kd.Yr (ok' := fun k_ => ((P1_0_ k_ ∨ P2_0_ k_) ∨ w.heap.size ≤ k_) ∧ some k_ ≠ (.slice Ao32 t452.length co32 : Value).ownBlock ∧ some k_ ≠ (.slice Ao34 t456.length co34 : Value).ownBlock ∧ k_ ≠ gb442 ∧ k_ ≠ gb443 ∧ k_ ≠ gb444 ∧ k_ ≠ gb445 ∧ k_ ≠ gb448 ∧ k_ ≠ gb449 ∧ k_ ≠ g) ho0 (fun k_ hk_ => ⟨Or.elim hk_ (fun hs_ => hs_.1) (fun hn_ => (.inr (Nat.le_trans (Y7 (w := w) (g := g) (row := none) (by repeat (first | (with_reducible first | exact HK.out | apply Zn.set_ | apply kN | apply kD | apply kA | refine kF ?_ GW442.out _ | refine kF ?_ GW443.out _ | refine kF ?_ GW444.out _ | refine kF ?_ GW445.out _ | refine kF ?_ GW448.out _ | refine kF ?_ GW449.out _) | exact HK.out))) hn_))), Or.elim hk_ (fun hs_ => hs_.2.1) (fun hn_ => (Kd.fresh' (Kd.R_lt (by (with_reducible repeat first | apply Kd.Zab | apply Kd.Yu | apply Kd.Zai); exact HO454.out)) k_ hn_)), Or.elim hk_ (fun hs_ => hs_.2.2.1) (fun hn_ => (Kd.fresh' (Kd.N_lt (by (with_reducible repeat first | apply Kd.Ym | apply Kd.Yl | apply Kd.Yy); exact HO458.out)) k_ hn_)), Or.elim hk_ (fun hs_ => hs_.2.2.2.1) (fun hn_ => (Kd.Y6 (g := gb442) (o := .cells #[.slice A1_0 l1_0.length c1_0] 24 (0, 0)) (by (with_reducible repeat first | apply bN | apply bD | apply bA); exact BK442.out) k_ hn_)), Or.elim hk_ (fun hs_ => hs_.2.2.2.2.1) (fun hn_ => (Kd.Y6 (g := gb443) (o := .cells #[.slice A2_0 l2_0.length c2_0] 24 (0, 0)) (by (with_reducible repeat first | apply bN | apply bD | apply bA); exact BK443.out) k_ hn_)), Or.elim hk_ (fun hs_ => hs_.2.2.2.2.2.1) (fun hn_ => (Kd.Y6 (g := gb444) (o := .cells #[.slice none 0 0] 24 (0, 0)) (by (with_reducible repeat first | apply bN | apply bD | apply bA); exact BK444.out) k_ hn_)), Or.elim hk_ (fun hs_ => hs_.2.2.2.2.2.2.1) (fun hn_ => (Kd.Y6 (g := gb445) (o := .cells #[.slice none 0 0] 24 (0, 0)) (by (with_reducible repeat first | apply bN | apply bD | apply bA); exact BK445.out) k_ hn_)), Or.elim hk_ (fun hs_ => hs_.2.2.2.2.2.2.2.1) (fun hn_ => (Kd.Y6 (g := gb448) (o := .cells #[.slice Ao34 t456.length co34] 24 (0, 0)) (by (with_reducible repeat first | apply bN | apply bD | apply bA); exact BK448.out) k_ hn_)), Or.elim hk_ (fun hs_ => hs_.2.2.2.2.2.2.2.2.1) (fun hn_ => (Kd.Y6 (g := gb449) (o := .cells #[.slice none 0 0] 24 (0, 0)) (by (with_reducible repeat first | apply bN | apply bD | apply bA); exact BK449.out) k_ hn_)), Or.elim hk_ (fun hs_ => hs_.2.2.2.2.2.2.2.2.2) (fun hn_ => (Zb.fresh (by repeat (first | (with_reducible first | exact HI0.out | apply Zb.alloc | apply Zb.drewN | apply Zb.drew | apply Zb.Zad | refine Zb.far ?_ NB0_442.out _ | refine Zb.far ?_ NB0_443.out _ | refine Zb.far ?_ NB0_444.out _ | refine Zb.far ?_ NB0_445.out _ | refine Zb.far ?_ NB0_448.out _ | refine Zb.far ?_ NB0_449.out _) | exact HI0.out)) k_ hn_))⟩)) (Y7 (w := w) (g := g) (row := none) (by repeat (first | (with_reducible first | exact HK.out | apply Zn.set_ | apply kN | apply kD | apply kA | refine kF ?_ GW442.out _ | refine kF ?_ GW443.out _ | refine kF ?_ GW444.out _ | refine kF ?_ GW445.out _ | refine kF ?_ GW448.out _ | refine kF ?_ GW449.out _) | exact HK.out)))); have n5_ := aM (Zf (g := gb442) (o := .cells #[.slice A1_0 l1_0.length c1_0] 24 (0, 0)) (by (with_reducible repeat first | apply bN | apply bD | apply bA); exact BK442.out) hb); have n6_ := aM (Zf (g := gb443) (o := .cells #[.slice A2_0 l2_0.length c2_0] 24 (0, 0)) (by (with_reducible repeat first | apply bN | apply bD | apply bA); exact BK443.out) hb); have n7_ := aM (Zf (g := gb444) (o := .cells #[.slice none 0 0] 24 (0, 0)) (by (with_reducible repeat first | apply bN | apply bD | apply bA); exact BK444.out) hb); have n8_ := aM (Zf (g := gb445) (o := .cells #[.slice none 0 0] 24 (0, 0)) (by (with_reducible repeat first | apply bN | apply bD | apply bA); exact BK445.out) hb); have n9_ := aM (Zf (g := gb448) (o := .cells #[.slice Ao34 t456.length co34] 24 (0, 0)) (by (with_reducible repeat first | apply bN | apply bD | apply bA); exact BK448.out) hb); have n10_ := aM (Zf (g := gb449) (o := .cells #[.slice none 0 0] 24 (0, 0)) (by (with_reducible repeat first | apply bN | apply bD | apply bA); exact BK449.out) hb); have n11_ := aM (Zb.below (by repeat (first | (with_reducible first | exact HI0.out | apply Zb.alloc | apply Zb.drewN | apply Zb.drew | apply Zb.Zad | refine Zb.far ?_ NB0_442.out _ | refine Zb.far ?_ NB0_443.out _ | refine Zb.far ?_ NB0_444.out _ | refine Zb.far ?_ NB0_445.out _ | refine Zb.far ?_ NB0_448.out _ | refine Zb.far ?_ NB0_449.out _) | exact HI0.out)) hb); have n12_ := aM (Zn.trans (by repeat (first | (with_reducible first | exact HK.out | apply Zn.set_ | apply kN | apply kD | apply kA | refine kF ?_ GW442.out _ | refine kF ?_ GW443.out _ | refine kF ?_ GW444.out _ | refine kF ?_ GW445.out _ | refine kF ?_ GW448.out _ | refine kF ?_ GW449.out _) | exact HK.out)) (Zn.of_below hb g none) (.inl rfl)); have n13_ := aM (Zj (by repeat (first | (with_reducible first | exact HB.out | apply wA | apply wN | apply wD | refine Za ?_ (Zb.ge HI0.out) | refine Za ?_ GE442.out | refine Za ?_ GE443.out | refine Za ?_ GE444.out | refine Za ?_ GE445.out | refine Za ?_ GE448.out | refine Za ?_ GE449.out) | exact HB.out)) hb); clear J443 J444 HO454 HO458 BK442 BK443 BK444 BK445 BK448 BK449 HI0 HK HB; have J443 := n0_; have J444 := n1_; have HO454 := n2_; have HO458 := n3_; have HO462 := n4_; have BK442 := n5_; have BK443 := n6_; have BK444 := n7_; have BK445 := n8_; have BK448 := n9_; have BK449 := n10_; have HI0 := n11_; have HK := n12_; have HB := n13_; clear n0_ n1_ n2_ n3_ n4_ n5_ n6_ n7_ n8_ n9_ n10_ n11_ n12_ n13_; (try clear hb); (try clear hb2); (try clear hk); (try clear hi); (try clear hge_); (try clear ho0); obtain ⟨Ao51, co51, eo51⟩ := Kd.Zbj HO462.out; subst eo51; have hnb52 := NB449_442.out; have hnc52 := NB442_449.out; have hnb53 := NB449_444.out; have hnc53 := NB444_449.out; have hnb54 := NB449_445.out; have hnc54 := NB445_449.out; have hnb55 := NB449_448.out; have hnc55 := NB448_449.out; have hnb56 := NB449_0.out; have hnc56 := NB0_449.out; have hcz57_0 : w50.cell? ⟨gb449, 0, none⟩ = some (.slice none 0 0) := (Ze BK449.out 0).trans rfl; have hfz57_0 := Zg BK449.out 0))
     go_meet
     case rel => exact ⟨_, (t459), (t463), (t455), (t456), (t460), (.slice Ao34 t456.length co34), (.slice Ao51 t460.length co51), (by first | rfl | (simp; done) | (simp [*]; done)), (by first | rfl | (simp; done) | (simp [*]; done)), H', ⟨by have := HJ15.out; first | omega | exact Nat.le_refl _⟩, ⟨by (with_reducible repeat first | apply Kd.Zv | apply Kd.Zu | apply Kd.Z0); exact Kd.Yd (Kd.Zbi (p := ⟨gb449, 0, none⟩) (Kd.Yd J443.out (fun k_ hk => (⟨hk, hk.1.2.2.2.2.2.2.2.2.1⟩ : _ ∧ k_ ≠ gb449))) (fun _ hk => hk.2) (.slice Ao51 t460.length co51)) (fun _ hk => ⟨hk.1.1.1, ⟨hk.1.1.2.2.1, ⟨hk.1.2, ⟨hk.1.1.2.2.2.1, ⟨hk.1.1.2.2.2.2.1, ⟨hk.1.1.2.2.2.2.2.1, ⟨hk.1.1.2.2.2.2.2.2.1, ⟨hk.1.1.2.2.2.2.2.2.2.1, ⟨hk.1.1.2.2.2.2.2.2.2.2.1, hk.1.1.2.2.2.2.2.2.2.2.2⟩⟩⟩⟩⟩⟩⟩⟩⟩)⟩, ⟨by (with_reducible repeat first | apply Kd.Zv | apply Kd.Zu | apply Kd.Z0); exact Kd.Yd (Kd.Zbi (p := ⟨gb449, 0, none⟩) (Kd.Yd J444.out (fun k_ hk => (⟨hk, hk.1.2.2.2.2.2.2.2.2.1⟩ : _ ∧ k_ ≠ gb449))) (fun _ hk => hk.2) (.slice Ao51 t460.length co51)) (fun _ hk => ⟨hk.1.1.1, ⟨hk.1.1.2.2.1, ⟨hk.1.2, ⟨hk.1.1.2.2.2.1, ⟨hk.1.1.2.2.2.2.1, ⟨hk.1.1.2.2.2.2.2.1, ⟨hk.1.1.2.2.2.2.2.2.1, ⟨hk.1.1.2.2.2.2.2.2.2.1, ⟨hk.1.1.2.2.2.2.2.2.2.2.1, hk.1.1.2.2.2.2.2.2.2.2.2⟩⟩⟩⟩⟩⟩⟩⟩⟩)⟩, ⟨by (with_reducible repeat first | apply Kd.Ym | apply Kd.Yl | apply Kd.Yy); exact Kd.Yr (Kd.Zby (p := ⟨gb449, 0, none⟩) (Kd.Yr HO458.out (fun k_ hk => (⟨hk, hk.1.2.2.2.2.2.2.2.1⟩ : _ ∧ k_ ≠ gb449))) (fun _ hk => hk.2) (.slice Ao51 t460.length co51)) (fun _ hk => ⟨hk.1.1.1, ⟨hk.1.2, ⟨hk.1.1.2.2.1, ⟨hk.1.1.2.2.2.1, ⟨hk.1.1.2.2.2.2.1, ⟨hk.1.1.2.2.2.2.2.1, ⟨hk.1.1.2.2.2.2.2.2.1, ⟨hk.1.1.2.2.2.2.2.2.2.1, hk.1.1.2.2.2.2.2.2.2.2⟩⟩⟩⟩⟩⟩⟩⟩)⟩, ⟨by (with_reducible repeat first | apply Kd.Ym | apply Kd.Yl | apply Kd.Yy); exact Kd.Yr (Kd.Zby (p := ⟨gb449, 0, none⟩) (Kd.Yr HO462.out (fun k_ hk => (⟨hk, hk.2.2.2.2.2.2.2.2.1⟩ : _ ∧ k_ ≠ gb449))) (fun _ hk => hk.2) (.slice Ao51 t460.length co51)) (fun _ hk => ⟨hk.1.1, ⟨hk.1.2.2.1, ⟨hk.1.2.2.2.1, ⟨hk.1.2.2.2.2.1, ⟨hk.1.2.2.2.2.2.1, ⟨hk.1.2.2.2.2.2.2.1, ⟨hk.1.2.2.2.2.2.2.2.1, ⟨hk.1.2.2.2.2.2.2.2.2.1, hk.1.2.2.2.2.2.2.2.2.2⟩⟩⟩⟩⟩⟩⟩⟩)⟩, ⟨by (with_reducible repeat first | apply bN | apply bD | apply bA); refine Z8 ?_ NB442_449.out _; (with_reducible repeat first | apply bN | apply bD | apply bA); exact BK442.out⟩, ⟨by (with_reducible repeat first | apply bN | apply bD | apply bA); refine Z8 ?_ NB443_449.out _; (with_reducible repeat first | apply bN | apply bD | apply bA); exact BK443.out⟩, ⟨by (with_reducible repeat first | apply bN | apply bD | apply bA); refine Z8 ?_ NB444_449.out _; (with_reducible repeat first | apply bN | apply bD | apply bA); exact BK444.out⟩, ⟨by (with_reducible repeat first | apply bN | apply bD | apply bA); refine Z8 ?_ NB445_449.out _; (with_reducible repeat first | apply bN | apply bD | apply bA); exact BK445.out⟩, ⟨by (with_reducible repeat first | apply bN | apply bD | apply bA); refine Z8 ?_ NB448_449.out _; (with_reducible repeat first | apply bN | apply bD | apply bA); exact BK448.out⟩, ⟨by (with_reducible repeat first | apply bN | apply bD | apply bA); refine Yo (cs := #[.slice none 0 0]) ?_ 0 _ rfl; (with_reducible repeat first | apply bN | apply bD | apply bA); exact BK449.out⟩, ⟨by repeat (first | (with_reducible first | exact HI0.out | apply Zb.alloc | apply Zb.drewN | apply Zb.drew | apply Zb.Zad | refine Zb.far ?_ NB0_442.out _ | refine Zb.far ?_ NB0_443.out _ | refine Zb.far ?_ NB0_444.out _ | refine Zb.far ?_ NB0_445.out _ | refine Zb.far ?_ NB0_448.out _ | refine Zb.far ?_ NB0_449.out _) | exact HI0.out)⟩, ⟨by repeat (first | (with_reducible first | exact HK.out | apply Zn.set_ | apply kN | apply kD | apply kA | refine kF ?_ GW442.out _ | refine kF ?_ GW443.out _ | refine kF ?_ GW444.out _ | refine kF ?_ GW445.out _ | refine kF ?_ GW448.out _ | refine kF ?_ GW449.out _) | exact HK.out)⟩, ⟨by repeat (first | (with_reducible first | exact HB.out | apply wA | apply wN | apply wD | refine Za ?_ (Zb.ge HI0.out) | refine Za ?_ GE442.out | refine Za ?_ GE443.out | refine Za ?_ GE444.out | refine Za ?_ GE445.out | refine Za ?_ GE448.out | refine Za ?_ GE449.out) | exact HB.out)⟩⟩
    ·replace c19 := Bool.eq_false_iff.mpr c19
     subst c19
     have H1 : (if t450 = 3 then ((Zaq.f kj15 l1_0 (wrap64 (t446 - 1))).bind fun bt464 => ((Yt.f l2_0 (wrap64 (t446 - 1))).bind fun bt468 => (Zc.j1 kj15 bt464.2 bt468.2 s0_0 t451 l1_0 l2_0 bt464.1 bt468.1))) else (if t450 = 4 then ((Zp.f kj15 s0_0 t451 40).bind fun bt472 => ((Y5.f kj15 l1_0 (wrap64 (t446 - 1)) bt472.1).bind fun bt476 => ((Yj.f l2_0 (wrap64 (t446 - 1)) bt472.1).bind fun bt480 => (Zc.j1 kj15 bt476.2 bt480.2 s0_0 bt472.2 l1_0 l2_0 bt476.1 bt480.1)))) else (if t450 = 5 then ((Zz.f s0_0 t451 4).bind fun bt484 => ((Zi.f kj15 s0_0 bt484.2 bt484.1).bind fun bt486 => ((Zt.f kj15 l1_0 bt486.1).bind fun t490 => ((Zm.f kj15 l2_0 bt486.1).bind fun t493 => (Zc.j1 kj15 0 0 s0_0 bt486.2 l1_0 l2_0 t490 t493))))) else ((Za7.f l1_0 (wrap64 (t446 - 1))).bind fun bt496 => ((Zat.f l2_0 (wrap64 (t446 - 1))).bind fun bt500 => (if bt496.2 = bt500.2 then ((Zk.f kj15 bt496.1 bt500.1).bind fun t504 => (some (l1_0, l2_0, t504, t451))) else (some (l1_0, l2_0, false, t451)))))))) = some (r1, r2, r3, r4) := by rw [if_neg (show ¬ (false = true) by decide)] at H; exact H
     clear H
     have H := H1
     clear H1
     by_cases c58 : t450 = 3
     ·rw [if_pos c58] at H
      have c58b0 : (t450 == 3) = true := beq_iff_eq.mpr c58
      have c58b1 : (t450 != 3) = false := bne_eq_false_iff_eq.mpr c58
      clear c58
      replace H := Option.bind_eq_some_iff.mp H
      obtain ⟨⟨t464, t467⟩, A590, H⟩ := H
      replace H : ((Yt.f l2_0 (wrap64 (t446 - 1))).bind fun bt468 => (Zc.j1 kj15 t467 bt468.2 s0_0 t451 l1_0 l2_0 t464 bt468.1)) = some (r1, r2, r3, r4) := H
      have A59 := aM A590
      clear A590
      have HC60 := aM H
      clear H
      have hnb61 := NB442_443.out
      have hnc61 := NB443_442.out
      have hnb62 := NB442_444.out
      have hnc62 := NB444_442.out
      have hnb63 := NB442_445.out
      have hnc63 := NB445_442.out
      have hnb64 := NB442_448.out
      have hnc64 := NB448_442.out
      have hnb65 := NB442_449.out
      have hnc65 := NB449_442.out
      have hnb66 := NB442_0.out
      have hnc66 := NB0_442.out
      have hcz67_0 : wc.cell? ⟨gb442, 0, none⟩ = some (.slice A1_0 l1_0.length c1_0) := (Ze BK442.out 0).trans rfl
      have hfz67_0 := Zg BK442.out 0
      go_upto_region 16 with (first | ((with_reducible refine Yf (f := 17) rfl ?_); refine Zap (some 73) rfl rfl Try.func17 (by kernel_rfl) rfl #[.agg #[.slice A1_0 l1_0.length c1_0], .int .i64 (wrap64 (t446 - 1))] rfl (by (try simp only [Qi, Qj, Qk]); first | done | rfl | (simp only [Qe, Qd]; rfl)) ?_; (with_reducible refine (Zaq.calls kj15 _ _ l1_0 (wrap64 (t446 - 1)) t464 t467 _ ?side1 ?side2 A59.out).mono ?_); (case side1 => repeat (first | exact (Kd.Zae J443.out).2.2 | (with_reducible refine Kd.Yh ?_ _) | (with_reducible refine Kd.Yg ?_ _) | (with_reducible refine Kd.Yw ?_))); (case side2 => exact (Kd.Zae J443.out).2.1); rintro e w68 ⟨v465, rfl, ho0, hb⟩; refine ⟨_, rfl, ?_⟩; have n0_ := aM (Kd.Zag (by (with_reducible repeat first | apply Kd.Zv | apply Kd.Zu | apply Kd.Z0); exact J443.out) (by first | exact Kd.Y1 ho0 | exact Kd.Y1 (Kd.S_N ho0)) hb); have n1_ := aM (Kd.Zag (by (with_reducible repeat first | apply Kd.Zv | apply Kd.Zu | apply Kd.Z0); exact J444.out) (by first | exact Kd.Y1 ho0 | exact Kd.Y1 (Kd.S_N ho0)) hb); have n2_ := aM (Kd.Zbr (Kd.Yr (ok' := fun k_ => ((P1_0_ k_ ∨ P2_0_ k_) ∨ w.heap.size ≤ k_) ∧ k_ ≠ gb442 ∧ k_ ≠ gb443 ∧ k_ ≠ gb444 ∧ k_ ≠ gb445 ∧ k_ ≠ gb448 ∧ k_ ≠ gb449 ∧ k_ ≠ g) (Kd.S_N (Kd.Zcb ho0)) (fun k_ hk_ => ⟨(.inr (Nat.le_trans (Y7 (w := w) (g := g) (row := none) (by repeat (first | (with_reducible first | exact HK.out | apply Zn.set_ | apply kN | apply kD | apply kA | refine kF ?_ GW442.out _ | refine kF ?_ GW443.out _ | refine kF ?_ GW444.out _ | refine kF ?_ GW445.out _ | refine kF ?_ GW448.out _ | refine kF ?_ GW449.out _) | exact HK.out))) hk_.2.1)), (Kd.Y6 (g := gb442) (o := .cells #[.slice A1_0 l1_0.length c1_0] 24 (0, 0)) (by (with_reducible repeat first | apply bN | apply bD | apply bA); exact BK442.out) k_ hk_.2.1), (Kd.Y6 (g := gb443) (o := .cells #[.slice A2_0 l2_0.length c2_0] 24 (0, 0)) (by (with_reducible repeat first | apply bN | apply bD | apply bA); exact BK443.out) k_ hk_.2.1), (Kd.Y6 (g := gb444) (o := .cells #[.slice none 0 0] 24 (0, 0)) (by (with_reducible repeat first | apply bN | apply bD | apply bA); exact BK444.out) k_ hk_.2.1), (Kd.Y6 (g := gb445) (o := .cells #[.slice none 0 0] 24 (0, 0)) (by (with_reducible repeat first | apply bN | apply bD | apply bA); exact BK445.out) k_ hk_.2.1), (Kd.Y6 (g := gb448) (o := .cells #[.slice none 0 0] 24 (0, 0)) (by (with_reducible repeat first | apply bN | apply bD | apply bA); exact BK448.out) k_ hk_.2.1), (Kd.Y6 (g := gb449) (o := .cells #[.slice none 0 0] 24 (0, 0)) (by (with_reducible repeat first | apply bN | apply bD | apply bA); exact BK449.out) k_ hk_.2.1), (Zb.fresh (by repeat (first | (with_reducible first | exact HI0.out | apply Zb.alloc | apply Zb.drewN | apply Zb.drew | apply Zb.Zad | refine Zb.far ?_ NB0_442.out _ | refine Zb.far ?_ NB0_443.out _ | refine Zb.far ?_ NB0_444.out _ | refine Zb.far ?_ NB0_445.out _ | refine Zb.far ?_ NB0_448.out _ | refine Zb.far ?_ NB0_449.out _) | exact HI0.out)) k_ hk_.2.1)⟩)) (Y7 (w := w) (g := g) (row := none) (by repeat (first | (with_reducible first | exact HK.out | apply Zn.set_ | apply kN | apply kD | apply kA | refine kF ?_ GW442.out _ | refine kF ?_ GW443.out _ | refine kF ?_ GW444.out _ | refine kF ?_ GW445.out _ | refine kF ?_ GW448.out _ | refine kF ?_ GW449.out _) | exact HK.out)))); have n3_ := aM (Zf (g := gb442) (o := .cells #[.slice A1_0 l1_0.length c1_0] 24 (0, 0)) (by (with_reducible repeat first | apply bN | apply bD | apply bA); exact BK442.out) hb); have n4_ := aM (Zf (g := gb443) (o := .cells #[.slice A2_0 l2_0.length c2_0] 24 (0, 0)) (by (with_reducible repeat first | apply bN | apply bD | apply bA); exact BK443.out) hb); have n5_ := aM (Zf (g := gb444) (o := .cells #[.slice none 0 0] 24 (0, 0)) (by (with_reducible repeat first | apply bN | apply bD | apply bA); exact BK444.out) hb); have n6_ := aM (Zf (g := gb445) (o := .cells #[.slice none 0 0] 24 (0, 0)) (by (with_reducible repeat first | apply bN | apply bD | apply bA); exact BK445.out) hb); have n7_ := aM (Zf (g := gb448) (o := .cells #[.slice none 0 0] 24 (0, 0)) (by (with_reducible repeat first | apply bN | apply bD | apply bA); exact BK448.out) hb); have n8_ := aM (Zf (g := gb449) (o := .cells #[.slice none 0 0] 24 (0, 0)) (by (with_reducible repeat first | apply bN | apply bD | apply bA); exact BK449.out) hb); have n9_ := aM (Zb.below (by repeat (first | (with_reducible first | exact HI0.out | apply Zb.alloc | apply Zb.drewN | apply Zb.drew | apply Zb.Zad | refine Zb.far ?_ NB0_442.out _ | refine Zb.far ?_ NB0_443.out _ | refine Zb.far ?_ NB0_444.out _ | refine Zb.far ?_ NB0_445.out _ | refine Zb.far ?_ NB0_448.out _ | refine Zb.far ?_ NB0_449.out _) | exact HI0.out)) hb); have n10_ := aM (Zn.trans (by repeat (first | (with_reducible first | exact HK.out | apply Zn.set_ | apply kN | apply kD | apply kA | refine kF ?_ GW442.out _ | refine kF ?_ GW443.out _ | refine kF ?_ GW444.out _ | refine kF ?_ GW445.out _ | refine kF ?_ GW448.out _ | refine kF ?_ GW449.out _) | exact HK.out)) (Zn.of_below hb g none) (.inl rfl)); have n11_ := aM (Zj (by repeat (first | (with_reducible first | exact HB.out | apply wA | apply wN | apply wD | refine Za ?_ (Zb.ge HI0.out) | refine Za ?_ GE442.out | refine Za ?_ GE443.out | refine Za ?_ GE444.out | refine Za ?_ GE445.out | refine Za ?_ GE448.out | refine Za ?_ GE449.out) | exact HB.out)) hb); clear J443 J444 BK442 BK443 BK444 BK445 BK448 BK449 HI0 HK HB; have J443 := n0_; have J444 := n1_; have HO466 := n2_; have BK442 := n3_; have BK443 := n4_; have BK444 := n5_; have BK445 := n6_; have BK448 := n7_; have BK449 := n8_; have HI0 := n9_; have HK := n10_; have HB := n11_; clear n0_ n1_ n2_ n3_ n4_ n5_ n6_ n7_ n8_ n9_ n10_ n11_; (try clear hb); (try clear hb2); (try clear hk); (try clear hi); (try clear hge_); (try clear ho0); obtain ⟨Ao69, co69, eo69⟩ := Kd.Zbj HO466.out; subst eo69; have hnb70 := NB448_443.out; have hnc70 := NB443_448.out; have hnb71 := NB448_444.out; have hnc71 := NB444_448.out; have hnb72 := NB448_445.out; have hnc72 := NB445_448.out; have hnb73 := NB448_449.out; have hnc73 := NB449_448.out; have hnb74 := NB448_0.out; have hnc74 := NB0_448.out; have hcz75_0 : w68.cell? ⟨gb448, 0, none⟩ = some (.slice none 0 0) := (Ze BK448.out 0).trans rfl; have hfz75_0 := Zg BK448.out 0) | ((with_reducible refine Zbm (t := 24) (p := 10) rfl ?_); refine Zbh (t := 24) (p := 10) (v := ?vo_w76) (w1 := (w68.setCell ⟨gb448, 0, none⟩ (.slice Ao69 t464.length co69))) ?hg ?ho ?hn ?hr ?_; (case ho => rfl); (case hg => rfl); (case hn => rfl); (case hr => first | (go_simp; done) | (go_simp; rfl)); intro w76 hw; have n0_ : Zq (Kd.V k48 48 w76 w.heap.size (fun k_ => ((P1_0_ k_ ∨ P2_0_ k_) ∨ w.heap.size ≤ k_) ∧ some k_ ≠ (.slice Ao69 t464.length co69 : Value).ownBlock ∧ k_ ≠ gb442 ∧ k_ ≠ gb443 ∧ k_ ≠ gb444 ∧ k_ ≠ gb445 ∧ k_ ≠ gb448 ∧ k_ ≠ gb449 ∧ k_ ≠ g) (.slice A1_0 l1_0.length c1_0) l1_0) := ⟨(by rw [hw]; exact (by (with_reducible repeat first | apply Kd.Zv | apply Kd.Zu | apply Kd.Z0); exact Kd.Yd (Kd.Zbi (p := ⟨gb448, 0, none⟩) (Kd.Yd J443.out (fun k_ hk => (⟨hk, hk.1.2.2.2.2.2.1⟩ : _ ∧ k_ ≠ gb448))) (fun _ hk => hk.2) (.slice Ao69 t464.length co69)) (fun _ hk => ⟨hk.1.1.1, ⟨hk.1.2, ⟨hk.1.1.2.1, ⟨hk.1.1.2.2.1, ⟨hk.1.1.2.2.2.1, ⟨hk.1.1.2.2.2.2.1, ⟨hk.1.1.2.2.2.2.2.1, ⟨hk.1.1.2.2.2.2.2.2.1, hk.1.1.2.2.2.2.2.2.2⟩⟩⟩⟩⟩⟩⟩⟩)))⟩; have n1_ : Zq (Kd.V k48 48 w76 w.heap.size (fun k_ => ((P1_0_ k_ ∨ P2_0_ k_) ∨ w.heap.size ≤ k_) ∧ some k_ ≠ (.slice Ao69 t464.length co69 : Value).ownBlock ∧ k_ ≠ gb442 ∧ k_ ≠ gb443 ∧ k_ ≠ gb444 ∧ k_ ≠ gb445 ∧ k_ ≠ gb448 ∧ k_ ≠ gb449 ∧ k_ ≠ g) (.slice A2_0 l2_0.length c2_0) l2_0) := ⟨(by rw [hw]; exact (by (with_reducible repeat first | apply Kd.Zv | apply Kd.Zu | apply Kd.Z0); exact Kd.Yd (Kd.Zbi (p := ⟨gb448, 0, none⟩) (Kd.Yd J444.out (fun k_ hk => (⟨hk, hk.1.2.2.2.2.2.1⟩ : _ ∧ k_ ≠ gb448))) (fun _ hk => hk.2) (.slice Ao69 t464.length co69)) (fun _ hk => ⟨hk.1.1.1, ⟨hk.1.2, ⟨hk.1.1.2.1, ⟨hk.1.1.2.2.1, ⟨hk.1.1.2.2.2.1, ⟨hk.1.1.2.2.2.2.1, ⟨hk.1.1.2.2.2.2.2.1, ⟨hk.1.1.2.2.2.2.2.2.1, hk.1.1.2.2.2.2.2.2.2⟩⟩⟩⟩⟩⟩⟩⟩)))⟩; have n2_ : Zq (Kd.N k48 48 w76 w.heap.size (fun k_ => ((P1_0_ k_ ∨ P2_0_ k_) ∨ w.heap.size ≤ k_) ∧ k_ ≠ gb442 ∧ k_ ≠ gb443 ∧ k_ ≠ gb444 ∧ k_ ≠ gb445 ∧ k_ ≠ gb448 ∧ k_ ≠ gb449 ∧ k_ ≠ g) (.slice Ao69 t464.length co69) t464) := ⟨(by rw [hw]; exact (by (with_reducible repeat first | apply Kd.Ym | apply Kd.Yl | apply Kd.Yy); exact Kd.Yr (Kd.Zby (p := ⟨gb448, 0, none⟩) (Kd.Yr HO466.out (fun k_ hk => (⟨hk, hk.2.2.2.2.2.1⟩ : _ ∧ k_ ≠ gb448))) (fun _ hk => hk.2) (.slice Ao69 t464.length co69)) (fun _ hk => ⟨hk.1.1, ⟨hk.1.2.1, ⟨hk.1.2.2.1, ⟨hk.1.2.2.2.1, ⟨hk.1.2.2.2.2.1, ⟨hk.1.2.2.2.2.2.1, ⟨hk.1.2.2.2.2.2.2.1, hk.1.2.2.2.2.2.2.2⟩⟩⟩⟩⟩⟩⟩)))⟩; have n3_ : Zq (w76.heap[gb442]? = some (.cells #[.slice A1_0 l1_0.length c1_0] 24 (0, 0))) := ⟨(by rw [hw]; exact (by (with_reducible repeat first | apply bN | apply bD | apply bA); refine Z8 ?_ NB442_448.out _; (with_reducible repeat first | apply bN | apply bD | apply bA); exact BK442.out))⟩; have n4_ : Zq (w76.heap[gb443]? = some (.cells #[.slice A2_0 l2_0.length c2_0] 24 (0, 0))) := ⟨(by rw [hw]; exact (by (with_reducible repeat first | apply bN | apply bD | apply bA); refine Z8 ?_ NB443_448.out _; (with_reducible repeat first | apply bN | apply bD | apply bA); exact BK443.out))⟩; have n5_ : Zq (w76.heap[gb444]? = some (.cells #[.slice none 0 0] 24 (0, 0))) := ⟨(by rw [hw]; exact (by (with_reducible repeat first | apply bN | apply bD | apply bA); refine Z8 ?_ NB444_448.out _; (with_reducible repeat first | apply bN | apply bD | apply bA); exact BK444.out))⟩; have n6_ : Zq (w76.heap[gb445]? = some (.cells #[.slice none 0 0] 24 (0, 0))) := ⟨(by rw [hw]; exact (by (with_reducible repeat first | apply bN | apply bD | apply bA); refine Z8 ?_ NB445_448.out _; (with_reducible repeat first | apply bN | apply bD | apply bA); exact BK445.out))⟩; have n7_ : Zq (w76.heap[gb448]? = some (.cells #[.slice Ao69 t464.length co69] 24 (0, 0))) := ⟨(by rw [hw]; exact (by (with_reducible repeat first | apply bN | apply bD | apply bA); refine Yo (cs := #[.slice none 0 0]) ?_ 0 _ rfl; (with_reducible repeat first | apply bN | apply bD | apply bA); exact BK448.out))⟩; have n8_ : Zq (w76.heap[gb449]? = some (.cells #[.slice none 0 0] 24 (0, 0))) := ⟨(by rw [hw]; exact (by (with_reducible repeat first | apply bN | apply bD | apply bA); refine Z8 ?_ NB449_448.out _; (with_reducible repeat first | apply bN | apply bD | apply bA); exact BK449.out))⟩; have n9_ : Zq (Zb w0 w76 g s0_0 t451) := ⟨(by rw [hw]; exact (by repeat (first | (with_reducible first | exact HI0.out | apply Zb.alloc | apply Zb.drewN | apply Zb.drew | apply Zb.Zad | refine Zb.far ?_ NB0_442.out _ | refine Zb.far ?_ NB0_443.out _ | refine Zb.far ?_ NB0_444.out _ | refine Zb.far ?_ NB0_445.out _ | refine Zb.far ?_ NB0_448.out _ | refine Zb.far ?_ NB0_449.out _) | exact HI0.out)))⟩; have n10_ : Zq (Zn w w76 g none) := ⟨(by rw [hw]; exact (by repeat (first | (with_reducible first | exact HK.out | apply Zn.set_ | apply kN | apply kD | apply kA | refine kF ?_ GW442.out _ | refine kF ?_ GW443.out _ | refine kF ?_ GW444.out _ | refine kF ?_ GW445.out _ | refine kF ?_ GW448.out _ | refine kF ?_ GW449.out _) | exact HK.out)))⟩; have n11_ : Zq (Below w0.heap.size w0 w76) := ⟨(by rw [hw]; exact (by repeat (first | (with_reducible first | exact HB.out | apply wA | apply wN | apply wD | refine Za ?_ (Zb.ge HI0.out) | refine Za ?_ GE442.out | refine Za ?_ GE443.out | refine Za ?_ GE444.out | refine Za ?_ GE445.out | refine Za ?_ GE448.out | refine Za ?_ GE449.out) | exact HB.out)))⟩; clear hw J443 J444 HO466 BK442 BK443 BK444 BK445 BK448 BK449 HI0 HK HB; have J443 := n0_; have J444 := n1_; have HO466 := n2_; have BK442 := n3_; have BK443 := n4_; have BK444 := n5_; have BK445 := n6_; have BK448 := n7_; have BK449 := n8_; have HI0 := n9_; have HK := n10_; have HB := n11_; clear n0_ n1_ n2_ n3_ n4_ n5_ n6_ n7_ n8_ n9_ n10_ n11_))
      (try simp only [Act.put, Qa, Qb, Qc])
      have H := HC60.out
      clear HC60
      replace H := Option.bind_eq_some_iff.mp H
      obtain ⟨⟨t468, t471⟩, A770, H⟩ := H
      replace H : (Zc.j1 kj15 t467 t471 s0_0 t451 l1_0 l2_0 t464 t468) = some (r1, r2, r3, r4) := H
      have A77 := aM A770
      clear A770
      have H' := aM H
      clear H
      have hnb78 := NB443_442.out
      have hnc78 := NB442_443.out
      have hnb79 := NB443_444.out
      have hnc79 := NB444_443.out
      have hnb80 := NB443_445.out
      have hnc80 := NB445_443.out
      have hnb81 := NB443_448.out
      have hnc81 := NB448_443.out
      have hnb82 := NB443_449.out
      have hnc82 := NB449_443.out
      have hnb83 := NB443_0.out
      have hnc83 := NB0_443.out
      have hcz84_0 : w76.cell? ⟨gb443, 0, none⟩ = some (.slice A2_0 l2_0.length c2_0) := (Ze BK443.out 0).trans rfl
      have hfz84_0 := Zg BK443.out 0
      go_wp2_with (first | ((with_reducible refine Yf (f := 32) rfl ?_); refine Zap (some 79) rfl rfl Try.func32 (by kernel_rfl) rfl #[.agg #[.slice A2_0 l2_0.length c2_0], .int .i64 (wrap64 (t446 - 1))] rfl (by (try simp only [Qi, Qj, Qk]); first | done | rfl | (simp only [Qe, Qd]; rfl)) ?_; (with_reducible refine (Yt.calls (fun k_ => (((P1_0_ k_ ∨ P2_0_ k_) ∨ w.heap.size ≤ k_) ∧ (some k_ ≠ (.slice Ao69 t464.length co69 : Value).ownBlock ∧ (k_ ≠ gb442 ∧ (k_ ≠ gb443 ∧ (k_ ≠ gb444 ∧ (k_ ≠ gb445 ∧ (k_ ≠ gb448 ∧ (k_ ≠ gb449 ∧ k_ ≠ g))))))))) _ _ l2_0 (wrap64 (t446 - 1)) t468 t471 _ ?side1 A77.out).mono ?_); (case side1 => exact J444.out); rintro e w85 ⟨v469, rfl, ho0, hb⟩; refine ⟨_, rfl, ?_⟩; have n0_ := aM (Kd.Zag (by (with_reducible repeat first | apply Kd.Zv | apply Kd.Zu | apply Kd.Z0); exact J443.out) (by first | exact Kd.Y1 ho0 | exact Kd.Y1 (Kd.S_N ho0)) hb); have n1_ := aM (Kd.Zag (by (with_reducible repeat first | apply Kd.Zv | apply Kd.Zu | apply Kd.Z0); exact J444.out) (by first | exact Kd.Y1 ho0 | exact Kd.Y1 (Kd.S_N ho0)) hb); have n2_ := aM (Kd.Za4 (by (with_reducible repeat first | apply Kd.Ym | apply Kd.Yl | apply Kd.Yy); exact HO466.out) (by first | exact Kd.Y1 ho0 | exact Kd.Y1 (Kd.S_N ho0)) hb); have n3_ := aM (Kd.Zbr (Kd.Yr (ok' := fun k_ => ((P1_0_ k_ ∨ P2_0_ k_) ∨ w.heap.size ≤ k_) ∧ some k_ ≠ (.slice Ao69 t464.length co69 : Value).ownBlock ∧ k_ ≠ gb442 ∧ k_ ≠ gb443 ∧ k_ ≠ gb444 ∧ k_ ≠ gb445 ∧ k_ ≠ gb448 ∧ k_ ≠ gb449 ∧ k_ ≠ g) ho0 (fun k_ hk_ => ⟨Or.elim hk_ (fun hs_ => hs_.1) (fun hn_ => (.inr (Nat.le_trans (Y7 (w := w) (g := g) (row := none) (by repeat (first | (with_reducible first | exact HK.out | apply Zn.set_ | apply kN | apply kD | apply kA | refine kF ?_ GW442.out _ | refine kF ?_ GW443.out _ | refine kF ?_ GW444.out _ | refine kF ?_ GW445.out _ | refine kF ?_ GW448.out _ | refine kF ?_ GW449.out _) | exact HK.out))) hn_))), Or.elim hk_ (fun hs_ => hs_.2.1) (fun hn_ => (Kd.fresh' (Kd.N_lt (by (with_reducible repeat first | apply Kd.Ym | apply Kd.Yl | apply Kd.Yy); exact HO466.out)) k_ hn_)), Or.elim hk_ (fun hs_ => hs_.2.2.1) (fun hn_ => (Kd.Y6 (g := gb442) (o := .cells #[.slice A1_0 l1_0.length c1_0] 24 (0, 0)) (by (with_reducible repeat first | apply bN | apply bD | apply bA); exact BK442.out) k_ hn_)), Or.elim hk_ (fun hs_ => hs_.2.2.2.1) (fun hn_ => (Kd.Y6 (g := gb443) (o := .cells #[.slice A2_0 l2_0.length c2_0] 24 (0, 0)) (by (with_reducible repeat first | apply bN | apply bD | apply bA); exact BK443.out) k_ hn_)), Or.elim hk_ (fun hs_ => hs_.2.2.2.2.1) (fun hn_ => (Kd.Y6 (g := gb444) (o := .cells #[.slice none 0 0] 24 (0, 0)) (by (with_reducible repeat first | apply bN | apply bD | apply bA); exact BK444.out) k_ hn_)), Or.elim hk_ (fun hs_ => hs_.2.2.2.2.2.1) (fun hn_ => (Kd.Y6 (g := gb445) (o := .cells #[.slice none 0 0] 24 (0, 0)) (by (with_reducible repeat first | apply bN | apply bD | apply bA); exact BK445.out) k_ hn_)), Or.elim hk_ (fun hs_ => hs_.2.2.2.2.2.2.1) (fun hn_ => (Kd.Y6 (g := gb448) (o := .cells #[.slice Ao69 t464.length co69] 24 (0, 0)) (by (with_reducible repeat first | apply bN | apply bD | apply bA); exact BK448.out) k_ hn_)), Or.elim hk_ (fun hs_ => hs_.2.2.2.2.2.2.2.1) (fun hn_ => (Kd.Y6 (g := gb449) (o := .cells #[.slice none 0 0] 24 (0, 0)) (by (with_reducible repeat first | apply bN | apply bD | apply bA); exact BK449.out) k_ hn_)), Or.elim hk_ (fun hs_ => hs_.2.2.2.2.2.2.2.2) (fun hn_ => (Zb.fresh (by repeat (first | (with_reducible first | exact HI0.out | apply Zb.alloc | apply Zb.drewN | apply Zb.drew | apply Zb.Zad | refine Zb.far ?_ NB0_442.out _ | refine Zb.far ?_ NB0_443.out _ | refine Zb.far ?_ NB0_444.out _ | refine Zb.far ?_ NB0_445.out _ | refine Zb.far ?_ NB0_448.out _ | refine Zb.far ?_ NB0_449.out _) | exact HI0.out)) k_ hn_))⟩)) (Y7 (w := w) (g := g) (row := none) (by repeat (first | (with_reducible first | exact HK.out | apply Zn.set_ | apply kN | apply kD | apply kA | refine kF ?_ GW442.out _ | refine kF ?_ GW443.out _ | refine kF ?_ GW444.out _ | refine kF ?_ GW445.out _ | refine kF ?_ GW448.out _ | refine kF ?_ GW449.out _) | exact HK.out)))); have n4_ := aM (Zf (g := gb442) (o := .cells #[.slice A1_0 l1_0.length c1_0] 24 (0, 0)) (by (with_reducible repeat first | apply bN | apply bD | apply bA); exact BK442.out) hb); have n5_ := aM (Zf (g := gb443) (o := .cells #[.slice A2_0 l2_0.length c2_0] 24 (0, 0)) (by (with_reducible repeat first | apply bN | apply bD | apply bA); exact BK443.out) hb); have n6_ := aM (Zf (g := gb444) (o := .cells #[.slice none 0 0] 24 (0, 0)) (by (with_reducible repeat first | apply bN | apply bD | apply bA); exact BK444.out) hb); have n7_ := aM (Zf (g := gb445) (o := .cells #[.slice none 0 0] 24 (0, 0)) (by (with_reducible repeat first | apply bN | apply bD | apply bA); exact BK445.out) hb); have n8_ := aM (Zf (g := gb448) (o := .cells #[.slice Ao69 t464.length co69] 24 (0, 0)) (by (with_reducible repeat first | apply bN | apply bD | apply bA); exact BK448.out) hb); have n9_ := aM (Zf (g := gb449) (o := .cells #[.slice none 0 0] 24 (0, 0)) (by (with_reducible repeat first | apply bN | apply bD | apply bA); exact BK449.out) hb); have n10_ := aM (Zb.below (by repeat (first | (with_reducible first | exact HI0.out | apply Zb.alloc | apply Zb.drewN | apply Zb.drew | apply Zb.Zad | refine Zb.far ?_ NB0_442.out _ | refine Zb.far ?_ NB0_443.out _ | refine Zb.far ?_ NB0_444.out _ | refine Zb.far ?_ NB0_445.out _ | refine Zb.far ?_ NB0_448.out _ | refine Zb.far ?_ NB0_449.out _) | exact HI0.out)) hb); have n11_ := aM (Zn.trans (by repeat (first | (with_reducible first | exact HK.out | apply Zn.set_ | apply kN | apply kD | apply kA | refine kF ?_ GW442.out _ | refine kF ?_ GW443.out _ | refine kF ?_ GW444.out _ | refine kF ?_ GW445.out _ | refine kF ?_ GW448.out _ | refine kF ?_ GW449.out _) | exact HK.out)) (Zn.of_below hb g none) (.inl rfl)); have n12_ := aM (Zj (by repeat (first | (with_reducible first | exact HB.out | apply wA | apply wN | apply wD | refine Za ?_ (Zb.ge HI0.out) | refine Za ?_ GE442.out | refine Za ?_ GE443.out | refine Za ?_ GE444.out | refine Za ?_ GE445.out | refine Za ?_ GE448.out | refine Za ?_ GE449.out) | exact HB.out)) hb); clear J443 J444 HO466 BK442 BK443 BK444 BK445 BK448 BK449 HI0 HK HB; have J443 := n0_; have J444 := n1_; have HO466 := n2_; have HO470 := n3_; have BK442 := n4_; have BK443 := n5_; have BK444 := n6_; have BK445 := n7_; have BK448 := n8_; have BK449 := n9_; have HI0 := n10_; have HK := n11_; have HB := n12_; clear n0_ n1_ n2_ n3_ n4_ n5_ n6_ n7_ n8_ n9_ n10_ n11_ n12_; (try clear hb); (try clear hb2); (try clear hk); (try clear hi); (try clear hge_); (try clear ho0); obtain ⟨Ao86, co86, eo86⟩ := Kd.Zbj HO470.out; subst eo86; have hnb87 := NB449_442.out; have hnc87 := NB442_449.out; have hnb88 := NB449_444.out; have hnc88 := NB444_449.out; have hnb89 := NB449_445.out; have hnc89 := NB445_449.out; have hnb90 := NB449_448.out; have hnc90 := NB448_449.out; have hnb91 := NB449_0.out; have hnc91 := NB0_449.out; have hcz92_0 : w85.cell? ⟨gb449, 0, none⟩ = some (.slice none 0 0) := (Ze BK449.out 0).trans rfl; have hfz92_0 := Zg BK449.out 0))
      go_meet
      case rel => exact ⟨_, (t467), (t471), (t451), (t464), (t468), (.slice Ao69 t464.length co69), (.slice Ao86 t468.length co86), (by first | rfl | (simp; done) | (simp [*]; done)), (by first | rfl | (simp; done) | (simp [*]; done)), H', ⟨by have := HJ15.out; first | omega | exact Nat.le_refl _⟩, ⟨by (with_reducible repeat first | apply Kd.Zv | apply Kd.Zu | apply Kd.Z0); exact Kd.Yd (Kd.Zbi (p := ⟨gb449, 0, none⟩) (Kd.Yd J443.out (fun k_ hk => (⟨hk, hk.1.2.2.2.2.2.2.2.1⟩ : _ ∧ k_ ≠ gb449))) (fun _ hk => hk.2) (.slice Ao86 t468.length co86)) (fun _ hk => ⟨hk.1.1.1, ⟨hk.1.1.2.1, ⟨hk.1.2, ⟨hk.1.1.2.2.1, ⟨hk.1.1.2.2.2.1, ⟨hk.1.1.2.2.2.2.1, ⟨hk.1.1.2.2.2.2.2.1, ⟨hk.1.1.2.2.2.2.2.2.1, ⟨hk.1.1.2.2.2.2.2.2.2.1, hk.1.1.2.2.2.2.2.2.2.2⟩⟩⟩⟩⟩⟩⟩⟩⟩)⟩, ⟨by (with_reducible repeat first | apply Kd.Zv | apply Kd.Zu | apply Kd.Z0); exact Kd.Yd (Kd.Zbi (p := ⟨gb449, 0, none⟩) (Kd.Yd J444.out (fun k_ hk => (⟨hk, hk.1.2.2.2.2.2.2.2.1⟩ : _ ∧ k_ ≠ gb449))) (fun _ hk => hk.2) (.slice Ao86 t468.length co86)) (fun _ hk => ⟨hk.1.1.1, ⟨hk.1.1.2.1, ⟨hk.1.2, ⟨hk.1.1.2.2.1, ⟨hk.1.1.2.2.2.1, ⟨hk.1.1.2.2.2.2.1, ⟨hk.1.1.2.2.2.2.2.1, ⟨hk.1.1.2.2.2.2.2.2.1, ⟨hk.1.1.2.2.2.2.2.2.2.1, hk.1.1.2.2.2.2.2.2.2.2⟩⟩⟩⟩⟩⟩⟩⟩⟩)⟩, ⟨by (with_reducible repeat first | apply Kd.Ym | apply Kd.Yl | apply Kd.Yy); exact Kd.Yr (Kd.Zby (p := ⟨gb449, 0, none⟩) (Kd.Yr HO466.out (fun k_ hk => (⟨hk, hk.1.2.2.2.2.2.2.1⟩ : _ ∧ k_ ≠ gb449))) (fun _ hk => hk.2) (.slice Ao86 t468.length co86)) (fun _ hk => ⟨hk.1.1.1, ⟨hk.1.2, ⟨hk.1.1.2.1, ⟨hk.1.1.2.2.1, ⟨hk.1.1.2.2.2.1, ⟨hk.1.1.2.2.2.2.1, ⟨hk.1.1.2.2.2.2.2.1, ⟨hk.1.1.2.2.2.2.2.2.1, hk.1.1.2.2.2.2.2.2.2⟩⟩⟩⟩⟩⟩⟩⟩)⟩, ⟨by (with_reducible repeat first | apply Kd.Ym | apply Kd.Yl | apply Kd.Yy); exact Kd.Yr (Kd.Zby (p := ⟨gb449, 0, none⟩) (Kd.Yr HO470.out (fun k_ hk => (⟨hk, hk.2.2.2.2.2.2.2.1⟩ : _ ∧ k_ ≠ gb449))) (fun _ hk => hk.2) (.slice Ao86 t468.length co86)) (fun _ hk => ⟨hk.1.1, ⟨hk.1.2.1, ⟨hk.1.2.2.1, ⟨hk.1.2.2.2.1, ⟨hk.1.2.2.2.2.1, ⟨hk.1.2.2.2.2.2.1, ⟨hk.1.2.2.2.2.2.2.1, ⟨hk.1.2.2.2.2.2.2.2.1, hk.1.2.2.2.2.2.2.2.2⟩⟩⟩⟩⟩⟩⟩⟩)⟩, ⟨by (with_reducible repeat first | apply bN | apply bD | apply bA); refine Z8 ?_ NB442_449.out _; (with_reducible repeat first | apply bN | apply bD | apply bA); exact BK442.out⟩, ⟨by (with_reducible repeat first | apply bN | apply bD | apply bA); refine Z8 ?_ NB443_449.out _; (with_reducible repeat first | apply bN | apply bD | apply bA); exact BK443.out⟩, ⟨by (with_reducible repeat first | apply bN | apply bD | apply bA); refine Z8 ?_ NB444_449.out _; (with_reducible repeat first | apply bN | apply bD | apply bA); exact BK444.out⟩, ⟨by (with_reducible repeat first | apply bN | apply bD | apply bA); refine Z8 ?_ NB445_449.out _; (with_reducible repeat first | apply bN | apply bD | apply bA); exact BK445.out⟩, ⟨by (with_reducible repeat first | apply bN | apply bD | apply bA); refine Z8 ?_ NB448_449.out _; (with_reducible repeat first | apply bN | apply bD | apply bA); exact BK448.out⟩, ⟨by (with_reducible repeat first | apply bN | apply bD | apply bA); refine Yo (cs := #[.slice none 0 0]) ?_ 0 _ rfl; (with_reducible repeat first | apply bN | apply bD | apply bA); exact BK449.out⟩, ⟨by repeat (first | (with_reducible first | exact HI0.out | apply Zb.alloc | apply Zb.drewN | apply Zb.drew | apply Zb.Zad | refine Zb.far ?_ NB0_442.out _ | refine Zb.far ?_ NB0_443.out _ | refine Zb.far ?_ NB0_444.out _ | refine Zb.far ?_ NB0_445.out _ | refine Zb.far ?_ NB0_448.out _ | refine Zb.far ?_ NB0_449.out _) | exact HI0.out)⟩, ⟨by repeat (first | (with_reducible first | exact HK.out | apply Zn.set_ | apply kN | apply kD | apply kA | refine kF ?_ GW442.out _ | refine kF ?_ GW443.out _ | refine kF ?_ GW444.out _ | refine kF ?_ GW445.out _ | refine kF ?_ GW448.out _ | refine kF ?_ GW449.out _) | exact HK.out)⟩, ⟨by repeat (first | (with_reducible first | exact HB.out | apply wA | apply wN | apply wD | refine Za ?_ (Zb.ge HI0.out) | refine Za ?_ GE442.out | refine Za ?_ GE443.out | refine Za ?_ GE444.out | refine Za ?_ GE445.out | refine Za ?_ GE448.out | refine Za ?_ GE449.out) | exact HB.out)⟩⟩
     ·rw [if_neg c58] at H
      have c58b0 : (t450 == 3) = false := beq_eq_false_iff_ne.mpr c58
      have c58b1 : (t450 != 3) = true := bne_iff_ne.mpr c58
      by_cases c93 : t450 = 4
      ·rw [if_pos c93] at H
       have c93b0 : (t450 == 4) = true := beq_iff_eq.mpr c93
       have c93b1 : (t450 != 4) = false := bne_eq_false_iff_eq.mpr c93
       clear c93
       replace H := Option.bind_eq_some_iff.mp H
       obtain ⟨⟨t472, t475⟩, A940, H⟩ := H
       replace H : ((Y5.f kj15 l1_0 (wrap64 (t446 - 1)) t472).bind fun bt476 => ((Yj.f l2_0 (wrap64 (t446 - 1)) t472).bind fun bt480 => (Zc.j1 kj15 bt476.2 bt480.2 s0_0 t475 l1_0 l2_0 bt476.1 bt480.1))) = some (r1, r2, r3, r4) := H
       have A94 := aM A940
       clear A940
       have HC95 := aM H
       clear H
       go_upto_region 19 with (first | ((with_reducible refine Yf (f := 23) rfl ?_); refine Zap (some 85) rfl rfl Try.func23 (by kernel_rfl) rfl #[.pointer (some ⟨g, 0, none⟩), .int .i64 40] rfl (by (try simp only [Qi, Qj, Qk]); first | done | rfl | (simp only [Qe, Qd]; rfl)) ?_; (with_reducible refine (Zp.calls kj15 g s0_0 t451 40 t472 t475 w0 _ ?side1 ?side2 A94.out).mono ?_); (case side1 => repeat (first | (with_reducible first | exact HI0.out | apply Zb.alloc | apply Zb.drewN | apply Zb.drew | apply Zb.Zad | refine Zb.far ?_ NB0_442.out _ | refine Zb.far ?_ NB0_443.out _ | refine Zb.far ?_ NB0_444.out _ | refine Zb.far ?_ NB0_445.out _ | refine Zb.far ?_ NB0_448.out _ | refine Zb.far ?_ NB0_449.out _) | exact HI0.out)); (case side2 => repeat (first | (with_reducible first | exact HB.out | apply wA | apply wN | apply wD | refine Za ?_ (Zb.ge HI0.out) | refine Za ?_ GE442.out | refine Za ?_ GE443.out | refine Za ?_ GE444.out | refine Za ?_ GE445.out | refine Za ?_ GE448.out | refine Za ?_ GE449.out) | exact HB.out)); rintro e w96 ⟨v473, rfl, ho0, hi, hb, hk⟩; refine ⟨_, rfl, ?_⟩; have n0_ := aM (Kd.Yd (Kd.Zfk (Kd.Zfl (Kd.Yd (ok := fun k_ => ((((P1_0_ k_ ∨ P2_0_ k_) ∨ w.heap.size ≤ k_)) ∧ (k_ ≠ gb442 ∧ (k_ ≠ gb443 ∧ (k_ ≠ gb444 ∧ (k_ ≠ gb445 ∧ (k_ ≠ gb448 ∧ (k_ ≠ gb449 ∧ k_ ≠ g)))))))) (by (with_reducible repeat first | apply Kd.Zv | apply Kd.Zu | apply Kd.Z0); exact J443.out) (fun k_ hk_ => (⟨hk_, hk_.2.2.2.2.2.2.2⟩ : _ ∧ k_ ≠ g))) hk) (Kd.Zbg ho0)) (fun _ h_ => h_.1)); have n1_ := aM (Kd.Yd (Kd.Zfk (Kd.Zfl (Kd.Yd (ok := fun k_ => ((((P1_0_ k_ ∨ P2_0_ k_) ∨ w.heap.size ≤ k_)) ∧ (k_ ≠ gb442 ∧ (k_ ≠ gb443 ∧ (k_ ≠ gb444 ∧ (k_ ≠ gb445 ∧ (k_ ≠ gb448 ∧ (k_ ≠ gb449 ∧ k_ ≠ g)))))))) (by (with_reducible repeat first | apply Kd.Zv | apply Kd.Zu | apply Kd.Z0); exact J444.out) (fun k_ hk_ => (⟨hk_, hk_.2.2.2.2.2.2.2⟩ : _ ∧ k_ ≠ g))) hk) (Kd.Zbg ho0)) (fun _ h_ => h_.1)); have n2_ := aM (Zn.blk hk (g' := gb442) (o := .cells #[.slice A1_0 l1_0.length c1_0] 24 (0, 0)) (by (with_reducible repeat first | apply bN | apply bD | apply bA); exact BK442.out) NB442_0.out (by simp)); have n3_ := aM (Zn.blk hk (g' := gb443) (o := .cells #[.slice A2_0 l2_0.length c2_0] 24 (0, 0)) (by (with_reducible repeat first | apply bN | apply bD | apply bA); exact BK443.out) NB443_0.out (by simp)); have n4_ := aM (Zn.blk hk (g' := gb444) (o := .cells #[.slice none 0 0] 24 (0, 0)) (by (with_reducible repeat first | apply bN | apply bD | apply bA); exact BK444.out) NB444_0.out (by simp)); have n5_ := aM (Zn.blk hk (g' := gb445) (o := .cells #[.slice none 0 0] 24 (0, 0)) (by (with_reducible repeat first | apply bN | apply bD | apply bA); exact BK445.out) NB445_0.out (by simp)); have n6_ := aM (Zn.blk hk (g' := gb448) (o := .cells #[.slice none 0 0] 24 (0, 0)) (by (with_reducible repeat first | apply bN | apply bD | apply bA); exact BK448.out) NB448_0.out (by simp)); have n7_ := aM (Zn.blk hk (g' := gb449) (o := .cells #[.slice none 0 0] 24 (0, 0)) (by (with_reducible repeat first | apply bN | apply bD | apply bA); exact BK449.out) NB449_0.out (by simp)); have n8_ := aM (Kd.Zb1 (Kd.Ze5 (M := fun k_ => (w.heap.size ≤ k_)) ho0 (Y7 (w := w) (g := g) (row := none) (by repeat (first | (with_reducible first | exact HK.out | apply Zn.set_ | apply kN | apply kD | apply kA | refine kF ?_ GW442.out _ | refine kF ?_ GW443.out _ | refine kF ?_ GW444.out _ | refine kF ?_ GW445.out _ | refine kF ?_ GW448.out _ | refine kF ?_ GW449.out _) | exact HK.out))) (fun k_ h_ => h_)) (Y7 (w := w) (g := g) (row := none) (by repeat (first | (with_reducible first | exact HK.out | apply Zn.set_ | apply kN | apply kD | apply kA | refine kF ?_ GW442.out _ | refine kF ?_ GW443.out _ | refine kF ?_ GW444.out _ | refine kF ?_ GW445.out _ | refine kF ?_ GW448.out _ | refine kF ?_ GW449.out _) | exact HK.out)))); have n9_ := aM (Zn.trans (by repeat (first | (with_reducible first | exact HK.out | apply Zn.set_ | apply kN | apply kD | apply kA | refine kF ?_ GW442.out _ | refine kF ?_ GW443.out _ | refine kF ?_ GW444.out _ | refine kF ?_ GW445.out _ | refine kF ?_ GW448.out _ | refine kF ?_ GW449.out _) | exact HK.out)) hk (.inl rfl)); have n10_ := aM (hb); have n11_ := aM (hi); clear J443 J444 BK442 BK443 BK444 BK445 BK448 BK449 HK HB HI0; have J443 := n0_; have J444 := n1_; have BK442 := n2_; have BK443 := n3_; have BK444 := n4_; have BK445 := n5_; have BK448 := n6_; have BK449 := n7_; have HO474 := n8_; have HK := n9_; have HB := n10_; have HI0 := n11_; clear n0_ n1_ n2_ n3_ n4_ n5_ n6_ n7_ n8_ n9_ n10_ n11_; (try clear hb); (try clear hb2); (try clear hk); (try clear hi); (try clear hge_); (try clear ho0)))
       (try simp only [Act.put, Qa, Qb, Qc])
       have H := HC95.out
       clear HC95
       replace H := Option.bind_eq_some_iff.mp H
       obtain ⟨⟨t476, t479⟩, A970, H⟩ := H
       replace H : ((Yj.f l2_0 (wrap64 (t446 - 1)) t472).bind fun bt480 => (Zc.j1 kj15 t479 bt480.2 s0_0 t475 l1_0 l2_0 t476 bt480.1)) = some (r1, r2, r3, r4) := H
       have A97 := aM A970
       clear A970
       have HC98 := aM H
       clear H
       have hnb99 := NB442_443.out
       have hnc99 := NB443_442.out
       have hnb100 := NB442_444.out
       have hnc100 := NB444_442.out
       have hnb101 := NB442_445.out
       have hnc101 := NB445_442.out
       have hnb102 := NB442_448.out
       have hnc102 := NB448_442.out
       have hnb103 := NB442_449.out
       have hnc103 := NB449_442.out
       have hnb104 := NB442_0.out
       have hnc104 := NB0_442.out
       have hcz105_0 : w96.cell? ⟨gb442, 0, none⟩ = some (.slice A1_0 l1_0.length c1_0) := (Ze BK442.out 0).trans rfl
       have hfz105_0 := Zg BK442.out 0
       obtain ⟨Ao106, co106, eo106⟩ := Kd.Za2 HO474.out
       subst eo106
       go_upto_region 20 with (first | ((with_reducible refine Yf (f := 20) rfl ?_); refine Zap (some 90) rfl rfl Try.func20 (by kernel_rfl) rfl #[.agg #[.slice A1_0 l1_0.length c1_0], .int .i64 (wrap64 (t446 - 1)), .slice Ao106 t472.length co106] rfl (by (try simp only [Qi, Qj, Qk]); first | done | rfl | (simp only [Qe, Qd]; rfl)) ?_; (with_reducible refine (Y5.calls kj15 _ _ l1_0 (wrap64 (t446 - 1)) _ _ t472 t476 t479 _ ?side1 ?side2 ?side3 ?side4 A97.out).mono ?_); (case side1 => repeat (first | exact (Kd.Zae J443.out).2.2 | (with_reducible refine Kd.Yh ?_ _) | (with_reducible refine Kd.Yg ?_ _) | (with_reducible refine Kd.Yw ?_))); (case side2 => exact (Kd.Zae J443.out).2.1); (case side3 => repeat (first | exact (Kd.Zah HO474.out).2.2 | (with_reducible refine Kd.Yh ?_ _) | (with_reducible refine Kd.Yg ?_ _) | (with_reducible refine Kd.Yw ?_))); (case side4 => exact (Kd.Zah HO474.out).2.1); rintro e w107 ⟨v477, rfl, ho0, hb⟩; refine ⟨_, rfl, ?_⟩; have n0_ := aM (Kd.Zag (by (with_reducible repeat first | apply Kd.Zv | apply Kd.Zu | apply Kd.Z0); exact J443.out) (by first | exact Kd.Y1 ho0 | exact Kd.Y1 (Kd.S_N ho0)) hb); have n1_ := aM (Kd.Zag (by (with_reducible repeat first | apply Kd.Zv | apply Kd.Zu | apply Kd.Z0); exact J444.out) (by first | exact Kd.Y1 ho0 | exact Kd.Y1 (Kd.S_N ho0)) hb); have n2_ := aM (Kd.Zci (by (with_reducible repeat first | apply Kd.Zab | apply Kd.Yu | apply Kd.Zai); exact HO474.out) hb); have n3_ := aM (Kd.Zbr (Kd.Yr (ok' := fun k_ => ((P1_0_ k_ ∨ P2_0_ k_) ∨ w.heap.size ≤ k_) ∧ some k_ ≠ (.slice Ao106 t472.length co106 : Value).ownBlock ∧ k_ ≠ gb442 ∧ k_ ≠ gb443 ∧ k_ ≠ gb444 ∧ k_ ≠ gb445 ∧ k_ ≠ gb448 ∧ k_ ≠ gb449 ∧ k_ ≠ g) ho0 (fun k_ hk_ => ⟨(.inr (Nat.le_trans (Y7 (w := w) (g := g) (row := none) (by repeat (first | (with_reducible first | exact HK.out | apply Zn.set_ | apply kN | apply kD | apply kA | refine kF ?_ GW442.out _ | refine kF ?_ GW443.out _ | refine kF ?_ GW444.out _ | refine kF ?_ GW445.out _ | refine kF ?_ GW448.out _ | refine kF ?_ GW449.out _) | exact HK.out))) hk_)), (Kd.fresh' (Kd.R_lt (by (with_reducible repeat first | apply Kd.Zab | apply Kd.Yu | apply Kd.Zai); exact HO474.out)) k_ hk_), (Kd.Y6 (g := gb442) (o := .cells #[.slice A1_0 l1_0.length c1_0] 24 (0, 0)) (by (with_reducible repeat first | apply bN | apply bD | apply bA); exact BK442.out) k_ hk_), (Kd.Y6 (g := gb443) (o := .cells #[.slice A2_0 l2_0.length c2_0] 24 (0, 0)) (by (with_reducible repeat first | apply bN | apply bD | apply bA); exact BK443.out) k_ hk_), (Kd.Y6 (g := gb444) (o := .cells #[.slice none 0 0] 24 (0, 0)) (by (with_reducible repeat first | apply bN | apply bD | apply bA); exact BK444.out) k_ hk_), (Kd.Y6 (g := gb445) (o := .cells #[.slice none 0 0] 24 (0, 0)) (by (with_reducible repeat first | apply bN | apply bD | apply bA); exact BK445.out) k_ hk_), (Kd.Y6 (g := gb448) (o := .cells #[.slice none 0 0] 24 (0, 0)) (by (with_reducible repeat first | apply bN | apply bD | apply bA); exact BK448.out) k_ hk_), (Kd.Y6 (g := gb449) (o := .cells #[.slice none 0 0] 24 (0, 0)) (by (with_reducible repeat first | apply bN | apply bD | apply bA); exact BK449.out) k_ hk_), (Zb.fresh (by repeat (first | (with_reducible first | exact HI0.out | apply Zb.alloc | apply Zb.drewN | apply Zb.drew | apply Zb.Zad | refine Zb.far ?_ NB0_442.out _ | refine Zb.far ?_ NB0_443.out _ | refine Zb.far ?_ NB0_444.out _ | refine Zb.far ?_ NB0_445.out _ | refine Zb.far ?_ NB0_448.out _ | refine Zb.far ?_ NB0_449.out _) | exact HI0.out)) k_ hk_)⟩)) (Y7 (w := w) (g := g) (row := none) (by repeat (first | (with_reducible first | exact HK.out | apply Zn.set_ | apply kN | apply kD | apply kA | refine kF ?_ GW442.out _ | refine kF ?_ GW443.out _ | refine kF ?_ GW444.out _ | refine kF ?_ GW445.out _ | refine kF ?_ GW448.out _ | refine kF ?_ GW449.out _) | exact HK.out)))); have n4_ := aM (Zf (g := gb442) (o := .cells #[.slice A1_0 l1_0.length c1_0] 24 (0, 0)) (by (with_reducible repeat first | apply bN | apply bD | apply bA); exact BK442.out) hb); have n5_ := aM (Zf (g := gb443) (o := .cells #[.slice A2_0 l2_0.length c2_0] 24 (0, 0)) (by (with_reducible repeat first | apply bN | apply bD | apply bA); exact BK443.out) hb); have n6_ := aM (Zf (g := gb444) (o := .cells #[.slice none 0 0] 24 (0, 0)) (by (with_reducible repeat first | apply bN | apply bD | apply bA); exact BK444.out) hb); have n7_ := aM (Zf (g := gb445) (o := .cells #[.slice none 0 0] 24 (0, 0)) (by (with_reducible repeat first | apply bN | apply bD | apply bA); exact BK445.out) hb); have n8_ := aM (Zf (g := gb448) (o := .cells #[.slice none 0 0] 24 (0, 0)) (by (with_reducible repeat first | apply bN | apply bD | apply bA); exact BK448.out) hb); have n9_ := aM (Zf (g := gb449) (o := .cells #[.slice none 0 0] 24 (0, 0)) (by (with_reducible repeat first | apply bN | apply bD | apply bA); exact BK449.out) hb); have n10_ := aM (Zb.below (by repeat (first | (with_reducible first | exact HI0.out | apply Zb.alloc | apply Zb.drewN | apply Zb.drew | apply Zb.Zad | refine Zb.far ?_ NB0_442.out _ | refine Zb.far ?_ NB0_443.out _ | refine Zb.far ?_ NB0_444.out _ | refine Zb.far ?_ NB0_445.out _ | refine Zb.far ?_ NB0_448.out _ | refine Zb.far ?_ NB0_449.out _) | exact HI0.out)) hb); have n11_ := aM (Zn.trans (by repeat (first | (with_reducible first | exact HK.out | apply Zn.set_ | apply kN | apply kD | apply kA | refine kF ?_ GW442.out _ | refine kF ?_ GW443.out _ | refine kF ?_ GW444.out _ | refine kF ?_ GW445.out _ | refine kF ?_ GW448.out _ | refine kF ?_ GW449.out _) | exact HK.out)) (Zn.of_below hb g none) (.inl rfl)); have n12_ := aM (Zj (by repeat (first | (with_reducible first | exact HB.out | apply wA | apply wN | apply wD | refine Za ?_ (Zb.ge HI0.out) | refine Za ?_ GE442.out | refine Za ?_ GE443.out | refine Za ?_ GE444.out | refine Za ?_ GE445.out | refine Za ?_ GE448.out | refine Za ?_ GE449.out) | exact HB.out)) hb); clear J443 J444 HO474 BK442 BK443 BK444 BK445 BK448 BK449 HI0 HK HB; have J443 := n0_; have J444 := n1_; have HO474 := n2_; have HO478 := n3_; have BK442 := n4_; have BK443 := n5_; have BK444 := n6_; have BK445 := n7_; have BK448 := n8_; have BK449 := n9_; have HI0 := n10_; have HK := n11_; have HB := n12_; clear n0_ n1_ n2_ n3_ n4_ n5_ n6_ n7_ n8_ n9_ n10_ n11_ n12_; (try clear hb); (try clear hb2); (try clear hk); (try clear hi); (try clear hge_); (try clear ho0); obtain ⟨Ao108, co108, eo108⟩ := Kd.Zbj HO478.out; subst eo108; have hnb109 := NB448_443.out; have hnc109 := NB443_448.out; have hnb110 := NB448_444.out; have hnc110 := NB444_448.out; have hnb111 := NB448_445.out; have hnc111 := NB445_448.out; have hnb112 := NB448_449.out; have hnc112 := NB449_448.out; have hnb113 := NB448_0.out; have hnc113 := NB0_448.out; have hcz114_0 : w107.cell? ⟨gb448, 0, none⟩ = some (.slice none 0 0) := (Ze BK448.out 0).trans rfl; have hfz114_0 := Zg BK448.out 0) | ((with_reducible refine Zbm (t := 24) (p := 10) rfl ?_); refine Zbh (t := 24) (p := 10) (v := ?vo_w115) (w1 := (w107.setCell ⟨gb448, 0, none⟩ (.slice Ao108 t476.length co108))) ?hg ?ho ?hn ?hr ?_; (case ho => rfl); (case hg => rfl); (case hn => rfl); (case hr => first | (go_simp; done) | (go_simp; rfl)); intro w115 hw; have n0_ : Zq (Kd.V k48 48 w115 w.heap.size (fun k_ => ((P1_0_ k_ ∨ P2_0_ k_) ∨ w.heap.size ≤ k_) ∧ some k_ ≠ (.slice Ao106 t472.length co106 : Value).ownBlock ∧ some k_ ≠ (.slice Ao108 t476.length co108 : Value).ownBlock ∧ k_ ≠ gb442 ∧ k_ ≠ gb443 ∧ k_ ≠ gb444 ∧ k_ ≠ gb445 ∧ k_ ≠ gb448 ∧ k_ ≠ gb449 ∧ k_ ≠ g) (.slice A1_0 l1_0.length c1_0) l1_0) := ⟨(by rw [hw]; exact (by (with_reducible repeat first | apply Kd.Zv | apply Kd.Zu | apply Kd.Z0); exact Kd.Yd (Kd.Zbi (p := ⟨gb448, 0, none⟩) (Kd.Yd J443.out (fun k_ hk => (⟨hk, hk.1.1.2.2.2.2.2.1⟩ : _ ∧ k_ ≠ gb448))) (fun _ hk => hk.2) (.slice Ao108 t476.length co108)) (fun _ hk => ⟨hk.1.1.1.1, ⟨hk.1.1.2, ⟨hk.1.2, ⟨hk.1.1.1.2.1, ⟨hk.1.1.1.2.2.1, ⟨hk.1.1.1.2.2.2.1, ⟨hk.1.1.1.2.2.2.2.1, ⟨hk.1.1.1.2.2.2.2.2.1, ⟨hk.1.1.1.2.2.2.2.2.2.1, hk.1.1.1.2.2.2.2.2.2.2⟩⟩⟩⟩⟩⟩⟩⟩⟩)))⟩; have n1_ : Zq (Kd.V k48 48 w115 w.heap.size (fun k_ => ((P1_0_ k_ ∨ P2_0_ k_) ∨ w.heap.size ≤ k_) ∧ some k_ ≠ (.slice Ao106 t472.length co106 : Value).ownBlock ∧ some k_ ≠ (.slice Ao108 t476.length co108 : Value).ownBlock ∧ k_ ≠ gb442 ∧ k_ ≠ gb443 ∧ k_ ≠ gb444 ∧ k_ ≠ gb445 ∧ k_ ≠ gb448 ∧ k_ ≠ gb449 ∧ k_ ≠ g) (.slice A2_0 l2_0.length c2_0) l2_0) := ⟨(by rw [hw]; exact (by (with_reducible repeat first | apply Kd.Zv | apply Kd.Zu | apply Kd.Z0); exact Kd.Yd (Kd.Zbi (p := ⟨gb448, 0, none⟩) (Kd.Yd J444.out (fun k_ hk => (⟨hk, hk.1.1.2.2.2.2.2.1⟩ : _ ∧ k_ ≠ gb448))) (fun _ hk => hk.2) (.slice Ao108 t476.length co108)) (fun _ hk => ⟨hk.1.1.1.1, ⟨hk.1.1.2, ⟨hk.1.2, ⟨hk.1.1.1.2.1, ⟨hk.1.1.1.2.2.1, ⟨hk.1.1.1.2.2.2.1, ⟨hk.1.1.1.2.2.2.2.1, ⟨hk.1.1.1.2.2.2.2.2.1, ⟨hk.1.1.1.2.2.2.2.2.2.1, hk.1.1.1.2.2.2.2.2.2.2⟩⟩⟩⟩⟩⟩⟩⟩⟩)))⟩; have n2_ : Zq (Kd.R (Kd.int .u8) 5 w115 w.heap.size (fun k_ => (w.heap.size ≤ k_)) (.slice Ao106 t472.length co106) t472) := ⟨(by rw [hw]; exact (by (with_reducible repeat first | apply Kd.Zab | apply Kd.Yu | apply Kd.Zai); exact Kd.Zar (Kd.R_far (p := ⟨gb448, 0, none⟩) (Kd.Zaf HO474.out BK448.out (by decide)) (fun _ hk => hk.2) (.slice Ao108 t476.length co108)) (fun _ hk => hk.1.1)))⟩; have n3_ : Zq (Kd.N k48 48 w115 w.heap.size (fun k_ => ((P1_0_ k_ ∨ P2_0_ k_) ∨ w.heap.size ≤ k_) ∧ some k_ ≠ (.slice Ao106 t472.length co106 : Value).ownBlock ∧ k_ ≠ gb442 ∧ k_ ≠ gb443 ∧ k_ ≠ gb444 ∧ k_ ≠ gb445 ∧ k_ ≠ gb448 ∧ k_ ≠ gb449 ∧ k_ ≠ g) (.slice Ao108 t476.length co108) t476) := ⟨(by rw [hw]; exact (by (with_reducible repeat first | apply Kd.Ym | apply Kd.Yl | apply Kd.Yy); exact Kd.Yr (Kd.Zby (p := ⟨gb448, 0, none⟩) (Kd.Yr HO478.out (fun k_ hk => (⟨hk, hk.2.2.2.2.2.2.1⟩ : _ ∧ k_ ≠ gb448))) (fun _ hk => hk.2) (.slice Ao108 t476.length co108)) (fun _ hk => ⟨hk.1.1, ⟨hk.1.2.1, ⟨hk.1.2.2.1, ⟨hk.1.2.2.2.1, ⟨hk.1.2.2.2.2.1, ⟨hk.1.2.2.2.2.2.1, ⟨hk.1.2.2.2.2.2.2.1, ⟨hk.1.2.2.2.2.2.2.2.1, hk.1.2.2.2.2.2.2.2.2⟩⟩⟩⟩⟩⟩⟩⟩)))⟩; have n4_ : Zq (w115.heap[gb442]? = some (.cells #[.slice A1_0 l1_0.length c1_0] 24 (0, 0))) := ⟨(by rw [hw]; exact (by (with_reducible repeat first | apply bN | apply bD | apply bA); refine Z8 ?_ NB442_448.out _; (with_reducible repeat first | apply bN | apply bD | apply bA); exact BK442.out))⟩; have n5_ : Zq (w115.heap[gb443]? = some (.cells #[.slice A2_0 l2_0.length c2_0] 24 (0, 0))) := ⟨(by rw [hw]; exact (by (with_reducible repeat first | apply bN | apply bD | apply bA); refine Z8 ?_ NB443_448.out _; (with_reducible repeat first | apply bN | apply bD | apply bA); exact BK443.out))⟩; have n6_ : Zq (w115.heap[gb444]? = some (.cells #[.slice none 0 0] 24 (0, 0))) := ⟨(by rw [hw]; exact (by (with_reducible repeat first | apply bN | apply bD | apply bA); refine Z8 ?_ NB444_448.out _; (with_reducible repeat first | apply bN | apply bD | apply bA); exact BK444.out))⟩; have n7_ : Zq (w115.heap[gb445]? = some (.cells #[.slice none 0 0] 24 (0, 0))) := ⟨(by rw [hw]; exact (by (with_reducible repeat first | apply bN | apply bD | apply bA); refine Z8 ?_ NB445_448.out _; (with_reducible repeat first | apply bN | apply bD | apply bA); exact BK445.out))⟩; have n8_ : Zq (w115.heap[gb448]? = some (.cells #[.slice Ao108 t476.length co108] 24 (0, 0))) := ⟨(by rw [hw]; exact (by (with_reducible repeat first | apply bN | apply bD | apply bA); refine Yo (cs := #[.slice none 0 0]) ?_ 0 _ rfl; (with_reducible repeat first | apply bN | apply bD | apply bA); exact BK448.out))⟩; have n9_ : Zq (w115.heap[gb449]? = some (.cells #[.slice none 0 0] 24 (0, 0))) := ⟨(by rw [hw]; exact (by (with_reducible repeat first | apply bN | apply bD | apply bA); refine Z8 ?_ NB449_448.out _; (with_reducible repeat first | apply bN | apply bD | apply bA); exact BK449.out))⟩; have n10_ : Zq (Zb w0 w115 g s0_0 t475) := ⟨(by rw [hw]; exact (by repeat (first | (with_reducible first | exact HI0.out | apply Zb.alloc | apply Zb.drewN | apply Zb.drew | apply Zb.Zad | refine Zb.far ?_ NB0_442.out _ | refine Zb.far ?_ NB0_443.out _ | refine Zb.far ?_ NB0_444.out _ | refine Zb.far ?_ NB0_445.out _ | refine Zb.far ?_ NB0_448.out _ | refine Zb.far ?_ NB0_449.out _) | exact HI0.out)))⟩; have n11_ : Zq (Zn w w115 g none) := ⟨(by rw [hw]; exact (by repeat (first | (with_reducible first | exact HK.out | apply Zn.set_ | apply kN | apply kD | apply kA | refine kF ?_ GW442.out _ | refine kF ?_ GW443.out _ | refine kF ?_ GW444.out _ | refine kF ?_ GW445.out _ | refine kF ?_ GW448.out _ | refine kF ?_ GW449.out _) | exact HK.out)))⟩; have n12_ : Zq (Below w0.heap.size w0 w115) := ⟨(by rw [hw]; exact (by repeat (first | (with_reducible first | exact HB.out | apply wA | apply wN | apply wD | refine Za ?_ (Zb.ge HI0.out) | refine Za ?_ GE442.out | refine Za ?_ GE443.out | refine Za ?_ GE444.out | refine Za ?_ GE445.out | refine Za ?_ GE448.out | refine Za ?_ GE449.out) | exact HB.out)))⟩; clear hw J443 J444 HO474 HO478 BK442 BK443 BK444 BK445 BK448 BK449 HI0 HK HB; have J443 := n0_; have J444 := n1_; have HO474 := n2_; have HO478 := n3_; have BK442 := n4_; have BK443 := n5_; have BK444 := n6_; have BK445 := n7_; have BK448 := n8_; have BK449 := n9_; have HI0 := n10_; have HK := n11_; have HB := n12_; clear n0_ n1_ n2_ n3_ n4_ n5_ n6_ n7_ n8_ n9_ n10_ n11_ n12_))
       (try simp only [Act.put, Qa, Qb, Qc])
       have H := HC98.out
       clear HC98
       replace H := Option.bind_eq_some_iff.mp H
       obtain ⟨⟨t480, t483⟩, A1160, H⟩ := H
       replace H : (Zc.j1 kj15 t479 t483 s0_0 t475 l1_0 l2_0 t476 t480) = some (r1, r2, r3, r4) := H
       have A116 := aM A1160
       clear A1160
       have H' := aM H
       clear H
       have hnb117 := NB443_442.out
       have hnc117 := NB442_443.out
       have hnb118 := NB443_444.out
       have hnc118 := NB444_443.out
       have hnb119 := NB443_445.out
       have hnc119 := NB445_443.out
       have hnb120 := NB443_448.out
       have hnc120 := NB448_443.out
       have hnb121 := NB443_449.out
       have hnc121 := NB449_443.out
       have hnb122 := NB443_0.out
       have hnc122 := NB0_443.out
       have hcz123_0 : w115.cell? ⟨gb443, 0, none⟩ = some (.slice A2_0 l2_0.length c2_0) := (Ze BK443.out 0).trans rfl
       have hfz123_0 := Zg BK443.out 0
       go_wp2_with (first | ((with_reducible refine Yf (f := 33) rfl ?_); refine Zap (some 97) rfl rfl Try.func33 (by kernel_rfl) rfl #[.agg #[.slice A2_0 l2_0.length c2_0], .int .i64 (wrap64 (t446 - 1)), .slice Ao106 t472.length co106] rfl (by (try simp only [Qi, Qj, Qk]); first | done | rfl | (simp only [Qe, Qd]; rfl)) ?_; (with_reducible refine (Yj.calls (fun k_ => (((P1_0_ k_ ∨ P2_0_ k_) ∨ w.heap.size ≤ k_) ∧ (some k_ ≠ (.slice Ao106 t472.length co106 : Value).ownBlock ∧ (some k_ ≠ (.slice Ao108 t476.length co108 : Value).ownBlock ∧ (k_ ≠ gb442 ∧ (k_ ≠ gb443 ∧ (k_ ≠ gb444 ∧ (k_ ≠ gb445 ∧ (k_ ≠ gb448 ∧ (k_ ≠ gb449 ∧ k_ ≠ g)))))))))) _ _ l2_0 (wrap64 (t446 - 1)) _ _ t472 t480 t483 _ ?side1 ?side2 ?side3 A116.out).mono ?_); (case side1 => exact J444.out); (case side2 => repeat (first | exact (Kd.Zah HO474.out).2.2 | (with_reducible refine Kd.Yh ?_ _) | (with_reducible refine Kd.Yg ?_ _) | (with_reducible refine Kd.Yw ?_))); (case side3 => exact (Kd.Zah HO474.out).2.1); rintro e w124 ⟨v481, rfl, ho0, hb⟩; refine ⟨_, rfl, ?_⟩; have n0_ := aM (Kd.Zag (by (with_reducible repeat first | apply Kd.Zv | apply Kd.Zu | apply Kd.Z0); exact J443.out) (by first | exact Kd.Y1 ho0 | exact Kd.Y1 (Kd.S_N ho0)) hb); have n1_ := aM (Kd.Zag (by (with_reducible repeat first | apply Kd.Zv | apply Kd.Zu | apply Kd.Z0); exact J444.out) (by first | exact Kd.Y1 ho0 | exact Kd.Y1 (Kd.S_N ho0)) hb); have n2_ := aM (Kd.Zci (by (with_reducible repeat first | apply Kd.Zab | apply Kd.Yu | apply Kd.Zai); exact HO474.out) hb); have n3_ := aM (Kd.Za4 (by (with_reducible repeat first | apply Kd.Ym | apply Kd.Yl | apply Kd.Yy); exact HO478.out) (by first | exact Kd.Y1 ho0 | exact Kd.Y1 (Kd.S_N ho0)) hb); have n4_ := aM (Kd.Zbr (Kd.Yr (ok' := fun k_ => ((P1_0_ k_ ∨ P2_0_ k_) ∨ w.heap.size ≤ k_) ∧ some k_ ≠ (.slice Ao106 t472.length co106 : Value).ownBlock ∧ some k_ ≠ (.slice Ao108 t476.length co108 : Value).ownBlock ∧ k_ ≠ gb442 ∧ k_ ≠ gb443 ∧ k_ ≠ gb444 ∧ k_ ≠ gb445 ∧ k_ ≠ gb448 ∧ k_ ≠ gb449 ∧ k_ ≠ g) ho0 (fun k_ hk_ => ⟨Or.elim hk_ (fun hs_ => hs_.1) (fun hn_ => (.inr (Nat.le_trans (Y7 (w := w) (g := g) (row := none) (by repeat (first | (with_reducible first | exact HK.out | apply Zn.set_ | apply kN | apply kD | apply kA | refine kF ?_ GW442.out _ | refine kF ?_ GW443.out _ | refine kF ?_ GW444.out _ | refine kF ?_ GW445.out _ | refine kF ?_ GW448.out _ | refine kF ?_ GW449.out _) | exact HK.out))) hn_))), Or.elim hk_ (fun hs_ => hs_.2.1) (fun hn_ => (Kd.fresh' (Kd.R_lt (by (with_reducible repeat first | apply Kd.Zab | apply Kd.Yu | apply Kd.Zai); exact HO474.out)) k_ hn_)), Or.elim hk_ (fun hs_ => hs_.2.2.1) (fun hn_ => (Kd.fresh' (Kd.N_lt (by (with_reducible repeat first | apply Kd.Ym | apply Kd.Yl | apply Kd.Yy); exact HO478.out)) k_ hn_)), Or.elim hk_ (fun hs_ => hs_.2.2.2.1) (fun hn_ => (Kd.Y6 (g := gb442) (o := .cells #[.slice A1_0 l1_0.length c1_0] 24 (0, 0)) (by (with_reducible repeat first | apply bN | apply bD | apply bA); exact BK442.out) k_ hn_)), Or.elim hk_ (fun hs_ => hs_.2.2.2.2.1) (fun hn_ => (Kd.Y6 (g := gb443) (o := .cells #[.slice A2_0 l2_0.length c2_0] 24 (0, 0)) (by (with_reducible repeat first | apply bN | apply bD | apply bA); exact BK443.out) k_ hn_)), Or.elim hk_ (fun hs_ => hs_.2.2.2.2.2.1) (fun hn_ => (Kd.Y6 (g := gb444) (o := .cells #[.slice none 0 0] 24 (0, 0)) (by (with_reducible repeat first | apply bN | apply bD | apply bA); exact BK444.out) k_ hn_)), Or.elim hk_ (fun hs_ => hs_.2.2.2.2.2.2.1) (fun hn_ => (Kd.Y6 (g := gb445) (o := .cells #[.slice none 0 0] 24 (0, 0)) (by (with_reducible repeat first | apply bN | apply bD | apply bA); exact BK445.out) k_ hn_)), Or.elim hk_ (fun hs_ => hs_.2.2.2.2.2.2.2.1) (fun hn_ => (Kd.Y6 (g := gb448) (o := .cells #[.slice Ao108 t476.length co108] 24 (0, 0)) (by (with_reducible repeat first | apply bN | apply bD | apply bA); exact BK448.out) k_ hn_)), Or.elim hk_ (fun hs_ => hs_.2.2.2.2.2.2.2.2.1) (fun hn_ => (Kd.Y6 (g := gb449) (o := .cells #[.slice none 0 0] 24 (0, 0)) (by (with_reducible repeat first | apply bN | apply bD | apply bA); exact BK449.out) k_ hn_)), Or.elim hk_ (fun hs_ => hs_.2.2.2.2.2.2.2.2.2) (fun hn_ => (Zb.fresh (by repeat (first | (with_reducible first | exact HI0.out | apply Zb.alloc | apply Zb.drewN | apply Zb.drew | apply Zb.Zad | refine Zb.far ?_ NB0_442.out _ | refine Zb.far ?_ NB0_443.out _ | refine Zb.far ?_ NB0_444.out _ | refine Zb.far ?_ NB0_445.out _ | refine Zb.far ?_ NB0_448.out _ | refine Zb.far ?_ NB0_449.out _) | exact HI0.out)) k_ hn_))⟩)) (Y7 (w := w) (g := g) (row := none) (by repeat (first | (with_reducible first | exact HK.out | apply Zn.set_ | apply kN | apply kD | apply kA | refine kF ?_ GW442.out _ | refine kF ?_ GW443.out _ | refine kF ?_ GW444.out _ | refine kF ?_ GW445.out _ | refine kF ?_ GW448.out _ | refine kF ?_ GW449.out _) | exact HK.out)))); have n5_ := aM (Zf (g := gb442) (o := .cells #[.slice A1_0 l1_0.length c1_0] 24 (0, 0)) (by (with_reducible repeat first | apply bN | apply bD | apply bA); exact BK442.out) hb); have n6_ := aM (Zf (g := gb443) (o := .cells #[.slice A2_0 l2_0.length c2_0] 24 (0, 0)) (by (with_reducible repeat first | apply bN | apply bD | apply bA); exact BK443.out) hb); have n7_ := aM (Zf (g := gb444) (o := .cells #[.slice none 0 0] 24 (0, 0)) (by (with_reducible repeat first | apply bN | apply bD | apply bA); exact BK444.out) hb); have n8_ := aM (Zf (g := gb445) (o := .cells #[.slice none 0 0] 24 (0, 0)) (by (with_reducible repeat first | apply bN | apply bD | apply bA); exact BK445.out) hb); have n9_ := aM (Zf (g := gb448) (o := .cells #[.slice Ao108 t476.length co108] 24 (0, 0)) (by (with_reducible repeat first | apply bN | apply bD | apply bA); exact BK448.out) hb); have n10_ := aM (Zf (g := gb449) (o := .cells #[.slice none 0 0] 24 (0, 0)) (by (with_reducible repeat first | apply bN | apply bD | apply bA); exact BK449.out) hb); have n11_ := aM (Zb.below (by repeat (first | (with_reducible first | exact HI0.out | apply Zb.alloc | apply Zb.drewN | apply Zb.drew | apply Zb.Zad | refine Zb.far ?_ NB0_442.out _ | refine Zb.far ?_ NB0_443.out _ | refine Zb.far ?_ NB0_444.out _ | refine Zb.far ?_ NB0_445.out _ | refine Zb.far ?_ NB0_448.out _ | refine Zb.far ?_ NB0_449.out _) | exact HI0.out)) hb); have n12_ := aM (Zn.trans (by repeat (first | (with_reducible first | exact HK.out | apply Zn.set_ | apply kN | apply kD | apply kA | refine kF ?_ GW442.out _ | refine kF ?_ GW443.out _ | refine kF ?_ GW444.out _ | refine kF ?_ GW445.out _ | refine kF ?_ GW448.out _ | refine kF ?_ GW449.out _) | exact HK.out)) (Zn.of_below hb g none) (.inl rfl)); have n13_ := aM (Zj (by repeat (first | (with_reducible first | exact HB.out | apply wA | apply wN | apply wD | refine Za ?_ (Zb.ge HI0.out) | refine Za ?_ GE442.out | refine Za ?_ GE443.out | refine Za ?_ GE444.out | refine Za ?_ GE445.out | refine Za ?_ GE448.out | refine Za ?_ GE449.out) | exact HB.out)) hb); clear J443 J444 HO474 HO478 BK442 BK443 BK444 BK445 BK448 BK449 HI0 HK HB; have J443 := n0_; have J444 := n1_; have HO474 := n2_; have HO478 := n3_; have HO482 := n4_; have BK442 := n5_; have BK443 := n6_; have BK444 := n7_; have BK445 := n8_; have BK448 := n9_; have BK449 := n10_; have HI0 := n11_; have HK := n12_; have HB := n13_; clear n0_ n1_ n2_ n3_ n4_ n5_ n6_ n7_ n8_ n9_ n10_ n11_ n12_ n13_; (try clear hb); (try clear hb2); (try clear hk); (try clear hi); (try clear hge_); (try clear ho0); obtain ⟨Ao125, co125, eo125⟩ := Kd.Zbj HO482.out; subst eo125; have hnb126 := NB449_442.out; have hnc126 := NB442_449.out; have hnb127 := NB449_444.out; have hnc127 := NB444_449.out; have hnb128 := NB449_445.out; have hnc128 := NB445_449.out; have hnb129 := NB449_448.out; have hnc129 := NB448_449.out; have hnb130 := NB449_0.out; have hnc130 := NB0_449.out; have hcz131_0 : w124.cell? ⟨gb449, 0, none⟩ = some (.slice none 0 0) := (Ze BK449.out 0).trans rfl; have hfz131_0 := Zg BK449.out 0))
       go_meet
       case rel => exact ⟨_, (t479), (t483), (t475), (t476), (t480), (.slice Ao108 t476.length co108), (.slice Ao125 t480.length co125), (by first | rfl | (simp; done) | (simp [*]; done)), (by first | rfl | (simp; done) | (simp [*]; done)), H', ⟨by have := HJ15.out; first | omega | exact Nat.le_refl _⟩, ⟨by (with_reducible repeat first | apply Kd.Zv | apply Kd.Zu | apply Kd.Z0); exact Kd.Yd (Kd.Zbi (p := ⟨gb449, 0, none⟩) (Kd.Yd J443.out (fun k_ hk => (⟨hk, hk.1.2.2.2.2.2.2.2.2.1⟩ : _ ∧ k_ ≠ gb449))) (fun _ hk => hk.2) (.slice Ao125 t480.length co125)) (fun _ hk => ⟨hk.1.1.1, ⟨hk.1.1.2.2.1, ⟨hk.1.2, ⟨hk.1.1.2.2.2.1, ⟨hk.1.1.2.2.2.2.1, ⟨hk.1.1.2.2.2.2.2.1, ⟨hk.1.1.2.2.2.2.2.2.1, ⟨hk.1.1.2.2.2.2.2.2.2.1, ⟨hk.1.1.2.2.2.2.2.2.2.2.1, hk.1.1.2.2.2.2.2.2.2.2.2⟩⟩⟩⟩⟩⟩⟩⟩⟩)⟩, ⟨by (with_reducible repeat first | apply Kd.Zv | apply Kd.Zu | apply Kd.Z0); exact Kd.Yd (Kd.Zbi (p := ⟨gb449, 0, none⟩) (Kd.Yd J444.out (fun k_ hk => (⟨hk, hk.1.2.2.2.2.2.2.2.2.1⟩ : _ ∧ k_ ≠ gb449))) (fun _ hk => hk.2) (.slice Ao125 t480.length co125)) (fun _ hk => ⟨hk.1.1.1, ⟨hk.1.1.2.2.1, ⟨hk.1.2, ⟨hk.1.1.2.2.2.1, ⟨hk.1.1.2.2.2.2.1, ⟨hk.1.1.2.2.2.2.2.1, ⟨hk.1.1.2.2.2.2.2.2.1, ⟨hk.1.1.2.2.2.2.2.2.2.1, ⟨hk.1.1.2.2.2.2.2.2.2.2.1, hk.1.1.2.2.2.2.2.2.2.2.2⟩⟩⟩⟩⟩⟩⟩⟩⟩)⟩, ⟨by (with_reducible repeat first | apply Kd.Ym | apply Kd.Yl | apply Kd.Yy); exact Kd.Yr (Kd.Zby (p := ⟨gb449, 0, none⟩) (Kd.Yr HO478.out (fun k_ hk => (⟨hk, hk.1.2.2.2.2.2.2.2.1⟩ : _ ∧ k_ ≠ gb449))) (fun _ hk => hk.2) (.slice Ao125 t480.length co125)) (fun _ hk => ⟨hk.1.1.1, ⟨hk.1.2, ⟨hk.1.1.2.2.1, ⟨hk.1.1.2.2.2.1, ⟨hk.1.1.2.2.2.2.1, ⟨hk.1.1.2.2.2.2.2.1, ⟨hk.1.1.2.2.2.2.2.2.1, ⟨hk.1.1.2.2.2.2.2.2.2.1, hk.1.1.2.2.2.2.2.2.2.2⟩⟩⟩⟩⟩⟩⟩⟩)⟩, ⟨by (with_reducible repeat first | apply Kd.Ym | apply Kd.Yl | apply Kd.Yy); exact Kd.Yr (Kd.Zby (p := ⟨gb449, 0, none⟩) (Kd.Yr HO482.out (fun k_ hk => (⟨hk, hk.2.2.2.2.2.2.2.2.1⟩ : _ ∧ k_ ≠ gb449))) (fun _ hk => hk.2) (.slice Ao125 t480.length co125)) (fun _ hk => ⟨hk.1.1, ⟨hk.1.2.2.1, ⟨hk.1.2.2.2.1, ⟨hk.1.2.2.2.2.1, ⟨hk.1.2.2.2.2.2.1, ⟨hk.1.2.2.2.2.2.2.1, ⟨hk.1.2.2.2.2.2.2.2.1, ⟨hk.1.2.2.2.2.2.2.2.2.1, hk.1.2.2.2.2.2.2.2.2.2⟩⟩⟩⟩⟩⟩⟩⟩)⟩, ⟨by (with_reducible repeat first | apply bN | apply bD | apply bA); refine Z8 ?_ NB442_449.out _; (with_reducible repeat first | apply bN | apply bD | apply bA); exact BK442.out⟩, ⟨by (with_reducible repeat first | apply bN | apply bD | apply bA); refine Z8 ?_ NB443_449.out _; (with_reducible repeat first | apply bN | apply bD | apply bA); exact BK443.out⟩, ⟨by (with_reducible repeat first | apply bN | apply bD | apply bA); refine Z8 ?_ NB444_449.out _; (with_reducible repeat first | apply bN | apply bD | apply bA); exact BK444.out⟩, ⟨by (with_reducible repeat first | apply bN | apply bD | apply bA); refine Z8 ?_ NB445_449.out _; (with_reducible repeat first | apply bN | apply bD | apply bA); exact BK445.out⟩, ⟨by (with_reducible repeat first | apply bN | apply bD | apply bA); refine Z8 ?_ NB448_449.out _; (with_reducible repeat first | apply bN | apply bD | apply bA); exact BK448.out⟩, ⟨by (with_reducible repeat first | apply bN | apply bD | apply bA); refine Yo (cs := #[.slice none 0 0]) ?_ 0 _ rfl; (with_reducible repeat first | apply bN | apply bD | apply bA); exact BK449.out⟩, ⟨by repeat (first | (with_reducible first | exact HI0.out | apply Zb.alloc | apply Zb.drewN | apply Zb.drew | apply Zb.Zad | refine Zb.far ?_ NB0_442.out _ | refine Zb.far ?_ NB0_443.out _ | refine Zb.far ?_ NB0_444.out _ | refine Zb.far ?_ NB0_445.out _ | refine Zb.far ?_ NB0_448.out _ | refine Zb.far ?_ NB0_449.out _) | exact HI0.out)⟩, ⟨by repeat (first | (with_reducible first | exact HK.out | apply Zn.set_ | apply kN | apply kD | apply kA | refine kF ?_ GW442.out _ | refine kF ?_ GW443.out _ | refine kF ?_ GW444.out _ | refine kF ?_ GW445.out _ | refine kF ?_ GW448.out _ | refine kF ?_ GW449.out _) | exact HK.out)⟩, ⟨by repeat (first | (with_reducible first | exact HB.out | apply wA | apply wN | apply wD | refine Za ?_ (Zb.ge HI0.out) | refine Za ?_ GE442.out | refine Za ?_ GE443.out | refine Za ?_ GE444.out | refine Za ?_ GE445.out | refine Za ?_ GE448.out | refine Za ?_ GE449.out) | exact HB.out)⟩⟩
      ·rw [if_neg c93] at H
       have c93b0 : (t450 == 4) = false := beq_eq_false_iff_ne.mpr c93
       have c93b1 : (t450 != 4) = true := bne_iff_ne.mpr c93
       by_cases c132 : t450 = 5
       ·rw [if_pos c132] at H
        have c132b0 : (t450 == 5) = true := beq_iff_eq.mpr c132
        have c132b1 : (t450 != 5) = false := bne_eq_false_iff_eq.mpr c132
        clear c132
        replace H := Option.bind_eq_some_iff.mp H
        obtain ⟨⟨t484, t485⟩, A1330, H⟩ := H
        replace H : ((Zi.f kj15 s0_0 t485 t484).bind fun bt486 => ((Zt.f kj15 l1_0 bt486.1).bind fun t490 => ((Zm.f kj15 l2_0 bt486.1).bind fun t493 => (Zc.j1 kj15 0 0 s0_0 bt486.2 l1_0 l2_0 t490 t493)))) = some (r1, r2, r3, r4) := H
        have A133 := aM A1330
        clear A1330
        replace H := Option.bind_eq_some_iff.mp H
        obtain ⟨⟨t486, t489⟩, A1340, H⟩ := H
        replace H : ((Zt.f kj15 l1_0 t486).bind fun t490 => ((Zm.f kj15 l2_0 t486).bind fun t493 => (Zc.j1 kj15 0 0 s0_0 t489 l1_0 l2_0 t490 t493))) = some (r1, r2, r3, r4) := H
        have A134 := aM A1340
        clear A1340
        have HC135 := aM H
        clear H
        go_upto_region 23 with (first | ((with_reducible refine Yf (f := 29) rfl ?_); refine Zap (some 104) rfl rfl Try.func29 (by kernel_rfl) rfl #[.pointer (some ⟨g, 0, none⟩), .int .i64 4] rfl (by (try simp only [Qi, Qj, Qk]); first | done | rfl | (simp only [Qe, Qd]; rfl)) ?_; (with_reducible refine (Zz.calls g s0_0 t451 4 t484 t485 w0 _ ?side1 ?side2 A133.out).mono ?_); (case side1 => repeat (first | (with_reducible first | exact HI0.out | apply Zb.alloc | apply Zb.drewN | apply Zb.drew | apply Zb.Zad | refine Zb.far ?_ NB0_442.out _ | refine Zb.far ?_ NB0_443.out _ | refine Zb.far ?_ NB0_444.out _ | refine Zb.far ?_ NB0_445.out _ | refine Zb.far ?_ NB0_448.out _ | refine Zb.far ?_ NB0_449.out _) | exact HI0.out)); (case side2 => repeat (first | (with_reducible first | exact HB.out | apply wA | apply wN | apply wD | refine Za ?_ (Zb.ge HI0.out) | refine Za ?_ GE442.out | refine Za ?_ GE443.out | refine Za ?_ GE444.out | refine Za ?_ GE445.out | refine Za ?_ GE448.out | refine Za ?_ GE449.out) | exact HB.out)); rintro e w136 ⟨rfl, hi, hb, hk⟩; refine ⟨_, rfl, ?_⟩; have n0_ := aM (Kd.Yd (Kd.Zdq (Kd.Yd (ok := fun k_ => ((((P1_0_ k_ ∨ P2_0_ k_) ∨ w.heap.size ≤ k_)) ∧ (k_ ≠ gb442 ∧ (k_ ≠ gb443 ∧ (k_ ≠ gb444 ∧ (k_ ≠ gb445 ∧ (k_ ≠ gb448 ∧ (k_ ≠ gb449 ∧ k_ ≠ g)))))))) (by (with_reducible repeat first | apply Kd.Zv | apply Kd.Zu | apply Kd.Z0); exact J443.out) (fun k_ hk_ => (⟨hk_, hk_.2.2.2.2.2.2.2⟩ : _ ∧ k_ ≠ g))) hk (fun _ h => h.2)) (fun _ h => h.1)); have n1_ := aM (Kd.Yd (Kd.Zdq (Kd.Yd (ok := fun k_ => ((((P1_0_ k_ ∨ P2_0_ k_) ∨ w.heap.size ≤ k_)) ∧ (k_ ≠ gb442 ∧ (k_ ≠ gb443 ∧ (k_ ≠ gb444 ∧ (k_ ≠ gb445 ∧ (k_ ≠ gb448 ∧ (k_ ≠ gb449 ∧ k_ ≠ g)))))))) (by (with_reducible repeat first | apply Kd.Zv | apply Kd.Zu | apply Kd.Z0); exact J444.out) (fun k_ hk_ => (⟨hk_, hk_.2.2.2.2.2.2.2⟩ : _ ∧ k_ ≠ g))) hk (fun _ h => h.2)) (fun _ h => h.1)); have n2_ := aM (Zn.blk hk (g' := gb442) (o := .cells #[.slice A1_0 l1_0.length c1_0] 24 (0, 0)) (by (with_reducible repeat first | apply bN | apply bD | apply bA); exact BK442.out) NB442_0.out (by simp)); have n3_ := aM (Zn.blk hk (g' := gb443) (o := .cells #[.slice A2_0 l2_0.length c2_0] 24 (0, 0)) (by (with_reducible repeat first | apply bN | apply bD | apply bA); exact BK443.out) NB443_0.out (by simp)); have n4_ := aM (Zn.blk hk (g' := gb444) (o := .cells #[.slice none 0 0] 24 (0, 0)) (by (with_reducible repeat first | apply bN | apply bD | apply bA); exact BK444.out) NB444_0.out (by simp)); have n5_ := aM (Zn.blk hk (g' := gb445) (o := .cells #[.slice none 0 0] 24 (0, 0)) (by (with_reducible repeat first | apply bN | apply bD | apply bA); exact BK445.out) NB445_0.out (by simp)); have n6_ := aM (Zn.blk hk (g' := gb448) (o := .cells #[.slice none 0 0] 24 (0, 0)) (by (with_reducible repeat first | apply bN | apply bD | apply bA); exact BK448.out) NB448_0.out (by simp)); have n7_ := aM (Zn.blk hk (g' := gb449) (o := .cells #[.slice none 0 0] 24 (0, 0)) (by (with_reducible repeat first | apply bN | apply bD | apply bA); exact BK449.out) NB449_0.out (by simp)); have n8_ := aM (Zn.trans (by repeat (first | (with_reducible first | exact HK.out | apply Zn.set_ | apply kN | apply kD | apply kA | refine kF ?_ GW442.out _ | refine kF ?_ GW443.out _ | refine kF ?_ GW444.out _ | refine kF ?_ GW445.out _ | refine kF ?_ GW448.out _ | refine kF ?_ GW449.out _) | exact HK.out)) hk (.inl rfl)); have n9_ := aM (hb); have n10_ := aM (hi); clear J443 J444 BK442 BK443 BK444 BK445 BK448 BK449 HK HB HI0; have J443 := n0_; have J444 := n1_; have BK442 := n2_; have BK443 := n3_; have BK444 := n4_; have BK445 := n5_; have BK448 := n6_; have BK449 := n7_; have HK := n8_; have HB := n9_; have HI0 := n10_; clear n0_ n1_ n2_ n3_ n4_ n5_ n6_ n7_ n8_ n9_ n10_; (try clear hb); (try clear hb2); (try clear hk); (try clear hi); (try clear hge_)) | ((with_reducible refine Yf (f := 18) rfl ?_); refine Zap (some 105) rfl rfl Try.func18 (by kernel_rfl) rfl #[.pointer (some ⟨g, 0, none⟩), .int .i64 t484] rfl (by (try simp only [Qi, Qj, Qk]); first | done | rfl | (simp only [Qe, Qd]; rfl)) ?_; (with_reducible refine (Zi.calls kj15 g s0_0 t485 t484 t486 t489 w0 _ ?side1 ?side2 A134.out).mono ?_); (case side1 => repeat (first | (with_reducible first | exact HI0.out | apply Zb.alloc | apply Zb.drewN | apply Zb.drew | apply Zb.Zad | refine Zb.far ?_ NB0_442.out _ | refine Zb.far ?_ NB0_443.out _ | refine Zb.far ?_ NB0_444.out _ | refine Zb.far ?_ NB0_445.out _ | refine Zb.far ?_ NB0_448.out _ | refine Zb.far ?_ NB0_449.out _) | exact HI0.out)); (case side2 => repeat (first | (with_reducible first | exact HB.out | apply wA | apply wN | apply wD | refine Za ?_ (Zb.ge HI0.out) | refine Za ?_ GE442.out | refine Za ?_ GE443.out | refine Za ?_ GE444.out | refine Za ?_ GE445.out | refine Za ?_ GE448.out | refine Za ?_ GE449.out) | exact HB.out)); rintro e w137 ⟨v487, rfl, ho0, hi, hb, hk⟩; refine ⟨_, rfl, ?_⟩; have n0_ := aM (Kd.Yd (Kd.Zfk (Kd.Zfl (Kd.Yd (ok := fun k_ => ((((P1_0_ k_ ∨ P2_0_ k_) ∨ w.heap.size ≤ k_)) ∧ (k_ ≠ gb442 ∧ (k_ ≠ gb443 ∧ (k_ ≠ gb444 ∧ (k_ ≠ gb445 ∧ (k_ ≠ gb448 ∧ (k_ ≠ gb449 ∧ k_ ≠ g)))))))) (by (with_reducible repeat first | apply Kd.Zv | apply Kd.Zu | apply Kd.Z0); exact J443.out) (fun k_ hk_ => (⟨hk_, hk_.2.2.2.2.2.2.2⟩ : _ ∧ k_ ≠ g))) hk) (by first | exact Kd.Y1 ho0 | exact Kd.Y1 (Kd.S_N ho0))) (fun _ h_ => h_.1)); have n1_ := aM (Kd.Yd (Kd.Zfk (Kd.Zfl (Kd.Yd (ok := fun k_ => ((((P1_0_ k_ ∨ P2_0_ k_) ∨ w.heap.size ≤ k_)) ∧ (k_ ≠ gb442 ∧ (k_ ≠ gb443 ∧ (k_ ≠ gb444 ∧ (k_ ≠ gb445 ∧ (k_ ≠ gb448 ∧ (k_ ≠ gb449 ∧ k_ ≠ g)))))))) (by (with_reducible repeat first | apply Kd.Zv | apply Kd.Zu | apply Kd.Z0); exact J444.out) (fun k_ hk_ => (⟨hk_, hk_.2.2.2.2.2.2.2⟩ : _ ∧ k_ ≠ g))) hk) (by first | exact Kd.Y1 ho0 | exact Kd.Y1 (Kd.S_N ho0))) (fun _ h_ => h_.1)); have n2_ := aM (Zn.blk hk (g' := gb442) (o := .cells #[.slice A1_0 l1_0.length c1_0] 24 (0, 0)) (by (with_reducible repeat first | apply bN | apply bD | apply bA); exact BK442.out) NB442_0.out (by simp)); have n3_ := aM (Zn.blk hk (g' := gb443) (o := .cells #[.slice A2_0 l2_0.length c2_0] 24 (0, 0)) (by (with_reducible repeat first | apply bN | apply bD | apply bA); exact BK443.out) NB443_0.out (by simp)); have n4_ := aM (Zn.blk hk (g' := gb444) (o := .cells #[.slice none 0 0] 24 (0, 0)) (by (with_reducible repeat first | apply bN | apply bD | apply bA); exact BK444.out) NB444_0.out (by simp)); have n5_ := aM (Zn.blk hk (g' := gb445) (o := .cells #[.slice none 0 0] 24 (0, 0)) (by (with_reducible repeat first | apply bN | apply bD | apply bA); exact BK445.out) NB445_0.out (by simp)); have n6_ := aM (Zn.blk hk (g' := gb448) (o := .cells #[.slice none 0 0] 24 (0, 0)) (by (with_reducible repeat first | apply bN | apply bD | apply bA); exact BK448.out) NB448_0.out (by simp)); have n7_ := aM (Zn.blk hk (g' := gb449) (o := .cells #[.slice none 0 0] 24 (0, 0)) (by (with_reducible repeat first | apply bN | apply bD | apply bA); exact BK449.out) NB449_0.out (by simp)); have n8_ := aM (Kd.Zbr (Kd.Yr (ok' := fun k_ => ((P1_0_ k_ ∨ P2_0_ k_) ∨ w.heap.size ≤ k_) ∧ k_ ≠ gb442 ∧ k_ ≠ gb443 ∧ k_ ≠ gb444 ∧ k_ ≠ gb445 ∧ k_ ≠ gb448 ∧ k_ ≠ gb449 ∧ k_ ≠ g) (Kd.S_N (Kd.Zcb ho0)) (fun k_ hk_ => ⟨(.inr (Nat.le_trans (Y7 (w := w) (g := g) (row := none) (by repeat (first | (with_reducible first | exact HK.out | apply Zn.set_ | apply kN | apply kD | apply kA | refine kF ?_ GW442.out _ | refine kF ?_ GW443.out _ | refine kF ?_ GW444.out _ | refine kF ?_ GW445.out _ | refine kF ?_ GW448.out _ | refine kF ?_ GW449.out _) | exact HK.out))) hk_.2.1)), (Kd.Y6 (g := gb442) (o := .cells #[.slice A1_0 l1_0.length c1_0] 24 (0, 0)) (by (with_reducible repeat first | apply bN | apply bD | apply bA); exact BK442.out) k_ hk_.2.1), (Kd.Y6 (g := gb443) (o := .cells #[.slice A2_0 l2_0.length c2_0] 24 (0, 0)) (by (with_reducible repeat first | apply bN | apply bD | apply bA); exact BK443.out) k_ hk_.2.1), (Kd.Y6 (g := gb444) (o := .cells #[.slice none 0 0] 24 (0, 0)) (by (with_reducible repeat first | apply bN | apply bD | apply bA); exact BK444.out) k_ hk_.2.1), (Kd.Y6 (g := gb445) (o := .cells #[.slice none 0 0] 24 (0, 0)) (by (with_reducible repeat first | apply bN | apply bD | apply bA); exact BK445.out) k_ hk_.2.1), (Kd.Y6 (g := gb448) (o := .cells #[.slice none 0 0] 24 (0, 0)) (by (with_reducible repeat first | apply bN | apply bD | apply bA); exact BK448.out) k_ hk_.2.1), (Kd.Y6 (g := gb449) (o := .cells #[.slice none 0 0] 24 (0, 0)) (by (with_reducible repeat first | apply bN | apply bD | apply bA); exact BK449.out) k_ hk_.2.1), (Zb.fresh (by repeat (first | (with_reducible first | exact HI0.out | apply Zb.alloc | apply Zb.drewN | apply Zb.drew | apply Zb.Zad | refine Zb.far ?_ NB0_442.out _ | refine Zb.far ?_ NB0_443.out _ | refine Zb.far ?_ NB0_444.out _ | refine Zb.far ?_ NB0_445.out _ | refine Zb.far ?_ NB0_448.out _ | refine Zb.far ?_ NB0_449.out _) | exact HI0.out)) k_ hk_.2.1)⟩)) (Y7 (w := w) (g := g) (row := none) (by repeat (first | (with_reducible first | exact HK.out | apply Zn.set_ | apply kN | apply kD | apply kA | refine kF ?_ GW442.out _ | refine kF ?_ GW443.out _ | refine kF ?_ GW444.out _ | refine kF ?_ GW445.out _ | refine kF ?_ GW448.out _ | refine kF ?_ GW449.out _) | exact HK.out)))); have n9_ := aM (Zn.trans (by repeat (first | (with_reducible first | exact HK.out | apply Zn.set_ | apply kN | apply kD | apply kA | refine kF ?_ GW442.out _ | refine kF ?_ GW443.out _ | refine kF ?_ GW444.out _ | refine kF ?_ GW445.out _ | refine kF ?_ GW448.out _ | refine kF ?_ GW449.out _) | exact HK.out)) hk (.inl rfl)); have n10_ := aM (hb); have n11_ := aM (hi); clear J443 J444 BK442 BK443 BK444 BK445 BK448 BK449 HK HB HI0; have J443 := n0_; have J444 := n1_; have BK442 := n2_; have BK443 := n3_; have BK444 := n4_; have BK445 := n5_; have BK448 := n6_; have BK449 := n7_; have HO488 := n8_; have HK := n9_; have HB := n10_; have HI0 := n11_; clear n0_ n1_ n2_ n3_ n4_ n5_ n6_ n7_ n8_ n9_ n10_ n11_; (try clear hb); (try clear hb2); (try clear hk); (try clear hi); (try clear hge_); (try clear ho0)))
        (try simp only [Act.put, Qa, Qb, Qc])
        have H := HC135.out
        clear HC135
        replace H := Option.bind_eq_some_iff.mp H
        obtain ⟨t490, A1380, H⟩ := H
        replace H : ((Zm.f kj15 l2_0 t486).bind fun t493 => (Zc.j1 kj15 0 0 s0_0 t489 l1_0 l2_0 t490 t493)) = some (r1, r2, r3, r4) := H
        have A138 := aM A1380
        clear A1380
        replace H := Option.bind_eq_some_iff.mp H
        obtain ⟨t493, A1390, H⟩ := H
        replace H : (Zc.j1 kj15 0 0 s0_0 t489 l1_0 l2_0 t490 t493) = some (r1, r2, r3, r4) := H
        have A139 := aM A1390
        clear A1390
        have H' := aM H
        clear H
        try go_wp2
        have n0_ := aM (Kd.Z0 J443.out)
        have n1_ := aM (Kd.Z0 J444.out)
        have n2_ := aM (Kd.Yy HO488.out)
        have n3_ := aM (bD BK442.out)
        have n4_ := aM (bD BK443.out)
        have n5_ := aM (bD BK444.out)
        have n6_ := aM (bD BK445.out)
        have n7_ := aM (bD BK448.out)
        have n8_ := aM (bD BK449.out)
        have n9_ := aM (Zb.drew HI0.out)
        have n10_ := aM (kD HK.out)
        have n11_ := aM (wD HB.out)
        clear J443 J444 HO488 BK442 BK443 BK444 BK445 BK448 BK449 HI0 HK HB
        have J443 := n0_
        have J444 := n1_
        have HO488 := n2_
        have BK442 := n3_
        have BK443 := n4_
        have BK444 := n5_
        have BK445 := n6_
        have BK448 := n7_
        have BK449 := n8_
        have HI0 := n9_
        have HK := n10_
        have HB := n11_
        clear n0_ n1_ n2_ n3_ n4_ n5_ n6_ n7_ n8_ n9_ n10_ n11_
        obtain ⟨Ao141, co141, eo141⟩ := Kd.Zbj HO488.out
        (first | subst eo141 | (injection eo141 with f1_ f2_ f3_; have f4_ := f1_.symm; have f5_ := f3_.symm; clear f1_ f2_ f3_; subst f4_; subst f5_))
        refine Zb9 (n := 8) (S := fun w' => w'.cell? ⟨gb442, 0, none⟩ = some (.slice A1_0 l1_0.length c1_0) ∧ w'.cell? ⟨gb443, 0, none⟩ = some (.slice A2_0 l2_0.length c2_0)) (ds := []) #[Qf, Qf, Qf, Qf, Qf, Qf, Qf, Qf] (by kernel_rfl) rfl rfl ⟨(Ze BK442.out 0).trans rfl, (Ze BK443.out 0).trans rfl⟩ (fun hHeld => ?_); refine Zbs Zc.tab23 Zc.bits23 (fun HT_ HW_ => ?_)
        generalize w137.drew = w140 at J443 J444 HO488 BK442 BK443 BK444 BK445 BK448 BK449 HI0 HK HB hHeld ⊢
        refine Yq (i := 1) (N := some 107) (v := ?_) (a' := ?_) #[Qf, Qt, Qf, Qf, Qf, Qf, Qf, Qf] rfl rfl (Yk HT_.out (by kernel_rfl)) (fun _ _ _ h => h) (Or.inl ⟨by rfl, ?_⟩) ?_ ?_
        rotate_left
        ·intro w'
         go_simp
         with_reducible rfl
        rotate_left
        ·simp only [Act.put, Qa, Qb, Qc, Z5, Z6]
         rfl
        refine Yq (i := 4) (N := some 110) (v := ?_) (a' := ?_) #[Qf, Qt, Qf, Qf, Qt, Qf, Qf, Qf] rfl rfl (Yk HT_.out (by kernel_rfl)) (fun _ _ _ h => h) (Or.inl ⟨by rfl, ?_⟩) ?_ ?_
        rotate_left
        ·intro w'
         go_simp
         with_reducible rfl
        rotate_left
        ·simp only [Act.put, Qa, Qb, Qc, Z5, Z6]
         rfl
        refine Za5 (i := 0) (N := some 106) (v := ?_) (a' := ?_) #[Qt, Qt, Qf, Qf, Qt, Qf, Qf, Qf] rfl rfl (Zac HT_.out HW_.out (by kernel_rfl)) (fun _ _ _ h => h) (Or.inl ⟨by rfl, ?_⟩) hHeld ?_ ?_
        rotate_left
        ·rintro w' ⟨s0, s1⟩
         go_simp
         with_reducible rfl
        rotate_left
        ·simp only [Act.put, Qa, Qb, Qc, Z5, Z6]
         rfl
        refine Za5 (i := 3) (N := some 109) (v := ?_) (a' := ?_) #[Qt, Qt, Qf, Qt, Qt, Qf, Qf, Qf] rfl rfl (Zac HT_.out HW_.out (by kernel_rfl)) (fun _ _ _ h => h) (Or.inl ⟨by rfl, ?_⟩) hHeld ?_ ?_
        rotate_left
        ·rintro w' ⟨s0, s1⟩
         go_simp
         with_reducible rfl
        rotate_left
        ·simp only [Act.put, Qa, Qb, Qc, Z5, Z6]
         rfl
        refine one_ (i := 2) (N := some 108) #[Qt, Qt, Qt, Qt, Qt, Qf, Qf, Qf] rfl rfl (Za6 HT_.out (by kernel_rfl)) (by decide) (fun K hK => ?_)
        refine Zdc Try.func11 (by kernel_rfl) rfl #[.agg #[.slice A1_0 l1_0.length c1_0], .slice Ao141 t486.length co141] (by rfl) rfl rfl (by (try simp only [Qi, Qj, Qk]); first | done | rfl | (simp only [Qe, Qd]; rfl)) ?_
        with_reducible refine (Zt.calls kj15 _ _ l1_0 _ _ t486 t490 _ ?side1 ?side2 ?side3 ?side4 A138.out).mono ?_
        (case side1 => repeat (first | exact (Kd.Zae J443.out).2.2 | (with_reducible refine Kd.Yh ?_ _) | (with_reducible refine Kd.Yg ?_ _) | (with_reducible refine Kd.Yw ?_)))
        (case side2 => exact (Kd.Zae J443.out).2.1)
        (case side3 => repeat (first | exact (Kd.Za9 HO488.out).2.2 | (with_reducible refine Kd.Yh ?_ _) | (with_reducible refine Kd.Yg ?_ _) | (with_reducible refine Kd.Yw ?_)))
        (case side4 => exact (Kd.Za9 HO488.out).2.1)
        rintro e w142 ⟨v491, rfl, ho0, hb⟩
        refine ⟨_, rfl, ?_⟩
        have n0_ := aM (Kd.Zag (by (with_reducible repeat first | apply Kd.Zv | apply Kd.Zu | apply Kd.Z0); exact J443.out) (by first | exact Kd.Y1 ho0 | exact Kd.Y1 (Kd.S_N ho0)) hb)
        have n1_ := aM (Kd.Zag (by (with_reducible repeat first | apply Kd.Zv | apply Kd.Zu | apply Kd.Z0); exact J444.out) (by first | exact Kd.Y1 ho0 | exact Kd.Y1 (Kd.S_N ho0)) hb)
        have n2_ := aM (Kd.Za4 (by (with_reducible repeat first | apply Kd.Ym | apply Kd.Yl | apply Kd.Yy); exact HO488.out) (by first | exact Kd.Y1 ho0 | exact Kd.Y1 (Kd.S_N ho0)) hb)
        have n3_ := aM (Kd.Zbr (Kd.Yr (ok' := fun k_ => ((P1_0_ k_ ∨ P2_0_ k_) ∨ w.heap.size ≤ k_) ∧ some k_ ≠ (.slice Ao141 t486.length co141 : Value).ownBlock ∧ k_ ≠ gb442 ∧ k_ ≠ gb443 ∧ k_ ≠ gb444 ∧ k_ ≠ gb445 ∧ k_ ≠ gb448 ∧ k_ ≠ gb449 ∧ k_ ≠ g) (Kd.S_N (Kd.Zcb ho0)) (fun k_ hk_ => ⟨(.inr (Nat.le_trans (Y7 (w := w) (g := g) (row := none) (by repeat (first | (with_reducible first | exact HK.out | apply Zn.set_ | apply kN | apply kD | apply kA | refine kF ?_ GW442.out _ | refine kF ?_ GW443.out _ | refine kF ?_ GW444.out _ | refine kF ?_ GW445.out _ | refine kF ?_ GW448.out _ | refine kF ?_ GW449.out _) | exact HK.out))) hk_.2.1)), (Kd.fresh' (Kd.N_lt (by (with_reducible repeat first | apply Kd.Ym | apply Kd.Yl | apply Kd.Yy); exact HO488.out)) k_ hk_.2.1), (Kd.Y6 (g := gb442) (o := .cells #[.slice A1_0 l1_0.length c1_0] 24 (0, 0)) (by (with_reducible repeat first | apply bN | apply bD | apply bA); exact BK442.out) k_ hk_.2.1), (Kd.Y6 (g := gb443) (o := .cells #[.slice A2_0 l2_0.length c2_0] 24 (0, 0)) (by (with_reducible repeat first | apply bN | apply bD | apply bA); exact BK443.out) k_ hk_.2.1), (Kd.Y6 (g := gb444) (o := .cells #[.slice none 0 0] 24 (0, 0)) (by (with_reducible repeat first | apply bN | apply bD | apply bA); exact BK444.out) k_ hk_.2.1), (Kd.Y6 (g := gb445) (o := .cells #[.slice none 0 0] 24 (0, 0)) (by (with_reducible repeat first | apply bN | apply bD | apply bA); exact BK445.out) k_ hk_.2.1), (Kd.Y6 (g := gb448) (o := .cells #[.slice none 0 0] 24 (0, 0)) (by (with_reducible repeat first | apply bN | apply bD | apply bA); exact BK448.out) k_ hk_.2.1), (Kd.Y6 (g := gb449) (o := .cells #[.slice none 0 0] 24 (0, 0)) (by (with_reducible repeat first | apply bN | apply bD | apply bA); exact BK449.out) k_ hk_.2.1), (Zb.fresh (by repeat (first | (with_reducible first | exact HI0.out | apply Zb.alloc | apply Zb.drewN | apply Zb.drew | apply Zb.Zad | refine Zb.far ?_ NB0_442.out _ | refine Zb.far ?_ NB0_443.out _ | refine Zb.far ?_ NB0_444.out _ | refine Zb.far ?_ NB0_445.out _ | refine Zb.far ?_ NB0_448.out _ | refine Zb.far ?_ NB0_449.out _) | exact HI0.out)) k_ hk_.2.1)⟩)) (Y7 (w := w) (g := g) (row := none) (by repeat (first | (with_reducible first | exact HK.out | apply Zn.set_ | apply kN | apply kD | apply kA | refine kF ?_ GW442.out _ | refine kF ?_ GW443.out _ | refine kF ?_ GW444.out _ | refine kF ?_ GW445.out _ | refine kF ?_ GW448.out _ | refine kF ?_ GW449.out _) | exact HK.out))))
        have n4_ := aM (Zf (g := gb442) (o := .cells #[.slice A1_0 l1_0.length c1_0] 24 (0, 0)) (by (with_reducible repeat first | apply bN | apply bD | apply bA); exact BK442.out) hb)
        have n5_ := aM (Zf (g := gb443) (o := .cells #[.slice A2_0 l2_0.length c2_0] 24 (0, 0)) (by (with_reducible repeat first | apply bN | apply bD | apply bA); exact BK443.out) hb)
        have n6_ := aM (Zf (g := gb444) (o := .cells #[.slice none 0 0] 24 (0, 0)) (by (with_reducible repeat first | apply bN | apply bD | apply bA); exact BK444.out) hb)
        have n7_ := aM (Zf (g := gb445) (o := .cells #[.slice none 0 0] 24 (0, 0)) (by (with_reducible repeat first | apply bN | apply bD | apply bA); exact BK445.out) hb)
        have n8_ := aM (Zf (g := gb448) (o := .cells #[.slice none 0 0] 24 (0, 0)) (by (with_reducible repeat first | apply bN | apply bD | apply bA); exact BK448.out) hb)
        have n9_ := aM (Zf (g := gb449) (o := .cells #[.slice none 0 0] 24 (0, 0)) (by (with_reducible repeat first | apply bN | apply bD | apply bA); exact BK449.out) hb)
        have n10_ := aM (Zb.below (by repeat (first | (with_reducible first | exact HI0.out | apply Zb.alloc | apply Zb.drewN | apply Zb.drew | apply Zb.Zad | refine Zb.far ?_ NB0_442.out _ | refine Zb.far ?_ NB0_443.out _ | refine Zb.far ?_ NB0_444.out _ | refine Zb.far ?_ NB0_445.out _ | refine Zb.far ?_ NB0_448.out _ | refine Zb.far ?_ NB0_449.out _) | exact HI0.out)) hb)
        have n11_ := aM (Zn.trans (by repeat (first | (with_reducible first | exact HK.out | apply Zn.set_ | apply kN | apply kD | apply kA | refine kF ?_ GW442.out _ | refine kF ?_ GW443.out _ | refine kF ?_ GW444.out _ | refine kF ?_ GW445.out _ | refine kF ?_ GW448.out _ | refine kF ?_ GW449.out _) | exact HK.out)) (Zn.of_below hb g none) (.inl rfl))
        have n12_ := aM (Zj (by repeat (first | (with_reducible first | exact HB.out | apply wA | apply wN | apply wD | refine Za ?_ (Zb.ge HI0.out) | refine Za ?_ GE442.out | refine Za ?_ GE443.out | refine Za ?_ GE444.out | refine Za ?_ GE445.out | refine Za ?_ GE448.out | refine Za ?_ GE449.out) | exact HB.out)) hb)
        clear J443 J444 HO488 BK442 BK443 BK444 BK445 BK448 BK449 HI0 HK HB
        have J443 := n0_
        have J444 := n1_
        have HO488 := n2_
        have HO492 := n3_
        have BK442 := n4_
        have BK443 := n5_
        have BK444 := n6_
        have BK445 := n7_
        have BK448 := n8_
        have BK449 := n9_
        have HI0 := n10_
        have HK := n11_
        have HB := n12_
        clear n0_ n1_ n2_ n3_ n4_ n5_ n6_ n7_ n8_ n9_ n10_ n11_ n12_
        (try clear hb)
        (try clear hb2)
        (try clear hk)
        (try clear hi)
        (try clear hge_)
        (try clear ho0)
        refine hK.out _ _ ⟨(Ze BK442.out 0).trans rfl, (Ze BK443.out 0).trans rfl⟩ (fun hHeld => ?_)
        clear hK K
        refine Zb2 (a' := ?_) ?_ ?_
        rotate_left
        ·show Act.put _ (some 108) _ = _
         simp only [Act.put, Qa, Qb, Qc, Z5, Z6]
         rfl
        refine one_ (i := 5) (N := some 111) #[Qt, Qt, Qt, Qt, Qt, Qt, Qf, Qf] rfl rfl (Za6 HT_.out (by kernel_rfl)) (by decide) (fun K hK => ?_)
        refine Zdc Try.func12 (by kernel_rfl) rfl #[.agg #[.slice A2_0 l2_0.length c2_0], .slice Ao141 t486.length co141] (by rfl) rfl rfl (by (try simp only [Qi, Qj, Qk]); first | done | rfl | (simp only [Qe, Qd]; rfl)) ?_
        with_reducible refine (Zm.calls kj15 _ _ l2_0 _ _ t486 t493 _ ?side1 ?side2 ?side3 ?side4 A139.out).mono ?_
        (case side1 => repeat (first | exact (Kd.Zae J444.out).2.2 | (with_reducible refine Kd.Yh ?_ _) | (with_reducible refine Kd.Yg ?_ _) | (with_reducible refine Kd.Yw ?_)))
        (case side2 => exact (Kd.Zae J444.out).2.1)
        (case side3 => repeat (first | exact (Kd.Za9 HO488.out).2.2 | (with_reducible refine Kd.Yh ?_ _) | (with_reducible refine Kd.Yg ?_ _) | (with_reducible refine Kd.Yw ?_)))
        (case side4 => exact (Kd.Za9 HO488.out).2.1)
        rintro e w143 ⟨v494, rfl, ho0, hb⟩
        refine ⟨_, rfl, ?_⟩
        have n0_ := aM (Kd.Zag (by (with_reducible repeat first | apply Kd.Zv | apply Kd.Zu | apply Kd.Z0); exact J443.out) (by first | exact Kd.Y1 ho0 | exact Kd.Y1 (Kd.S_N ho0)) hb)
        have n1_ := aM (Kd.Zag (by (with_reducible repeat first | apply Kd.Zv | apply Kd.Zu | apply Kd.Z0); exact J444.out) (by first | exact Kd.Y1 ho0 | exact Kd.Y1 (Kd.S_N ho0)) hb)
        have n2_ := aM (Kd.Za4 (by (with_reducible repeat first | apply Kd.Ym | apply Kd.Yl | apply Kd.Yy); exact HO488.out) (by first | exact Kd.Y1 ho0 | exact Kd.Y1 (Kd.S_N ho0)) hb)
        have n3_ := aM (Kd.Za4 (by (with_reducible repeat first | apply Kd.Ym | apply Kd.Yl | apply Kd.Yy); exact HO492.out) (by first | exact Kd.Y1 ho0 | exact Kd.Y1 (Kd.S_N ho0)) hb)
        have n4_ := aM (Kd.Zbr (Kd.Yr (ok' := fun k_ => ((P1_0_ k_ ∨ P2_0_ k_) ∨ w.heap.size ≤ k_) ∧ some k_ ≠ (.slice Ao141 t486.length co141 : Value).ownBlock ∧ some k_ ≠ (v491 : Value).ownBlock ∧ k_ ≠ gb442 ∧ k_ ≠ gb443 ∧ k_ ≠ gb444 ∧ k_ ≠ gb445 ∧ k_ ≠ gb448 ∧ k_ ≠ gb449 ∧ k_ ≠ g) (Kd.S_N (Kd.Zcb ho0)) (fun k_ hk_ => ⟨(.inr (Nat.le_trans (Y7 (w := w) (g := g) (row := none) (by repeat (first | (with_reducible first | exact HK.out | apply Zn.set_ | apply kN | apply kD | apply kA | refine kF ?_ GW442.out _ | refine kF ?_ GW443.out _ | refine kF ?_ GW444.out _ | refine kF ?_ GW445.out _ | refine kF ?_ GW448.out _ | refine kF ?_ GW449.out _) | exact HK.out))) hk_.2.1)), (Kd.fresh' (Kd.N_lt (by (with_reducible repeat first | apply Kd.Ym | apply Kd.Yl | apply Kd.Yy); exact HO488.out)) k_ hk_.2.1), (Kd.fresh' (Kd.N_lt (by (with_reducible repeat first | apply Kd.Ym | apply Kd.Yl | apply Kd.Yy); exact HO492.out)) k_ hk_.2.1), (Kd.Y6 (g := gb442) (o := .cells #[.slice A1_0 l1_0.length c1_0] 24 (0, 0)) (by (with_reducible repeat first | apply bN | apply bD | apply bA); exact BK442.out) k_ hk_.2.1), (Kd.Y6 (g := gb443) (o := .cells #[.slice A2_0 l2_0.length c2_0] 24 (0, 0)) (by (with_reducible repeat first | apply bN | apply bD | apply bA); exact BK443.out) k_ hk_.2.1), (Kd.Y6 (g := gb444) (o := .cells #[.slice none 0 0] 24 (0, 0)) (by (with_reducible repeat first | apply bN | apply bD | apply bA); exact BK444.out) k_ hk_.2.1), (Kd.Y6 (g := gb445) (o := .cells #[.slice none 0 0] 24 (0, 0)) (by (with_reducible repeat first | apply bN | apply bD | apply bA); exact BK445.out) k_ hk_.2.1), (Kd.Y6 (g := gb448) (o := .cells #[.slice none 0 0] 24 (0, 0)) (by (with_reducible repeat first | apply bN | apply bD | apply bA); exact BK448.out) k_ hk_.2.1), (Kd.Y6 (g := gb449) (o := .cells #[.slice none 0 0] 24 (0, 0)) (by (with_reducible repeat first | apply bN | apply bD | apply bA); exact BK449.out) k_ hk_.2.1), (Zb.fresh (by repeat (first | (with_reducible first | exact HI0.out | apply Zb.alloc | apply Zb.drewN | apply Zb.drew | apply Zb.Zad | refine Zb.far ?_ NB0_442.out _ | refine Zb.far ?_ NB0_443.out _ | refine Zb.far ?_ NB0_444.out _ | refine Zb.far ?_ NB0_445.out _ | refine Zb.far ?_ NB0_448.out _ | refine Zb.far ?_ NB0_449.out _) | exact HI0.out)) k_ hk_.2.1)⟩)) (Y7 (w := w) (g := g) (row := none) (by repeat (first | (with_reducible first | exact HK.out | apply Zn.set_ | apply kN | apply kD | apply kA | refine kF ?_ GW442.out _ | refine kF ?_ GW443.out _ | refine kF ?_ GW444.out _ | refine kF ?_ GW445.out _ | refine kF ?_ GW448.out _ | refine kF ?_ GW449.out _) | exact HK.out))))
        have n5_ := aM (Zf (g := gb442) (o := .cells #[.slice A1_0 l1_0.length c1_0] 24 (0, 0)) (by (with_reducible repeat first | apply bN | apply bD | apply bA); exact BK442.out) hb)
        have n6_ := aM (Zf (g := gb443) (o := .cells #[.slice A2_0 l2_0.length c2_0] 24 (0, 0)) (by (with_reducible repeat first | apply bN | apply bD | apply bA); exact BK443.out) hb)
        have n7_ := aM (Zf (g := gb444) (o := .cells #[.slice none 0 0] 24 (0, 0)) (by (with_reducible repeat first | apply bN | apply bD | apply bA); exact BK444.out) hb)
        have n8_ := aM (Zf (g := gb445) (o := .cells #[.slice none 0 0] 24 (0, 0)) (by (with_reducible repeat first | apply bN | apply bD | apply bA); exact BK445.out) hb)
        have n9_ := aM (Zf (g := gb448) (o := .cells #[.slice none 0 0] 24 (0, 0)) (by (with_reducible repeat first | apply bN | apply bD | apply bA); exact BK448.out) hb)
        have n10_ := aM (Zf (g := gb449) (o := .cells #[.slice none 0 0] 24 (0, 0)) (by (with_reducible repeat first | apply bN | apply bD | apply bA); exact BK449.out) hb)
        have n11_ := aM (Zb.below (by repeat (first | (with_reducible first | exact HI0.out | apply Zb.alloc | apply Zb.drewN | apply Zb.drew | apply Zb.Zad | refine Zb.far ?_ NB0_442.out _ | refine Zb.far ?_ NB0_443.out _ | refine Zb.far ?_ NB0_444.out _ | refine Zb.far ?_ NB0_445.out _ | refine Zb.far ?_ NB0_448.out _ | refine Zb.far ?_ NB0_449.out _) | exact HI0.out)) hb)
        have n12_ := aM (Zn.trans (by repeat (first | (with_reducible first | exact HK.out | apply Zn.set_ | apply kN | apply kD | apply kA | refine kF ?_ GW442.out _ | refine kF ?_ GW443.out _ | refine kF ?_ GW444.out _ | refine kF ?_ GW445.out _ | refine kF ?_ GW448.out _ | refine kF ?_ GW449.out _) | exact HK.out)) (Zn.of_below hb g none) (.inl rfl))
        have n13_ := aM (Zj (by repeat (first | (with_reducible first | exact HB.out | apply wA | apply wN | apply wD | refine Za ?_ (Zb.ge HI0.out) | refine Za ?_ GE442.out | refine Za ?_ GE443.out | refine Za ?_ GE444.out | refine Za ?_ GE445.out | refine Za ?_ GE448.out | refine Za ?_ GE449.out) | exact HB.out)) hb)
        clear J443 J444 HO488 HO492 BK442 BK443 BK444 BK445 BK448 BK449 HI0 HK HB
        have J443 := n0_
        have J444 := n1_
        have HO488 := n2_
        have HO492 := n3_
        have HO495 := n4_
        have BK442 := n5_
        have BK443 := n6_
        have BK444 := n7_
        have BK445 := n8_
        have BK448 := n9_
        have BK449 := n10_
        have HI0 := n11_
        have HK := n12_
        have HB := n13_
        clear n0_ n1_ n2_ n3_ n4_ n5_ n6_ n7_ n8_ n9_ n10_ n11_ n12_ n13_
        (try clear hb)
        (try clear hb2)
        (try clear hk)
        (try clear hi)
        (try clear hge_)
        (try clear ho0)
        obtain ⟨Ao144, co144, eo144⟩ := Kd.Zbj HO492.out
        (first | subst eo144 | (injection eo144 with f1_ f2_ f3_; have f4_ := f1_.symm; have f5_ := f3_.symm; clear f1_ f2_ f3_; subst f4_; subst f5_))
        obtain ⟨Ao146, co146, eo146⟩ := Kd.Zbj HO495.out
        (first | subst eo146 | (injection eo146 with f1_ f2_ f3_; have f4_ := f1_.symm; have f5_ := f3_.symm; clear f1_ f2_ f3_; subst f4_; subst f5_))
        refine hK.out _ _ ⟨(Ze BK442.out 0).trans rfl, (Ze BK443.out 0).trans rfl⟩ (fun hHeld => ?_)
        clear hK K
        refine Zb2 (a' := ?_) ?_ ?_
        rotate_left
        ·show Act.put _ (some 111) _ = _
         simp only [Act.put, Qa, Qb, Qc, Z5, Z6]
         rfl
        refine one_ (i := 6) (N := none) #[Qt, Qt, Qt, Qt, Qt, Qt, Qt, Qf] rfl rfl (Za6 HT_.out (by kernel_rfl)) (by decide) (fun K hK => ?_)
        have hs145 : w143.cell? ⟨gb448, 0, none⟩ = some (.slice none 0 0) := (Ze BK448.out 0).trans rfl
        have hfs145 := Zg BK448.out 0
        have hns145_0 := NB442_448.out
        have hns145_1 := NB443_448.out
        have hns145_2 := NB444_448.out
        have hns145_3 := NB445_448.out
        have hns145_5 := NB449_448.out
        have hms145_0 := NB448_442.out
        have hms145_1 := NB448_443.out
        have hms145_2 := NB448_444.out
        have hms145_3 := NB448_445.out
        have hms145_5 := NB448_449.out
        refine Zcp (w1 := ?_) (by rfl) rfl ?_ ?_
        rotate_left
        ·go_simp
         rfl
        refine hK.out _ _ ⟨((cell_far (p := ⟨gb448, _, none⟩) NB442_448.out _).trans (hHeld.1)), ((cell_far (p := ⟨gb448, _, none⟩) NB443_448.out _).trans (hHeld.2))⟩ (fun hHeld => ?_)
        clear hK K
        refine one_ (i := 7) (N := none) #[Qt, Qt, Qt, Qt, Qt, Qt, Qt, Qt] rfl rfl (Za6 HT_.out (by kernel_rfl)) (by decide) (fun K hK => ?_)
        have hs147 : w143.cell? ⟨gb449, 0, none⟩ = some (.slice none 0 0) := (Ze BK449.out 0).trans rfl
        have hfs147 := Zg BK449.out 0
        have hns147_0 := NB442_449.out
        have hns147_1 := NB443_449.out
        have hns147_2 := NB444_449.out
        have hns147_3 := NB445_449.out
        have hns147_4 := NB448_449.out
        have hms147_0 := NB449_442.out
        have hms147_1 := NB449_443.out
        have hms147_2 := NB449_444.out
        have hms147_3 := NB449_445.out
        have hms147_4 := NB449_448.out
        refine Zcp (w1 := ?_) (by rfl) rfl ?_ ?_
        rotate_left
        ·go_simp
         rfl
        refine hK.out _ _ ⟨((cell_far (p := ⟨gb449, _, none⟩) NB442_449.out _).trans (hHeld.1)), ((cell_far (p := ⟨gb449, _, none⟩) NB443_449.out _).trans (hHeld.2))⟩ (fun hHeld => ?_)
        clear hK K
        refine Zcv (Zcf HT_.out (by kernel_rfl)) ?_
        try go_wp2
        go_meet
        case rel => exact ⟨_, (0), (0), (t489), (t490), (t493), (.slice Ao144 t490.length co144), (.slice Ao146 t493.length co146), (by first | rfl | (simp; done) | (simp [*]; done)), (by first | rfl | (simp; done) | (simp [*]; done)), H', ⟨by have := HJ15.out; first | omega | exact Nat.le_refl _⟩, ⟨by (with_reducible repeat first | apply Kd.Zv | apply Kd.Zu | apply Kd.Z0); exact Kd.Yd (Kd.Zbi (p := ⟨gb449, 0, none⟩) (Kd.Zbi (p := ⟨gb448, 0, none⟩) (Kd.Yd (Kd.Yd J443.out (fun k_ hk => (⟨hk, hk.1.1.1.2.2.2.2.2.1⟩ : _ ∧ k_ ≠ gb448))) (fun k_ hk => (⟨hk, hk.1.1.1.1.2.2.2.2.2.2.1⟩ : _ ∧ k_ ≠ gb449))) (fun _ hk => hk.1.2) (.slice Ao144 t490.length co144)) (fun _ hk => hk.2) (.slice Ao146 t493.length co146)) (fun _ hk => ⟨hk.1.1.1.1.1.1, ⟨hk.1.1.1.2, ⟨hk.1.1.2, ⟨hk.1.1.1.1.1.2.1, ⟨hk.1.1.1.1.1.2.2.1, ⟨hk.1.1.1.1.1.2.2.2.1, ⟨hk.1.1.1.1.1.2.2.2.2.1, ⟨hk.1.1.1.1.1.2.2.2.2.2.1, ⟨hk.1.1.1.1.1.2.2.2.2.2.2.1, hk.1.1.1.1.1.2.2.2.2.2.2.2⟩⟩⟩⟩⟩⟩⟩⟩⟩)⟩, ⟨by (with_reducible repeat first | apply Kd.Zv | apply Kd.Zu | apply Kd.Z0); exact Kd.Yd (Kd.Zbi (p := ⟨gb449, 0, none⟩) (Kd.Zbi (p := ⟨gb448, 0, none⟩) (Kd.Yd (Kd.Yd J444.out (fun k_ hk => (⟨hk, hk.1.1.1.2.2.2.2.2.1⟩ : _ ∧ k_ ≠ gb448))) (fun k_ hk => (⟨hk, hk.1.1.1.1.2.2.2.2.2.2.1⟩ : _ ∧ k_ ≠ gb449))) (fun _ hk => hk.1.2) (.slice Ao144 t490.length co144)) (fun _ hk => hk.2) (.slice Ao146 t493.length co146)) (fun _ hk => ⟨hk.1.1.1.1.1.1, ⟨hk.1.1.1.2, ⟨hk.1.1.2, ⟨hk.1.1.1.1.1.2.1, ⟨hk.1.1.1.1.1.2.2.1, ⟨hk.1.1.1.1.1.2.2.2.1, ⟨hk.1.1.1.1.1.2.2.2.2.1, ⟨hk.1.1.1.1.1.2.2.2.2.2.1, ⟨hk.1.1.1.1.1.2.2.2.2.2.2.1, hk.1.1.1.1.1.2.2.2.2.2.2.2⟩⟩⟩⟩⟩⟩⟩⟩⟩)⟩, ⟨by (with_reducible repeat first | apply Kd.Ym | apply Kd.Yl | apply Kd.Yy); exact Kd.Yr (Kd.Zby (p := ⟨gb449, 0, none⟩) (Kd.Zby (p := ⟨gb448, 0, none⟩) (Kd.Yr (Kd.Yr HO492.out (fun k_ hk => (⟨hk, hk.1.2.2.2.2.2.2.1⟩ : _ ∧ k_ ≠ gb448))) (fun k_ hk => (⟨hk, hk.1.1.2.2.2.2.2.2.2.1⟩ : _ ∧ k_ ≠ gb449))) (fun _ hk => hk.1.2) (.slice Ao144 t490.length co144)) (fun _ hk => hk.2) (.slice Ao146 t493.length co146)) (fun _ hk => ⟨hk.1.1.1.1, ⟨hk.1.1.2, ⟨hk.1.1.1.2.2.1, ⟨hk.1.1.1.2.2.2.1, ⟨hk.1.1.1.2.2.2.2.1, ⟨hk.1.1.1.2.2.2.2.2.1, ⟨hk.1.1.1.2.2.2.2.2.2.1, ⟨hk.1.1.1.2.2.2.2.2.2.2.1, hk.1.1.1.2.2.2.2.2.2.2.2⟩⟩⟩⟩⟩⟩⟩⟩)⟩, ⟨by (with_reducible repeat first | apply Kd.Ym | apply Kd.Yl | apply Kd.Yy); exact Kd.Yr (Kd.Zby (p := ⟨gb449, 0, none⟩) (Kd.Zby (p := ⟨gb448, 0, none⟩) (Kd.Yr (Kd.Yr HO495.out (fun k_ hk => (⟨hk, hk.2.2.2.2.2.2.2.1⟩ : _ ∧ k_ ≠ gb448))) (fun k_ hk => (⟨hk, hk.1.2.2.2.2.2.2.2.2.1⟩ : _ ∧ k_ ≠ gb449))) (fun _ hk => hk.1.2) (.slice Ao144 t490.length co144)) (fun _ hk => hk.2) (.slice Ao146 t493.length co146)) (fun _ hk => ⟨hk.1.1.1, ⟨hk.1.1.2.2.1, ⟨hk.1.1.2.2.2.1, ⟨hk.1.1.2.2.2.2.1, ⟨hk.1.1.2.2.2.2.2.1, ⟨hk.1.1.2.2.2.2.2.2.1, ⟨hk.1.1.2.2.2.2.2.2.2.1, ⟨hk.1.1.2.2.2.2.2.2.2.2.1, hk.1.1.2.2.2.2.2.2.2.2.2⟩⟩⟩⟩⟩⟩⟩⟩)⟩, ⟨by (with_reducible repeat first | apply bN | apply bD | apply bA); refine Z8 ?_ NB442_449.out _; (with_reducible repeat first | apply bN | apply bD | apply bA); refine Z8 ?_ NB442_448.out _; (with_reducible repeat first | apply bN | apply bD | apply bA); exact BK442.out⟩, ⟨by (with_reducible repeat first | apply bN | apply bD | apply bA); refine Z8 ?_ NB443_449.out _; (with_reducible repeat first | apply bN | apply bD | apply bA); refine Z8 ?_ NB443_448.out _; (with_reducible repeat first | apply bN | apply bD | apply bA); exact BK443.out⟩, ⟨by (with_reducible repeat first | apply bN | apply bD | apply bA); refine Z8 ?_ NB444_449.out _; (with_reducible repeat first | apply bN | apply bD | apply bA); refine Z8 ?_ NB444_448.out _; (with_reducible repeat first | apply bN | apply bD | apply bA); exact BK444.out⟩, ⟨by (with_reducible repeat first | apply bN | apply bD | apply bA); refine Z8 ?_ NB445_449.out _; (with_reducible repeat first | apply bN | apply bD | apply bA); refine Z8 ?_ NB445_448.out _; (with_reducible repeat first | apply bN | apply bD | apply bA); exact BK445.out⟩, ⟨by (with_reducible repeat first | apply bN | apply bD | apply bA); refine Z8 ?_ NB448_449.out _; (with_reducible repeat first | apply bN | apply bD | apply bA); refine Yo (cs := #[.slice none 0 0]) ?_ 0 _ rfl; (with_reducible repeat first | apply bN | apply bD | apply bA); exact BK448.out⟩, ⟨by (with_reducible repeat first | apply bN | apply bD | apply bA); refine Yo (cs := #[.slice none 0 0]) ?_ 0 _ rfl; (with_reducible repeat first | apply bN | apply bD | apply bA); refine Z8 ?_ NB449_448.out _; (with_reducible repeat first | apply bN | apply bD | apply bA); exact BK449.out⟩, ⟨by repeat (first | (with_reducible first | exact HI0.out | apply Zb.alloc | apply Zb.drewN | apply Zb.drew | apply Zb.Zad | refine Zb.far ?_ NB0_442.out _ | refine Zb.far ?_ NB0_443.out _ | refine Zb.far ?_ NB0_444.out _ | refine Zb.far ?_ NB0_445.out _ | refine Zb.far ?_ NB0_448.out _ | refine Zb.far ?_ NB0_449.out _) | exact HI0.out)⟩, ⟨by repeat (first | (with_reducible first | exact HK.out | apply Zn.set_ | apply kN | apply kD | apply kA | refine kF ?_ GW442.out _ | refine kF ?_ GW443.out _ | refine kF ?_ GW444.out _ | refine kF ?_ GW445.out _ | refine kF ?_ GW448.out _ | refine kF ?_ GW449.out _) | exact HK.out)⟩, ⟨by repeat (first | (with_reducible first | exact HB.out | apply wA | apply wN | apply wD | refine Za ?_ (Zb.ge HI0.out) | refine Za ?_ GE442.out | refine Za ?_ GE443.out | refine Za ?_ GE444.out | refine Za ?_ GE445.out | refine Za ?_ GE448.out | refine Za ?_ GE449.out) | exact HB.out)⟩⟩
       ·rw [if_neg c132] at H
        have c132b0 : (t450 == 5) = false := beq_eq_false_iff_ne.mpr c132
        have c132b1 : (t450 != 5) = true := bne_iff_ne.mpr c132
        replace H := Option.bind_eq_some_iff.mp H
        obtain ⟨⟨t496, t499⟩, A1480, H⟩ := H
        replace H : ((Zat.f l2_0 (wrap64 (t446 - 1))).bind fun bt500 => (if t499 = bt500.2 then ((Zk.f kj15 t496 bt500.1).bind fun t504 => (some (l1_0, l2_0, t504, t451))) else (some (l1_0, l2_0, false, t451)))) = some (r1, r2, r3, r4) := H
        have A148 := aM A1480
        clear A1480
        have HC149 := aM H
        clear H
        have hnb150 := NB442_443.out
        have hnc150 := NB443_442.out
        have hnb151 := NB442_444.out
        have hnc151 := NB444_442.out
        have hnb152 := NB442_445.out
        have hnc152 := NB445_442.out
        have hnb153 := NB442_448.out
        have hnc153 := NB448_442.out
        have hnb154 := NB442_449.out
        have hnc154 := NB449_442.out
        have hnb155 := NB442_0.out
        have hnc155 := NB0_442.out
        have hcz156_0 : wc.cell? ⟨gb442, 0, none⟩ = some (.slice A1_0 l1_0.length c1_0) := (Ze BK442.out 0).trans rfl
        have hfz156_0 := Zg BK442.out 0
        go_upto_region 6 with (first | ((with_reducible refine Yf (f := 15) rfl ?_); refine Zap (some 29) rfl rfl Try.func15 (by kernel_rfl) rfl #[.agg #[.slice A1_0 l1_0.length c1_0], .int .i64 (wrap64 (t446 - 1))] rfl (by (try simp only [Qi, Qj, Qk]); first | done | rfl | (simp only [Qe, Qd]; rfl)) ?_; (with_reducible refine (Za7.calls (fun k_ => (((P1_0_ k_ ∨ P2_0_ k_) ∨ w.heap.size ≤ k_) ∧ (k_ ≠ gb442 ∧ (k_ ≠ gb443 ∧ (k_ ≠ gb444 ∧ (k_ ≠ gb445 ∧ (k_ ≠ gb448 ∧ (k_ ≠ gb449 ∧ k_ ≠ g)))))))) _ _ l1_0 (wrap64 (t446 - 1)) t496 t499 _ ?side1 A148.out).mono ?_); (case side1 => exact J443.out); rintro e w157 ⟨v497, rfl, ho0, hb⟩; refine ⟨_, rfl, ?_⟩; have n0_ := aM (Kd.Zag (by (with_reducible repeat first | apply Kd.Zv | apply Kd.Zu | apply Kd.Z0); exact J443.out) (Kd.Zbg ho0) hb); have n1_ := aM (Kd.Zag (by (with_reducible repeat first | apply Kd.Zv | apply Kd.Zu | apply Kd.Z0); exact J444.out) (Kd.Zbg ho0) hb); have n2_ := aM (Kd.Zb1 (Kd.Ze5 (M := fun k_ => (w.heap.size ≤ k_)) (Kd.Zar (ok' := fun k_ => True) ho0 (fun _ hk_ => trivial)) (Y7 (w := w) (g := g) (row := none) (by repeat (first | (with_reducible first | exact HK.out | apply Zn.set_ | apply kN | apply kD | apply kA | refine kF ?_ GW442.out _ | refine kF ?_ GW443.out _ | refine kF ?_ GW444.out _ | refine kF ?_ GW445.out _ | refine kF ?_ GW448.out _ | refine kF ?_ GW449.out _) | exact HK.out))) (fun k_ h_ => h_)) (Y7 (w := w) (g := g) (row := none) (by repeat (first | (with_reducible first | exact HK.out | apply Zn.set_ | apply kN | apply kD | apply kA | refine kF ?_ GW442.out _ | refine kF ?_ GW443.out _ | refine kF ?_ GW444.out _ | refine kF ?_ GW445.out _ | refine kF ?_ GW448.out _ | refine kF ?_ GW449.out _) | exact HK.out)))); have n3_ := aM (Zf (g := gb442) (o := .cells #[.slice A1_0 l1_0.length c1_0] 24 (0, 0)) (by (with_reducible repeat first | apply bN | apply bD | apply bA); exact BK442.out) hb); have n4_ := aM (Zf (g := gb443) (o := .cells #[.slice A2_0 l2_0.length c2_0] 24 (0, 0)) (by (with_reducible repeat first | apply bN | apply bD | apply bA); exact BK443.out) hb); have n5_ := aM (Zf (g := gb444) (o := .cells #[.slice none 0 0] 24 (0, 0)) (by (with_reducible repeat first | apply bN | apply bD | apply bA); exact BK444.out) hb); have n6_ := aM (Zf (g := gb445) (o := .cells #[.slice none 0 0] 24 (0, 0)) (by (with_reducible repeat first | apply bN | apply bD | apply bA); exact BK445.out) hb); have n7_ := aM (Zf (g := gb448) (o := .cells #[.slice none 0 0] 24 (0, 0)) (by (with_reducible repeat first | apply bN | apply bD | apply bA); exact BK448.out) hb); have n8_ := aM (Zf (g := gb449) (o := .cells #[.slice none 0 0] 24 (0, 0)) (by (with_reducible repeat first | apply bN | apply bD | apply bA); exact BK449.out) hb); have n9_ := aM (Zb.below (by repeat (first | (with_reducible first | exact HI0.out | apply Zb.alloc | apply Zb.drewN | apply Zb.drew | apply Zb.Zad | refine Zb.far ?_ NB0_442.out _ | refine Zb.far ?_ NB0_443.out _ | refine Zb.far ?_ NB0_444.out _ | refine Zb.far ?_ NB0_445.out _ | refine Zb.far ?_ NB0_448.out _ | refine Zb.far ?_ NB0_449.out _) | exact HI0.out)) hb); have n10_ := aM (Zn.trans (by repeat (first | (with_reducible first | exact HK.out | apply Zn.set_ | apply kN | apply kD | apply kA | refine kF ?_ GW442.out _ | refine kF ?_ GW443.out _ | refine kF ?_ GW444.out _ | refine kF ?_ GW445.out _ | refine kF ?_ GW448.out _ | refine kF ?_ GW449.out _) | exact HK.out)) (Zn.of_below hb g none) (.inl rfl)); have n11_ := aM (Zj (by repeat (first | (with_reducible first | exact HB.out | apply wA | apply wN | apply wD | refine Za ?_ (Zb.ge HI0.out) | refine Za ?_ GE442.out | refine Za ?_ GE443.out | refine Za ?_ GE444.out | refine Za ?_ GE445.out | refine Za ?_ GE448.out | refine Za ?_ GE449.out) | exact HB.out)) hb); clear J443 J444 BK442 BK443 BK444 BK445 BK448 BK449 HI0 HK HB; have J443 := n0_; have J444 := n1_; have HO498 := n2_; have BK442 := n3_; have BK443 := n4_; have BK444 := n5_; have BK445 := n6_; have BK448 := n7_; have BK449 := n8_; have HI0 := n9_; have HK := n10_; have HB := n11_; clear n0_ n1_ n2_ n3_ n4_ n5_ n6_ n7_ n8_ n9_ n10_ n11_; (try clear hb); (try clear hb2); (try clear hk); (try clear hi); (try clear hge_); (try clear ho0)))
        (try simp only [Act.put, Qa, Qb, Qc])
        have H := HC149.out
        clear HC149
        replace H := Option.bind_eq_some_iff.mp H
        obtain ⟨⟨t500, t503⟩, A1580, H⟩ := H
        replace H : (if t499 = t503 then ((Zk.f kj15 t496 t500).bind fun t504 => (some (l1_0, l2_0, t504, t451))) else (some (l1_0, l2_0, false, t451))) = some (r1, r2, r3, r4) := H
        have A158 := aM A1580
        clear A1580
        have HC159 := aM H
        clear H
        have hnb160 := NB443_442.out
        have hnc160 := NB442_443.out
        have hnb161 := NB443_444.out
        have hnc161 := NB444_443.out
        have hnb162 := NB443_445.out
        have hnc162 := NB445_443.out
        have hnb163 := NB443_448.out
        have hnc163 := NB448_443.out
        have hnb164 := NB443_449.out
        have hnc164 := NB449_443.out
        have hnb165 := NB443_0.out
        have hnc165 := NB0_443.out
        have hcz166_0 : w157.cell? ⟨gb443, 0, none⟩ = some (.slice A2_0 l2_0.length c2_0) := (Ze BK443.out 0).trans rfl
        have hfz166_0 := Zg BK443.out 0
        go_upto_region 7 with (first | ((with_reducible refine Yf (f := 34) rfl ?_); refine Zap (some 35) rfl rfl Try.func34 (by kernel_rfl) rfl #[.agg #[.slice A2_0 l2_0.length c2_0], .int .i64 (wrap64 (t446 - 1))] rfl (by (try simp only [Qi, Qj, Qk]); first | done | rfl | (simp only [Qe, Qd]; rfl)) ?_; (with_reducible refine (Zat.calls _ _ l2_0 (wrap64 (t446 - 1)) t500 t503 _ ?side1 ?side2 A158.out).mono ?_); (case side1 => repeat (first | exact (Kd.Zae J444.out).2.2 | (with_reducible refine Kd.Yh ?_ _) | (with_reducible refine Kd.Yg ?_ _) | (with_reducible refine Kd.Yw ?_))); (case side2 => exact (Kd.Zae J444.out).2.1); rintro e w167 ⟨v501, rfl, ho0, hb⟩; refine ⟨_, rfl, ?_⟩; have n0_ := aM (Kd.Zag (by (with_reducible repeat first | apply Kd.Zv | apply Kd.Zu | apply Kd.Z0); exact J443.out) (Kd.Zbg ho0) hb); have n1_ := aM (Kd.Zag (by (with_reducible repeat first | apply Kd.Zv | apply Kd.Zu | apply Kd.Z0); exact J444.out) (Kd.Zbg ho0) hb); have n2_ := aM (Kd.Zdm (by (with_reducible repeat first | apply Kd.Zab | apply Kd.Yu | apply Kd.Zai); exact HO498.out) (Kd.Zbg ho0) hb); have n3_ := aM (Kd.Zb1 (Kd.R_new' (Kd.Ze5 (M := fun k_ => (w.heap.size ≤ k_)) ho0 (Y7 (w := w) (g := g) (row := none) (by repeat (first | (with_reducible first | exact HK.out | apply Zn.set_ | apply kN | apply kD | apply kA | refine kF ?_ GW442.out _ | refine kF ?_ GW443.out _ | refine kF ?_ GW444.out _ | refine kF ?_ GW445.out _ | refine kF ?_ GW448.out _ | refine kF ?_ GW449.out _) | exact HK.out))) (fun k_ h_ => h_)) (Kd.R_lt (by (with_reducible repeat first | apply Kd.Zab | apply Kd.Yu | apply Kd.Zai); exact HO498.out))) (Y7 (w := w) (g := g) (row := none) (by repeat (first | (with_reducible first | exact HK.out | apply Zn.set_ | apply kN | apply kD | apply kA | refine kF ?_ GW442.out _ | refine kF ?_ GW443.out _ | refine kF ?_ GW444.out _ | refine kF ?_ GW445.out _ | refine kF ?_ GW448.out _ | refine kF ?_ GW449.out _) | exact HK.out)))); have n4_ := aM (Zf (g := gb442) (o := .cells #[.slice A1_0 l1_0.length c1_0] 24 (0, 0)) (by (with_reducible repeat first | apply bN | apply bD | apply bA); exact BK442.out) hb); have n5_ := aM (Zf (g := gb443) (o := .cells #[.slice A2_0 l2_0.length c2_0] 24 (0, 0)) (by (with_reducible repeat first | apply bN | apply bD | apply bA); exact BK443.out) hb); have n6_ := aM (Zf (g := gb444) (o := .cells #[.slice none 0 0] 24 (0, 0)) (by (with_reducible repeat first | apply bN | apply bD | apply bA); exact BK444.out) hb); have n7_ := aM (Zf (g := gb445) (o := .cells #[.slice none 0 0] 24 (0, 0)) (by (with_reducible repeat first | apply bN | apply bD | apply bA); exact BK445.out) hb); have n8_ := aM (Zf (g := gb448) (o := .cells #[.slice none 0 0] 24 (0, 0)) (by (with_reducible repeat first | apply bN | apply bD | apply bA); exact BK448.out) hb); have n9_ := aM (Zf (g := gb449) (o := .cells #[.slice none 0 0] 24 (0, 0)) (by (with_reducible repeat first | apply bN | apply bD | apply bA); exact BK449.out) hb); have n10_ := aM (Zb.below (by repeat (first | (with_reducible first | exact HI0.out | apply Zb.alloc | apply Zb.drewN | apply Zb.drew | apply Zb.Zad | refine Zb.far ?_ NB0_442.out _ | refine Zb.far ?_ NB0_443.out _ | refine Zb.far ?_ NB0_444.out _ | refine Zb.far ?_ NB0_445.out _ | refine Zb.far ?_ NB0_448.out _ | refine Zb.far ?_ NB0_449.out _) | exact HI0.out)) hb); have n11_ := aM (Zn.trans (by repeat (first | (with_reducible first | exact HK.out | apply Zn.set_ | apply kN | apply kD | apply kA | refine kF ?_ GW442.out _ | refine kF ?_ GW443.out _ | refine kF ?_ GW444.out _ | refine kF ?_ GW445.out _ | refine kF ?_ GW448.out _ | refine kF ?_ GW449.out _) | exact HK.out)) (Zn.of_below hb g none) (.inl rfl)); have n12_ := aM (Zj (by repeat (first | (with_reducible first | exact HB.out | apply wA | apply wN | apply wD | refine Za ?_ (Zb.ge HI0.out) | refine Za ?_ GE442.out | refine Za ?_ GE443.out | refine Za ?_ GE444.out | refine Za ?_ GE445.out | refine Za ?_ GE448.out | refine Za ?_ GE449.out) | exact HB.out)) hb); clear J443 J444 HO498 BK442 BK443 BK444 BK445 BK448 BK449 HI0 HK HB; have J443 := n0_; have J444 := n1_; have HO498 := n2_; have HO502 := n3_; have BK442 := n4_; have BK443 := n5_; have BK444 := n6_; have BK445 := n7_; have BK448 := n8_; have BK449 := n9_; have HI0 := n10_; have HK := n11_; have HB := n12_; clear n0_ n1_ n2_ n3_ n4_ n5_ n6_ n7_ n8_ n9_ n10_ n11_ n12_; (try clear hb); (try clear hb2); (try clear hk); (try clear hi); (try clear hge_); (try clear ho0)))
        (try simp only [Act.put, Qa, Qb, Qc])
        have H := HC159.out
        clear HC159
        by_cases c168 : t499 = t503
        ·rw [if_pos c168] at H
         have c168b0 : (t499 == t503) = true := beq_iff_eq.mpr c168
         have c168b1 : (t499 != t503) = false := bne_eq_false_iff_eq.mpr c168
         clear c168
         replace H := Option.bind_eq_some_iff.mp H
         obtain ⟨t504, A1690, H⟩ := H
         replace H : (some (l1_0, l2_0, t504, t451)) = some (r1, r2, r3, r4) := H
         have A169 := aM A1690
         clear A1690
         simp only [Option.some.injEq, Prod.mk.injEq] at H
         obtain ⟨rfl, rfl, rfl, rfl⟩ := H
         try go_wp2
         have n0_ := aM (Kd.Z0 J443.out)
         have n1_ := aM (Kd.Z0 J444.out)
         have n2_ := aM (Kd.Zai HO498.out)
         have n3_ := aM (Kd.Zai HO502.out)
         have n4_ := aM (bD BK442.out)
         have n5_ := aM (bD BK443.out)
         have n6_ := aM (bD BK444.out)
         have n7_ := aM (bD BK445.out)
         have n8_ := aM (bD BK448.out)
         have n9_ := aM (bD BK449.out)
         have n10_ := aM (Zb.drew HI0.out)
         have n11_ := aM (kD HK.out)
         have n12_ := aM (wD HB.out)
         clear J443 J444 HO498 HO502 BK442 BK443 BK444 BK445 BK448 BK449 HI0 HK HB
         have J443 := n0_
         have J444 := n1_
         have HO498 := n2_
         have HO502 := n3_
         have BK442 := n4_
         have BK443 := n5_
         have BK444 := n6_
         have BK445 := n7_
         have BK448 := n8_
         have BK449 := n9_
         have HI0 := n10_
         have HK := n11_
         have HB := n12_
         clear n0_ n1_ n2_ n3_ n4_ n5_ n6_ n7_ n8_ n9_ n10_ n11_ n12_
         obtain ⟨Ao171, co171, eo171⟩ := Kd.Za2 HO498.out
         (first | subst eo171 | (injection eo171 with f1_ f2_ f3_; have f4_ := f1_.symm; have f5_ := f3_.symm; clear f1_ f2_ f3_; subst f4_; subst f5_))
         obtain ⟨Ao172, co172, eo172⟩ := Kd.Za2 HO502.out
         (first | subst eo172 | (injection eo172 with f1_ f2_ f3_; have f4_ := f1_.symm; have f5_ := f3_.symm; clear f1_ f2_ f3_; subst f4_; subst f5_))
         refine Zb9 (n := 13) (S := fun w' => w'.cell? ⟨gb442, 0, none⟩ = some (.slice A1_0 l1_0.length c1_0) ∧ w'.cell? ⟨gb443, 0, none⟩ = some (.slice A2_0 l2_0.length c2_0)) (ds := []) #[Qf, Qf, Qf, Qf, Qf, Qf, Qf, Qf, Qf, Qf, Qf, Qf, Qf] (by kernel_rfl) rfl rfl ⟨(Ze BK442.out 0).trans rfl, (Ze BK443.out 0).trans rfl⟩ (fun hHeld => ?_); refine Zbs Zc.tab7 Zc.bits7 (fun HT_ HW_ => ?_)
         generalize w167.drew = w170 at J443 J444 HO498 HO502 BK442 BK443 BK444 BK445 BK448 BK449 HI0 HK HB hHeld ⊢
         refine Yq (i := 2) (N := some 40) (v := ?_) (a' := ?_) #[Qf, Qf, Qt, Qf, Qf, Qf, Qf, Qf, Qf, Qf, Qf, Qf, Qf] rfl rfl (Yk HT_.out (by kernel_rfl)) (fun _ _ _ h => h) (Or.inl ⟨by rfl, ?_⟩) ?_ ?_
         rotate_left
         ·intro w'
          go_simp
          with_reducible rfl
         rotate_left
         ·simp only [Act.put, Qa, Qb, Qc, Z5, Z6]
          rfl
         refine Yq (i := 3) (N := some 41) (v := ?_) (a' := ?_) #[Qf, Qf, Qt, Qt, Qf, Qf, Qf, Qf, Qf, Qf, Qf, Qf, Qf] rfl rfl (Yk HT_.out (by kernel_rfl)) (fun _ _ _ h => h) (Or.inl ⟨by rfl, ?_⟩) ?_ ?_
         rotate_left
         ·intro w'
          go_simp
          with_reducible rfl
         rotate_left
         ·simp only [Act.put, Qa, Qb, Qc, Z5, Z6]
          rfl
         refine Yq (i := 4) (N := some 42) (v := ?_) (a' := ?_) #[Qf, Qf, Qt, Qt, Qt, Qf, Qf, Qf, Qf, Qf, Qf, Qf, Qf] rfl rfl (Yk HT_.out (by kernel_rfl)) (fun _ _ _ h => h) (Or.inl ⟨by rfl, ?_⟩) ?_ ?_
         rotate_left
         ·intro w'
          go_simp
          with_reducible rfl
         rotate_left
         ·simp only [Act.put, Qa, Qb, Qc, Z5, Z6]
          rfl
         refine Yq (i := 5) (N := some 43) (v := ?_) (a' := ?_) #[Qf, Qf, Qt, Qt, Qt, Qt, Qf, Qf, Qf, Qf, Qf, Qf, Qf] rfl rfl (Yk HT_.out (by kernel_rfl)) (fun _ _ _ h => h) (Or.inl ⟨by rfl, ?_⟩) ?_ ?_
         rotate_left
         ·intro w'
          go_simp
          with_reducible rfl
         rotate_left
         ·simp only [Act.put, Qa, Qb, Qc, Z5, Z6]
          rfl
         refine Yq (i := 6) (N := some 44) (v := ?_) (a' := ?_) #[Qf, Qf, Qt, Qt, Qt, Qt, Qt, Qf, Qf, Qf, Qf, Qf, Qf] rfl rfl (Yk HT_.out (by kernel_rfl)) (fun _ _ _ h => h) (Or.inl ⟨by rfl, ?_⟩) ?_ ?_
         rotate_left
         ·intro w'
          go_simp
          with_reducible rfl
         rotate_left
         ·simp only [Act.put, Qa, Qb, Qc, Z5, Z6]
          rfl
         refine Yq (i := 7) (N := some 45) (v := ?_) (a' := ?_) #[Qf, Qf, Qt, Qt, Qt, Qt, Qt, Qt, Qf, Qf, Qf, Qf, Qf] rfl rfl (Yk HT_.out (by kernel_rfl)) (fun _ _ _ h => h) (Or.inl ⟨by rfl, ?_⟩) ?_ ?_
         rotate_left
         ·intro w'
          go_simp
          with_reducible rfl
         rotate_left
         ·simp only [Act.put, Qa, Qb, Qc, Z5, Z6]
          rfl
         refine Za5 (i := 0) (N := some 38) (v := ?_) (a' := ?_) #[Qt, Qf, Qt, Qt, Qt, Qt, Qt, Qt, Qf, Qf, Qf, Qf, Qf] rfl rfl (Zac HT_.out HW_.out (by kernel_rfl)) (fun _ _ _ h => h) (Or.inl ⟨by rfl, ?_⟩) hHeld ?_ ?_
         rotate_left
         ·rintro w' ⟨s0, s1⟩
          go_simp
          with_reducible rfl
         rotate_left
         ·simp only [Act.put, Qa, Qb, Qc, Z5, Z6]
          rfl
         refine Za5 (i := 1) (N := some 39) (v := ?_) (a' := ?_) #[Qt, Qt, Qt, Qt, Qt, Qt, Qt, Qt, Qf, Qf, Qf, Qf, Qf] rfl rfl (Zac HT_.out HW_.out (by kernel_rfl)) (fun _ _ _ h => h) (Or.inl ⟨by rfl, ?_⟩) hHeld ?_ ?_
         rotate_left
         ·rintro w' ⟨s0, s1⟩
          go_simp
          with_reducible rfl
         rotate_left
         ·simp only [Act.put, Qa, Qb, Qc, Z5, Z6]
          rfl
         refine one_ (i := 8) (N := some 46) #[Qt, Qt, Qt, Qt, Qt, Qt, Qt, Qt, Qt, Qf, Qf, Qf, Qf] rfl rfl (Za6 HT_.out (by kernel_rfl)) (by decide) (fun K hK => ?_)
         refine Zdc Try.func19 (by kernel_rfl) rfl #[.slice Ao171 t496.length co171, .slice Ao172 t500.length co172] (by rfl) rfl rfl (by (try simp only [Qi, Qj, Qk]); first | done | rfl | (simp only [Qe, Qd]; rfl)) ?_
         with_reducible refine (Zk.calls kj15 _ _ t496 _ _ t500 t504 _ ?side1 ?side2 ?side3 ?side4 A169.out).mono ?_
         (case side1 => repeat (first | exact (Kd.Zah HO498.out).2.2 | (with_reducible refine Kd.Yh ?_ _) | (with_reducible refine Kd.Yg ?_ _) | (with_reducible refine Kd.Yw ?_)))
         (case side2 => exact (Kd.Zah HO498.out).2.1)
         (case side3 => repeat (first | exact (Kd.Zah HO502.out).2.2 | (with_reducible refine Kd.Yh ?_ _) | (with_reducible refine Kd.Yg ?_ _) | (with_reducible refine Kd.Yw ?_)))
         (case side4 => exact (Kd.Zah HO502.out).2.1)
         rintro e w' ⟨rfl, ⟨nd, rfl⟩⟩
         refine ⟨_, rfl, ?_⟩
         refine hK.out _ _ ⟨(Ze BK442.out 0).trans rfl, (Ze BK443.out 0).trans rfl⟩ (fun hHeld => ?_)
         clear hK K
         refine Zb2 (a' := ?_) ?_ ?_
         rotate_left
         ·show Act.put _ (some 46) _ = _
          simp only [Act.put, Qa, Qb, Qc, Z5, Z6]
          rfl
         refine Yq (i := 9) (N := some 47) (v := ?_) (a' := ?_) #[Qt, Qt, Qt, Qt, Qt, Qt, Qt, Qt, Qt, Qt, Qf, Qf, Qf] rfl rfl (Yk HT_.out (by kernel_rfl)) (fun _ _ _ h => h) (Or.inl ⟨by rfl, ?_⟩) ?_ ?_
         rotate_left
         ·intro w'
          go_simp
          with_reducible rfl
         rotate_left
         ·simp only [Act.put, Qa, Qb, Qc, Z5, Z6]
          rfl
         refine one_ (i := 10) (N := none) #[Qt, Qt, Qt, Qt, Qt, Qt, Qt, Qt, Qt, Qt, Qt, Qf, Qf] rfl rfl (Za6 HT_.out (by kernel_rfl)) (by decide) (fun K hK => ?_)
         have hs173 : w170.cell? ⟨gb444, 0, none⟩ = some (.slice none 0 0) := (Ze BK444.out 0).trans rfl
         have hfs173 := Zg BK444.out 0
         have hns173_0 := NB442_444.out
         have hns173_1 := NB443_444.out
         have hns173_3 := NB445_444.out
         have hns173_4 := NB448_444.out
         have hns173_5 := NB449_444.out
         have hms173_0 := NB444_442.out
         have hms173_1 := NB444_443.out
         have hms173_3 := NB444_445.out
         have hms173_4 := NB444_448.out
         have hms173_5 := NB444_449.out
         refine Zcp (w1 := ?_) (by rfl) rfl ?_ ?_
         rotate_left
         ·go_simp
          rfl
         refine hK.out _ _ ⟨((cell_far (p := ⟨gb444, _, none⟩) NB442_444.out _).trans (hHeld.1)), ((cell_far (p := ⟨gb444, _, none⟩) NB443_444.out _).trans (hHeld.2))⟩ (fun hHeld => ?_)
         clear hK K
         refine one_ (i := 11) (N := none) #[Qt, Qt, Qt, Qt, Qt, Qt, Qt, Qt, Qt, Qt, Qt, Qt, Qf] rfl rfl (Za6 HT_.out (by kernel_rfl)) (by decide) (fun K hK => ?_)
         have hs174 : w170.cell? ⟨gb445, 0, none⟩ = some (.slice none 0 0) := (Ze BK445.out 0).trans rfl
         have hfs174 := Zg BK445.out 0
         have hns174_0 := NB442_445.out
         have hns174_1 := NB443_445.out
         have hns174_2 := NB444_445.out
         have hns174_4 := NB448_445.out
         have hns174_5 := NB449_445.out
         have hms174_0 := NB445_442.out
         have hms174_1 := NB445_443.out
         have hms174_2 := NB445_444.out
         have hms174_4 := NB445_448.out
         have hms174_5 := NB445_449.out
         refine Zcp (w1 := ?_) (by rfl) rfl ?_ ?_
         rotate_left
         ·go_simp
          rfl
         refine hK.out _ _ ⟨((cell_far (p := ⟨gb445, _, none⟩) NB442_445.out _).trans (hHeld.1)), ((cell_far (p := ⟨gb445, _, none⟩) NB443_445.out _).trans (hHeld.2))⟩ (fun hHeld => ?_)
         clear hK K
         refine Yq (i := 12) (N := some 8) (v := ?_) (a' := ?_) #[Qt, Qt, Qt, Qt, Qt, Qt, Qt, Qt, Qt, Qt, Qt, Qt, Qt] rfl rfl (Yk HT_.out (by kernel_rfl)) (fun _ _ _ h => h) (Or.inl ⟨by rfl, ?_⟩) ?_ ?_
         rotate_left
         ·intro w'
          go_simp
          with_reducible rfl
         rotate_left
         ·simp only [Act.put, Qa, Qb, Qc, Z5, Z6]
          rfl
         refine Zcv (Zcf HT_.out (by kernel_rfl)) ?_
         try go_wp2
         refine bodyPost_ret (Zck (rs := [.cell 6 24, .cell 7 24, .tmp 8]) rfl (by simp) (.cell gb444 24 #[.slice A1_0 l1_0.length c1_0] (0, 0) _ rfl (by (with_reducible repeat first | apply bN | apply bD | apply bA); refine Z8 ?_ NB444_445.out _; (with_reducible repeat first | apply bN | apply bD | apply bA); refine Yo (cs := #[.slice none 0 0]) ?_ 0 _ rfl; (with_reducible repeat first | apply bN | apply bD | apply bA); exact BK444.out) Try.underlying24 rfl (by kernel_rfl) (.cell gb445 24 #[.slice A2_0 l2_0.length c2_0] (0, 0) _ rfl (by (with_reducible repeat first | apply bN | apply bD | apply bA); refine Yo (cs := #[.slice none 0 0]) ?_ 0 _ rfl; (with_reducible repeat first | apply bN | apply bD | apply bA); refine Z8 ?_ NB445_444.out _; (with_reducible repeat first | apply bN | apply bD | apply bA); exact BK445.out) Try.underlying24 rfl (by kernel_rfl) (.tmp .nil)))) rfl ?_
         exact ⟨_, _, by first | rfl | (simp [Zy, Zx] <;> rfl) | (simp [*, Zy, Zx] <;> rfl), by (with_reducible repeat first | apply Kd.Zv | apply Kd.Zu | apply Kd.Z0); exact Kd.Yd (Kd.Zbi (p := ⟨gb445, 0, none⟩) (Kd.Zbi (p := ⟨gb444, 0, none⟩) (Kd.Yd (Kd.Yd J443.out (fun k_ hk => (⟨hk, hk.1.1.2.2.2.1⟩ : _ ∧ k_ ≠ gb444))) (fun k_ hk => (⟨hk, hk.1.1.1.2.2.2.2.1⟩ : _ ∧ k_ ≠ gb445))) (fun _ hk => hk.1.2) (.slice A1_0 l1_0.length c1_0)) (fun _ hk => hk.2) (.slice A2_0 l2_0.length c2_0)) (fun _ hk => hk.1.1.1.1.1), by (with_reducible repeat first | apply Kd.Zv | apply Kd.Zu | apply Kd.Z0); exact Kd.Yd (Kd.Zbi (p := ⟨gb445, 0, none⟩) (Kd.Zbi (p := ⟨gb444, 0, none⟩) (Kd.Yd (Kd.Yd J444.out (fun k_ hk => (⟨hk, hk.1.1.2.2.2.1⟩ : _ ∧ k_ ≠ gb444))) (fun k_ hk => (⟨hk, hk.1.1.1.2.2.2.2.1⟩ : _ ∧ k_ ≠ gb445))) (fun _ hk => hk.1.2) (.slice A1_0 l1_0.length c1_0)) (fun _ hk => hk.2) (.slice A2_0 l2_0.length c2_0)) (fun _ hk => hk.1.1.1.1.1), by repeat (first | (with_reducible first | exact HI0.out | apply Zb.alloc | apply Zb.drewN | apply Zb.drew | apply Zb.Zad | refine Zb.far ?_ NB0_442.out _ | refine Zb.far ?_ NB0_443.out _ | refine Zb.far ?_ NB0_444.out _ | refine Zb.far ?_ NB0_445.out _ | refine Zb.far ?_ NB0_448.out _ | refine Zb.far ?_ NB0_449.out _) | exact HI0.out), by repeat (first | (with_reducible first | exact HB.out | apply wA | apply wN | apply wD | refine Za ?_ (Zb.ge HI0.out) | refine Za ?_ GE442.out | refine Za ?_ GE443.out | refine Za ?_ GE444.out | refine Za ?_ GE445.out | refine Za ?_ GE448.out | refine Za ?_ GE449.out) | exact HB.out), by repeat (first | (with_reducible first | exact HK.out | apply Zn.set_ | apply kN | apply kD | apply kA | refine kF ?_ GW442.out _ | refine kF ?_ GW443.out _ | refine kF ?_ GW444.out _ | refine kF ?_ GW445.out _ | refine kF ?_ GW448.out _ | refine kF ?_ GW449.out _) | exact HK.out)⟩
        ·rw [if_neg c168] at H
         have c168b0 : (t499 == t503) = false := beq_eq_false_iff_ne.mpr c168
         have c168b1 : (t499 != t503) = true := bne_iff_ne.mpr c168
         simp only [Option.some.injEq, Prod.mk.injEq] at H
         obtain ⟨rfl, rfl, rfl, rfl⟩ := H
         try go_wp2
         have n0_ := aM (Kd.Z0 J443.out)
         have n1_ := aM (Kd.Z0 J444.out)
         have n2_ := aM (Kd.Zai HO498.out)
         have n3_ := aM (Kd.Zai HO502.out)
         have n4_ := aM (bD BK442.out)
         have n5_ := aM (bD BK443.out)
         have n6_ := aM (bD BK444.out)
         have n7_ := aM (bD BK445.out)
         have n8_ := aM (bD BK448.out)
         have n9_ := aM (bD BK449.out)
         have n10_ := aM (Zb.drew HI0.out)
         have n11_ := aM (kD HK.out)
         have n12_ := aM (wD HB.out)
         clear J443 J444 HO498 HO502 BK442 BK443 BK444 BK445 BK448 BK449 HI0 HK HB
         have J443 := n0_
         have J444 := n1_
         have HO498 := n2_
         have HO502 := n3_
         have BK442 := n4_
         have BK443 := n5_
         have BK444 := n6_
         have BK445 := n7_
         have BK448 := n8_
         have BK449 := n9_
         have HI0 := n10_
         have HK := n11_
         have HB := n12_
         clear n0_ n1_ n2_ n3_ n4_ n5_ n6_ n7_ n8_ n9_ n10_ n11_ n12_
         refine Zb9 (n := 13) (S := fun w' => w'.cell? ⟨gb442, 0, none⟩ = some (.slice A1_0 l1_0.length c1_0) ∧ w'.cell? ⟨gb443, 0, none⟩ = some (.slice A2_0 l2_0.length c2_0)) (ds := []) #[Qf, Qf, Qf, Qf, Qf, Qf, Qf, Qf, Qf, Qf, Qf, Qf, Qf] (by kernel_rfl) rfl rfl ⟨(Ze BK442.out 0).trans rfl, (Ze BK443.out 0).trans rfl⟩ (fun hHeld => ?_); refine Zbs Zc.tab7 Zc.bits7 (fun HT_ HW_ => ?_)
         generalize w167.drew = w175 at J443 J444 HO498 HO502 BK442 BK443 BK444 BK445 BK448 BK449 HI0 HK HB hHeld ⊢
         refine Yq (i := 2) (N := some 40) (v := ?_) (a' := ?_) #[Qf, Qf, Qt, Qf, Qf, Qf, Qf, Qf, Qf, Qf, Qf, Qf, Qf] rfl rfl (Yk HT_.out (by kernel_rfl)) (fun _ _ _ h => h) (Or.inl ⟨by rfl, ?_⟩) ?_ ?_
         rotate_left
         ·intro w'
          go_simp
          with_reducible rfl
         rotate_left
         ·simp only [Act.put, Qa, Qb, Qc, Z5, Z6]
          rfl
         refine Yq (i := 3) (N := some 41) (v := ?_) (a' := ?_) #[Qf, Qf, Qt, Qt, Qf, Qf, Qf, Qf, Qf, Qf, Qf, Qf, Qf] rfl rfl (Yk HT_.out (by kernel_rfl)) (fun _ _ _ h => h) (Or.inl ⟨by rfl, ?_⟩) ?_ ?_
         rotate_left
         ·intro w'
          go_simp
          with_reducible rfl
         rotate_left
         ·simp only [Act.put, Qa, Qb, Qc, Z5, Z6]
          rfl
         refine Yq (i := 4) (N := some 42) (v := ?_) (a' := ?_) #[Qf, Qf, Qt, Qt, Qt, Qf, Qf, Qf, Qf, Qf, Qf, Qf, Qf] rfl rfl (Yk HT_.out (by kernel_rfl)) (fun _ _ _ h => h) (Or.inl ⟨by rfl, ?_⟩) ?_ ?_
         rotate_left
         ·intro w'
          go_simp
          with_reducible rfl
         rotate_left
         ·simp only [Act.put, Qa, Qb, Qc, Z5, Z6]
          rfl
         refine Yq (i := 5) (N := some 43) (v := ?_) (a' := ?_) #[Qf, Qf, Qt, Qt, Qt, Qt, Qf, Qf, Qf, Qf, Qf, Qf, Qf] rfl rfl (Yk HT_.out (by kernel_rfl)) (fun _ _ _ h => h) (Or.inl ⟨by rfl, ?_⟩) ?_ ?_
         rotate_left
         ·intro w'
          go_simp
          with_reducible rfl
         rotate_left
         ·simp only [Act.put, Qa, Qb, Qc, Z5, Z6]
          rfl
         refine Yq (i := 6) (N := some 44) (v := undef) (a' := ?_) #[Qf, Qf, Qt, Qt, Qt, Qt, Qt, Qf, Qf, Qf, Qf, Qf, Qf] rfl rfl (Yk HT_.out (by kernel_rfl)) (fun _ _ _ h => h) (Or.inr ⟨by rfl, rfl⟩) ?_ ?_
         rotate_left
         ·simp only [Act.put, Qa, Qb, Qc, Z5, Z6]
          rfl
         refine Yq (i := 7) (N := some 45) (v := undef) (a' := ?_) #[Qf, Qf, Qt, Qt, Qt, Qt, Qt, Qt, Qf, Qf, Qf, Qf, Qf] rfl rfl (Yk HT_.out (by kernel_rfl)) (fun _ _ _ h => h) (Or.inr ⟨by rfl, rfl⟩) ?_ ?_
         rotate_left
         ·simp only [Act.put, Qa, Qb, Qc, Z5, Z6]
          rfl
         refine Yq (i := 8) (N := some 46) (v := undef) (a' := ?_) #[Qf, Qf, Qt, Qt, Qt, Qt, Qt, Qt, Qt, Qf, Qf, Qf, Qf] rfl rfl (Yk HT_.out (by kernel_rfl)) (fun _ _ _ h => h) (Or.inr ⟨by rfl, rfl⟩) ?_ ?_
         rotate_left
         ·simp only [Act.put, Qa, Qb, Qc, Z5, Z6]
          rfl
         refine Yq (i := 9) (N := some 47) (v := ?_) (a' := ?_) #[Qf, Qf, Qt, Qt, Qt, Qt, Qt, Qt, Qt, Qt, Qf, Qf, Qf] rfl rfl (Yk HT_.out (by kernel_rfl)) (fun _ _ _ h => h) (Or.inl ⟨by rfl, ?_⟩) ?_ ?_
         rotate_left
         ·intro w'
          go_simp
          with_reducible rfl
         rotate_left
         ·simp only [Act.put, Qa, Qb, Qc, Z5, Z6]
          rfl
         refine Za5 (i := 0) (N := some 38) (v := ?_) (a' := ?_) #[Qt, Qf, Qt, Qt, Qt, Qt, Qt, Qt, Qt, Qt, Qf, Qf, Qf] rfl rfl (Zac HT_.out HW_.out (by kernel_rfl)) (fun _ _ _ h => h) (Or.inl ⟨by rfl, ?_⟩) hHeld ?_ ?_
         rotate_left
         ·rintro w' ⟨s0, s1⟩
          go_simp
          with_reducible rfl
         rotate_left
         ·simp only [Act.put, Qa, Qb, Qc, Z5, Z6]
          rfl
         refine Za5 (i := 1) (N := some 39) (v := ?_) (a' := ?_) #[Qt, Qt, Qt, Qt, Qt, Qt, Qt, Qt, Qt, Qt, Qf, Qf, Qf] rfl rfl (Zac HT_.out HW_.out (by kernel_rfl)) (fun _ _ _ h => h) (Or.inl ⟨by rfl, ?_⟩) hHeld ?_ ?_
         rotate_left
         ·rintro w' ⟨s0, s1⟩
          go_simp
          with_reducible rfl
         rotate_left
         ·simp only [Act.put, Qa, Qb, Qc, Z5, Z6]
          rfl
         refine one_ (i := 10) (N := none) #[Qt, Qt, Qt, Qt, Qt, Qt, Qt, Qt, Qt, Qt, Qt, Qf, Qf] rfl rfl (Za6 HT_.out (by kernel_rfl)) (by decide) (fun K hK => ?_)
         have hs176 : w175.cell? ⟨gb444, 0, none⟩ = some (.slice none 0 0) := (Ze BK444.out 0).trans rfl
         have hfs176 := Zg BK444.out 0
         have hns176_0 := NB442_444.out
         have hns176_1 := NB443_444.out
         have hns176_3 := NB445_444.out
         have hns176_4 := NB448_444.out
         have hns176_5 := NB449_444.out
         have hms176_0 := NB444_442.out
         have hms176_1 := NB444_443.out
         have hms176_3 := NB444_445.out
         have hms176_4 := NB444_448.out
         have hms176_5 := NB444_449.out
         refine Zcp (w1 := ?_) (by rfl) rfl ?_ ?_
         rotate_left
         ·go_simp
          rfl
         refine hK.out _ _ ⟨((cell_far (p := ⟨gb444, _, none⟩) NB442_444.out _).trans (hHeld.1)), ((cell_far (p := ⟨gb444, _, none⟩) NB443_444.out _).trans (hHeld.2))⟩ (fun hHeld => ?_)
         clear hK K
         refine one_ (i := 11) (N := none) #[Qt, Qt, Qt, Qt, Qt, Qt, Qt, Qt, Qt, Qt, Qt, Qt, Qf] rfl rfl (Za6 HT_.out (by kernel_rfl)) (by decide) (fun K hK => ?_)
         have hs177 : w175.cell? ⟨gb445, 0, none⟩ = some (.slice none 0 0) := (Ze BK445.out 0).trans rfl
         have hfs177 := Zg BK445.out 0
         have hns177_0 := NB442_445.out
         have hns177_1 := NB443_445.out
         have hns177_2 := NB444_445.out
         have hns177_4 := NB448_445.out
         have hns177_5 := NB449_445.out
         have hms177_0 := NB445_442.out
         have hms177_1 := NB445_443.out
         have hms177_2 := NB445_444.out
         have hms177_4 := NB445_448.out
         have hms177_5 := NB445_449.out
         refine Zcp (w1 := ?_) (by rfl) rfl ?_ ?_
         rotate_left
         ·go_simp
          rfl
         refine hK.out _ _ ⟨((cell_far (p := ⟨gb445, _, none⟩) NB442_445.out _).trans (hHeld.1)), ((cell_far (p := ⟨gb445, _, none⟩) NB443_445.out _).trans (hHeld.2))⟩ (fun hHeld => ?_)
         clear hK K
         refine Yq (i := 12) (N := some 8) (v := ?_) (a' := ?_) #[Qt, Qt, Qt, Qt, Qt, Qt, Qt, Qt, Qt, Qt, Qt, Qt, Qt] rfl rfl (Yk HT_.out (by kernel_rfl)) (fun _ _ _ h => h) (Or.inl ⟨by rfl, ?_⟩) ?_ ?_
         rotate_left
         ·intro w'
          go_simp
          with_reducible rfl
         rotate_left
         ·simp only [Act.put, Qa, Qb, Qc, Z5, Z6]
          rfl
         refine Zcv (Zcf HT_.out (by kernel_rfl)) ?_
         try go_wp2
         refine bodyPost_ret (Zck (rs := [.cell 6 24, .cell 7 24, .tmp 8]) rfl (by simp) (.cell gb444 24 #[.slice A1_0 l1_0.length c1_0] (0, 0) _ rfl (by (with_reducible repeat first | apply bN | apply bD | apply bA); refine Z8 ?_ NB444_445.out _; (with_reducible repeat first | apply bN | apply bD | apply bA); refine Yo (cs := #[.slice none 0 0]) ?_ 0 _ rfl; (with_reducible repeat first | apply bN | apply bD | apply bA); exact BK444.out) Try.underlying24 rfl (by kernel_rfl) (.cell gb445 24 #[.slice A2_0 l2_0.length c2_0] (0, 0) _ rfl (by (with_reducible repeat first | apply bN | apply bD | apply bA); refine Yo (cs := #[.slice none 0 0]) ?_ 0 _ rfl; (with_reducible repeat first | apply bN | apply bD | apply bA); refine Z8 ?_ NB445_444.out _; (with_reducible repeat first | apply bN | apply bD | apply bA); exact BK445.out) Try.underlying24 rfl (by kernel_rfl) (.tmp .nil)))) rfl ?_
         exact ⟨_, _, by first | rfl | (simp [Zy, Zx] <;> rfl) | (simp [*, Zy, Zx] <;> rfl), by (with_reducible repeat first | apply Kd.Zv | apply Kd.Zu | apply Kd.Z0); exact Kd.Yd (Kd.Zbi (p := ⟨gb445, 0, none⟩) (Kd.Zbi (p := ⟨gb444, 0, none⟩) (Kd.Yd (Kd.Yd J443.out (fun k_ hk => (⟨hk, hk.1.1.2.2.2.1⟩ : _ ∧ k_ ≠ gb444))) (fun k_ hk => (⟨hk, hk.1.1.1.2.2.2.2.1⟩ : _ ∧ k_ ≠ gb445))) (fun _ hk => hk.1.2) (.slice A1_0 l1_0.length c1_0)) (fun _ hk => hk.2) (.slice A2_0 l2_0.length c2_0)) (fun _ hk => hk.1.1.1.1.1), by (with_reducible repeat first | apply Kd.Zv | apply Kd.Zu | apply Kd.Z0); exact Kd.Yd (Kd.Zbi (p := ⟨gb445, 0, none⟩) (Kd.Zbi (p := ⟨gb444, 0, none⟩) (Kd.Yd (Kd.Yd J444.out (fun k_ hk => (⟨hk, hk.1.1.2.2.2.1⟩ : _ ∧ k_ ≠ gb444))) (fun k_ hk => (⟨hk, hk.1.1.1.2.2.2.2.1⟩ : _ ∧ k_ ≠ gb445))) (fun _ hk => hk.1.2) (.slice A1_0 l1_0.length c1_0)) (fun _ hk => hk.2) (.slice A2_0 l2_0.length c2_0)) (fun _ hk => hk.1.1.1.1.1), by repeat (first | (with_reducible first | exact HI0.out | apply Zb.alloc | apply Zb.drewN | apply Zb.drew | apply Zb.Zad | refine Zb.far ?_ NB0_442.out _ | refine Zb.far ?_ NB0_443.out _ | refine Zb.far ?_ NB0_444.out _ | refine Zb.far ?_ NB0_445.out _ | refine Zb.far ?_ NB0_448.out _ | refine Zb.far ?_ NB0_449.out _) | exact HI0.out), by repeat (first | (with_reducible first | exact HB.out | apply wA | apply wN | apply wD | refine Za ?_ (Zb.ge HI0.out) | refine Za ?_ GE442.out | refine Za ?_ GE443.out | refine Za ?_ GE444.out | refine Za ?_ GE445.out | refine Za ?_ GE448.out | refine Za ?_ GE449.out) | exact HB.out), by repeat (first | (with_reducible first | exact HK.out | apply Zn.set_ | apply kN | apply kD | apply kA | refine kF ?_ GW442.out _ | refine kF ?_ GW443.out _ | refine kF ?_ GW444.out _ | refine kF ?_ GW445.out _ | refine kF ?_ GW448.out _ | refine kF ?_ GW449.out _) | exact HK.out)⟩
 case rest =>
  clear HC12
  try clear c1
  try clear c2
  try clear p2
  try clear c3
  try clear p6
  try clear c11
  try clear c12
  try clear c13
  try clear c15
  try clear c16
  try clear c19
  try clear c34
  try clear p64
  try clear c132
  try clear c132b0
  try clear c132b1
  try clear c150
  try clear c151
  try clear c152
  try clear c153
  try clear c154
  try clear c155
  try clear c160
  try clear c161
  try clear c162
  try clear c163
  try clear c164
  try clear c165
  try clear c168
  try clear c168b0
  try clear c168b1
  try clear hcz156_0
  try clear hcz166_0
  try clear hfz156_0
  try clear hfz166_0
  obtain ⟨kq, x12_11, x13_11, x1001_11, x449000_11, x450000_11, u449000, u450000, rfl, rfl, HA, HJ11, J443, J444, J449, J450, BK442, BK443, BK444, BK445, BK448, BK449, HI0, HK, HB⟩ := hcut
  cases kq with
  | zero => exact absurd HA.out (by simp [Zc.j1])
  | succ kj11 =>
   have H := HA.out
   clear HA
   simp only [Zc.j1] at H
   have HC178 := aM H
   clear H
   go_upto_region 24 with (fail)
   go_cut [120] (fun v120 wc => ∃ (kq : Nat) (x120_177 : Bool), v120 = .bool x120_177 ∧ Zq (Zc.j2 kq x12_11 x120_177 s0_0 x1001_11 l1_0 l2_0 x449000_11 x450000_11 = some (r1, r2, r3, r4)) ∧ Zq (kq ≤ kj11) ∧ Zq (Kd.V k48 48 wc w.heap.size (fun k_ => ((P1_0_ k_ ∨ P2_0_ k_) ∨ w.heap.size ≤ k_) ∧ some k_ ≠ (u449000 : Value).ownBlock ∧ some k_ ≠ (u450000 : Value).ownBlock ∧ k_ ≠ gb442 ∧ k_ ≠ gb443 ∧ k_ ≠ gb444 ∧ k_ ≠ gb445 ∧ k_ ≠ gb448 ∧ k_ ≠ gb449 ∧ k_ ≠ g) (.slice A1_0 l1_0.length c1_0) l1_0) ∧ Zq (Kd.V k48 48 wc w.heap.size (fun k_ => ((P1_0_ k_ ∨ P2_0_ k_) ∨ w.heap.size ≤ k_) ∧ some k_ ≠ (u449000 : Value).ownBlock ∧ some k_ ≠ (u450000 : Value).ownBlock ∧ k_ ≠ gb442 ∧ k_ ≠ gb443 ∧ k_ ≠ gb444 ∧ k_ ≠ gb445 ∧ k_ ≠ gb448 ∧ k_ ≠ gb449 ∧ k_ ≠ g) (.slice A2_0 l2_0.length c2_0) l2_0) ∧ Zq (Kd.N k48 48 wc w.heap.size (fun k_ => ((P1_0_ k_ ∨ P2_0_ k_) ∨ w.heap.size ≤ k_) ∧ some k_ ≠ (u450000 : Value).ownBlock ∧ k_ ≠ gb442 ∧ k_ ≠ gb443 ∧ k_ ≠ gb444 ∧ k_ ≠ gb445 ∧ k_ ≠ gb448 ∧ k_ ≠ gb449 ∧ k_ ≠ g) u449000 x449000_11) ∧ Zq (Kd.N k48 48 wc w.heap.size (fun k_ => ((P1_0_ k_ ∨ P2_0_ k_) ∨ w.heap.size ≤ k_) ∧ some k_ ≠ (u449000 : Value).ownBlock ∧ k_ ≠ gb442 ∧ k_ ≠ gb443 ∧ k_ ≠ gb444 ∧ k_ ≠ gb445 ∧ k_ ≠ gb448 ∧ k_ ≠ gb449 ∧ k_ ≠ g) u450000 x450000_11) ∧ Zq (wc.heap[gb442]? = some (.cells #[(.slice A1_0 l1_0.length c1_0)] 24 (0, 0))) ∧ Zq (wc.heap[gb443]? = some (.cells #[(.slice A2_0 l2_0.length c2_0)] 24 (0, 0))) ∧ Zq (wc.heap[gb444]? = some (.cells #[(.slice none 0 0)] 24 (0, 0))) ∧ Zq (wc.heap[gb445]? = some (.cells #[(.slice none 0 0)] 24 (0, 0))) ∧ Zq (wc.heap[gb448]? = some (.cells #[u449000] 24 (0, 0))) ∧ Zq (wc.heap[gb449]? = some (.cells #[u450000] 24 (0, 0))) ∧ Zq (Zb w0 wc g s0_0 x1001_11) ∧ Zq (Zn w wc g none) ∧ Zq (Below w0.heap.size w0 wc))
   case first =>
    have H := HC178.out
    clear HC178
    by_cases c179 : x12_11 = x13_11
    ·rw [if_pos c179] at H
     have c179b0 : (x12_11 == x13_11) = true := beq_iff_eq.mpr c179
     have c179b1 : (x12_11 != x13_11) = false := bne_eq_false_iff_eq.mpr c179
     clear c179
     (first | rw [c179b0] | (simp only [Z5, Z6]; rw [c179b0]) | skip)
     replace H := Option.bind_eq_some_iff.mp H
     obtain ⟨t505, A1800, H⟩ := H
     replace H : (Zc.j2 kj11 x12_11 (!t505) s0_0 x1001_11 l1_0 l2_0 x449000_11 x450000_11) = some (r1, r2, r3, r4) := H
     have A180 := aM A1800
     clear A1800
     have H' := aM H
     clear H
     have hnb181 := NB448_442.out
     have hnc181 := NB442_448.out
     have hnb182 := NB448_443.out
     have hnc182 := NB443_448.out
     have hnb183 := NB448_444.out
     have hnc183 := NB444_448.out
     have hnb184 := NB448_445.out
     have hnc184 := NB445_448.out
     have hnb185 := NB448_449.out
     have hnc185 := NB449_448.out
     have hnb186 := NB448_0.out
     have hnc186 := NB0_448.out
     have hcz187_0 : wc.cell? ⟨gb448, 0, none⟩ = some (u449000) := (Ze BK448.out 0).trans rfl
     have hfz187_0 := Zg BK448.out 0
     have hnb188 := NB449_442.out
     have hnc188 := NB442_449.out
     have hnb189 := NB449_443.out
     have hnc189 := NB443_449.out
     have hnb190 := NB449_444.out
     have hnc190 := NB444_449.out
     have hnb191 := NB449_445.out
     have hnc191 := NB445_449.out
     have hnb192 := NB449_0.out
     have hnc192 := NB0_449.out
     have hcz193_0 : wc.cell? ⟨gb449, 0, none⟩ = some (u450000) := (Ze BK449.out 0).trans rfl
     have hfz193_0 := Zg BK449.out 0
     obtain ⟨Ao194, co194, eo194⟩ := Kd.Zbj J449.out
     subst eo194
     obtain ⟨Ao195, co195, eo195⟩ := Kd.Zbj J450.out
     subst eo195
     go_wp2_with (first | (go_at_call 10; (with_reducible refine (Zl.calls kj11 _ _ x449000_11 _ _ x450000_11 t505 _ ?side1 ?side2 ?side3 ?side4 A180.out).mono ?_); (case side1 => repeat (first | exact (Kd.Za9 J449.out).2.2 | (with_reducible refine Kd.Yh ?_ _) | (with_reducible refine Kd.Yg ?_ _) | (with_reducible refine Kd.Yw ?_))); (case side2 => exact (Kd.Za9 J449.out).2.1); (case side3 => repeat (first | exact (Kd.Za9 J450.out).2.2 | (with_reducible refine Kd.Yh ?_ _) | (with_reducible refine Kd.Yg ?_ _) | (with_reducible refine Kd.Yw ?_))); (case side4 => exact (Kd.Za9 J450.out).2.1); rintro e w196 ⟨rfl, hb⟩; have n0_ := aM (Kd.Y0 (by (with_reducible repeat first | apply Kd.Zv | apply Kd.Zu | apply Kd.Z0); exact J443.out) hb); have n1_ := aM (Kd.Y0 (by (with_reducible repeat first | apply Kd.Zv | apply Kd.Zu | apply Kd.Z0); exact J444.out) hb); have n2_ := aM (Kd.Zcj (by (with_reducible repeat first | apply Kd.Ym | apply Kd.Yl | apply Kd.Yy); exact J449.out) hb); have n3_ := aM (Kd.Zcj (by (with_reducible repeat first | apply Kd.Ym | apply Kd.Yl | apply Kd.Yy); exact J450.out) hb); have n4_ := aM (Zf (g := gb442) (o := .cells #[.slice A1_0 l1_0.length c1_0] 24 (0, 0)) (by (with_reducible repeat first | apply bN | apply bD | apply bA); exact BK442.out) hb); have n5_ := aM (Zf (g := gb443) (o := .cells #[.slice A2_0 l2_0.length c2_0] 24 (0, 0)) (by (with_reducible repeat first | apply bN | apply bD | apply bA); exact BK443.out) hb); have n6_ := aM (Zf (g := gb444) (o := .cells #[.slice none 0 0] 24 (0, 0)) (by (with_reducible repeat first | apply bN | apply bD | apply bA); exact BK444.out) hb); have n7_ := aM (Zf (g := gb445) (o := .cells #[.slice none 0 0] 24 (0, 0)) (by (with_reducible repeat first | apply bN | apply bD | apply bA); exact BK445.out) hb); have n8_ := aM (Zf (g := gb448) (o := .cells #[.slice Ao194 x449000_11.length co194] 24 (0, 0)) (by (with_reducible repeat first | apply bN | apply bD | apply bA); exact BK448.out) hb); have n9_ := aM (Zf (g := gb449) (o := .cells #[.slice Ao195 x450000_11.length co195] 24 (0, 0)) (by (with_reducible repeat first | apply bN | apply bD | apply bA); exact BK449.out) hb); have n10_ := aM (Zb.below (by repeat (first | (with_reducible first | exact HI0.out | apply Zb.alloc | apply Zb.drewN | apply Zb.drew | apply Zb.Zad | refine Zb.far ?_ NB0_442.out _ | refine Zb.far ?_ NB0_443.out _ | refine Zb.far ?_ NB0_444.out _ | refine Zb.far ?_ NB0_445.out _ | refine Zb.far ?_ NB0_448.out _ | refine Zb.far ?_ NB0_449.out _) | exact HI0.out)) hb); have n11_ := aM (Zn.trans (by repeat (first | (with_reducible first | exact HK.out | apply Zn.set_ | apply kN | apply kD | apply kA | refine kF ?_ GW442.out _ | refine kF ?_ GW443.out _ | refine kF ?_ GW444.out _ | refine kF ?_ GW445.out _ | refine kF ?_ GW448.out _ | refine kF ?_ GW449.out _) | exact HK.out)) (Zn.of_below hb g none) (.inl rfl)); have n12_ := aM (Zj (by repeat (first | (with_reducible first | exact HB.out | apply wA | apply wN | apply wD | refine Za ?_ (Zb.ge HI0.out) | refine Za ?_ GE442.out | refine Za ?_ GE443.out | refine Za ?_ GE444.out | refine Za ?_ GE445.out | refine Za ?_ GE448.out | refine Za ?_ GE449.out) | exact HB.out)) hb); clear J443 J444 J449 J450 BK442 BK443 BK444 BK445 BK448 BK449 HI0 HK HB; have J443 := n0_; have J444 := n1_; have J449 := n2_; have J450 := n3_; have BK442 := n4_; have BK443 := n5_; have BK444 := n6_; have BK445 := n7_; have BK448 := n8_; have BK449 := n9_; have HI0 := n10_; have HK := n11_; have HB := n12_; clear n0_ n1_ n2_ n3_ n4_ n5_ n6_ n7_ n8_ n9_ n10_ n11_ n12_; (try clear hb); (try clear hb2); (try clear hk); (try clear hi); (try clear hge_)))
     go_meet
     case rel => exact ⟨_, (!t505), (by first | rfl | (simp; done) | (simp [*]; done)), H', ⟨by have := HJ11.out; first | omega | exact Nat.le_refl _⟩, ⟨by (with_reducible repeat first | apply Kd.Zv | apply Kd.Zu | apply Kd.Z0); exact J443.out⟩, ⟨by (with_reducible repeat first | apply Kd.Zv | apply Kd.Zu | apply Kd.Z0); exact J444.out⟩, ⟨by (with_reducible repeat first | apply Kd.Ym | apply Kd.Yl | apply Kd.Yy); exact J449.out⟩, ⟨by (with_reducible repeat first | apply Kd.Ym | apply Kd.Yl | apply Kd.Yy); exact J450.out⟩, ⟨by (with_reducible repeat first | apply bN | apply bD | apply bA); exact BK442.out⟩, ⟨by (with_reducible repeat first | apply bN | apply bD | apply bA); exact BK443.out⟩, ⟨by (with_reducible repeat first | apply bN | apply bD | apply bA); exact BK444.out⟩, ⟨by (with_reducible repeat first | apply bN | apply bD | apply bA); exact BK445.out⟩, ⟨by (with_reducible repeat first | apply bN | apply bD | apply bA); exact BK448.out⟩, ⟨by (with_reducible repeat first | apply bN | apply bD | apply bA); exact BK449.out⟩, ⟨by repeat (first | (with_reducible first | exact HI0.out | apply Zb.alloc | apply Zb.drewN | apply Zb.drew | apply Zb.Zad | refine Zb.far ?_ NB0_442.out _ | refine Zb.far ?_ NB0_443.out _ | refine Zb.far ?_ NB0_444.out _ | refine Zb.far ?_ NB0_445.out _ | refine Zb.far ?_ NB0_448.out _ | refine Zb.far ?_ NB0_449.out _) | exact HI0.out)⟩, ⟨by repeat (first | (with_reducible first | exact HK.out | apply Zn.set_ | apply kN | apply kD | apply kA | refine kF ?_ GW442.out _ | refine kF ?_ GW443.out _ | refine kF ?_ GW444.out _ | refine kF ?_ GW445.out _ | refine kF ?_ GW448.out _ | refine kF ?_ GW449.out _) | exact HK.out)⟩, ⟨by repeat (first | (with_reducible first | exact HB.out | apply wA | apply wN | apply wD | refine Za ?_ (Zb.ge HI0.out) | refine Za ?_ GE442.out | refine Za ?_ GE443.out | refine Za ?_ GE444.out | refine Za ?_ GE445.out | refine Za ?_ GE448.out | refine Za ?_ GE449.out) | exact HB.out)⟩⟩
    ·rw [if_neg c179] at H
     have c179b0 : (x12_11 == x13_11) = false := beq_eq_false_iff_ne.mpr c179
     have c179b1 : (x12_11 != x13_11) = true := bne_iff_ne.mpr c179
     (first | rw [c179b0] | (simp only [Z5, Z6]; rw [c179b0]) | skip)
     have H' := aM H
     clear H
     go_wp2
     go_meet
     case rel => exact ⟨_, (true), (by first | rfl | (simp; done) | (simp [*]; done)), H', ⟨by have := HJ11.out; first | omega | exact Nat.le_refl _⟩, ⟨by (with_reducible repeat first | apply Kd.Zv | apply Kd.Zu | apply Kd.Z0); exact J443.out⟩, ⟨by (with_reducible repeat first | apply Kd.Zv | apply Kd.Zu | apply Kd.Z0); exact J444.out⟩, ⟨by (with_reducible repeat first | apply Kd.Ym | apply Kd.Yl | apply Kd.Yy); exact J449.out⟩, ⟨by (with_reducible repeat first | apply Kd.Ym | apply Kd.Yl | apply Kd.Yy); exact J450.out⟩, ⟨by (with_reducible repeat first | apply bN | apply bD | apply bA); exact BK442.out⟩, ⟨by (with_reducible repeat first | apply bN | apply bD | apply bA); exact BK443.out⟩, ⟨by (with_reducible repeat first | apply bN | apply bD | apply bA); exact BK444.out⟩, ⟨by (with_reducible repeat first | apply bN | apply bD | apply bA); exact BK445.out⟩, ⟨by (with_reducible repeat first | apply bN | apply bD | apply bA); exact BK448.out⟩, ⟨by (with_reducible repeat first | apply bN | apply bD | apply bA); exact BK449.out⟩, ⟨by repeat (first | (with_reducible first | exact HI0.out | apply Zb.alloc | apply Zb.drewN | apply Zb.drew | apply Zb.Zad | refine Zb.far ?_ NB0_442.out _ | refine Zb.far ?_ NB0_443.out _ | refine Zb.far ?_ NB0_444.out _ | refine Zb.far ?_ NB0_445.out _ | refine Zb.far ?_ NB0_448.out _ | refine Zb.far ?_ NB0_449.out _) | exact HI0.out)⟩, ⟨by repeat (first | (with_reducible first | exact HK.out | apply Zn.set_ | apply kN | apply kD | apply kA | refine kF ?_ GW442.out _ | refine kF ?_ GW443.out _ | refine kF ?_ GW444.out _ | refine kF ?_ GW445.out _ | refine kF ?_ GW448.out _ | refine kF ?_ GW449.out _) | exact HK.out)⟩, ⟨by repeat (first | (with_reducible first | exact HB.out | apply wA | apply wN | apply wD | refine Za ?_ (Zb.ge HI0.out) | refine Za ?_ GE442.out | refine Za ?_ GE443.out | refine Za ?_ GE444.out | refine Za ?_ GE445.out | refine Za ?_ GE448.out | refine Za ?_ GE449.out) | exact HB.out)⟩⟩
   case rest =>
    clear HC178
    try clear c1
    try clear c2
    try clear p2
    try clear c3
    try clear p6
    try clear c11
    try clear c12
    try clear c13
    try clear c15
    try clear c16
    try clear c17
    try clear c18
    try clear c19
    try clear c34
    try clear p64
    try clear c132
    try clear c132b0
    try clear c132b1
    try clear c150
    try clear c151
    try clear c152
    try clear c153
    try clear c154
    try clear c155
    try clear c160
    try clear c161
    try clear c162
    try clear c163
    try clear c164
    try clear c165
    try clear c168
    try clear c168b0
    try clear c168b1
    try clear c179
    try clear c179b0
    try clear c179b1
    try clear c181
    try clear c182
    try clear c183
    try clear c184
    try clear c185
    try clear c186
    try clear c188
    try clear c189
    try clear c190
    try clear c191
    try clear c192
    try clear hcz156_0
    try clear hcz166_0
    try clear hcz187_0
    try clear hcz193_0
    try clear hfz156_0
    try clear hfz166_0
    try clear hfz187_0
    try clear hfz193_0
    try clear p2
    try clear p6
    try clear p64
    obtain ⟨kq, x120_177, rfl, HA, HJ177, J443, J444, J449, J450, BK442, BK443, BK444, BK445, BK448, BK449, HI0, HK, HB⟩ := hcut
    cases kq with
    | zero => exact absurd HA.out (by simp [Zc.j2])
    | succ kj177 =>
     have H := HA.out
     clear HA
     simp only [Zc.j2] at H
     by_cases c197 : x120_177 = true
     ·subst c197
      have H1 : (some (l1_0, l2_0, false, x1001_11)) = some (r1, r2, r3, r4) := by rw [if_pos rfl] at H; exact H
      clear H
      have H := H1
      clear H1
      simp only [Option.some.injEq, Prod.mk.injEq] at H
      obtain ⟨rfl, rfl, rfl, rfl⟩ := H
      try go_wp2
      have n0_ := aM (Kd.Z0 J443.out)
      have n1_ := aM (Kd.Z0 J444.out)
      have n2_ := aM (Kd.Yy J449.out)
      have n3_ := aM (Kd.Yy J450.out)
      have n4_ := aM (bD BK442.out)
      have n5_ := aM (bD BK443.out)
      have n6_ := aM (bD BK444.out)
      have n7_ := aM (bD BK445.out)
      have n8_ := aM (bD BK448.out)
      have n9_ := aM (bD BK449.out)
      have n10_ := aM (Zb.drew HI0.out)
      have n11_ := aM (kD HK.out)
      have n12_ := aM (wD HB.out)
      clear J443 J444 J449 J450 BK442 BK443 BK444 BK445 BK448 BK449 HI0 HK HB
      have J443 := n0_
      have J444 := n1_
      have J449 := n2_
      have J450 := n3_
      have BK442 := n4_
      have BK443 := n5_
      have BK444 := n6_
      have BK445 := n7_
      have BK448 := n8_
      have BK449 := n9_
      have HI0 := n10_
      have HK := n11_
      have HB := n12_
      clear n0_ n1_ n2_ n3_ n4_ n5_ n6_ n7_ n8_ n9_ n10_ n11_ n12_
      refine Zb9 (n := 5) (S := fun w' => w'.cell? ⟨gb442, 0, none⟩ = some (.slice A1_0 l1_0.length c1_0) ∧ w'.cell? ⟨gb443, 0, none⟩ = some (.slice A2_0 l2_0.length c2_0)) (ds := []) #[Qf, Qf, Qf, Qf, Qf] (by kernel_rfl) rfl rfl ⟨(Ze BK442.out 0).trans rfl, (Ze BK443.out 0).trans rfl⟩ (fun hHeld => ?_)
      generalize wc.drew = w198 at J443 J444 J449 J450 BK442 BK443 BK444 BK445 BK448 BK449 HI0 HK HB hHeld ⊢
      refine Za5 (i := 0) (N := some 121) (v := ?_) (a' := ?_) #[Qt, Qf, Qf, Qf, Qf] rfl rfl (by kernel_rfl) (fun _ _ _ h => h) (Or.inl ⟨by rfl, ?_⟩) hHeld ?_ ?_
      rotate_left
      ·rintro w' ⟨s0, s1⟩
       go_simp
       with_reducible rfl
      rotate_left
      ·simp only [Act.put, Qa, Qb, Qc, Z5, Z6]
       rfl
      refine Za5 (i := 1) (N := some 122) (v := ?_) (a' := ?_) #[Qt, Qt, Qf, Qf, Qf] rfl rfl (by kernel_rfl) (fun _ _ _ h => h) (Or.inl ⟨by rfl, ?_⟩) hHeld ?_ ?_
      rotate_left
      ·rintro w' ⟨s0, s1⟩
       go_simp
       with_reducible rfl
      rotate_left
      ·simp only [Act.put, Qa, Qb, Qc, Z5, Z6]
       rfl
      refine one_ (i := 2) (N := none) #[Qt, Qt, Qt, Qf, Qf] rfl rfl (by kernel_rfl) (by decide) (fun K hK => ?_)
      have hs199 : w198.cell? ⟨gb444, 0, none⟩ = some (.slice none 0 0) := (Ze BK444.out 0).trans rfl
      have hfs199 := Zg BK444.out 0
      have hns199_0 := NB442_444.out
      have hns199_1 := NB443_444.out
      have hns199_3 := NB445_444.out
      have hns199_4 := NB448_444.out
      have hns199_5 := NB449_444.out
      have hms199_0 := NB444_442.out
      have hms199_1 := NB444_443.out
      have hms199_3 := NB444_445.out
      have hms199_4 := NB444_448.out
      have hms199_5 := NB444_449.out
      refine Zcp (w1 := ?_) (by rfl) rfl ?_ ?_
      rotate_left
      ·go_simp
       rfl
      refine hK.out _ _ ⟨((cell_far (p := ⟨gb444, _, none⟩) NB442_444.out _).trans (hHeld.1)), ((cell_far (p := ⟨gb444, _, none⟩) NB443_444.out _).trans (hHeld.2))⟩ (fun hHeld => ?_)
      clear hK K
      refine one_ (i := 3) (N := none) #[Qt, Qt, Qt, Qt, Qf] rfl rfl (by kernel_rfl) (by decide) (fun K hK => ?_)
      have hs200 : w198.cell? ⟨gb445, 0, none⟩ = some (.slice none 0 0) := (Ze BK445.out 0).trans rfl
      have hfs200 := Zg BK445.out 0
      have hns200_0 := NB442_445.out
      have hns200_1 := NB443_445.out
      have hns200_2 := NB444_445.out
      have hns200_4 := NB448_445.out
      have hns200_5 := NB449_445.out
      have hms200_0 := NB445_442.out
      have hms200_1 := NB445_443.out
      have hms200_2 := NB445_444.out
      have hms200_4 := NB445_448.out
      have hms200_5 := NB445_449.out
      refine Zcp (w1 := ?_) (by rfl) rfl ?_ ?_
      rotate_left
      ·go_simp
       rfl
      refine hK.out _ _ ⟨((cell_far (p := ⟨gb445, _, none⟩) NB442_445.out _).trans (hHeld.1)), ((cell_far (p := ⟨gb445, _, none⟩) NB443_445.out _).trans (hHeld.2))⟩ (fun hHeld => ?_)
      clear hK K
      refine Yq (i := 4) (N := some 8) (v := ?_) (a' := ?_) #[Qt, Qt, Qt, Qt, Qt] rfl rfl (by kernel_rfl) (fun _ _ _ h => h) (Or.inl ⟨by rfl, ?_⟩) ?_ ?_
      rotate_left
      ·intro w'
       go_simp
       with_reducible rfl
      rotate_left
      ·simp only [Act.put, Qa, Qb, Qc, Z5, Z6]
       rfl
      refine Zcv (by kernel_rfl) ?_
      try go_wp2
      refine bodyPost_ret (Zck (rs := [.cell 6 24, .cell 7 24, .tmp 8]) rfl (by simp) (.cell gb444 24 #[.slice A1_0 l1_0.length c1_0] (0, 0) _ rfl (by (with_reducible repeat first | apply bN | apply bD | apply bA); refine Z8 ?_ NB444_445.out _; (with_reducible repeat first | apply bN | apply bD | apply bA); refine Yo (cs := #[.slice none 0 0]) ?_ 0 _ rfl; (with_reducible repeat first | apply bN | apply bD | apply bA); exact BK444.out) Try.underlying24 rfl (by kernel_rfl) (.cell gb445 24 #[.slice A2_0 l2_0.length c2_0] (0, 0) _ rfl (by (with_reducible repeat first | apply bN | apply bD | apply bA); refine Yo (cs := #[.slice none 0 0]) ?_ 0 _ rfl; (with_reducible repeat first | apply bN | apply bD | apply bA); refine Z8 ?_ NB445_444.out _; (with_reducible repeat first | apply bN | apply bD | apply bA); exact BK445.out) Try.underlying24 rfl (by kernel_rfl) (.tmp .nil)))) rfl ?_
      exact ⟨_, _, by first | rfl | (simp [Zy, Zx] <;> rfl) | (simp [*, Zy, Zx] <;> rfl), by (with_reducible repeat first | apply Kd.Zv | apply Kd.Zu | apply Kd.Z0); exact Kd.Yd (Kd.Zbi (p := ⟨gb445, 0, none⟩) (Kd.Zbi (p := ⟨gb444, 0, none⟩) (Kd.Yd (Kd.Yd J443.out (fun k_ hk => (⟨hk, hk.2.2.2.2.2.1⟩ : _ ∧ k_ ≠ gb444))) (fun k_ hk => (⟨hk, hk.1.2.2.2.2.2.2.1⟩ : _ ∧ k_ ≠ gb445))) (fun _ hk => hk.1.2) (.slice A1_0 l1_0.length c1_0)) (fun _ hk => hk.2) (.slice A2_0 l2_0.length c2_0)) (fun _ hk => hk.1.1.1), by (with_reducible repeat first | apply Kd.Zv | apply Kd.Zu | apply Kd.Z0); exact Kd.Yd (Kd.Zbi (p := ⟨gb445, 0, none⟩) (Kd.Zbi (p := ⟨gb444, 0, none⟩) (Kd.Yd (Kd.Yd J444.out (fun k_ hk => (⟨hk, hk.2.2.2.2.2.1⟩ : _ ∧ k_ ≠ gb444))) (fun k_ hk => (⟨hk, hk.1.2.2.2.2.2.2.1⟩ : _ ∧ k_ ≠ gb445))) (fun _ hk => hk.1.2) (.slice A1_0 l1_0.length c1_0)) (fun _ hk => hk.2) (.slice A2_0 l2_0.length c2_0)) (fun _ hk => hk.1.1.1), by repeat (first | (with_reducible first | exact HI0.out | apply Zb.alloc | apply Zb.drewN | apply Zb.drew | apply Zb.Zad | refine Zb.far ?_ NB0_442.out _ | refine Zb.far ?_ NB0_443.out _ | refine Zb.far ?_ NB0_444.out _ | refine Zb.far ?_ NB0_445.out _ | refine Zb.far ?_ NB0_448.out _ | refine Zb.far ?_ NB0_449.out _) | exact HI0.out), by repeat (first | (with_reducible first | exact HB.out | apply wA | apply wN | apply wD | refine Za ?_ (Zb.ge HI0.out) | refine Za ?_ GE442.out | refine Za ?_ GE443.out | refine Za ?_ GE444.out | refine Za ?_ GE445.out | refine Za ?_ GE448.out | refine Za ?_ GE449.out) | exact HB.out), by repeat (first | (with_reducible first | exact HK.out | apply Zn.set_ | apply kN | apply kD | apply kA | refine kF ?_ GW442.out _ | refine kF ?_ GW443.out _ | refine kF ?_ GW444.out _ | refine kF ?_ GW445.out _ | refine kF ?_ GW448.out _ | refine kF ?_ GW449.out _) | exact HK.out)⟩
     ·replace c197 := Bool.eq_false_iff.mpr c197
      subst c197
      have H1 : (if x12_11 = 0 then (some (x449000_11, x450000_11, true, x1001_11)) else (some (l1_0, l2_0, true, x1001_11))) = some (r1, r2, r3, r4) := by rw [if_neg (show ¬ (false = true) by decide)] at H; exact H
      clear H
      have H := H1
      clear H1
      by_cases c201 : x12_11 = 0
      ·rw [if_pos c201] at H
       have c201b0 : (x12_11 == 0) = true := beq_iff_eq.mpr c201
       have c201b1 : (x12_11 != 0) = false := bne_eq_false_iff_eq.mpr c201
       clear c201
       simp only [Option.some.injEq, Prod.mk.injEq] at H
       obtain ⟨rfl, rfl, rfl, rfl⟩ := H
       try go_wp2
       have n0_ := aM (Kd.Z0 J443.out)
       have n1_ := aM (Kd.Z0 J444.out)
       have n2_ := aM (Kd.Yy J449.out)
       have n3_ := aM (Kd.Yy J450.out)
       have n4_ := aM (bD BK442.out)
       have n5_ := aM (bD BK443.out)
       have n6_ := aM (bD BK444.out)
       have n7_ := aM (bD BK445.out)
       have n8_ := aM (bD BK448.out)
       have n9_ := aM (bD BK449.out)
       have n10_ := aM (Zb.drew HI0.out)
       have n11_ := aM (kD HK.out)
       have n12_ := aM (wD HB.out)
       clear J443 J444 J449 J450 BK442 BK443 BK444 BK445 BK448 BK449 HI0 HK HB
       have J443 := n0_
       have J444 := n1_
       have J449 := n2_
       have J450 := n3_
       have BK442 := n4_
       have BK443 := n5_
       have BK444 := n6_
       have BK445 := n7_
       have BK448 := n8_
       have BK449 := n9_
       have HI0 := n10_
       have HK := n11_
       have HB := n12_
       clear n0_ n1_ n2_ n3_ n4_ n5_ n6_ n7_ n8_ n9_ n10_ n11_ n12_
       obtain ⟨Ao203, co203, eo203⟩ := Kd.Zbj J449.out
       (first | subst eo203 | (injection eo203 with f1_ f2_ f3_; have f4_ := f1_.symm; have f5_ := f3_.symm; clear f1_ f2_ f3_; subst f4_; subst f5_))
       obtain ⟨Ao205, co205, eo205⟩ := Kd.Zbj J450.out
       (first | subst eo205 | (injection eo205 with f1_ f2_ f3_; have f4_ := f1_.symm; have f5_ := f3_.symm; clear f1_ f2_ f3_; subst f4_; subst f5_))
       refine Zb9 (n := 5) (S := fun w' => w'.cell? ⟨gb448, 0, none⟩ = some (.slice Ao203 x449000_11.length co203) ∧ w'.cell? ⟨gb449, 0, none⟩ = some (.slice Ao205 x450000_11.length co205)) (ds := []) #[Qf, Qf, Qf, Qf, Qf] (by kernel_rfl) rfl rfl ⟨(Ze BK448.out 0).trans rfl, (Ze BK449.out 0).trans rfl⟩ (fun hHeld => ?_)
       generalize wc.drew = w202 at J443 J444 J449 J450 BK442 BK443 BK444 BK445 BK448 BK449 HI0 HK HB hHeld ⊢
       refine Za5 (i := 0) (N := some 127) (v := ?_) (a' := ?_) #[Qt, Qf, Qf, Qf, Qf] rfl rfl (by kernel_rfl) (fun _ _ _ h => h) (Or.inl ⟨by rfl, ?_⟩) hHeld ?_ ?_
       rotate_left
       ·rintro w' ⟨s0, s1⟩
        go_simp
        with_reducible rfl
       rotate_left
       ·simp only [Act.put, Qa, Qb, Qc, Z5, Z6]
        rfl
       refine Za5 (i := 1) (N := some 128) (v := ?_) (a' := ?_) #[Qt, Qt, Qf, Qf, Qf] rfl rfl (by kernel_rfl) (fun _ _ _ h => h) (Or.inl ⟨by rfl, ?_⟩) hHeld ?_ ?_
       rotate_left
       ·rintro w' ⟨s0, s1⟩
        go_simp
        with_reducible rfl
       rotate_left
       ·simp only [Act.put, Qa, Qb, Qc, Z5, Z6]
        rfl
       refine one_ (i := 2) (N := none) #[Qt, Qt, Qt, Qf, Qf] rfl rfl (by kernel_rfl) (by decide) (fun K hK => ?_)
       have hs204 : w202.cell? ⟨gb444, 0, none⟩ = some (.slice none 0 0) := (Ze BK444.out 0).trans rfl
       have hfs204 := Zg BK444.out 0
       have hns204_0 := NB442_444.out
       have hns204_1 := NB443_444.out
       have hns204_3 := NB445_444.out
       have hns204_4 := NB448_444.out
       have hns204_5 := NB449_444.out
       have hms204_0 := NB444_442.out
       have hms204_1 := NB444_443.out
       have hms204_3 := NB444_445.out
       have hms204_4 := NB444_448.out
       have hms204_5 := NB444_449.out
       refine Zcp (w1 := ?_) (by rfl) rfl ?_ ?_
       rotate_left
       ·go_simp
        rfl
       refine hK.out _ _ ⟨((cell_far (p := ⟨gb444, _, none⟩) NB448_444.out _).trans (hHeld.1)), ((cell_far (p := ⟨gb444, _, none⟩) NB449_444.out _).trans (hHeld.2))⟩ (fun hHeld => ?_)
       clear hK K
       refine one_ (i := 3) (N := none) #[Qt, Qt, Qt, Qt, Qf] rfl rfl (by kernel_rfl) (by decide) (fun K hK => ?_)
       have hs206 : w202.cell? ⟨gb445, 0, none⟩ = some (.slice none 0 0) := (Ze BK445.out 0).trans rfl
       have hfs206 := Zg BK445.out 0
       have hns206_0 := NB442_445.out
       have hns206_1 := NB443_445.out
       have hns206_2 := NB444_445.out
       have hns206_4 := NB448_445.out
       have hns206_5 := NB449_445.out
       have hms206_0 := NB445_442.out
       have hms206_1 := NB445_443.out
       have hms206_2 := NB445_444.out
       have hms206_4 := NB445_448.out
       have hms206_5 := NB445_449.out
       refine Zcp (w1 := ?_) (by rfl) rfl ?_ ?_
       rotate_left
       ·go_simp
        rfl
       refine hK.out _ _ ⟨((cell_far (p := ⟨gb445, _, none⟩) NB448_445.out _).trans (hHeld.1)), ((cell_far (p := ⟨gb445, _, none⟩) NB449_445.out _).trans (hHeld.2))⟩ (fun hHeld => ?_)
       clear hK K
       refine Yq (i := 4) (N := some 8) (v := ?_) (a' := ?_) #[Qt, Qt, Qt, Qt, Qt] rfl rfl (by kernel_rfl) (fun _ _ _ h => h) (Or.inl ⟨by rfl, ?_⟩) ?_ ?_
       rotate_left
       ·intro w'
        go_simp
        with_reducible rfl
       rotate_left
       ·simp only [Act.put, Qa, Qb, Qc, Z5, Z6]
        rfl
       refine Zcv (by kernel_rfl) ?_
       try go_wp2
       refine bodyPost_ret (Zck (rs := [.cell 6 24, .cell 7 24, .tmp 8]) rfl (by simp) (.cell gb444 24 #[.slice Ao203 x449000_11.length co203] (0, 0) _ rfl (by (with_reducible repeat first | apply bN | apply bD | apply bA); refine Z8 ?_ NB444_445.out _; (with_reducible repeat first | apply bN | apply bD | apply bA); refine Yo (cs := #[.slice none 0 0]) ?_ 0 _ rfl; (with_reducible repeat first | apply bN | apply bD | apply bA); exact BK444.out) Try.underlying24 rfl (by kernel_rfl) (.cell gb445 24 #[.slice Ao205 x450000_11.length co205] (0, 0) _ rfl (by (with_reducible repeat first | apply bN | apply bD | apply bA); refine Yo (cs := #[.slice none 0 0]) ?_ 0 _ rfl; (with_reducible repeat first | apply bN | apply bD | apply bA); refine Z8 ?_ NB445_444.out _; (with_reducible repeat first | apply bN | apply bD | apply bA); exact BK445.out) Try.underlying24 rfl (by kernel_rfl) (.tmp .nil)))) rfl ?_
       exact ⟨_, _, by first | rfl | (simp [Zy, Zx] <;> rfl) | (simp [*, Zy, Zx] <;> rfl), Kd.N_V (by (with_reducible repeat first | apply Kd.Ym | apply Kd.Yl | apply Kd.Yy); exact Kd.Yr (Kd.Zby (p := ⟨gb445, 0, none⟩) (Kd.Zby (p := ⟨gb444, 0, none⟩) (Kd.Yr (Kd.Yr J449.out (fun k_ hk => (⟨hk, hk.2.2.2.2.1⟩ : _ ∧ k_ ≠ gb444))) (fun k_ hk => (⟨hk, hk.1.2.2.2.2.2.1⟩ : _ ∧ k_ ≠ gb445))) (fun _ hk => hk.1.2) (.slice Ao203 x449000_11.length co203)) (fun _ hk => hk.2) (.slice Ao205 x450000_11.length co205)) (fun _ hk => hk.1.1.1)), Kd.N_V (by (with_reducible repeat first | apply Kd.Ym | apply Kd.Yl | apply Kd.Yy); exact Kd.Yr (Kd.Zby (p := ⟨gb445, 0, none⟩) (Kd.Zby (p := ⟨gb444, 0, none⟩) (Kd.Yr (Kd.Yr J450.out (fun k_ hk => (⟨hk, hk.2.2.2.2.1⟩ : _ ∧ k_ ≠ gb444))) (fun k_ hk => (⟨hk, hk.1.2.2.2.2.2.1⟩ : _ ∧ k_ ≠ gb445))) (fun _ hk => hk.1.2) (.slice Ao203 x449000_11.length co203)) (fun _ hk => hk.2) (.slice Ao205 x450000_11.length co205)) (fun _ hk => hk.1.1.1)), by repeat (first | (with_reducible first | exact HI0.out | apply Zb.alloc | apply Zb.drewN | apply Zb.drew | apply Zb.Zad | refine Zb.far ?_ NB0_442.out _ | refine Zb.far ?_ NB0_443.out _ | refine Zb.far ?_ NB0_444.out _ | refine Zb.far ?_ NB0_445.out _ | refine Zb.far ?_ NB0_448.out _ | refine Zb.far ?_ NB0_449.out _) | exact HI0.out), by repeat (first | (with_reducible first | exact HB.out | apply wA | apply wN | apply wD | refine Za ?_ (Zb.ge HI0.out) | refine Za ?_ GE442.out | refine Za ?_ GE443.out | refine Za ?_ GE444.out | refine Za ?_ GE445.out | refine Za ?_ GE448.out | refine Za ?_ GE449.out) | exact HB.out), by repeat (first | (with_reducible first | exact HK.out | apply Zn.set_ | apply kN | apply kD | apply kA | refine kF ?_ GW442.out _ | refine kF ?_ GW443.out _ | refine kF ?_ GW444.out _ | refine kF ?_ GW445.out _ | refine kF ?_ GW448.out _ | refine kF ?_ GW449.out _) | exact HK.out)⟩
      ·rw [if_neg c201] at H
       have c201b0 : (x12_11 == 0) = false := beq_eq_false_iff_ne.mpr c201
       have c201b1 : (x12_11 != 0) = true := bne_iff_ne.mpr c201
       simp only [Option.some.injEq, Prod.mk.injEq] at H
       obtain ⟨rfl, rfl, rfl, rfl⟩ := H
       try go_wp2
       have n0_ := aM (Kd.Z0 J443.out)
       have n1_ := aM (Kd.Z0 J444.out)
       have n2_ := aM (Kd.Yy J449.out)
       have n3_ := aM (Kd.Yy J450.out)
       have n4_ := aM (bD BK442.out)
       have n5_ := aM (bD BK443.out)
       have n6_ := aM (bD BK444.out)
       have n7_ := aM (bD BK445.out)
       have n8_ := aM (bD BK448.out)
       have n9_ := aM (bD BK449.out)
       have n10_ := aM (Zb.drew HI0.out)
       have n11_ := aM (kD HK.out)
       have n12_ := aM (wD HB.out)
       clear J443 J444 J449 J450 BK442 BK443 BK444 BK445 BK448 BK449 HI0 HK HB
       have J443 := n0_
       have J444 := n1_
       have J449 := n2_
       have J450 := n3_
       have BK442 := n4_
       have BK443 := n5_
       have BK444 := n6_
       have BK445 := n7_
       have BK448 := n8_
       have BK449 := n9_
       have HI0 := n10_
       have HK := n11_
       have HB := n12_
       clear n0_ n1_ n2_ n3_ n4_ n5_ n6_ n7_ n8_ n9_ n10_ n11_ n12_
       refine Zb9 (n := 5) (S := fun w' => w'.cell? ⟨gb442, 0, none⟩ = some (.slice A1_0 l1_0.length c1_0) ∧ w'.cell? ⟨gb443, 0, none⟩ = some (.slice A2_0 l2_0.length c2_0)) (ds := []) #[Qf, Qf, Qf, Qf, Qf] (by kernel_rfl) rfl rfl ⟨(Ze BK442.out 0).trans rfl, (Ze BK443.out 0).trans rfl⟩ (fun hHeld => ?_)
       generalize wc.drew = w207 at J443 J444 J449 J450 BK442 BK443 BK444 BK445 BK448 BK449 HI0 HK HB hHeld ⊢
       refine Za5 (i := 0) (N := some 125) (v := ?_) (a' := ?_) #[Qt, Qf, Qf, Qf, Qf] rfl rfl (by kernel_rfl) (fun _ _ _ h => h) (Or.inl ⟨by rfl, ?_⟩) hHeld ?_ ?_
       rotate_left
       ·rintro w' ⟨s0, s1⟩
        go_simp
        with_reducible rfl
       rotate_left
       ·simp only [Act.put, Qa, Qb, Qc, Z5, Z6]
        rfl
       refine Za5 (i := 1) (N := some 126) (v := ?_) (a' := ?_) #[Qt, Qt, Qf, Qf, Qf] rfl rfl (by kernel_rfl) (fun _ _ _ h => h) (Or.inl ⟨by rfl, ?_⟩) hHeld ?_ ?_
       rotate_left
       ·rintro w' ⟨s0, s1⟩
        go_simp
        with_reducible rfl
       rotate_left
       ·simp only [Act.put, Qa, Qb, Qc, Z5, Z6]
        rfl
       refine one_ (i := 2) (N := none) #[Qt, Qt, Qt, Qf, Qf] rfl rfl (by kernel_rfl) (by decide) (fun K hK => ?_)
       have hs208 : w207.cell? ⟨gb444, 0, none⟩ = some (.slice none 0 0) := (Ze BK444.out 0).trans rfl
       have hfs208 := Zg BK444.out 0
       have hns208_0 := NB442_444.out
       have hns208_1 := NB443_444.out
       have hns208_3 := NB445_444.out
       have hns208_4 := NB448_444.out
       have hns208_5 := NB449_444.out
       have hms208_0 := NB444_442.out
       have hms208_1 := NB444_443.out
       have hms208_3 := NB444_445.out
       have hms208_4 := NB444_448.out
       have hms208_5 := NB444_449.out
       refine Zcp (w1 := ?_) (by rfl) rfl ?_ ?_
       rotate_left
       ·go_simp
        rfl
       refine hK.out _ _ ⟨((cell_far (p := ⟨gb444, _, none⟩) NB442_444.out _).trans (hHeld.1)), ((cell_far (p := ⟨gb444, _, none⟩) NB443_444.out _).trans (hHeld.2))⟩ (fun hHeld => ?_)
       clear hK K
       refine one_ (i := 3) (N := none) #[Qt, Qt, Qt, Qt, Qf] rfl rfl (by kernel_rfl) (by decide) (fun K hK => ?_)
       have hs209 : w207.cell? ⟨gb445, 0, none⟩ = some (.slice none 0 0) := (Ze BK445.out 0).trans rfl
       have hfs209 := Zg BK445.out 0
       have hns209_0 := NB442_445.out
       have hns209_1 := NB443_445.out
       have hns209_2 := NB444_445.out
       have hns209_4 := NB448_445.out
       have hns209_5 := NB449_445.out
       have hms209_0 := NB445_442.out
       have hms209_1 := NB445_443.out
       have hms209_2 := NB445_444.out
       have hms209_4 := NB445_448.out
       have hms209_5 := NB445_449.out
       refine Zcp (w1 := ?_) (by rfl) rfl ?_ ?_
       rotate_left
       ·go_simp
        rfl
       refine hK.out _ _ ⟨((cell_far (p := ⟨gb445, _, none⟩) NB442_445.out _).trans (hHeld.1)), ((cell_far (p := ⟨gb445, _, none⟩) NB443_445.out _).trans (hHeld.2))⟩ (fun hHeld => ?_)
       clear hK K
       refine Yq (i := 4) (N := some 8) (v := ?_) (a' := ?_) #[Qt, Qt, Qt, Qt, Qt] rfl rfl (by kernel_rfl) (fun _ _ _ h => h) (Or.inl ⟨by rfl, ?_⟩) ?_ ?_
       rotate_left
       ·intro w'
        go_simp
        with_reducible rfl
       rotate_left
       ·simp only [Act.put, Qa, Qb, Qc, Z5, Z6]
        rfl
       refine Zcv (by kernel_rfl) ?_
       try go_wp2
       refine bodyPost_ret (Zck (rs := [.cell 6 24, .cell 7 24, .tmp 8]) rfl (by simp) (.cell gb444 24 #[.slice A1_0 l1_0.length c1_0] (0, 0) _ rfl (by (with_reducible repeat first | apply bN | apply bD | apply bA); refine Z8 ?_ NB444_445.out _; (with_reducible repeat first | apply bN | apply bD | apply bA); refine Yo (cs := #[.slice none 0 0]) ?_ 0 _ rfl; (with_reducible repeat first | apply bN | apply bD | apply bA); exact BK444.out) Try.underlying24 rfl (by kernel_rfl) (.cell gb445 24 #[.slice A2_0 l2_0.length c2_0] (0, 0) _ rfl (by (with_reducible repeat first | apply bN | apply bD | apply bA); refine Yo (cs := #[.slice none 0 0]) ?_ 0 _ rfl; (with_reducible repeat first | apply bN | apply bD | apply bA); refine Z8 ?_ NB445_444.out _; (with_reducible repeat first | apply bN | apply bD | apply bA); exact BK445.out) Try.underlying24 rfl (by kernel_rfl) (.tmp .nil)))) rfl ?_
       exact ⟨_, _, by first | rfl | (simp [Zy, Zx] <;> rfl) | (simp [*, Zy, Zx] <;> rfl), by (with_reducible repeat first | apply Kd.Zv | apply Kd.Zu | apply Kd.Z0); exact Kd.Yd (Kd.Zbi (p := ⟨gb445, 0, none⟩) (Kd.Zbi (p := ⟨gb444, 0, none⟩) (Kd.Yd (Kd.Yd J443.out (fun k_ hk => (⟨hk, hk.2.2.2.2.2.1⟩ : _ ∧ k_ ≠ gb444))) (fun k_ hk => (⟨hk, hk.1.2.2.2.2.2.2.1⟩ : _ ∧ k_ ≠ gb445))) (fun _ hk => hk.1.2) (.slice A1_0 l1_0.length c1_0)) (fun _ hk => hk.2) (.slice A2_0 l2_0.length c2_0)) (fun _ hk => hk.1.1.1), by (with_reducible repeat first | apply Kd.Zv | apply Kd.Zu | apply Kd.Z0); exact Kd.Yd (Kd.Zbi (p := ⟨gb445, 0, none⟩) (Kd.Zbi (p := ⟨gb444, 0, none⟩) (Kd.Yd (Kd.Yd J444.out (fun k_ hk => (⟨hk, hk.2.2.2.2.2.1⟩ : _ ∧ k_ ≠ gb444))) (fun k_ hk => (⟨hk, hk.1.2.2.2.2.2.2.1⟩ : _ ∧ k_ ≠ gb445))) (fun _ hk => hk.1.2) (.slice A1_0 l1_0.length c1_0)) (fun _ hk => hk.2) (.slice A2_0 l2_0.length c2_0)) (fun _ hk => hk.1.1.1), by repeat (first | (with_reducible first | exact HI0.out | apply Zb.alloc | apply Zb.drewN | apply Zb.drew | apply Zb.Zad | refine Zb.far ?_ NB0_442.out _ | refine Zb.far ?_ NB0_443.out _ | refine Zb.far ?_ NB0_444.out _ | refine Zb.far ?_ NB0_445.out _ | refine Zb.far ?_ NB0_448.out _ | refine Zb.far ?_ NB0_449.out _) | exact HI0.out), by repeat (first | (with_reducible first | exact HB.out | apply wA | apply wN | apply wD | refine Za ?_ (Zb.ge HI0.out) | refine Za ?_ GE442.out | refine Za ?_ GE443.out | refine Za ?_ GE444.out | refine Za ?_ GE445.out | refine Za ?_ GE448.out | refine Za ?_ GE449.out) | exact HB.out), by repeat (first | (with_reducible first | exact HK.out | apply Zn.set_ | apply kN | apply kD | apply kA | refine kF ?_ GW442.out _ | refine kF ?_ GW443.out _ | refine kF ?_ GW444.out _ | refine kF ?_ GW445.out _ | refine kF ?_ GW448.out _ | refine kF ?_ GW449.out _) | exact HK.out)⟩

end Go.Proofs.Ytnfbjdnflifcoaa.PDk
