/- Texts of one proof, joined: part 2. No condition. -/
import Derived.Test.YtnfbjdnflifcoaaMp1
open List renaming setIfInBounds_toArray → Qa, set_cons_zero → Qb, set_cons_succ → Qc, length_take → Qd, length_drop → Qe, map_toArray → Qi, map_cons → Qj, map_nil → Qk, getElem?_eq_getElem → Qm
open Bool renaming false → Qf, true → Qt
open Go.World renaming block_lt_of_cell? → Qw
namespace Go.Proofs.Ytnfbjdnflifcoaa.PDk
open Go.RowKit Go.Proofs.YtnfbjdnflifcoaaW.PrintWords Go.Proofs.YtnfbjdnflifcoaaW.PrintLast Go.Proofs.YtnfbjdnflifcoaaW.PrintMore
attribute [local go_sem] Za0 Zay Zbe Zbd Zan Zam Zaz Zax
set_option linter.unusedVariables false
set_option linter.unusedSimpArgs false

def Zl.l0 : Nat → Int → List (S48) → List (S48) → Option (Bool)
 | 0, _, _, _ => none
 | k + 1, x5, x172000, x173000 => if x5 < (x172000.length : Int) then (if 0 ≤ x5 then (if x5 < (x173000.length : Int) then ((Zk.f k ((Zo x172000 x5).f0) ((Zo x173000 x5).f0)).bind fun t175 => (if t175 = true then ((Zk.f k ((Zo x172000 x5).f1) ((Zo x173000 x5).f1)).bind fun t178 => (if t178 = true then (Zl.l0 k (wrap64 (x5 + 1)) x172000 x173000) else (some false))) else (some false))) else (none)) else (none)) else (some true)
def Zl.f (k : Nat) (l0_0 : List (S48)) (l1_0 : List (S48)) : Option (Bool) := if (l0_0.length : Int) = (l1_0.length : Int) then (Zl.l0 k 0 l0_0 l1_0) else (some false)
theorem Zl.Zbk : ∀ k, (∀ y0 y1 y2, LeO (Zl.l0 k y0 y1 y2) (Zl.l0 (k + 1) y0 y1 y2))
 | 0 => fun _ _ _ r h => by simp [Zl.l0] at h
 | k + 1 => by
  have ih0 := Zl.Zbk k
  ·intro y0 y1 y2
   unfold Zl.l0
   repeat' first
   | (with_reducible exact ih0 _ _ _)
   | (with_reducible exact Zk.mono _ _ _)
   | (with_reducible exact LeO.refl _)
   | (with_reducible exact LeO.none _)
   | (with_reducible refine LeO.ite ?_ ?_)
   | (with_reducible refine LeO.bind ?_ (fun _ => ?_))
   | exact ih0 _ _ _
   | exact Zk.mono _ _ _
   | exact LeO.none _
   | refine LeO.ite ?_ ?_
   | refine LeO.bind ?_ (fun _ => ?_)
theorem Zl.mono : ∀ a0 a1 k, LeO (Zl.f k a0 a1) (Zl.f (k + 1) a0 a1) := by
 intro a0 a1 k
 have ih0 := Zl.Zbk k
 unfold Zl.f
 repeat' first
   | (with_reducible exact ih0 _ _ _)
   | (with_reducible exact Zk.mono _ _ _)
   | (with_reducible exact LeO.refl _)
   | (with_reducible exact LeO.none _)
   | (with_reducible refine LeO.ite ?_ ?_)
   | (with_reducible refine LeO.bind ?_ (fun _ => ?_))
   | exact ih0 _ _ _
   | exact Zk.mono _ _ _
   | exact LeO.none _
   | refine LeO.ite ?_ ?_
   | refine LeO.bind ?_ (fun _ => ?_)
def Zl.T6 : Bool × List (List Nat × List Nat) := (true, [([], []), ([0], [0]), ([], []), ([1, 2], [1, 2]), ([3], [3]), ([4], [4]), ([], []), ([6], [6]), ([], []), ([7, 8], [7, 8]), ([9], [9]), ([10], [10]), ([5, 11], [5, 11]), ([12], [12]), ([13, 12], [13]), ([14], [14]), ([15, 14], [14, 15]), ([14], [14]), ([16, 17, 14], [14, 16, 17]), ([18, 14], [14, 18]), ([19, 14], [14, 19]), ([14], [14]), ([21, 14], [14, 21]), ([14], [14]), ([22, 23, 14], [14, 22, 23]), ([24, 14], [14, 24]), ([25, 14], [14, 25]), ([20, 26, 14, 14], [14, 20, 26]), ([27, 14], [14, 27]), ([14, 28], [14, 28])])
def Zl.B6 : List Nat := [0, 1, 0, 7, 15, 31, 0, 64, 0, 448, 960, 1984, 4095, 8191, 16383, 32767, 65535, 32767, 262143, 524287, 1048575, 32767, 2129919, 32767, 14712831, 31490047, 65044479, 134217727, 268435455, 536870911]
theorem Zl.tab6 : rtab .any (opsOf Try.f10 6) = Zl.T6 := by kernel_rfl
theorem Zl.bits6 : Zcd Zl.T6.2 Zl.B6 = true := by kernel_rfl
set_option maxHeartbeats 8000000 in
set_option maxRecDepth 100000 in
theorem Zl.calls (k : Nat) (A0_0 : Option Addr) (c0_0 : Nat) (l0_0 : List (S48)) (A1_0 : Option Addr) (c1_0 : Nat) (l1_0 : List (S48)) (r : Bool) (w : World) (hr0_0 : Kd.C k48 w A0_0 l0_0.length l0_0) (hc0_0 : l0_0.length ≤ c0_0) (hr1_0 : Kd.C k48 w A1_0 l1_0.length l1_0) (hc1_0 : l1_0.length ≤ c1_0) (h : Zl.f k l0_0 l1_0 = some r) :
  Calls Try.prog 10 #[.agg #[.slice A0_0 l0_0.length c0_0], .agg #[.slice A1_0 l1_0.length c1_0]] w fun e w' => e = .returned (.bool r) ∧ Below w.heap.size w w' := by
 have hu24 := Try.underlying24
 have HR0_0 := aM hr0_0
 have HC0_0 := aM hc0_0
 clear hr0_0 hc0_0
 have HR1_0 := aM hr1_0
 have HC1_0 := aM hc1_0
 clear hr1_0 hc1_0
 have HB := aM (Below.refl w.heap.size w)
 have H : (if (l0_0.length : Int) = (l1_0.length : Int) then (Zl.l0 k 0 l0_0 l1_0) else (some false)) = some r := h
 clear h
 by_cases c3 : (l0_0.length : Int) = (l1_0.length : Int)
 ·rw [if_pos c3] at H
  have c3b0 : ((l0_0.length : Int) == (l1_0.length : Int)) = true := beq_iff_eq.mpr c3
  have c3b1 : ((l0_0.length : Int) != (l1_0.length : Int)) = false := bne_eq_false_iff_eq.mpr c3
  have c3b2 : (l0_0.length == l1_0.length) = true := by first | simpa using c3 | (simp at c3 ⊢; omega)
  clear c3
  have H' := aM H
  clear H
  go_enter Try.func10, Try.ntmps10
  go_wp2_with (first | ((with_reducible refine Z7 (N := 2) rfl ?_); refine Z4 ?hg (N := 2) ?hd (cs := #[.slice A0_0 l0_0.length c0_0]) (t := 24) ?hr ?_; (case hd => rfl); (case hg => rfl); (case hr => first | (go_simp; done) | (go_simp; rfl)); intro gb171 hg w4 hbox hb; have n0_ := aM (Zj (by repeat (first | (with_reducible first | exact HB.out | apply wA | apply wN | apply wD) | exact HB.out)) hb); have n1_ := aM (hbox); have n2_ := aM ((by rw [hg]; exact (Zd (by repeat (first | (with_reducible first | exact HB.out | apply wA | apply wN | apply wD) | exact HB.out))) : w.heap.size ≤ gb171)); have n3_ := aM ((by rw [hg]; exact (Zd (by repeat (first | (with_reducible first | exact HB.out | apply wA | apply wN | apply wD) | exact HB.out))) : w.heap.size ≤ gb171)); clear HB; have HB := n0_; have BK171 := n1_; have GW171 := n2_; have GE171 := n3_; clear n0_ n1_ n2_ n3_; clear hb hbox hg) | ((with_reducible refine Z7 (N := 3) rfl ?_); refine Z4 ?hg (N := 3) ?hd (cs := #[.slice A1_0 l1_0.length c1_0]) (t := 24) ?hr ?_; (case hd => rfl); (case hg => rfl); (case hr => first | (go_simp; done) | (go_simp; rfl)); intro gb172 hg w5 hbox hb; have n0_ := aM (Zf (g := gb171) (o := .cells #[.slice A0_0 l0_0.length c0_0] 24 (0, 0)) (by (with_reducible repeat first | apply bN | apply bD | apply bA); exact BK171.out) hb); have n1_ := aM (Zj (by repeat (first | (with_reducible first | exact HB.out | apply wA | apply wN | apply wD | refine Za ?_ GE171.out) | exact HB.out)) hb); have n2_ := aM (hbox); have n3_ := aM ((by rw [hg]; exact (Zd (by repeat (first | (with_reducible first | exact HB.out | apply wA | apply wN | apply wD | refine Za ?_ GE171.out) | exact HB.out))) : w.heap.size ≤ gb172)); have n4_ := aM ((by rw [hg]; exact (Zd (by repeat (first | (with_reducible first | exact HB.out | apply wA | apply wN | apply wD | refine Za ?_ GE171.out) | exact HB.out))) : w.heap.size ≤ gb172)); have n5_ := aM ((by rw [hg]; exact Nat.ne_of_lt (Ya (g := gb171) (o := .cells #[.slice A0_0 l0_0.length c0_0] 24 (0, 0)) (by (with_reducible repeat first | apply bN | apply bD | apply bA); exact BK171.out)) : gb171 ≠ gb172)); have n6_ := aM ((by rw [hg]; exact Nat.ne_of_gt (Ya (g := gb171) (o := .cells #[.slice A0_0 l0_0.length c0_0] 24 (0, 0)) (by (with_reducible repeat first | apply bN | apply bD | apply bA); exact BK171.out)) : gb172 ≠ gb171)); clear BK171 HB; have BK171 := n0_; have HB := n1_; have BK172 := n2_; have GW172 := n3_; have GE172 := n4_; have NB171_172 := n5_; have NB172_171 := n6_; clear n0_ n1_ n2_ n3_ n4_ n5_ n6_; clear hb hbox hg; have hnb6 := NB171_172.out; have hnc6 := NB172_171.out; have hcz7_0 : w5.cell? ⟨gb171, 0, none⟩ = some (.slice A0_0 l0_0.length c0_0) := (Ze BK171.out 0).trans rfl; have hfz7_0 := Zg BK171.out 0; have hcz8_0 : w5.cell? ⟨gb172, 0, none⟩ = some (.slice A1_0 l1_0.length c1_0) := (Ze BK172.out 0).trans rfl; have hfz8_0 := Zg BK172.out 0))
  go_loopg [5] k (fun kq v5 w' => ∃ (x5_1 : Int), v5 = .int .i64 x5_1 ∧ Zq (Zl.l0 kq x5_1 l0_0 l1_0 = some r) ∧ Zq (kq ≤ k) ∧ Zq (w'.heap[gb171]? = some (.cells #[(.slice A0_0 l0_0.length c0_0)] 24 (0, 0))) ∧ Zq (w'.heap[gb172]? = some (.cells #[(.slice A1_0 l1_0.length c1_0)] 24 (0, 0))) ∧ Zq (Below w.heap.size w w'))
  case atStart => exact ⟨(0), (by first | rfl | (simp; done) | (simp [*]; done)), H', ⟨Nat.le_refl _⟩, ⟨by (with_reducible repeat first | apply bN | apply bD | apply bA); exact BK171.out⟩, ⟨by (with_reducible repeat first | apply bN | apply bD | apply bA); exact BK172.out⟩, ⟨by repeat (first | (with_reducible first | exact HB.out | apply wA | apply wN | apply wD | refine Za ?_ GE171.out | refine Za ?_ GE172.out) | exact HB.out)⟩⟩
  case round =>
   clear H'
   try clear c1
   try clear p2
   try clear c3
   try clear c3b0
   try clear c3b1
   try clear c3b2
   try clear c6
   try clear hcz7_0
   try clear hcz8_0
   try clear hfz7_0
   try clear hfz8_0
   obtain ⟨x5_1, rfl, HA, HK1, BK171, BK172, HB⟩ := hrel
   cases gk with
   | zero => exact absurd HA.out (by simp [Zl.l0])
   | succ k1 =>
    have H := HA.out
    clear HA
    simp only [Zl.l0] at H
    by_cases c9 : x5_1 < (l0_0.length : Int)
    ·rw [if_pos c9] at H
     have c9b0 : decide (x5_1 < (l0_0.length : Int)) = true := decide_eq_true c9
     clear c9
     by_cases c10 : 0 ≤ x5_1
     ·rw [if_pos c10] at H
      have c10b0 : decide (0 ≤ x5_1) = true := decide_eq_true c10
      clear c10
      by_cases c11 : x5_1 < (l1_0.length : Int)
      ·rw [if_pos c11] at H
       have c11b0 : decide (x5_1 < (l1_0.length : Int)) = true := decide_eq_true c11
       clear c11
       replace H := Option.bind_eq_some_iff.mp H
       obtain ⟨t175, A120, H⟩ := H
       replace H : (if t175 = true then ((Zk.f k1 ((Zo l0_0 x5_1).f1) ((Zo l1_0 x5_1).f1)).bind fun t178 => (if t178 = true then (Zl.l0 k1 (wrap64 (x5_1 + 1)) l0_0 l1_0) else (some false))) else (some false)) = some r := H
       have A12 := aM A120
       clear A120
       by_cases c13 : t175 = true
       ·subst c13
        have H1 : ((Zk.f k1 ((Zo l0_0 x5_1).f1) ((Zo l1_0 x5_1).f1)).bind fun t178 => (if t178 = true then (Zl.l0 k1 (wrap64 (x5_1 + 1)) l0_0 l1_0) else (some false))) = some r := by rw [if_pos rfl] at H; exact H
        clear H
        have H := H1
        clear H1
        replace H := Option.bind_eq_some_iff.mp H
        obtain ⟨t178, A140, H⟩ := H
        replace H : (if t178 = true then (Zl.l0 k1 (wrap64 (x5_1 + 1)) l0_0 l1_0) else (some false)) = some r := H
        have A14 := aM A140
        clear A140
        by_cases c15 : t178 = true
        ·subst c15
         have H1 : (Zl.l0 k1 (wrap64 (x5_1 + 1)) l0_0 l1_0) = some r := by rw [if_pos rfl] at H; exact H
         clear H
         have H := H1
         clear H1
         have H' := aM H
         clear H
         have hnb16 := NB171_172.out
         have hnc16 := NB172_171.out
         have hcz17_0 : wr.cell? ⟨gb171, 0, none⟩ = some (.slice A0_0 l0_0.length c0_0) := (Ze BK171.out 0).trans rfl
         have hfz17_0 := Zg BK171.out 0
         try go_wp2
         have n0_ := aM (bD BK171.out)
         have n1_ := aM (bD BK172.out)
         have n2_ := aM (wD HB.out)
         clear BK171 BK172 HB
         have BK171 := n0_
         have BK172 := n1_
         have HB := n2_
         clear n0_ n1_ n2_
         have p173 : 0 ≤ (x5_1 : Int) := of_decide_eq_true (by first | (with_reducible assumption) | assumption)
         have q173 : x5_1 < (l0_0.length : Int) := of_decide_eq_true (by first | (with_reducible assumption) | assumption)
         obtain ⟨ad173, A173_0, c173_0, A173_1, c173_1, e173, hx173_0, hx173_1, hl173_0, hi173_0, hl173_1, hi173_1⟩ := Zbl HR0_0.out x5_1 p173 q173
         have hw173_1 := hx173_1
         have hw173_0 := hx173_0
         cases e173
         replace hx173_0 := (HB.out.cell (Qw w _ hx173_0)).trans hx173_0
         replace hx173_1 := (HB.out.cell (Qw w _ hx173_1)).trans hx173_1
         have HR173_0 := aM hi173_0
         have HC173_0 := aM hl173_0
         clear hi173_0 hl173_0
         have HR173_1 := aM hi173_1
         have HC173_1 := aM hl173_1
         clear hi173_1 hl173_1
         replace p173 := eq_true p173
         replace q173 := eq_true q173
         have p174 : 0 ≤ (x5_1 : Int) := of_decide_eq_true (by first | (with_reducible assumption) | assumption)
         have q174 : x5_1 < (l1_0.length : Int) := of_decide_eq_true (by first | (with_reducible assumption) | assumption)
         obtain ⟨ad174, A174_0, c174_0, A174_1, c174_1, e174, hx174_0, hx174_1, hl174_0, hi174_0, hl174_1, hi174_1⟩ := Zbl HR1_0.out x5_1 p174 q174
         have hw174_1 := hx174_1
         have hw174_0 := hx174_0
         cases e174
         replace hx174_0 := (HB.out.cell (Qw w _ hx174_0)).trans hx174_0
         replace hx174_1 := (HB.out.cell (Qw w _ hx174_1)).trans hx174_1
         have HR174_0 := aM hi174_0
         have HC174_0 := aM hl174_0
         clear hi174_0 hl174_0
         have HR174_1 := aM hi174_1
         have HC174_1 := aM hl174_1
         clear hi174_1 hl174_1
         replace p174 := eq_true p174
         replace q174 := eq_true q174
         have p176 : 0 ≤ (x5_1 : Int) := of_decide_eq_true (by first | (with_reducible assumption) | assumption)
         have q176 : x5_1 < (l0_0.length : Int) := of_decide_eq_true (by first | (with_reducible assumption) | assumption)
         obtain ⟨ad176, A176_0, c176_0, A176_1, c176_1, e176, hx176_0, hx176_1, hl176_0, hi176_0, hl176_1, hi176_1⟩ := Zbl HR0_0.out x5_1 p176 q176
         have hw176_1 := hx176_1
         have hw176_0 := hx176_0
         obtain rfl : ad173 = ad176 := (by injection e176)
         replace hx176_0 := (HB.out.cell (Qw w _ hx176_0)).trans hx176_0
         replace hx176_1 := (HB.out.cell (Qw w _ hx176_1)).trans hx176_1
         have HR176_0 := aM hi176_0
         have HC176_0 := aM hl176_0
         clear hi176_0 hl176_0
         have HR176_1 := aM hi176_1
         have HC176_1 := aM hl176_1
         clear hi176_1 hl176_1
         replace p176 := eq_true p176
         replace q176 := eq_true q176
         have ea_ := Option.some.inj (hx173_0.symm.trans hx176_0)
         injection ea_ with ea_ en_ ec_
         subst ea_
         subst ec_
         clear en_
         have ea_ := Option.some.inj (hx173_1.symm.trans hx176_1)
         injection ea_ with ea_ en_ ec_
         subst ea_
         subst ec_
         clear en_
         have p177 : 0 ≤ (x5_1 : Int) := of_decide_eq_true (by first | (with_reducible assumption) | assumption)
         have q177 : x5_1 < (l1_0.length : Int) := of_decide_eq_true (by first | (with_reducible assumption) | assumption)
         obtain ⟨ad177, A177_0, c177_0, A177_1, c177_1, e177, hx177_0, hx177_1, hl177_0, hi177_0, hl177_1, hi177_1⟩ := Zbl HR1_0.out x5_1 p177 q177
         have hw177_1 := hx177_1
         have hw177_0 := hx177_0
         obtain rfl : ad174 = ad177 := (by injection e177)
         replace hx177_0 := (HB.out.cell (Qw w _ hx177_0)).trans hx177_0
         replace hx177_1 := (HB.out.cell (Qw w _ hx177_1)).trans hx177_1
         have HR177_0 := aM hi177_0
         have HC177_0 := aM hl177_0
         clear hi177_0 hl177_0
         have HR177_1 := aM hi177_1
         have HC177_1 := aM hl177_1
         clear hi177_1 hl177_1
         replace p177 := eq_true p177
         replace q177 := eq_true q177
         have ea_ := Option.some.inj (hx174_0.symm.trans hx177_0)
         injection ea_ with ea_ en_ ec_
         subst ea_
         subst ec_
         clear en_
         have ea_ := Option.some.inj (hx174_1.symm.trans hx177_1)
         injection ea_ with ea_ en_ ec_
         subst ea_
         subst ec_
         clear en_
         refine Zb9 (n := 30) (S := fun w' => w'.cell? ⟨gb171, 0, none⟩ = some (.slice (some ad173) l0_0.length c0_0) ∧ w'.cell? ⟨gb172, 0, none⟩ = some (.slice (some ad174) l1_0.length c1_0) ∧ w'.cell? (ad173.add ((x5_1).toNat * 2)) = some (.slice A173_0 ((Zo l0_0 x5_1).f0).length c173_0) ∧ w'.cell? ⟨(ad173.add ((x5_1).toNat * 2)).block, (ad173.add ((x5_1).toNat * 2)).off + 1, none⟩ = some (.slice A173_1 ((Zo l0_0 x5_1).f1).length c173_1) ∧ w'.cell? (ad174.add ((x5_1).toNat * 2)) = some (.slice A174_0 ((Zo l1_0 x5_1).f0).length c174_0) ∧ w'.cell? ⟨(ad174.add ((x5_1).toNat * 2)).block, (ad174.add ((x5_1).toNat * 2)).off + 1, none⟩ = some (.slice A174_1 ((Zo l1_0 x5_1).f1).length c174_1) ∧ w'.cell? (ad173.add ((x5_1).toNat * 2)) = some (.slice A173_0 ((Zo l0_0 x5_1).f0).length c173_0) ∧ w'.cell? ⟨(ad173.add ((x5_1).toNat * 2)).block, (ad173.add ((x5_1).toNat * 2)).off + 1, none⟩ = some (.slice A173_1 ((Zo l0_0 x5_1).f1).length c173_1) ∧ w'.cell? (ad174.add ((x5_1).toNat * 2)) = some (.slice A174_0 ((Zo l1_0 x5_1).f0).length c174_0) ∧ w'.cell? ⟨(ad174.add ((x5_1).toNat * 2)).block, (ad174.add ((x5_1).toNat * 2)).off + 1, none⟩ = some (.slice A174_1 ((Zo l1_0 x5_1).f1).length c174_1)) (ds := []) #[Qf, Qf, Qf, Qf, Qf, Qf, Qf, Qf, Qf, Qf, Qf, Qf, Qf, Qf, Qf, Qf, Qf, Qf, Qf, Qf, Qf, Qf, Qf, Qf, Qf, Qf, Qf, Qf, Qf, Qf] (by kernel_rfl) rfl rfl ⟨(Ze BK171.out 0).trans rfl, (Ze BK172.out 0).trans rfl, ((HB.out.cell (Qw w _ hw173_0)).trans hw173_0), ((HB.out.cell (Qw w _ hw173_1)).trans hw173_1), ((HB.out.cell (Qw w _ hw174_0)).trans hw174_0), ((HB.out.cell (Qw w _ hw174_1)).trans hw174_1), ((HB.out.cell (Qw w _ hw176_0)).trans hw176_0), ((HB.out.cell (Qw w _ hw176_1)).trans hw176_1), ((HB.out.cell (Qw w _ hw177_0)).trans hw177_0), ((HB.out.cell (Qw w _ hw177_1)).trans hw177_1)⟩ (fun hHeld => ?_); refine Zbs Zl.tab6 Zl.bits6 (fun HT_ HW_ => ?_)
         generalize wr.drew = w18 at BK171 BK172 HB HR173_0 HR173_1 HR174_0 HR174_1 HR176_0 HR176_1 HR177_0 HR177_1 hx173_0 hx173_1 hx174_0 hx174_1 hx176_0 hx176_1 hx177_0 hx177_1 hHeld ⊢
         refine Yq (i := 0) (N := some 20) (v := ?_) (a' := ?_) #[Qt, Qf, Qf, Qf, Qf, Qf, Qf, Qf, Qf, Qf, Qf, Qf, Qf, Qf, Qf, Qf, Qf, Qf, Qf, Qf, Qf, Qf, Qf, Qf, Qf, Qf, Qf, Qf, Qf, Qf] rfl rfl (Yk HT_.out (by kernel_rfl)) (fun _ _ _ h => h) (Or.inl ⟨by rfl, ?_⟩) ?_ ?_
         rotate_left
         ·intro w'
          go_simp
          with_reducible rfl
         rotate_left
         ·simp only [Act.put, Qa, Qb, Qc, Z5, Z6]
          rfl
         refine Yq (i := 2) (N := some 22) (v := ?_) (a' := ?_) #[Qt, Qf, Qt, Qf, Qf, Qf, Qf, Qf, Qf, Qf, Qf, Qf, Qf, Qf, Qf, Qf, Qf, Qf, Qf, Qf, Qf, Qf, Qf, Qf, Qf, Qf, Qf, Qf, Qf, Qf] rfl rfl (Yk HT_.out (by kernel_rfl)) (fun _ _ _ h => h) (Or.inl ⟨by rfl, ?_⟩) ?_ ?_
         rotate_left
         ·intro w'
          go_simp
          with_reducible rfl
         rotate_left
         ·simp only [Act.put, Qa, Qb, Qc, Z5, Z6]
          rfl
         refine Yq (i := 6) (N := some 26) (v := ?_) (a' := ?_) #[Qt, Qf, Qt, Qf, Qf, Qf, Qt, Qf, Qf, Qf, Qf, Qf, Qf, Qf, Qf, Qf, Qf, Qf, Qf, Qf, Qf, Qf, Qf, Qf, Qf, Qf, Qf, Qf, Qf, Qf] rfl rfl (Yk HT_.out (by kernel_rfl)) (fun _ _ _ h => h) (Or.inl ⟨by rfl, ?_⟩) ?_ ?_
         rotate_left
         ·intro w'
          go_simp
          with_reducible rfl
         rotate_left
         ·simp only [Act.put, Qa, Qb, Qc, Z5, Z6]
          rfl
         refine Yq (i := 8) (N := some 28) (v := ?_) (a' := ?_) #[Qt, Qf, Qt, Qf, Qf, Qf, Qt, Qf, Qt, Qf, Qf, Qf, Qf, Qf, Qf, Qf, Qf, Qf, Qf, Qf, Qf, Qf, Qf, Qf, Qf, Qf, Qf, Qf, Qf, Qf] rfl rfl (Yk HT_.out (by kernel_rfl)) (fun _ _ _ h => h) (Or.inl ⟨by rfl, ?_⟩) ?_ ?_
         rotate_left
         ·intro w'
          go_simp
          with_reducible rfl
         rotate_left
         ·simp only [Act.put, Qa, Qb, Qc, Z5, Z6]
          rfl
         refine Za5 (i := 1) (N := some 21) (v := ?_) (a' := ?_) #[Qt, Qt, Qt, Qf, Qf, Qf, Qt, Qf, Qt, Qf, Qf, Qf, Qf, Qf, Qf, Qf, Qf, Qf, Qf, Qf, Qf, Qf, Qf, Qf, Qf, Qf, Qf, Qf, Qf, Qf] rfl rfl (Zac HT_.out HW_.out (by kernel_rfl)) (fun _ _ _ h => h) (Or.inl ⟨by rfl, ?_⟩) hHeld ?_ ?_
         rotate_left
         ·rintro w' ⟨s0, s1, s2, s3, s4, s5, s6, s7, s8, s9⟩
          go_simp
          with_reducible rfl
         rotate_left
         ·simp only [Act.put, Qa, Qb, Qc, Z5, Z6]
          rfl
         refine Yq (i := 3) (N := some 23) (v := ?_) (a' := ?_) #[Qt, Qt, Qt, Qt, Qf, Qf, Qt, Qf, Qt, Qf, Qf, Qf, Qf, Qf, Qf, Qf, Qf, Qf, Qf, Qf, Qf, Qf, Qf, Qf, Qf, Qf, Qf, Qf, Qf, Qf] rfl rfl (Yk HT_.out (by kernel_rfl)) (fun _ _ _ h => h) (Or.inl ⟨by rfl, ?_⟩) ?_ ?_
         rotate_left
         ·intro w'
          go_simp
          with_reducible rfl
         rotate_left
         ·simp only [Act.put, Qa, Qb, Qc, Z5, Z6]
          rfl
         refine Yq (i := 4) (N := some 24) (v := ?_) (a' := ?_) #[Qt, Qt, Qt, Qt, Qt, Qf, Qt, Qf, Qt, Qf, Qf, Qf, Qf, Qf, Qf, Qf, Qf, Qf, Qf, Qf, Qf, Qf, Qf, Qf, Qf, Qf, Qf, Qf, Qf, Qf] rfl rfl (Yk HT_.out (by kernel_rfl)) (fun _ _ _ h => h) (Or.inl ⟨by rfl, ?_⟩) ?_ ?_
         rotate_left
         ·intro w'
          go_simp
          with_reducible rfl
         rotate_left
         ·simp only [Act.put, Qa, Qb, Qc, Z5, Z6]
          rfl
         refine Za5 (i := 5) (N := some 25) (v := ?_) (a' := ?_) #[Qt, Qt, Qt, Qt, Qt, Qt, Qt, Qf, Qt, Qf, Qf, Qf, Qf, Qf, Qf, Qf, Qf, Qf, Qf, Qf, Qf, Qf, Qf, Qf, Qf, Qf, Qf, Qf, Qf, Qf] rfl rfl (Zac HT_.out HW_.out (by kernel_rfl)) (fun _ _ _ h => h) (Or.inl ⟨by rfl, ?_⟩) hHeld ?_ ?_
         rotate_left
         ·rintro w' ⟨s0, s1, s2, s3, s4, s5, s6, s7, s8, s9⟩
          go_simp
          with_reducible rfl
         rotate_left
         ·simp only [Act.put, Qa, Qb, Qc, Z5, Z6]
          rfl
         refine Za5 (i := 7) (N := some 27) (v := ?_) (a' := ?_) #[Qt, Qt, Qt, Qt, Qt, Qt, Qt, Qt, Qt, Qf, Qf, Qf, Qf, Qf, Qf, Qf, Qf, Qf, Qf, Qf, Qf, Qf, Qf, Qf, Qf, Qf, Qf, Qf, Qf, Qf] rfl rfl (Zac HT_.out HW_.out (by kernel_rfl)) (fun _ _ _ h => h) (Or.inl ⟨by rfl, ?_⟩) hHeld ?_ ?_
         rotate_left
         ·rintro w' ⟨s0, s1, s2, s3, s4, s5, s6, s7, s8, s9⟩
          go_simp
          with_reducible rfl
         rotate_left
         ·simp only [Act.put, Qa, Qb, Qc, Z5, Z6]
          rfl
         refine Yq (i := 9) (N := some 29) (v := ?_) (a' := ?_) #[Qt, Qt, Qt, Qt, Qt, Qt, Qt, Qt, Qt, Qt, Qf, Qf, Qf, Qf, Qf, Qf, Qf, Qf, Qf, Qf, Qf, Qf, Qf, Qf, Qf, Qf, Qf, Qf, Qf, Qf] rfl rfl (Yk HT_.out (by kernel_rfl)) (fun _ _ _ h => h) (Or.inl ⟨by rfl, ?_⟩) ?_ ?_
         rotate_left
         ·intro w'
          go_simp
          with_reducible rfl
         rotate_left
         ·simp only [Act.put, Qa, Qb, Qc, Z5, Z6]
          rfl
         refine Yq (i := 10) (N := some 30) (v := ?_) (a' := ?_) #[Qt, Qt, Qt, Qt, Qt, Qt, Qt, Qt, Qt, Qt, Qt, Qf, Qf, Qf, Qf, Qf, Qf, Qf, Qf, Qf, Qf, Qf, Qf, Qf, Qf, Qf, Qf, Qf, Qf, Qf] rfl rfl (Yk HT_.out (by kernel_rfl)) (fun _ _ _ h => h) (Or.inl ⟨by rfl, ?_⟩) ?_ ?_
         rotate_left
         ·intro w'
          go_simp
          with_reducible rfl
         rotate_left
         ·simp only [Act.put, Qa, Qb, Qc, Z5, Z6]
          rfl
         refine Za5 (i := 11) (N := some 31) (v := ?_) (a' := ?_) #[Qt, Qt, Qt, Qt, Qt, Qt, Qt, Qt, Qt, Qt, Qt, Qt, Qf, Qf, Qf, Qf, Qf, Qf, Qf, Qf, Qf, Qf, Qf, Qf, Qf, Qf, Qf, Qf, Qf, Qf] rfl rfl (Zac HT_.out HW_.out (by kernel_rfl)) (fun _ _ _ h => h) (Or.inl ⟨by rfl, ?_⟩) hHeld ?_ ?_
         rotate_left
         ·rintro w' ⟨s0, s1, s2, s3, s4, s5, s6, s7, s8, s9⟩
          go_simp
          with_reducible rfl
         rotate_left
         ·simp only [Act.put, Qa, Qb, Qc, Z5, Z6]
          rfl
         refine one_ (i := 12) (N := some 32) #[Qt, Qt, Qt, Qt, Qt, Qt, Qt, Qt, Qt, Qt, Qt, Qt, Qt, Qf, Qf, Qf, Qf, Qf, Qf, Qf, Qf, Qf, Qf, Qf, Qf, Qf, Qf, Qf, Qf, Qf] rfl rfl (Za6 HT_.out (by kernel_rfl)) (by decide) (fun K hK => ?_)
         refine Zdc Try.func19 (by kernel_rfl) rfl #[.slice A173_0 ((Zo l0_0 x5_1).f0).length c173_0, .slice A174_0 ((Zo l1_0 x5_1).f0).length c174_0] (by rfl) rfl rfl (by (try simp only [Qi, Qj, Qk]); first | done | rfl | (simp only [Qe, Qd]; rfl)) ?_
         with_reducible refine (Zk.calls k1 _ _ ((Zo l0_0 x5_1).f0) _ _ ((Zo l1_0 x5_1).f0) true _ ?side1 ?side2 ?side3 ?side4 A12.out).mono ?_
         (case side1 => repeat (first | exact (Kd.Yv HR173_0.out HB.out) | (with_reducible refine Kd.Yh ?_ _) | (with_reducible refine Kd.Yg ?_ _) | (with_reducible refine Kd.Yw ?_)))
         (case side2 => exact HC173_0.out)
         (case side3 => repeat (first | exact (Kd.Yv HR174_0.out HB.out) | (with_reducible refine Kd.Yh ?_ _) | (with_reducible refine Kd.Yg ?_ _) | (with_reducible refine Kd.Yw ?_)))
         (case side4 => exact HC174_0.out)
         rintro e w' ⟨rfl, ⟨nd, rfl⟩⟩
         refine ⟨_, rfl, ?_⟩
         refine hK.out _ _ ⟨(Ze BK171.out 0).trans rfl, (Ze BK172.out 0).trans rfl, ((HB.out.cell (Qw w _ hw173_0)).trans hw173_0), ((HB.out.cell (Qw w _ hw173_1)).trans hw173_1), ((HB.out.cell (Qw w _ hw174_0)).trans hw174_0), ((HB.out.cell (Qw w _ hw174_1)).trans hw174_1), ((HB.out.cell (Qw w _ hw176_0)).trans hw176_0), ((HB.out.cell (Qw w _ hw176_1)).trans hw176_1), ((HB.out.cell (Qw w _ hw177_0)).trans hw177_0), ((HB.out.cell (Qw w _ hw177_1)).trans hw177_1)⟩ (fun hHeld => ?_)
         clear hK K
         refine Zb2 (a' := ?_) ?_ ?_
         rotate_left
         ·show Act.put _ (some 32) _ = _
          simp only [Act.put, Qa, Qb, Qc, Z5, Z6]
          rfl
         refine Yq (i := 13) (N := some 33) (v := ?_) (a' := ?_) #[Qt, Qt, Qt, Qt, Qt, Qt, Qt, Qt, Qt, Qt, Qt, Qt, Qt, Qt, Qf, Qf, Qf, Qf, Qf, Qf, Qf, Qf, Qf, Qf, Qf, Qf, Qf, Qf, Qf, Qf] rfl rfl (Yk HT_.out (by kernel_rfl)) (fun _ _ _ h => h) (Or.inl ⟨by rfl, ?_⟩) ?_ ?_
         rotate_left
         ·intro w'
          go_simp
          with_reducible rfl
         rotate_left
         ·simp only [Act.put, Qa, Qb, Qc, Z5, Z6]
          rfl
         refine Yq (i := 14) (N := some 34) (v := ?_) (a' := ?_) #[Qt, Qt, Qt, Qt, Qt, Qt, Qt, Qt, Qt, Qt, Qt, Qt, Qt, Qt, Qt, Qf, Qf, Qf, Qf, Qf, Qf, Qf, Qf, Qf, Qf, Qf, Qf, Qf, Qf, Qf] rfl rfl (Yk HT_.out (by kernel_rfl)) (fun _ _ _ h => h) (Or.inl ⟨by rfl, ?_⟩) ?_ ?_
         rotate_left
         ·intro w'
          go_simp
          with_reducible rfl
         rotate_left
         ·simp only [Act.put, Qa, Qb, Qc, Z5, Z6]
          rfl
         refine Yq (i := 15) (N := some 35) (v := ?_) (a' := ?_) #[Qt, Qt, Qt, Qt, Qt, Qt, Qt, Qt, Qt, Qt, Qt, Qt, Qt, Qt, Qt, Qt, Qf, Qf, Qf, Qf, Qf, Qf, Qf, Qf, Qf, Qf, Qf, Qf, Qf, Qf] rfl rfl (Yk HT_.out (by kernel_rfl)) (fun _ _ _ h => h) (Or.inl ⟨by rfl, ?_⟩) ?_ ?_
         rotate_left
         ·intro w'
          go_simp
          with_reducible rfl
         rotate_left
         ·simp only [Act.put, Qa, Qb, Qc, Z5, Z6]
          rfl
         refine Yq (i := 17) (N := some 37) (v := ?_) (a' := ?_) #[Qt, Qt, Qt, Qt, Qt, Qt, Qt, Qt, Qt, Qt, Qt, Qt, Qt, Qt, Qt, Qt, Qf, Qt, Qf, Qf, Qf, Qf, Qf, Qf, Qf, Qf, Qf, Qf, Qf, Qf] rfl rfl (Yk HT_.out (by kernel_rfl)) (fun _ _ _ h => h) (Or.inl ⟨by rfl, ?_⟩) ?_ ?_
         rotate_left
         ·intro w'
          go_simp
          with_reducible rfl
         rotate_left
         ·simp only [Act.put, Qa, Qb, Qc, Z5, Z6]
          rfl
         refine Yq (i := 21) (N := some 41) (v := ?_) (a' := ?_) #[Qt, Qt, Qt, Qt, Qt, Qt, Qt, Qt, Qt, Qt, Qt, Qt, Qt, Qt, Qt, Qt, Qf, Qt, Qf, Qf, Qf, Qt, Qf, Qf, Qf, Qf, Qf, Qf, Qf, Qf] rfl rfl (Yk HT_.out (by kernel_rfl)) (fun _ _ _ h => h) (Or.inl ⟨by rfl, ?_⟩) ?_ ?_
         rotate_left
         ·intro w'
          go_simp
          with_reducible rfl
         rotate_left
         ·simp only [Act.put, Qa, Qb, Qc, Z5, Z6]
          rfl
         refine Yq (i := 23) (N := some 43) (v := ?_) (a' := ?_) #[Qt, Qt, Qt, Qt, Qt, Qt, Qt, Qt, Qt, Qt, Qt, Qt, Qt, Qt, Qt, Qt, Qf, Qt, Qf, Qf, Qf, Qt, Qf, Qt, Qf, Qf, Qf, Qf, Qf, Qf] rfl rfl (Yk HT_.out (by kernel_rfl)) (fun _ _ _ h => h) (Or.inl ⟨by rfl, ?_⟩) ?_ ?_
         rotate_left
         ·intro w'
          go_simp
          with_reducible rfl
         rotate_left
         ·simp only [Act.put, Qa, Qb, Qc, Z5, Z6]
          rfl
         refine Za5 (i := 16) (N := some 36) (v := ?_) (a' := ?_) #[Qt, Qt, Qt, Qt, Qt, Qt, Qt, Qt, Qt, Qt, Qt, Qt, Qt, Qt, Qt, Qt, Qt, Qt, Qf, Qf, Qf, Qt, Qf, Qt, Qf, Qf, Qf, Qf, Qf, Qf] rfl rfl (Zac HT_.out HW_.out (by kernel_rfl)) (fun _ _ _ h => h) (Or.inl ⟨by rfl, ?_⟩) hHeld ?_ ?_
         rotate_left
         ·rintro w' ⟨s0, s1, s2, s3, s4, s5, s6, s7, s8, s9⟩
          go_simp
          with_reducible rfl
         rotate_left
         ·simp only [Act.put, Qa, Qb, Qc, Z5, Z6]
          rfl
         refine Yq (i := 18) (N := some 38) (v := ?_) (a' := ?_) #[Qt, Qt, Qt, Qt, Qt, Qt, Qt, Qt, Qt, Qt, Qt, Qt, Qt, Qt, Qt, Qt, Qt, Qt, Qt, Qf, Qf, Qt, Qf, Qt, Qf, Qf, Qf, Qf, Qf, Qf] rfl rfl (Yk HT_.out (by kernel_rfl)) (fun _ _ _ h => h) (Or.inl ⟨by rfl, ?_⟩) ?_ ?_
         rotate_left
         ·intro w'
          go_simp
          with_reducible rfl
         rotate_left
         ·simp only [Act.put, Qa, Qb, Qc, Z5, Z6]
          rfl
         refine Yq (i := 19) (N := some 39) (v := ?_) (a' := ?_) #[Qt, Qt, Qt, Qt, Qt, Qt, Qt, Qt, Qt, Qt, Qt, Qt, Qt, Qt, Qt, Qt, Qt, Qt, Qt, Qt, Qf, Qt, Qf, Qt, Qf, Qf, Qf, Qf, Qf, Qf] rfl rfl (Yk HT_.out (by kernel_rfl)) (fun _ _ _ h => h) (Or.inl ⟨by rfl, ?_⟩) ?_ ?_
         rotate_left
         ·intro w'
          go_simp
          with_reducible rfl
         rotate_left
         ·simp only [Act.put, Qa, Qb, Qc, Z5, Z6]
          rfl
         refine Za5 (i := 20) (N := some 40) (v := ?_) (a' := ?_) #[Qt, Qt, Qt, Qt, Qt, Qt, Qt, Qt, Qt, Qt, Qt, Qt, Qt, Qt, Qt, Qt, Qt, Qt, Qt, Qt, Qt, Qt, Qf, Qt, Qf, Qf, Qf, Qf, Qf, Qf] rfl rfl (Zac HT_.out HW_.out (by kernel_rfl)) (fun _ _ _ h => h) (Or.inl ⟨by rfl, ?_⟩) hHeld ?_ ?_
         rotate_left
         ·rintro w' ⟨s0, s1, s2, s3, s4, s5, s6, s7, s8, s9⟩
          go_simp
          with_reducible rfl
         rotate_left
         ·simp only [Act.put, Qa, Qb, Qc, Z5, Z6]
          rfl
         refine Za5 (i := 22) (N := some 42) (v := ?_) (a' := ?_) #[Qt, Qt, Qt, Qt, Qt, Qt, Qt, Qt, Qt, Qt, Qt, Qt, Qt, Qt, Qt, Qt, Qt, Qt, Qt, Qt, Qt, Qt, Qt, Qt, Qf, Qf, Qf, Qf, Qf, Qf] rfl rfl (Zac HT_.out HW_.out (by kernel_rfl)) (fun _ _ _ h => h) (Or.inl ⟨by rfl, ?_⟩) hHeld ?_ ?_
         rotate_left
         ·rintro w' ⟨s0, s1, s2, s3, s4, s5, s6, s7, s8, s9⟩
          go_simp
          with_reducible rfl
         rotate_left
         ·simp only [Act.put, Qa, Qb, Qc, Z5, Z6]
          rfl
         refine Yq (i := 24) (N := some 44) (v := ?_) (a' := ?_) #[Qt, Qt, Qt, Qt, Qt, Qt, Qt, Qt, Qt, Qt, Qt, Qt, Qt, Qt, Qt, Qt, Qt, Qt, Qt, Qt, Qt, Qt, Qt, Qt, Qt, Qf, Qf, Qf, Qf, Qf] rfl rfl (Yk HT_.out (by kernel_rfl)) (fun _ _ _ h => h) (Or.inl ⟨by rfl, ?_⟩) ?_ ?_
         rotate_left
         ·intro w'
          go_simp
          with_reducible rfl
         rotate_left
         ·simp only [Act.put, Qa, Qb, Qc, Z5, Z6]
          rfl
         refine Yq (i := 25) (N := some 45) (v := ?_) (a' := ?_) #[Qt, Qt, Qt, Qt, Qt, Qt, Qt, Qt, Qt, Qt, Qt, Qt, Qt, Qt, Qt, Qt, Qt, Qt, Qt, Qt, Qt, Qt, Qt, Qt, Qt, Qt, Qf, Qf, Qf, Qf] rfl rfl (Yk HT_.out (by kernel_rfl)) (fun _ _ _ h => h) (Or.inl ⟨by rfl, ?_⟩) ?_ ?_
         rotate_left
         ·intro w'
          go_simp
          with_reducible rfl
         rotate_left
         ·simp only [Act.put, Qa, Qb, Qc, Z5, Z6]
          rfl
         refine Za5 (i := 26) (N := some 46) (v := ?_) (a' := ?_) #[Qt, Qt, Qt, Qt, Qt, Qt, Qt, Qt, Qt, Qt, Qt, Qt, Qt, Qt, Qt, Qt, Qt, Qt, Qt, Qt, Qt, Qt, Qt, Qt, Qt, Qt, Qt, Qf, Qf, Qf] rfl rfl (Zac HT_.out HW_.out (by kernel_rfl)) (fun _ _ _ h => h) (Or.inl ⟨by rfl, ?_⟩) hHeld ?_ ?_
         rotate_left
         ·rintro w' ⟨s0, s1, s2, s3, s4, s5, s6, s7, s8, s9⟩
          go_simp
          with_reducible rfl
         rotate_left
         ·simp only [Act.put, Qa, Qb, Qc, Z5, Z6]
          rfl
         refine one_ (i := 27) (N := some 47) #[Qt, Qt, Qt, Qt, Qt, Qt, Qt, Qt, Qt, Qt, Qt, Qt, Qt, Qt, Qt, Qt, Qt, Qt, Qt, Qt, Qt, Qt, Qt, Qt, Qt, Qt, Qt, Qt, Qf, Qf] rfl rfl (Za6 HT_.out (by kernel_rfl)) (by decide) (fun K hK => ?_)
         refine Zdc Try.func19 (by kernel_rfl) rfl #[.slice A173_1 ((Zo l0_0 x5_1).f1).length c173_1, .slice A174_1 ((Zo l1_0 x5_1).f1).length c174_1] (by rfl) rfl rfl (by (try simp only [Qi, Qj, Qk]); first | done | rfl | (simp only [Qe, Qd]; rfl)) ?_
         with_reducible refine (Zk.calls k1 _ _ ((Zo l0_0 x5_1).f1) _ _ ((Zo l1_0 x5_1).f1) true _ ?side1 ?side2 ?side3 ?side4 A14.out).mono ?_
         (case side1 => repeat (first | exact (Kd.Yv HR176_1.out (by repeat (first | (with_reducible first | exact HB.out | apply wA | apply wN | apply wD | refine Za ?_ GE171.out | refine Za ?_ GE172.out) | exact HB.out))) | (with_reducible refine Kd.Yh ?_ _) | (with_reducible refine Kd.Yg ?_ _) | (with_reducible refine Kd.Yw ?_)))
         (case side2 => exact HC176_1.out)
         (case side3 => repeat (first | exact (Kd.Yv HR177_1.out (by repeat (first | (with_reducible first | exact HB.out | apply wA | apply wN | apply wD | refine Za ?_ GE171.out | refine Za ?_ GE172.out) | exact HB.out))) | (with_reducible refine Kd.Yh ?_ _) | (with_reducible refine Kd.Yg ?_ _) | (with_reducible refine Kd.Yw ?_)))
         (case side4 => exact HC177_1.out)
         rintro e w' ⟨rfl, ⟨nd, rfl⟩⟩
         refine ⟨_, rfl, ?_⟩
         refine hK.out _ _ ⟨(Ze BK171.out 0).trans rfl, (Ze BK172.out 0).trans rfl, ((HB.out.cell (Qw w _ hw173_0)).trans hw173_0), ((HB.out.cell (Qw w _ hw173_1)).trans hw173_1), ((HB.out.cell (Qw w _ hw174_0)).trans hw174_0), ((HB.out.cell (Qw w _ hw174_1)).trans hw174_1), ((HB.out.cell (Qw w _ hw176_0)).trans hw176_0), ((HB.out.cell (Qw w _ hw176_1)).trans hw176_1), ((HB.out.cell (Qw w _ hw177_0)).trans hw177_0), ((HB.out.cell (Qw w _ hw177_1)).trans hw177_1)⟩ (fun hHeld => ?_)
         clear hK K
         refine Zb2 (a' := ?_) ?_ ?_
         rotate_left
         ·show Act.put _ (some 47) _ = _
          simp only [Act.put, Qa, Qb, Qc, Z5, Z6]
          rfl
         refine Yq (i := 28) (N := some 48) (v := ?_) (a' := ?_) #[Qt, Qt, Qt, Qt, Qt, Qt, Qt, Qt, Qt, Qt, Qt, Qt, Qt, Qt, Qt, Qt, Qt, Qt, Qt, Qt, Qt, Qt, Qt, Qt, Qt, Qt, Qt, Qt, Qt, Qf] rfl rfl (Yk HT_.out (by kernel_rfl)) (fun _ _ _ h => h) (Or.inl ⟨by rfl, ?_⟩) ?_ ?_
         rotate_left
         ·intro w'
          go_simp
          with_reducible rfl
         rotate_left
         ·simp only [Act.put, Qa, Qb, Qc, Z5, Z6]
          rfl
         refine Yq (i := 29) (N := some 49) (v := ?_) (a' := ?_) #[Qt, Qt, Qt, Qt, Qt, Qt, Qt, Qt, Qt, Qt, Qt, Qt, Qt, Qt, Qt, Qt, Qt, Qt, Qt, Qt, Qt, Qt, Qt, Qt, Qt, Qt, Qt, Qt, Qt, Qt] rfl rfl (Yk HT_.out (by kernel_rfl)) (fun _ _ _ h => h) (Or.inl ⟨by rfl, ?_⟩) ?_ ?_
         rotate_left
         ·intro w'
          go_simp
          with_reducible rfl
         rotate_left
         ·simp only [Act.put, Qa, Qb, Qc, Z5, Z6]
          rfl
         refine Zcv (Zcf HT_.out (by kernel_rfl)) ?_
         try go_wp2
         go_roundg k1
         case measure => have := HK1.out; omega
         case rel => exact ⟨(wrap64 (x5_1 + 1)), (by first | rfl | (simp; done) | (simp [*]; done)), H', ⟨by have := HK1.out; omega⟩, ⟨by (with_reducible repeat first | apply bN | apply bD | apply bA); exact BK171.out⟩, ⟨by (with_reducible repeat first | apply bN | apply bD | apply bA); exact BK172.out⟩, ⟨by repeat (first | (with_reducible first | exact HB.out | apply wA | apply wN | apply wD | refine Za ?_ GE171.out | refine Za ?_ GE172.out) | exact HB.out)⟩⟩
        ·replace c15 := Bool.eq_false_iff.mpr c15
         subst c15
         have H1 : (some false) = some r := by rw [if_neg (show ¬ (false = true) by decide)] at H; exact H
         clear H
         have H := H1
         clear H1
         obtain rfl := Option.some.inj H
         have hnb19 := NB171_172.out
         have hnc19 := NB172_171.out
         have hcz20_0 : wr.cell? ⟨gb171, 0, none⟩ = some (.slice A0_0 l0_0.length c0_0) := (Ze BK171.out 0).trans rfl
         have hfz20_0 := Zg BK171.out 0
         try go_wp2
         have n0_ := aM (bD BK171.out)
         have n1_ := aM (bD BK172.out)
         have n2_ := aM (wD HB.out)
         clear BK171 BK172 HB
         have BK171 := n0_
         have BK172 := n1_
         have HB := n2_
         clear n0_ n1_ n2_
         have p173 : 0 ≤ (x5_1 : Int) := of_decide_eq_true (by first | (with_reducible assumption) | assumption)
         have q173 : x5_1 < (l0_0.length : Int) := of_decide_eq_true (by first | (with_reducible assumption) | assumption)
         obtain ⟨ad173, A173_0, c173_0, A173_1, c173_1, e173, hx173_0, hx173_1, hl173_0, hi173_0, hl173_1, hi173_1⟩ := Zbl HR0_0.out x5_1 p173 q173
         have hw173_1 := hx173_1
         have hw173_0 := hx173_0
         cases e173
         replace hx173_0 := (HB.out.cell (Qw w _ hx173_0)).trans hx173_0
         replace hx173_1 := (HB.out.cell (Qw w _ hx173_1)).trans hx173_1
         have HR173_0 := aM hi173_0
         have HC173_0 := aM hl173_0
         clear hi173_0 hl173_0
         have HR173_1 := aM hi173_1
         have HC173_1 := aM hl173_1
         clear hi173_1 hl173_1
         replace p173 := eq_true p173
         replace q173 := eq_true q173
         have p174 : 0 ≤ (x5_1 : Int) := of_decide_eq_true (by first | (with_reducible assumption) | assumption)
         have q174 : x5_1 < (l1_0.length : Int) := of_decide_eq_true (by first | (with_reducible assumption) | assumption)
         obtain ⟨ad174, A174_0, c174_0, A174_1, c174_1, e174, hx174_0, hx174_1, hl174_0, hi174_0, hl174_1, hi174_1⟩ := Zbl HR1_0.out x5_1 p174 q174
         have hw174_1 := hx174_1
         have hw174_0 := hx174_0
         cases e174
         replace hx174_0 := (HB.out.cell (Qw w _ hx174_0)).trans hx174_0
         replace hx174_1 := (HB.out.cell (Qw w _ hx174_1)).trans hx174_1
         have HR174_0 := aM hi174_0
         have HC174_0 := aM hl174_0
         clear hi174_0 hl174_0
         have HR174_1 := aM hi174_1
         have HC174_1 := aM hl174_1
         clear hi174_1 hl174_1
         replace p174 := eq_true p174
         replace q174 := eq_true q174
         have p176 : 0 ≤ (x5_1 : Int) := of_decide_eq_true (by first | (with_reducible assumption) | assumption)
         have q176 : x5_1 < (l0_0.length : Int) := of_decide_eq_true (by first | (with_reducible assumption) | assumption)
         obtain ⟨ad176, A176_0, c176_0, A176_1, c176_1, e176, hx176_0, hx176_1, hl176_0, hi176_0, hl176_1, hi176_1⟩ := Zbl HR0_0.out x5_1 p176 q176
         have hw176_1 := hx176_1
         have hw176_0 := hx176_0
         obtain rfl : ad173 = ad176 := (by injection e176)
         replace hx176_0 := (HB.out.cell (Qw w _ hx176_0)).trans hx176_0
         replace hx176_1 := (HB.out.cell (Qw w _ hx176_1)).trans hx176_1
         have HR176_0 := aM hi176_0
         have HC176_0 := aM hl176_0
         clear hi176_0 hl176_0
         have HR176_1 := aM hi176_1
         have HC176_1 := aM hl176_1
         clear hi176_1 hl176_1
         replace p176 := eq_true p176
         replace q176 := eq_true q176
         have ea_ := Option.some.inj (hx173_0.symm.trans hx176_0)
         injection ea_ with ea_ en_ ec_
         subst ea_
         subst ec_
         clear en_
         have ea_ := Option.some.inj (hx173_1.symm.trans hx176_1)
         injection ea_ with ea_ en_ ec_
         subst ea_
         subst ec_
         clear en_
         have p177 : 0 ≤ (x5_1 : Int) := of_decide_eq_true (by first | (with_reducible assumption) | assumption)
         have q177 : x5_1 < (l1_0.length : Int) := of_decide_eq_true (by first | (with_reducible assumption) | assumption)
         obtain ⟨ad177, A177_0, c177_0, A177_1, c177_1, e177, hx177_0, hx177_1, hl177_0, hi177_0, hl177_1, hi177_1⟩ := Zbl HR1_0.out x5_1 p177 q177
         have hw177_1 := hx177_1
         have hw177_0 := hx177_0
         obtain rfl : ad174 = ad177 := (by injection e177)
         replace hx177_0 := (HB.out.cell (Qw w _ hx177_0)).trans hx177_0
         replace hx177_1 := (HB.out.cell (Qw w _ hx177_1)).trans hx177_1
         have HR177_0 := aM hi177_0
         have HC177_0 := aM hl177_0
         clear hi177_0 hl177_0
         have HR177_1 := aM hi177_1
         have HC177_1 := aM hl177_1
         clear hi177_1 hl177_1
         replace p177 := eq_true p177
         replace q177 := eq_true q177
         have ea_ := Option.some.inj (hx174_0.symm.trans hx177_0)
         injection ea_ with ea_ en_ ec_
         subst ea_
         subst ec_
         clear en_
         have ea_ := Option.some.inj (hx174_1.symm.trans hx177_1)
         injection ea_ with ea_ en_ ec_
         subst ea_
         subst ec_
         clear en_
         refine Zb9 (n := 30) (S := fun w' => w'.cell? ⟨gb171, 0, none⟩ = some (.slice (some ad173) l0_0.length c0_0) ∧ w'.cell? ⟨gb172, 0, none⟩ = some (.slice (some ad174) l1_0.length c1_0) ∧ w'.cell? (ad173.add ((x5_1).toNat * 2)) = some (.slice A173_0 ((Zo l0_0 x5_1).f0).length c173_0) ∧ w'.cell? ⟨(ad173.add ((x5_1).toNat * 2)).block, (ad173.add ((x5_1).toNat * 2)).off + 1, none⟩ = some (.slice A173_1 ((Zo l0_0 x5_1).f1).length c173_1) ∧ w'.cell? (ad174.add ((x5_1).toNat * 2)) = some (.slice A174_0 ((Zo l1_0 x5_1).f0).length c174_0) ∧ w'.cell? ⟨(ad174.add ((x5_1).toNat * 2)).block, (ad174.add ((x5_1).toNat * 2)).off + 1, none⟩ = some (.slice A174_1 ((Zo l1_0 x5_1).f1).length c174_1) ∧ w'.cell? (ad173.add ((x5_1).toNat * 2)) = some (.slice A173_0 ((Zo l0_0 x5_1).f0).length c173_0) ∧ w'.cell? ⟨(ad173.add ((x5_1).toNat * 2)).block, (ad173.add ((x5_1).toNat * 2)).off + 1, none⟩ = some (.slice A173_1 ((Zo l0_0 x5_1).f1).length c173_1) ∧ w'.cell? (ad174.add ((x5_1).toNat * 2)) = some (.slice A174_0 ((Zo l1_0 x5_1).f0).length c174_0) ∧ w'.cell? ⟨(ad174.add ((x5_1).toNat * 2)).block, (ad174.add ((x5_1).toNat * 2)).off + 1, none⟩ = some (.slice A174_1 ((Zo l1_0 x5_1).f1).length c174_1)) (ds := []) #[Qf, Qf, Qf, Qf, Qf, Qf, Qf, Qf, Qf, Qf, Qf, Qf, Qf, Qf, Qf, Qf, Qf, Qf, Qf, Qf, Qf, Qf, Qf, Qf, Qf, Qf, Qf, Qf, Qf, Qf] (by kernel_rfl) rfl rfl ⟨(Ze BK171.out 0).trans rfl, (Ze BK172.out 0).trans rfl, ((HB.out.cell (Qw w _ hw173_0)).trans hw173_0), ((HB.out.cell (Qw w _ hw173_1)).trans hw173_1), ((HB.out.cell (Qw w _ hw174_0)).trans hw174_0), ((HB.out.cell (Qw w _ hw174_1)).trans hw174_1), ((HB.out.cell (Qw w _ hw176_0)).trans hw176_0), ((HB.out.cell (Qw w _ hw176_1)).trans hw176_1), ((HB.out.cell (Qw w _ hw177_0)).trans hw177_0), ((HB.out.cell (Qw w _ hw177_1)).trans hw177_1)⟩ (fun hHeld => ?_); refine Zbs Zl.tab6 Zl.bits6 (fun HT_ HW_ => ?_)
         generalize wr.drew = w21 at BK171 BK172 HB HR173_0 HR173_1 HR174_0 HR174_1 HR176_0 HR176_1 HR177_0 HR177_1 hx173_0 hx173_1 hx174_0 hx174_1 hx176_0 hx176_1 hx177_0 hx177_1 hHeld ⊢
         refine Yq (i := 0) (N := some 20) (v := ?_) (a' := ?_) #[Qt, Qf, Qf, Qf, Qf, Qf, Qf, Qf, Qf, Qf, Qf, Qf, Qf, Qf, Qf, Qf, Qf, Qf, Qf, Qf, Qf, Qf, Qf, Qf, Qf, Qf, Qf, Qf, Qf, Qf] rfl rfl (Yk HT_.out (by kernel_rfl)) (fun _ _ _ h => h) (Or.inl ⟨by rfl, ?_⟩) ?_ ?_
         rotate_left
         ·intro w'
          go_simp
          with_reducible rfl
         rotate_left
         ·simp only [Act.put, Qa, Qb, Qc, Z5, Z6]
          rfl
         refine Yq (i := 2) (N := some 22) (v := ?_) (a' := ?_) #[Qt, Qf, Qt, Qf, Qf, Qf, Qf, Qf, Qf, Qf, Qf, Qf, Qf, Qf, Qf, Qf, Qf, Qf, Qf, Qf, Qf, Qf, Qf, Qf, Qf, Qf, Qf, Qf, Qf, Qf] rfl rfl (Yk HT_.out (by kernel_rfl)) (fun _ _ _ h => h) (Or.inl ⟨by rfl, ?_⟩) ?_ ?_
         rotate_left
         ·intro w'
          go_simp
          with_reducible rfl
         rotate_left
         ·simp only [Act.put, Qa, Qb, Qc, Z5, Z6]
          rfl
         refine Yq (i := 6) (N := some 26) (v := ?_) (a' := ?_) #[Qt, Qf, Qt, Qf, Qf, Qf, Qt, Qf, Qf, Qf, Qf, Qf, Qf, Qf, Qf, Qf, Qf, Qf, Qf, Qf, Qf, Qf, Qf, Qf, Qf, Qf, Qf, Qf, Qf, Qf] rfl rfl (Yk HT_.out (by kernel_rfl)) (fun _ _ _ h => h) (Or.inl ⟨by rfl, ?_⟩) ?_ ?_
         rotate_left
         ·intro w'
          go_simp
          with_reducible rfl
         rotate_left
         ·simp only [Act.put, Qa, Qb, Qc, Z5, Z6]
          rfl
         refine Yq (i := 8) (N := some 28) (v := ?_) (a' := ?_) #[Qt, Qf, Qt, Qf, Qf, Qf, Qt, Qf, Qt, Qf, Qf, Qf, Qf, Qf, Qf, Qf, Qf, Qf, Qf, Qf, Qf, Qf, Qf, Qf, Qf, Qf, Qf, Qf, Qf, Qf] rfl rfl (Yk HT_.out (by kernel_rfl)) (fun _ _ _ h => h) (Or.inl ⟨by rfl, ?_⟩) ?_ ?_
         rotate_left
         ·intro w'
          go_simp
          with_reducible rfl
         rotate_left
         ·simp only [Act.put, Qa, Qb, Qc, Z5, Z6]
          rfl
         refine Za5 (i := 1) (N := some 21) (v := ?_) (a' := ?_) #[Qt, Qt, Qt, Qf, Qf, Qf, Qt, Qf, Qt, Qf, Qf, Qf, Qf, Qf, Qf, Qf, Qf, Qf, Qf, Qf, Qf, Qf, Qf, Qf, Qf, Qf, Qf, Qf, Qf, Qf] rfl rfl (Zac HT_.out HW_.out (by kernel_rfl)) (fun _ _ _ h => h) (Or.inl ⟨by rfl, ?_⟩) hHeld ?_ ?_
         rotate_left
         ·rintro w' ⟨s0, s1, s2, s3, s4, s5, s6, s7, s8, s9⟩
          go_simp
          with_reducible rfl
         rotate_left
         ·simp only [Act.put, Qa, Qb, Qc, Z5, Z6]
          rfl
         refine Yq (i := 3) (N := some 23) (v := ?_) (a' := ?_) #[Qt, Qt, Qt, Qt, Qf, Qf, Qt, Qf, Qt, Qf, Qf, Qf, Qf, Qf, Qf, Qf, Qf, Qf, Qf, Qf, Qf, Qf, Qf, Qf, Qf, Qf, Qf, Qf, Qf, Qf] rfl rfl (Yk HT_.out (by kernel_rfl)) (fun _ _ _ h => h) (Or.inl ⟨by rfl, ?_⟩) ?_ ?_
         rotate_left
         ·intro w'
          go_simp
          with_reducible rfl
         rotate_left
         ·simp only [Act.put, Qa, Qb, Qc, Z5, Z6]
          rfl
         refine Yq (i := 4) (N := some 24) (v := ?_) (a' := ?_) #[Qt, Qt, Qt, Qt, Qt, Qf, Qt, Qf, Qt, Qf, Qf, Qf, Qf, Qf, Qf, Qf, Qf, Qf, Qf, Qf, Qf, Qf, Qf, Qf, Qf, Qf, Qf, Qf, Qf, Qf] rfl rfl (Yk HT_.out (by kernel_rfl)) (fun _ _ _ h => h) (Or.inl ⟨by rfl, ?_⟩) ?_ ?_
         rotate_left
         ·intro w'
          go_simp
          with_reducible rfl
         rotate_left
         ·simp only [Act.put, Qa, Qb, Qc, Z5, Z6]
          rfl
         refine Za5 (i := 5) (N := some 25) (v := ?_) (a' := ?_) #[Qt, Qt, Qt, Qt, Qt, Qt, Qt, Qf, Qt, Qf, Qf, Qf, Qf, Qf, Qf, Qf, Qf, Qf, Qf, Qf, Qf, Qf, Qf, Qf, Qf, Qf, Qf, Qf, Qf, Qf] rfl rfl (Zac HT_.out HW_.out (by kernel_rfl)) (fun _ _ _ h => h) (Or.inl ⟨by rfl, ?_⟩) hHeld ?_ ?_
         rotate_left
         ·rintro w' ⟨s0, s1, s2, s3, s4, s5, s6, s7, s8, s9⟩
          go_simp
          with_reducible rfl
         rotate_left
         ·simp only [Act.put, Qa, Qb, Qc, Z5, Z6]
          rfl
         refine Za5 (i := 7) (N := some 27) (v := ?_) (a' := ?_) #[Qt, Qt, Qt, Qt, Qt, Qt, Qt, Qt, Qt, Qf, Qf, Qf, Qf, Qf, Qf, Qf, Qf, Qf, Qf, Qf, Qf, Qf, Qf, Qf, Qf, Qf, Qf, Qf, Qf, Qf] rfl rfl (Zac HT_.out HW_.out (by kernel_rfl)) (fun _ _ _ h => h) (Or.inl ⟨by rfl, ?_⟩) hHeld ?_ ?_
         rotate_left
         ·rintro w' ⟨s0, s1, s2, s3, s4, s5, s6, s7, s8, s9⟩
          go_simp
          with_reducible rfl
         rotate_left
         ·simp only [Act.put, Qa, Qb, Qc, Z5, Z6]
          rfl
         refine Yq (i := 9) (N := some 29) (v := ?_) (a' := ?_) #[Qt, Qt, Qt, Qt, Qt, Qt, Qt, Qt, Qt, Qt, Qf, Qf, Qf, Qf, Qf, Qf, Qf, Qf, Qf, Qf, Qf, Qf, Qf, Qf, Qf, Qf, Qf, Qf, Qf, Qf] rfl rfl (Yk HT_.out (by kernel_rfl)) (fun _ _ _ h => h) (Or.inl ⟨by rfl, ?_⟩) ?_ ?_
         rotate_left
         ·intro w'
          go_simp
          with_reducible rfl
         rotate_left
         ·simp only [Act.put, Qa, Qb, Qc, Z5, Z6]
          rfl
         refine Yq (i := 10) (N := some 30) (v := ?_) (a' := ?_) #[Qt, Qt, Qt, Qt, Qt, Qt, Qt, Qt, Qt, Qt, Qt, Qf, Qf, Qf, Qf, Qf, Qf, Qf, Qf, Qf, Qf, Qf, Qf, Qf, Qf, Qf, Qf, Qf, Qf, Qf] rfl rfl (Yk HT_.out (by kernel_rfl)) (fun _ _ _ h => h) (Or.inl ⟨by rfl, ?_⟩) ?_ ?_
         rotate_left
         ·intro w'
          go_simp
          with_reducible rfl
         rotate_left
         ·simp only [Act.put, Qa, Qb, Qc, Z5, Z6]
          rfl
         refine Za5 (i := 11) (N := some 31) (v := ?_) (a' := ?_) #[Qt, Qt, Qt, Qt, Qt, Qt, Qt, Qt, Qt, Qt, Qt, Qt, Qf, Qf, Qf, Qf, Qf, Qf, Qf, Qf, Qf, Qf, Qf, Qf, Qf, Qf, Qf, Qf, Qf, Qf] rfl rfl (Zac HT_.out HW_.out (by kernel_rfl)) (fun _ _ _ h => h) (Or.inl ⟨by rfl, ?_⟩) hHeld ?_ ?_
         rotate_left
         ·rintro w' ⟨s0, s1, s2, s3, s4, s5, s6, s7, s8, s9⟩
          go_simp
          with_reducible rfl
         rotate_left
         ·simp only [Act.put, Qa, Qb, Qc, Z5, Z6]
          rfl
         refine one_ (i := 12) (N := some 32) #[Qt, Qt, Qt, Qt, Qt, Qt, Qt, Qt, Qt, Qt, Qt, Qt, Qt, Qf, Qf, Qf, Qf, Qf, Qf, Qf, Qf, Qf, Qf, Qf, Qf, Qf, Qf, Qf, Qf, Qf] rfl rfl (Za6 HT_.out (by kernel_rfl)) (by decide) (fun K hK => ?_)
         refine Zdc Try.func19 (by kernel_rfl) rfl #[.slice A173_0 ((Zo l0_0 x5_1).f0).length c173_0, .slice A174_0 ((Zo l1_0 x5_1).f0).length c174_0] (by rfl) rfl rfl (by (try simp only [Qi, Qj, Qk]); first | done | rfl | (simp only [Qe, Qd]; rfl)) ?_
         with_reducible refine (Zk.calls k1 _ _ ((Zo l0_0 x5_1).f0) _ _ ((Zo l1_0 x5_1).f0) true _ ?side1 ?side2 ?side3 ?side4 A12.out).mono ?_
         (case side1 => repeat (first | exact (Kd.Yv HR173_0.out HB.out) | (with_reducible refine Kd.Yh ?_ _) | (with_reducible refine Kd.Yg ?_ _) | (with_reducible refine Kd.Yw ?_)))
         (case side2 => exact HC173_0.out)
         (case side3 => repeat (first | exact (Kd.Yv HR174_0.out HB.out) | (with_reducible refine Kd.Yh ?_ _) | (with_reducible refine Kd.Yg ?_ _) | (with_reducible refine Kd.Yw ?_)))
         (case side4 => exact HC174_0.out)
         rintro e w' ⟨rfl, ⟨nd, rfl⟩⟩
         refine ⟨_, rfl, ?_⟩
         refine hK.out _ _ ⟨(Ze BK171.out 0).trans rfl, (Ze BK172.out 0).trans rfl, ((HB.out.cell (Qw w _ hw173_0)).trans hw173_0), ((HB.out.cell (Qw w _ hw173_1)).trans hw173_1), ((HB.out.cell (Qw w _ hw174_0)).trans hw174_0), ((HB.out.cell (Qw w _ hw174_1)).trans hw174_1), ((HB.out.cell (Qw w _ hw176_0)).trans hw176_0), ((HB.out.cell (Qw w _ hw176_1)).trans hw176_1), ((HB.out.cell (Qw w _ hw177_0)).trans hw177_0), ((HB.out.cell (Qw w _ hw177_1)).trans hw177_1)⟩ (fun hHeld => ?_)
         clear hK K
         refine Zb2 (a' := ?_) ?_ ?_
         rotate_left
         ·show Act.put _ (some 32) _ = _
          simp only [Act.put, Qa, Qb, Qc, Z5, Z6]
          rfl
         refine Yq (i := 13) (N := some 33) (v := ?_) (a' := ?_) #[Qt, Qt, Qt, Qt, Qt, Qt, Qt, Qt, Qt, Qt, Qt, Qt, Qt, Qt, Qf, Qf, Qf, Qf, Qf, Qf, Qf, Qf, Qf, Qf, Qf, Qf, Qf, Qf, Qf, Qf] rfl rfl (Yk HT_.out (by kernel_rfl)) (fun _ _ _ h => h) (Or.inl ⟨by rfl, ?_⟩) ?_ ?_
         rotate_left
         ·intro w'
          go_simp
          with_reducible rfl
         rotate_left
         ·simp only [Act.put, Qa, Qb, Qc, Z5, Z6]
          rfl
         refine Yq (i := 14) (N := some 34) (v := ?_) (a' := ?_) #[Qt, Qt, Qt, Qt, Qt, Qt, Qt, Qt, Qt, Qt, Qt, Qt, Qt, Qt, Qt, Qf, Qf, Qf, Qf, Qf, Qf, Qf, Qf, Qf, Qf, Qf, Qf, Qf, Qf, Qf] rfl rfl (Yk HT_.out (by kernel_rfl)) (fun _ _ _ h => h) (Or.inl ⟨by rfl, ?_⟩) ?_ ?_
         rotate_left
         ·intro w'
          go_simp
          with_reducible rfl
         rotate_left
         ·simp only [Act.put, Qa, Qb, Qc, Z5, Z6]
          rfl
         refine Yq (i := 15) (N := some 35) (v := ?_) (a' := ?_) #[Qt, Qt, Qt, Qt, Qt, Qt, Qt, Qt, Qt, Qt, Qt, Qt, Qt, Qt, Qt, Qt, Qf, Qf, Qf, Qf, Qf, Qf, Qf, Qf, Qf, Qf, Qf, Qf, Qf, Qf] rfl rfl (Yk HT_.out (by kernel_rfl)) (fun _ _ _ h => h) (Or.inl ⟨by rfl, ?_⟩) ?_ ?_
         rotate_left
         ·intro w'
          go_simp
          with_reducible rfl
         rotate_left
         ·simp only [Act.put, Qa, Qb, Qc, Z5, Z6]
          rfl
         refine Yq (i := 17) (N := some 37) (v := ?_) (a' := ?_) #[Qt, Qt, Qt, Qt, Qt, Qt, Qt, Qt, Qt, Qt, Qt, Qt, Qt, Qt, Qt, Qt, Qf, Qt, Qf, Qf, Qf, Qf, Qf, Qf, Qf, Qf, Qf, Qf, Qf, Qf] rfl rfl (Yk HT_.out (by kernel_rfl)) (fun _ _ _ h => h) (Or.inl ⟨by rfl, ?_⟩) ?_ ?_
         rotate_left
         ·intro w'
          go_simp
          with_reducible rfl
         rotate_left
         ·simp only [Act.put, Qa, Qb, Qc, Z5, Z6]
          rfl
         refine Yq (i := 21) (N := some 41) (v := ?_) (a' := ?_) #[Qt, Qt, Qt, Qt, Qt, Qt, Qt, Qt, Qt, Qt, Qt, Qt, Qt, Qt, Qt, Qt, Qf, Qt, Qf, Qf, Qf, Qt, Qf, Qf, Qf, Qf, Qf, Qf, Qf, Qf] rfl rfl (Yk HT_.out (by kernel_rfl)) (fun _ _ _ h => h) (Or.inl ⟨by rfl, ?_⟩) ?_ ?_
         rotate_left
         ·intro w'
          go_simp
          with_reducible rfl
         rotate_left
         ·simp only [Act.put, Qa, Qb, Qc, Z5, Z6]
          rfl
         refine Yq (i := 23) (N := some 43) (v := ?_) (a' := ?_) #[Qt, Qt, Qt, Qt, Qt, Qt, Qt, Qt, Qt, Qt, Qt, Qt, Qt, Qt, Qt, Qt, Qf, Qt, Qf, Qf, Qf, Qt, Qf, Qt, Qf, Qf, Qf, Qf, Qf, Qf] rfl rfl (Yk HT_.out (by kernel_rfl)) (fun _ _ _ h => h) (Or.inl ⟨by rfl, ?_⟩) ?_ ?_
         rotate_left
         ·intro w'
          go_simp
          with_reducible rfl
         rotate_left
         ·simp only [Act.put, Qa, Qb, Qc, Z5, Z6]
          rfl
         refine Za5 (i := 16) (N := some 36) (v := ?_) (a' := ?_) #[Qt, Qt, Qt, Qt, Qt, Qt, Qt, Qt, Qt, Qt, Qt, Qt, Qt, Qt, Qt, Qt, Qt, Qt, Qf, Qf, Qf, Qt, Qf, Qt, Qf, Qf, Qf, Qf, Qf, Qf] rfl rfl (Zac HT_.out HW_.out (by kernel_rfl)) (fun _ _ _ h => h) (Or.inl ⟨by rfl, ?_⟩) hHeld ?_ ?_
         rotate_left
         ·rintro w' ⟨s0, s1, s2, s3, s4, s5, s6, s7, s8, s9⟩
          go_simp
          with_reducible rfl
         rotate_left
         ·simp only [Act.put, Qa, Qb, Qc, Z5, Z6]
          rfl
         refine Yq (i := 18) (N := some 38) (v := ?_) (a' := ?_) #[Qt, Qt, Qt, Qt, Qt, Qt, Qt, Qt, Qt, Qt, Qt, Qt, Qt, Qt, Qt, Qt, Qt, Qt, Qt, Qf, Qf, Qt, Qf, Qt, Qf, Qf, Qf, Qf, Qf, Qf] rfl rfl (Yk HT_.out (by kernel_rfl)) (fun _ _ _ h => h) (Or.inl ⟨by rfl, ?_⟩) ?_ ?_
         rotate_left
         ·intro w'
          go_simp
          with_reducible rfl
         rotate_left
         ·simp only [Act.put, Qa, Qb, Qc, Z5, Z6]
          rfl
         refine Yq (i := 19) (N := some 39) (v := ?_) (a' := ?_) #[Qt, Qt, Qt, Qt, Qt, Qt, Qt, Qt, Qt, Qt, Qt, Qt, Qt, Qt, Qt, Qt, Qt, Qt, Qt, Qt, Qf, Qt, Qf, Qt, Qf, Qf, Qf, Qf, Qf, Qf] rfl rfl (Yk HT_.out (by kernel_rfl)) (fun _ _ _ h => h) (Or.inl ⟨by rfl, ?_⟩) ?_ ?_
         rotate_left
         ·intro w'
          go_simp
          with_reducible rfl
         rotate_left
         ·simp only [Act.put, Qa, Qb, Qc, Z5, Z6]
          rfl
         refine Za5 (i := 20) (N := some 40) (v := ?_) (a' := ?_) #[Qt, Qt, Qt, Qt, Qt, Qt, Qt, Qt, Qt, Qt, Qt, Qt, Qt, Qt, Qt, Qt, Qt, Qt, Qt, Qt, Qt, Qt, Qf, Qt, Qf, Qf, Qf, Qf, Qf, Qf] rfl rfl (Zac HT_.out HW_.out (by kernel_rfl)) (fun _ _ _ h => h) (Or.inl ⟨by rfl, ?_⟩) hHeld ?_ ?_
         rotate_left
         ·rintro w' ⟨s0, s1, s2, s3, s4, s5, s6, s7, s8, s9⟩
          go_simp
          with_reducible rfl
         rotate_left
         ·simp only [Act.put, Qa, Qb, Qc, Z5, Z6]
          rfl
         refine Za5 (i := 22) (N := some 42) (v := ?_) (a' := ?_) #[Qt, Qt, Qt, Qt, Qt, Qt, Qt, Qt, Qt, Qt, Qt, Qt, Qt, Qt, Qt, Qt, Qt, Qt, Qt, Qt, Qt, Qt, Qt, Qt, Qf, Qf, Qf, Qf, Qf, Qf] rfl rfl (Zac HT_.out HW_.out (by kernel_rfl)) (fun _ _ _ h => h) (Or.inl ⟨by rfl, ?_⟩) hHeld ?_ ?_
         rotate_left
         ·rintro w' ⟨s0, s1, s2, s3, s4, s5, s6, s7, s8, s9⟩
          go_simp
          with_reducible rfl
         rotate_left
         ·simp only [Act.put, Qa, Qb, Qc, Z5, Z6]
          rfl
         refine Yq (i := 24) (N := some 44) (v := ?_) (a' := ?_) #[Qt, Qt, Qt, Qt, Qt, Qt, Qt, Qt, Qt, Qt, Qt, Qt, Qt, Qt, Qt, Qt, Qt, Qt, Qt, Qt, Qt, Qt, Qt, Qt, Qt, Qf, Qf, Qf, Qf, Qf] rfl rfl (Yk HT_.out (by kernel_rfl)) (fun _ _ _ h => h) (Or.inl ⟨by rfl, ?_⟩) ?_ ?_
         rotate_left
         ·intro w'
          go_simp
          with_reducible rfl
         rotate_left
         ·simp only [Act.put, Qa, Qb, Qc, Z5, Z6]
          rfl
         refine Yq (i := 25) (N := some 45) (v := ?_) (a' := ?_) #[Qt, Qt, Qt, Qt, Qt, Qt, Qt, Qt, Qt, Qt, Qt, Qt, Qt, Qt, Qt, Qt, Qt, Qt, Qt, Qt, Qt, Qt, Qt, Qt, Qt, Qt, Qf, Qf, Qf, Qf] rfl rfl (Yk HT_.out (by kernel_rfl)) (fun _ _ _ h => h) (Or.inl ⟨by rfl, ?_⟩) ?_ ?_
         rotate_left
         ·intro w'
          go_simp
          with_reducible rfl
         rotate_left
         ·simp only [Act.put, Qa, Qb, Qc, Z5, Z6]
          rfl
         refine Za5 (i := 26) (N := some 46) (v := ?_) (a' := ?_) #[Qt, Qt, Qt, Qt, Qt, Qt, Qt, Qt, Qt, Qt, Qt, Qt, Qt, Qt, Qt, Qt, Qt, Qt, Qt, Qt, Qt, Qt, Qt, Qt, Qt, Qt, Qt, Qf, Qf, Qf] rfl rfl (Zac HT_.out HW_.out (by kernel_rfl)) (fun _ _ _ h => h) (Or.inl ⟨by rfl, ?_⟩) hHeld ?_ ?_
         rotate_left
         ·rintro w' ⟨s0, s1, s2, s3, s4, s5, s6, s7, s8, s9⟩
          go_simp
          with_reducible rfl
         rotate_left
         ·simp only [Act.put, Qa, Qb, Qc, Z5, Z6]
          rfl
         refine one_ (i := 27) (N := some 47) #[Qt, Qt, Qt, Qt, Qt, Qt, Qt, Qt, Qt, Qt, Qt, Qt, Qt, Qt, Qt, Qt, Qt, Qt, Qt, Qt, Qt, Qt, Qt, Qt, Qt, Qt, Qt, Qt, Qf, Qf] rfl rfl (Za6 HT_.out (by kernel_rfl)) (by decide) (fun K hK => ?_)
         refine Zdc Try.func19 (by kernel_rfl) rfl #[.slice A173_1 ((Zo l0_0 x5_1).f1).length c173_1, .slice A174_1 ((Zo l1_0 x5_1).f1).length c174_1] (by rfl) rfl rfl (by (try simp only [Qi, Qj, Qk]); first | done | rfl | (simp only [Qe, Qd]; rfl)) ?_
         with_reducible refine (Zk.calls k1 _ _ ((Zo l0_0 x5_1).f1) _ _ ((Zo l1_0 x5_1).f1) false _ ?side1 ?side2 ?side3 ?side4 A14.out).mono ?_
         (case side1 => repeat (first | exact (Kd.Yv HR176_1.out (by repeat (first | (with_reducible first | exact HB.out | apply wA | apply wN | apply wD | refine Za ?_ GE171.out | refine Za ?_ GE172.out) | exact HB.out))) | (with_reducible refine Kd.Yh ?_ _) | (with_reducible refine Kd.Yg ?_ _) | (with_reducible refine Kd.Yw ?_)))
         (case side2 => exact HC176_1.out)
         (case side3 => repeat (first | exact (Kd.Yv HR177_1.out (by repeat (first | (with_reducible first | exact HB.out | apply wA | apply wN | apply wD | refine Za ?_ GE171.out | refine Za ?_ GE172.out) | exact HB.out))) | (with_reducible refine Kd.Yh ?_ _) | (with_reducible refine Kd.Yg ?_ _) | (with_reducible refine Kd.Yw ?_)))
         (case side4 => exact HC177_1.out)
         rintro e w' ⟨rfl, ⟨nd, rfl⟩⟩
         refine ⟨_, rfl, ?_⟩
         refine hK.out _ _ ⟨(Ze BK171.out 0).trans rfl, (Ze BK172.out 0).trans rfl, ((HB.out.cell (Qw w _ hw173_0)).trans hw173_0), ((HB.out.cell (Qw w _ hw173_1)).trans hw173_1), ((HB.out.cell (Qw w _ hw174_0)).trans hw174_0), ((HB.out.cell (Qw w _ hw174_1)).trans hw174_1), ((HB.out.cell (Qw w _ hw176_0)).trans hw176_0), ((HB.out.cell (Qw w _ hw176_1)).trans hw176_1), ((HB.out.cell (Qw w _ hw177_0)).trans hw177_0), ((HB.out.cell (Qw w _ hw177_1)).trans hw177_1)⟩ (fun hHeld => ?_)
         clear hK K
         refine Zb2 (a' := ?_) ?_ ?_
         rotate_left
         ·show Act.put _ (some 47) _ = _
          simp only [Act.put, Qa, Qb, Qc, Z5, Z6]
          rfl
         refine Yq (i := 28) (N := some 48) (v := ?_) (a' := ?_) #[Qt, Qt, Qt, Qt, Qt, Qt, Qt, Qt, Qt, Qt, Qt, Qt, Qt, Qt, Qt, Qt, Qt, Qt, Qt, Qt, Qt, Qt, Qt, Qt, Qt, Qt, Qt, Qt, Qt, Qf] rfl rfl (Yk HT_.out (by kernel_rfl)) (fun _ _ _ h => h) (Or.inl ⟨by rfl, ?_⟩) ?_ ?_
         rotate_left
         ·intro w'
          go_simp
          with_reducible rfl
         rotate_left
         ·simp only [Act.put, Qa, Qb, Qc, Z5, Z6]
          rfl
         refine Yq (i := 29) (N := some 49) (v := ?_) (a' := ?_) #[Qt, Qt, Qt, Qt, Qt, Qt, Qt, Qt, Qt, Qt, Qt, Qt, Qt, Qt, Qt, Qt, Qt, Qt, Qt, Qt, Qt, Qt, Qt, Qt, Qt, Qt, Qt, Qt, Qt, Qt] rfl rfl (Yk HT_.out (by kernel_rfl)) (fun _ _ _ h => h) (Or.inl ⟨by rfl, ?_⟩) ?_ ?_
         rotate_left
         ·intro w'
          go_simp
          with_reducible rfl
         rotate_left
         ·simp only [Act.put, Qa, Qb, Qc, Z5, Z6]
          rfl
         refine Zcv (Zcf HT_.out (by kernel_rfl)) ?_
         try go_wp2
         go_ret
         exact ⟨by first | rfl | (simp [Zy, Zx] <;> rfl) | (simp [*, Zy, Zx] <;> rfl), by repeat (first | (with_reducible first | exact HB.out | apply wA | apply wN | apply wD | refine Za ?_ GE171.out | refine Za ?_ GE172.out) | exact HB.out)⟩
       ·replace c13 := Bool.eq_false_iff.mpr c13
        subst c13
        have H1 : (some false) = some r := by rw [if_neg (show ¬ (false = true) by decide)] at H; exact H
        clear H
        have H := H1
        clear H1
        obtain rfl := Option.some.inj H
        have hnb22 := NB171_172.out
        have hnc22 := NB172_171.out
        have hcz23_0 : wr.cell? ⟨gb171, 0, none⟩ = some (.slice A0_0 l0_0.length c0_0) := (Ze BK171.out 0).trans rfl
        have hfz23_0 := Zg BK171.out 0
        try go_wp2
        have n0_ := aM (bD BK171.out)
        have n1_ := aM (bD BK172.out)
        have n2_ := aM (wD HB.out)
        clear BK171 BK172 HB
        have BK171 := n0_
        have BK172 := n1_
        have HB := n2_
        clear n0_ n1_ n2_
        have p173 : 0 ≤ (x5_1 : Int) := of_decide_eq_true (by first | (with_reducible assumption) | assumption)
        have q173 : x5_1 < (l0_0.length : Int) := of_decide_eq_true (by first | (with_reducible assumption) | assumption)
        obtain ⟨ad173, A173_0, c173_0, A173_1, c173_1, e173, hx173_0, hx173_1, hl173_0, hi173_0, hl173_1, hi173_1⟩ := Zbl HR0_0.out x5_1 p173 q173
        have hw173_1 := hx173_1
        have hw173_0 := hx173_0
        cases e173
        replace hx173_0 := (HB.out.cell (Qw w _ hx173_0)).trans hx173_0
        replace hx173_1 := (HB.out.cell (Qw w _ hx173_1)).trans hx173_1
        have HR173_0 := aM hi173_0
        have HC173_0 := aM hl173_0
        clear hi173_0 hl173_0
        have HR173_1 := aM hi173_1
        have HC173_1 := aM hl173_1
        clear hi173_1 hl173_1
        replace p173 := eq_true p173
        replace q173 := eq_true q173
        have p174 : 0 ≤ (x5_1 : Int) := of_decide_eq_true (by first | (with_reducible assumption) | assumption)
        have q174 : x5_1 < (l1_0.length : Int) := of_decide_eq_true (by first | (with_reducible assumption) | assumption)
        obtain ⟨ad174, A174_0, c174_0, A174_1, c174_1, e174, hx174_0, hx174_1, hl174_0, hi174_0, hl174_1, hi174_1⟩ := Zbl HR1_0.out x5_1 p174 q174
        have hw174_1 := hx174_1
        have hw174_0 := hx174_0
        cases e174
        replace hx174_0 := (HB.out.cell (Qw w _ hx174_0)).trans hx174_0
        replace hx174_1 := (HB.out.cell (Qw w _ hx174_1)).trans hx174_1
        have HR174_0 := aM hi174_0
        have HC174_0 := aM hl174_0
        clear hi174_0 hl174_0
        have HR174_1 := aM hi174_1
        have HC174_1 := aM hl174_1
        clear hi174_1 hl174_1
        replace p174 := eq_true p174
        replace q174 := eq_true q174
        refine Zb9 (n := 30) (S := fun w' => w'.cell? ⟨gb171, 0, none⟩ = some (.slice (some ad173) l0_0.length c0_0) ∧ w'.cell? ⟨gb172, 0, none⟩ = some (.slice (some ad174) l1_0.length c1_0) ∧ w'.cell? (ad173.add ((x5_1).toNat * 2)) = some (.slice A173_0 ((Zo l0_0 x5_1).f0).length c173_0) ∧ w'.cell? ⟨(ad173.add ((x5_1).toNat * 2)).block, (ad173.add ((x5_1).toNat * 2)).off + 1, none⟩ = some (.slice A173_1 ((Zo l0_0 x5_1).f1).length c173_1) ∧ w'.cell? (ad174.add ((x5_1).toNat * 2)) = some (.slice A174_0 ((Zo l1_0 x5_1).f0).length c174_0) ∧ w'.cell? ⟨(ad174.add ((x5_1).toNat * 2)).block, (ad174.add ((x5_1).toNat * 2)).off + 1, none⟩ = some (.slice A174_1 ((Zo l1_0 x5_1).f1).length c174_1)) (ds := []) #[Qf, Qf, Qf, Qf, Qf, Qf, Qf, Qf, Qf, Qf, Qf, Qf, Qf, Qf, Qf, Qf, Qf, Qf, Qf, Qf, Qf, Qf, Qf, Qf, Qf, Qf, Qf, Qf, Qf, Qf] (by kernel_rfl) rfl rfl ⟨(Ze BK171.out 0).trans rfl, (Ze BK172.out 0).trans rfl, ((HB.out.cell (Qw w _ hw173_0)).trans hw173_0), ((HB.out.cell (Qw w _ hw173_1)).trans hw173_1), ((HB.out.cell (Qw w _ hw174_0)).trans hw174_0), ((HB.out.cell (Qw w _ hw174_1)).trans hw174_1)⟩ (fun hHeld => ?_); refine Zbs Zl.tab6 Zl.bits6 (fun HT_ HW_ => ?_)
        generalize wr.drew = w24 at BK171 BK172 HB HR173_0 HR173_1 HR174_0 HR174_1 hx173_0 hx173_1 hx174_0 hx174_1 hHeld ⊢
        refine Yq (i := 0) (N := some 20) (v := ?_) (a' := ?_) #[Qt, Qf, Qf, Qf, Qf, Qf, Qf, Qf, Qf, Qf, Qf, Qf, Qf, Qf, Qf, Qf, Qf, Qf, Qf, Qf, Qf, Qf, Qf, Qf, Qf, Qf, Qf, Qf, Qf, Qf] rfl rfl (Yk HT_.out (by kernel_rfl)) (fun _ _ _ h => h) (Or.inl ⟨by rfl, ?_⟩) ?_ ?_
        rotate_left
        ·intro w'
         go_simp
         with_reducible rfl
        rotate_left
        ·simp only [Act.put, Qa, Qb, Qc, Z5, Z6]
         rfl
        refine Yq (i := 2) (N := some 22) (v := ?_) (a' := ?_) #[Qt, Qf, Qt, Qf, Qf, Qf, Qf, Qf, Qf, Qf, Qf, Qf, Qf, Qf, Qf, Qf, Qf, Qf, Qf, Qf, Qf, Qf, Qf, Qf, Qf, Qf, Qf, Qf, Qf, Qf] rfl rfl (Yk HT_.out (by kernel_rfl)) (fun _ _ _ h => h) (Or.inl ⟨by rfl, ?_⟩) ?_ ?_
        rotate_left
        ·intro w'
         go_simp
         with_reducible rfl
        rotate_left
        ·simp only [Act.put, Qa, Qb, Qc, Z5, Z6]
         rfl
        refine Yq (i := 6) (N := some 26) (v := ?_) (a' := ?_) #[Qt, Qf, Qt, Qf, Qf, Qf, Qt, Qf, Qf, Qf, Qf, Qf, Qf, Qf, Qf, Qf, Qf, Qf, Qf, Qf, Qf, Qf, Qf, Qf, Qf, Qf, Qf, Qf, Qf, Qf] rfl rfl (Yk HT_.out (by kernel_rfl)) (fun _ _ _ h => h) (Or.inl ⟨by rfl, ?_⟩) ?_ ?_
        rotate_left
        ·intro w'
         go_simp
         with_reducible rfl
        rotate_left
        ·simp only [Act.put, Qa, Qb, Qc, Z5, Z6]
         rfl
        refine Yq (i := 8) (N := some 28) (v := ?_) (a' := ?_) #[Qt, Qf, Qt, Qf, Qf, Qf, Qt, Qf, Qt, Qf, Qf, Qf, Qf, Qf, Qf, Qf, Qf, Qf, Qf, Qf, Qf, Qf, Qf, Qf, Qf, Qf, Qf, Qf, Qf, Qf] rfl rfl (Yk HT_.out (by kernel_rfl)) (fun _ _ _ h => h) (Or.inl ⟨by rfl, ?_⟩) ?_ ?_
        rotate_left
        ·intro w'
         go_simp
         with_reducible rfl
        rotate_left
        ·simp only [Act.put, Qa, Qb, Qc, Z5, Z6]
         rfl
        refine Za5 (i := 1) (N := some 21) (v := ?_) (a' := ?_) #[Qt, Qt, Qt, Qf, Qf, Qf, Qt, Qf, Qt, Qf, Qf, Qf, Qf, Qf, Qf, Qf, Qf, Qf, Qf, Qf, Qf, Qf, Qf, Qf, Qf, Qf, Qf, Qf, Qf, Qf] rfl rfl (Zac HT_.out HW_.out (by kernel_rfl)) (fun _ _ _ h => h) (Or.inl ⟨by rfl, ?_⟩) hHeld ?_ ?_
        rotate_left
        ·rintro w' ⟨s0, s1, s2, s3, s4, s5⟩
         go_simp
         with_reducible rfl
        rotate_left
        ·simp only [Act.put, Qa, Qb, Qc, Z5, Z6]
         rfl
        refine Yq (i := 3) (N := some 23) (v := ?_) (a' := ?_) #[Qt, Qt, Qt, Qt, Qf, Qf, Qt, Qf, Qt, Qf, Qf, Qf, Qf, Qf, Qf, Qf, Qf, Qf, Qf, Qf, Qf, Qf, Qf, Qf, Qf, Qf, Qf, Qf, Qf, Qf] rfl rfl (Yk HT_.out (by kernel_rfl)) (fun _ _ _ h => h) (Or.inl ⟨by rfl, ?_⟩) ?_ ?_
        rotate_left
        ·intro w'
         go_simp
         with_reducible rfl
        rotate_left
        ·simp only [Act.put, Qa, Qb, Qc, Z5, Z6]
         rfl
        refine Yq (i := 4) (N := some 24) (v := ?_) (a' := ?_) #[Qt, Qt, Qt, Qt, Qt, Qf, Qt, Qf, Qt, Qf, Qf, Qf, Qf, Qf, Qf, Qf, Qf, Qf, Qf, Qf, Qf, Qf, Qf, Qf, Qf, Qf, Qf, Qf, Qf, Qf] rfl rfl (Yk HT_.out (by kernel_rfl)) (fun _ _ _ h => h) (Or.inl ⟨by rfl, ?_⟩) ?_ ?_
        rotate_left
        ·intro w'
         go_simp
         with_reducible rfl
        rotate_left
        ·simp only [Act.put, Qa, Qb, Qc, Z5, Z6]
         rfl
        refine Za5 (i := 5) (N := some 25) (v := ?_) (a' := ?_) #[Qt, Qt, Qt, Qt, Qt, Qt, Qt, Qf, Qt, Qf, Qf, Qf, Qf, Qf, Qf, Qf, Qf, Qf, Qf, Qf, Qf, Qf, Qf, Qf, Qf, Qf, Qf, Qf, Qf, Qf] rfl rfl (Zac HT_.out HW_.out (by kernel_rfl)) (fun _ _ _ h => h) (Or.inl ⟨by rfl, ?_⟩) hHeld ?_ ?_
        rotate_left
        ·rintro w' ⟨s0, s1, s2, s3, s4, s5⟩
         go_simp
         with_reducible rfl
        rotate_left
        ·simp only [Act.put, Qa, Qb, Qc, Z5, Z6]
         rfl
        refine Za5 (i := 7) (N := some 27) (v := ?_) (a' := ?_) #[Qt, Qt, Qt, Qt, Qt, Qt, Qt, Qt, Qt, Qf, Qf, Qf, Qf, Qf, Qf, Qf, Qf, Qf, Qf, Qf, Qf, Qf, Qf, Qf, Qf, Qf, Qf, Qf, Qf, Qf] rfl rfl (Zac HT_.out HW_.out (by kernel_rfl)) (fun _ _ _ h => h) (Or.inl ⟨by rfl, ?_⟩) hHeld ?_ ?_
        rotate_left
        ·rintro w' ⟨s0, s1, s2, s3, s4, s5⟩
         go_simp
         with_reducible rfl
        rotate_left
        ·simp only [Act.put, Qa, Qb, Qc, Z5, Z6]
         rfl
        refine Yq (i := 9) (N := some 29) (v := ?_) (a' := ?_) #[Qt, Qt, Qt, Qt, Qt, Qt, Qt, Qt, Qt, Qt, Qf, Qf, Qf, Qf, Qf, Qf, Qf, Qf, Qf, Qf, Qf, Qf, Qf, Qf, Qf, Qf, Qf, Qf, Qf, Qf] rfl rfl (Yk HT_.out (by kernel_rfl)) (fun _ _ _ h => h) (Or.inl ⟨by rfl, ?_⟩) ?_ ?_
        rotate_left
        ·intro w'
         go_simp
         with_reducible rfl
        rotate_left
        ·simp only [Act.put, Qa, Qb, Qc, Z5, Z6]
         rfl
        refine Yq (i := 10) (N := some 30) (v := ?_) (a' := ?_) #[Qt, Qt, Qt, Qt, Qt, Qt, Qt, Qt, Qt, Qt, Qt, Qf, Qf, Qf, Qf, Qf, Qf, Qf, Qf, Qf, Qf, Qf, Qf, Qf, Qf, Qf, Qf, Qf, Qf, Qf] rfl rfl (Yk HT_.out (by kernel_rfl)) (fun _ _ _ h => h) (Or.inl ⟨by rfl, ?_⟩) ?_ ?_
        rotate_left
        ·intro w'
         go_simp
         with_reducible rfl
        rotate_left
        ·simp only [Act.put, Qa, Qb, Qc, Z5, Z6]
         rfl
        refine Za5 (i := 11) (N := some 31) (v := ?_) (a' := ?_) #[Qt, Qt, Qt, Qt, Qt, Qt, Qt, Qt, Qt, Qt, Qt, Qt, Qf, Qf, Qf, Qf, Qf, Qf, Qf, Qf, Qf, Qf, Qf, Qf, Qf, Qf, Qf, Qf, Qf, Qf] rfl rfl (Zac HT_.out HW_.out (by kernel_rfl)) (fun _ _ _ h => h) (Or.inl ⟨by rfl, ?_⟩) hHeld ?_ ?_
        rotate_left
        ·rintro w' ⟨s0, s1, s2, s3, s4, s5⟩
         go_simp
         with_reducible rfl
        rotate_left
        ·simp only [Act.put, Qa, Qb, Qc, Z5, Z6]
         rfl
        refine one_ (i := 12) (N := some 32) #[Qt, Qt, Qt, Qt, Qt, Qt, Qt, Qt, Qt, Qt, Qt, Qt, Qt, Qf, Qf, Qf, Qf, Qf, Qf, Qf, Qf, Qf, Qf, Qf, Qf, Qf, Qf, Qf, Qf, Qf] rfl rfl (Za6 HT_.out (by kernel_rfl)) (by decide) (fun K hK => ?_)
        refine Zdc Try.func19 (by kernel_rfl) rfl #[.slice A173_0 ((Zo l0_0 x5_1).f0).length c173_0, .slice A174_0 ((Zo l1_0 x5_1).f0).length c174_0] (by rfl) rfl rfl (by (try simp only [Qi, Qj, Qk]); first | done | rfl | (simp only [Qe, Qd]; rfl)) ?_
        with_reducible refine (Zk.calls k1 _ _ ((Zo l0_0 x5_1).f0) _ _ ((Zo l1_0 x5_1).f0) false _ ?side1 ?side2 ?side3 ?side4 A12.out).mono ?_
        (case side1 => repeat (first | exact (Kd.Yv HR173_0.out HB.out) | (with_reducible refine Kd.Yh ?_ _) | (with_reducible refine Kd.Yg ?_ _) | (with_reducible refine Kd.Yw ?_)))
        (case side2 => exact HC173_0.out)
        (case side3 => repeat (first | exact (Kd.Yv HR174_0.out HB.out) | (with_reducible refine Kd.Yh ?_ _) | (with_reducible refine Kd.Yg ?_ _) | (with_reducible refine Kd.Yw ?_)))
        (case side4 => exact HC174_0.out)
        rintro e w' ⟨rfl, ⟨nd, rfl⟩⟩
        refine ⟨_, rfl, ?_⟩
        refine hK.out _ _ ⟨(Ze BK171.out 0).trans rfl, (Ze BK172.out 0).trans rfl, ((HB.out.cell (Qw w _ hw173_0)).trans hw173_0), ((HB.out.cell (Qw w _ hw173_1)).trans hw173_1), ((HB.out.cell (Qw w _ hw174_0)).trans hw174_0), ((HB.out.cell (Qw w _ hw174_1)).trans hw174_1)⟩ (fun hHeld => ?_)
        clear hK K
        refine Zb2 (a' := ?_) ?_ ?_
        rotate_left
        ·show Act.put _ (some 32) _ = _
         simp only [Act.put, Qa, Qb, Qc, Z5, Z6]
         rfl
        refine Yq (i := 13) (N := some 33) (v := ?_) (a' := ?_) #[Qt, Qt, Qt, Qt, Qt, Qt, Qt, Qt, Qt, Qt, Qt, Qt, Qt, Qt, Qf, Qf, Qf, Qf, Qf, Qf, Qf, Qf, Qf, Qf, Qf, Qf, Qf, Qf, Qf, Qf] rfl rfl (Yk HT_.out (by kernel_rfl)) (fun _ _ _ h => h) (Or.inl ⟨by rfl, ?_⟩) ?_ ?_
        rotate_left
        ·intro w'
         go_simp
         with_reducible rfl
        rotate_left
        ·simp only [Act.put, Qa, Qb, Qc, Z5, Z6]
         rfl
        refine Yq (i := 14) (N := some 34) (v := ?_) (a' := ?_) #[Qt, Qt, Qt, Qt, Qt, Qt, Qt, Qt, Qt, Qt, Qt, Qt, Qt, Qt, Qt, Qf, Qf, Qf, Qf, Qf, Qf, Qf, Qf, Qf, Qf, Qf, Qf, Qf, Qf, Qf] rfl rfl (Yk HT_.out (by kernel_rfl)) (fun _ _ _ h => h) (Or.inl ⟨by rfl, ?_⟩) ?_ ?_
        rotate_left
        ·intro w'
         go_simp
         with_reducible rfl
        rotate_left
        ·simp only [Act.put, Qa, Qb, Qc, Z5, Z6]
         rfl
        refine Yq (i := 15) (N := some 35) (v := undef) (a' := ?_) #[Qt, Qt, Qt, Qt, Qt, Qt, Qt, Qt, Qt, Qt, Qt, Qt, Qt, Qt, Qt, Qt, Qf, Qf, Qf, Qf, Qf, Qf, Qf, Qf, Qf, Qf, Qf, Qf, Qf, Qf] rfl rfl (Yk HT_.out (by kernel_rfl)) (fun _ _ _ h => h) (Or.inr ⟨by rfl, rfl⟩) ?_ ?_
        rotate_left
        ·simp only [Act.put, Qa, Qb, Qc, Z5, Z6]
         rfl
        refine Yq (i := 16) (N := some 36) (v := undef) (a' := ?_) #[Qt, Qt, Qt, Qt, Qt, Qt, Qt, Qt, Qt, Qt, Qt, Qt, Qt, Qt, Qt, Qt, Qt, Qf, Qf, Qf, Qf, Qf, Qf, Qf, Qf, Qf, Qf, Qf, Qf, Qf] rfl rfl (Yk HT_.out (by kernel_rfl)) (fun _ _ _ h => h) (Or.inr ⟨by rfl, rfl⟩) ?_ ?_
        rotate_left
        ·simp only [Act.put, Qa, Qb, Qc, Z5, Z6]
         rfl
        refine Yq (i := 17) (N := some 37) (v := undef) (a' := ?_) #[Qt, Qt, Qt, Qt, Qt, Qt, Qt, Qt, Qt, Qt, Qt, Qt, Qt, Qt, Qt, Qt, Qt, Qt, Qf, Qf, Qf, Qf, Qf, Qf, Qf, Qf, Qf, Qf, Qf, Qf] rfl rfl (Yk HT_.out (by kernel_rfl)) (fun _ _ _ h => h) (Or.inr ⟨by rfl, rfl⟩) ?_ ?_
        rotate_left
        ·simp only [Act.put, Qa, Qb, Qc, Z5, Z6]
         rfl
        refine Yq (i := 18) (N := some 38) (v := undef) (a' := ?_) #[Qt, Qt, Qt, Qt, Qt, Qt, Qt, Qt, Qt, Qt, Qt, Qt, Qt, Qt, Qt, Qt, Qt, Qt, Qt, Qf, Qf, Qf, Qf, Qf, Qf, Qf, Qf, Qf, Qf, Qf] rfl rfl (Yk HT_.out (by kernel_rfl)) (fun _ _ _ h => h) (Or.inr ⟨by rfl, rfl⟩) ?_ ?_
        rotate_left
        ·simp only [Act.put, Qa, Qb, Qc, Z5, Z6]
         rfl
        refine Yq (i := 19) (N := some 39) (v := undef) (a' := ?_) #[Qt, Qt, Qt, Qt, Qt, Qt, Qt, Qt, Qt, Qt, Qt, Qt, Qt, Qt, Qt, Qt, Qt, Qt, Qt, Qt, Qf, Qf, Qf, Qf, Qf, Qf, Qf, Qf, Qf, Qf] rfl rfl (Yk HT_.out (by kernel_rfl)) (fun _ _ _ h => h) (Or.inr ⟨by rfl, rfl⟩) ?_ ?_
        rotate_left
        ·simp only [Act.put, Qa, Qb, Qc, Z5, Z6]
         rfl
        refine Yq (i := 20) (N := some 40) (v := undef) (a' := ?_) #[Qt, Qt, Qt, Qt, Qt, Qt, Qt, Qt, Qt, Qt, Qt, Qt, Qt, Qt, Qt, Qt, Qt, Qt, Qt, Qt, Qt, Qf, Qf, Qf, Qf, Qf, Qf, Qf, Qf, Qf] rfl rfl (Yk HT_.out (by kernel_rfl)) (fun _ _ _ h => h) (Or.inr ⟨by rfl, rfl⟩) ?_ ?_
        rotate_left
        ·simp only [Act.put, Qa, Qb, Qc, Z5, Z6]
         rfl
        refine Yq (i := 21) (N := some 41) (v := undef) (a' := ?_) #[Qt, Qt, Qt, Qt, Qt, Qt, Qt, Qt, Qt, Qt, Qt, Qt, Qt, Qt, Qt, Qt, Qt, Qt, Qt, Qt, Qt, Qt, Qf, Qf, Qf, Qf, Qf, Qf, Qf, Qf] rfl rfl (Yk HT_.out (by kernel_rfl)) (fun _ _ _ h => h) (Or.inr ⟨by rfl, rfl⟩) ?_ ?_
        rotate_left
        ·simp only [Act.put, Qa, Qb, Qc, Z5, Z6]
         rfl
        refine Yq (i := 22) (N := some 42) (v := undef) (a' := ?_) #[Qt, Qt, Qt, Qt, Qt, Qt, Qt, Qt, Qt, Qt, Qt, Qt, Qt, Qt, Qt, Qt, Qt, Qt, Qt, Qt, Qt, Qt, Qt, Qf, Qf, Qf, Qf, Qf, Qf, Qf] rfl rfl (Yk HT_.out (by kernel_rfl)) (fun _ _ _ h => h) (Or.inr ⟨by rfl, rfl⟩) ?_ ?_
        rotate_left
        ·simp only [Act.put, Qa, Qb, Qc, Z5, Z6]
         rfl
        refine Yq (i := 23) (N := some 43) (v := undef) (a' := ?_) #[Qt, Qt, Qt, Qt, Qt, Qt, Qt, Qt, Qt, Qt, Qt, Qt, Qt, Qt, Qt, Qt, Qt, Qt, Qt, Qt, Qt, Qt, Qt, Qt, Qf, Qf, Qf, Qf, Qf, Qf] rfl rfl (Yk HT_.out (by kernel_rfl)) (fun _ _ _ h => h) (Or.inr ⟨by rfl, rfl⟩) ?_ ?_
        rotate_left
        ·simp only [Act.put, Qa, Qb, Qc, Z5, Z6]
         rfl
        refine Yq (i := 24) (N := some 44) (v := undef) (a' := ?_) #[Qt, Qt, Qt, Qt, Qt, Qt, Qt, Qt, Qt, Qt, Qt, Qt, Qt, Qt, Qt, Qt, Qt, Qt, Qt, Qt, Qt, Qt, Qt, Qt, Qt, Qf, Qf, Qf, Qf, Qf] rfl rfl (Yk HT_.out (by kernel_rfl)) (fun _ _ _ h => h) (Or.inr ⟨by rfl, rfl⟩) ?_ ?_
        rotate_left
        ·simp only [Act.put, Qa, Qb, Qc, Z5, Z6]
         rfl
        refine Yq (i := 25) (N := some 45) (v := undef) (a' := ?_) #[Qt, Qt, Qt, Qt, Qt, Qt, Qt, Qt, Qt, Qt, Qt, Qt, Qt, Qt, Qt, Qt, Qt, Qt, Qt, Qt, Qt, Qt, Qt, Qt, Qt, Qt, Qf, Qf, Qf, Qf] rfl rfl (Yk HT_.out (by kernel_rfl)) (fun _ _ _ h => h) (Or.inr ⟨by rfl, rfl⟩) ?_ ?_
        rotate_left
        ·simp only [Act.put, Qa, Qb, Qc, Z5, Z6]
         rfl
        refine Yq (i := 26) (N := some 46) (v := undef) (a' := ?_) #[Qt, Qt, Qt, Qt, Qt, Qt, Qt, Qt, Qt, Qt, Qt, Qt, Qt, Qt, Qt, Qt, Qt, Qt, Qt, Qt, Qt, Qt, Qt, Qt, Qt, Qt, Qt, Qf, Qf, Qf] rfl rfl (Yk HT_.out (by kernel_rfl)) (fun _ _ _ h => h) (Or.inr ⟨by rfl, rfl⟩) ?_ ?_
        rotate_left
        ·simp only [Act.put, Qa, Qb, Qc, Z5, Z6]
         rfl
        refine Yq (i := 27) (N := some 47) (v := undef) (a' := ?_) #[Qt, Qt, Qt, Qt, Qt, Qt, Qt, Qt, Qt, Qt, Qt, Qt, Qt, Qt, Qt, Qt, Qt, Qt, Qt, Qt, Qt, Qt, Qt, Qt, Qt, Qt, Qt, Qt, Qf, Qf] rfl rfl (Yk HT_.out (by kernel_rfl)) (fun _ _ _ h => h) (Or.inr ⟨by rfl, rfl⟩) ?_ ?_
        rotate_left
        ·simp only [Act.put, Qa, Qb, Qc, Z5, Z6]
         rfl
        refine Yq (i := 28) (N := some 48) (v := undef) (a' := ?_) #[Qt, Qt, Qt, Qt, Qt, Qt, Qt, Qt, Qt, Qt, Qt, Qt, Qt, Qt, Qt, Qt, Qt, Qt, Qt, Qt, Qt, Qt, Qt, Qt, Qt, Qt, Qt, Qt, Qt, Qf] rfl rfl (Yk HT_.out (by kernel_rfl)) (fun _ _ _ h => h) (Or.inr ⟨by rfl, rfl⟩) ?_ ?_
        rotate_left
        ·simp only [Act.put, Qa, Qb, Qc, Z5, Z6]
         rfl
        refine Yq (i := 29) (N := some 49) (v := ?_) (a' := ?_) #[Qt, Qt, Qt, Qt, Qt, Qt, Qt, Qt, Qt, Qt, Qt, Qt, Qt, Qt, Qt, Qt, Qt, Qt, Qt, Qt, Qt, Qt, Qt, Qt, Qt, Qt, Qt, Qt, Qt, Qt] rfl rfl (Yk HT_.out (by kernel_rfl)) (fun _ _ _ h => h) (Or.inl ⟨by rfl, ?_⟩) ?_ ?_
        rotate_left
        ·intro w'
         go_simp
         with_reducible rfl
        rotate_left
        ·simp only [Act.put, Qa, Qb, Qc, Z5, Z6]
         rfl
        refine Zcv (Zcf HT_.out (by kernel_rfl)) ?_
        try go_wp2
        go_ret
        exact ⟨by first | rfl | (simp [Zy, Zx] <;> rfl) | (simp [*, Zy, Zx] <;> rfl), by repeat (first | (with_reducible first | exact HB.out | apply wA | apply wN | apply wD | refine Za ?_ GE171.out | refine Za ?_ GE172.out) | exact HB.out)⟩
      ·rw [if_neg c11] at H
       exact absurd H (by simp)
     ·rw [if_neg c10] at H
      exact absurd H (by simp)
    ·rw [if_neg c9] at H
     have c9b0 : decide (x5_1 < (l0_0.length : Int)) = false := decide_eq_false c9
     clear c9
     obtain rfl := Option.some.inj H
     have hnb25 := NB171_172.out
     have hnc25 := NB172_171.out
     have hcz26_0 : wr.cell? ⟨gb171, 0, none⟩ = some (.slice A0_0 l0_0.length c0_0) := (Ze BK171.out 0).trans rfl
     have hfz26_0 := Zg BK171.out 0
     go_wp2
     go_ret
     exact ⟨by first | rfl | (simp [Zy, Zx] <;> rfl) | (simp [*, Zy, Zx] <;> rfl), by repeat (first | (with_reducible first | exact HB.out | apply wA | apply wN | apply wD | refine Za ?_ GE171.out | refine Za ?_ GE172.out) | exact HB.out)⟩
 ·rw [if_neg c3] at H
  have c3b0 : ((l0_0.length : Int) == (l1_0.length : Int)) = false := beq_eq_false_iff_ne.mpr c3
  have c3b1 : ((l0_0.length : Int) != (l1_0.length : Int)) = true := bne_iff_ne.mpr c3
  have c3b2 : (l0_0.length == l1_0.length) = false := by first | simpa using c3 | (simp at c3 ⊢; omega)
  obtain rfl := Option.some.inj H
  go_enter Try.func10, Try.ntmps10
  go_wp2_with (first | ((with_reducible refine Z7 (N := 2) rfl ?_); refine Z4 ?hg (N := 2) ?hd (cs := #[.slice A0_0 l0_0.length c0_0]) (t := 24) ?hr ?_; (case hd => rfl); (case hg => rfl); (case hr => first | (go_simp; done) | (go_simp; rfl)); intro gb171 hg w27 hbox hb; have n0_ := aM (Zj (by repeat (first | (with_reducible first | exact HB.out | apply wA | apply wN | apply wD) | exact HB.out)) hb); have n1_ := aM (hbox); have n2_ := aM ((by rw [hg]; exact (Zd (by repeat (first | (with_reducible first | exact HB.out | apply wA | apply wN | apply wD) | exact HB.out))) : w.heap.size ≤ gb171)); have n3_ := aM ((by rw [hg]; exact (Zd (by repeat (first | (with_reducible first | exact HB.out | apply wA | apply wN | apply wD) | exact HB.out))) : w.heap.size ≤ gb171)); clear HB; have HB := n0_; have BK171 := n1_; have GW171 := n2_; have GE171 := n3_; clear n0_ n1_ n2_ n3_; clear hb hbox hg) | ((with_reducible refine Z7 (N := 3) rfl ?_); refine Z4 ?hg (N := 3) ?hd (cs := #[.slice A1_0 l1_0.length c1_0]) (t := 24) ?hr ?_; (case hd => rfl); (case hg => rfl); (case hr => first | (go_simp; done) | (go_simp; rfl)); intro gb172 hg w28 hbox hb; have n0_ := aM (Zf (g := gb171) (o := .cells #[.slice A0_0 l0_0.length c0_0] 24 (0, 0)) (by (with_reducible repeat first | apply bN | apply bD | apply bA); exact BK171.out) hb); have n1_ := aM (Zj (by repeat (first | (with_reducible first | exact HB.out | apply wA | apply wN | apply wD | refine Za ?_ GE171.out) | exact HB.out)) hb); have n2_ := aM (hbox); have n3_ := aM ((by rw [hg]; exact (Zd (by repeat (first | (with_reducible first | exact HB.out | apply wA | apply wN | apply wD | refine Za ?_ GE171.out) | exact HB.out))) : w.heap.size ≤ gb172)); have n4_ := aM ((by rw [hg]; exact (Zd (by repeat (first | (with_reducible first | exact HB.out | apply wA | apply wN | apply wD | refine Za ?_ GE171.out) | exact HB.out))) : w.heap.size ≤ gb172)); have n5_ := aM ((by rw [hg]; exact Nat.ne_of_lt (Ya (g := gb171) (o := .cells #[.slice A0_0 l0_0.length c0_0] 24 (0, 0)) (by (with_reducible repeat first | apply bN | apply bD | apply bA); exact BK171.out)) : gb171 ≠ gb172)); have n6_ := aM ((by rw [hg]; exact Nat.ne_of_gt (Ya (g := gb171) (o := .cells #[.slice A0_0 l0_0.length c0_0] 24 (0, 0)) (by (with_reducible repeat first | apply bN | apply bD | apply bA); exact BK171.out)) : gb172 ≠ gb171)); clear BK171 HB; have BK171 := n0_; have HB := n1_; have BK172 := n2_; have GW172 := n3_; have GE172 := n4_; have NB171_172 := n5_; have NB172_171 := n6_; clear n0_ n1_ n2_ n3_ n4_ n5_ n6_; clear hb hbox hg; have hnb29 := NB171_172.out; have hnc29 := NB172_171.out; have hcz30_0 : w28.cell? ⟨gb171, 0, none⟩ = some (.slice A0_0 l0_0.length c0_0) := (Ze BK171.out 0).trans rfl; have hfz30_0 := Zg BK171.out 0; have hcz31_0 : w28.cell? ⟨gb172, 0, none⟩ = some (.slice A1_0 l1_0.length c1_0) := (Ze BK172.out 0).trans rfl; have hfz31_0 := Zg BK172.out 0))
  go_ret
  exact ⟨by first | rfl | (simp [Zy, Zx] <;> rfl) | (simp [*, Zy, Zx] <;> rfl), by repeat (first | (with_reducible first | exact HB.out | apply wA | apply wN | apply wD | refine Za ?_ GE171.out | refine Za ?_ GE172.out) | exact HB.out)⟩

end Go.Proofs.Ytnfbjdnflifcoaa.PDk

namespace Go.Proofs.Ytnfbjdnflifcoaa.PDk
open Go.RowKit Go.Proofs.YtnfbjdnflifcoaaW.PrintWords Go.Proofs.YtnfbjdnflifcoaaW.PrintLast Go.Proofs.YtnfbjdnflifcoaaW.PrintMore
attribute [local go_sem] Za0 Zay Zbe Zbd Zan Zam Zaz Zax
set_option linter.unusedVariables false
set_option linter.unusedSimpArgs false

/-- A state of type 62 at block g of W; what its slices lead to came in by w0. -/
def Zb (w0 W : World) (g : Nat) (f0 : List Int) (f1 : Int) : Prop := ∃ A0 c0, W.heap[g]? = some (.cells #[.slice A0 f0.length c0, .int .i64 f1] 62 (0, 0)) ∧ w0.heap.size ≤ g ∧ Kd.C (Kd.int .u8) w0 A0 f0.length f0
theorem Zb.grown {w0 W : World} {g : Nat} {f0 : List Int} {f1 : Int} {W1 : World} {row : Option Nat} (h : Zb w0 W g f0 f1) (hw : W.grownBy W1 row) (hne : some g ≠ row) : Zb w0 W1 g f0 f1 := by
 obtain ⟨A0, c0, hb, hg, hr0⟩ := h
 exact ⟨A0, c0, Yc hb hw hne, hg, hr0⟩
theorem Zb.own_neN {w0 W : World} {g : Nat} {f0 : List Int} {f1 : Int} {α : Type} {d : Kd α} {e : Nat} {base : Nat} {ok : Nat → Prop} {v : Value} {xs : List α} (h : Zb w0 W g f0 f1) (ho : Kd.N d e W base ok v xs) (ht : e ≠ 62) : some g ≠ v.ownBlock := by
 obtain ⟨A0, c0, hb, hg, hr0⟩ := h
 exact Kd.N_ne ho hb ht
theorem Zb.fresh {w0 W : World} {g : Nat} {f0 : List Int} {f1 : Int} (h : Zb w0 W g f0 f1) : ∀ k, W.heap.size ≤ k → k ≠ g := by
 obtain ⟨A0, c0, hb, hg, hr0⟩ := h
 exact Kd.Y6 hb
theorem Zb.kept {w0 W : World} {g : Nat} {f0 : List Int} {f1 : Int} {W1 : World} {S : Nat → Prop} (h : Zb w0 W g f0 f1) (hk : Kept W W1 S) (hne : ¬ S g) : Zb w0 W1 g f0 f1 := by
 obtain ⟨A0, c0, hb, hg, hr0⟩ := h
 exact ⟨A0, c0, blk_kept hb hk hne, hg, hr0⟩
theorem Zb.below {w0 W : World} {g : Nat} {f0 : List Int} {f1 : Int} {W1 : World} (h : Zb w0 W g f0 f1) (hw : Below W.heap.size W W1) : Zb w0 W1 g f0 f1 := h.grown (Zdp hw none) (by simp)
theorem Zb.alloc {w0 W : World} {g : Nat} {f0 : List Int} {f1 : Int} (h : Zb w0 W g f0 f1) (o : Obj) : Zb w0 (W.alloc o) g f0 f1 := h.below (wA (Below.refl _ _) o)
theorem Zb.drewN {w0 W : World} {g : Nat} {f0 : List Int} {f1 : Int} (h : Zb w0 W g f0 f1) (m : Nat) : Zb w0 (W.drewN m) g f0 f1 := h
theorem Zb.drew {w0 W : World} {g : Nat} {f0 : List Int} {f1 : Int} (h : Zb w0 W g f0 f1) : Zb w0 W.drew g f0 f1 := h
theorem Zb.at_ {w0 W : World} {g : Nat} {f0 : List Int} {f1 : Int} {w' : World} {m : Nat} (hq : W.drewN m = w') (h : Zb w0 W g f0 f1) : Zb w0 w' g f0 f1 := by subst hq; exact Zb.drewN h m
theorem Zb.apart {w0 W : World} {g : Nat} {f0 : List Int} {f1 : Int} {α : Type} {d : Kd α} {e : Nat} {base : Nat} {ok : Nat → Prop} {v : Value} {xs : List α} (h : Zb w0 W g f0 f1) (ho : d.R e W base ok v xs) (ht : ∀ q, q ∈ e :: d.E → q ≠ 62) : d.R e W base (fun k => ok k ∧ k ≠ g) v xs := by
 obtain ⟨A0, c0, hb, hg, hr0⟩ := h
 exact Kd.Zaf ho hb ht
theorem Zb.own_ne {w0 W : World} {g : Nat} {f0 : List Int} {f1 : Int} {α : Type} {d : Kd α} {e : Nat} {base : Nat} {ok : Nat → Prop} {v : Value} {xs : List α} (h : Zb w0 W g f0 f1) (ho : d.R e W base ok v xs) (ht : e ≠ 62) : some g ≠ v.ownBlock := by
 obtain ⟨A0, c0, hb, hg, hr0⟩ := h
 exact Kd.R_ne ho hb ht
theorem Zb.apartQ {w0 W : World} {g : Nat} {f0 : List Int} {f1 : Int} {α : Type} {d : Kd α} {e : Nat} {base : Nat} {ok : Nat → Prop} {v : Value} {xs : List α} (h : Zb w0 W g f0 f1) (ho : d.Q e W base ok v xs) (ht : ∀ q, q ∈ e :: d.E → q ≠ 62) : d.Q e W base (fun k => ok k ∧ k ≠ g) v xs := by
 obtain ⟨A0, c0, hb, hg, hr0⟩ := h
 exact Kd.Q_types ho hb ht
theorem Zb.own_neQ {w0 W : World} {g : Nat} {f0 : List Int} {f1 : Int} {α : Type} {d : Kd α} {e : Nat} {base : Nat} {ok : Nat → Prop} {v : Value} {xs : List α} (h : Zb w0 W g f0 f1) (ho : d.Q e W base ok v xs) (ht : e ≠ 62) : some g ≠ v.ownBlock := by
 obtain ⟨A0, c0, hb, hg, hr0⟩ := h
 exact Kd.Q_ne ho hb ht
theorem Zb.apartS {w0 W : World} {g : Nat} {f0 : List Int} {f1 : Int} {α : Type} {d : Kd α} {e : Nat} {base : Nat} {ok : Nat → Prop} {v : Value} {xs : List α} (h : Zb w0 W g f0 f1) (ho : d.S e W base ok v xs) (ht : ∀ q, q ∈ e :: d.E → q ≠ 62) : d.S e W base (fun k => ok k ∧ k ≠ g) v xs := by
 obtain ⟨A0, c0, hb, hg, hr0⟩ := h
 exact Kd.Zcg ho hb ht
theorem Zb.own_neS {w0 W : World} {g : Nat} {f0 : List Int} {f1 : Int} {α : Type} {d : Kd α} {e : Nat} {base : Nat} {ok : Nat → Prop} {v : Value} {xs : List α} (h : Zb w0 W g f0 f1) (ho : d.S e W base ok v xs) (ht : e ≠ 62) : some g ≠ v.ownBlock := by
 obtain ⟨A0, c0, hb, hg, hr0⟩ := h
 exact Kd.S_ne ho hb ht
theorem Zb.lt {w0 W : World} {g : Nat} {f0 : List Int} {f1 : Int} (h : Zb w0 W g f0 f1) : g < W.heap.size := by
 obtain ⟨A0, c0, hb, hg, hr0⟩ := h
 exact Ya hb
theorem Zb.ge {w0 W : World} {g : Nat} {f0 : List Int} {f1 : Int} (h : Zb w0 W g f0 f1) : w0.heap.size ≤ g := by
 obtain ⟨A0, c0, hb, hg, hr0⟩ := h
 exact hg
theorem Zb.ne_blk {w0 W : World} {g : Nat} {f0 : List Int} {f1 : Int} {a : Nat} {cs : Array Value} {t : TypeId} {fr : Nat × Nat} (h : Zb w0 W g f0 f1) (hb2 : W.heap[a]? = some (.cells cs t fr)) (ht : t ≠ 62) : g ≠ a := by
 obtain ⟨A0, c0, hb, hg, hr0⟩ := h
 rintro rfl
 rw [hb] at hb2
 injection hb2 with hb2
 injection hb2 with _ ht2
 exact ht ht2.symm
theorem Zb.far {w0 W : World} {g : Nat} {f0 : List Int} {f1 : Int} {p : Addr} (h : Zb w0 W g f0 f1) (hne : g ≠ p.block) (u : Value) : Zb w0 (W.setCell p u) g f0 f1 := by
 obtain ⟨A0, c0, hb, hg, hr0⟩ := h
 exact ⟨A0, c0, Z8 hb hne u, hg, hr0⟩
theorem Zd6 {W : World} {g : Nat} {A0 : Option Addr} {c0 : Nat} {f0 : List Int} {f1 : Int} (h : W.heap[g]? = some (.cells #[.slice A0 f0.length c0, .int .i64 f1] 62 (0, 0))) : W.cell? ⟨g, 0, none⟩ = some (.slice A0 f0.length c0) := (Ze h 0).trans rfl
theorem Zd5 {W : World} {g : Nat} {A0 : Option Addr} {c0 : Nat} {f0 : List Int} {f1 : Int} (h : W.heap[g]? = some (.cells #[.slice A0 f0.length c0, .int .i64 f1] 62 (0, 0))) : W.cell? ⟨g, 1, none⟩ = some (.int .i64 f1) := (Ze h 1).trans rfl
theorem Zb.Zad {w0 W : World} {g : Nat} {f0 : List Int} {f1 : Int} (h : Zb w0 W g f0 f1) (x : Int) : Zb w0 (W.setCell ⟨g, 1, none⟩ (.int .i64 x)) g f0 x := by
 obtain ⟨A0, c0, hb, hg, hr0⟩ := h
 exact ⟨A0, c0, by simpa using blk_set hb 1 (.int .i64 x), hg, hr0⟩
theorem Zb.new (w0 W : World) (A0 : Option Addr) (c0 : Nat) (f0 : List Int) (f1 : Int) (hB : Below w0.heap.size w0 W) (hr0 : Kd.C (Kd.int .u8) w0 A0 f0.length f0) : Zb w0 (W.alloc (.cells #[.slice A0 f0.length c0, .int .i64 f1] 62)) W.heap.size f0 f1 := ⟨A0, c0, by simpa using heap_alloc_new W _, hB.size, hr0⟩

def Zbb.f (l0 : List Int) (a1 : Int) : Option (List Int × Int) := if (l0.length : Int) > a1 then (if 0 ≤ a1 then (if a1 ≤ (l0.length : Int) then (some (l0.take (a1 : Int).toNat, 0)) else (none)) else (none)) else (some (l0, 0))
set_option maxHeartbeats 8000000 in
set_option maxRecDepth 100000 in
theorem Zbb.calls (A0 : Option Addr) (c0 : Nat) (l0 : List Int) (a1 : Int) (r1 : List Int) (r2 : Int) (w0 w : World) (hB : Below w0.heap.size w0 w) (hr0 : Kd.C (Kd.int .u8) w0 A0 l0.length l0) (hc0 : l0.length ≤ c0) (h : Zbb.f l0 a1 = some (r1, r2)) :
  Calls Try.prog 16 #[.slice A0 l0.length c0, .int .i64 a1] w fun e w' => ∃ g_ : Nat, e = .returned (.pointer (some ⟨g_, 0, none⟩)) ∧ Zb w0 w' g_ r1 r2 ∧ Below w0.heap.size w0 w' ∧ Below w.heap.size w w' ∧ w.heap.size ≤ g_ := by
 have hu62 := Try.underlying62
 have HR0 := aM hr0
 have HC0 := aM hc0
 clear hr0 hc0
 have HBW := aM (Below.refl w.heap.size w)
 have HW0 := aM hB.size
 have HB := aM hB
 clear hB
 have H : (if (l0.length : Int) > a1 then (if 0 ≤ a1 then (if a1 ≤ (l0.length : Int) then (some (l0.take (a1 : Int).toNat, 0)) else (none)) else (none)) else (some (l0, 0))) = some (r1, r2) := h
 clear h
 by_cases c3 : (l0.length : Int) > a1
 ·rw [if_pos c3] at H
  have c3b0 : decide (a1 < (l0.length : Int)) = true := decide_eq_true c3
  clear c3
  by_cases c4 : 0 ≤ a1
  ·rw [if_pos c4] at H
   have c4b0 := eq_true c4
   have c4b1 : decide (0 ≤ a1) = true := decide_eq_true c4
   clear c4
   by_cases c5 : a1 ≤ (l0.length : Int)
   ·rw [if_pos c5] at H
    have c5b0 := eq_true c5
    have c5b1 : decide (a1 ≤ (l0.length : Int)) = true := decide_eq_true c5
    clear c5
    simp only [Option.some.injEq, Prod.mk.injEq] at H
    obtain ⟨rfl, rfl⟩ := H
    obtain ⟨i06, hi06, _, hsz6, _⟩ := info_parts info5
    obtain ⟨hcut6, hA6, hC6⟩ := Zd0 (P := Try.prog) (Value.int .u8) 0 30 5 .i64 Try.underlying30 hi06 hsz6 A0 c0 l0 a1 (of_decide_eq_true (by first | (with_reducible assumption) | assumption)) (of_decide_eq_true (by first | (with_reducible assumption) | assumption)) HC0.out
    have HR252 := aM (Kd.Zfq (h1 := fun _ => rfl) (hA6 _ (Kd.Zeb HR0.out)))
    have HC252 := aM hC6
    clear hA6 hC6 hi06 hsz6
    go_enter Try.func16, Try.ntmps16
    go_wp2_with (first | ((with_reducible refine Z7 (N := 14) rfl ?_); refine Z4 ?hg (N := 14) ?hd (cs := #[.slice A0 (l0.take (a1 : Int).toNat).length c0, .int .i64 0]) (t := 62) ?hr ?_; (case hd => rfl); (case hg => rfl); (case hr => first | (go_simp; done) | (go_simp; rfl)); intro gb253 hg w7 hbox hb; have n0_ := aM (Zj HBW.out hb); have n1_ := aM (Zj (by repeat (first | (with_reducible first | exact HB.out | apply wA | apply wN | apply wD) | exact HB.out)) hb); have n2_ := aM (hbox); have n3_ := aM ((by rw [hg]; exact (Zd (by repeat (first | (with_reducible first | exact HBW.out | apply wA | apply wN | apply wD) | exact HBW.out))) : w.heap.size ≤ gb253)); have n4_ := aM ((Nat.le_trans HW0.out (by rw [hg]; exact (Zd (by repeat (first | (with_reducible first | exact HBW.out | apply wA | apply wN | apply wD) | exact HBW.out))) : w.heap.size ≤ gb253) : w0.heap.size ≤ gb253)); clear HBW HB; have HBW := n0_; have HB := n1_; have BK253 := n2_; have GW253 := n3_; have GE253 := n4_; clear n0_ n1_ n2_ n3_ n4_; clear hb hbox hg))
    go_ret
    exact ⟨_, rfl, (show Zb w0 _ gb253 (l0.take (a1 : Int).toNat) 0 from ⟨_, _, by (with_reducible repeat first | apply bN | apply bD | apply bA); exact BK253.out, GE253.out, HR252.out⟩), by repeat (first | (with_reducible first | exact HB.out | apply wA | apply wN | apply wD | refine Za ?_ GE253.out) | exact HB.out), by repeat (first | (with_reducible first | exact HBW.out | apply wA | apply wN | apply wD | refine Za ?_ GW253.out) | exact HBW.out), GW253.out⟩
   ·rw [if_neg c5] at H
    exact absurd H (by simp)
  ·rw [if_neg c4] at H
   exact absurd H (by simp)
 ·rw [if_neg c3] at H
  have c3b0 : decide (a1 < (l0.length : Int)) = false := decide_eq_false c3
  clear c3
  simp only [Option.some.injEq, Prod.mk.injEq] at H
  obtain ⟨rfl, rfl⟩ := H
  go_enter Try.func16, Try.ntmps16
  go_wp2_with (first | ((with_reducible refine Z7 (N := 14) rfl ?_); refine Z4 ?hg (N := 14) ?hd (cs := #[.slice A0 l0.length c0, .int .i64 0]) (t := 62) ?hr ?_; (case hd => rfl); (case hg => rfl); (case hr => first | (go_simp; done) | (go_simp; rfl)); intro gb254 hg w8 hbox hb; have n0_ := aM (Zj HBW.out hb); have n1_ := aM (Zj (by repeat (first | (with_reducible first | exact HB.out | apply wA | apply wN | apply wD) | exact HB.out)) hb); have n2_ := aM (hbox); have n3_ := aM ((by rw [hg]; exact (Zd (by repeat (first | (with_reducible first | exact HBW.out | apply wA | apply wN | apply wD) | exact HBW.out))) : w.heap.size ≤ gb254)); have n4_ := aM ((Nat.le_trans HW0.out (by rw [hg]; exact (Zd (by repeat (first | (with_reducible first | exact HBW.out | apply wA | apply wN | apply wD) | exact HBW.out))) : w.heap.size ≤ gb254) : w0.heap.size ≤ gb254)); clear HBW HB; have HBW := n0_; have HB := n1_; have BK254 := n2_; have GW254 := n3_; have GE254 := n4_; clear n0_ n1_ n2_ n3_ n4_; clear hb hbox hg))
  go_ret
  exact ⟨_, rfl, (show Zb w0 _ gb254 l0 0 from ⟨_, _, by (with_reducible repeat first | apply bN | apply bD | apply bA); exact BK254.out, GE254.out, HR0.out⟩), by repeat (first | (with_reducible first | exact HB.out | apply wA | apply wN | apply wD | refine Za ?_ GE254.out) | exact HB.out), by repeat (first | (with_reducible first | exact HBW.out | apply wA | apply wN | apply wD | refine Za ?_ GW254.out) | exact HBW.out), GW254.out⟩

end Go.Proofs.Ytnfbjdnflifcoaa.PDk

namespace Go.Proofs.Ytnfbjdnflifcoaa.PDk
open Go.RowKit Go.Proofs.YtnfbjdnflifcoaaW.PrintWords Go.Proofs.YtnfbjdnflifcoaaW.PrintLast Go.Proofs.YtnfbjdnflifcoaaW.PrintMore
attribute [local go_sem] Za0 Zay Zbe Zbd Zan Zam Zaz Zax
set_option linter.unusedVariables false
set_option linter.unusedSimpArgs false

def Y3.f (s0_0 : List Int) (s0_1 : Int) : Option (Bool × Int) := some (decide (s0_1 < (s0_0.length : Int)), s0_1)
set_option maxHeartbeats 8000000 in
set_option maxRecDepth 100000 in
theorem Y3.calls (g : Nat) (s0_0 : List Int) (s0_1 : Int) (r1 : Bool) (r2 : Int) (w0 w : World) (hI : Zb w0 w g s0_0 s0_1) (hB : Below w0.heap.size w0 w) (h : Y3.f s0_0 s0_1 = some (r1, r2)) :
  Calls Try.prog 38 #[.pointer (some ⟨g, 0, none⟩)] w fun e w' => e = .returned (.bool r1) ∧ Zb w0 w' g s0_0 r2 ∧ Below w0.heap.size w0 w' ∧ Zn w w' g none := by
 have HI0 := aM hI
 have HK := aM (Zn.refl w g none)
 have HL := aM hB.size
 clear hI
 have HW0 := aM hB.size
 have HB := aM hB
 clear hB
 have H : (some (decide (s0_1 < (s0_0.length : Int)), s0_1)) = some (r1, r2) := h
 clear h
 simp only [Option.some.injEq, Prod.mk.injEq] at H
 obtain ⟨rfl, rfl⟩ := H
 obtain ⟨ASz2_0, cSz2_0, HGz2, hgz2, HSz2_0⟩ := HI0.out
 have hcz2_0 := Zd6 HGz2
 have hcz2_1 := Zd5 HGz2
 have hfz2_1 := Zg HGz2 1
 clear HGz2 hgz2
 go_enter Try.func38, Try.ntmps38
 go_wp2
 repeat (go_quiet (fail); try go_wp2)
 go_ret
 exact ⟨by first | rfl | (simp [Zy, Zx] <;> rfl) | (simp [*, Zy, Zx] <;> rfl), by repeat (first | (with_reducible first | exact HI0.out | apply Zb.alloc | apply Zb.drewN | apply Zb.drew | apply Zb.Zad) | exact HI0.out), by repeat (first | (with_reducible first | exact HB.out | apply wA | apply wN | apply wD | refine Za ?_ (Zb.ge HI0.out)) | exact HB.out), by repeat (first | (with_reducible first | exact HK.out | apply Zn.set_ | apply kN | apply kD | apply kA) | exact HK.out)⟩

def Zz.f (s0_0 : List Int) (s0_1 : Int) (a1 : Int) : Option (Int × Int) := (Y3.f s0_0 s0_1).bind fun bt262 => (if bt262.1 = true then (if 0 ≤ (wrap64 ((wrap64 (bt262.2 + 1)) - 1)) then (if (wrap64 ((wrap64 (bt262.2 + 1)) - 1)) < (s0_0.length : Int) then (if a1 = 0 then (none) else (some (Int.tmod (wrap64 (rd s0_0 (wrap64 ((wrap64 (bt262.2 + 1)) - 1)))) a1, wrap64 (bt262.2 + 1)))) else (none)) else (none)) else (some (0, bt262.2)))
set_option maxHeartbeats 8000000 in
set_option maxRecDepth 100000 in
theorem Zz.calls (g : Nat) (s0_0 : List Int) (s0_1 : Int) (a1 : Int) (r1 : Int) (r2 : Int) (w0 w : World) (hI : Zb w0 w g s0_0 s0_1) (hB : Below w0.heap.size w0 w) (h : Zz.f s0_0 s0_1 a1 = some (r1, r2)) :
  Calls Try.prog 29 #[.pointer (some ⟨g, 0, none⟩), .int .i64 a1] w fun e w' => e = .returned (.int .i64 r1) ∧ Zb w0 w' g s0_0 r2 ∧ Below w0.heap.size w0 w' ∧ Zn w w' g none := by
 have HI0 := aM hI
 have HK := aM (Zn.refl w g none)
 have HL := aM hB.size
 clear hI
 have HW0 := aM hB.size
 have HB := aM hB
 clear hB
 have H : ((Y3.f s0_0 s0_1).bind fun bt262 => (if bt262.1 = true then (if 0 ≤ (wrap64 ((wrap64 (bt262.2 + 1)) - 1)) then (if (wrap64 ((wrap64 (bt262.2 + 1)) - 1)) < (s0_0.length : Int) then (if a1 = 0 then (none) else (some (Int.tmod (wrap64 (rd s0_0 (wrap64 ((wrap64 (bt262.2 + 1)) - 1)))) a1, wrap64 (bt262.2 + 1)))) else (none)) else (none)) else (some (0, bt262.2)))) = some (r1, r2) := h
 clear h
 replace H := Option.bind_eq_some_iff.mp H
 obtain ⟨⟨t262, t263⟩, A30, H⟩ := H
 replace H : (if t262 = true then (if 0 ≤ (wrap64 ((wrap64 (t263 + 1)) - 1)) then (if (wrap64 ((wrap64 (t263 + 1)) - 1)) < (s0_0.length : Int) then (if a1 = 0 then (none) else (some (Int.tmod (wrap64 (rd s0_0 (wrap64 ((wrap64 (t263 + 1)) - 1)))) a1, wrap64 (t263 + 1)))) else (none)) else (none)) else (some (0, t263))) = some (r1, r2) := H
 have A3 := aM A30
 clear A30
 by_cases c4 : t262 = true
 ·subst c4
  have H1 : (if 0 ≤ (wrap64 ((wrap64 (t263 + 1)) - 1)) then (if (wrap64 ((wrap64 (t263 + 1)) - 1)) < (s0_0.length : Int) then (if a1 = 0 then (none) else (some (Int.tmod (wrap64 (rd s0_0 (wrap64 ((wrap64 (t263 + 1)) - 1)))) a1, wrap64 (t263 + 1)))) else (none)) else (none)) = some (r1, r2) := by rw [if_pos rfl] at H; exact H
  clear H
  have H := H1
  clear H1
  obtain ⟨ji5, hji5⟩ : ∃ j_ : Int, (wrap64 ((wrap64 (t263 + 1)) - 1)) = j_ := ⟨_, rfl⟩
  replace H : (if 0 ≤ (ji5) then (if (ji5) < (s0_0.length : Int) then (if a1 = 0 then (none) else (some (Int.tmod (wrap64 (rd s0_0 (ji5))) a1, wrap64 (t263 + 1)))) else (none)) else (none)) = some (r1, r2) := by first | (rw [hji5] at H; exact H) | (simp only [hji5] at H ⊢; exact H)
  (try rw [hji5] at A3)
  have hji5w : (IntKind.i64.wrap ((wrap64 (t263 + 1)) - 1)) = ji5 := (Z5 _).trans hji5
  by_cases c6 : 0 ≤ (ji5)
  ·rw [if_pos c6] at H
   have c6b0 : decide (0 ≤ (ji5)) = true := decide_eq_true c6
   clear c6
   by_cases c7 : (ji5) < (s0_0.length : Int)
   ·rw [if_pos c7] at H
    have c7b0 : decide ((ji5) < (s0_0.length : Int)) = true := decide_eq_true c7
    clear c7
    by_cases c8 : a1 = 0
    ·rw [if_pos c8] at H
     exact absurd H (by simp)
    ·rw [if_neg c8] at H
     have c8b0 : (a1 == 0) = false := beq_eq_false_iff_ne.mpr c8
     have c8b1 : (a1 != 0) = true := bne_iff_ne.mpr c8
     simp only [Option.some.injEq, Prod.mk.injEq] at H
     obtain ⟨rfl, rfl⟩ := H
     go_enter Try.func29, Try.ntmps29
     go_wp2_with (first | (go_at_call 38; (with_reducible refine (Y3.calls g s0_0 s0_1 true t263 w0 _ ?side1 ?side2 A3.out).mono ?_); (case side1 => repeat (first | (with_reducible first | exact HI0.out | apply Zb.alloc | apply Zb.drewN | apply Zb.drew | apply Zb.Zad) | exact HI0.out)); (case side2 => repeat (first | (with_reducible first | exact HB.out | apply wA | apply wN | apply wD | refine Za ?_ (Zb.ge HI0.out)) | exact HB.out)); rintro e w9 ⟨rfl, hi, hb, hk⟩; have n0_ := aM (Zn.trans (by repeat (first | (with_reducible first | exact HK.out | apply Zn.set_ | apply kN | apply kD | apply kA) | exact HK.out)) hk (.inl rfl)); have n1_ := aM (hb); have n2_ := aM (hi); clear HK HB HI0; have HK := n0_; have HB := n1_; have HI0 := n2_; clear n0_ n1_ n2_; (try clear hb); (try clear hb2); (try clear hk); (try clear hi); (try clear hge_); obtain ⟨ASz10_0, cSz10_0, HGz10, hgz10, HSz10_0⟩ := HI0.out; have hcz10_0 := Zd6 HGz10; have hcz10_1 := Zd5 HGz10; have hfz10_1 := Zg HGz10 1; clear HGz10 hgz10; have p264 : 0 ≤ ((ji5) : Int) := of_decide_eq_true (by first | (with_reducible assumption) | assumption); have q264 : (ji5) < (s0_0.length : Int) := of_decide_eq_true (by first | (with_reducible assumption) | assumption); obtain ⟨ad264, e264, hx264_0⟩ := Kd.Zcz HSz10_0 (ji5) p264 q264; cases e264; have hn264_0 : ad264.block ≠ g := Nat.ne_of_lt (Nat.lt_of_lt_of_le (by have := Qw _ _ hx264_0; first | rwa [add_block] at this | exact this) (Zb.ge HI0.out)); replace hx264_0 := Zb7 HB.out hx264_0; replace hx264_0 := (cell_far (p := ⟨g, 1, none⟩) (by first | (rw [add_block]; exact hn264_0) | (show (Addr.add _ _).block ≠ _; rw [add_block]; exact hn264_0) | exact hn264_0) (.int .i64 (wrap64 (t263 + 1)))).trans hx264_0; (try have hy264_0 := fun (n_ : Nat) => (show (((w9.drewN n_).setCell ⟨g, 1, none⟩ (.int .i64 (wrap64 (t263 + 1))))).cell? _ = some _ from hx264_0)); clear hn264_0; replace p264 := eq_true p264; replace q264 := eq_true q264))
     repeat (go_quiet (first | (go_at_call 38; (with_reducible refine (Y3.calls g s0_0 s0_1 true t263 w0 _ ?side1 ?side2 A3.out).mono ?_); (case side1 => repeat (first | (with_reducible first | exact HI0.out | apply Zb.alloc | apply Zb.drewN | apply Zb.drew | apply Zb.Zad) | exact HI0.out)); (case side2 => repeat (first | (with_reducible first | exact HB.out | apply wA | apply wN | apply wD | refine Za ?_ (Zb.ge HI0.out)) | exact HB.out)); rintro e w9 ⟨rfl, hi, hb, hk⟩; have n0_ := aM (Zn.trans (by repeat (first | (with_reducible first | exact HK.out | apply Zn.set_ | apply kN | apply kD | apply kA) | exact HK.out)) hk (.inl rfl)); have n1_ := aM (hb); have n2_ := aM (hi); clear HK HB HI0; have HK := n0_; have HB := n1_; have HI0 := n2_; clear n0_ n1_ n2_; (try clear hb); (try clear hb2); (try clear hk); (try clear hi); (try clear hge_); obtain ⟨ASz10_0, cSz10_0, HGz10, hgz10, HSz10_0⟩ := HI0.out; have hcz10_0 := Zd6 HGz10; have hcz10_1 := Zd5 HGz10; have hfz10_1 := Zg HGz10 1; clear HGz10 hgz10; have p264 : 0 ≤ ((ji5) : Int) := of_decide_eq_true (by first | (with_reducible assumption) | assumption); have q264 : (ji5) < (s0_0.length : Int) := of_decide_eq_true (by first | (with_reducible assumption) | assumption); obtain ⟨ad264, e264, hx264_0⟩ := Kd.Zcz HSz10_0 (ji5) p264 q264; cases e264; have hn264_0 : ad264.block ≠ g := Nat.ne_of_lt (Nat.lt_of_lt_of_le (by have := Qw _ _ hx264_0; first | rwa [add_block] at this | exact this) (Zb.ge HI0.out)); replace hx264_0 := Zb7 HB.out hx264_0; replace hx264_0 := (cell_far (p := ⟨g, 1, none⟩) (by first | (rw [add_block]; exact hn264_0) | (show (Addr.add _ _).block ≠ _; rw [add_block]; exact hn264_0) | exact hn264_0) (.int .i64 (wrap64 (t263 + 1)))).trans hx264_0; (try have hy264_0 := fun (n_ : Nat) => (show (((w9.drewN n_).setCell ⟨g, 1, none⟩ (.int .i64 (wrap64 (t263 + 1))))).cell? _ = some _ from hx264_0)); clear hn264_0; replace p264 := eq_true p264; replace q264 := eq_true q264)); try go_wp2_with (first | (go_at_call 38; (with_reducible refine (Y3.calls g s0_0 s0_1 true t263 w0 _ ?side1 ?side2 A3.out).mono ?_); (case side1 => repeat (first | (with_reducible first | exact HI0.out | apply Zb.alloc | apply Zb.drewN | apply Zb.drew | apply Zb.Zad) | exact HI0.out)); (case side2 => repeat (first | (with_reducible first | exact HB.out | apply wA | apply wN | apply wD | refine Za ?_ (Zb.ge HI0.out)) | exact HB.out)); rintro e w9 ⟨rfl, hi, hb, hk⟩; have n0_ := aM (Zn.trans (by repeat (first | (with_reducible first | exact HK.out | apply Zn.set_ | apply kN | apply kD | apply kA) | exact HK.out)) hk (.inl rfl)); have n1_ := aM (hb); have n2_ := aM (hi); clear HK HB HI0; have HK := n0_; have HB := n1_; have HI0 := n2_; clear n0_ n1_ n2_; (try clear hb); (try clear hb2); (try clear hk); (try clear hi); (try clear hge_); obtain ⟨ASz10_0, cSz10_0, HGz10, hgz10, HSz10_0⟩ := HI0.out; have hcz10_0 := Zd6 HGz10; have hcz10_1 := Zd5 HGz10; have hfz10_1 := Zg HGz10 1; clear HGz10 hgz10; have p264 : 0 ≤ ((ji5) : Int) := of_decide_eq_true (by first | (with_reducible assumption) | assumption); have q264 : (ji5) < (s0_0.length : Int) := of_decide_eq_true (by first | (with_reducible assumption) | assumption); obtain ⟨ad264, e264, hx264_0⟩ := Kd.Zcz HSz10_0 (ji5) p264 q264; cases e264; have hn264_0 : ad264.block ≠ g := Nat.ne_of_lt (Nat.lt_of_lt_of_le (by have := Qw _ _ hx264_0; first | rwa [add_block] at this | exact this) (Zb.ge HI0.out)); replace hx264_0 := Zb7 HB.out hx264_0; replace hx264_0 := (cell_far (p := ⟨g, 1, none⟩) (by first | (rw [add_block]; exact hn264_0) | (show (Addr.add _ _).block ≠ _; rw [add_block]; exact hn264_0) | exact hn264_0) (.int .i64 (wrap64 (t263 + 1)))).trans hx264_0; (try have hy264_0 := fun (n_ : Nat) => (show (((w9.drewN n_).setCell ⟨g, 1, none⟩ (.int .i64 (wrap64 (t263 + 1))))).cell? _ = some _ from hx264_0)); clear hn264_0; replace p264 := eq_true p264; replace q264 := eq_true q264)))
     go_ret
     exact ⟨by first | rfl | (simp [Zy, Zx] <;> rfl) | (simp only [← hji5]; first | rfl | (simp [Zy, Zx] <;> rfl)) | (simp [*, Zy, Zx] <;> rfl), by repeat (first | (with_reducible first | exact HI0.out | apply Zb.alloc | apply Zb.drewN | apply Zb.drew | apply Zb.Zad) | exact HI0.out), by repeat (first | (with_reducible first | exact HB.out | apply wA | apply wN | apply wD | refine Za ?_ (Zb.ge HI0.out)) | exact HB.out), by repeat (first | (with_reducible first | exact HK.out | apply Zn.set_ | apply kN | apply kD | apply kA) | exact HK.out)⟩
   ·rw [if_neg c7] at H
    exact absurd H (by simp)
  ·rw [if_neg c6] at H
   exact absurd H (by simp)
 ·replace c4 := Bool.eq_false_iff.mpr c4
  subst c4
  have H1 : (some (0, t263)) = some (r1, r2) := by rw [if_neg (show ¬ (false = true) by decide)] at H; exact H
  clear H
  have H := H1
  clear H1
  simp only [Option.some.injEq, Prod.mk.injEq] at H
  obtain ⟨rfl, rfl⟩ := H
  go_enter Try.func29, Try.ntmps29
  go_wp2_with (first | (go_at_call 38; (with_reducible refine (Y3.calls g s0_0 s0_1 false t263 w0 _ ?side1 ?side2 A3.out).mono ?_); (case side1 => repeat (first | (with_reducible first | exact HI0.out | apply Zb.alloc | apply Zb.drewN | apply Zb.drew | apply Zb.Zad) | exact HI0.out)); (case side2 => repeat (first | (with_reducible first | exact HB.out | apply wA | apply wN | apply wD | refine Za ?_ (Zb.ge HI0.out)) | exact HB.out)); rintro e w11 ⟨rfl, hi, hb, hk⟩; have n0_ := aM (Zn.trans (by repeat (first | (with_reducible first | exact HK.out | apply Zn.set_ | apply kN | apply kD | apply kA) | exact HK.out)) hk (.inl rfl)); have n1_ := aM (hb); have n2_ := aM (hi); clear HK HB HI0; have HK := n0_; have HB := n1_; have HI0 := n2_; clear n0_ n1_ n2_; (try clear hb); (try clear hb2); (try clear hk); (try clear hi); (try clear hge_)))
  repeat (go_quiet (first | (go_at_call 38; (with_reducible refine (Y3.calls g s0_0 s0_1 false t263 w0 _ ?side1 ?side2 A3.out).mono ?_); (case side1 => repeat (first | (with_reducible first | exact HI0.out | apply Zb.alloc | apply Zb.drewN | apply Zb.drew | apply Zb.Zad) | exact HI0.out)); (case side2 => repeat (first | (with_reducible first | exact HB.out | apply wA | apply wN | apply wD | refine Za ?_ (Zb.ge HI0.out)) | exact HB.out)); rintro e w11 ⟨rfl, hi, hb, hk⟩; have n0_ := aM (Zn.trans (by repeat (first | (with_reducible first | exact HK.out | apply Zn.set_ | apply kN | apply kD | apply kA) | exact HK.out)) hk (.inl rfl)); have n1_ := aM (hb); have n2_ := aM (hi); clear HK HB HI0; have HK := n0_; have HB := n1_; have HI0 := n2_; clear n0_ n1_ n2_; (try clear hb); (try clear hb2); (try clear hk); (try clear hi); (try clear hge_))); try go_wp2_with (first | (go_at_call 38; (with_reducible refine (Y3.calls g s0_0 s0_1 false t263 w0 _ ?side1 ?side2 A3.out).mono ?_); (case side1 => repeat (first | (with_reducible first | exact HI0.out | apply Zb.alloc | apply Zb.drewN | apply Zb.drew | apply Zb.Zad) | exact HI0.out)); (case side2 => repeat (first | (with_reducible first | exact HB.out | apply wA | apply wN | apply wD | refine Za ?_ (Zb.ge HI0.out)) | exact HB.out)); rintro e w11 ⟨rfl, hi, hb, hk⟩; have n0_ := aM (Zn.trans (by repeat (first | (with_reducible first | exact HK.out | apply Zn.set_ | apply kN | apply kD | apply kA) | exact HK.out)) hk (.inl rfl)); have n1_ := aM (hb); have n2_ := aM (hi); clear HK HB HI0; have HK := n0_; have HB := n1_; have HI0 := n2_; clear n0_ n1_ n2_; (try clear hb); (try clear hb2); (try clear hk); (try clear hi); (try clear hge_))))
  go_ret
  exact ⟨by first | rfl | (simp [Zy, Zx] <;> rfl) | (simp [*, Zy, Zx] <;> rfl), by repeat (first | (with_reducible first | exact HI0.out | apply Zb.alloc | apply Zb.drewN | apply Zb.drew | apply Zb.Zad) | exact HI0.out), by repeat (first | (with_reducible first | exact HB.out | apply wA | apply wN | apply wD | refine Za ?_ (Zb.ge HI0.out)) | exact HB.out), by repeat (first | (with_reducible first | exact HK.out | apply Zn.set_ | apply kN | apply kD | apply kA) | exact HK.out)⟩

end Go.Proofs.Ytnfbjdnflifcoaa.PDk

namespace Go.Proofs.Ytnfbjdnflifcoaa.PDk
open Go.RowKit Go.Proofs.YtnfbjdnflifcoaaW.PrintWords Go.Proofs.YtnfbjdnflifcoaaW.PrintLast Go.Proofs.YtnfbjdnflifcoaaW.PrintMore
attribute [local go_sem] Za0 Zay Zbe Zbd Zan Zam Zaz Zax
set_option linter.unusedVariables false
set_option linter.unusedSimpArgs false

def Y4.f (a0 : Int) : Option ((List (S48)) × Int) := if a0 < 0 then (some (([] : List (S48)), 3)) else (if a0 > 16 then (some (([] : List (S48)), 3)) else (if 0 ≤ a0 then (if (a0 : Int).toNat ≤ 5864062014805 then (some ((List.replicate (a0 : Int).toNat z48), 0)) else (none)) else (none)))
set_option maxHeartbeats 8000000 in
set_option maxRecDepth 100000 in
theorem Y4.calls (a0 : Int) (r1 : List (S48)) (r2 : Int) (w : World) (h : Y4.f a0 = some (r1, r2)) :
  Calls Try.prog 21 #[.int .i64 a0] w fun e w' => ∃ v0_ : Value, e = .returned (.tuple #[.agg #[v0_], .int .i64 r2]) ∧ Kd.S k48 48 w' w.heap.size (fun _ => True) v0_ r1 ∧ Below w.heap.size w w' := by
 have hu24 := Try.underlying24
 have HB := aM (Below.refl w.heap.size w)
 have H : (if a0 < 0 then (some (([] : List (S48)), 3)) else (if a0 > 16 then (some (([] : List (S48)), 3)) else (if 0 ≤ a0 then (if (a0 : Int).toNat ≤ 5864062014805 then (some ((List.replicate (a0 : Int).toNat z48), 0)) else (none)) else (none)))) = some (r1, r2) := h
 clear h
 by_cases c2 : a0 < 0
 ·rw [if_pos c2] at H
  have c2b0 : decide (a0 < 0) = true := decide_eq_true c2
  clear c2
  simp only [Option.some.injEq, Prod.mk.injEq] at H
  obtain ⟨rfl, rfl⟩ := H
  go_enter Try.func21, Try.ntmps21
  go_wp2_with (first | ((with_reducible refine Z7 (N := 2) rfl ?_); refine Z4 ?hg (N := 2) ?hd (cs := #[.slice none 0 0]) (t := 24) ?hr ?_; (case hd => rfl); (case hg => rfl); (case hr => first | (go_simp; done) | (go_simp; rfl)); intro gb377 hg w3 hbox hb; have n0_ := aM (Zj (by repeat (first | (with_reducible first | exact HB.out | apply wA | apply wN | apply wD) | exact HB.out)) hb); have n1_ := aM (hbox); have n2_ := aM ((by rw [hg]; exact (Zd (by repeat (first | (with_reducible first | exact HB.out | apply wA | apply wN | apply wD) | exact HB.out))) : w.heap.size ≤ gb377)); have n3_ := aM ((by rw [hg]; exact (Zd (by repeat (first | (with_reducible first | exact HB.out | apply wA | apply wN | apply wD) | exact HB.out))) : w.heap.size ≤ gb377)); clear HB; have HB := n0_; have BK377 := n1_; have GW377 := n2_; have GE377 := n3_; clear n0_ n1_ n2_ n3_; clear hb hbox hg; have hcz4_0 : w3.cell? ⟨gb377, 0, none⟩ = some (.slice none 0 0) := (Ze BK377.out 0).trans rfl; have hfz4_0 := Zg BK377.out 0))
  refine bodyPost_ret (Zau rfl _ _ gb377 24 #[.slice none 0 0] (0, 0) _ rfl (by (with_reducible repeat first | apply bN | apply bD | apply bA); refine Yo (cs := #[.slice none 0 0]) ?_ 0 _ rfl; (with_reducible repeat first | apply bN | apply bD | apply bA); exact BK377.out) Try.underlying24 rfl (by kernel_rfl)) rfl ?_
  exact ⟨_, by first | rfl | (simp [Zy, Zx] <;> rfl) | (simp [*, Zy, Zx] <;> rfl), by first | exact Kd.Zc0 _ _ _ _ _ | exact Kd.Zcw _ _ _ _ _ | exact Kd.Zcr _ _ _ _ _ | exact Kd.Zc1 _ _ _ _ _ | exact Kd.Zbx _ _ _ _ _, by repeat (first | (with_reducible first | exact HB.out | apply wA | apply wN | apply wD | refine Za ?_ GE377.out) | exact HB.out)⟩
 ·rw [if_neg c2] at H
  have c2b0 : decide (a0 < 0) = false := decide_eq_false c2
  clear c2
  by_cases c5 : a0 > 16
  ·rw [if_pos c5] at H
   have c5b0 : decide (16 < a0) = true := decide_eq_true c5
   clear c5
   simp only [Option.some.injEq, Prod.mk.injEq] at H
   obtain ⟨rfl, rfl⟩ := H
   go_enter Try.func21, Try.ntmps21
   go_wp2_with (first | ((with_reducible refine Z7 (N := 2) rfl ?_); refine Z4 ?hg (N := 2) ?hd (cs := #[.slice none 0 0]) (t := 24) ?hr ?_; (case hd => rfl); (case hg => rfl); (case hr => first | (go_simp; done) | (go_simp; rfl)); intro gb377 hg w6 hbox hb; have n0_ := aM (Zj (by repeat (first | (with_reducible first | exact HB.out | apply wA | apply wN | apply wD) | exact HB.out)) hb); have n1_ := aM (hbox); have n2_ := aM ((by rw [hg]; exact (Zd (by repeat (first | (with_reducible first | exact HB.out | apply wA | apply wN | apply wD) | exact HB.out))) : w.heap.size ≤ gb377)); have n3_ := aM ((by rw [hg]; exact (Zd (by repeat (first | (with_reducible first | exact HB.out | apply wA | apply wN | apply wD) | exact HB.out))) : w.heap.size ≤ gb377)); clear HB; have HB := n0_; have BK377 := n1_; have GW377 := n2_; have GE377 := n3_; clear n0_ n1_ n2_ n3_; clear hb hbox hg; have hcz7_0 : w6.cell? ⟨gb377, 0, none⟩ = some (.slice none 0 0) := (Ze BK377.out 0).trans rfl; have hfz7_0 := Zg BK377.out 0))
   refine bodyPost_ret (Zau rfl _ _ gb377 24 #[.slice none 0 0] (0, 0) _ rfl (by (with_reducible repeat first | apply bN | apply bD | apply bA); refine Yo (cs := #[.slice none 0 0]) ?_ 0 _ rfl; (with_reducible repeat first | apply bN | apply bD | apply bA); exact BK377.out) Try.underlying24 rfl (by kernel_rfl)) rfl ?_
   exact ⟨_, by first | rfl | (simp [Zy, Zx] <;> rfl) | (simp [*, Zy, Zx] <;> rfl), by first | exact Kd.Zc0 _ _ _ _ _ | exact Kd.Zcw _ _ _ _ _ | exact Kd.Zcr _ _ _ _ _ | exact Kd.Zc1 _ _ _ _ _ | exact Kd.Zbx _ _ _ _ _, by repeat (first | (with_reducible first | exact HB.out | apply wA | apply wN | apply wD | refine Za ?_ GE377.out) | exact HB.out)⟩
  ·rw [if_neg c5] at H
   have c5b0 : decide (16 < a0) = false := decide_eq_false c5
   clear c5
   by_cases c8 : 0 ≤ a0
   ·rw [if_pos c8] at H
    have c8b0 := eq_true c8
    have c8b1 : decide (0 ≤ a0) = true := decide_eq_true c8
    clear c8
    by_cases c9 : (a0 : Int).toNat ≤ 5864062014805
    ·rw [if_pos c9] at H
     have c9b0 := eq_true c9
     have c9b1 : decide ((a0 : Int).toNat ≤ 5864062014805) = true := decide_eq_true c9
     clear c9
     obtain ⟨y378, hy378⟩ : ∃ y_ : List (S48), y_ = (List.replicate (a0 : Int).toNat z48) := ⟨_, rfl⟩
     replace H : (some (y378, 0)) = some (r1, r2) := by first | (rw [hy378]; with_reducible exact H) | (have H2_ := (Option.bind_some _ _).symm.trans H; rw [hy378]; with_reducible exact H2_) | (have H2_ := (Option.bind_some _ _).symm.trans H; with_reducible exact H2_) | with_reducible exact H | (rw [hy378]; exact H) | exact H
     have Ny378 := aM hy378
     clear hy378
     simp only [Option.some.injEq, Prod.mk.injEq] at H
     obtain ⟨rfl, rfl⟩ := H
     go_enter Try.func21, Try.ntmps21
     go_wp2_with (first | ((with_reducible refine Z7 (N := 2) rfl ?_); refine Z4 ?hg (N := 2) ?hd (cs := #[.slice none 0 0]) (t := 24) ?hr ?_; (case hd => rfl); (case hg => rfl); (case hr => first | (go_simp; done) | (go_simp; rfl)); intro gb377 hg w10 hbox hb; have n0_ := aM (Zj (by repeat (first | (with_reducible first | exact HB.out | apply wA | apply wN | apply wD) | exact HB.out)) hb); have n1_ := aM (hbox); have n2_ := aM ((by rw [hg]; exact (Zd (by repeat (first | (with_reducible first | exact HB.out | apply wA | apply wN | apply wD) | exact HB.out))) : w.heap.size ≤ gb377)); have n3_ := aM ((by rw [hg]; exact (Zd (by repeat (first | (with_reducible first | exact HB.out | apply wA | apply wN | apply wD) | exact HB.out))) : w.heap.size ≤ gb377)); clear HB; have HB := n0_; have BK377 := n1_; have GW377 := n2_; have GE377 := n3_; clear n0_ n1_ n2_ n3_; clear hb hbox hg) | ((with_reducible refine Z7 (N := 12) rfl ?_); refine Kd.S_make k48 _ 48 rfl (N := 12) rfl 22 _ _ rfl a0 rfl rfl Try.underlying22 (.agg #[(.slice none 0 0), (.slice none 0 0)]) 48 Zfh rfl (by decide) (by omega) z48 (ok := fun _ => True) (okp := fun _ => True) (Zex _ _ _ z48 (Kd.Zbx _ _ _ _ _) (Kd.Zbx _ _ _ _ _)) (fun _ hk => hk) trivial (of_decide_eq_true (by first | (with_reducible assumption) | assumption)) (Nat.le_trans (Nat.mul_le_mul_right _ (of_decide_eq_true (by first | (with_reducible assumption) | assumption) : a0.toNat ≤ 5864062014805)) (by omega)) (Below.refl _ _) (Nat.le_refl _) ?_; intro v379 w11 ho12 hb hg_ hnew_; clear hg_ hnew_; (first | rw [← Ny378.out] at ho12 | (simp only [Int.reduceToNat] at ho12; rw [← Ny378.out] at ho12)); have n0_ := aM (Kd.Zdu ho12 (Zd (by repeat (first | (with_reducible first | exact HB.out | apply wA | apply wN | apply wD | refine Za ?_ GE377.out) | exact HB.out)))); have n1_ := aM (Zf (g := gb377) (o := .cells #[.slice none 0 0] 24 (0, 0)) (by (with_reducible repeat first | apply bN | apply bD | apply bA); exact BK377.out) hb); have n2_ := aM (Zj (by repeat (first | (with_reducible first | exact HB.out | apply wA | apply wN | apply wD | refine Za ?_ GE377.out) | exact HB.out)) hb); clear BK377 HB; have HO380 := n0_; have BK377 := n1_; have HB := n2_; clear n0_ n1_ n2_; clear hb ho12; obtain ⟨Ao13, co13, eo13⟩ := Kd.Zcm HO380.out; subst eo13; have hcz14_0 : w11.cell? ⟨gb377, 0, none⟩ = some (.slice none 0 0) := (Ze BK377.out 0).trans rfl; have hfz14_0 := Zg BK377.out 0))
     refine bodyPost_ret (Zau rfl _ _ gb377 24 #[.slice Ao13 y378.length co13] (0, 0) _ rfl (by (with_reducible repeat first | apply bN | apply bD | apply bA); refine Yo (cs := #[.slice none 0 0]) ?_ 0 _ rfl; (with_reducible repeat first | apply bN | apply bD | apply bA); exact BK377.out) Try.underlying24 rfl (by kernel_rfl)) rfl ?_
     exact ⟨_, by first | rfl | (simp [Zy, Zx] <;> rfl) | (simp [*, Zy, Zx] <;> rfl), by (with_reducible repeat first | apply Kd.Zao | apply Kd.Zal | apply Kd.Zaw); exact Kd.Zbc (Kd.Zcs (p := ⟨gb377, 0, none⟩) (Kd.Zcg HO380.out BK377.out (by decide)) (fun _ hk => hk.2) (.slice Ao13 y378.length co13)) (fun _ hk => trivial), by repeat (first | (with_reducible first | exact HB.out | apply wA | apply wN | apply wD | refine Za ?_ GE377.out) | exact HB.out)⟩
    ·rw [if_neg c9] at H
     exact absurd H (by simp)
   ·rw [if_neg c8] at H
    exact absurd H (by simp)

def Zp.l0 : Nat → List Int → Int → List Int → Int → Option (List Int × Int)
 | 0, _, _, _, _ => none
 | k + 1, x5, x6, x1000, x1001 => if x6 > 0 then ((Zz.f x1000 x1001 256).bind fun bt383 => (if x5.length < 140737488355328 then (Zp.l0 k (x5 ++ [(bt383.1) % 256]) (wrap64 (x6 - 1)) x1000 bt383.2) else (none))) else (some (x5, x1001))
def Zp.f (k : Nat) (s0_0 : List Int) (s0_1 : Int) (a1 : Int) : Option (List Int × Int) := (Zz.f s0_0 s0_1 (wrap64 (a1 + 1))).bind fun bt381 => (Zp.l0 k ([] : List Int) bt381.1 s0_0 bt381.2)
theorem Zp.Zbk : ∀ k, (∀ y0 y1 y2 y3, LeO (Zp.l0 k y0 y1 y2 y3) (Zp.l0 (k + 1) y0 y1 y2 y3))
 | 0 => fun _ _ _ _ r h => by simp [Zp.l0] at h
 | k + 1 => by
  have ih0 := Zp.Zbk k
  ·intro y0 y1 y2 y3
   unfold Zp.l0
   repeat' first
   | (with_reducible exact ih0 _ _ _ _)
   | (with_reducible exact LeO.refl _)
   | (with_reducible exact LeO.none _)
   | (with_reducible refine LeO.ite ?_ ?_)
   | (with_reducible refine LeO.bind ?_ (fun _ => ?_))
   | exact ih0 _ _ _ _
   | exact LeO.none _
   | refine LeO.ite ?_ ?_
   | refine LeO.bind ?_ (fun _ => ?_)
theorem Zp.mono : ∀ a0 a1 a2 k, LeO (Zp.f k a0 a1 a2) (Zp.f (k + 1) a0 a1 a2) := by
 intro a0 a1 a2 k
 have ih0 := Zp.Zbk k
 unfold Zp.f
 repeat' first
   | (with_reducible exact ih0 _ _ _ _)
   | (with_reducible exact LeO.refl _)
   | (with_reducible exact LeO.none _)
   | (with_reducible refine LeO.ite ?_ ?_)
   | (with_reducible refine LeO.bind ?_ (fun _ => ?_))
   | exact ih0 _ _ _ _
   | exact LeO.none _
   | refine LeO.ite ?_ ?_
   | refine LeO.bind ?_ (fun _ => ?_)
set_option maxHeartbeats 8000000 in
set_option maxRecDepth 100000 in
theorem Zp.calls (k : Nat) (g : Nat) (s0_0 : List Int) (s0_1 : Int) (a1 : Int) (r1 : List Int) (r2 : Int) (w0 w : World) (hI : Zb w0 w g s0_0 s0_1) (hB : Below w0.heap.size w0 w) (h : Zp.f k s0_0 s0_1 a1 = some (r1, r2)) :
  Calls Try.prog 23 #[.pointer (some ⟨g, 0, none⟩), .int .i64 a1] w fun e w' => ∃ v0_ : Value, e = .returned (v0_) ∧ Kd.R (Kd.int .u8) 5 w' w.heap.size (fun _ => True) v0_ r1 ∧ Zb w0 w' g s0_0 r2 ∧ Below w0.heap.size w0 w' ∧ Zn w w' g none := by
 have HI0 := aM hI
 have HK := aM (Zn.refl w g none)
 have HL := aM hB.size
 clear hI
 have HW0 := aM hB.size
 have HB := aM hB
 clear hB
 have H : ((Zz.f s0_0 s0_1 (wrap64 (a1 + 1))).bind fun bt381 => (Zp.l0 k ([] : List Int) bt381.1 s0_0 bt381.2)) = some (r1, r2) := h
 clear h
 replace H := Option.bind_eq_some_iff.mp H
 obtain ⟨⟨t381, t382⟩, A30, H⟩ := H
 replace H : (Zp.l0 k ([] : List Int) t381 s0_0 t382) = some (r1, r2) := H
 have A3 := aM A30
 clear A30
 have H' := aM H
 clear H
 go_enter Try.func23, Try.ntmps23
 go_wp2_with (first | ((with_reducible refine Yf (f := 29) rfl ?_); refine Zap (some 10) rfl rfl Try.func29 (by kernel_rfl) rfl #[.pointer (some ⟨g, 0, none⟩), .int .i64 (wrap64 (a1 + 1))] rfl (by (try simp only [Qi, Qj, Qk]); first | done | rfl | (simp only [Qe, Qd]; rfl)) ?_; (with_reducible refine (Zz.calls g s0_0 s0_1 (wrap64 (a1 + 1)) t381 t382 w0 _ ?side1 ?side2 A3.out).mono ?_); (case side1 => repeat (first | (with_reducible first | exact HI0.out | apply Zb.alloc | apply Zb.drewN | apply Zb.drew | apply Zb.Zad) | exact HI0.out)); (case side2 => repeat (first | (with_reducible first | exact HB.out | apply wA | apply wN | apply wD | refine Za ?_ (Zb.ge HI0.out)) | exact HB.out)); rintro e w4 ⟨rfl, hi, hb, hk⟩; refine ⟨_, rfl, ?_⟩; have n0_ := aM (Zn.trans (by repeat (first | (with_reducible first | exact HK.out | apply Zn.set_ | apply kN | apply kD | apply kA) | exact HK.out)) hk (.inl rfl)); have n1_ := aM (hb); have n2_ := aM (hi); clear HK HB HI0; have HK := n0_; have HB := n1_; have HI0 := n2_; clear n0_ n1_ n2_; (try clear hb); (try clear hb2); (try clear hk); (try clear hi); (try clear hge_)))
 go_loopg [5, 6] k (fun kq v5 v6 w' => ∃ (x5_1 : List Int) (x6_1 : Int) (x1001_1 : Int), v6 = .int .i64 x6_1 ∧ Zq (Zp.l0 kq x5_1 x6_1 s0_0 x1001_1 = some (r1, r2)) ∧ Zq (kq ≤ k) ∧ Zq (Kd.R (Kd.int .u8) 5 w' w.heap.size (fun _ => True) v5 x5_1) ∧ Zq (Zb w0 w' g s0_0 x1001_1) ∧ Zq (Zn w w' g none) ∧ Zq (Below w0.heap.size w0 w'))
 case atStart => exact ⟨(([] : List Int)), (t381), (t382), (by first | rfl | (simp; done) | (simp [*]; done)), H', ⟨Nat.le_refl _⟩, ⟨by first | exact Kd.Zbx _ _ _ _ _ | exact Kd.Zcw _ _ _ _ _ | exact Kd.Zcr _ _ _ _ _ | exact Kd.Zc1 _ _ _ _ _ | exact Kd.Zc0 _ _ _ _ _⟩, ⟨by repeat (first | (with_reducible first | exact HI0.out | apply Zb.alloc | apply Zb.drewN | apply Zb.drew | apply Zb.Zad) | exact HI0.out)⟩, ⟨by repeat (first | (with_reducible first | exact HK.out | apply Zn.set_ | apply kN | apply kD | apply kA) | exact HK.out)⟩, ⟨by repeat (first | (with_reducible first | exact HB.out | apply wA | apply wN | apply wD | refine Za ?_ (Zb.ge HI0.out)) | exact HB.out)⟩⟩
 case round =>
  clear H'
  try clear c2
  try clear p2
  obtain ⟨x5_1, x6_1, x1001_1, rfl, HA, HK1, HO_5, HI0, HK, HB⟩ := hrel
  cases gk with
  | zero => exact absurd HA.out (by simp [Zp.l0])
  | succ k1 =>
   have H := HA.out
   clear HA
   simp only [Zp.l0] at H
   by_cases c5 : x6_1 > 0
   ·rw [if_pos c5] at H
    have c5b0 : decide (0 < x6_1) = true := decide_eq_true c5
    clear c5
    replace H := Option.bind_eq_some_iff.mp H
    obtain ⟨⟨t383, t384⟩, A60, H⟩ := H
    replace H : (if x5_1.length < 140737488355328 then (Zp.l0 k1 (x5_1 ++ [(t383) % 256]) (wrap64 (x6_1 - 1)) s0_0 t384) else (none)) = some (r1, r2) := H
    have A6 := aM A60
    clear A60
    by_cases c7 : x5_1.length < 140737488355328
    ·rw [if_pos c7] at H
     have LMc7 := aM c7
     clear c7
     obtain ⟨y385, hy385⟩ : ∃ y_ : List Int, y_ = (x5_1 ++ [(t383) % 256]) := ⟨_, rfl⟩
     replace H : (Zp.l0 k1 y385 (wrap64 (x6_1 - 1)) s0_0 t384) = some (r1, r2) := by first | (rw [hy385]; with_reducible exact H) | (have H2_ := (Option.bind_some _ _).symm.trans H; rw [hy385]; with_reducible exact H2_) | (have H2_ := (Option.bind_some _ _).symm.trans H; with_reducible exact H2_) | with_reducible exact H | (rw [hy385]; exact H) | exact H
     have Ny385 := aM hy385
     clear hy385
     have H' := aM H
     clear H
     go_wp2_with (first | ((with_reducible refine Yf (f := 29) rfl ?_); refine Zap (some 17) rfl rfl Try.func29 (by kernel_rfl) rfl #[.pointer (some ⟨g, 0, none⟩), .int .i64 256] rfl (by (try simp only [Qi, Qj, Qk]); first | done | rfl | (simp only [Qe, Qd]; rfl)) ?_; (with_reducible refine (Zz.calls g s0_0 x1001_1 256 t383 t384 w0 _ ?side1 ?side2 A6.out).mono ?_); (case side1 => repeat (first | (with_reducible first | exact HI0.out | apply Zb.alloc | apply Zb.drewN | apply Zb.drew | apply Zb.Zad) | exact HI0.out)); (case side2 => repeat (first | (with_reducible first | exact HB.out | apply wA | apply wN | apply wD | refine Za ?_ (Zb.ge HI0.out)) | exact HB.out)); rintro e w8 ⟨rfl, hi, hb, hk⟩; refine ⟨_, rfl, ?_⟩; have n0_ := aM (Kd.Zar (Kd.R_keep (Zb.apart (show Zb w0 _ g s0_0 x1001_1 from by repeat (first | (with_reducible first | exact HI0.out | apply Zb.alloc | apply Zb.drewN | apply Zb.drew | apply Zb.Zad) | exact HI0.out)) (by (with_reducible repeat first | apply Kd.Zab | apply Kd.Yu | apply Kd.Zai); exact HO_5.out) (by decide)) hk (fun _ h => h.2)) (fun _ h => h.1)); have n1_ := aM (Zn.trans (by repeat (first | (with_reducible first | exact HK.out | apply Zn.set_ | apply kN | apply kD | apply kA) | exact HK.out)) hk (.inl rfl)); have n2_ := aM (hb); have n3_ := aM (hi); clear HO_5 HK HB HI0; have HO_5 := n0_; have HK := n1_; have HB := n2_; have HI0 := n3_; clear n0_ n1_ n2_ n3_; (try clear hb); (try clear hb2); (try clear hk); (try clear hi); (try clear hge_)) | ((with_reducible refine Zbt (b := .append) (xs := #[(.tmp 15), .tmp 19]) rfl ?_); at_builtin; refine Kd.R_append (Kd.int .u8) w.heap.size rfl (.tmp 15) (.tmp 19) 30 5 (.int .u8 0) 1 rfl Try.underlying30 info5 rfl (by decide) (by omega) u5 x5_1 ((t383) % 256) [.int .u8 ((t383) % 256)] (fun _ => True) (fun _ => False) rfl rfl ?aP (fun _ hk => hk.elim) ?aF ?aO (Below.refl _ _) ?aS ?aL ?_; (case aP => exact rfl); (case aF => exact (fun _ _ => trivial)); (case aO => exact (by (with_reducible repeat first | apply Kd.Zab | apply Kd.Yu | apply Kd.Zai); exact HO_5.out)); (case aS => exact (Y7 (w := w) (g := g) (row := none) (by repeat (first | (with_reducible first | exact HK.out | apply Zn.set_ | apply kN | apply kD | apply kA) | exact HK.out)))); (case aL => have := LMc7.out; omega); intro v386 w9 ho hb hg hat; rw [← Ny385.out] at ho; have n0_ := aM (Zb.grown (by repeat (first | (with_reducible first | exact HI0.out | apply Zb.alloc | apply Zb.drewN | apply Zb.drew | apply Zb.Zad) | exact HI0.out)) hg (Zb.own_ne HI0.out HO_5.out (by decide))); have n1_ := aM (Zdh (by repeat (first | (with_reducible first | exact HB.out | apply wA | apply wN | apply wD | refine Za ?_ (Zb.ge HI0.out)) | exact HB.out)) HL.out hb); have n2_ := aM (Zn.trans (by repeat (first | (with_reducible first | exact HK.out | apply Zn.set_ | apply kN | apply kD | apply kA) | exact HK.out)) (Zn.Zd2 hg g) (Kd.R_base2 HO_5.out)); have n3_ := aM (ho); clear HI0 HB HK HO_5; have HI0 := n0_; have HB := n1_; have HK := n2_; have HO387 := n3_; clear n0_ n1_ n2_ n3_; clear ho hb hg hat))
     go_roundg k1
     case measure => have := HK1.out; omega
     case rel => exact ⟨(y385), (wrap64 (x6_1 - 1)), (t384), (by first | rfl | (simp; done) | (simp [*]; done)), H', ⟨by have := HK1.out; omega⟩, ⟨by (with_reducible repeat first | apply Kd.Zab | apply Kd.Yu | apply Kd.Zai); exact HO387.out⟩, ⟨by repeat (first | (with_reducible first | exact HI0.out | apply Zb.alloc | apply Zb.drewN | apply Zb.drew | apply Zb.Zad) | exact HI0.out)⟩, ⟨by repeat (first | (with_reducible first | exact HK.out | apply Zn.set_ | apply kN | apply kD | apply kA) | exact HK.out)⟩, ⟨by repeat (first | (with_reducible first | exact HB.out | apply wA | apply wN | apply wD | refine Za ?_ (Zb.ge HI0.out)) | exact HB.out)⟩⟩
    ·rw [if_neg c7] at H
     exact absurd H (by simp)
   ·rw [if_neg c5] at H
    have c5b0 : decide (0 < x6_1) = false := decide_eq_false c5
    clear c5
    simp only [Option.some.injEq, Prod.mk.injEq] at H
    obtain ⟨rfl, rfl⟩ := H
    go_wp2
    go_ret
    exact ⟨_, by first | rfl | (simp [Zy, Zx] <;> rfl) | (simp [*, Zy, Zx] <;> rfl), by (with_reducible repeat first | apply Kd.Zab | apply Kd.Yu | apply Kd.Zai); exact HO_5.out, by repeat (first | (with_reducible first | exact HI0.out | apply Zb.alloc | apply Zb.drewN | apply Zb.drew | apply Zb.Zad) | exact HI0.out), by repeat (first | (with_reducible first | exact HB.out | apply wA | apply wN | apply wD | refine Za ?_ (Zb.ge HI0.out)) | exact HB.out), by repeat (first | (with_reducible first | exact HK.out | apply Zn.set_ | apply kN | apply kD | apply kA) | exact HK.out)⟩

def Yn.f (l0_0 : List (S48)) (a1 : Int) : Option (Bool) := if a1 ≥ 0 then (some (decide (a1 < (l0_0.length : Int)))) else (some false)
set_option maxHeartbeats 8000000 in
set_option maxRecDepth 100000 in
theorem Yn.calls (A0_0 : Option Addr) (c0_0 : Nat) (l0_0 : List (S48)) (a1 : Int) (r : Bool) (w : World) (hr0_0 : Kd.C k48 w A0_0 l0_0.length l0_0) (hc0_0 : l0_0.length ≤ c0_0) (h : Yn.f l0_0 a1 = some r) :
  Calls Try.prog 39 #[.agg #[.slice A0_0 l0_0.length c0_0], .int .i64 a1] w fun e w' => e = .returned (.bool r) ∧ Below w.heap.size w w' := by
 have hu24 := Try.underlying24
 have HR0_0 := aM hr0_0
 have HC0_0 := aM hc0_0
 clear hr0_0 hc0_0
 have HB := aM (Below.refl w.heap.size w)
 have H : (if a1 ≥ 0 then (some (decide (a1 < (l0_0.length : Int)))) else (some false)) = some r := h
 clear h
 by_cases c3 : a1 ≥ 0
 ·rw [if_pos c3] at H
  have c3b0 : decide (0 ≤ a1) = true := decide_eq_true c3
  clear c3
  obtain rfl := Option.some.inj H
  go_enter Try.func39, Try.ntmps39
  go_wp2_with (first | ((with_reducible refine Z7 (N := 2) rfl ?_); (try (refine Zcc (by rfl) ?_; dsimp only)); refine Z4 ?hg (N := 2) ?hd (cs := #[.slice A0_0 l0_0.length c0_0]) (t := 24) ?hr ?_; (case hd => rfl); (case hg => rfl); (case hr => first | (go_simp; done) | (go_simp; rfl)); intro gb388 hg w4 hbox hb; have n0_ := aM (Zj (by repeat (first | (with_reducible first | exact HB.out | apply wA | apply wN | apply wD) | exact HB.out)) hb); have n1_ := aM (hbox); have n2_ := aM ((by rw [hg]; exact (Zd (by repeat (first | (with_reducible first | exact HB.out | apply wA | apply wN | apply wD) | exact HB.out))) : w.heap.size ≤ gb388)); have n3_ := aM ((by rw [hg]; exact (Zd (by repeat (first | (with_reducible first | exact HB.out | apply wA | apply wN | apply wD) | exact HB.out))) : w.heap.size ≤ gb388)); clear HB; have HB := n0_; have BK388 := n1_; have GW388 := n2_; have GE388 := n3_; clear n0_ n1_ n2_ n3_; clear hb hbox hg; have hcz5_0 : w4.cell? ⟨gb388, 0, none⟩ = some (.slice A0_0 l0_0.length c0_0) := (Ze BK388.out 0).trans rfl; have hfz5_0 := Zg BK388.out 0))
  go_ret
  exact ⟨by first | rfl | (simp [Zy, Zx] <;> rfl) | (simp [*, Zy, Zx] <;> rfl), by repeat (first | (with_reducible first | exact HB.out | apply wA | apply wN | apply wD | refine Za ?_ GE388.out) | exact HB.out)⟩
 ·rw [if_neg c3] at H
  have c3b0 : decide (0 ≤ a1) = false := decide_eq_false c3
  clear c3
  obtain rfl := Option.some.inj H
  go_enter Try.func39, Try.ntmps39
  go_wp2_with (first | ((with_reducible refine Z7 (N := 2) rfl ?_); (try (refine Zcc (by rfl) ?_; dsimp only)); refine Z4 ?hg (N := 2) ?hd (cs := #[.slice A0_0 l0_0.length c0_0]) (t := 24) ?hr ?_; (case hd => rfl); (case hg => rfl); (case hr => first | (go_simp; done) | (go_simp; rfl)); intro gb388 hg w6 hbox hb; have n0_ := aM (Zj (by repeat (first | (with_reducible first | exact HB.out | apply wA | apply wN | apply wD) | exact HB.out)) hb); have n1_ := aM (hbox); have n2_ := aM ((by rw [hg]; exact (Zd (by repeat (first | (with_reducible first | exact HB.out | apply wA | apply wN | apply wD) | exact HB.out))) : w.heap.size ≤ gb388)); have n3_ := aM ((by rw [hg]; exact (Zd (by repeat (first | (with_reducible first | exact HB.out | apply wA | apply wN | apply wD) | exact HB.out))) : w.heap.size ≤ gb388)); clear HB; have HB := n0_; have BK388 := n1_; have GW388 := n2_; have GE388 := n3_; clear n0_ n1_ n2_ n3_; clear hb hbox hg))
  go_ret
  exact ⟨by first | rfl | (simp [Zy, Zx] <;> rfl) | (simp [*, Zy, Zx] <;> rfl), by repeat (first | (with_reducible first | exact HB.out | apply wA | apply wN | apply wD | refine Za ?_ GE388.out) | exact HB.out)⟩

end Go.Proofs.Ytnfbjdnflifcoaa.PDk

namespace Go.Proofs.Ytnfbjdnflifcoaa.PDk
open Go.RowKit Go.Proofs.YtnfbjdnflifcoaaW.PrintWords Go.Proofs.YtnfbjdnflifcoaaW.PrintLast Go.Proofs.YtnfbjdnflifcoaaW.PrintMore
attribute [local go_sem] Za0 Zay Zbe Zbd Zan Zam Zaz Zax
set_option linter.unusedVariables false
set_option linter.unusedSimpArgs false

def Yb.l0 : Nat → List Int → Int → Int → Option (Bool)
 | 0, _, _, _ => none
 | k + 1, x0, x1, x5 => if x5 < (x0.length : Int) then (if 0 ≤ x5 then (if (rd x0 x5) = x1 then (some true) else (Yb.l0 k x0 x1 (wrap64 (x5 + 1)))) else (none)) else (some false)
def Yb.f (k : Nat) (l0 : List Int) (a1 : Int) : Option (Bool) := Yb.l0 k l0 a1 0
theorem Yb.Zbk : ∀ k, (∀ y0 y1 y2, LeO (Yb.l0 k y0 y1 y2) (Yb.l0 (k + 1) y0 y1 y2))
 | 0 => fun _ _ _ r h => by simp [Yb.l0] at h
 | k + 1 => by
  have ih0 := Yb.Zbk k
  ·intro y0 y1 y2
   unfold Yb.l0
   repeat' first
   | (with_reducible exact ih0 _ _ _)
   | (with_reducible exact LeO.refl _)
   | (with_reducible exact LeO.none _)
   | (with_reducible refine LeO.ite ?_ ?_)
   | (with_reducible refine LeO.bind ?_ (fun _ => ?_))
   | exact ih0 _ _ _
   | exact LeO.none _
   | refine LeO.ite ?_ ?_
   | refine LeO.bind ?_ (fun _ => ?_)
theorem Yb.mono : ∀ a0 a1 k, LeO (Yb.f k a0 a1) (Yb.f (k + 1) a0 a1) := by
 intro a0 a1 k
 have ih0 := Yb.Zbk k
 unfold Yb.f
 repeat' first
   | (with_reducible exact ih0 _ _ _)
   | (with_reducible exact LeO.refl _)
   | (with_reducible exact LeO.none _)
   | (with_reducible refine LeO.ite ?_ ?_)
   | (with_reducible refine LeO.bind ?_ (fun _ => ?_))
   | exact ih0 _ _ _
   | exact LeO.none _
   | refine LeO.ite ?_ ?_
   | refine LeO.bind ?_ (fun _ => ?_)
set_option maxHeartbeats 8000000 in
set_option maxRecDepth 100000 in
theorem Yb.calls (k : Nat) (A0 : Option Addr) (c0 : Nat) (l0 : List Int) (a1 : Int) (r : Bool) (w : World) (hr0 : Kd.C (Kd.int .i64) w A0 l0.length l0) (hc0 : l0.length ≤ c0) (h : Yb.f k l0 a1 = some r) :
  Calls Try.prog 36 #[.slice A0 l0.length c0, .int .i64 a1] w fun e w' => e = .returned (.bool r) ∧ Zba w w' := by
 have HR0 := aM hr0
 have HC0 := aM hc0
 clear hr0 hc0
 have H : (Yb.l0 k l0 a1 0) = some r := h
 clear h
 have H' := aM H
 clear H
 go_enter Try.func36, Try.ntmps36
 go_wp2
 go_loopg [5] k (fun kq v5 w' => ∃ (x5_1 : Int), v5 = .int .i64 x5_1 ∧ Zq (Yb.l0 kq l0 a1 x5_1 = some r) ∧ Zq (kq ≤ k) ∧ Zba w w')
 case atStart => exact ⟨(0), (by first | rfl | (simp; done) | (simp [*]; done)), H', ⟨Nat.le_refl _⟩, by repeat (first | exact Zba.refl _ | apply Zba.step)⟩
 case round =>
  clear H'
  try clear p2
  obtain ⟨x5_1, rfl, HA, HK1, ⟨m1, rfl⟩⟩ := hrel
  cases gk with
  | zero => exact absurd HA.out (by simp [Yb.l0])
  | succ k1 =>
   have H := HA.out
   clear HA
   simp only [Yb.l0] at H
   by_cases c3 : x5_1 < (l0.length : Int)
   ·rw [if_pos c3] at H
    have c3b0 : decide (x5_1 < (l0.length : Int)) = true := decide_eq_true c3
    clear c3
    by_cases c4 : 0 ≤ x5_1
    ·rw [if_pos c4] at H
     have c4b0 : decide (0 ≤ x5_1) = true := decide_eq_true c4
     clear c4
     by_cases c5 : (rd l0 x5_1) = a1
     ·rw [if_pos c5] at H
      have c5b0 : ((rd l0 x5_1) == a1) = true := beq_iff_eq.mpr c5
      have c5b1 : ((rd l0 x5_1) != a1) = false := bne_eq_false_iff_eq.mpr c5
      clear c5
      obtain rfl := Option.some.inj H
      have p179 : 0 ≤ (x5_1 : Int) := of_decide_eq_true (by first | (with_reducible assumption) | assumption)
      have q179 : x5_1 < (l0.length : Int) := of_decide_eq_true (by first | (with_reducible assumption) | assumption)
      obtain ⟨ad179, e179, hx179_0⟩ := Kd.Zcz HR0.out x5_1 p179 q179
      cases e179
      replace p179 := eq_true p179
      replace q179 := eq_true q179
      go_wp2
      go_ret
      exact ⟨by first | rfl | (simp; done) | (simp [*]; done), by repeat (first | exact Zba.refl _ | apply Zba.step)⟩
     ·rw [if_neg c5] at H
      have c5b0 : ((rd l0 x5_1) == a1) = false := beq_eq_false_iff_ne.mpr c5
      have c5b1 : ((rd l0 x5_1) != a1) = true := bne_iff_ne.mpr c5
      have H' := aM H
      clear H
      have p179 : 0 ≤ (x5_1 : Int) := of_decide_eq_true (by first | (with_reducible assumption) | assumption)
      have q179 : x5_1 < (l0.length : Int) := of_decide_eq_true (by first | (with_reducible assumption) | assumption)
      obtain ⟨ad179, e179, hx179_0⟩ := Kd.Zcz HR0.out x5_1 p179 q179
      cases e179
      replace p179 := eq_true p179
      replace q179 := eq_true q179
      go_wp2
      go_roundg k1
      case measure => have := HK1.out; omega
      case rel => exact ⟨(wrap64 (x5_1 + 1)), (by first | rfl | (simp; done) | (simp [*]; done)), H', ⟨by have := HK1.out; omega⟩, by repeat (first | exact Zba.refl _ | apply Zba.step)⟩
    ·rw [if_neg c4] at H
     exact absurd H (by simp)
   ·rw [if_neg c3] at H
    have c3b0 : decide (x5_1 < (l0.length : Int)) = false := decide_eq_false c3
    clear c3
    obtain rfl := Option.some.inj H
    go_wp2
    go_ret
    exact ⟨by first | rfl | (simp; done) | (simp [*]; done), by repeat (first | exact Zba.refl _ | apply Zba.step)⟩

end Go.Proofs.Ytnfbjdnflifcoaa.PDk

namespace Go.Proofs.Ytnfbjdnflifcoaa.PDk
open Go.RowKit Go.Proofs.YtnfbjdnflifcoaaW.PrintWords Go.Proofs.YtnfbjdnflifcoaaW.PrintLast Go.Proofs.YtnfbjdnflifcoaaW.PrintMore
attribute [local go_sem] Za0 Zay Zbe Zbd Zan Zam Zaz Zax
set_option linter.unusedVariables false
set_option linter.unusedSimpArgs false

def Zr.l0 : Nat → Int → List Int → Int → Int → List Int → Option (List Int)
 | 0, _, _, _, _, _ => none
 | k + 1, x5, x6, x7, x181000, x181001 => if x7 < x5 then ((Yb.f k x181001 (wrap64 (Int.tdiv x7 16))).bind fun t185 => (if t185 = true then (if 0 ≤ x7 then (if x7 < (x6.length : Int) then (Zr.l0 k x5 (x6.set (x7 : Int).toNat 0) (wrap64 (x7 + 1)) x181000 x181001) else (none)) else (none)) else (Zr.l0 k x5 x6 (wrap64 (x7 + 1)) x181000 x181001))) else (some x6)
def Zr.f (k : Nat) (l0 : List Int) (a1_0 : Int) (l1_1 : List Int) : Option (List Int) := if 0 ≤ (mn (mx a1_0 0) (l0.length : Int)) then (if (mn (mx a1_0 0) (l0.length : Int)) ≤ (l0.length : Int) then (if ([] : List Int).length + (l0.take ((mn (mx a1_0 0) (l0.length : Int)) : Int).toNat).length < 140737488355328 then (Zr.l0 k (mn (mx a1_0 0) (l0.length : Int)) (([] : List Int) ++ (l0.take ((mn (mx a1_0 0) (l0.length : Int)) : Int).toNat)) 0 a1_0 l1_1) else (none)) else (none)) else (none)
theorem Zr.Zbk : ∀ k, (∀ y0 y1 y2 y3 y4, LeO (Zr.l0 k y0 y1 y2 y3 y4) (Zr.l0 (k + 1) y0 y1 y2 y3 y4))
 | 0 => fun _ _ _ _ _ r h => by simp [Zr.l0] at h
 | k + 1 => by
  have ih0 := Zr.Zbk k
  ·intro y0 y1 y2 y3 y4
   unfold Zr.l0
   repeat' first
   | (with_reducible exact ih0 _ _ _ _ _)
   | (with_reducible exact Yb.mono _ _ _)
   | (with_reducible exact LeO.refl _)
   | (with_reducible exact LeO.none _)
   | (with_reducible refine LeO.ite ?_ ?_)
   | (with_reducible refine LeO.bind ?_ (fun _ => ?_))
   | exact ih0 _ _ _ _ _
   | exact Yb.mono _ _ _
   | exact LeO.none _
   | refine LeO.ite ?_ ?_
   | refine LeO.bind ?_ (fun _ => ?_)
theorem Zr.mono : ∀ a0 a1 a2 k, LeO (Zr.f k a0 a1 a2) (Zr.f (k + 1) a0 a1 a2) := by
 intro a0 a1 a2 k
 have ih0 := Zr.Zbk k
 unfold Zr.f
 repeat' first
   | (with_reducible exact ih0 _ _ _ _ _)
   | (with_reducible exact Yb.mono _ _ _)
   | (with_reducible exact LeO.refl _)
   | (with_reducible exact LeO.none _)
   | (with_reducible refine LeO.ite ?_ ?_)
   | (with_reducible refine LeO.bind ?_ (fun _ => ?_))
   | exact ih0 _ _ _ _ _
   | exact Yb.mono _ _ _
   | exact LeO.none _
   | refine LeO.ite ?_ ?_
   | refine LeO.bind ?_ (fun _ => ?_)
set_option maxHeartbeats 8000000 in
set_option maxRecDepth 100000 in
theorem Zr.calls (k : Nat) (A0 : Option Addr) (c0 : Nat) (l0 : List Int) (a1_0 : Int) (A1_1 : Option Addr) (c1_1 : Nat) (l1_1 : List Int) (r : List Int) (w : World) (hr0 : Kd.C (Kd.int .u8) w A0 l0.length l0) (hc0 : l0.length ≤ c0) (hr1_1 : Kd.C (Kd.int .i64) w A1_1 l1_1.length l1_1) (hc1_1 : l1_1.length ≤ c1_1) (h : Zr.f k l0 a1_0 l1_1 = some r) :
  Calls Try.prog 26 #[.slice A0 l0.length c0, .agg #[.int .i64 a1_0, .slice A1_1 l1_1.length c1_1]] w fun e w' => ∃ v0_ : Value, e = .returned (v0_) ∧ Kd.R (Kd.int .u8) 5 w' w.heap.size (fun _ => True) v0_ r ∧ Below w.heap.size w w' := by
 have hu39 := Try.underlying39
 have HR0 := aM hr0
 have HC0 := aM hc0
 clear hr0 hc0
 have HR1_1 := aM hr1_1
 have HC1_1 := aM hc1_1
 clear hr1_1 hc1_1
 have HB := aM (Below.refl w.heap.size w)
 have H : (if 0 ≤ (mn (mx a1_0 0) (l0.length : Int)) then (if (mn (mx a1_0 0) (l0.length : Int)) ≤ (l0.length : Int) then (if ([] : List Int).length + (l0.take ((mn (mx a1_0 0) (l0.length : Int)) : Int).toNat).length < 140737488355328 then (Zr.l0 k (mn (mx a1_0 0) (l0.length : Int)) (([] : List Int) ++ (l0.take ((mn (mx a1_0 0) (l0.length : Int)) : Int).toNat)) 0 a1_0 l1_1) else (none)) else (none)) else (none)) = some r := h
 clear h
 obtain ⟨ji3, hji3⟩ : ∃ j_ : Int, (mx a1_0 0) = j_ := ⟨_, rfl⟩
 replace H : (if 0 ≤ (mn (ji3) (l0.length : Int)) then (if (mn (ji3) (l0.length : Int)) ≤ (l0.length : Int) then (if ([] : List Int).length + (l0.take ((mn (ji3) (l0.length : Int)) : Int).toNat).length < 140737488355328 then (Zr.l0 k (mn (ji3) (l0.length : Int)) (([] : List Int) ++ (l0.take ((mn (ji3) (l0.length : Int)) : Int).toNat)) 0 a1_0 l1_1) else (none)) else (none)) else (none)) = some r := by first | (rw [hji3] at H; exact H) | (simp only [hji3] at H ⊢; exact H)
 (try (have hji3l : 0 ≤ ji3 := by (rw [← hji3]; unfold mx; (repeat' split) <;> omega)))
 (try (have hji3m : 0 ≤ ji3 := by omega))
 have hji3_ : (if a1_0 < 0 then 0 else a1_0) = ji3 := hji3
 obtain ⟨ji4, hji4⟩ : ∃ j_ : Int, (mn (ji3) (l0.length : Int)) = j_ := ⟨_, rfl⟩
 replace H : (if 0 ≤ (ji4) then (if (ji4) ≤ (l0.length : Int) then (if ([] : List Int).length + (l0.take ((ji4) : Int).toNat).length < 140737488355328 then (Zr.l0 k ji4 (([] : List Int) ++ (l0.take ((ji4) : Int).toNat)) 0 a1_0 l1_1) else (none)) else (none)) else (none)) = some r := by first | (rw [hji4] at H; exact H) | (simp only [hji4] at H ⊢; exact H)
 have hji4_ : (if (l0.length : Int) < (ji3) then (l0.length : Int) else (ji3)) = ji4 := hji4
 by_cases c5 : 0 ≤ (ji4)
 ·rw [if_pos c5] at H
  have c5b0 := eq_true c5
  have c5b1 : decide (0 ≤ (ji4)) = true := decide_eq_true c5
  clear c5
  by_cases c6 : (ji4) ≤ (l0.length : Int)
  ·rw [if_pos c6] at H
   have c6b0 := eq_true c6
   have c6b1 : decide ((ji4) ≤ (l0.length : Int)) = true := decide_eq_true c6
   clear c6
   by_cases c7 : ([] : List Int).length + (l0.take ((ji4) : Int).toNat).length < 140737488355328
   ·rw [if_pos c7] at H
    have LMc7 := aM c7
    clear c7
    obtain ⟨y182, hy182⟩ : ∃ y_ : List Int, y_ = (([] : List Int) ++ (l0.take ((ji4) : Int).toNat)) := ⟨_, rfl⟩
    replace H : (Zr.l0 k ji4 y182 0 a1_0 l1_1) = some r := by first | (rw [hy182]; with_reducible exact H) | (have H2_ := (Option.bind_some _ _).symm.trans H; rw [hy182]; with_reducible exact H2_) | (have H2_ := (Option.bind_some _ _).symm.trans H; with_reducible exact H2_) | with_reducible exact H | (rw [hy182]; exact H) | exact H
    have Ny182 := aM hy182
    clear hy182
    have H' := aM H
    clear H
    go_enter Try.func26, Try.ntmps26
    go_wp2_with (first | ((with_reducible refine Z7 (N := 3) rfl ?_); refine Z4 ?hg (N := 3) ?hd (cs := #[.int .i64 a1_0, .slice A1_1 l1_1.length c1_1]) (t := 39) ?hr ?_; (case hd => rfl); (case hg => rfl); (case hr => first | (go_simp; done) | (go_simp; rfl)); intro gb180 hg w8 hbox hb; have n0_ := aM (Zj (by repeat (first | (with_reducible first | exact HB.out | apply wA | apply wN | apply wD) | exact HB.out)) hb); have n1_ := aM (hbox); have n2_ := aM ((by rw [hg]; exact (Zd (by repeat (first | (with_reducible first | exact HB.out | apply wA | apply wN | apply wD) | exact HB.out))) : w.heap.size ≤ gb180)); have n3_ := aM ((by rw [hg]; exact (Zd (by repeat (first | (with_reducible first | exact HB.out | apply wA | apply wN | apply wD) | exact HB.out))) : w.heap.size ≤ gb180)); clear HB; have HB := n0_; have BK180 := n1_; have GW180 := n2_; have GE180 := n3_; clear n0_ n1_ n2_ n3_; clear hb hbox hg; have hcz9_0 : w8.cell? ⟨gb180, 0, none⟩ = some (.int .i64 a1_0) := (Ze BK180.out 0).trans rfl; have hcz9_1 : w8.cell? ⟨gb180, 1, none⟩ = some (.slice A1_1 l1_1.length c1_1) := (Ze BK180.out 1).trans rfl; have hfz9_0 := Zg BK180.out 0; have hfz9_1 := Zg BK180.out 1; obtain ⟨i010, hi010, _, hsz10, _⟩ := info_parts info5; obtain ⟨hcut10, hA10, hC10⟩ := Zd0 (P := Try.prog) (Value.int .u8) 0 30 5 .i64 Try.underlying30 hi010 hsz10 A0 c0 l0 (ji4) (of_decide_eq_true (by first | (with_reducible assumption) | assumption)) (of_decide_eq_true (by first | (with_reducible assumption) | assumption)) HC0.out; have HR181 := aM (Kd.Zfq (h1 := fun _ => rfl) (hA10 _ (Kd.Zeb HR0.out))); have HC181 := aM hC10; clear hA10 hC10 hi010 hsz10) | ((with_reducible refine Zbt (b := .append) (xs := #[(.const (.slice none 0 0)), .tmp 16]) rfl ?_); at_builtin; refine Kd.Zbp (Kd.int .u8) (w0 := w) w.heap.size rfl (.const (.slice none 0 0)) (.tmp 16) 30 5 (.int .u8 0) 1 rfl Try.underlying30 info5 rfl (by decide) (by omega) (.slice none 0 0) ([] : List Int) (l0.take ((ji4) : Int).toNat) _ _ _ (fun _ => True) (fun _ => False) rfl rfl ?aO ?aR (fun _ _ h => h) (fun _ h => h.elim) ?aF ?aB ?aS ?aL ?_; (case aR => first | ((conv => (arg 5; rw [← show (l0.take ((ji4) : Int).toNat).length = (ji4).toNat from (by rw [Qd]; have h_ : ((ji4) : Int) ≤ (l0.length : Int) := of_decide_eq_true (by first | (with_reducible assumption) | assumption); omega)])); repeat (first | exact (Kd.Yv HR181.out HB.out) | (with_reducible refine Kd.Yh ?_ _) | (with_reducible refine Kd.Yg ?_ _) | (with_reducible refine Kd.Yw ?_))) | (rw [← show (l0.take ((ji4) : Int).toNat).length = (ji4).toNat from (by rw [Qd]; have h_ : ((ji4) : Int) ≤ (l0.length : Int) := of_decide_eq_true (by first | (with_reducible assumption) | assumption); omega)]; repeat (first | exact (Kd.Yv HR181.out HB.out) | (with_reducible refine Kd.Yh ?_ _) | (with_reducible refine Kd.Yg ?_ _) | (with_reducible refine Kd.Yw ?_))) | (repeat (first | exact (Kd.Yv HR181.out HB.out) | (with_reducible refine Kd.Yh ?_ _) | (with_reducible refine Kd.Yg ?_ _) | (with_reducible refine Kd.Yw ?_)))); (case aB => exact (by repeat (first | (with_reducible first | exact HB.out | apply wA | apply wN | apply wD | refine Za ?_ GE180.out) | exact HB.out))); (case aF => exact (fun _ _ => trivial)); (case aO => exact ((Kd.Zbx _ _ _ _ (fun _ => True)))); (case aS => exact (Zd (by repeat (first | (with_reducible first | exact HB.out | apply wA | apply wN | apply wD | refine Za ?_ GE180.out) | exact HB.out)))); (case aL => have := LMc7.out; have hlx_ := (show (l0.take ((ji4) : Int).toNat).length = (ji4).toNat from (by rw [Qd]; have h_ : ((ji4) : Int) ≤ (l0.length : Int) := of_decide_eq_true (by first | (with_reducible assumption) | assumption); omega)); omega); intro v183 w11 ho hb hg hat; rw [← Ny182.out] at ho; have n0_ := aM (Yc (g := gb180) (o := .cells #[.int .i64 a1_0, .slice A1_1 l1_1.length c1_1] 39 (0, 0)) (by (with_reducible repeat first | apply bN | apply bD | apply bA); exact BK180.out) hg (by simp [Value.ownBlock])); have n1_ := aM (hb); have n2_ := aM (ho); clear BK180 HB; have BK180 := n0_; have HB := n1_; have HO184 := n2_; clear n0_ n1_ n2_; clear ho hb hg hat))
    go_loopg [7] k (fun kq v7 w' => ∃ (x6_1 : List Int) (x7_1 : Int), v7 = .int .i64 x7_1 ∧ Zq (Zr.l0 kq ji4 x6_1 x7_1 a1_0 l1_1 = some r) ∧ Zq (kq ≤ k) ∧ Zq (Kd.R (Kd.int .u8) 5 w' w.heap.size (fun _ => True) v183 x6_1) ∧ Zq (w'.heap[gb180]? = some (.cells #[.int .i64 a1_0, (.slice A1_1 l1_1.length c1_1)] 39 (0, 0))) ∧ Zq (Below w.heap.size w w'))
    case atStart => exact ⟨(y182), (0), (by first | rfl | (simp; done) | (simp [*]; done)), H', ⟨Nat.le_refl _⟩, ⟨by (with_reducible repeat first | apply Kd.Zab | apply Kd.Yu | apply Kd.Zai); exact HO184.out⟩, ⟨by (with_reducible repeat first | apply bN | apply bD | apply bA); exact BK180.out⟩, ⟨by repeat (first | (with_reducible first | exact HB.out | apply wA | apply wN | apply wD | refine Za ?_ GE180.out) | exact HB.out)⟩⟩
    case round =>
     clear H'
     try clear c1
     try clear c2
     try clear p2
     try clear c5
     try clear c5b0
     try clear c5b1
     try clear c6
     try clear c6b0
     try clear c6b1
     try clear c7
     try clear hcz9_0
     try clear hcz9_1
     try clear hfz9_0
     try clear hfz9_1
     obtain ⟨x6_1, x7_1, rfl, HA, HK1, HO_6, BK180, HB⟩ := hrel
     cases gk with
     | zero => exact absurd HA.out (by simp [Zr.l0])
     | succ k1 =>
      have H := HA.out
      clear HA
      simp only [Zr.l0] at H
      by_cases c12 : x7_1 < ji4
      ·rw [if_pos c12] at H
       have c12b0 : decide (x7_1 < ji4) = true := decide_eq_true c12
       clear c12
       replace H := Option.bind_eq_some_iff.mp H
       obtain ⟨t185, A130, H⟩ := H
       replace H : (if t185 = true then (if 0 ≤ x7_1 then (if x7_1 < (x6_1.length : Int) then (Zr.l0 k1 ji4 (x6_1.set (x7_1 : Int).toNat 0) (wrap64 (x7_1 + 1)) a1_0 l1_1) else (none)) else (none)) else (Zr.l0 k1 ji4 x6_1 (wrap64 (x7_1 + 1)) a1_0 l1_1)) = some r := H
       have A13 := aM A130
       clear A130
       by_cases c14 : t185 = true
       ·subst c14
        have H1 : (if 0 ≤ x7_1 then (if x7_1 < (x6_1.length : Int) then (Zr.l0 k1 ji4 (x6_1.set (x7_1 : Int).toNat 0) (wrap64 (x7_1 + 1)) a1_0 l1_1) else (none)) else (none)) = some r := by rw [if_pos rfl] at H; exact H
        clear H
        have H := H1
        clear H1
        by_cases c15 : 0 ≤ x7_1
        ·rw [if_pos c15] at H
         have c15b0 : decide (0 ≤ x7_1) = true := decide_eq_true c15
         clear c15
         by_cases c16 : x7_1 < (x6_1.length : Int)
         ·rw [if_pos c16] at H
          have c16b0 : decide (x7_1 < (x6_1.length : Int)) = true := decide_eq_true c16
          clear c16
          obtain ⟨y186, hy186⟩ : ∃ y_ : List Int, y_ = (x6_1.set (x7_1 : Int).toNat 0) := ⟨_, rfl⟩
          replace H : (Zr.l0 k1 ji4 y186 (wrap64 (x7_1 + 1)) a1_0 l1_1) = some r := by first | (rw [hy186]; with_reducible exact H) | (have H2_ := (Option.bind_some _ _).symm.trans H; rw [hy186]; with_reducible exact H2_) | (have H2_ := (Option.bind_some _ _).symm.trans H; with_reducible exact H2_) | with_reducible exact H | (rw [hy186]; exact H) | exact H
          have Ny186 := aM hy186
          clear hy186
          have H' := aM H
          clear H
          have hcz18_0 : wr.cell? ⟨gb180, 0, none⟩ = some (.int .i64 a1_0) := (Ze BK180.out 0).trans rfl
          have hcz18_1 : wr.cell? ⟨gb180, 1, none⟩ = some (.slice A1_1 l1_1.length c1_1) := (Ze BK180.out 1).trans rfl
          have hfz18_0 := Zg BK180.out 0
          have hfz18_1 := Zg BK180.out 1
          go_wp2_with (first | ((with_reducible refine Yf (f := 36) rfl ?_); refine Zap (some 27) rfl rfl Try.func36 (by kernel_rfl) rfl #[.slice A1_1 l1_1.length c1_1, .int .i64 (wrap64 (Int.tdiv x7_1 16))] rfl (by (try simp only [Qi, Qj, Qk]); first | done | rfl | (simp only [Qe, Qd]; rfl)) ?_; (with_reducible refine (Yb.calls k1 _ _ l1_1 (wrap64 (Int.tdiv x7_1 16)) true _ ?side1 ?side2 A13.out).mono ?_); (case side1 => repeat (first | exact (Kd.Yv HR1_1.out HB.out) | (with_reducible refine Kd.Yh ?_ _) | (with_reducible refine Kd.Yg ?_ _) | (with_reducible refine Kd.Yw ?_))); (case side2 => exact HC1_1.out); rintro e w' ⟨rfl, ⟨nd, rfl⟩⟩; refine ⟨_, rfl, ?_⟩; (try (rw [Zdk wr]; generalize hq_ : World.drewN wr _ = wr; have n0_ : Zq (Kd.R (Kd.int .u8) 5 wr w.heap.size (fun _ => True) v183 x6_1) := ⟨by rw [← hq_]; exact (by (with_reducible repeat first | apply Kd.Zab | apply Kd.Yu | apply Kd.Zai); exact HO_6.out)⟩; have n1_ : Zq (wr.heap[gb180]? = some (.cells #[.int .i64 a1_0, .slice A1_1 l1_1.length c1_1] 39 (0, 0))) := ⟨by rw [← hq_]; exact (by (with_reducible repeat first | apply bN | apply bD | apply bA); exact BK180.out)⟩; have n2_ : Zq (Below w.heap.size w wr) := ⟨by rw [← hq_]; exact (by repeat (first | (with_reducible first | exact HB.out | apply wA | apply wN | apply wD | refine Za ?_ GE180.out) | exact HB.out))⟩; clear HO_6 BK180 HB hq_; have HO_6 := n0_; have BK180 := n1_; have HB := n2_; clear n0_ n1_ n2_)); have p17 : 0 ≤ (x7_1 : Int) := of_decide_eq_true (by first | (with_reducible assumption) | assumption); have q17 : (x7_1 : Int) < ((x6_1.length : Int) : Int) := of_decide_eq_true (by first | (with_reducible assumption) | assumption); obtain ⟨go17, co17, eo17, gb17, gl17, cl17, HG17⟩ := Kd.Zfo HO_6.out (by omega); (first | cases eo17 | (injection eo17 with ea_ en_ ec_; (first | subst ea_ | (injection ea_ with ea_; subst ea_)); subst ec_; clear en_)); have GB17 := aM gb17; have GG17 := aM HG17; clear gb17 gl17 HG17; obtain ⟨hx17_0, hf17_0⟩ := Kd.Zdv 0 HO_6.out (x7_1 : Int) p17 q17; replace p17 := eq_true p17; replace q17 := eq_true q17; obtain ⟨hy19_, hz19_⟩ := Kd.Zdv 0 HO_6.out (x7_1 : Int) (of_decide_eq_true (by first | (with_reducible assumption) | assumption)) (of_decide_eq_true (by first | (with_reducible assumption) | assumption)); have HP19 := Kd.R_putg HO_6.out (x7_1 : Int) 0) | ((with_reducible refine Zbm (t := 5) (p := 30) rfl ?_); refine Zbh (t := 5) (p := 30) (v := ?vo_w20) (w1 := (wr.setCell ⟨go17, (x7_1 : Int).toNat, none⟩ (.int .u8 0))) ?hg ?ho ?hn ?hr ?_; (case ho => rfl); (case hg => rfl); (case hn => rfl); (case hr => first | (go_simp; done) | (go_simp; rfl)); intro w20 hw; have hg : wr.grownBy w20 (some go17) := (by rw [hw]; exact HP19.2); have hp_ : Kd.R (Kd.int .u8) 5 w20 w.heap.size (fun _ => True) (.slice (some ⟨go17, 0, none⟩) x6_1.length co17) y186 := (by rw [hw, Ny186.out]; exact HP19.1); clear HP19; have n0_ := aM (hp_); have n1_ := aM (Yc (g := gb180) (o := .cells #[.int .i64 a1_0, .slice A1_1 l1_1.length c1_1] 39 (0, 0)) (by (with_reducible repeat first | apply bN | apply bD | apply bA); exact BK180.out) hg (Kd.R_ne HO_6.out BK180.out (by decide))); have n2_ := aM ((by rw [hw]; exact Za (HB.out) GB17.out : Below w.heap.size w w20)); clear HO_6 BK180 HB; have HO_6 := n0_; have BK180 := n1_; have HB := n2_; clear n0_ n1_ n2_; clear hg hw hp_))
          go_roundg k1
          case measure => have := HK1.out; omega
          case rel => exact ⟨(y186), (wrap64 (x7_1 + 1)), (by first | rfl | (simp; done) | (simp [*]; done)), H', ⟨by have := HK1.out; omega⟩, ⟨by (with_reducible repeat first | apply Kd.Zab | apply Kd.Yu | apply Kd.Zai); exact HO_6.out⟩, ⟨by (with_reducible repeat first | apply bN | apply bD | apply bA); exact BK180.out⟩, ⟨by repeat (first | (with_reducible first | exact HB.out | apply wA | apply wN | apply wD | refine Za ?_ GE180.out) | exact HB.out)⟩⟩
         ·rw [if_neg c16] at H
          exact absurd H (by simp)
        ·rw [if_neg c15] at H
         exact absurd H (by simp)
       ·replace c14 := Bool.eq_false_iff.mpr c14
        subst c14
        have H1 : (Zr.l0 k1 ji4 x6_1 (wrap64 (x7_1 + 1)) a1_0 l1_1) = some r := by rw [if_neg (show ¬ (false = true) by decide)] at H; exact H
        clear H
        have H := H1
        clear H1
        have H' := aM H
        clear H
        have hcz21_0 : wr.cell? ⟨gb180, 0, none⟩ = some (.int .i64 a1_0) := (Ze BK180.out 0).trans rfl
        have hcz21_1 : wr.cell? ⟨gb180, 1, none⟩ = some (.slice A1_1 l1_1.length c1_1) := (Ze BK180.out 1).trans rfl
        have hfz21_0 := Zg BK180.out 0
        have hfz21_1 := Zg BK180.out 1
        go_wp2_with (first | ((with_reducible refine Yf (f := 36) rfl ?_); refine Zap (some 27) rfl rfl Try.func36 (by kernel_rfl) rfl #[.slice A1_1 l1_1.length c1_1, .int .i64 (wrap64 (Int.tdiv x7_1 16))] rfl (by (try simp only [Qi, Qj, Qk]); first | done | rfl | (simp only [Qe, Qd]; rfl)) ?_; (with_reducible refine (Yb.calls k1 _ _ l1_1 (wrap64 (Int.tdiv x7_1 16)) false _ ?side1 ?side2 A13.out).mono ?_); (case side1 => repeat (first | exact (Kd.Yv HR1_1.out HB.out) | (with_reducible refine Kd.Yh ?_ _) | (with_reducible refine Kd.Yg ?_ _) | (with_reducible refine Kd.Yw ?_))); (case side2 => exact HC1_1.out); rintro e w' ⟨rfl, ⟨nd, rfl⟩⟩; refine ⟨_, rfl, ?_⟩))
        go_roundg k1
        case measure => have := HK1.out; omega
        case rel => exact ⟨(x6_1), (wrap64 (x7_1 + 1)), (by first | rfl | (simp; done) | (simp [*]; done)), H', ⟨by have := HK1.out; omega⟩, ⟨by (with_reducible repeat first | apply Kd.Zab | apply Kd.Yu | apply Kd.Zai); exact HO_6.out⟩, ⟨by (with_reducible repeat first | apply bN | apply bD | apply bA); exact BK180.out⟩, ⟨by repeat (first | (with_reducible first | exact HB.out | apply wA | apply wN | apply wD | refine Za ?_ GE180.out) | exact HB.out)⟩⟩
      ·rw [if_neg c12] at H
       have c12b0 : decide (x7_1 < ji4) = false := decide_eq_false c12
       clear c12
       obtain rfl := Option.some.inj H
       go_wp2
       go_ret
       exact ⟨_, by first | rfl | (simp [Zy, Zx] <;> rfl) | (simp only [← hji3, ← hji4]; first | rfl | (simp [Zy, Zx] <;> rfl)) | (simp [*, Zy, Zx] <;> rfl), by (with_reducible repeat first | apply Kd.Zab | apply Kd.Yu | apply Kd.Zai); exact HO_6.out, by repeat (first | (with_reducible first | exact HB.out | apply wA | apply wN | apply wD | refine Za ?_ GE180.out) | exact HB.out)⟩
   ·rw [if_neg c7] at H
    exact absurd H (by simp)
  ·rw [if_neg c6] at H
   exact absurd H (by simp)
 ·rw [if_neg c5] at H
  exact absurd H (by simp)

end Go.Proofs.Ytnfbjdnflifcoaa.PDk

namespace Go.Proofs.Ytnfbjdnflifcoaa.PDk
open Go.RowKit Go.Proofs.YtnfbjdnflifcoaaW.PrintWords Go.Proofs.YtnfbjdnflifcoaaW.PrintLast Go.Proofs.YtnfbjdnflifcoaaW.PrintMore
attribute [local go_sem] Za0 Zay Zbe Zbd Zan Zam Zaz Zax
set_option linter.unusedVariables false
set_option linter.unusedSimpArgs false

def Zm.l0 : Nat → List (S39) → Int → List (S48) → List (S48) → Option ((List (S48)))
 | 0, _, _, _, _ => none
 | k + 1, x1, x6, x188000, x190000 => if x6 < (x188000.length : Int) then (if x6 < (x1.length : Int) then (if 0 ≤ x6 then (if ([] : List Int).length + ((Zo x188000 x6).f0).length < 140737488355328 then ((some (([] : List Int) ++ ((Zo x188000 x6).f0) : List Int)).bind fun y194 => ((Zr.f k ((Zo x188000 x6).f1) ((Za3 x1 x6).f0) ((Za3 x1 x6).f1)).bind fun t197 => (if y194.length + t197.length < 140737488355328 then (if x190000.length < 2932031007402 then (Zm.l0 k x1 (wrap64 (x6 + 1)) x188000 (x190000 ++ [(⟨(y194 ++ t197), ([] : List Int)⟩ : S48)])) else (none)) else (none)))) else (none)) else (none)) else (if 0 ≤ x6 then (if ([] : List Int).length + ((Zo x188000 x6).f0).length < 140737488355328 then ((some (([] : List Int) ++ ((Zo x188000 x6).f0) : List Int)).bind fun y208 => ((Zr.f k ((Zo x188000 x6).f1) 0 ([] : List Int)).bind fun t211 => (if y208.length + t211.length < 140737488355328 then (if x190000.length < 2932031007402 then (Zm.l0 k x1 (wrap64 (x6 + 1)) x188000 (x190000 ++ [(⟨(y208 ++ t211), ([] : List Int)⟩ : S48)])) else (none)) else (none)))) else (none)) else (none))) else (some x190000)
def Zm.f (k : Nat) (l0_0 : List (S48)) (l1 : List (S39)) : Option ((List (S48))) := Zm.l0 k l1 0 l0_0 ([] : List (S48))
theorem Zm.Zbk : ∀ k, (∀ y0 y1 y2 y3, LeO (Zm.l0 k y0 y1 y2 y3) (Zm.l0 (k + 1) y0 y1 y2 y3))
 | 0 => fun _ _ _ _ r h => by simp [Zm.l0] at h
 | k + 1 => by
  have ih0 := Zm.Zbk k
  ·intro y0 y1 y2 y3
   unfold Zm.l0
   repeat' first
   | (with_reducible exact ih0 _ _ _ _)
   | (with_reducible exact Zr.mono _ _ _ _)
   | (with_reducible exact LeO.refl _)
   | (with_reducible exact LeO.none _)
   | (with_reducible refine LeO.ite ?_ ?_)
   | (with_reducible refine LeO.bind ?_ (fun _ => ?_))
   | exact ih0 _ _ _ _
   | exact Zr.mono _ _ _ _
   | exact LeO.none _
   | refine LeO.ite ?_ ?_
   | refine LeO.bind ?_ (fun _ => ?_)
theorem Zm.mono : ∀ a0 a1 k, LeO (Zm.f k a0 a1) (Zm.f (k + 1) a0 a1) := by
 intro a0 a1 k
 have ih0 := Zm.Zbk k
 unfold Zm.f
 repeat' first
   | (with_reducible exact ih0 _ _ _ _)
   | (with_reducible exact Zr.mono _ _ _ _)
   | (with_reducible exact LeO.refl _)
   | (with_reducible exact LeO.none _)
   | (with_reducible refine LeO.ite ?_ ?_)
   | (with_reducible refine LeO.bind ?_ (fun _ => ?_))
   | exact ih0 _ _ _ _
   | exact Zr.mono _ _ _ _
   | exact LeO.none _
   | refine LeO.ite ?_ ?_
   | refine LeO.bind ?_ (fun _ => ?_)
def Zm.T9 : Bool × List (List Nat × List Nat) := (true, [([], []), ([0], [0]), ([], []), ([2], [2]), ([3], [3]), ([], []), ([5], [5]), ([], []), ([6, 7, 4], [6, 7]), ([4, 8, 8], [4, 8]), ([9], [9]), ([10], [10]), ([1, 11, 9], [1, 11]), ([0, 1, 2, 3, 4, 5, 6, 7, 8, 9, 10, 11, 12], []), ([13, 12, 12, 0, 1, 2, 3, 4, 5, 6, 7, 8, 9, 10, 11, 12], [12, 13])])
def Zm.B9 : List Nat := [0, 1, 0, 4, 12, 0, 32, 0, 252, 508, 1020, 2044, 4095, 8191, 16383]
theorem Zm.tab9 : rtab .any (opsOf Try.f12 9) = Zm.T9 := by kernel_rfl
theorem Zm.bits9 : Zcd Zm.T9.2 Zm.B9 = true := by kernel_rfl
set_option maxHeartbeats 8000000 in
set_option maxRecDepth 100000 in
theorem Zm.calls (k : Nat) (A0_0 : Option Addr) (c0_0 : Nat) (l0_0 : List (S48)) (A1 : Option Addr) (c1 : Nat) (l1 : List (S39)) (r : List (S48)) (w : World) (hr0_0 : Kd.C k48 w A0_0 l0_0.length l0_0) (hc0_0 : l0_0.length ≤ c0_0) (hr1 : Kd.C k39 w A1 l1.length l1) (hc1 : l1.length ≤ c1) (h : Zm.f k l0_0 l1 = some r) :
  Calls Try.prog 12 #[.agg #[.slice A0_0 l0_0.length c0_0], .slice A1 l1.length c1] w fun e w' => ∃ v0_ : Value, e = .returned (.agg #[v0_]) ∧ Kd.S k48 48 w' w.heap.size (fun _ => True) v0_ r ∧ Below w.heap.size w w' := by
 have hu24 := Try.underlying24
 have hu39 := Try.underlying39
 have hu48 := Try.underlying48
 have HR0_0 := aM hr0_0
 have HC0_0 := aM hc0_0
 clear hr0_0 hc0_0
 have HR1 := aM hr1
 have HC1 := aM hc1
 clear hr1 hc1
 have HB := aM (Below.refl w.heap.size w)
 have H : (Zm.l0 k l1 0 l0_0 ([] : List (S48))) = some r := h
 clear h
 have H' := aM H
 clear H
 go_enter Try.func12, Try.ntmps12
 go_wp2_with (first | ((with_reducible refine Z7 (N := 2) rfl ?_); refine Z4 ?hg (N := 2) ?hd (cs := #[.slice A0_0 l0_0.length c0_0]) (t := 24) ?hr ?_; (case hd => rfl); (case hg => rfl); (case hr => first | (go_simp; done) | (go_simp; rfl)); intro gb187 hg w3 hbox hb; have n0_ := aM (Zj (by repeat (first | (with_reducible first | exact HB.out | apply wA | apply wN | apply wD) | exact HB.out)) hb); have n1_ := aM (hbox); have n2_ := aM ((by rw [hg]; exact (Zd (by repeat (first | (with_reducible first | exact HB.out | apply wA | apply wN | apply wD) | exact HB.out))) : w.heap.size ≤ gb187)); have n3_ := aM ((by rw [hg]; exact (Zd (by repeat (first | (with_reducible first | exact HB.out | apply wA | apply wN | apply wD) | exact HB.out))) : w.heap.size ≤ gb187)); clear HB; have HB := n0_; have BK187 := n1_; have GW187 := n2_; have GE187 := n3_; clear n0_ n1_ n2_ n3_; clear hb hbox hg) | ((with_reducible refine Z7 (N := 4) rfl ?_); refine Z4 ?hg (N := 4) ?hd (cs := #[.slice none 0 0]) (t := 24) ?hr ?_; (case hd => rfl); (case hg => rfl); (case hr => first | (go_simp; done) | (go_simp; rfl)); intro gb188 hg w4 hbox hb; have n0_ := aM (Zf (g := gb187) (o := .cells #[.slice A0_0 l0_0.length c0_0] 24 (0, 0)) (by (with_reducible repeat first | apply bN | apply bD | apply bA); exact BK187.out) hb); have n1_ := aM (Zj (by repeat (first | (with_reducible first | exact HB.out | apply wA | apply wN | apply wD | refine Za ?_ GE187.out) | exact HB.out)) hb); have n2_ := aM (hbox); have n3_ := aM ((by rw [hg]; exact (Zd (by repeat (first | (with_reducible first | exact HB.out | apply wA | apply wN | apply wD | refine Za ?_ GE187.out) | exact HB.out))) : w.heap.size ≤ gb188)); have n4_ := aM ((by rw [hg]; exact (Zd (by repeat (first | (with_reducible first | exact HB.out | apply wA | apply wN | apply wD | refine Za ?_ GE187.out) | exact HB.out))) : w.heap.size ≤ gb188)); have n5_ := aM ((by rw [hg]; exact Nat.ne_of_lt (Ya (g := gb187) (o := .cells #[.slice A0_0 l0_0.length c0_0] 24 (0, 0)) (by (with_reducible repeat first | apply bN | apply bD | apply bA); exact BK187.out)) : gb187 ≠ gb188)); have n6_ := aM ((by rw [hg]; exact Nat.ne_of_gt (Ya (g := gb187) (o := .cells #[.slice A0_0 l0_0.length c0_0] 24 (0, 0)) (by (with_reducible repeat first | apply bN | apply bD | apply bA); exact BK187.out)) : gb188 ≠ gb187)); clear BK187 HB; have BK187 := n0_; have HB := n1_; have BK188 := n2_; have GW188 := n3_; have GE188 := n4_; have NB187_188 := n5_; have NB188_187 := n6_; clear n0_ n1_ n2_ n3_ n4_ n5_ n6_; clear hb hbox hg) | ((with_reducible refine Z7 (N := 5) rfl ?_); refine Z4 ?hg (N := 5) ?hd (cs := #[.slice none 0 0]) (t := 24) ?hr ?_; (case hd => rfl); (case hg => rfl); (case hr => first | (go_simp; done) | (go_simp; rfl)); intro gb189 hg w5 hbox hb; have n0_ := aM (Zf (g := gb187) (o := .cells #[.slice A0_0 l0_0.length c0_0] 24 (0, 0)) (by (with_reducible repeat first | apply bN | apply bD | apply bA); exact BK187.out) hb); have n1_ := aM (Zf (g := gb188) (o := .cells #[.slice none 0 0] 24 (0, 0)) (by (with_reducible repeat first | apply bN | apply bD | apply bA); exact BK188.out) hb); have n2_ := aM (Zj (by repeat (first | (with_reducible first | exact HB.out | apply wA | apply wN | apply wD | refine Za ?_ GE187.out | refine Za ?_ GE188.out) | exact HB.out)) hb); have n3_ := aM (hbox); have n4_ := aM ((by rw [hg]; exact (Zd (by repeat (first | (with_reducible first | exact HB.out | apply wA | apply wN | apply wD | refine Za ?_ GE187.out | refine Za ?_ GE188.out) | exact HB.out))) : w.heap.size ≤ gb189)); have n5_ := aM ((by rw [hg]; exact (Zd (by repeat (first | (with_reducible first | exact HB.out | apply wA | apply wN | apply wD | refine Za ?_ GE187.out | refine Za ?_ GE188.out) | exact HB.out))) : w.heap.size ≤ gb189)); have n6_ := aM ((by rw [hg]; exact Nat.ne_of_lt (Ya (g := gb187) (o := .cells #[.slice A0_0 l0_0.length c0_0] 24 (0, 0)) (by (with_reducible repeat first | apply bN | apply bD | apply bA); exact BK187.out)) : gb187 ≠ gb189)); have n7_ := aM ((by rw [hg]; exact Nat.ne_of_gt (Ya (g := gb187) (o := .cells #[.slice A0_0 l0_0.length c0_0] 24 (0, 0)) (by (with_reducible repeat first | apply bN | apply bD | apply bA); exact BK187.out)) : gb189 ≠ gb187)); have n8_ := aM ((by rw [hg]; exact Nat.ne_of_lt (Ya (g := gb188) (o := .cells #[.slice none 0 0] 24 (0, 0)) (by (with_reducible repeat first | apply bN | apply bD | apply bA); exact BK188.out)) : gb188 ≠ gb189)); have n9_ := aM ((by rw [hg]; exact Nat.ne_of_gt (Ya (g := gb188) (o := .cells #[.slice none 0 0] 24 (0, 0)) (by (with_reducible repeat first | apply bN | apply bD | apply bA); exact BK188.out)) : gb189 ≠ gb188)); clear BK187 BK188 HB; have BK187 := n0_; have BK188 := n1_; have HB := n2_; have BK189 := n3_; have GW189 := n4_; have GE189 := n5_; have NB187_189 := n6_; have NB189_187 := n7_; have NB188_189 := n8_; have NB189_188 := n9_; clear n0_ n1_ n2_ n3_ n4_ n5_ n6_ n7_ n8_ n9_; clear hb hbox hg))
 go_loopg [6] k (fun kq v6 w' => ∃ (x6_1 : Int) (x190000_1 : List (S48)) (u190000 : Value), v6 = .int .i64 x6_1 ∧ Zq (Zm.l0 kq l1 x6_1 l0_0 x190000_1 = some r) ∧ Zq (kq ≤ k) ∧ Zq (Kd.S k48 48 w' w.heap.size (fun _ => True) u190000 x190000_1) ∧ Zq (w'.heap[gb187]? = some (.cells #[(.slice A0_0 l0_0.length c0_0)] 24 (0, 0))) ∧ Zq (w'.heap[gb188]? = some (.cells #[(.slice none 0 0)] 24 (0, 0))) ∧ Zq (w'.heap[gb189]? = some (.cells #[u190000] 24 (0, 0))) ∧ Zq (Below w.heap.size w w'))
 case atStart => exact ⟨(0), (([] : List (S48))), (.slice none 0 0), (by first | rfl | (simp; done) | (simp [*]; done)), H', ⟨Nat.le_refl _⟩, ⟨by first | exact Kd.Zc0 _ _ _ _ _ | exact Kd.Zcw _ _ _ _ _ | exact Kd.Zcr _ _ _ _ _ | exact Kd.Zc1 _ _ _ _ _ | exact Kd.Zbx _ _ _ _ _⟩, ⟨by (with_reducible repeat first | apply bN | apply bD | apply bA); exact BK187.out⟩, ⟨by (with_reducible repeat first | apply bN | apply bD | apply bA); exact BK188.out⟩, ⟨by (with_reducible repeat first | apply bN | apply bD | apply bA); exact BK189.out⟩, ⟨by repeat (first | (with_reducible first | exact HB.out | apply wA | apply wN | apply wD | refine Za ?_ GE187.out | refine Za ?_ GE188.out | refine Za ?_ GE189.out) | exact HB.out)⟩⟩
 case round =>
  clear H'
  try clear c1
  try clear p2
  obtain ⟨x6_1, x190000_1, u190000, rfl, HA, HK1, J190, BK187, BK188, BK189, HB⟩ := hrel
  cases gk with
  | zero => exact absurd HA.out (by simp [Zm.l0])
  | succ k1 =>
   have H := HA.out
   clear HA
   simp only [Zm.l0] at H
   by_cases c6 : x6_1 < (l0_0.length : Int)
   ·rw [if_pos c6] at H
    have c6b0 : decide (x6_1 < (l0_0.length : Int)) = true := decide_eq_true c6
    clear c6
    by_cases c7 : x6_1 < (l1.length : Int)
    ·rw [if_pos c7] at H
     have c7b0 : decide (x6_1 < (l1.length : Int)) = true := decide_eq_true c7
     clear c7
     by_cases c8 : 0 ≤ x6_1
     ·rw [if_pos c8] at H
      have c8b0 : decide (0 ≤ x6_1) = true := decide_eq_true c8
      clear c8
      by_cases c9 : ([] : List Int).length + ((Zo l0_0 x6_1).f0).length < 140737488355328
      ·rw [if_pos c9] at H
       have LMc9 := aM c9
       clear c9
       obtain ⟨y194, hy194⟩ : ∃ y_ : List Int, y_ = (([] : List Int) ++ ((Zo l0_0 x6_1).f0)) := ⟨_, rfl⟩
       replace H : ((Zr.f k1 ((Zo l0_0 x6_1).f1) ((Za3 l1 x6_1).f0) ((Za3 l1 x6_1).f1)).bind fun t197 => (if y194.length + t197.length < 140737488355328 then (if x190000_1.length < 2932031007402 then (Zm.l0 k1 l1 (wrap64 (x6_1 + 1)) l0_0 (x190000_1 ++ [(⟨(y194 ++ t197), ([] : List Int)⟩ : S48)])) else (none)) else (none))) = some r := by first | (rw [hy194]; with_reducible exact H) | (have H2_ := (Option.bind_some _ _).symm.trans H; rw [hy194]; with_reducible exact H2_) | (have H2_ := (Option.bind_some _ _).symm.trans H; with_reducible exact H2_) | with_reducible exact H | (rw [hy194]; exact H) | exact H
       have Ny194 := aM hy194
       clear hy194
       replace H := Option.bind_eq_some_iff.mp H
       obtain ⟨t197, A100, H⟩ := H
       replace H : (if y194.length + t197.length < 140737488355328 then (if x190000_1.length < 2932031007402 then (Zm.l0 k1 l1 (wrap64 (x6_1 + 1)) l0_0 (x190000_1 ++ [(⟨(y194 ++ t197), ([] : List Int)⟩ : S48)])) else (none)) else (none)) = some r := H
       have A10 := aM A100
       clear A100
       by_cases c11 : y194.length + t197.length < 140737488355328
       ·rw [if_pos c11] at H
        have LMc11 := aM c11
        clear c11
        obtain ⟨y200, hy200⟩ : ∃ y_ : List Int, y_ = (y194 ++ t197) := ⟨_, rfl⟩
        replace H : (if x190000_1.length < 2932031007402 then (Zm.l0 k1 l1 (wrap64 (x6_1 + 1)) l0_0 (x190000_1 ++ [(⟨y200, ([] : List Int)⟩ : S48)])) else (none)) = some r := by first | (rw [hy200]; with_reducible exact H) | (have H2_ := (Option.bind_some _ _).symm.trans H; rw [hy200]; with_reducible exact H2_) | (have H2_ := (Option.bind_some _ _).symm.trans H; with_reducible exact H2_) | with_reducible exact H | (rw [hy200]; exact H) | exact H
        have Ny200 := aM hy200
        clear hy200
        by_cases c12 : x190000_1.length < 2932031007402
        ·rw [if_pos c12] at H
         have LMc12 := aM c12
         clear c12
         obtain ⟨y203, hy203⟩ : ∃ y_ : List (S48), y_ = (x190000_1 ++ [(⟨y200, ([] : List Int)⟩ : S48)]) := ⟨_, rfl⟩
         replace H : (Zm.l0 k1 l1 (wrap64 (x6_1 + 1)) l0_0 y203) = some r := by first | (rw [hy203]; with_reducible exact H) | (have H2_ := (Option.bind_some _ _).symm.trans H; rw [hy203]; with_reducible exact H2_) | (have H2_ := (Option.bind_some _ _).symm.trans H; with_reducible exact H2_) | with_reducible exact H | (rw [hy203]; exact H) | exact H
         have Ny203 := aM hy203
         clear hy203
         have H' := aM H
         clear H
         have hnb13 := NB187_188.out
         have hnc13 := NB188_187.out
         have hnb14 := NB187_189.out
         have hnc14 := NB189_187.out
         have hcz15_0 : wr.cell? ⟨gb187, 0, none⟩ = some (.slice A0_0 l0_0.length c0_0) := (Ze BK187.out 0).trans rfl
         have hfz15_0 := Zg BK187.out 0
         try go_wp2_with (first | ((with_reducible refine Z7 (N := 7) rfl ?_); refine Z4 ?hg (N := 7) ?hd (cs := #[.int .i64 0, .slice none 0 0]) (t := 39) ?hr ?_; (case hd => rfl); (case hg => rfl); (case hr => first | (go_simp; done) | (go_simp; rfl)); intro gb190 hg w16 hbox hb; have n0_ := aM (Kd.Zct (by (with_reducible repeat first | apply Kd.Zao | apply Kd.Zal | apply Kd.Zaw); exact J190.out) hb); have n1_ := aM (Zf (g := gb187) (o := .cells #[.slice A0_0 l0_0.length c0_0] 24 (0, 0)) (by (with_reducible repeat first | apply bN | apply bD | apply bA); exact BK187.out) hb); have n2_ := aM (Zf (g := gb188) (o := .cells #[.slice none 0 0] 24 (0, 0)) (by (with_reducible repeat first | apply bN | apply bD | apply bA); exact BK188.out) hb); have n3_ := aM (Zf (g := gb189) (o := .cells #[u190000] 24 (0, 0)) (by (with_reducible repeat first | apply bN | apply bD | apply bA); exact BK189.out) hb); have n4_ := aM (Zj (by repeat (first | (with_reducible first | exact HB.out | apply wA | apply wN | apply wD | refine Za ?_ GE187.out | refine Za ?_ GE188.out | refine Za ?_ GE189.out) | exact HB.out)) hb); have n5_ := aM (hbox); have n6_ := aM ((by rw [hg]; exact (Zd (by repeat (first | (with_reducible first | exact HB.out | apply wA | apply wN | apply wD | refine Za ?_ GE187.out | refine Za ?_ GE188.out | refine Za ?_ GE189.out) | exact HB.out))) : w.heap.size ≤ gb190)); have n7_ := aM ((by rw [hg]; exact (Zd (by repeat (first | (with_reducible first | exact HB.out | apply wA | apply wN | apply wD | refine Za ?_ GE187.out | refine Za ?_ GE188.out | refine Za ?_ GE189.out) | exact HB.out))) : w.heap.size ≤ gb190)); have n8_ := aM ((by rw [hg]; exact Nat.ne_of_lt (Ya (g := gb187) (o := .cells #[.slice A0_0 l0_0.length c0_0] 24 (0, 0)) (by (with_reducible repeat first | apply bN | apply bD | apply bA); exact BK187.out)) : gb187 ≠ gb190)); have n9_ := aM ((by rw [hg]; exact Nat.ne_of_gt (Ya (g := gb187) (o := .cells #[.slice A0_0 l0_0.length c0_0] 24 (0, 0)) (by (with_reducible repeat first | apply bN | apply bD | apply bA); exact BK187.out)) : gb190 ≠ gb187)); have n10_ := aM ((by rw [hg]; exact Nat.ne_of_lt (Ya (g := gb188) (o := .cells #[.slice none 0 0] 24 (0, 0)) (by (with_reducible repeat first | apply bN | apply bD | apply bA); exact BK188.out)) : gb188 ≠ gb190)); have n11_ := aM ((by rw [hg]; exact Nat.ne_of_gt (Ya (g := gb188) (o := .cells #[.slice none 0 0] 24 (0, 0)) (by (with_reducible repeat first | apply bN | apply bD | apply bA); exact BK188.out)) : gb190 ≠ gb188)); have n12_ := aM ((by rw [hg]; exact Nat.ne_of_lt (Ya (g := gb189) (o := .cells #[u190000] 24 (0, 0)) (by (with_reducible repeat first | apply bN | apply bD | apply bA); exact BK189.out)) : gb189 ≠ gb190)); have n13_ := aM ((by rw [hg]; exact Nat.ne_of_gt (Ya (g := gb189) (o := .cells #[u190000] 24 (0, 0)) (by (with_reducible repeat first | apply bN | apply bD | apply bA); exact BK189.out)) : gb190 ≠ gb189)); clear J190 BK187 BK188 BK189 HB; have J190 := n0_; have BK187 := n1_; have BK188 := n2_; have BK189 := n3_; have HB := n4_; have BK190 := n5_; have GW190 := n6_; have GE190 := n7_; have NB187_190 := n8_; have NB190_187 := n9_; have NB188_190 := n10_; have NB190_188 := n11_; have NB189_190 := n12_; have NB190_189 := n13_; clear n0_ n1_ n2_ n3_ n4_ n5_ n6_ n7_ n8_ n9_ n10_ n11_ n12_ n13_; clear hb hbox hg; have p191 : 0 ≤ (x6_1 : Int) := of_decide_eq_true (by first | (with_reducible assumption) | assumption); have q191 : x6_1 < (l1.length : Int) := of_decide_eq_true (by first | (with_reducible assumption) | assumption); obtain ⟨ad191, A191_1, c191_1, e191, hx191_0, hx191_1, hl191_1, hi191_1⟩ := at_T39 HR1.out x6_1 p191 q191; cases e191; replace hx191_0 := (HB.out.cell (Qw w _ hx191_0)).trans hx191_0; replace hx191_1 := (HB.out.cell (Qw w _ hx191_1)).trans hx191_1; have HR191_1 := aM hi191_1; have HC191_1 := aM hl191_1; clear hi191_1 hl191_1; replace p191 := eq_true p191; replace q191 := eq_true q191; have hnb17 := NB190_187.out; have hnc17 := NB187_190.out; have hnb18 := NB190_188.out; have hnc18 := NB188_190.out; have hnb19 := NB190_189.out; have hnc19 := NB189_190.out; have hcz20_0 : w16.cell? ⟨gb190, 0, none⟩ = some (.int .i64 0) := (Ze BK190.out 0).trans rfl; have hcz20_1 : w16.cell? ⟨gb190, 1, none⟩ = some (.slice none 0 0) := (Ze BK190.out 1).trans rfl; have hfz20_0 := Zg BK190.out 0; have hfz20_1 := Zg BK190.out 1; have hcz21_0 : w16.cell? ⟨gb187, 0, none⟩ = some (.slice A0_0 l0_0.length c0_0) := (Ze BK187.out 0).trans rfl; have hfz21_0 := Zg BK187.out 0; have p192 : 0 ≤ (x6_1 : Int) := of_decide_eq_true (by first | (with_reducible assumption) | assumption); have q192 : x6_1 < (l0_0.length : Int) := of_decide_eq_true (by first | (with_reducible assumption) | assumption); obtain ⟨ad192, A192_0, c192_0, A192_1, c192_1, e192, hx192_0, hx192_1, hl192_0, hi192_0, hl192_1, hi192_1⟩ := Zbl HR0_0.out x6_1 p192 q192; cases e192; have hn192_0 : ad192.block ≠ gb190 := Nat.ne_of_lt (Nat.lt_of_lt_of_le (by have := Qw _ _ hx192_0; first | rwa [add_block] at this | exact this) GW190.out); have hn192_1 : ad192.block ≠ gb190 := Nat.ne_of_lt (Nat.lt_of_lt_of_le (by have := Qw _ _ hx192_0; first | rwa [add_block] at this | exact this) GW190.out); replace hx192_0 := (HB.out.cell (Qw w _ hx192_0)).trans hx192_0; replace hx192_1 := (HB.out.cell (Qw w _ hx192_1)).trans hx192_1; have HR192_0 := aM hi192_0; have HC192_0 := aM hl192_0; clear hi192_0 hl192_0; have HR192_1 := aM hi192_1; have HC192_1 := aM hl192_1; clear hi192_1 hl192_1; replace hx192_0 := (cell_far (p := ⟨gb190, 0, none⟩) (by first | (rw [add_block]; exact hn192_0) | (show (Addr.add _ _).block ≠ _; rw [add_block]; exact hn192_0) | exact hn192_0) (.int .i64 ((Za3 l1 x6_1).f0))).trans hx192_0; replace hx192_1 := (cell_far (p := ⟨gb190, 0, none⟩) (by first | (rw [add_block]; exact hn192_0) | (show (Addr.add _ _).block ≠ _; rw [add_block]; exact hn192_0) | exact hn192_0) (.int .i64 ((Za3 l1 x6_1).f0))).trans hx192_1; replace hx192_0 := (cell_far (p := ⟨gb190, 1, none⟩) (by first | (rw [add_block]; exact hn192_1) | (show (Addr.add _ _).block ≠ _; rw [add_block]; exact hn192_1) | exact hn192_1) (.slice A191_1 ((Za3 l1 x6_1).f1).length c191_1)).trans hx192_0; replace hx192_1 := (cell_far (p := ⟨gb190, 1, none⟩) (by first | (rw [add_block]; exact hn192_1) | (show (Addr.add _ _).block ≠ _; rw [add_block]; exact hn192_1) | exact hn192_1) (.slice A191_1 ((Za3 l1 x6_1).f1).length c191_1)).trans hx192_1; clear hn192_0 hn192_1; replace p192 := eq_true p192; replace q192 := eq_true q192) | ((with_reducible refine Z7 (N := 8) rfl ?_); refine Z4 ?hg (N := 8) ?hd (cs := #[.slice none 0 0, .slice none 0 0]) (t := 48) ?hr ?_; (case hd => rfl); (case hg => rfl); (case hr => first | (go_simp; done) | (go_simp; rfl)); intro gb193 hg w22 hbox hb; have n0_ := aM (Kd.Zct (Kd.Zep (by (with_reducible repeat first | apply Kd.Zao | apply Kd.Zal | apply Kd.Zaw); exact (Kd.Zbc (Kd.Zcs (p := ⟨gb190, 1, none⟩) (Kd.Zcs (p := ⟨gb190, 0, none⟩) (Kd.Zcg J190.out BK190.out (by decide)) (fun _ hk => hk.2) (.int .i64 ((Za3 l1 x6_1).f0))) (fun _ hk => hk.2) (.slice A191_1 ((Za3 l1 x6_1).f1).length c191_1)) (fun _ h_ => h_.1))) gb193 (Nat.le_of_eq hg.symm)) hb); have n1_ := aM (Zf (g := gb187) (o := .cells #[.slice (some ad192) l0_0.length c0_0] 24 (0, 0)) (by (with_reducible repeat first | apply bN | apply bD | apply bA); refine Z8 ?_ NB187_190.out _; (with_reducible repeat first | apply bN | apply bD | apply bA); refine Z8 ?_ NB187_190.out _; (with_reducible repeat first | apply bN | apply bD | apply bA); exact BK187.out) hb); have n2_ := aM (Zf (g := gb188) (o := .cells #[.slice none 0 0] 24 (0, 0)) (by (with_reducible repeat first | apply bN | apply bD | apply bA); refine Z8 ?_ NB188_190.out _; (with_reducible repeat first | apply bN | apply bD | apply bA); refine Z8 ?_ NB188_190.out _; (with_reducible repeat first | apply bN | apply bD | apply bA); exact BK188.out) hb); have n3_ := aM (Zf (g := gb189) (o := .cells #[u190000] 24 (0, 0)) (by (with_reducible repeat first | apply bN | apply bD | apply bA); refine Z8 ?_ NB189_190.out _; (with_reducible repeat first | apply bN | apply bD | apply bA); refine Z8 ?_ NB189_190.out _; (with_reducible repeat first | apply bN | apply bD | apply bA); exact BK189.out) hb); have n4_ := aM (Zf (g := gb190) (o := .cells #[.int .i64 ((Za3 l1 x6_1).f0), .slice A191_1 ((Za3 l1 x6_1).f1).length c191_1] 39 (0, 0)) (by (with_reducible repeat first | apply bN | apply bD | apply bA); refine Yo (cs := #[.int .i64 ((Za3 l1 x6_1).f0), .slice none 0 0]) ?_ 1 _ rfl; (with_reducible repeat first | apply bN | apply bD | apply bA); refine Yo (cs := #[.int .i64 0, .slice none 0 0]) ?_ 0 _ rfl; (with_reducible repeat first | apply bN | apply bD | apply bA); exact BK190.out) hb); have n5_ := aM (Zj (by repeat (first | (with_reducible first | exact HB.out | apply wA | apply wN | apply wD | refine Za ?_ GE187.out | refine Za ?_ GE188.out | refine Za ?_ GE189.out | refine Za ?_ GE190.out) | exact HB.out)) hb); have n6_ := aM (hbox); have n7_ := aM ((by rw [hg]; exact (Zd (by repeat (first | (with_reducible first | exact HB.out | apply wA | apply wN | apply wD | refine Za ?_ GE187.out | refine Za ?_ GE188.out | refine Za ?_ GE189.out | refine Za ?_ GE190.out) | exact HB.out))) : w.heap.size ≤ gb193)); have n8_ := aM ((by rw [hg]; exact (Zd (by repeat (first | (with_reducible first | exact HB.out | apply wA | apply wN | apply wD | refine Za ?_ GE187.out | refine Za ?_ GE188.out | refine Za ?_ GE189.out | refine Za ?_ GE190.out) | exact HB.out))) : w.heap.size ≤ gb193)); have n9_ := aM ((by rw [hg]; exact Nat.ne_of_lt (Ya (g := gb187) (o := .cells #[.slice (some ad192) l0_0.length c0_0] 24 (0, 0)) (by (with_reducible repeat first | apply bN | apply bD | apply bA); refine Z8 ?_ NB187_190.out _; (with_reducible repeat first | apply bN | apply bD | apply bA); refine Z8 ?_ NB187_190.out _; (with_reducible repeat first | apply bN | apply bD | apply bA); exact BK187.out)) : gb187 ≠ gb193)); have n10_ := aM ((by rw [hg]; exact Nat.ne_of_gt (Ya (g := gb187) (o := .cells #[.slice (some ad192) l0_0.length c0_0] 24 (0, 0)) (by (with_reducible repeat first | apply bN | apply bD | apply bA); refine Z8 ?_ NB187_190.out _; (with_reducible repeat first | apply bN | apply bD | apply bA); refine Z8 ?_ NB187_190.out _; (with_reducible repeat first | apply bN | apply bD | apply bA); exact BK187.out)) : gb193 ≠ gb187)); have n11_ := aM ((by rw [hg]; exact Nat.ne_of_lt (Ya (g := gb188) (o := .cells #[.slice none 0 0] 24 (0, 0)) (by (with_reducible repeat first | apply bN | apply bD | apply bA); refine Z8 ?_ NB188_190.out _; (with_reducible repeat first | apply bN | apply bD | apply bA); refine Z8 ?_ NB188_190.out _; (with_reducible repeat first | apply bN | apply bD | apply bA); exact BK188.out)) : gb188 ≠ gb193)); have n12_ := aM ((by rw [hg]; exact Nat.ne_of_gt (Ya (g := gb188) (o := .cells #[.slice none 0 0] 24 (0, 0)) (by (with_reducible repeat first | apply bN | apply bD | apply bA); refine Z8 ?_ NB188_190.out _; (with_reducible repeat first | apply bN | apply bD | apply bA); refine Z8 ?_ NB188_190.out _; (with_reducible repeat first | apply bN | apply bD | apply bA); exact BK188.out)) : gb193 ≠ gb188)); have n13_ := aM ((by rw [hg]; exact Nat.ne_of_lt (Ya (g := gb189) (o := .cells #[u190000] 24 (0, 0)) (by (with_reducible repeat first | apply bN | apply bD | apply bA); refine Z8 ?_ NB189_190.out _; (with_reducible repeat first | apply bN | apply bD | apply bA); refine Z8 ?_ NB189_190.out _; (with_reducible repeat first | apply bN | apply bD | apply bA); exact BK189.out)) : gb189 ≠ gb193)); have n14_ := aM ((by rw [hg]; exact Nat.ne_of_gt (Ya (g := gb189) (o := .cells #[u190000] 24 (0, 0)) (by (with_reducible repeat first | apply bN | apply bD | apply bA); refine Z8 ?_ NB189_190.out _; (with_reducible repeat first | apply bN | apply bD | apply bA); refine Z8 ?_ NB189_190.out _; (with_reducible repeat first | apply bN | apply bD | apply bA); exact BK189.out)) : gb193 ≠ gb189)); have n15_ := aM ((by rw [hg]; exact Nat.ne_of_lt (Ya (g := gb190) (o := .cells #[.int .i64 ((Za3 l1 x6_1).f0), .slice A191_1 ((Za3 l1 x6_1).f1).length c191_1] 39 (0, 0)) (by (with_reducible repeat first | apply bN | apply bD | apply bA); refine Yo (cs := #[.int .i64 ((Za3 l1 x6_1).f0), .slice none 0 0]) ?_ 1 _ rfl; (with_reducible repeat first | apply bN | apply bD | apply bA); refine Yo (cs := #[.int .i64 0, .slice none 0 0]) ?_ 0 _ rfl; (with_reducible repeat first | apply bN | apply bD | apply bA); exact BK190.out)) : gb190 ≠ gb193)); have n16_ := aM ((by rw [hg]; exact Nat.ne_of_gt (Ya (g := gb190) (o := .cells #[.int .i64 ((Za3 l1 x6_1).f0), .slice A191_1 ((Za3 l1 x6_1).f1).length c191_1] 39 (0, 0)) (by (with_reducible repeat first | apply bN | apply bD | apply bA); refine Yo (cs := #[.int .i64 ((Za3 l1 x6_1).f0), .slice none 0 0]) ?_ 1 _ rfl; (with_reducible repeat first | apply bN | apply bD | apply bA); refine Yo (cs := #[.int .i64 0, .slice none 0 0]) ?_ 0 _ rfl; (with_reducible repeat first | apply bN | apply bD | apply bA); exact BK190.out)) : gb193 ≠ gb190)); clear J190 BK187 BK188 BK189 BK190 HB; have J190 := n0_; have BK187 := n1_; have BK188 := n2_; have BK189 := n3_; have BK190 := n4_; have HB := n5_; have BK193 := n6_; have GW193 := n7_; have GE193 := n8_; have NB187_193 := n9_; have NB193_187 := n10_; have NB188_193 := n11_; have NB193_188 := n12_; have NB189_193 := n13_; have NB193_189 := n14_; have NB190_193 := n15_; have NB193_190 := n16_; clear n0_ n1_ n2_ n3_ n4_ n5_ n6_ n7_ n8_ n9_ n10_ n11_ n12_ n13_ n14_ n15_ n16_; clear hb hbox hg; have hnb23 := NB193_187.out; have hnc23 := NB187_193.out; have hnb24 := NB193_188.out; have hnc24 := NB188_193.out; have hnb25 := NB193_189.out; have hnc25 := NB189_193.out; have hnb26 := NB193_190.out; have hnc26 := NB190_193.out; have hcz27_0 : w22.cell? ⟨gb193, 0, none⟩ = some (.slice none 0 0) := (Ze BK193.out 0).trans rfl; have hcz27_1 : w22.cell? ⟨gb193, 1, none⟩ = some (.slice none 0 0) := (Ze BK193.out 1).trans rfl; have hfz27_0 := Zg BK193.out 0; have hfz27_1 := Zg BK193.out 1))
         have n0_ : Zq (Kd.S k48 48 ((w22.setCell ⟨gb193, 0, none⟩ (.slice A192_0 ((Zo l0_0 x6_1).f0).length c192_0)).setCell ⟨gb193, 1, none⟩ (.slice A192_1 ((Zo l0_0 x6_1).f1).length c192_1)) w.heap.size (fun k_ => k_ ≠ gb193) u190000 x190000_1) := ⟨by (with_reducible repeat first | apply Kd.Zao | apply Kd.Zal | apply Kd.Zaw); exact Kd.Zbc (Kd.Zcs (p := ⟨gb193, 1, none⟩) (Kd.Zcs (p := ⟨gb193, 0, none⟩) (Kd.Zbc J190.out (fun k_ hk => (⟨hk, hk.2⟩ : _ ∧ k_ ≠ gb193))) (fun _ hk => hk.2) (.slice A192_0 ((Zo l0_0 x6_1).f0).length c192_0)) (fun _ hk => hk.2) (.slice A192_1 ((Zo l0_0 x6_1).f1).length c192_1)) (fun _ hk => hk.1.2)⟩
         have n1_ : Zq (((w22.setCell ⟨gb193, 0, none⟩ (.slice A192_0 ((Zo l0_0 x6_1).f0).length c192_0)).setCell ⟨gb193, 1, none⟩ (.slice A192_1 ((Zo l0_0 x6_1).f1).length c192_1)).heap[gb187]? = some (.cells #[.slice (some ad192) l0_0.length c0_0] 24 (0, 0))) := ⟨by (with_reducible repeat first | apply bN | apply bD | apply bA); refine Z8 ?_ NB187_193.out _; (with_reducible repeat first | apply bN | apply bD | apply bA); refine Z8 ?_ NB187_193.out _; (with_reducible repeat first | apply bN | apply bD | apply bA); exact BK187.out⟩
         have n2_ : Zq (((w22.setCell ⟨gb193, 0, none⟩ (.slice A192_0 ((Zo l0_0 x6_1).f0).length c192_0)).setCell ⟨gb193, 1, none⟩ (.slice A192_1 ((Zo l0_0 x6_1).f1).length c192_1)).heap[gb188]? = some (.cells #[.slice none 0 0] 24 (0, 0))) := ⟨by (with_reducible repeat first | apply bN | apply bD | apply bA); refine Z8 ?_ NB188_193.out _; (with_reducible repeat first | apply bN | apply bD | apply bA); refine Z8 ?_ NB188_193.out _; (with_reducible repeat first | apply bN | apply bD | apply bA); exact BK188.out⟩
         have n3_ : Zq (((w22.setCell ⟨gb193, 0, none⟩ (.slice A192_0 ((Zo l0_0 x6_1).f0).length c192_0)).setCell ⟨gb193, 1, none⟩ (.slice A192_1 ((Zo l0_0 x6_1).f1).length c192_1)).heap[gb189]? = some (.cells #[u190000] 24 (0, 0))) := ⟨by (with_reducible repeat first | apply bN | apply bD | apply bA); refine Z8 ?_ NB189_193.out _; (with_reducible repeat first | apply bN | apply bD | apply bA); refine Z8 ?_ NB189_193.out _; (with_reducible repeat first | apply bN | apply bD | apply bA); exact BK189.out⟩
         have n4_ : Zq (((w22.setCell ⟨gb193, 0, none⟩ (.slice A192_0 ((Zo l0_0 x6_1).f0).length c192_0)).setCell ⟨gb193, 1, none⟩ (.slice A192_1 ((Zo l0_0 x6_1).f1).length c192_1)).heap[gb190]? = some (.cells #[.int .i64 ((Za3 l1 x6_1).f0), .slice A191_1 ((Za3 l1 x6_1).f1).length c191_1] 39 (0, 0))) := ⟨by (with_reducible repeat first | apply bN | apply bD | apply bA); refine Z8 ?_ NB190_193.out _; (with_reducible repeat first | apply bN | apply bD | apply bA); refine Z8 ?_ NB190_193.out _; (with_reducible repeat first | apply bN | apply bD | apply bA); exact BK190.out⟩
         have n5_ : Zq (((w22.setCell ⟨gb193, 0, none⟩ (.slice A192_0 ((Zo l0_0 x6_1).f0).length c192_0)).setCell ⟨gb193, 1, none⟩ (.slice A192_1 ((Zo l0_0 x6_1).f1).length c192_1)).heap[gb193]? = some (.cells #[.slice A192_0 ((Zo l0_0 x6_1).f0).length c192_0, .slice A192_1 ((Zo l0_0 x6_1).f1).length c192_1] 48 (0, 0))) := ⟨by (with_reducible repeat first | apply bN | apply bD | apply bA); refine Yo (cs := #[.slice A192_0 ((Zo l0_0 x6_1).f0).length c192_0, .slice none 0 0]) ?_ 1 _ rfl; (with_reducible repeat first | apply bN | apply bD | apply bA); refine Yo (cs := #[.slice none 0 0, .slice none 0 0]) ?_ 0 _ rfl; (with_reducible repeat first | apply bN | apply bD | apply bA); exact BK193.out⟩
         have n6_ : Zq (Below w.heap.size w ((w22.setCell ⟨gb193, 0, none⟩ (.slice A192_0 ((Zo l0_0 x6_1).f0).length c192_0)).setCell ⟨gb193, 1, none⟩ (.slice A192_1 ((Zo l0_0 x6_1).f1).length c192_1))) := ⟨by repeat (first | (with_reducible first | exact HB.out | apply wA | apply wN | apply wD | refine Za ?_ GE187.out | refine Za ?_ GE188.out | refine Za ?_ GE189.out | refine Za ?_ GE190.out | refine Za ?_ GE193.out) | exact HB.out)⟩
         (try clear J190)
         (try clear BK187)
         (try clear BK188)
         (try clear BK189)
         (try clear BK190)
         (try clear BK193)
         (try clear HB)
         generalize ((w22.setCell ⟨gb193, 0, none⟩ (.slice A192_0 ((Zo l0_0 x6_1).f0).length c192_0)).setCell ⟨gb193, 1, none⟩ (.slice A192_1 ((Zo l0_0 x6_1).f1).length c192_1)) = w28 at n0_ n1_ n2_ n3_ n4_ n5_ n6_ ⊢
         have J190 := n0_
         have BK187 := n1_
         have BK188 := n2_
         have BK189 := n3_
         have BK190 := n4_
         have BK193 := n5_
         have HB := n6_
         clear n0_ n1_ n2_ n3_ n4_ n5_ n6_
         have n0_ := aM (Kd.Zaw J190.out)
         have n1_ := aM (bD BK187.out)
         have n2_ := aM (bD BK188.out)
         have n3_ := aM (bD BK189.out)
         have n4_ := aM (bD BK190.out)
         have n5_ := aM (bD BK193.out)
         have n6_ := aM (wD HB.out)
         clear J190 BK187 BK188 BK189 BK190 BK193 HB
         have J190 := n0_
         have BK187 := n1_
         have BK188 := n2_
         have BK189 := n3_
         have BK190 := n4_
         have BK193 := n5_
         have HB := n6_
         clear n0_ n1_ n2_ n3_ n4_ n5_ n6_
         refine Zb9 (n := 15) (S := fun w' => w'.cell? ⟨gb189, 0, none⟩ = some (u190000) ∧ w'.cell? ⟨gb193, 0, none⟩ = some (.slice A192_0 ((Zo l0_0 x6_1).f0).length c192_0) ∧ w'.cell? ⟨gb193, 1, none⟩ = some (.slice A192_1 ((Zo l0_0 x6_1).f1).length c192_1) ∧ w'.cell? ⟨gb190, 0, none⟩ = some (.int .i64 ((Za3 l1 x6_1).f0)) ∧ w'.cell? ⟨gb190, 1, none⟩ = some (.slice A191_1 ((Za3 l1 x6_1).f1).length c191_1)) (ds := [14]) #[Qf, Qf, Qf, Qf, Qf, Qf, Qf, Qf, Qf, Qf, Qf, Qf, Qf, Qf, Qf] (by kernel_rfl) rfl rfl ⟨(Ze BK189.out 0).trans rfl, (Ze BK193.out 0).trans rfl, (Ze BK193.out 1).trans rfl, (Ze BK190.out 0).trans rfl, (Ze BK190.out 1).trans rfl⟩ (fun hHeld => ?_); refine Zbs Zm.tab9 Zm.bits9 (fun HT_ HW_ => ?_)
         generalize w28.drew = w29 at J190 BK187 BK188 BK189 BK190 BK193 HB hHeld ⊢
         refine Yq (i := 0) (N := some 29) (v := ?_) (a' := ?_) #[Qt, Qf, Qf, Qf, Qf, Qf, Qf, Qf, Qf, Qf, Qf, Qf, Qf, Qf, Qf] rfl rfl (Yk HT_.out (by kernel_rfl)) (fun _ _ _ h => h) (Or.inl ⟨by rfl, ?_⟩) ?_ ?_
         rotate_left
         ·intro w'
          go_simp
          with_reducible rfl
         rotate_left
         ·simp only [Act.put, Qa, Qb, Qc, Z5, Z6]
          rfl
         refine Yq (i := 2) (N := some 31) (v := ?_) (a' := ?_) #[Qt, Qf, Qt, Qf, Qf, Qf, Qf, Qf, Qf, Qf, Qf, Qf, Qf, Qf, Qf] rfl rfl (Yk HT_.out (by kernel_rfl)) (fun _ _ _ h => h) (Or.inl ⟨by rfl, ?_⟩) ?_ ?_
         rotate_left
         ·intro w'
          go_simp
          with_reducible rfl
         rotate_left
         ·simp only [Act.put, Qa, Qb, Qc, Z5, Z6]
          rfl
         refine Yq (i := 5) (N := some 34) (v := ?_) (a' := ?_) #[Qt, Qf, Qt, Qf, Qf, Qt, Qf, Qf, Qf, Qf, Qf, Qf, Qf, Qf, Qf] rfl rfl (Yk HT_.out (by kernel_rfl)) (fun _ _ _ h => h) (Or.inl ⟨by rfl, ?_⟩) ?_ ?_
         rotate_left
         ·intro w'
          go_simp
          with_reducible rfl
         rotate_left
         ·simp only [Act.put, Qa, Qb, Qc, Z5, Z6]
          rfl
         refine Za5 (i := 1) (N := some 30) (v := ?_) (a' := ?_) #[Qt, Qt, Qt, Qf, Qf, Qt, Qf, Qf, Qf, Qf, Qf, Qf, Qf, Qf, Qf] rfl rfl (Zac HT_.out HW_.out (by kernel_rfl)) (fun _ _ _ h => h) (Or.inl ⟨by rfl, ?_⟩) hHeld ?_ ?_
         rotate_left
         ·rintro w' ⟨s0, s1, s2, s3, s4⟩
          go_simp
          with_reducible rfl
         rotate_left
         ·simp only [Act.put, Qa, Qb, Qc, Z5, Z6]
          rfl
         refine Za5 (i := 3) (N := some 32) (v := ?_) (a' := ?_) #[Qt, Qt, Qt, Qt, Qf, Qt, Qf, Qf, Qf, Qf, Qf, Qf, Qf, Qf, Qf] rfl rfl (Zac HT_.out HW_.out (by kernel_rfl)) (fun _ _ _ h => h) (Or.inl ⟨by rfl, ?_⟩) hHeld ?_ ?_
         rotate_left
         ·rintro w' ⟨s0, s1, s2, s3, s4⟩
          go_simp
          with_reducible rfl
         rotate_left
         ·simp only [Act.put, Qa, Qb, Qc, Z5, Z6]
          rfl
         refine Za5 (i := 6) (N := some 35) (v := ?_) (a' := ?_) #[Qt, Qt, Qt, Qt, Qf, Qt, Qt, Qf, Qf, Qf, Qf, Qf, Qf, Qf, Qf] rfl rfl (Zac HT_.out HW_.out (by kernel_rfl)) (fun _ _ _ h => h) (Or.inl ⟨by rfl, ?_⟩) hHeld ?_ ?_
         rotate_left
         ·rintro w' ⟨s0, s1, s2, s3, s4⟩
          go_simp
          with_reducible rfl
         rotate_left
         ·simp only [Act.put, Qa, Qb, Qc, Z5, Z6]
          rfl
         refine Za5 (i := 7) (N := some 36) (v := ?_) (a' := ?_) #[Qt, Qt, Qt, Qt, Qf, Qt, Qt, Qt, Qf, Qf, Qf, Qf, Qf, Qf, Qf] rfl rfl (Zac HT_.out HW_.out (by kernel_rfl)) (fun _ _ _ h => h) (Or.inl ⟨by rfl, ?_⟩) hHeld ?_ ?_
         rotate_left
         ·rintro w' ⟨s0, s1, s2, s3, s4⟩
          go_simp
          with_reducible rfl
         rotate_left
         ·simp only [Act.put, Qa, Qb, Qc, Z5, Z6]
          rfl
         refine one_ (i := 4) (N := some 33) #[Qt, Qt, Qt, Qt, Qt, Qt, Qt, Qt, Qf, Qf, Qf, Qf, Qf, Qf, Qf] rfl rfl (Za6 HT_.out (by kernel_rfl)) (by decide) (fun K hK => ?_)
         refine Kd.Za8 (Kd.int .u8) (w0 := w) w.heap.size rfl (.const (.slice none 0 0)) (.tmp 32) 30 5 (.int .u8 0) 1 rfl Try.underlying30 info5 rfl (by decide) (by omega) (.slice none 0 0) ([] : List Int) ((Zo l0_0 x6_1).f0) _ _ _ (fun _ => True) (fun _ => False) rfl rfl ?aO ?aR (fun _ _ h => h) (fun _ h => h.elim) ?aF ?aB ?aS ?aL ?_
         (case aR => repeat (first | exact (Kd.Yv HR192_0.out HB.out) | (with_reducible refine Kd.Yh ?_ _) | (with_reducible refine Kd.Yg ?_ _) | (with_reducible refine Kd.Yw ?_)))
         (case aB => exact (by repeat (first | (with_reducible first | exact HB.out | apply wA | apply wN | apply wD | refine Za ?_ GE187.out | refine Za ?_ GE188.out | refine Za ?_ GE189.out | refine Za ?_ GE190.out | refine Za ?_ GE193.out) | exact HB.out)))
         (case aF => exact (fun _ _ => trivial))
         (case aO => exact ((Kd.Zbx _ _ _ _ (fun _ => True))))
         (case aS => exact (Zd (by repeat (first | (with_reducible first | exact HB.out | apply wA | apply wN | apply wD | refine Za ?_ GE187.out | refine Za ?_ GE188.out | refine Za ?_ GE189.out | refine Za ?_ GE190.out | refine Za ?_ GE193.out) | exact HB.out))))
         (case aL => have := LMc9.out; omega)
         intro v195 w30 ho hb hg hat
         rw [← Ny194.out] at ho
         have n0_ := aM (Kd.Ze2 (Kd.Ze1 (by (with_reducible repeat first | apply Kd.Zao | apply Kd.Zal | apply Kd.Zaw); exact J190.out)) hg hat)
         have n1_ := aM (Yc (g := gb187) (o := .cells #[.slice (some ad192) l0_0.length c0_0] 24 (0, 0)) (by (with_reducible repeat first | apply bN | apply bD | apply bA); exact BK187.out) hg (by simp [Value.ownBlock]))
         have n2_ := aM (Yc (g := gb188) (o := .cells #[.slice none 0 0] 24 (0, 0)) (by (with_reducible repeat first | apply bN | apply bD | apply bA); exact BK188.out) hg (by simp [Value.ownBlock]))
         have n3_ := aM (Yc (g := gb189) (o := .cells #[u190000] 24 (0, 0)) (by (with_reducible repeat first | apply bN | apply bD | apply bA); exact BK189.out) hg (by simp [Value.ownBlock]))
         have n4_ := aM (Yc (g := gb190) (o := .cells #[.int .i64 ((Za3 l1 x6_1).f0), .slice A191_1 ((Za3 l1 x6_1).f1).length c191_1] 39 (0, 0)) (by (with_reducible repeat first | apply bN | apply bD | apply bA); exact BK190.out) hg (by simp [Value.ownBlock]))
         have n5_ := aM (Yc (g := gb193) (o := .cells #[.slice A192_0 ((Zo l0_0 x6_1).f0).length c192_0, .slice A192_1 ((Zo l0_0 x6_1).f1).length c192_1] 48 (0, 0)) (by (with_reducible repeat first | apply bN | apply bD | apply bA); exact BK193.out) hg (by simp [Value.ownBlock]))
         have n6_ := aM (hb)
         have n7_ := aM (ho)
         clear J190 BK187 BK188 BK189 BK190 BK193 HB
         have J190 := n0_
         have BK187 := n1_
         have BK188 := n2_
         have BK189 := n3_
         have BK190 := n4_
         have BK193 := n5_
         have HB := n6_
         have HO196 := n7_
         clear n0_ n1_ n2_ n3_ n4_ n5_ n6_ n7_ ho hb hg hat
         refine hK.out _ _ ⟨(Ze BK189.out 0).trans rfl, (Ze BK193.out 0).trans rfl, (Ze BK193.out 1).trans rfl, (Ze BK190.out 0).trans rfl, (Ze BK190.out 1).trans rfl⟩ (fun hHeld => ?_)
         clear hK K
         refine Zb2 (a' := ?_) ?_ ?_
         rotate_left
         ·show Act.put _ (some 33) _ = _
          simp only [Act.put, Qa, Qb, Qc, Z5, Z6]
          rfl
         refine one_ (i := 8) (N := some 37) #[Qt, Qt, Qt, Qt, Qt, Qt, Qt, Qt, Qt, Qf, Qf, Qf, Qf, Qf, Qf] rfl rfl (Za6 HT_.out (by kernel_rfl)) (by decide) (fun K hK => ?_)
         refine Zdc Try.func26 (by kernel_rfl) rfl #[.slice A192_1 ((Zo l0_0 x6_1).f1).length c192_1, .agg #[.int .i64 ((Za3 l1 x6_1).f0), .slice A191_1 ((Za3 l1 x6_1).f1).length c191_1]] (by rfl) rfl rfl (by (try simp only [Qi, Qj, Qk]); first | done | rfl | (simp only [Qe, Qd]; rfl)) ?_
         with_reducible refine (Zr.calls k1 _ _ ((Zo l0_0 x6_1).f1) ((Za3 l1 x6_1).f0) _ _ ((Za3 l1 x6_1).f1) t197 _ ?side1 ?side2 ?side3 ?side4 A10.out).mono ?_
         (case side1 => repeat (first | exact (Kd.Yv HR192_1.out HB.out) | (with_reducible refine Kd.Yh ?_ _) | (with_reducible refine Kd.Yg ?_ _) | (with_reducible refine Kd.Yw ?_)))
         (case side2 => exact HC192_1.out)
         (case side3 => repeat (first | exact (Kd.Yv HR191_1.out HB.out) | (with_reducible refine Kd.Yh ?_ _) | (with_reducible refine Kd.Yg ?_ _) | (with_reducible refine Kd.Yw ?_)))
         (case side4 => exact HC191_1.out)
         rintro e w31 ⟨v198, rfl, ho0, hb⟩
         refine ⟨_, rfl, ?_⟩
         have n0_ := aM (Kd.Zeq (by (with_reducible repeat first | apply Kd.Zao | apply Kd.Zal | apply Kd.Zaw); exact J190.out) (Kd.Zbg ho0) hb)
         have n1_ := aM (Kd.Zdm (by (with_reducible repeat first | apply Kd.Zab | apply Kd.Yu | apply Kd.Zai); exact HO196.out) (Kd.Zbg ho0) hb)
         have n2_ := aM (Kd.Zb1 (Kd.R_new' ho0 (Kd.R_lt (by (with_reducible repeat first | apply Kd.Zab | apply Kd.Yu | apply Kd.Zai); exact HO196.out))) (Zd (by repeat (first | (with_reducible first | exact HB.out | apply wA | apply wN | apply wD | refine Za ?_ GE187.out | refine Za ?_ GE188.out | refine Za ?_ GE189.out | refine Za ?_ GE190.out | refine Za ?_ GE193.out) | exact HB.out))))
         have n3_ := aM (Zf (g := gb187) (o := .cells #[.slice (some ad192) l0_0.length c0_0] 24 (0, 0)) (by (with_reducible repeat first | apply bN | apply bD | apply bA); exact BK187.out) hb)
         have n4_ := aM (Zf (g := gb188) (o := .cells #[.slice none 0 0] 24 (0, 0)) (by (with_reducible repeat first | apply bN | apply bD | apply bA); exact BK188.out) hb)
         have n5_ := aM (Zf (g := gb189) (o := .cells #[u190000] 24 (0, 0)) (by (with_reducible repeat first | apply bN | apply bD | apply bA); exact BK189.out) hb)
         have n6_ := aM (Zf (g := gb190) (o := .cells #[.int .i64 ((Za3 l1 x6_1).f0), .slice A191_1 ((Za3 l1 x6_1).f1).length c191_1] 39 (0, 0)) (by (with_reducible repeat first | apply bN | apply bD | apply bA); exact BK190.out) hb)
         have n7_ := aM (Zf (g := gb193) (o := .cells #[.slice A192_0 ((Zo l0_0 x6_1).f0).length c192_0, .slice A192_1 ((Zo l0_0 x6_1).f1).length c192_1] 48 (0, 0)) (by (with_reducible repeat first | apply bN | apply bD | apply bA); exact BK193.out) hb)
         have n8_ := aM (Zj (by repeat (first | (with_reducible first | exact HB.out | apply wA | apply wN | apply wD | refine Za ?_ GE187.out | refine Za ?_ GE188.out | refine Za ?_ GE189.out | refine Za ?_ GE190.out | refine Za ?_ GE193.out) | exact HB.out)) hb)
         clear J190 HO196 BK187 BK188 BK189 BK190 BK193 HB
         have J190 := n0_
         have HO196 := n1_
         have HO199 := n2_
         have BK187 := n3_
         have BK188 := n4_
         have BK189 := n5_
         have BK190 := n6_
         have BK193 := n7_
         have HB := n8_
         clear n0_ n1_ n2_ n3_ n4_ n5_ n6_ n7_ n8_
         (try clear hb)
         (try clear hb2)
         (try clear hk)
         (try clear hi)
         (try clear hge_)
         (try clear ho0)
         obtain ⟨Ao33, co33, eo33⟩ := Kd.Za2 HO199.out
         (first | subst eo33 | (injection eo33 with f1_ f2_ f3_; have f4_ := f1_.symm; have f5_ := f3_.symm; clear f1_ f2_ f3_; subst f4_; subst f5_))
         refine hK.out _ _ ⟨(Ze BK189.out 0).trans rfl, (Ze BK193.out 0).trans rfl, (Ze BK193.out 1).trans rfl, (Ze BK190.out 0).trans rfl, (Ze BK190.out 1).trans rfl⟩ (fun hHeld => ?_)
         clear hK K
         refine Zb2 (a' := ?_) ?_ ?_
         rotate_left
         ·show Act.put _ (some 37) _ = _
          simp only [Act.put, Qa, Qb, Qc, Z5, Z6]
          rfl
         refine one_ (i := 9) (N := some 38) #[Qt, Qt, Qt, Qt, Qt, Qt, Qt, Qt, Qt, Qt, Qf, Qf, Qf, Qf, Qf] rfl rfl (Za6 HT_.out (by kernel_rfl)) (by decide) (fun K hK => ?_)
         refine Kd.Za8 (Kd.int .u8) (w0 := w) w.heap.size (by rfl) (.tmp 33) (.tmp 37) 30 5 (.int .u8 0) 1 rfl Try.underlying30 info5 rfl (by decide) (by omega) v195 y194 t197 _ _ _ (fun k_ => some k_ ≠ (.slice Ao33 t197.length co33 : Value).ownBlock) (fun _ => False) rfl rfl ?aO ?aR (fun _ _ h => h) (fun _ h => h.elim) ?aF ?aB ?aS ?aL ?_
         (case aR => repeat (first | exact (Kd.Zah HO199.out).2.2 | (with_reducible refine Kd.Yh ?_ _) | (with_reducible refine Kd.Yg ?_ _) | (with_reducible refine Kd.Yw ?_)))
         (case aB => exact (by repeat (first | (with_reducible first | exact HB.out | apply wA | apply wN | apply wD | refine Za ?_ GE187.out | refine Za ?_ GE188.out | refine Za ?_ GE189.out | refine Za ?_ GE190.out | refine Za ?_ GE193.out) | exact HB.out)))
         (case aF => exact (fun k_ hk => Kd.fresh' (Kd.R_lt (by (with_reducible repeat first | apply Kd.Zab | apply Kd.Yu | apply Kd.Zai); exact HO199.out)) k_ hk))
         (case aO => exact (by (with_reducible repeat first | apply Kd.Zab | apply Kd.Yu | apply Kd.Zai); exact Kd.Zar HO196.out (fun _ hk => hk.2)))
         (case aS => exact (Zd (by repeat (first | (with_reducible first | exact HB.out | apply wA | apply wN | apply wD | refine Za ?_ GE187.out | refine Za ?_ GE188.out | refine Za ?_ GE189.out | refine Za ?_ GE190.out | refine Za ?_ GE193.out) | exact HB.out))))
         (case aL => have := LMc11.out; omega)
         intro v201 w32 ho hb hg hat
         rw [← Ny200.out] at ho
         have n0_ := aM (Kd.Ze2 (ok := (fun k_ => some k_ ≠ (.slice Ao33 t197.length co33 : Value).ownBlock ∧ k_ ≠ gb193)) (by (with_reducible repeat first | apply Kd.Zao | apply Kd.Zal | apply Kd.Zaw); exact Kd.Zbc J190.out (fun _ hk => ⟨⟨hk.2, hk.1.1⟩, hk.1.2⟩)) hg hat)
         have n1_ := aM (Yc (g := gb187) (o := .cells #[.slice (some ad192) l0_0.length c0_0] 24 (0, 0)) (by (with_reducible repeat first | apply bN | apply bD | apply bA); exact BK187.out) hg (Kd.R_ne HO196.out BK187.out (by decide)))
         have n2_ := aM (Yc (g := gb188) (o := .cells #[.slice none 0 0] 24 (0, 0)) (by (with_reducible repeat first | apply bN | apply bD | apply bA); exact BK188.out) hg (Kd.R_ne HO196.out BK188.out (by decide)))
         have n3_ := aM (Yc (g := gb189) (o := .cells #[u190000] 24 (0, 0)) (by (with_reducible repeat first | apply bN | apply bD | apply bA); exact BK189.out) hg (Kd.R_ne HO196.out BK189.out (by decide)))
         have n4_ := aM (Yc (g := gb190) (o := .cells #[.int .i64 ((Za3 l1 x6_1).f0), .slice A191_1 ((Za3 l1 x6_1).f1).length c191_1] 39 (0, 0)) (by (with_reducible repeat first | apply bN | apply bD | apply bA); exact BK190.out) hg (Kd.R_ne HO196.out BK190.out (by decide)))
         have n5_ := aM (Yc (g := gb193) (o := .cells #[.slice A192_0 ((Zo l0_0 x6_1).f0).length c192_0, .slice A192_1 ((Zo l0_0 x6_1).f1).length c192_1] 48 (0, 0)) (by (with_reducible repeat first | apply bN | apply bD | apply bA); exact BK193.out) hg (Kd.R_ne HO196.out BK193.out (by decide)))
         have n6_ := aM (Kd.R_after (ok := (fun _ => True)) (by (with_reducible repeat first | apply Kd.Zab | apply Kd.Yu | apply Kd.Zai); exact HO199.out) hg hat)
         have n7_ := aM (hb)
         have n8_ := aM (ho)
         clear J190 BK187 BK188 BK189 BK190 BK193 HO199 HB HO196
         have J190 := n0_
         have BK187 := n1_
         have BK188 := n2_
         have BK189 := n3_
         have BK190 := n4_
         have BK193 := n5_
         have HO199 := n6_
         have HB := n7_
         have HO202 := n8_
         clear n0_ n1_ n2_ n3_ n4_ n5_ n6_ n7_ n8_ ho hb hg hat
         obtain ⟨Ao34, co34, eo34⟩ := Kd.Za2 HO202.out
         (first | subst eo34 | (injection eo34 with f1_ f2_ f3_; have f4_ := f1_.symm; have f5_ := f3_.symm; clear f1_ f2_ f3_; subst f4_; subst f5_))
         refine hK.out _ _ ⟨(Ze BK189.out 0).trans rfl, (Ze BK193.out 0).trans rfl, (Ze BK193.out 1).trans rfl, (Ze BK190.out 0).trans rfl, (Ze BK190.out 1).trans rfl⟩ (fun hHeld => ?_)
         clear hK K
         refine Zb2 (a' := ?_) ?_ ?_
         rotate_left
         ·show Act.put _ (some 38) _ = _
          simp only [Act.put, Qa, Qb, Qc, Z5, Z6]
          rfl
         refine Yq (i := 10) (N := some 39) (v := ?_) (a' := ?_) #[Qt, Qt, Qt, Qt, Qt, Qt, Qt, Qt, Qt, Qt, Qt, Qf, Qf, Qf, Qf] rfl rfl (Yk HT_.out (by kernel_rfl)) (fun _ _ _ h => h) (Or.inl ⟨by rfl, ?_⟩) ?_ ?_
         rotate_left
         ·intro w'
          go_simp
          with_reducible rfl
         rotate_left
         ·simp only [Act.put, Qa, Qb, Qc, Z5, Z6]
          rfl
         refine one_ (i := 11) (N := some 40) #[Qt, Qt, Qt, Qt, Qt, Qt, Qt, Qt, Qt, Qt, Qt, Qt, Qf, Qf, Qf] rfl rfl (Za6 HT_.out (by kernel_rfl)) (by decide) (fun K hK => ?_)
         refine value_ (w1 := ?_) (v := ?_) (by rfl) rfl ?_ ?_
         rotate_left 2
         ·go_simp
          constructor
          ·rfl
          ·rfl
         refine hK.out _ _ ⟨(Ze (bA BK189.out _) 0).trans rfl, (Ze (bA BK193.out _) 0).trans rfl, (Ze (bA BK193.out _) 1).trans rfl, (Ze (bA BK190.out _) 0).trans rfl, (Ze (bA BK190.out _) 1).trans rfl⟩ (fun hHeld => ?_)
         clear hK K
         refine Zb2 (a' := ?_) ?_ ?_
         rotate_left
         ·show Act.put _ (some 40) _ = _
          simp only [Act.put, Qa, Qb, Qc, Z5, Z6]
          rfl
         refine one_ (i := 12) (N := some 41) #[Qt, Qt, Qt, Qt, Qt, Qt, Qt, Qt, Qt, Qt, Qt, Qt, Qt, Qf, Qf] rfl rfl (Za6 HT_.out (by kernel_rfl)) (by decide) (fun K hK => ?_)
         refine Kd.Zc9 k48 (w0 := w) w.heap.size (by rfl) (.tmp 30) (.tmp 40) 22 48 (.agg #[(.slice none 0 0), (.slice none 0 0)]) 48 rfl Try.underlying22 Zfh rfl (by decide) (by omega) u190000 x190000_1 (⟨y200, ([] : List Int)⟩ : S48) [.slice Ao34 y200.length co34, .slice none 0 0] (fun k_ => some k_ ≠ (.slice Ao33 t197.length co33 : Value).ownBlock ∧ k_ ≠ gb193) (fun k_ => some k_ = (.slice Ao34 y200.length co34 : Value).ownBlock) rfl rfl ?aP (fun k_ hk_ => ((Kd.Zar (ok' := fun k_ => ((fun k_ => some k_ ≠ (.slice Ao33 t197.length co33 : Value).ownBlock ∧ k_ ≠ gb193)) k_ ∧ some k_ ≠ (u190000 : Value).ownBlock) (Kd.Zaf (Kd.Zbq (HO202.out) (Kd.Zcl J190.out) (by decide)) BK193.out (by decide)) (fun k_ hk => ⟨⟨hk.1.1, hk.2⟩, hk.1.2⟩))).1 k_ hk_.symm) ?aF ?aO ?aB ?aS ?aL ?_
         (case aP => exact Zex _ _ _ (⟨y200, ([] : List Int)⟩ : S48) (Kd.Zar (Kd.Zcu rfl (Kd.Zar (ok' := fun k_ => ((fun k_ => some k_ ≠ (.slice Ao33 t197.length co33 : Value).ownBlock ∧ k_ ≠ gb193)) k_ ∧ some k_ ≠ (u190000 : Value).ownBlock) (Kd.Zaf (Kd.Zbq (HO202.out) (Kd.Zcl J190.out) (by decide)) BK193.out (by decide)) (fun k_ hk => ⟨⟨hk.1.1, hk.2⟩, hk.1.2⟩))) (fun _ h_ => h_)) (Kd.Zbx _ _ _ _ _))
         (case aB => exact (by repeat (first | (with_reducible first | exact HB.out | apply wA | apply wN | apply wD | refine Za ?_ GE187.out | refine Za ?_ GE188.out | refine Za ?_ GE189.out | refine Za ?_ GE190.out | refine Za ?_ GE193.out) | exact HB.out)))
         (case aF => exact (fun k_ hk => ⟨Kd.fresh' (Kd.R_lt (by (with_reducible repeat first | apply Kd.Zab | apply Kd.Yu | apply Kd.Zai); exact HO199.out)) k_ hk, Kd.Y6 (g := gb193) (o := .cells #[.slice A192_0 ((Zo l0_0 x6_1).f0).length c192_0, .slice A192_1 ((Zo l0_0 x6_1).f1).length c192_1] 48 (0, 0)) (by (with_reducible repeat first | apply bN | apply bD | apply bA); exact BK193.out) k_ hk⟩))
         (case aO => exact (by (with_reducible repeat first | apply Kd.Zao | apply Kd.Zal | apply Kd.Zaw); exact Kd.Zbc J190.out (fun k_ hk => ⟨⟨hk.1.1, hk.1.2⟩, fun e_ => hk.2 e_⟩)))
         (case aS => exact (Zd (by repeat (first | (with_reducible first | exact HB.out | apply wA | apply wN | apply wD | refine Za ?_ GE187.out | refine Za ?_ GE188.out | refine Za ?_ GE189.out | refine Za ?_ GE190.out | refine Za ?_ GE193.out) | exact HB.out))))
         (case aL => have := LMc12.out; omega)
         intro v204 w35 ho hb hg hat
         rw [← Ny203.out] at ho
         have n0_ := aM (Yc (g := gb187) (o := .cells #[.slice (some ad192) l0_0.length c0_0] 24 (0, 0)) (by (with_reducible repeat first | apply bN | apply bD | apply bA); exact BK187.out) hg (Kd.S_ne J190.out BK187.out (by decide)))
         have n1_ := aM (Yc (g := gb188) (o := .cells #[.slice none 0 0] 24 (0, 0)) (by (with_reducible repeat first | apply bN | apply bD | apply bA); exact BK188.out) hg (Kd.S_ne J190.out BK188.out (by decide)))
         have n2_ := aM (Yc (g := gb189) (o := .cells #[u190000] 24 (0, 0)) (by (with_reducible repeat first | apply bN | apply bD | apply bA); exact BK189.out) hg (Kd.S_ne J190.out BK189.out (by decide)))
         have n3_ := aM (Yc (g := gb190) (o := .cells #[.int .i64 ((Za3 l1 x6_1).f0), .slice A191_1 ((Za3 l1 x6_1).f1).length c191_1] 39 (0, 0)) (by (with_reducible repeat first | apply bN | apply bD | apply bA); exact BK190.out) hg (Kd.S_ne J190.out BK190.out (by decide)))
         have n4_ := aM (Yc (g := gb193) (o := .cells #[.slice A192_0 ((Zo l0_0 x6_1).f0).length c192_0, .slice A192_1 ((Zo l0_0 x6_1).f1).length c192_1] 48 (0, 0)) (by (with_reducible repeat first | apply bN | apply bD | apply bA); exact BK193.out) hg (Kd.S_away J190.out (fun _ hk => hk.1.2)))
         have n5_ := aM (Kd.R_over' (by (with_reducible repeat first | apply Kd.Zab | apply Kd.Yu | apply Kd.Zai); exact HO199.out) (Kd.Zcl (by (with_reducible repeat first | apply Kd.Zao | apply Kd.Zal | apply Kd.Zaw); exact J190.out)) (by decide) hg)
         have n6_ := aM (hb)
         have n7_ := aM (ho)
         clear BK187 BK188 BK189 BK190 BK193 HO199 HB J190 HO202
         have BK187 := n0_
         have BK188 := n1_
         have BK189 := n2_
         have BK190 := n3_
         have BK193 := n4_
         have HO199 := n5_
         have HB := n6_
         have HO205 := n7_
         clear n0_ n1_ n2_ n3_ n4_ n5_ n6_ n7_ ho hb hg hat
         obtain ⟨Ao36, co36, eo36⟩ := Kd.Zcm HO205.out
         (first | subst eo36 | (injection eo36 with f1_ f2_ f3_; have f4_ := f1_.symm; have f5_ := f3_.symm; clear f1_ f2_ f3_; subst f4_; subst f5_))
         refine hK.out _ _ ⟨(Ze BK189.out 0).trans rfl, (Ze BK193.out 0).trans rfl, (Ze BK193.out 1).trans rfl, (Ze BK190.out 0).trans rfl, (Ze BK190.out 1).trans rfl⟩ (fun hHeld => ?_)
         clear hK K
         refine Zb2 (a' := ?_) ?_ ?_
         rotate_left
         ·show Act.put _ (some 41) _ = _
          simp only [Act.put, Qa, Qb, Qc, Z5, Z6]
          rfl
         refine Yq (i := 13) (N := some 42) (v := ?_) (a' := ?_) #[Qt, Qt, Qt, Qt, Qt, Qt, Qt, Qt, Qt, Qt, Qt, Qt, Qt, Qt, Qf] rfl rfl (Yk HT_.out (by kernel_rfl)) (fun _ _ _ h => h) (Or.inl ⟨by rfl, ?_⟩) ?_ ?_
         rotate_left
         ·intro w'
          go_simp
          with_reducible rfl
         rotate_left
         ·simp only [Act.put, Qa, Qb, Qc, Z5, Z6]
          rfl
         refine last_ (i := 14) (N := none) #[Qt, Qt, Qt, Qt, Qt, Qt, Qt, Qt, Qt, Qt, Qt, Qt, Qt, Qt, Qt] rfl rfl (Za6 HT_.out (by kernel_rfl)) (by decide) (fun K hK => ?_)
         have hs37 : w35.cell? ⟨gb189, 0, none⟩ = some (u190000) := (Ze BK189.out 0).trans rfl
         have hfs37 := Zg BK189.out 0
         have hns37_0 := NB187_189.out
         have hns37_1 := NB188_189.out
         have hns37_3 := NB190_189.out
         have hns37_4 := NB193_189.out
         have hms37_0 := NB189_187.out
         have hms37_1 := NB189_188.out
         have hms37_3 := NB189_190.out
         have hms37_4 := NB189_193.out
         refine Zcp (w1 := ?_) (by rfl) rfl ?_ ?_
         rotate_left
         ·go_simp
          rfl
         refine hK.out _ _ ?_
         clear hK K
         refine Zcv (Zcf HT_.out (by kernel_rfl)) ?_
         try go_wp2
         go_roundg k1
         case measure => have := HK1.out; omega
         case rel => exact ⟨(wrap64 (x6_1 + 1)), (y203), (.slice Ao36 y203.length co36), (by first | rfl | (simp; done) | (simp [*]; done)), H', ⟨by have := HK1.out; omega⟩, ⟨by (with_reducible repeat first | apply Kd.Zao | apply Kd.Zal | apply Kd.Zaw); exact Kd.Zbc (Kd.Zcs (p := ⟨gb189, 0, none⟩) (Kd.Zcg HO205.out BK189.out (by decide)) (fun _ hk => hk.2) (.slice Ao36 y203.length co36)) (fun _ hk => trivial)⟩, ⟨by (with_reducible repeat first | apply bN | apply bD | apply bA); refine Z8 ?_ NB187_189.out _; (with_reducible repeat first | apply bN | apply bD | apply bA); exact BK187.out⟩, ⟨by (with_reducible repeat first | apply bN | apply bD | apply bA); refine Z8 ?_ NB188_189.out _; (with_reducible repeat first | apply bN | apply bD | apply bA); exact BK188.out⟩, ⟨by (with_reducible repeat first | apply bN | apply bD | apply bA); refine Yo (cs := #[u190000]) ?_ 0 _ rfl; (with_reducible repeat first | apply bN | apply bD | apply bA); exact BK189.out⟩, ⟨by repeat (first | (with_reducible first | exact HB.out | apply wA | apply wN | apply wD | refine Za ?_ GE187.out | refine Za ?_ GE188.out | refine Za ?_ GE189.out | refine Za ?_ GE190.out | refine Za ?_ GE193.out) | exact HB.out)⟩⟩
        ·rw [if_neg c12] at H
         exact absurd H (by simp)
       ·rw [if_neg c11] at H
        exact absurd H (by simp)
      ·rw [if_neg c9] at H
       exact absurd H (by simp)
     ·rw [if_neg c8] at H
      exact absurd H (by simp)
    ·rw [if_neg c7] at H
     have c7b0 : decide (x6_1 < (l1.length : Int)) = false := decide_eq_false c7
     clear c7
     by_cases c38 : 0 ≤ x6_1
     ·rw [if_pos c38] at H
      have c38b0 : decide (0 ≤ x6_1) = true := decide_eq_true c38
      clear c38
      by_cases c39 : ([] : List Int).length + ((Zo l0_0 x6_1).f0).length < 140737488355328
      ·rw [if_pos c39] at H
       have LMc39 := aM c39
       clear c39
       obtain ⟨y208, hy208⟩ : ∃ y_ : List Int, y_ = (([] : List Int) ++ ((Zo l0_0 x6_1).f0)) := ⟨_, rfl⟩
       replace H : ((Zr.f k1 ((Zo l0_0 x6_1).f1) 0 ([] : List Int)).bind fun t211 => (if y208.length + t211.length < 140737488355328 then (if x190000_1.length < 2932031007402 then (Zm.l0 k1 l1 (wrap64 (x6_1 + 1)) l0_0 (x190000_1 ++ [(⟨(y208 ++ t211), ([] : List Int)⟩ : S48)])) else (none)) else (none))) = some r := by first | (rw [hy208]; with_reducible exact H) | (have H2_ := (Option.bind_some _ _).symm.trans H; rw [hy208]; with_reducible exact H2_) | (have H2_ := (Option.bind_some _ _).symm.trans H; with_reducible exact H2_) | with_reducible exact H | (rw [hy208]; exact H) | exact H
       have Ny208 := aM hy208
       clear hy208
       replace H := Option.bind_eq_some_iff.mp H
       obtain ⟨t211, A400, H⟩ := H
       replace H : (if y208.length + t211.length < 140737488355328 then (if x190000_1.length < 2932031007402 then (Zm.l0 k1 l1 (wrap64 (x6_1 + 1)) l0_0 (x190000_1 ++ [(⟨(y208 ++ t211), ([] : List Int)⟩ : S48)])) else (none)) else (none)) = some r := H
       have A40 := aM A400
       clear A400
       by_cases c41 : y208.length + t211.length < 140737488355328
       ·rw [if_pos c41] at H
        have LMc41 := aM c41
        clear c41
        obtain ⟨y214, hy214⟩ : ∃ y_ : List Int, y_ = (y208 ++ t211) := ⟨_, rfl⟩
        replace H : (if x190000_1.length < 2932031007402 then (Zm.l0 k1 l1 (wrap64 (x6_1 + 1)) l0_0 (x190000_1 ++ [(⟨y214, ([] : List Int)⟩ : S48)])) else (none)) = some r := by first | (rw [hy214]; with_reducible exact H) | (have H2_ := (Option.bind_some _ _).symm.trans H; rw [hy214]; with_reducible exact H2_) | (have H2_ := (Option.bind_some _ _).symm.trans H; with_reducible exact H2_) | with_reducible exact H | (rw [hy214]; exact H) | exact H
        have Ny214 := aM hy214
        clear hy214
        by_cases c42 : x190000_1.length < 2932031007402
        ·rw [if_pos c42] at H
         have LMc42 := aM c42
         clear c42
         obtain ⟨y217, hy217⟩ : ∃ y_ : List (S48), y_ = (x190000_1 ++ [(⟨y214, ([] : List Int)⟩ : S48)]) := ⟨_, rfl⟩
         replace H : (Zm.l0 k1 l1 (wrap64 (x6_1 + 1)) l0_0 y217) = some r := by first | (rw [hy217]; with_reducible exact H) | (have H2_ := (Option.bind_some _ _).symm.trans H; rw [hy217]; with_reducible exact H2_) | (have H2_ := (Option.bind_some _ _).symm.trans H; with_reducible exact H2_) | with_reducible exact H | (rw [hy217]; exact H) | exact H
         have Ny217 := aM hy217
         clear hy217
         have H' := aM H
         clear H
         have hnb43 := NB187_188.out
         have hnc43 := NB188_187.out
         have hnb44 := NB187_189.out
         have hnc44 := NB189_187.out
         have hcz45_0 : wr.cell? ⟨gb187, 0, none⟩ = some (.slice A0_0 l0_0.length c0_0) := (Ze BK187.out 0).trans rfl
         have hfz45_0 := Zg BK187.out 0
         try go_wp2_with (first | ((with_reducible refine Z7 (N := 7) rfl ?_); refine Z4 ?hg (N := 7) ?hd (cs := #[.int .i64 0, .slice none 0 0]) (t := 39) ?hr ?_; (case hd => rfl); (case hg => rfl); (case hr => first | (go_simp; done) | (go_simp; rfl)); intro gb190 hg w46 hbox hb; have n0_ := aM (Kd.Zct (by (with_reducible repeat first | apply Kd.Zao | apply Kd.Zal | apply Kd.Zaw); exact J190.out) hb); have n1_ := aM (Zf (g := gb187) (o := .cells #[.slice A0_0 l0_0.length c0_0] 24 (0, 0)) (by (with_reducible repeat first | apply bN | apply bD | apply bA); exact BK187.out) hb); have n2_ := aM (Zf (g := gb188) (o := .cells #[.slice none 0 0] 24 (0, 0)) (by (with_reducible repeat first | apply bN | apply bD | apply bA); exact BK188.out) hb); have n3_ := aM (Zf (g := gb189) (o := .cells #[u190000] 24 (0, 0)) (by (with_reducible repeat first | apply bN | apply bD | apply bA); exact BK189.out) hb); have n4_ := aM (Zj (by repeat (first | (with_reducible first | exact HB.out | apply wA | apply wN | apply wD | refine Za ?_ GE187.out | refine Za ?_ GE188.out | refine Za ?_ GE189.out) | exact HB.out)) hb); have n5_ := aM (hbox); have n6_ := aM ((by rw [hg]; exact (Zd (by repeat (first | (with_reducible first | exact HB.out | apply wA | apply wN | apply wD | refine Za ?_ GE187.out | refine Za ?_ GE188.out | refine Za ?_ GE189.out) | exact HB.out))) : w.heap.size ≤ gb190)); have n7_ := aM ((by rw [hg]; exact (Zd (by repeat (first | (with_reducible first | exact HB.out | apply wA | apply wN | apply wD | refine Za ?_ GE187.out | refine Za ?_ GE188.out | refine Za ?_ GE189.out) | exact HB.out))) : w.heap.size ≤ gb190)); have n8_ := aM ((by rw [hg]; exact Nat.ne_of_lt (Ya (g := gb187) (o := .cells #[.slice A0_0 l0_0.length c0_0] 24 (0, 0)) (by (with_reducible repeat first | apply bN | apply bD | apply bA); exact BK187.out)) : gb187 ≠ gb190)); have n9_ := aM ((by rw [hg]; exact Nat.ne_of_gt (Ya (g := gb187) (o := .cells #[.slice A0_0 l0_0.length c0_0] 24 (0, 0)) (by (with_reducible repeat first | apply bN | apply bD | apply bA); exact BK187.out)) : gb190 ≠ gb187)); have n10_ := aM ((by rw [hg]; exact Nat.ne_of_lt (Ya (g := gb188) (o := .cells #[.slice none 0 0] 24 (0, 0)) (by (with_reducible repeat first | apply bN | apply bD | apply bA); exact BK188.out)) : gb188 ≠ gb190)); have n11_ := aM ((by rw [hg]; exact Nat.ne_of_gt (Ya (g := gb188) (o := .cells #[.slice none 0 0] 24 (0, 0)) (by (with_reducible repeat first | apply bN | apply bD | apply bA); exact BK188.out)) : gb190 ≠ gb188)); have n12_ := aM ((by rw [hg]; exact Nat.ne_of_lt (Ya (g := gb189) (o := .cells #[u190000] 24 (0, 0)) (by (with_reducible repeat first | apply bN | apply bD | apply bA); exact BK189.out)) : gb189 ≠ gb190)); have n13_ := aM ((by rw [hg]; exact Nat.ne_of_gt (Ya (g := gb189) (o := .cells #[u190000] 24 (0, 0)) (by (with_reducible repeat first | apply bN | apply bD | apply bA); exact BK189.out)) : gb190 ≠ gb189)); clear J190 BK187 BK188 BK189 HB; have J190 := n0_; have BK187 := n1_; have BK188 := n2_; have BK189 := n3_; have HB := n4_; have BK190 := n5_; have GW190 := n6_; have GE190 := n7_; have NB187_190 := n8_; have NB190_187 := n9_; have NB188_190 := n10_; have NB190_188 := n11_; have NB189_190 := n12_; have NB190_189 := n13_; clear n0_ n1_ n2_ n3_ n4_ n5_ n6_ n7_ n8_ n9_ n10_ n11_ n12_ n13_; clear hb hbox hg; have hnb47 := NB187_190.out; have hnc47 := NB190_187.out; have hcz48_0 : w46.cell? ⟨gb187, 0, none⟩ = some (.slice A0_0 l0_0.length c0_0) := (Ze BK187.out 0).trans rfl; have hfz48_0 := Zg BK187.out 0; have p206 : 0 ≤ (x6_1 : Int) := of_decide_eq_true (by first | (with_reducible assumption) | assumption); have q206 : x6_1 < (l0_0.length : Int) := of_decide_eq_true (by first | (with_reducible assumption) | assumption); obtain ⟨ad206, A206_0, c206_0, A206_1, c206_1, e206, hx206_0, hx206_1, hl206_0, hi206_0, hl206_1, hi206_1⟩ := Zbl HR0_0.out x6_1 p206 q206; cases e206; replace hx206_0 := (HB.out.cell (Qw w _ hx206_0)).trans hx206_0; replace hx206_1 := (HB.out.cell (Qw w _ hx206_1)).trans hx206_1; have HR206_0 := aM hi206_0; have HC206_0 := aM hl206_0; clear hi206_0 hl206_0; have HR206_1 := aM hi206_1; have HC206_1 := aM hl206_1; clear hi206_1 hl206_1; replace p206 := eq_true p206; replace q206 := eq_true q206) | ((with_reducible refine Z7 (N := 8) rfl ?_); refine Z4 ?hg (N := 8) ?hd (cs := #[.slice none 0 0, .slice none 0 0]) (t := 48) ?hr ?_; (case hd => rfl); (case hg => rfl); (case hr => first | (go_simp; done) | (go_simp; rfl)); intro gb207 hg w49 hbox hb; have n0_ := aM (Kd.Zct (Kd.Zep (by (with_reducible repeat first | apply Kd.Zao | apply Kd.Zal | apply Kd.Zaw); exact J190.out) gb207 (Nat.le_of_eq hg.symm)) hb); have n1_ := aM (Zf (g := gb187) (o := .cells #[.slice (some ad206) l0_0.length c0_0] 24 (0, 0)) (by (with_reducible repeat first | apply bN | apply bD | apply bA); exact BK187.out) hb); have n2_ := aM (Zf (g := gb188) (o := .cells #[.slice none 0 0] 24 (0, 0)) (by (with_reducible repeat first | apply bN | apply bD | apply bA); exact BK188.out) hb); have n3_ := aM (Zf (g := gb189) (o := .cells #[u190000] 24 (0, 0)) (by (with_reducible repeat first | apply bN | apply bD | apply bA); exact BK189.out) hb); have n4_ := aM (Zf (g := gb190) (o := .cells #[.int .i64 0, .slice none 0 0] 39 (0, 0)) (by (with_reducible repeat first | apply bN | apply bD | apply bA); exact BK190.out) hb); have n5_ := aM (Zj (by repeat (first | (with_reducible first | exact HB.out | apply wA | apply wN | apply wD | refine Za ?_ GE187.out | refine Za ?_ GE188.out | refine Za ?_ GE189.out | refine Za ?_ GE190.out) | exact HB.out)) hb); have n6_ := aM (hbox); have n7_ := aM ((by rw [hg]; exact (Zd (by repeat (first | (with_reducible first | exact HB.out | apply wA | apply wN | apply wD | refine Za ?_ GE187.out | refine Za ?_ GE188.out | refine Za ?_ GE189.out | refine Za ?_ GE190.out) | exact HB.out))) : w.heap.size ≤ gb207)); have n8_ := aM ((by rw [hg]; exact (Zd (by repeat (first | (with_reducible first | exact HB.out | apply wA | apply wN | apply wD | refine Za ?_ GE187.out | refine Za ?_ GE188.out | refine Za ?_ GE189.out | refine Za ?_ GE190.out) | exact HB.out))) : w.heap.size ≤ gb207)); have n9_ := aM ((by rw [hg]; exact Nat.ne_of_lt (Ya (g := gb187) (o := .cells #[.slice (some ad206) l0_0.length c0_0] 24 (0, 0)) (by (with_reducible repeat first | apply bN | apply bD | apply bA); exact BK187.out)) : gb187 ≠ gb207)); have n10_ := aM ((by rw [hg]; exact Nat.ne_of_gt (Ya (g := gb187) (o := .cells #[.slice (some ad206) l0_0.length c0_0] 24 (0, 0)) (by (with_reducible repeat first | apply bN | apply bD | apply bA); exact BK187.out)) : gb207 ≠ gb187)); have n11_ := aM ((by rw [hg]; exact Nat.ne_of_lt (Ya (g := gb188) (o := .cells #[.slice none 0 0] 24 (0, 0)) (by (with_reducible repeat first | apply bN | apply bD | apply bA); exact BK188.out)) : gb188 ≠ gb207)); have n12_ := aM ((by rw [hg]; exact Nat.ne_of_gt (Ya (g := gb188) (o := .cells #[.slice none 0 0] 24 (0, 0)) (by (with_reducible repeat first | apply bN | apply bD | apply bA); exact BK188.out)) : gb207 ≠ gb188)); have n13_ := aM ((by rw [hg]; exact Nat.ne_of_lt (Ya (g := gb189) (o := .cells #[u190000] 24 (0, 0)) (by (with_reducible repeat first | apply bN | apply bD | apply bA); exact BK189.out)) : gb189 ≠ gb207)); have n14_ := aM ((by rw [hg]; exact Nat.ne_of_gt (Ya (g := gb189) (o := .cells #[u190000] 24 (0, 0)) (by (with_reducible repeat first | apply bN | apply bD | apply bA); exact BK189.out)) : gb207 ≠ gb189)); have n15_ := aM ((by rw [hg]; exact Nat.ne_of_lt (Ya (g := gb190) (o := .cells #[.int .i64 0, .slice none 0 0] 39 (0, 0)) (by (with_reducible repeat first | apply bN | apply bD | apply bA); exact BK190.out)) : gb190 ≠ gb207)); have n16_ := aM ((by rw [hg]; exact Nat.ne_of_gt (Ya (g := gb190) (o := .cells #[.int .i64 0, .slice none 0 0] 39 (0, 0)) (by (with_reducible repeat first | apply bN | apply bD | apply bA); exact BK190.out)) : gb207 ≠ gb190)); clear J190 BK187 BK188 BK189 BK190 HB; have J190 := n0_; have BK187 := n1_; have BK188 := n2_; have BK189 := n3_; have BK190 := n4_; have HB := n5_; have BK207 := n6_; have GW207 := n7_; have GE207 := n8_; have NB187_207 := n9_; have NB207_187 := n10_; have NB188_207 := n11_; have NB207_188 := n12_; have NB189_207 := n13_; have NB207_189 := n14_; have NB190_207 := n15_; have NB207_190 := n16_; clear n0_ n1_ n2_ n3_ n4_ n5_ n6_ n7_ n8_ n9_ n10_ n11_ n12_ n13_ n14_ n15_ n16_; clear hb hbox hg; have hnb50 := NB207_187.out; have hnc50 := NB187_207.out; have hnb51 := NB207_188.out; have hnc51 := NB188_207.out; have hnb52 := NB207_189.out; have hnc52 := NB189_207.out; have hnb53 := NB207_190.out; have hnc53 := NB190_207.out; have hcz54_0 : w49.cell? ⟨gb207, 0, none⟩ = some (.slice none 0 0) := (Ze BK207.out 0).trans rfl; have hcz54_1 : w49.cell? ⟨gb207, 1, none⟩ = some (.slice none 0 0) := (Ze BK207.out 1).trans rfl; have hfz54_0 := Zg BK207.out 0; have hfz54_1 := Zg BK207.out 1))
         have n0_ : Zq (Kd.S k48 48 ((w49.setCell ⟨gb207, 0, none⟩ (.slice A206_0 ((Zo l0_0 x6_1).f0).length c206_0)).setCell ⟨gb207, 1, none⟩ (.slice A206_1 ((Zo l0_0 x6_1).f1).length c206_1)) w.heap.size (fun k_ => k_ ≠ gb207) u190000 x190000_1) := ⟨by (with_reducible repeat first | apply Kd.Zao | apply Kd.Zal | apply Kd.Zaw); exact Kd.Zbc (Kd.Zcs (p := ⟨gb207, 1, none⟩) (Kd.Zcs (p := ⟨gb207, 0, none⟩) (Kd.Zbc J190.out (fun k_ hk => (⟨hk, hk.2⟩ : _ ∧ k_ ≠ gb207))) (fun _ hk => hk.2) (.slice A206_0 ((Zo l0_0 x6_1).f0).length c206_0)) (fun _ hk => hk.2) (.slice A206_1 ((Zo l0_0 x6_1).f1).length c206_1)) (fun _ hk => hk.1.2)⟩
         have n1_ : Zq (((w49.setCell ⟨gb207, 0, none⟩ (.slice A206_0 ((Zo l0_0 x6_1).f0).length c206_0)).setCell ⟨gb207, 1, none⟩ (.slice A206_1 ((Zo l0_0 x6_1).f1).length c206_1)).heap[gb187]? = some (.cells #[.slice (some ad206) l0_0.length c0_0] 24 (0, 0))) := ⟨by (with_reducible repeat first | apply bN | apply bD | apply bA); refine Z8 ?_ NB187_207.out _; (with_reducible repeat first | apply bN | apply bD | apply bA); refine Z8 ?_ NB187_207.out _; (with_reducible repeat first | apply bN | apply bD | apply bA); exact BK187.out⟩
         have n2_ : Zq (((w49.setCell ⟨gb207, 0, none⟩ (.slice A206_0 ((Zo l0_0 x6_1).f0).length c206_0)).setCell ⟨gb207, 1, none⟩ (.slice A206_1 ((Zo l0_0 x6_1).f1).length c206_1)).heap[gb188]? = some (.cells #[.slice none 0 0] 24 (0, 0))) := ⟨by (with_reducible repeat first | apply bN | apply bD | apply bA); refine Z8 ?_ NB188_207.out _; (with_reducible repeat first | apply bN | apply bD | apply bA); refine Z8 ?_ NB188_207.out _; (with_reducible repeat first | apply bN | apply bD | apply bA); exact BK188.out⟩
         have n3_ : Zq (((w49.setCell ⟨gb207, 0, none⟩ (.slice A206_0 ((Zo l0_0 x6_1).f0).length c206_0)).setCell ⟨gb207, 1, none⟩ (.slice A206_1 ((Zo l0_0 x6_1).f1).length c206_1)).heap[gb189]? = some (.cells #[u190000] 24 (0, 0))) := ⟨by (with_reducible repeat first | apply bN | apply bD | apply bA); refine Z8 ?_ NB189_207.out _; (with_reducible repeat first | apply bN | apply bD | apply bA); refine Z8 ?_ NB189_207.out _; (with_reducible repeat first | apply bN | apply bD | apply bA); exact BK189.out⟩
         have n4_ : Zq (((w49.setCell ⟨gb207, 0, none⟩ (.slice A206_0 ((Zo l0_0 x6_1).f0).length c206_0)).setCell ⟨gb207, 1, none⟩ (.slice A206_1 ((Zo l0_0 x6_1).f1).length c206_1)).heap[gb190]? = some (.cells #[.int .i64 0, .slice none 0 0] 39 (0, 0))) := ⟨by (with_reducible repeat first | apply bN | apply bD | apply bA); refine Z8 ?_ NB190_207.out _; (with_reducible repeat first | apply bN | apply bD | apply bA); refine Z8 ?_ NB190_207.out _; (with_reducible repeat first | apply bN | apply bD | apply bA); exact BK190.out⟩
         have n5_ : Zq (((w49.setCell ⟨gb207, 0, none⟩ (.slice A206_0 ((Zo l0_0 x6_1).f0).length c206_0)).setCell ⟨gb207, 1, none⟩ (.slice A206_1 ((Zo l0_0 x6_1).f1).length c206_1)).heap[gb207]? = some (.cells #[.slice A206_0 ((Zo l0_0 x6_1).f0).length c206_0, .slice A206_1 ((Zo l0_0 x6_1).f1).length c206_1] 48 (0, 0))) := ⟨by (with_reducible repeat first | apply bN | apply bD | apply bA); refine Yo (cs := #[.slice A206_0 ((Zo l0_0 x6_1).f0).length c206_0, .slice none 0 0]) ?_ 1 _ rfl; (with_reducible repeat first | apply bN | apply bD | apply bA); refine Yo (cs := #[.slice none 0 0, .slice none 0 0]) ?_ 0 _ rfl; (with_reducible repeat first | apply bN | apply bD | apply bA); exact BK207.out⟩
         have n6_ : Zq (Below w.heap.size w ((w49.setCell ⟨gb207, 0, none⟩ (.slice A206_0 ((Zo l0_0 x6_1).f0).length c206_0)).setCell ⟨gb207, 1, none⟩ (.slice A206_1 ((Zo l0_0 x6_1).f1).length c206_1))) := ⟨by repeat (first | (with_reducible first | exact HB.out | apply wA | apply wN | apply wD | refine Za ?_ GE187.out | refine Za ?_ GE188.out | refine Za ?_ GE189.out | refine Za ?_ GE190.out | refine Za ?_ GE207.out) | exact HB.out)⟩
         (try clear J190)
         (try clear BK187)
         (try clear BK188)
         (try clear BK189)
         (try clear BK190)
         (try clear BK207)
         (try clear HB)
         generalize ((w49.setCell ⟨gb207, 0, none⟩ (.slice A206_0 ((Zo l0_0 x6_1).f0).length c206_0)).setCell ⟨gb207, 1, none⟩ (.slice A206_1 ((Zo l0_0 x6_1).f1).length c206_1)) = w55 at n0_ n1_ n2_ n3_ n4_ n5_ n6_ ⊢
         have J190 := n0_
         have BK187 := n1_
         have BK188 := n2_
         have BK189 := n3_
         have BK190 := n4_
         have BK207 := n5_
         have HB := n6_
         clear n0_ n1_ n2_ n3_ n4_ n5_ n6_
         have n0_ := aM (Kd.Zaw J190.out)
         have n1_ := aM (bD BK187.out)
         have n2_ := aM (bD BK188.out)
         have n3_ := aM (bD BK189.out)
         have n4_ := aM (bD BK190.out)
         have n5_ := aM (bD BK207.out)
         have n6_ := aM (wD HB.out)
         clear J190 BK187 BK188 BK189 BK190 BK207 HB
         have J190 := n0_
         have BK187 := n1_
         have BK188 := n2_
         have BK189 := n3_
         have BK190 := n4_
         have BK207 := n5_
         have HB := n6_
         clear n0_ n1_ n2_ n3_ n4_ n5_ n6_
         refine Zb9 (n := 15) (S := fun w' => w'.cell? ⟨gb189, 0, none⟩ = some (u190000) ∧ w'.cell? ⟨gb207, 0, none⟩ = some (.slice A206_0 ((Zo l0_0 x6_1).f0).length c206_0) ∧ w'.cell? ⟨gb207, 1, none⟩ = some (.slice A206_1 ((Zo l0_0 x6_1).f1).length c206_1) ∧ w'.cell? ⟨gb190, 0, none⟩ = some (.int .i64 0) ∧ w'.cell? ⟨gb190, 1, none⟩ = some (.slice none 0 0)) (ds := [14]) #[Qf, Qf, Qf, Qf, Qf, Qf, Qf, Qf, Qf, Qf, Qf, Qf, Qf, Qf, Qf] (by kernel_rfl) rfl rfl ⟨(Ze BK189.out 0).trans rfl, (Ze BK207.out 0).trans rfl, (Ze BK207.out 1).trans rfl, (Ze BK190.out 0).trans rfl, (Ze BK190.out 1).trans rfl⟩ (fun hHeld => ?_); refine Zbs Zm.tab9 Zm.bits9 (fun HT_ HW_ => ?_)
         generalize w55.drew = w56 at J190 BK187 BK188 BK189 BK190 BK207 HB hHeld ⊢
         refine Yq (i := 0) (N := some 29) (v := ?_) (a' := ?_) #[Qt, Qf, Qf, Qf, Qf, Qf, Qf, Qf, Qf, Qf, Qf, Qf, Qf, Qf, Qf] rfl rfl (Yk HT_.out (by kernel_rfl)) (fun _ _ _ h => h) (Or.inl ⟨by rfl, ?_⟩) ?_ ?_
         rotate_left
         ·intro w'
          go_simp
          with_reducible rfl
         rotate_left
         ·simp only [Act.put, Qa, Qb, Qc, Z5, Z6]
          rfl
         refine Yq (i := 2) (N := some 31) (v := ?_) (a' := ?_) #[Qt, Qf, Qt, Qf, Qf, Qf, Qf, Qf, Qf, Qf, Qf, Qf, Qf, Qf, Qf] rfl rfl (Yk HT_.out (by kernel_rfl)) (fun _ _ _ h => h) (Or.inl ⟨by rfl, ?_⟩) ?_ ?_
         rotate_left
         ·intro w'
          go_simp
          with_reducible rfl
         rotate_left
         ·simp only [Act.put, Qa, Qb, Qc, Z5, Z6]
          rfl
         refine Yq (i := 5) (N := some 34) (v := ?_) (a' := ?_) #[Qt, Qf, Qt, Qf, Qf, Qt, Qf, Qf, Qf, Qf, Qf, Qf, Qf, Qf, Qf] rfl rfl (Yk HT_.out (by kernel_rfl)) (fun _ _ _ h => h) (Or.inl ⟨by rfl, ?_⟩) ?_ ?_
         rotate_left
         ·intro w'
          go_simp
          with_reducible rfl
         rotate_left
         ·simp only [Act.put, Qa, Qb, Qc, Z5, Z6]
          rfl
         refine Za5 (i := 1) (N := some 30) (v := ?_) (a' := ?_) #[Qt, Qt, Qt, Qf, Qf, Qt, Qf, Qf, Qf, Qf, Qf, Qf, Qf, Qf, Qf] rfl rfl (Zac HT_.out HW_.out (by kernel_rfl)) (fun _ _ _ h => h) (Or.inl ⟨by rfl, ?_⟩) hHeld ?_ ?_
         rotate_left
         ·rintro w' ⟨s0, s1, s2, s3, s4⟩
          go_simp
          with_reducible rfl
         rotate_left
         ·simp only [Act.put, Qa, Qb, Qc, Z5, Z6]
          rfl
         refine Za5 (i := 3) (N := some 32) (v := ?_) (a' := ?_) #[Qt, Qt, Qt, Qt, Qf, Qt, Qf, Qf, Qf, Qf, Qf, Qf, Qf, Qf, Qf] rfl rfl (Zac HT_.out HW_.out (by kernel_rfl)) (fun _ _ _ h => h) (Or.inl ⟨by rfl, ?_⟩) hHeld ?_ ?_
         rotate_left
         ·rintro w' ⟨s0, s1, s2, s3, s4⟩
          go_simp
          with_reducible rfl
         rotate_left
         ·simp only [Act.put, Qa, Qb, Qc, Z5, Z6]
          rfl
         refine Za5 (i := 6) (N := some 35) (v := ?_) (a' := ?_) #[Qt, Qt, Qt, Qt, Qf, Qt, Qt, Qf, Qf, Qf, Qf, Qf, Qf, Qf, Qf] rfl rfl (Zac HT_.out HW_.out (by kernel_rfl)) (fun _ _ _ h => h) (Or.inl ⟨by rfl, ?_⟩) hHeld ?_ ?_
         rotate_left
         ·rintro w' ⟨s0, s1, s2, s3, s4⟩
          go_simp
          with_reducible rfl
         rotate_left
         ·simp only [Act.put, Qa, Qb, Qc, Z5, Z6]
          rfl
         refine Za5 (i := 7) (N := some 36) (v := ?_) (a' := ?_) #[Qt, Qt, Qt, Qt, Qf, Qt, Qt, Qt, Qf, Qf, Qf, Qf, Qf, Qf, Qf] rfl rfl (Zac HT_.out HW_.out (by kernel_rfl)) (fun _ _ _ h => h) (Or.inl ⟨by rfl, ?_⟩) hHeld ?_ ?_
         rotate_left
         ·rintro w' ⟨s0, s1, s2, s3, s4⟩
          go_simp
          with_reducible rfl
         rotate_left
         ·simp only [Act.put, Qa, Qb, Qc, Z5, Z6]
          rfl
         refine one_ (i := 4) (N := some 33) #[Qt, Qt, Qt, Qt, Qt, Qt, Qt, Qt, Qf, Qf, Qf, Qf, Qf, Qf, Qf] rfl rfl (Za6 HT_.out (by kernel_rfl)) (by decide) (fun K hK => ?_)
         refine Kd.Za8 (Kd.int .u8) (w0 := w) w.heap.size rfl (.const (.slice none 0 0)) (.tmp 32) 30 5 (.int .u8 0) 1 rfl Try.underlying30 info5 rfl (by decide) (by omega) (.slice none 0 0) ([] : List Int) ((Zo l0_0 x6_1).f0) _ _ _ (fun _ => True) (fun _ => False) rfl rfl ?aO ?aR (fun _ _ h => h) (fun _ h => h.elim) ?aF ?aB ?aS ?aL ?_
         (case aR => repeat (first | exact (Kd.Yv HR206_0.out HB.out) | (with_reducible refine Kd.Yh ?_ _) | (with_reducible refine Kd.Yg ?_ _) | (with_reducible refine Kd.Yw ?_)))
         (case aB => exact (by repeat (first | (with_reducible first | exact HB.out | apply wA | apply wN | apply wD | refine Za ?_ GE187.out | refine Za ?_ GE188.out | refine Za ?_ GE189.out | refine Za ?_ GE190.out | refine Za ?_ GE207.out) | exact HB.out)))
         (case aF => exact (fun _ _ => trivial))
         (case aO => exact ((Kd.Zbx _ _ _ _ (fun _ => True))))
         (case aS => exact (Zd (by repeat (first | (with_reducible first | exact HB.out | apply wA | apply wN | apply wD | refine Za ?_ GE187.out | refine Za ?_ GE188.out | refine Za ?_ GE189.out | refine Za ?_ GE190.out | refine Za ?_ GE207.out) | exact HB.out))))
         (case aL => have := LMc39.out; omega)
         intro v209 w57 ho hb hg hat
         rw [← Ny208.out] at ho
         have n0_ := aM (Kd.Ze2 (Kd.Ze1 (by (with_reducible repeat first | apply Kd.Zao | apply Kd.Zal | apply Kd.Zaw); exact J190.out)) hg hat)
         have n1_ := aM (Yc (g := gb187) (o := .cells #[.slice (some ad206) l0_0.length c0_0] 24 (0, 0)) (by (with_reducible repeat first | apply bN | apply bD | apply bA); exact BK187.out) hg (by simp [Value.ownBlock]))
         have n2_ := aM (Yc (g := gb188) (o := .cells #[.slice none 0 0] 24 (0, 0)) (by (with_reducible repeat first | apply bN | apply bD | apply bA); exact BK188.out) hg (by simp [Value.ownBlock]))
         have n3_ := aM (Yc (g := gb189) (o := .cells #[u190000] 24 (0, 0)) (by (with_reducible repeat first | apply bN | apply bD | apply bA); exact BK189.out) hg (by simp [Value.ownBlock]))
         have n4_ := aM (Yc (g := gb190) (o := .cells #[.int .i64 0, .slice none 0 0] 39 (0, 0)) (by (with_reducible repeat first | apply bN | apply bD | apply bA); exact BK190.out) hg (by simp [Value.ownBlock]))
         have n5_ := aM (Yc (g := gb207) (o := .cells #[.slice A206_0 ((Zo l0_0 x6_1).f0).length c206_0, .slice A206_1 ((Zo l0_0 x6_1).f1).length c206_1] 48 (0, 0)) (by (with_reducible repeat first | apply bN | apply bD | apply bA); exact BK207.out) hg (by simp [Value.ownBlock]))
         have n6_ := aM (hb)
         have n7_ := aM (ho)
         clear J190 BK187 BK188 BK189 BK190 BK207 HB
         have J190 := n0_
         have BK187 := n1_
         have BK188 := n2_
         have BK189 := n3_
         have BK190 := n4_
         have BK207 := n5_
         have HB := n6_
         have HO210 := n7_
         clear n0_ n1_ n2_ n3_ n4_ n5_ n6_ n7_ ho hb hg hat
         refine hK.out _ _ ⟨(Ze BK189.out 0).trans rfl, (Ze BK207.out 0).trans rfl, (Ze BK207.out 1).trans rfl, (Ze BK190.out 0).trans rfl, (Ze BK190.out 1).trans rfl⟩ (fun hHeld => ?_)
         clear hK K
         refine Zb2 (a' := ?_) ?_ ?_
         rotate_left
         ·show Act.put _ (some 33) _ = _
          simp only [Act.put, Qa, Qb, Qc, Z5, Z6]
          rfl
         refine one_ (i := 8) (N := some 37) #[Qt, Qt, Qt, Qt, Qt, Qt, Qt, Qt, Qt, Qf, Qf, Qf, Qf, Qf, Qf] rfl rfl (Za6 HT_.out (by kernel_rfl)) (by decide) (fun K hK => ?_)
         refine Zdc Try.func26 (by kernel_rfl) rfl #[.slice A206_1 ((Zo l0_0 x6_1).f1).length c206_1, .agg #[.int .i64 0, .slice none 0 0]] (by rfl) rfl rfl (by (try simp only [Qi, Qj, Qk]); first | done | rfl | (simp only [Qe, Qd]; rfl)) ?_
         refine (Zr.calls k1 _ _ ((Zo l0_0 x6_1).f1) 0 _ _ ([] : List Int) t211 _ ?side1 ?side2 ?side3 ?side4 A40.out).mono ?_
         (case side1 => repeat (first | exact (Kd.Yv HR206_1.out HB.out) | (with_reducible refine Kd.Yh ?_ _) | (with_reducible refine Kd.Yg ?_ _) | (with_reducible refine Kd.Yw ?_)))
         (case side2 => exact HC206_1.out)
         (case side3 => exact Kd.C_nil _ _)
         (case side4 => exact Nat.le_refl _)
         rintro e w58 ⟨v212, rfl, ho0, hb⟩
         refine ⟨_, rfl, ?_⟩
         have n0_ := aM (Kd.Zeq (by (with_reducible repeat first | apply Kd.Zao | apply Kd.Zal | apply Kd.Zaw); exact J190.out) (Kd.Zbg ho0) hb)
         have n1_ := aM (Kd.Zdm (by (with_reducible repeat first | apply Kd.Zab | apply Kd.Yu | apply Kd.Zai); exact HO210.out) (Kd.Zbg ho0) hb)
         have n2_ := aM (Kd.Zb1 (Kd.R_new' ho0 (Kd.R_lt (by (with_reducible repeat first | apply Kd.Zab | apply Kd.Yu | apply Kd.Zai); exact HO210.out))) (Zd (by repeat (first | (with_reducible first | exact HB.out | apply wA | apply wN | apply wD | refine Za ?_ GE187.out | refine Za ?_ GE188.out | refine Za ?_ GE189.out | refine Za ?_ GE190.out | refine Za ?_ GE207.out) | exact HB.out))))
         have n3_ := aM (Zf (g := gb187) (o := .cells #[.slice (some ad206) l0_0.length c0_0] 24 (0, 0)) (by (with_reducible repeat first | apply bN | apply bD | apply bA); exact BK187.out) hb)
         have n4_ := aM (Zf (g := gb188) (o := .cells #[.slice none 0 0] 24 (0, 0)) (by (with_reducible repeat first | apply bN | apply bD | apply bA); exact BK188.out) hb)
         have n5_ := aM (Zf (g := gb189) (o := .cells #[u190000] 24 (0, 0)) (by (with_reducible repeat first | apply bN | apply bD | apply bA); exact BK189.out) hb)
         have n6_ := aM (Zf (g := gb190) (o := .cells #[.int .i64 0, .slice none 0 0] 39 (0, 0)) (by (with_reducible repeat first | apply bN | apply bD | apply bA); exact BK190.out) hb)
         have n7_ := aM (Zf (g := gb207) (o := .cells #[.slice A206_0 ((Zo l0_0 x6_1).f0).length c206_0, .slice A206_1 ((Zo l0_0 x6_1).f1).length c206_1] 48 (0, 0)) (by (with_reducible repeat first | apply bN | apply bD | apply bA); exact BK207.out) hb)
         have n8_ := aM (Zj (by repeat (first | (with_reducible first | exact HB.out | apply wA | apply wN | apply wD | refine Za ?_ GE187.out | refine Za ?_ GE188.out | refine Za ?_ GE189.out | refine Za ?_ GE190.out | refine Za ?_ GE207.out) | exact HB.out)) hb)
         clear J190 HO210 BK187 BK188 BK189 BK190 BK207 HB
         have J190 := n0_
         have HO210 := n1_
         have HO213 := n2_
         have BK187 := n3_
         have BK188 := n4_
         have BK189 := n5_
         have BK190 := n6_
         have BK207 := n7_
         have HB := n8_
         clear n0_ n1_ n2_ n3_ n4_ n5_ n6_ n7_ n8_
         (try clear hb)
         (try clear hb2)
         (try clear hk)
         (try clear hi)
         (try clear hge_)
         (try clear ho0)
         obtain ⟨Ao60, co60, eo60⟩ := Kd.Za2 HO213.out
         (first | subst eo60 | (injection eo60 with f1_ f2_ f3_; have f4_ := f1_.symm; have f5_ := f3_.symm; clear f1_ f2_ f3_; subst f4_; subst f5_))
         refine hK.out _ _ ⟨(Ze BK189.out 0).trans rfl, (Ze BK207.out 0).trans rfl, (Ze BK207.out 1).trans rfl, (Ze BK190.out 0).trans rfl, (Ze BK190.out 1).trans rfl⟩ (fun hHeld => ?_)
         clear hK K
         refine Zb2 (a' := ?_) ?_ ?_
         rotate_left
         ·show Act.put _ (some 37) _ = _
          simp only [Act.put, Qa, Qb, Qc, Z5, Z6]
          rfl
         refine one_ (i := 9) (N := some 38) #[Qt, Qt, Qt, Qt, Qt, Qt, Qt, Qt, Qt, Qt, Qf, Qf, Qf, Qf, Qf] rfl rfl (Za6 HT_.out (by kernel_rfl)) (by decide) (fun K hK => ?_)
         refine Kd.Za8 (Kd.int .u8) (w0 := w) w.heap.size (by rfl) (.tmp 33) (.tmp 37) 30 5 (.int .u8 0) 1 rfl Try.underlying30 info5 rfl (by decide) (by omega) v209 y208 t211 _ _ _ (fun k_ => some k_ ≠ (.slice Ao60 t211.length co60 : Value).ownBlock) (fun _ => False) rfl rfl ?aO ?aR (fun _ _ h => h) (fun _ h => h.elim) ?aF ?aB ?aS ?aL ?_
         (case aR => repeat (first | exact (Kd.Zah HO213.out).2.2 | (with_reducible refine Kd.Yh ?_ _) | (with_reducible refine Kd.Yg ?_ _) | (with_reducible refine Kd.Yw ?_)))
         (case aB => exact (by repeat (first | (with_reducible first | exact HB.out | apply wA | apply wN | apply wD | refine Za ?_ GE187.out | refine Za ?_ GE188.out | refine Za ?_ GE189.out | refine Za ?_ GE190.out | refine Za ?_ GE207.out) | exact HB.out)))
         (case aF => exact (fun k_ hk => Kd.fresh' (Kd.R_lt (by (with_reducible repeat first | apply Kd.Zab | apply Kd.Yu | apply Kd.Zai); exact HO213.out)) k_ hk))
         (case aO => exact (by (with_reducible repeat first | apply Kd.Zab | apply Kd.Yu | apply Kd.Zai); exact Kd.Zar HO210.out (fun _ hk => hk.2)))
         (case aS => exact (Zd (by repeat (first | (with_reducible first | exact HB.out | apply wA | apply wN | apply wD | refine Za ?_ GE187.out | refine Za ?_ GE188.out | refine Za ?_ GE189.out | refine Za ?_ GE190.out | refine Za ?_ GE207.out) | exact HB.out))))
         (case aL => have := LMc41.out; omega)
         intro v215 w59 ho hb hg hat
         rw [← Ny214.out] at ho
         have n0_ := aM (Kd.Ze2 (ok := (fun k_ => some k_ ≠ (.slice Ao60 t211.length co60 : Value).ownBlock ∧ k_ ≠ gb207)) (by (with_reducible repeat first | apply Kd.Zao | apply Kd.Zal | apply Kd.Zaw); exact Kd.Zbc J190.out (fun _ hk => ⟨⟨hk.2, hk.1.1⟩, hk.1.2⟩)) hg hat)
         have n1_ := aM (Yc (g := gb187) (o := .cells #[.slice (some ad206) l0_0.length c0_0] 24 (0, 0)) (by (with_reducible repeat first | apply bN | apply bD | apply bA); exact BK187.out) hg (Kd.R_ne HO210.out BK187.out (by decide)))
         have n2_ := aM (Yc (g := gb188) (o := .cells #[.slice none 0 0] 24 (0, 0)) (by (with_reducible repeat first | apply bN | apply bD | apply bA); exact BK188.out) hg (Kd.R_ne HO210.out BK188.out (by decide)))
         have n3_ := aM (Yc (g := gb189) (o := .cells #[u190000] 24 (0, 0)) (by (with_reducible repeat first | apply bN | apply bD | apply bA); exact BK189.out) hg (Kd.R_ne HO210.out BK189.out (by decide)))
         have n4_ := aM (Yc (g := gb190) (o := .cells #[.int .i64 0, .slice none 0 0] 39 (0, 0)) (by (with_reducible repeat first | apply bN | apply bD | apply bA); exact BK190.out) hg (Kd.R_ne HO210.out BK190.out (by decide)))
         have n5_ := aM (Yc (g := gb207) (o := .cells #[.slice A206_0 ((Zo l0_0 x6_1).f0).length c206_0, .slice A206_1 ((Zo l0_0 x6_1).f1).length c206_1] 48 (0, 0)) (by (with_reducible repeat first | apply bN | apply bD | apply bA); exact BK207.out) hg (Kd.R_ne HO210.out BK207.out (by decide)))
         have n6_ := aM (Kd.R_after (ok := (fun _ => True)) (by (with_reducible repeat first | apply Kd.Zab | apply Kd.Yu | apply Kd.Zai); exact HO213.out) hg hat)
         have n7_ := aM (hb)
         have n8_ := aM (ho)
         clear J190 BK187 BK188 BK189 BK190 BK207 HO213 HB HO210
         have J190 := n0_
         have BK187 := n1_
         have BK188 := n2_
         have BK189 := n3_
         have BK190 := n4_
         have BK207 := n5_
         have HO213 := n6_
         have HB := n7_
         have HO216 := n8_
         clear n0_ n1_ n2_ n3_ n4_ n5_ n6_ n7_ n8_ ho hb hg hat
         obtain ⟨Ao61, co61, eo61⟩ := Kd.Za2 HO216.out
         (first | subst eo61 | (injection eo61 with f1_ f2_ f3_; have f4_ := f1_.symm; have f5_ := f3_.symm; clear f1_ f2_ f3_; subst f4_; subst f5_))
         refine hK.out _ _ ⟨(Ze BK189.out 0).trans rfl, (Ze BK207.out 0).trans rfl, (Ze BK207.out 1).trans rfl, (Ze BK190.out 0).trans rfl, (Ze BK190.out 1).trans rfl⟩ (fun hHeld => ?_)
         clear hK K
         refine Zb2 (a' := ?_) ?_ ?_
         rotate_left
         ·show Act.put _ (some 38) _ = _
          simp only [Act.put, Qa, Qb, Qc, Z5, Z6]
          rfl
         refine Yq (i := 10) (N := some 39) (v := ?_) (a' := ?_) #[Qt, Qt, Qt, Qt, Qt, Qt, Qt, Qt, Qt, Qt, Qt, Qf, Qf, Qf, Qf] rfl rfl (Yk HT_.out (by kernel_rfl)) (fun _ _ _ h => h) (Or.inl ⟨by rfl, ?_⟩) ?_ ?_
         rotate_left
         ·intro w'
          go_simp
          with_reducible rfl
         rotate_left
         ·simp only [Act.put, Qa, Qb, Qc, Z5, Z6]
          rfl
         refine one_ (i := 11) (N := some 40) #[Qt, Qt, Qt, Qt, Qt, Qt, Qt, Qt, Qt, Qt, Qt, Qt, Qf, Qf, Qf] rfl rfl (Za6 HT_.out (by kernel_rfl)) (by decide) (fun K hK => ?_)
         refine value_ (w1 := ?_) (v := ?_) (by rfl) rfl ?_ ?_
         rotate_left 2
         ·go_simp
          constructor
          ·rfl
          ·rfl
         refine hK.out _ _ ⟨(Ze (bA BK189.out _) 0).trans rfl, (Ze (bA BK207.out _) 0).trans rfl, (Ze (bA BK207.out _) 1).trans rfl, (Ze (bA BK190.out _) 0).trans rfl, (Ze (bA BK190.out _) 1).trans rfl⟩ (fun hHeld => ?_)
         clear hK K
         refine Zb2 (a' := ?_) ?_ ?_
         rotate_left
         ·show Act.put _ (some 40) _ = _
          simp only [Act.put, Qa, Qb, Qc, Z5, Z6]
          rfl
         refine one_ (i := 12) (N := some 41) #[Qt, Qt, Qt, Qt, Qt, Qt, Qt, Qt, Qt, Qt, Qt, Qt, Qt, Qf, Qf] rfl rfl (Za6 HT_.out (by kernel_rfl)) (by decide) (fun K hK => ?_)
         refine Kd.Zc9 k48 (w0 := w) w.heap.size (by rfl) (.tmp 30) (.tmp 40) 22 48 (.agg #[(.slice none 0 0), (.slice none 0 0)]) 48 rfl Try.underlying22 Zfh rfl (by decide) (by omega) u190000 x190000_1 (⟨y214, ([] : List Int)⟩ : S48) [.slice Ao61 y214.length co61, .slice none 0 0] (fun k_ => some k_ ≠ (.slice Ao60 t211.length co60 : Value).ownBlock ∧ k_ ≠ gb207) (fun k_ => some k_ = (.slice Ao61 y214.length co61 : Value).ownBlock) rfl rfl ?aP (fun k_ hk_ => ((Kd.Zar (ok' := fun k_ => ((fun k_ => some k_ ≠ (.slice Ao60 t211.length co60 : Value).ownBlock ∧ k_ ≠ gb207)) k_ ∧ some k_ ≠ (u190000 : Value).ownBlock) (Kd.Zaf (Kd.Zbq (HO216.out) (Kd.Zcl J190.out) (by decide)) BK207.out (by decide)) (fun k_ hk => ⟨⟨hk.1.1, hk.2⟩, hk.1.2⟩))).1 k_ hk_.symm) ?aF ?aO ?aB ?aS ?aL ?_
         (case aP => exact Zex _ _ _ (⟨y214, ([] : List Int)⟩ : S48) (Kd.Zar (Kd.Zcu rfl (Kd.Zar (ok' := fun k_ => ((fun k_ => some k_ ≠ (.slice Ao60 t211.length co60 : Value).ownBlock ∧ k_ ≠ gb207)) k_ ∧ some k_ ≠ (u190000 : Value).ownBlock) (Kd.Zaf (Kd.Zbq (HO216.out) (Kd.Zcl J190.out) (by decide)) BK207.out (by decide)) (fun k_ hk => ⟨⟨hk.1.1, hk.2⟩, hk.1.2⟩))) (fun _ h_ => h_)) (Kd.Zbx _ _ _ _ _))
         (case aB => exact (by repeat (first | (with_reducible first | exact HB.out | apply wA | apply wN | apply wD | refine Za ?_ GE187.out | refine Za ?_ GE188.out | refine Za ?_ GE189.out | refine Za ?_ GE190.out | refine Za ?_ GE207.out) | exact HB.out)))
         (case aF => exact (fun k_ hk => ⟨Kd.fresh' (Kd.R_lt (by (with_reducible repeat first | apply Kd.Zab | apply Kd.Yu | apply Kd.Zai); exact HO213.out)) k_ hk, Kd.Y6 (g := gb207) (o := .cells #[.slice A206_0 ((Zo l0_0 x6_1).f0).length c206_0, .slice A206_1 ((Zo l0_0 x6_1).f1).length c206_1] 48 (0, 0)) (by (with_reducible repeat first | apply bN | apply bD | apply bA); exact BK207.out) k_ hk⟩))
         (case aO => exact (by (with_reducible repeat first | apply Kd.Zao | apply Kd.Zal | apply Kd.Zaw); exact Kd.Zbc J190.out (fun k_ hk => ⟨⟨hk.1.1, hk.1.2⟩, fun e_ => hk.2 e_⟩)))
         (case aS => exact (Zd (by repeat (first | (with_reducible first | exact HB.out | apply wA | apply wN | apply wD | refine Za ?_ GE187.out | refine Za ?_ GE188.out | refine Za ?_ GE189.out | refine Za ?_ GE190.out | refine Za ?_ GE207.out) | exact HB.out))))
         (case aL => have := LMc42.out; omega)
         intro v218 w62 ho hb hg hat
         rw [← Ny217.out] at ho
         have n0_ := aM (Yc (g := gb187) (o := .cells #[.slice (some ad206) l0_0.length c0_0] 24 (0, 0)) (by (with_reducible repeat first | apply bN | apply bD | apply bA); exact BK187.out) hg (Kd.S_ne J190.out BK187.out (by decide)))
         have n1_ := aM (Yc (g := gb188) (o := .cells #[.slice none 0 0] 24 (0, 0)) (by (with_reducible repeat first | apply bN | apply bD | apply bA); exact BK188.out) hg (Kd.S_ne J190.out BK188.out (by decide)))
         have n2_ := aM (Yc (g := gb189) (o := .cells #[u190000] 24 (0, 0)) (by (with_reducible repeat first | apply bN | apply bD | apply bA); exact BK189.out) hg (Kd.S_ne J190.out BK189.out (by decide)))
         have n3_ := aM (Yc (g := gb190) (o := .cells #[.int .i64 0, .slice none 0 0] 39 (0, 0)) (by (with_reducible repeat first | apply bN | apply bD | apply bA); exact BK190.out) hg (Kd.S_ne J190.out BK190.out (by decide)))
         have n4_ := aM (Yc (g := gb207) (o := .cells #[.slice A206_0 ((Zo l0_0 x6_1).f0).length c206_0, .slice A206_1 ((Zo l0_0 x6_1).f1).length c206_1] 48 (0, 0)) (by (with_reducible repeat first | apply bN | apply bD | apply bA); exact BK207.out) hg (Kd.S_away J190.out (fun _ hk => hk.1.2)))
         have n5_ := aM (Kd.R_over' (by (with_reducible repeat first | apply Kd.Zab | apply Kd.Yu | apply Kd.Zai); exact HO213.out) (Kd.Zcl (by (with_reducible repeat first | apply Kd.Zao | apply Kd.Zal | apply Kd.Zaw); exact J190.out)) (by decide) hg)
         have n6_ := aM (hb)
         have n7_ := aM (ho)
         clear BK187 BK188 BK189 BK190 BK207 HO213 HB J190 HO216
         have BK187 := n0_
         have BK188 := n1_
         have BK189 := n2_
         have BK190 := n3_
         have BK207 := n4_
         have HO213 := n5_
         have HB := n6_
         have HO219 := n7_
         clear n0_ n1_ n2_ n3_ n4_ n5_ n6_ n7_ ho hb hg hat
         obtain ⟨Ao63, co63, eo63⟩ := Kd.Zcm HO219.out
         (first | subst eo63 | (injection eo63 with f1_ f2_ f3_; have f4_ := f1_.symm; have f5_ := f3_.symm; clear f1_ f2_ f3_; subst f4_; subst f5_))
         refine hK.out _ _ ⟨(Ze BK189.out 0).trans rfl, (Ze BK207.out 0).trans rfl, (Ze BK207.out 1).trans rfl, (Ze BK190.out 0).trans rfl, (Ze BK190.out 1).trans rfl⟩ (fun hHeld => ?_)
         clear hK K
         refine Zb2 (a' := ?_) ?_ ?_
         rotate_left
         ·show Act.put _ (some 41) _ = _
          simp only [Act.put, Qa, Qb, Qc, Z5, Z6]
          rfl
         refine Yq (i := 13) (N := some 42) (v := ?_) (a' := ?_) #[Qt, Qt, Qt, Qt, Qt, Qt, Qt, Qt, Qt, Qt, Qt, Qt, Qt, Qt, Qf] rfl rfl (Yk HT_.out (by kernel_rfl)) (fun _ _ _ h => h) (Or.inl ⟨by rfl, ?_⟩) ?_ ?_
         rotate_left
         ·intro w'
          go_simp
          with_reducible rfl
         rotate_left
         ·simp only [Act.put, Qa, Qb, Qc, Z5, Z6]
          rfl
         refine last_ (i := 14) (N := none) #[Qt, Qt, Qt, Qt, Qt, Qt, Qt, Qt, Qt, Qt, Qt, Qt, Qt, Qt, Qt] rfl rfl (Za6 HT_.out (by kernel_rfl)) (by decide) (fun K hK => ?_)
         have hs64 : w62.cell? ⟨gb189, 0, none⟩ = some (u190000) := (Ze BK189.out 0).trans rfl
         have hfs64 := Zg BK189.out 0
         have hns64_0 := NB187_189.out
         have hns64_1 := NB188_189.out
         have hns64_3 := NB190_189.out
         have hns64_4 := NB207_189.out
         have hms64_0 := NB189_187.out
         have hms64_1 := NB189_188.out
         have hms64_3 := NB189_190.out
         have hms64_4 := NB189_207.out
         refine Zcp (w1 := ?_) (by rfl) rfl ?_ ?_
         rotate_left
         ·go_simp
          rfl
         refine hK.out _ _ ?_
         clear hK K
         refine Zcv (Zcf HT_.out (by kernel_rfl)) ?_
         try go_wp2
         go_roundg k1
         case measure => have := HK1.out; omega
         case rel => exact ⟨(wrap64 (x6_1 + 1)), (y217), (.slice Ao63 y217.length co63), (by first | rfl | (simp; done) | (simp [*]; done)), H', ⟨by have := HK1.out; omega⟩, ⟨by (with_reducible repeat first | apply Kd.Zao | apply Kd.Zal | apply Kd.Zaw); exact Kd.Zbc (Kd.Zcs (p := ⟨gb189, 0, none⟩) (Kd.Zcg HO219.out BK189.out (by decide)) (fun _ hk => hk.2) (.slice Ao63 y217.length co63)) (fun _ hk => trivial)⟩, ⟨by (with_reducible repeat first | apply bN | apply bD | apply bA); refine Z8 ?_ NB187_189.out _; (with_reducible repeat first | apply bN | apply bD | apply bA); exact BK187.out⟩, ⟨by (with_reducible repeat first | apply bN | apply bD | apply bA); refine Z8 ?_ NB188_189.out _; (with_reducible repeat first | apply bN | apply bD | apply bA); exact BK188.out⟩, ⟨by (with_reducible repeat first | apply bN | apply bD | apply bA); refine Yo (cs := #[u190000]) ?_ 0 _ rfl; (with_reducible repeat first | apply bN | apply bD | apply bA); exact BK189.out⟩, ⟨by repeat (first | (with_reducible first | exact HB.out | apply wA | apply wN | apply wD | refine Za ?_ GE187.out | refine Za ?_ GE188.out | refine Za ?_ GE189.out | refine Za ?_ GE190.out | refine Za ?_ GE207.out) | exact HB.out)⟩⟩
        ·rw [if_neg c42] at H
         exact absurd H (by simp)
       ·rw [if_neg c41] at H
        exact absurd H (by simp)
      ·rw [if_neg c39] at H
       exact absurd H (by simp)
     ·rw [if_neg c38] at H
      exact absurd H (by simp)
   ·rw [if_neg c6] at H
    have c6b0 : decide (x6_1 < (l0_0.length : Int)) = false := decide_eq_false c6
    clear c6
    obtain rfl := Option.some.inj H
    have hnb65 := NB187_188.out
    have hnc65 := NB188_187.out
    have hnb66 := NB187_189.out
    have hnc66 := NB189_187.out
    have hcz67_0 : wr.cell? ⟨gb187, 0, none⟩ = some (.slice A0_0 l0_0.length c0_0) := (Ze BK187.out 0).trans rfl
    have hfz67_0 := Zg BK187.out 0
    have hnb68 := NB189_188.out
    have hnc68 := NB188_189.out
    have hcz69_0 : wr.cell? ⟨gb189, 0, none⟩ = some (u190000) := (Ze BK189.out 0).trans rfl
    have hfz69_0 := Zg BK189.out 0
    obtain ⟨Ao70, co70, eo70⟩ := Kd.Zcm J190.out
    subst eo70
    have hcz71_0 : wr.cell? ⟨gb188, 0, none⟩ = some (.slice none 0 0) := (Ze BK188.out 0).trans rfl
    have hfz71_0 := Zg BK188.out 0
    go_wp2
    refine bodyPost_ret (results_cell_row rfl _ _ gb188 24 #[.slice Ao70 x190000_1.length co70] (0, 0) _ rfl (by (with_reducible repeat first | apply bN | apply bD | apply bA); refine Yo (cs := #[.slice none 0 0]) ?_ 0 _ rfl; (with_reducible repeat first | apply bN | apply bD | apply bA); exact BK188.out) Try.underlying24 rfl (by kernel_rfl)) rfl ?_
    exact ⟨_, by first | rfl | (simp [Zy, Zx] <;> rfl) | (simp [*, Zy, Zx] <;> rfl), by (with_reducible repeat first | apply Kd.Zao | apply Kd.Zal | apply Kd.Zaw); exact Kd.Zbc (Kd.Zcs (p := ⟨gb188, 0, none⟩) (Kd.Zcg J190.out BK188.out (by decide)) (fun _ hk => hk.2) (.slice Ao70 x190000_1.length co70)) (fun _ hk => trivial), by repeat (first | (with_reducible first | exact HB.out | apply wA | apply wN | apply wD | refine Za ?_ GE187.out | refine Za ?_ GE188.out | refine Za ?_ GE189.out) | exact HB.out)⟩

end Go.Proofs.Ytnfbjdnflifcoaa.PDk
