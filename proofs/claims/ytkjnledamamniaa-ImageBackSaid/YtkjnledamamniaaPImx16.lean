-- Laid by wip/tools/xprint.py, a program of this session over the kit's print: functions as Lean functions, each with its contract.
import Derived.Test.YtkjnledamamniaaPImx0
import Derived.Test.YtkjnledamamniaaPImx1
import Derived.Test.YtkjnledamamniaaPImx2
namespace Go.Proofs.Ytkjnledamamniaa.PIm
open Go.RowKit Go.Proofs.YtkjnledamamniaaW.PrintWords Go.Proofs.YtkjnledamamniaaW.PrintLast Go.Proofs.YtkjnledamamniaaW.PrintMore
attribute [local go_sem] max2_int min2_int max_two min_two max_three min_three max_four min_four   -- for this text's walks alone
set_option linter.unusedVariables false
set_option linter.unusedSimpArgs false

/-! ### image_Apply: function 20, by hand -/
/-- Numbers laid over a row, from place a on. -/
def image_Apply.fill : List Int → Nat → List Int → List Int
  | xs, _, [] => xs
  | xs, a, y :: ys => image_Apply.fill (xs.set a y) (a + 1) ys
theorem image_Apply.fill_length : ∀ (ys : List Int) (a : Nat) (xs : List Int), (image_Apply.fill xs a ys).length = xs.length
  | [], _, _ => rfl
  | y :: ys, a, xs => by rw [image_Apply.fill, image_Apply.fill_length ys, List.length_set]
/-- The pages laid over a row, one by one, or the first error. -/
def image_Apply.go : List Int → List S28 → List Int × Int
  | b, [] => (b, 0)
  | b, p :: t => if p.f0 < 0 then ([], 3) else if ((b.length + 3) / 4 : Nat) ≤ p.f0 then ([], 3)
      else if min (4 * p.f0.toNat + 4) b.length - 4 * p.f0.toNat = p.f1.length then image_Apply.go (image_Apply.fill b (4 * p.f0.toNat) p.f1) t else ([], 7)
theorem image_Apply.grown_set (W : World) (g a : Nat) (v : Value) : W.grownBy (W.setCell ⟨g, a, none⟩ v) (some g) :=
  ⟨rfl, rfl, rfl, by simp [World.setCell], fun i _ hi => Below.heap_setCell W ⟨g, a, none⟩ v i (fun h => hi (by rw [h]))⟩
theorem image_Apply.R_fill {base g n cap : Nat} {ok : Nat → Prop} : ∀ (ys : List Int) (a : Nat) {W : World} {xs : List Int}, (Kd.int .i64).R 3 W base ok (.slice (some ⟨g, 0, none⟩) n cap) xs → a + ys.length ≤ xs.length →
    (Kd.int .i64).R 3 (W.setCells g a (ys.map fun y => .int .i64 y)) base ok (.slice (some ⟨g, 0, none⟩) n cap) (image_Apply.fill xs a ys) ∧ W.grownBy (W.setCells g a (ys.map fun y => .int .i64 y)) (some g)
  | [], _, W, _, h, _ => ⟨h, ⟨rfl, rfl, rfl, Nat.le_refl _, fun _ _ _ => rfl⟩⟩
  | y :: ys, a, W, xs, h, hl => by
    have h1 := Kd.R_putn h (a : Int) y
    obtain ⟨h2, h3⟩ := image_Apply.R_fill ys (a + 1) (W := W.setCell ⟨g, a, none⟩ (.int .i64 y)) h1 (by rw [List.length_set]; simp at hl; omega)
    exact ⟨h2, (image_Apply.grown_set W g a _).trans h3⟩
theorem image_Apply.cnt {b : List Int} (h : b.length < 17592186044416) : image_Count.f b = some (((b.length + 3) / 4 : Nat) : Int) := by
  have w1 : ∀ x : Int, 0 ≤ x ∧ x < 17592186044500 → wrap64 x = x := fun x h => by unfold wrap64; omega
  unfold image_Count.f
  rw [w1 ((b.length : Int) + 4) (by omega), w1 ((b.length : Int) + 4 - 1) (by omega), Int.tdiv_eq_ediv_of_nonneg (by omega), w1 _ (by omega)]
  congr 1
  omega
theorem image_Apply.page {g c n p : Nat} (hp : 4 * p < n) (hc : n ≤ c) (hn : n < 17592186044416) (w : World) :
    Calls Try.prog 26 #[.slice (some ⟨g, 0, none⟩) n c, .int .i64 (p : Int)] w fun e w' => e = .returned (.slice (some ⟨g, 4 * p, none⟩) (min (4 * p + 4) n - 4 * p) (min (4 * p + 4) n - 4 * p)) ∧ w' = w := by
  have e1' : wrap64 ((p : Int) * 4) = ((4 * p : Nat) : Int) := by unfold wrap64; omega
  have e2' : wrap64 (((4 * p : Nat) : Int) + 4) = ((4 * p + 4 : Nat) : Int) := by unfold wrap64; omega
  have e1 : IntKind.i64.wrap ((p : Int) * 4) = ((4 * p : Nat) : Int) := (i64_w _).trans e1'
  have e2 : IntKind.i64.wrap (((4 * p : Nat) : Int) + 4) = ((4 * p + 4 : Nat) : Int) := (i64_w _).trans e2'
  obtain ⟨hi, hhi⟩ : ∃ hi, hi = min (4 * p + 4) n := ⟨_, rfl⟩
  have i1 : 4 * p < hi := by omega
  have i2 : hi ≤ n := by omega
  rw [← hhi]
  obtain ⟨h4, hh4⟩ : ∃ h4, h4 = 4 * p + 4 := ⟨_, rfl⟩
  have i3 : hi = if n < h4 then n else h4 := by split <;> omega
  rw [← hh4] at e2 e2'
  obtain ⟨lo, hlo⟩ : ∃ lo, lo = 4 * p := ⟨_, rfl⟩
  rw [← hlo] at e1 e2 e1' e2' i1 ⊢
  have hcut : ∀ W : World, (Instr.slice 22 (.slice (some ⟨g, 0, none⟩) n c) (some (.int .i64 (lo : Int))) (some (.int .i64 (hi : Int))) (some (.int .i64 (hi : Int)))).run Try.prog W = .ok (.slice (some ⟨g, lo, none⟩) (hi - lo) (hi - lo)) W := by
    intro W
    obtain ⟨i0, hi0, _, hsz, _⟩ := info_parts info3
    rw [cut_mid3 (P := Try.prog) 22 3 .i64 .i64 .i64 Try.underlying22 hi0 1 hsz (some ⟨g, 0, none⟩) n c (lo : Int) (hi : Int) (by omega) (by omega) (by omega) hc W, Int.toNat_natCast, Int.toNat_natCast, if_neg (by omega), Nat.mul_one]
    simp only [Option.map_some, add_plain]
  clear hhi hh4 hlo hp hc hn i1 i2
  obtain ⟨n', hn'⟩ : ∃ n' : Int, n' = (n : Int) := ⟨_, rfl⟩
  by_cases hlt : n < h4
  · rw [if_pos hlt] at i3
    subst i3
    have hd : (hi : Int) < (h4 : Int) := by omega
    clear hlt
    go_enter Try.func26, Try.ntmps26
    go_wp2
    go_ret
    exact ⟨rfl, rfl⟩
  · rw [if_neg hlt] at i3
    subst i3
    have hd : ¬ (n : Int) < (hi : Int) := by omega
    clear hlt
    go_enter Try.func26, Try.ntmps26
    go_wp2
    go_ret
    exact ⟨rfl, rfl⟩

def image_Apply.f (l0 : List Int) (l1 : List (S28)) : Option (List Int × Int) := if l0.length < 17592186044416 then some (image_Apply.go l0 l1) else none
set_option maxHeartbeats 4000000 in
set_option maxRecDepth 100000 in
theorem image_Apply.calls (A0 : Option Addr) (c0 : Nat) (l0 : List Int) (A1 : Option Addr) (c1 : Nat) (l1 : List (S28)) (r1 : List Int) (r2 : Int) (w : World) (hr0 : Kd.C (Kd.int .i64) w A0 l0.length l0) (hc0 : l0.length ≤ c0) (hr1 : Kd.C k28 w A1 l1.length l1) (hc1 : l1.length ≤ c1) (h : image_Apply.f l0 l1 = some (r1, r2)) :
    Calls Try.prog 20 #[.slice A0 l0.length c0, .slice A1 l1.length c1] w fun e w' => ∃ v0_ : Value, e = .returned (.tuple #[v0_, .int .i64 r2]) ∧ Kd.R (Kd.int .i64) 3 w' w.heap.size (fun _ => True) v0_ r1 ∧ Below w.heap.size w w' := by
  unfold image_Apply.f at h
  by_cases hlim : l0.length < 17592186044416
  case neg => rw [if_neg hlim] at h; cases h
  rw [if_pos hlim] at h
  have HF := aM (Option.some.inj h)
  have HL := aM hlim
  have HCl := aM (show slices_Clone_int_int.f l0 = some l0 from if_pos hlim)
  have HR0 := aM hr0
  have HC0 := aM hc0
  have HR1 := aM hr1
  have HC1 := aM hc1
  clear h hlim hr0 hc0 hr1 hc1
  have HB := aM (Below.refl w.heap.size w)
  go_enter Try.func20, Try.ntmps20
  go_wp2_with (go_at_call 27; (with_reducible refine (slices_Clone_int_int.calls _ _ l0 l0 _ ?side1 ?side2 HCl.out).mono ?_); (case side1 => exact HR0.out); (case side2 => exact HC0.out); rintro e w4 ⟨vb, rfl, ho0, hb⟩; have HO := aM ho0; clear HB; have HB := aM hb; clear ho0 hb; obtain ⟨Ab, cb, eb⟩ := Kd.R_slice HO.out; subst eb)
  have hl1 : l1.length ≤ 9223372036854775807 := HR1.out.2.1
  go_loopw [14] (fun u14 W => ∃ (i : Nat) (b : List Int), u14 = .int .i64 i ∧ i ≤ l1.length ∧ b.length = l0.length ∧ image_Apply.go b (l1.drop i) = (r1, r2) ∧ Kd.R (Kd.int .i64) 3 W w.heap.size (fun _ => True) (.slice Ab l0.length cb) b ∧ Below w.heap.size w W) (fun u14 _ => l1.length - (intOf u14).toNat)
  case atStart => exact ⟨0, l0, rfl, Nat.zero_le _, rfl, HF.out, HO.out, HB.out⟩
  case round =>
    clear HF HO HB
    obtain ⟨i, b, rfl, hi, hb, hgo, ho, hB⟩ := hrel
    have HO := aM ho
    have HB := aM hB
    have HBL := aM hb
    clear ho hB hb
    by_cases hlt : i < l1.length
    case neg =>
      rw [List.drop_eq_nil_of_le (by omega), image_Apply.go] at hgo
      cases hgo
      have hd : ¬ (i : Int) < (l1.length : Int) := by omega
      clear hlt hi
      go_wp2
      go_ret2
      exact ⟨_, rfl, HO.out, HB.out⟩
    have hp1 : (0 ≤ (i : Int)) = True := eq_true (by omega)
    have hp2 : ((i : Int) < (l1.length : Int)) = True := eq_true (by omega)
    obtain ⟨P, hP⟩ : ∃ P, P = rd_T28 l1 (i : Int) := ⟨_, rfl⟩
    have hPl : P = l1[i] := by rw [hP]; simp [rd_T28, List.getD_eq_getElem?_getD, List.getElem?_eq_getElem hlt]
    rw [List.drop_eq_getElem_cons hlt, ← hPl, image_Apply.go] at hgo
    obtain ⟨ad1, AL, cL, eA, hx0, hx1, hcL, hCL⟩ := at_T28 HR1.out (i : Int) (by omega) (by omega)
    cases eA
    replace hx0 := (HB.out.cell (World.block_lt_of_cell? w _ hx0)).trans hx0
    replace hx1 := (HB.out.cell (World.block_lt_of_cell? w _ hx1)).trans hx1
    rw [← hP] at hx0 hx1 hcL hCL
    simp only [Int.toNat_natCast] at hx0 hx1
    have HGO := aM hgo
    have HI := aM hi
    have HLT := aM hlt
    have HCL := aM hCL
    have HcL := aM hcL
    clear hP hPl hgo hi hlt hCL hcL
    go_upto_region 5 with ((with_reducible refine gate_dst (N := 8) rfl ?_); refine box_event ?hg (N := 8) ?hd (cs := #[.int .i64 0, .slice none 0 0]) (t := 28) ?hr ?_; (case hd => rfl); (case hg => rfl); (case hr => first | (go_simp; done) | (go_simp; rfl)); intro g6 hg w6 hbox hb; have HG6 := aM (show w.heap.size ≤ g6 by rw [hg]; exact below_size HB.out); have BK6 := aM hbox; have HB6 := aM (below_step HB.out hb); have HO6 := aM (Kd.R_below HO.out hb); (try (replace hx0 := (hb.cell (World.block_lt_of_cell? _ _ hx0)).trans hx0)); (try (replace hx1 := (hb.cell (World.block_lt_of_cell? _ _ hx1)).trans hx1)); clear hg hbox hb; have hcz6 := (blk_cell BK6.out 0).trans rfl; have hcy6 := (blk_cell BK6.out 1).trans rfl; have hfz6 := blk_frozen BK6.out)
    have hS := Kd.R_set (Kd.R_set HO6.out BK6.out (by decide) 0 (.int .i64 P.f0)) (blk_put BK6.out 0 (.int .i64 P.f0) rfl) (by decide) 1 (.slice AL P.f1.length cL)
    have h6 := blk_put (blk_put BK6.out 0 (.int .i64 P.f0) rfl) 1 (.slice AL P.f1.length cL) rfl
    have hB := below_set (j := 1) (v := .slice AL P.f1.length cL) (below_set (j := 0) (v := .int .i64 P.f0) HB6.out HG6.out) HG6.out
    clear hx0 hx1 hcz6 hcy6 hfz6
    generalize ((w6.setCell ⟨g6, 0, none⟩ (.int .i64 P.f0)).setCell ⟨g6, 1, none⟩ (.slice AL P.f1.length cL)) = w7 at *
    clear HO HB HO6 BK6 HB6
    have HS := aM hS
    have HB := aM hB
    have H6 := aM h6
    clear hS hB h6
    have hx5 : w7.cell? ⟨g6, 0, none⟩ = some (.int .i64 P.f0) := (blk_cell H6.out 0).trans rfl
    have hx6 : w7.cell? ⟨g6, 1, none⟩ = some (.slice AL P.f1.length cL) := (blk_cell H6.out 1).trans rfl
    by_cases c8 : P.f0 < 0
    · have hgo := HGO.out
      rw [if_pos c8] at hgo
      cases hgo
      have c8b : decide (P.f0 < 0) = true := decide_eq_true c8
      clear c8
      go_quiet (fail)
      go_wp2
      go_ret2
      exact ⟨_, rfl, Kd.R_nil _ _ _ _ _, by repeat (first | exact HB.out | apply wA | apply wN | apply wD)⟩
    have hgo := HGO.out
    rw [if_neg c8] at hgo
    obtain ⟨p, hp⟩ := Int.eq_ofNat_of_zero_le (Int.not_lt.1 c8)
    rw [hp] at hgo hx5
    have c8b : decide ((p : Int) < 0) = false := decide_eq_false (by omega)
    rw [Int.toNat_natCast, HBL.out] at hgo
    clear HGO c8 hp
    obtain ⟨q, hq⟩ : ∃ q : Nat, q = (l0.length + 3) / 4 := ⟨_, rfl⟩
    have HCT : ∀ W, (Kd.int .i64).C W Ab b.length b → l0.length ≤ cb → Calls Try.prog 18 #[.slice Ab l0.length cb] W fun e w' => e = .returned (.int .i64 (q : Int)) ∧ ∃ m, w' = W.drewN m := by
      rw [hq]
      intro W hC hc
      rw [← HBL.out] at hc ⊢
      exact (image_Count.calls _ _ b _ W hC hc (image_Apply.cnt (by rw [HBL.out]; exact HL.out))).mono (fun _ _ h => ⟨h.1, h.2.out⟩)
    have HCTH := aM HCT
    clear HCT
    rw [← hq] at hgo
    by_cases c9 : (q : Int) ≤ (p : Int)
    · rw [if_pos c9] at hgo
      cases hgo
      have c9b : decide ((p : Int) ≥ (q : Int)) = true := decide_eq_true c9
      have c9n : decide (q ≤ p) = true := decide_eq_true (by omega)
      clear c9 hq
      go_quiet ((go_at_call 18; exact Calls.quiet_of (HCTH.out _ (Kd.R_reads' (Kd.R_drewN HS.out _)).2.2 (Kd.R_reads' HS.out).2.1)))
      go_wp2
      go_ret2
      exact ⟨_, rfl, Kd.R_nil _ _ _ _ _, by repeat (first | exact HB.out | apply wA | apply wN | apply wD)⟩
    rw [if_neg c9] at hgo
    have c9b : decide ((p : Int) ≥ (q : Int)) = false := decide_eq_false c9
    have c9n : decide (q ≤ p) = false := decide_eq_false (by omega)
    have hpl : 4 * p < l0.length := by omega
    clear c9 hq
    obtain ⟨gp, cp, eA, hgp, hgl, hGP⟩ := Kd.R_form HS.out (by rw [HBL.out]; omega)
    rw [HBL.out] at eA
    cases eA
    clear hgl hGP
    have HGP := aM hgp
    clear hgp
    obtain ⟨lo, hlo⟩ : ∃ lo, lo = 4 * p := ⟨_, rfl⟩
    obtain ⟨m, hm⟩ : ∃ m, m = min (lo + 4) l0.length - lo := ⟨_, rfl⟩
    have hpg : ∀ W, Calls Try.prog 26 #[.slice (some ⟨gp, 0, none⟩) l0.length cb, .int .i64 (p : Int)] W fun e w' => e = .returned (.slice (some ⟨gp, lo, none⟩) m m) ∧ w' = W := by
      intro W
      rw [hm, hlo]
      exact image_Apply.page (g := gp) (c := cb) hpl ((Kd.R_reads' HS.out).2.1) HL.out W
    rw [← hlo, ← hm] at hgo
    by_cases c10 : m = P.f1.length
    case neg =>
      rw [if_neg c10] at hgo
      cases hgo
      have c10b : ((m : Int) == (P.f1.length : Int)) = false := beq_eq_false_iff_ne.mpr (by omega)
      have c10c : (m == P.f1.length) = false := beq_eq_false_iff_ne.mpr c10
      have c10d : ((m : Int) != (P.f1.length : Int)) = true := bne_iff_ne.mpr (by omega)
      have HPG := aM hpg
      clear hpg hm hlo hpl c10
      go_quiet ((go_at_call 18; exact Calls.quiet_of (HCTH.out _ (Kd.R_reads' (Kd.R_drewN HS.out _)).2.2 (Kd.R_reads' HS.out).2.1)))
      go_wp2_with (go_at_call 26; (refine (HPG.out _).mono ?_); rintro e w' ⟨rfl, rfl⟩)
      go_ret2
      exact ⟨_, rfl, Kd.R_nil _ _ _ _ _, by repeat (first | exact HB.out | apply wA | apply wN | apply wD)⟩
    rw [if_pos c10] at hgo
    have HGO := aM hgo
    have hm0 : 0 < m ∧ lo + m ≤ l0.length := by omega
    subst c10
    have HM := aM hm0
    have HPG := aM hpg
    clear hpg hm hlo hpl hgo hm0
    go_quiet ((go_at_call 18; exact Calls.quiet_of (HCTH.out _ (Kd.R_reads' (Kd.R_drewN HS.out _)).2.2 (Kd.R_reads' HS.out).2.1)))
    have hR := Kd.R_drewN HS.out nq
    have hC := Kd.C_below HCL.out (pw_below_drewN HB.out nq)
    obtain ⟨ad, eA, hcell⟩ := (Kd.reads_of_C (d := (0 : Int)) hC).2.2 HM.out.1
    subst eA
    have hcopy : ∀ ty, (Builtin.copy_ #[22, 22] ty #[.slice (some ⟨gp, lo, none⟩) P.f1.length P.f1.length, .slice (some ad) P.f1.length cL]).run Try.prog (w7.drewN nq) = .ok (goInt P.f1.length) ((w7.drewN nq).setCells gp lo (P.f1.map fun y => .int .i64 y)) := by
      intro ty
      have hm := HM.out
      have h_ := run_copy_cells (P := Try.prog) (w7.drewN nq) 22 22 ty 3 gp lo P.f1.length P.f1.length ad P.f1.length cL (P.f1.map fun y => .int .i64 y) Try.underlying22 (by kernel_rfl)
        (by rw [List.length_map]; exact (Nat.min_self _).symm)
        (fun j v hj => by
          rw [List.getElem?_map] at hj
          obtain ⟨x, hx, rfl⟩ := Option.map_eq_some_iff.1 hj
          obtain ⟨hjl, hjx⟩ := List.getElem?_eq_some_iff.1 hx
          have h2_ := hcell j hjl
          rw [List.getD_eq_getElem?_getD, hx] at h2_
          exact h2_)
        (fun j hj => by
          rw [List.length_map] at hj
          have h2_ := (Kd.R_celln 0 hR ((lo + j : Nat) : Int) (by omega) (by omega)).1
          rw [Int.toNat_natCast] at h2_
          rw [h2_]
          rfl)
        (fun j hj => by
          rw [List.length_map] at hj
          have h2_ := (Kd.R_celln 0 hR ((lo + j : Nat) : Int) (by omega) (by omega)).2
          rw [Int.toNat_natCast] at h2_
          exact h2_)
        (fun v hv => by
          obtain ⟨x, _, rfl⟩ := List.mem_map.1 hv
          rfl)
      rw [List.length_map] at h_
      exact h_
    have hw1 : wrap64 ((i : Int) + 1) = ((i + 1 : Nat) : Int) := by have := HLT.out; unfold wrap64; omega
    have hw2 : IntKind.i64.wrap ((i : Int) + 1) = ((i + 1 : Nat) : Int) := (i64_w _).trans hw1
    go_wp2_with (first | (go_at_call 26; (refine (HPG.out _).mono ?_); rintro e w' ⟨rfl, rfl⟩) | (simp only [hcopy]))
    have hr := image_Apply.R_fill P.f1 lo hR (by rw [HBL.out]; exact HM.out.2)
    have hB2 := pw_below_grown (pw_below_drewN HB.out nq) (some gp) (pw_below_drewN HB.out nq).size hr.2 (fun k_ e_ => by cases e_; exact HGP.out)
    go_roundw
    case rel => exact ⟨i + 1, image_Apply.fill b lo P.f1, rfl, by have := HLT.out; omega, by rw [image_Apply.fill_length]; exact HBL.out, HGO.out, hr.1, hB2⟩
    case measure => have := HLT.out; simp [intOf]; omega

end Go.Proofs.Ytkjnledamamniaa.PIm
