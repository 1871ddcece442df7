-- Laid by wip/tools/xprint.py, a program of this session over the kit's print: functions as Lean functions, each with its contract.
import Derived.Test.YtmlphabhldahlaaPFkx0
import Derived.Test.YtmlphabhldahlaaPFkx1
import Derived.Test.YtmlphabhldahlaaPFkx3
import Derived.Test.YtmlphabhldahlaaPFkx11
import Derived.Test.YtmlphabhldahlaaPFkx12
namespace Go.Proofs.Ytmlphabhldahlaa.PFk
open Go.RowKit Go.Proofs.YtmlphabhldahlaaW.PrintWords Go.Proofs.YtmlphabhldahlaaW.PrintLast Go.Proofs.YtmlphabhldahlaaW.PrintMore
attribute [local go_sem] max2_int min2_int max_two min_two max_three min_three max_four min_four   -- for this text's walks alone
set_option linter.unusedVariables false
set_option linter.unusedSimpArgs false

/-- The body's frame stands at the offset: the body and the offset behind it, or the error. -/
def frame_Next.tail (b : List Int) (p : Int) (y : List Int) : Option (List Int × Int × Int) :=
  if 0 ≤ p ∧ p + 8 + (y.length : Int) ≤ (b.length : Int) ∧ y.length ≤ 4096 then (crc_Of.f (frame_Seal.le (y.length : Int))).bind fun a => (crc_Update.f a y).bind fun s => if 0 ≤ s ∧ s < 4294967296 then (if frame_Seal.le (y.length : Int) ++ frame_Seal.le s = (b.drop p.toNat).take 8 then some (y, p + 8 + (y.length : Int), 0) else some ([], 0, 10)) else none else none
theorem frame_Next.part_row {P : Program} {w : World} {e : TypeId} (he : P.underlying e = some (.int .u8)) {xs : List Int} {i : Nat} (hi : i < xs.length) : (part e (frame_Seal.row xs) i).run P w = .ok (.int .u8 xs[i]) w := by
  simp [part, Sem.run_bind, isAgg, run_underlying he, frame_Seal.row, hi]
theorem frame_Next.eq_loop {P : Program} {w : World} {d e n : Nat} (he : P.underlying e = some (.int .u8)) {xs ys : List Int} (hx : xs.length = n) (hy : ys.length = n) :
    ∀ (is : List Nat) (_ : ∀ j ∈ is, j < n) , (∀ j, j < n → j ∉ is → xs[j]? = ys[j]?) → (Sem.run P (do
      let r ← forIn (m := Sem) is ((none, ()) : Option Bool × Unit) fun i (_ : Option Bool × Unit) => do
        let a ← part e (frame_Seal.row xs) (i * 1)
        let b ← part e (frame_Seal.row ys) (i * 1)
        let c ← Op.equalIn (d+1) e a b
        if (!c) = true then pure (ForInStep.done ((some false, ()) : Option Bool × Unit)) else pure (ForInStep.yield ((none, ()) : Option Bool × Unit))
      match r.fst with | some a => pure a | none => pure true) w) = .ok (decide (xs = ys)) w := by
    intro is
    induction is with
    | nil =>
      intro _ h
      have : xs = ys := by
        apply List.ext_getElem?
        intro j
        by_cases hj : j < n
        · exact h j hj (by simp)
        · rw [List.getElem?_eq_none (by omega), List.getElem?_eq_none (by omega)]
      simp [this]
    | cons j js ih =>
      intro hb h
      have hj : j < n := hb j (by simp)
      simp only [List.forIn_cons, Sem.run_bind, Nat.mul_one, frame_Next.part_row he (show j < xs.length by omega), frame_Next.part_row he (show j < ys.length by omega), Result.andThen_ok, run_equalIn_int w d e .u8 .u8 _ _ he]
      by_cases hc : xs[j] = ys[j]
      · have := ih (fun k hk => hb k (by simp [hk])) (fun k hk hn => by
          by_cases e : k = j
          · subst e; rw [List.getElem?_eq_getElem (by omega), List.getElem?_eq_getElem (by omega), hc]
          · exact h k hk (by simp [e, hn]))
        simp only [Sem.run_bind, Nat.mul_one] at this
        simpa [hc] using this
      · have hne : xs ≠ ys := fun e => hc (by simp [e])
        simp [hc, hne]
theorem frame_Next.eq_row {P : Program} {w : World} {d t e n : Nat} {i : TypeInfo} (ht : P.underlying t = some (.array n e)) (he : P.underlying e = some (.int .u8)) (hi : P.info? e = some i) (hz : i.size = 1) {xs ys : List Int} (hx : xs.length = n) (hy : ys.length = n) :
    (Op.equalIn (d + 2) t (.agg (frame_Seal.row xs)) (.agg (frame_Seal.row ys))).run P w = .ok (decide (xs = ys)) w := by
  have h1 : (sizeOf e).run P w = .ok 1 w := by simp [sizeOf, typeInfo, hi, hz]
  rw [Op.equalIn]
  simp only [Sem.run_bind, run_underlying ht, Result.andThen_ok, h1]
  have := frame_Next.eq_loop (P := P) (w := w) (d := d) (e := e) he hx hy (List.range' 0 n) (fun j hj => by simp at hj; omega) (fun j hj hn => by simp at hn; omega)
  rw [Sem.run_bind] at this
  simp only [Std.Legacy.Range.forIn_eq_forIn_range', Std.Legacy.Range.size, Nat.sub_zero, Nat.add_sub_cancel, Nat.div_one]
  refine Eq.trans ?_ this
  congr 1
  funext a w'
  obtain ⟨o, u⟩ := a
  cases o <;> rfl
theorem frame_Next.eight {z : List Int} (h : z.length = 8) : ∃ z0 z1 z2 z3 z4 z5 z6 z7 : Int, z = [z0, z1, z2, z3, z4, z5, z6, z7] := by
  match z, h with
  | [a, b, c, d, e, f, g, k], _ => exact ⟨a, b, c, d, e, f, g, k, rfl⟩

/-! ### frame_Next: function 17 -/
def frame_Next.j0 : Nat → List Int → Int → Bool → Option (List Int × Int × Int)
 | 0, _, _, _ => none
 | k + 1, x0, x1, x9 => if x9 = true then (some (([] : List Int), 0, 3)) else (if x1 = (x0.length : Int) then (some (([] : List Int), 0, 11)) else (if (wrap64 ((x0.length : Int) - x1)) < 8 then (some (([] : List Int), 0, 8)) else (if 0 ≤ x1 then (if x1 ≤ (x0.length : Int) then ((frame_number.f (x0.drop (x1 : Int).toNat)).bind fun t185 => (if t185 > 4096 then (some (([] : List Int), 0, 5)) else (if (wrap64 ((wrap64 ((x0.length : Int) - x1)) - 8)) < (wrap64 (t185)) then (some (([] : List Int), 0, 8)) else (if 0 ≤ (wrap64 (x1 + 8)) then (if (wrap64 (x1 + 8)) ≤ (wrap64 ((wrap64 (x1 + 8)) + (wrap64 (t185)))) then (if (wrap64 ((wrap64 (x1 + 8)) + (wrap64 (t185)))) ≤ (x0.length : Int) then (frame_Next.tail x0 x1 ((x0.take ((wrap64 ((wrap64 (x1 + 8)) + (wrap64 (t185)))) : Int).toNat).drop ((wrap64 (x1 + 8)) : Int).toNat)) else (none)) else (none)) else (none))))) else (none)) else (none))))
def frame_Next.f (k : Nat) (l0 : List Int) (a1 : Int) : Option (List Int × Int × Int) := if a1 < 0 then (frame_Next.j0 k l0 a1 true) else (frame_Next.j0 k l0 a1 (decide (a1 > (l0.length : Int))))
theorem frame_Next.mono_l : ∀ k, (∀ y0 y1 y2, LeO (frame_Next.j0 k y0 y1 y2) (frame_Next.j0 (k + 1) y0 y1 y2))
 | 0 => fun _ _ _ r h => by simp [frame_Next.j0] at h
 | k + 1 => by
  have ih0 := frame_Next.mono_l k
  ·intro y0 y1 y2
   unfold frame_Next.j0
   repeat' first
   | (with_reducible exact ih0 _ _ _)
   | (with_reducible exact LeO.refl _)
   | (with_reducible exact LeO.none _)
   | (with_reducible refine LeO.ite ?_ ?_)
   | (with_reducible refine LeO.bind ?_ (fun _ => ?_))
   | exact ih0 _ _ _
   | exact LeO.none _
   | refine LeO.ite ?_ ?_
   | refine LeO.bind ?_ (fun _ => ?_)
theorem frame_Next.mono : ∀ a0 a1 k, LeO (frame_Next.f k a0 a1) (frame_Next.f (k + 1) a0 a1) := by
 intro a0 a1 k
 have ih0 := frame_Next.mono_l k
 unfold frame_Next.f
 repeat' first
   | (with_reducible exact ih0 _ _ _)
   | (with_reducible exact LeO.refl _)
   | (with_reducible exact LeO.none _)
   | (with_reducible refine LeO.ite ?_ ?_)
   | (with_reducible refine LeO.bind ?_ (fun _ => ?_))
   | exact ih0 _ _ _
   | exact LeO.none _
   | refine LeO.ite ?_ ?_
   | refine LeO.bind ?_ (fun _ => ?_)
set_option maxHeartbeats 8000000 in
set_option maxRecDepth 100000 in
theorem frame_Next.calls (k : Nat) (A0 : Option Addr) (c0 : Nat) (l0 : List Int) (a1 : Int) (r1 : List Int) (r2 : Int) (r3 : Int) (w : World) (hr0 : Kd.C (Kd.int .u8) w A0 l0.length l0) (hc0 : l0.length ≤ c0) (h : frame_Next.f k l0 a1 = some (r1, r2, r3)) :
  Calls Try.prog 17 #[.slice A0 l0.length c0, .int .i64 a1] w fun e w' => ∃ v0_ : Value, e = .returned (.tuple #[v0_, .int .i64 r2, .int .i64 r3]) ∧ Kd.R (Kd.int .u8) 5 w' w.heap.size (fun _ => True) v0_ r1 ∧ Below w.heap.size w w' := by
 have HR0 := aM hr0
 have HC0 := aM hc0
 clear hr0 hc0
 have HB := aM (Below.refl w.heap.size w)
 have H : (if a1 < 0 then (frame_Next.j0 k l0 a1 true) else (frame_Next.j0 k l0 a1 (decide (a1 > (l0.length : Int))))) = some (r1, r2, r3) := h
 clear h
 have HC3 := aM H
 clear H
 go_enter Try.func17, Try.ntmps17
 go_upto_region 1 with (fail)
 go_cut [9] (fun v9 wc => ∃ (kq : Nat) (x9_2 : Bool), v9 = .bool x9_2 ∧ Aside0 (frame_Next.j0 kq l0 a1 x9_2 = some (r1, r2, r3)) ∧ Aside0 (kq ≤ k) ∧ Aside0 (Below w.heap.size w wc))
 case first =>
  have H := HC3.out
  clear HC3
  by_cases c4 : a1 < 0
  ·rw [if_pos c4] at H
   have c4b0 : decide (a1 < 0) = true := decide_eq_true c4
   clear c4
   (first | rw [c4b0] | (simp only [i64_w, i32_w]; rw [c4b0]) | skip)
   have H' := aM H
   clear H
   go_wp2
   go_meet
   case rel => exact ⟨_, (true), (by first | rfl | (simp; done) | (simp [*]; done)), H', ⟨by first | omega | exact Nat.le_refl _⟩, ⟨by repeat (first | (with_reducible first | exact HB.out | apply wA | apply wN | apply wD) | exact HB.out)⟩⟩
  ·rw [if_neg c4] at H
   have c4b0 : decide (a1 < 0) = false := decide_eq_false c4
   clear c4
   (first | rw [c4b0] | (simp only [i64_w, i32_w]; rw [c4b0]) | skip)
   have H' := aM H
   clear H
   go_wp2
   go_meet
   case rel => exact ⟨_, (decide (a1 > (l0.length : Int))), (by first | rfl | (simp; done) | (simp [*]; done)), H', ⟨by first | omega | exact Nat.le_refl _⟩, ⟨by repeat (first | (with_reducible first | exact HB.out | apply wA | apply wN | apply wD) | exact HB.out)⟩⟩
 case rest =>
  clear HC3
  try clear c1
  try clear p2
  try clear c4
  try clear c4b0
  obtain ⟨kq, x9_2, rfl, HA, HJ2, HB⟩ := hcut
  cases kq with
  | zero => exact absurd HA.out (by simp [frame_Next.j0])
  | succ kj2 =>
   have H := HA.out
   clear HA
   simp only [frame_Next.j0] at H
   by_cases c5 : x9_2 = true
   ·subst c5
    have H1 : (some (([] : List Int), 0, 3)) = some (r1, r2, r3) := by rw [if_pos rfl] at H; exact H
    clear H
    have H := H1
    clear H1
    simp only [Option.some.injEq, Prod.mk.injEq] at H
    obtain ⟨rfl, rfl, rfl⟩ := H
    go_wp2
    go_ret3
    exact ⟨_, by first | rfl | (simp [errW_none, errW_some] <;> rfl) | (simp [*, errW_none, errW_some] <;> rfl), by first | exact Kd.R_nil _ _ _ _ _ | exact Kd.N_nil _ _ _ _ _ | exact Kd.V_nil _ _ _ _ _ | exact Kd.Q_nil _ _ _ _ _ | exact Kd.S_nil _ _ _ _ _, by repeat (first | (with_reducible first | exact HB.out | apply wA | apply wN | apply wD) | exact HB.out)⟩
   ·replace c5 := Bool.eq_false_iff.mpr c5
    subst c5
    have H1 : (if a1 = (l0.length : Int) then (some (([] : List Int), 0, 11)) else (if (wrap64 ((l0.length : Int) - a1)) < 8 then (some (([] : List Int), 0, 8)) else (if 0 ≤ a1 then (if a1 ≤ (l0.length : Int) then ((frame_number.f (l0.drop (a1 : Int).toNat)).bind fun t185 => (if t185 > 4096 then (some (([] : List Int), 0, 5)) else (if (wrap64 ((wrap64 ((l0.length : Int) - a1)) - 8)) < (wrap64 (t185)) then (some (([] : List Int), 0, 8)) else (if 0 ≤ (wrap64 (a1 + 8)) then (if (wrap64 (a1 + 8)) ≤ (wrap64 ((wrap64 (a1 + 8)) + (wrap64 (t185)))) then (if (wrap64 ((wrap64 (a1 + 8)) + (wrap64 (t185)))) ≤ (l0.length : Int) then (frame_Next.tail l0 a1 ((l0.take ((wrap64 ((wrap64 (a1 + 8)) + (wrap64 (t185)))) : Int).toNat).drop ((wrap64 (a1 + 8)) : Int).toNat)) else (none)) else (none)) else (none))))) else (none)) else (none)))) = some (r1, r2, r3) := by rw [if_neg (show ¬ (false = true) by decide)] at H; exact H
    clear H
    have H := H1
    clear H1
    by_cases c6 : a1 = (l0.length : Int)
    ·rw [if_pos c6] at H
     have c6b0 : (a1 == (l0.length : Int)) = true := beq_iff_eq.mpr c6
     have c6b1 : (a1 != (l0.length : Int)) = false := bne_eq_false_iff_eq.mpr c6
     clear c6
     simp only [Option.some.injEq, Prod.mk.injEq] at H
     obtain ⟨rfl, rfl, rfl⟩ := H
     go_wp2
     go_ret3
     exact ⟨_, by first | rfl | (simp [errW_none, errW_some] <;> rfl) | (simp [*, errW_none, errW_some] <;> rfl), by first | exact Kd.R_nil _ _ _ _ _ | exact Kd.N_nil _ _ _ _ _ | exact Kd.V_nil _ _ _ _ _ | exact Kd.Q_nil _ _ _ _ _ | exact Kd.S_nil _ _ _ _ _, by repeat (first | (with_reducible first | exact HB.out | apply wA | apply wN | apply wD) | exact HB.out)⟩
    ·rw [if_neg c6] at H
     have c6b0 : (a1 == (l0.length : Int)) = false := beq_eq_false_iff_ne.mpr c6
     have c6b1 : (a1 != (l0.length : Int)) = true := bne_iff_ne.mpr c6
     by_cases c7 : (wrap64 ((l0.length : Int) - a1)) < 8
     ·rw [if_pos c7] at H
      have c7b0 : decide ((wrap64 ((l0.length : Int) - a1)) < 8) = true := decide_eq_true c7
      clear c7
      simp only [Option.some.injEq, Prod.mk.injEq] at H
      obtain ⟨rfl, rfl, rfl⟩ := H
      go_wp2
      go_ret3
      exact ⟨_, by first | rfl | (simp [errW_none, errW_some] <;> rfl) | (simp [*, errW_none, errW_some] <;> rfl), by first | exact Kd.R_nil _ _ _ _ _ | exact Kd.N_nil _ _ _ _ _ | exact Kd.V_nil _ _ _ _ _ | exact Kd.Q_nil _ _ _ _ _ | exact Kd.S_nil _ _ _ _ _, by repeat (first | (with_reducible first | exact HB.out | apply wA | apply wN | apply wD) | exact HB.out)⟩
     ·rw [if_neg c7] at H
      have c7b0 : decide ((wrap64 ((l0.length : Int) - a1)) < 8) = false := decide_eq_false c7
      clear c7
      by_cases c8 : 0 ≤ a1
      ·rw [if_pos c8] at H
       have c8b0 := eq_true c8
       have c8b1 : decide (0 ≤ a1) = true := decide_eq_true c8
       clear c8
       by_cases c9 : a1 ≤ (l0.length : Int)
       ·rw [if_pos c9] at H
        have c9b0 := eq_true c9
        have c9b1 : decide (a1 ≤ (l0.length : Int)) = true := decide_eq_true c9
        clear c9
        replace H := Option.bind_eq_some_iff.mp H
        obtain ⟨t185, A100, H⟩ := H
        replace H : (if t185 > 4096 then (some (([] : List Int), 0, 5)) else (if (wrap64 ((wrap64 ((l0.length : Int) - a1)) - 8)) < (wrap64 (t185)) then (some (([] : List Int), 0, 8)) else (if 0 ≤ (wrap64 (a1 + 8)) then (if (wrap64 (a1 + 8)) ≤ (wrap64 ((wrap64 (a1 + 8)) + (wrap64 (t185)))) then (if (wrap64 ((wrap64 (a1 + 8)) + (wrap64 (t185)))) ≤ (l0.length : Int) then (frame_Next.tail l0 a1 ((l0.take ((wrap64 ((wrap64 (a1 + 8)) + (wrap64 (t185)))) : Int).toNat).drop ((wrap64 (a1 + 8)) : Int).toNat)) else (none)) else (none)) else (none)))) = some (r1, r2, r3) := H
        have A10 := aM A100
        clear A100
        by_cases c11 : t185 > 4096
        ·rw [if_pos c11] at H
         have c11b0 : decide (4096 < t185) = true := decide_eq_true c11
         clear c11
         simp only [Option.some.injEq, Prod.mk.injEq] at H
         obtain ⟨rfl, rfl, rfl⟩ := H
         obtain ⟨i012, hi012, _, hsz12, _⟩ := info_parts info5
         obtain ⟨A12, hcut12, hA12, hC12⟩ := print_drop_of (P := Try.prog) (Value.int .u8) 0 22 5 .i64 Try.underlying22 hi012 hsz12 A0 c0 l0 a1 (of_decide_eq_true (by first | (with_reducible assumption) | assumption)) (of_decide_eq_true (by first | (with_reducible assumption) | assumption)) HC0.out
         have HR184 := aM (Kd.C_of_reads (h1 := fun _ => rfl) (hA12 _ (Kd.reads_of_C HR0.out)))
         have HC184 := aM hC12
         clear hA12 hC12 hi012 hsz12
         go_wp2_with (first | ((with_reducible refine gate_callee (f := 27) rfl ?_); refine goesL_ (some 32) rfl rfl Try.func27 (by kernel_rfl) rfl #[.slice A12 (l0.drop (a1 : Int).toNat).length (c0 - a1.toNat)] rfl (by (try simp only [List.map_toArray, List.map_cons, List.map_nil]); first | done | (rw [show (l0.drop (a1 : Int).toNat).length = (l0.length - a1.toNat) from List.length_drop] <;> rfl) | rfl | (simp only [List.length_drop, List.length_take]; rfl)) ?_; (with_reducible refine (frame_number.calls _ _ (l0.drop (a1 : Int).toNat) t185 _ ?side1 ?side2 A10.out).mono ?_); (case side1 => repeat (first | exact (Kd.C_below HR184.out HB.out) | (with_reducible refine Kd.C_alloc ?_ _) | (with_reducible refine Kd.C_drewN ?_ _) | (with_reducible refine Kd.C_drew ?_))); (case side2 => exact HC184.out); rintro e w' ⟨rfl, ⟨nd, rfl⟩⟩; refine ⟨_, rfl, ?_⟩))
         go_ret3
         exact ⟨_, by first | rfl | (simp [errW_none, errW_some] <;> rfl) | (simp [*, errW_none, errW_some] <;> rfl), by first | exact Kd.R_nil _ _ _ _ _ | exact Kd.N_nil _ _ _ _ _ | exact Kd.V_nil _ _ _ _ _ | exact Kd.Q_nil _ _ _ _ _ | exact Kd.S_nil _ _ _ _ _, by repeat (first | (with_reducible first | exact HB.out | apply wA | apply wN | apply wD) | exact HB.out)⟩
        ·rw [if_neg c11] at H
         have c11b0 : decide (4096 < t185) = false := decide_eq_false c11
         clear c11
         by_cases c13 : (wrap64 ((wrap64 ((l0.length : Int) - a1)) - 8)) < (wrap64 (t185))
         ·rw [if_pos c13] at H
          have c13b0 : decide ((wrap64 ((wrap64 ((l0.length : Int) - a1)) - 8)) < (wrap64 (t185))) = true := decide_eq_true c13
          clear c13
          simp only [Option.some.injEq, Prod.mk.injEq] at H
          obtain ⟨rfl, rfl, rfl⟩ := H
          obtain ⟨i014, hi014, _, hsz14, _⟩ := info_parts info5
          obtain ⟨A14, hcut14, hA14, hC14⟩ := print_drop_of (P := Try.prog) (Value.int .u8) 0 22 5 .i64 Try.underlying22 hi014 hsz14 A0 c0 l0 a1 (of_decide_eq_true (by first | (with_reducible assumption) | assumption)) (of_decide_eq_true (by first | (with_reducible assumption) | assumption)) HC0.out
          have HR184 := aM (Kd.C_of_reads (h1 := fun _ => rfl) (hA14 _ (Kd.reads_of_C HR0.out)))
          have HC184 := aM hC14
          clear hA14 hC14 hi014 hsz14
          go_wp2_with (first | ((with_reducible refine gate_callee (f := 27) rfl ?_); refine goesL_ (some 32) rfl rfl Try.func27 (by kernel_rfl) rfl #[.slice A14 (l0.drop (a1 : Int).toNat).length (c0 - a1.toNat)] rfl (by (try simp only [List.map_toArray, List.map_cons, List.map_nil]); first | done | (rw [show (l0.drop (a1 : Int).toNat).length = (l0.length - a1.toNat) from List.length_drop] <;> rfl) | rfl | (simp only [List.length_drop, List.length_take]; rfl)) ?_; (with_reducible refine (frame_number.calls _ _ (l0.drop (a1 : Int).toNat) t185 _ ?side1 ?side2 A10.out).mono ?_); (case side1 => repeat (first | exact (Kd.C_below HR184.out HB.out) | (with_reducible refine Kd.C_alloc ?_ _) | (with_reducible refine Kd.C_drewN ?_ _) | (with_reducible refine Kd.C_drew ?_))); (case side2 => exact HC184.out); rintro e w' ⟨rfl, ⟨nd, rfl⟩⟩; refine ⟨_, rfl, ?_⟩))
          go_ret3
          exact ⟨_, by first | rfl | (simp [errW_none, errW_some] <;> rfl) | (simp [*, errW_none, errW_some] <;> rfl), by first | exact Kd.R_nil _ _ _ _ _ | exact Kd.N_nil _ _ _ _ _ | exact Kd.V_nil _ _ _ _ _ | exact Kd.Q_nil _ _ _ _ _ | exact Kd.S_nil _ _ _ _ _, by repeat (first | (with_reducible first | exact HB.out | apply wA | apply wN | apply wD) | exact HB.out)⟩
         ·rw [if_neg c13] at H
          have c13b0 : decide ((wrap64 ((wrap64 ((l0.length : Int) - a1)) - 8)) < (wrap64 (t185))) = false := decide_eq_false c13
          clear c13
          obtain ⟨ji15, hji15⟩ : ∃ j_ : Int, (wrap64 (a1 + 8)) = j_ := ⟨_, rfl⟩
          replace H : (if 0 ≤ (ji15) then (if (ji15) ≤ (wrap64 ((ji15) + (wrap64 (t185)))) then (if (wrap64 ((ji15) + (wrap64 (t185)))) ≤ (l0.length : Int) then (frame_Next.tail l0 a1 ((l0.take ((wrap64 ((ji15) + (wrap64 (t185)))) : Int).toNat).drop ((ji15) : Int).toNat)) else (none)) else (none)) else (none)) = some (r1, r2, r3) := by first | (rw [hji15] at H; exact H) | (simp only [hji15] at H ⊢; exact H)
          (try rw [hji15] at A10)
          have hji15w : (IntKind.i64.wrap (a1 + 8)) = ji15 := (i64_w _).trans hji15
          by_cases c16 : 0 ≤ (ji15)
          ·rw [if_pos c16] at H
           have c16b0 := eq_true c16
           have c16b1 : decide (0 ≤ (ji15)) = true := decide_eq_true c16
           clear c16
           by_cases c17 : (ji15) ≤ (wrap64 ((ji15) + (wrap64 (t185))))
           ·rw [if_pos c17] at H
            have c17b0 := eq_true c17
            have c17b1 : decide ((ji15) ≤ (wrap64 ((ji15) + (wrap64 (t185))))) = true := decide_eq_true c17
            by_cases c18 : (wrap64 ((ji15) + (wrap64 (t185)))) ≤ (l0.length : Int)
            ·rw [if_pos c18] at H
             have c18b0 := eq_true c18
             have c18b1 : decide ((wrap64 ((ji15) + (wrap64 (t185)))) ≤ (l0.length : Int)) = true := decide_eq_true c18
             obtain ⟨i019, hi019, _, hsz19, _⟩ := info_parts info5
             obtain ⟨A19, hcut19, hA19, hC19⟩ := print_drop_of (P := Try.prog) (Value.int .u8) 0 22 5 .i64 Try.underlying22 hi019 hsz19 A0 c0 l0 a1 (of_decide_eq_true (by first | (with_reducible assumption) | assumption)) (of_decide_eq_true (by first | (with_reducible assumption) | assumption)) HC0.out
             have HR184 := aM (Kd.C_of_reads (h1 := fun _ => rfl) (hA19 _ (Kd.reads_of_C HR0.out)))
             have HC184 := aM hC19
             clear hA19 hC19 hi019 hsz19
             go_wp2_with (first | ((with_reducible refine gate_callee (f := 27) rfl ?_); refine goesL_ (some 32) rfl rfl Try.func27 (by kernel_rfl) rfl #[.slice A19 (l0.drop (a1 : Int).toNat).length (c0 - a1.toNat)] rfl (by (try simp only [List.map_toArray, List.map_cons, List.map_nil]); first | done | (rw [show (l0.drop (a1 : Int).toNat).length = (l0.length - a1.toNat) from List.length_drop] <;> rfl) | rfl | (simp only [List.length_drop, List.length_take]; rfl)) ?_; (with_reducible refine (frame_number.calls _ _ (l0.drop (a1 : Int).toNat) t185 _ ?side1 ?side2 A10.out).mono ?_); (case side1 => repeat (first | exact (Kd.C_below HR184.out HB.out) | (with_reducible refine Kd.C_alloc ?_ _) | (with_reducible refine Kd.C_drewN ?_ _) | (with_reducible refine Kd.C_drew ?_))); (case side2 => exact HC184.out); rintro e w' ⟨rfl, ⟨nd, rfl⟩⟩; refine ⟨_, rfl, ?_⟩; obtain ⟨i020, hi020, _, hsz20, _⟩ := info_parts info5; obtain ⟨A20, hcut20, hA20, hC20⟩ := print_mid_of (P := Try.prog) (Value.int .u8) 0 22 5 .i64 .i64 Try.underlying22 hi020 hsz20 A0 c0 l0 (ji15) (wrap64 ((ji15) + (wrap64 (t185)))) (of_decide_eq_true (by first | (with_reducible assumption) | assumption)) (by first | omega | exact of_decide_eq_true (by first | (with_reducible assumption) | assumption)) (of_decide_eq_true (by first | (with_reducible assumption) | assumption)) HC0.out; have HR186 := aM (Kd.C_of_reads (h1 := fun _ => rfl) (hA20 _ (Kd.reads_of_C HR0.out))); have HC186 := aM hC20; clear hA20 hC20 hi020 hsz20))
             unfold frame_Next.tail at H
             obtain ⟨y, hy⟩ : ∃ y_ : List Int, y_ = (l0.take ((wrap64 ((ji15) + (wrap64 (t185)))) : Int).toNat).drop ((ji15) : Int).toNat := ⟨_, rfl⟩
             rw [← hy] at H
             by_cases hc : 0 ≤ a1 ∧ a1 + 8 + (y.length : Int) ≤ (l0.length : Int) ∧ y.length ≤ 4096
             case neg => rw [if_neg hc] at H; exact absurd H (by simp)
             rw [if_pos hc] at H
             obtain ⟨hc1, hc2, hc3⟩ := hc
             replace H := Option.bind_eq_some_iff.1 H
             obtain ⟨a, hA, H⟩ := H
             replace H := Option.bind_eq_some_iff.1 H
             obtain ⟨s, hS, H⟩ := H
             by_cases hs : 0 ≤ s ∧ s < 4294967296
             case neg => rw [if_neg hs] at H; exact absurd H (by simp)
             rw [if_pos hs] at H
             have hm := HR0.out.2.1
             have hcc := HC0.out
             have hE : (wrap64 ((ji15) + (wrap64 (t185)))) ≤ (l0.length : Int) := by assumption
             have hE2 : (ji15) ≤ (wrap64 ((ji15) + (wrap64 (t185)))) := by assumption
             have hJ : (ji15) = a1 + 8 := by
              have h_ : wrap64 (a1 + 8) = (ji15) := by first | assumption | rfl
              rw [← h_]
              unfold wrap64
              omega
             have hlen : ((wrap64 ((ji15) + (wrap64 (t185))))).toNat - ((ji15)).toNat = y.length := by
              rw [hy, List.length_drop, List.length_take, Nat.min_eq_left (by omega)]
             have hR := HR186.out
             have hC := HC186.out
             rw [← hy] at hR hC
             obtain ⟨ad0, eA, hcell⟩ := (Kd.reads_of_C (d := (0 : Int)) HR0.out).2.2 (by omega)
             obtain ⟨i0, hi0, _, hsz, _⟩ := info_parts info5
             obtain ⟨ad1, had1⟩ : ∃ a_, a_ = ad0.add a1.toNat := ⟨_, rfl⟩
             obtain ⟨z, hz⟩ : ∃ z_ : List Int, z_ = (l0.drop a1.toNat).take 8 := ⟨_, rfl⟩
             have hzl : z.length = 8 := by rw [hz, List.length_take, List.length_drop]; omega
             have hcut3 : ∀ W : World, Sem.run Try.prog (Instr.slice 22 (Value.slice A0 l0.length c0) (some (Value.int IntKind.i64 a1)) (some (Value.int IntKind.i64 ((ji15)))) none) W = .ok (.slice (some ad1) 8 (c0 - a1.toNat)) W := by
              intro W
              rw [cut_mid (P := Try.prog) 22 5 .i64 .i64 Try.underlying22 hi0 1 hsz A0 l0.length c0 a1 ((ji15)) (by omega) (by omega) (by omega) hcc W, if_neg (by omega), eA, Option.map_some, Nat.mul_one, ← had1, show ((ji15)).toNat - a1.toNat = 8 by omega]
             obtain ⟨z0, z1, z2, z3, z4, z5, z6, z7, hz8⟩ := frame_Next.eight hzl
             have hLOAD : ∀ W_ : World, Below w.heap.size w W_ → W_.cell? ad1 = some (.int .u8 z0) ∧ W_.cell? ⟨ad1.block, ad1.off + 1, none⟩ = some (.int .u8 z1) ∧ W_.cell? ⟨ad1.block, ad1.off + 2, none⟩ = some (.int .u8 z2) ∧ W_.cell? ⟨ad1.block, ad1.off + 3, none⟩ = some (.int .u8 z3) ∧ W_.cell? ⟨ad1.block, ad1.off + 4, none⟩ = some (.int .u8 z4) ∧ W_.cell? ⟨ad1.block, ad1.off + 5, none⟩ = some (.int .u8 z5) ∧ W_.cell? ⟨ad1.block, ad1.off + 6, none⟩ = some (.int .u8 z6) ∧ W_.cell? ⟨ad1.block, ad1.off + 7, none⟩ = some (.int .u8 z7) := by
              intro W hb
              have hk : ∀ j x, z[j]? = some x → W.cell? (ad1.add j) = some (.int .u8 x) := by
               intro j x hx
               obtain ⟨hj, hx'⟩ := List.getElem?_eq_some_iff.1 hx
               have h_ := hcell (a1.toNat + j) (by omega)
               rw [← add_add, ← had1] at h_
               rw [(hb.cell (World.block_lt_of_cell? w _ h_)).trans h_]
               rw [hz, List.getElem?_take_of_lt (by omega), List.getElem?_drop] at hx
               rw [List.getD_eq_getElem?_getD, hx]
               rfl
              rw [hz8] at hk
              have ha : ∀ j, 0 < j → ad1.add j = ⟨ad1.block, ad1.off + j, none⟩ := fun j h => by unfold Addr.add; rw [if_neg (by omega)]
              refine ⟨?_, ?_, ?_, ?_, ?_, ?_, ?_, ?_⟩
              ·exact hk 0 _ rfl
              ·rw [← ha 1 (by omega)]; exact hk 1 _ rfl
              ·rw [← ha 2 (by omega)]; exact hk 2 _ rfl
              ·rw [← ha 3 (by omega)]; exact hk 3 _ rfl
              ·rw [← ha 4 (by omega)]; exact hk 4 _ rfl
              ·rw [← ha 5 (by omega)]; exact hk 5 _ rfl
              ·rw [← ha 6 (by omega)]; exact hk 6 _ rfl
              ·rw [← ha 7 (by omega)]; exact hk 7 _ rfl
             have HLOAD := aM hLOAD
             have heq : ∀ W : World, (Op.equalIn 10000 43 (.agg (frame_Seal.row (frame_Seal.le (y.length : Int) ++ frame_Seal.le s))) (.agg (frame_Seal.row z))).run Try.prog W = .ok (decide (frame_Seal.le (y.length : Int) ++ frame_Seal.le s = z)) W := fun W =>
              frame_Next.eq_row (d := 9998) Try.underlying43 Try.underlying5 hi0 hsz rfl hzl
             have HEQ := aM heq
             have hgt : Try.prog.eqGuardType Try.prog.depth 43 = false := by kernel_rfl
             have harr : ∀ (W : World) (c : Nat), (Instr.arrayAt 43 (.slice (some ad1) 8 c)).run Try.prog W = .ok (.pointer (some ad1)) W := fun W c => by simp [Instr.arrayAt, Sem.run_bind, run_underlying Try.underlying43]
             have HRY := aM hR
             have HCY := aM hC
             have HA := aM hA
             have HS := aM hS
             have HS0 := aM hs.1
             have HS1 := aM hs.2
             have HY := aM hc3
             have HSUM := aM (show a1 + 8 + (y.length : Int) ≤ 9223372036854775807 by omega)
             have HJ := aM hJ
             clear hE hE2 hLOAD heq hR hC hA hS hs hc3 hcell had1 hzl hsz hi0 eA hcc hm hc2 hJ
             rw [hlen]
             clear hlen hy
             by_cases hd : frame_Seal.le (y.length : Int) ++ frame_Seal.le s = z
             ·rw [if_pos (hd.trans hz)] at H
              simp only [Option.some.injEq, Prod.mk.injEq] at H
              obtain ⟨rfl, rfl, rfl⟩ := H
              have heq1 : ∀ W : World, (Op.equalIn 10000 43 (.agg (frame_Seal.row (frame_Seal.le (y.length : Int) ++ frame_Seal.le s))) (.agg #[.int .u8 z0, .int .u8 z1, .int .u8 z2, .int .u8 z3, .int .u8 z4, .int .u8 z5, .int .u8 z6, .int .u8 z7])).run Try.prog W = .ok true W := fun W => by have h_ := HEQ.out W; rw [decide_eq_true hd] at h_; rw [hz8] at h_; exact h_
              clear hd hz hz8
              go_region_held3 (fun W_ => (W_.cell? ad1 = some (.int .u8 z0) ∧ W_.cell? ⟨ad1.block, ad1.off + 1, none⟩ = some (.int .u8 z1) ∧ W_.cell? ⟨ad1.block, ad1.off + 2, none⟩ = some (.int .u8 z2) ∧ W_.cell? ⟨ad1.block, ad1.off + 3, none⟩ = some (.int .u8 z3) ∧ W_.cell? ⟨ad1.block, ad1.off + 4, none⟩ = some (.int .u8 z4) ∧ W_.cell? ⟨ad1.block, ad1.off + 5, none⟩ = some (.int .u8 z5) ∧ W_.cell? ⟨ad1.block, ad1.off + 6, none⟩ = some (.int .u8 z6) ∧ W_.cell? ⟨ad1.block, ad1.off + 7, none⟩ = some (.int .u8 z7)) ∧ Below w.heap.size w W_) ((first | exact ⟨HLOAD.out _ (wD (wN HB.out _)), wD (wN HB.out _)⟩ | (go_split_ands; exact ⟨HLOAD.out _ (by assumption), by assumption⟩) | (go_split_ands; exact ⟨HLOAD.out _ (below_step (by assumption) hb), below_step (by assumption) hb⟩))) ((go_at_call 20; refine (frame_Seal.head _ _ y a s _ (Kd.C_below HRY.out (wD (wN HB.out _))) HCY.out HY.out HA.out HS.out HS0.out HS1.out).mono ?_; rintro e w' ⟨rfl, hb⟩))
              all_goals
               rename_i hB7
               have HB7 := aM hB7.2
               have HCl := aM (show slices_Clone_byte_byte.f y = some y from if_pos (by have := HY.out; omega))
               have hJ := HJ.out
               have hS := HSUM.out
               have e1 : wrap64 ((ji15) + (y.length : Int)) = a1 + 8 + (y.length : Int) := by rw [hJ]; unfold wrap64; omega
               have e2 : IntKind.i64.wrap ((ji15) + (y.length : Int)) = a1 + 8 + (y.length : Int) := (i64_w _).trans e1
               clear hJ hS hB7
               go_wp2_with (go_at_call 28; (with_reducible refine (slices_Clone_byte_byte.calls _ _ y y _ ?side1 ?side2 HCl.out).mono ?_); (case side1 => exact Kd.C_below HRY.out HB7.out); (case side2 => exact HCY.out); rintro e w4 ⟨vb, rfl, ho0, hb⟩; have HO := aM (Kd.R_lower ho0 HB7.out.size); have HB8 := aM (below_step HB7.out hb); clear ho0 hb)
               go_ret3
               exact ⟨_, rfl, HO.out, HB8.out⟩
             ·rw [if_neg (fun h_ => hd (h_.trans hz.symm))] at H
              simp only [Option.some.injEq, Prod.mk.injEq] at H
              obtain ⟨rfl, rfl, rfl⟩ := H
              have heq1 : ∀ W : World, (Op.equalIn 10000 43 (.agg (frame_Seal.row (frame_Seal.le (y.length : Int) ++ frame_Seal.le s))) (.agg #[.int .u8 z0, .int .u8 z1, .int .u8 z2, .int .u8 z3, .int .u8 z4, .int .u8 z5, .int .u8 z6, .int .u8 z7])).run Try.prog W = .ok false W := fun W => by have h_ := HEQ.out W; rw [decide_eq_false hd] at h_; rw [hz8] at h_; exact h_
              clear hd hz hz8
              go_region_held3 (fun W_ => (W_.cell? ad1 = some (.int .u8 z0) ∧ W_.cell? ⟨ad1.block, ad1.off + 1, none⟩ = some (.int .u8 z1) ∧ W_.cell? ⟨ad1.block, ad1.off + 2, none⟩ = some (.int .u8 z2) ∧ W_.cell? ⟨ad1.block, ad1.off + 3, none⟩ = some (.int .u8 z3) ∧ W_.cell? ⟨ad1.block, ad1.off + 4, none⟩ = some (.int .u8 z4) ∧ W_.cell? ⟨ad1.block, ad1.off + 5, none⟩ = some (.int .u8 z5) ∧ W_.cell? ⟨ad1.block, ad1.off + 6, none⟩ = some (.int .u8 z6) ∧ W_.cell? ⟨ad1.block, ad1.off + 7, none⟩ = some (.int .u8 z7)) ∧ Below w.heap.size w W_) ((first | exact ⟨HLOAD.out _ (wD (wN HB.out _)), wD (wN HB.out _)⟩ | (go_split_ands; exact ⟨HLOAD.out _ (by assumption), by assumption⟩) | (go_split_ands; exact ⟨HLOAD.out _ (below_step (by assumption) hb), below_step (by assumption) hb⟩))) ((go_at_call 20; refine (frame_Seal.head _ _ y a s _ (Kd.C_below HRY.out (wD (wN HB.out _))) HCY.out HY.out HA.out HS.out HS0.out HS1.out).mono ?_; rintro e w' ⟨rfl, hb⟩))
              all_goals
               rename_i hB7
               have HB7 := aM hB7.2
               clear hB7
               go_wp2
               go_ret3
               exact ⟨_, rfl, Kd.R_nil _ _ _ _ _, HB7.out⟩
            ·rw [if_neg c18] at H
             exact absurd H (by simp)
           ·rw [if_neg c17] at H
            exact absurd H (by simp)
          ·rw [if_neg c16] at H
           exact absurd H (by simp)
       ·rw [if_neg c9] at H
        exact absurd H (by simp)
      ·rw [if_neg c8] at H
       exact absurd H (by simp)

end Go.Proofs.Ytmlphabhldahlaa.PFk
