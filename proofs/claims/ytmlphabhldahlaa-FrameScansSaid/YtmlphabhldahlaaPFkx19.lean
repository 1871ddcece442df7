-- Laid by wip/tools/xprint.py, a program of this session over the kit's print: functions as Lean functions, each with its contract.
import Derived.Test.YtmlphabhldahlaaPFkx0
import Derived.Test.YtmlphabhldahlaaPFkx13
namespace Go.Proofs.Ytmlphabhldahlaa.PFk
open Go.RowKit Go.Proofs.YtmlphabhldahlaaW.PrintWords Go.Proofs.YtmlphabhldahlaaW.PrintLast Go.Proofs.YtmlphabhldahlaaW.PrintMore
attribute [local go_sem] max2_int min2_int max_two min_two max_three min_three max_four min_four   -- for this text's walks alone
set_option linter.unusedVariables false
set_option linter.unusedSimpArgs false

/-! ### frame_Scan: function 18, by hand -/
attribute [local go_sem] Oper.semAt_some
/-- The frames from an offset on. -/
def frame_Scan.l0 : Nat → List Int → List (List Int) → Int → Option (List (List Int) × Int)
  | 0, _, _, _ => none
  | k + 1, b, l, p => (frame_Next.f k b p).bind fun t => if t.2.2 = 0 then (if l.length < 5864062014805 then frame_Scan.l0 k b (l ++ [t.1]) t.2.1 else none) else some (l, p)
theorem frame_Scan.mono_l : ∀ k, (∀ y0 y1 y2, LeO (frame_Scan.l0 k y0 y1 y2) (frame_Scan.l0 (k + 1) y0 y1 y2))
  | 0 => fun _ _ _ r h => by simp [frame_Scan.l0] at h
  | k + 1 => by
    have ih0 := frame_Scan.mono_l k
    intro y0 y1 y2
    unfold frame_Scan.l0
    refine LeO.bind (frame_Next.mono _ _ _) (fun _ => ?_)
    refine LeO.ite (LeO.ite (ih0 _ _ _) (LeO.none _)) (LeO.refl _)
/-- What has come: the offset behind, the slice, the body. -/
abbrev frame_Scan.It := Int × Value × List Int
def frame_Scan.last : List frame_Scan.It → Int
  | [] => 0
  | x :: t => match t with
    | [] => x.1
    | _ => frame_Scan.last t
theorem frame_Scan.last_snoc : ∀ (l : List frame_Scan.It) (x : frame_Scan.It), frame_Scan.last (l ++ [x]) = x.1
  | [], _ => rfl
  | [_], _ => rfl
  | _ :: b :: t, x => frame_Scan.last_snoc (b :: t) x
def frame_Scan.Apart (pre : List frame_Scan.It) (v : Value) : Prop := ∀ y ∈ pre, ∀ k, y.2.1.ownBlock = some k → v.ownBlock ≠ some k
def frame_Scan.Pre (n : Nat) (pre : List frame_Scan.It) (x : frame_Scan.It) (W : World) : Prop := Kd.R (Kd.int .u8) 5 W n (fun _ => True) x.2.1 x.2.2 ∧ frame_Scan.Apart pre x.2.1 ∧ pre.length < 5864062014805
/-- Rows that came one by one, as one row of rows. -/
theorem frame_Scan.S_of {W : World} {base e q : Nat} {vl : Value} {ps : List frame_Scan.It} (hqe : q ≠ e) (hown : W.ownsRow base e 1 vl ps.length (ps.map fun p => p.2.1)) (hR : ∀ p ∈ ps, Kd.R (Kd.int .u8) q W base (fun _ => True) p.2.1 p.2.2)
    (hap : ∀ (i j : Nat) (pi pj : frame_Scan.It), i < j → ps[i]? = some pi → ps[j]? = some pj → ∀ k, pi.2.1.ownBlock = some k → pj.2.1.ownBlock ≠ some k) : Kd.S (Kd.slice q (Kd.int .u8)) e W base (fun _ => True) vl (ps.map fun p => p.2.2) := by
  refine ⟨fun k => ps.findIdx (fun p => decide (p.2.1.ownBlock = some k)), fun _ _ => trivial, ps.map (fun p => p.2.1), by rw [List.length_zipIdx, List.length_map]; exact hown, ?_, ?_⟩
  · rw [List.length_zipIdx, List.length_map, List.length_map]
    exact (Nat.mul_one _).symm
  · rintro j ⟨y, j'⟩ hj
    rw [List.getElem?_zipIdx] at hj
    obtain ⟨z, hz, hzz⟩ := Option.map_eq_some_iff.1 hj
    simp only [Prod.mk.injEq, Nat.zero_add] at hzz
    obtain ⟨rfl, rfl⟩ := hzz
    rw [List.getElem?_map] at hz
    obtain ⟨p, hp, rfl⟩ := Option.map_eq_some_iff.1 hz
    obtain ⟨hjl, hpj⟩ := List.getElem?_eq_some_iff.1 hp
    have hm : p ∈ ps := List.mem_iff_getElem?.2 ⟨j, hp⟩
    have hr := hR p hm
    have hcs : ((ps.map fun p => p.2.1).drop (j * 1)).take 1 = [p.2.1] := by
      rw [Nat.mul_one, List.drop_eq_getElem_cons (by rw [List.length_map]; exact hjl)]
      simp [hpj]
    show Kd.M _ W base _ (p.2.2, j) (((ps.map fun p => p.2.1).drop (j * 1)).take 1)
    rw [hcs]
    refine ⟨p.2.1, rfl, Kd.R_mono (Kd.R_tight rfl hr) (fun k hk => ⟨⟨trivial, ?_⟩, ?_⟩)⟩
    · intro he
      obtain ⟨c1, h1⟩ := Kd.R_typed hr k hk.symm
      rcases hown.2 with ⟨rfl, _⟩ | ⟨g, cap, cur, rfl, _, hgb, _⟩
      · simp [Value.ownBlock] at he
      · have : g = k := by simpa [Value.ownBlock] using he.symm
        subst this
        rw [hgb] at h1
        simp at h1
        exact hqe h1.2.symm
    · show ps.findIdx _ = j
      rw [List.findIdx_eq hjl]
      refine ⟨by rw [hpj]; exact decide_eq_true hk.symm, fun i hi => ?_⟩
      refine decide_eq_false fun h => ?_
      exact hap i j (ps[i]'(by omega)) p hi (List.getElem?_eq_getElem (by omega)) hp k h hk.symm
theorem frame_Scan.frames (A0 : Option Addr) (n c0 : Nat) (W : World) : Calls Try.prog 29 #[.slice A0 n c0] W fun e w' => e = .returned (.func (.func 37) #[] #[.pointer (some ⟨W.heap.size, 0, none⟩)]) ∧ w' = W.alloc (.cells #[.slice A0 n c0] 22) := by
  go_enter Try.func29, Try.ntmps29
  go_wp2
  go_ret
  exact ⟨rfl, rfl⟩
/-- Between two steps of the iterator: what it holds. -/
def frame_Scan.Rel (l0 : List Int) (r1 : List (List Int)) (r2 : Int) (n₀ Bn : Nat) (w : World) (J : List frame_Scan.It → World → Prop) (n : Nat) (v3 v4 v5 : Value) (wr : World) : Prop :=
  ∃ pre y at_ e, v4 = .int .i64 at_ ∧ v5 = .int .i64 e ∧ Aside0 (Kd.R (Kd.int .u8) 5 wr n₀ (fun _ => True) v3 y) ∧ Aside0 (frame_Scan.Apart pre v3) ∧ Aside0 (∀ z ∈ pre, ∀ k, z.2.1.ownBlock = some k → k < wr.heap.size) ∧ Aside0 (J pre wr) ∧
    Aside0 (wr.heap[Bn]? = w.heap[Bn]?) ∧ Aside0 (Below n₀ w wr) ∧ Aside0 ((if e = 0 then (if pre.length < 5864062014805 then frame_Scan.l0 n l0 (pre.map (fun z => z.2.2) ++ [y]) at_ else none) else some (pre.map (fun z => z.2.2), frame_Scan.last pre)) = some (r1, r2))
set_option maxHeartbeats 4000000 in
set_option maxRecDepth 100000 in
theorem frame_Scan.iter (kk : Nat) (l0 : List Int) (r1 : List (List Int)) (r2 : Int) (A0 : Option Addr) (c0 n₀ Bn : Nat) (w : World) (hB : w.heap[Bn]? = some (.cells #[.slice A0 l0.length c0] 22 (0, 0))) (hn : n₀ ≤ w.heap.size) (hC : ∀ W, Below n₀ w W → Kd.C (Kd.int .u8) W A0 l0.length l0) (hc : l0.length ≤ c0) (h : frame_Scan.l0 kk l0 [] 0 = some (r1, r2)) :
    Go.Proofs.YtmlphabhldahlaaW.Rng.SeqP 2 Try.prog 37 #[.pointer (some ⟨Bn, 0, none⟩)] (fun x : frame_Scan.It => #[.int .i64 x.1, x.2.1]) (frame_Scan.Pre n₀) (fun W W' => Below n₀ W W' ∧ W'.heap[Bn]? = W.heap[Bn]?) (fun xs => xs.map (fun z => z.2.2) = r1 ∧ frame_Scan.last xs = r2) w := by
  intro l J W hW hJ hY h0
  have hBn : Bn < w.heap.size := (Array.getElem?_eq_some_iff.1 hB).1
  have hWB : W.heap[Bn]? = w.heap[Bn]? := hW.block Bn hBn
  have hWn : Below n₀ w W := hW.mono hn
  cases kk with
  | zero => simp [frame_Scan.l0] at h
  | succ kk =>
  simp only [frame_Scan.l0] at h
  replace h := Option.bind_eq_some_iff.1 h
  obtain ⟨⟨y0, at0, e0⟩, hN, h⟩ := h
  have HN := aM hN
  have HF := aM h
  have HCW := aM (hC W hWn)
  have HC := aM hc
  have HB0 := aM (hWB.trans hB)
  have HWn := aM hWn
  have HWB := aM hWB
  have H0 := aM h0
  have HSZ := aM (Nat.le_trans hn hW.size)
  clear hN h hc hWB hWn h0
  have hcell : W.cell? ⟨Bn, 0, none⟩ = some (.slice A0 l0.length c0) := (blk_cell HB0.out 0).trans rfl
  refine callsIn_of_wp Try.func37 rfl trivial ?_ rfl
  simp only [Try.ntmps37, List.size_toArray, List.length_cons, List.length_nil, Nat.reduceAdd, Nat.reduceSub, Array.replicate_succ, Array.replicate_zero, List.push_toArray, List.append_toArray, List.nil_append, List.cons_append]
  gi_wp2_with (refine ⟨trivial, ?_⟩; gi_at_call 17; refine (callsIn_wide.2 (frame_Next.calls kk A0 c0 l0 0 y0 at0 e0 _ HCW.out HC.out HN.out)).mono ?_; rintro e w' ⟨v0, rfl, hR, hb⟩; have HR := aM hR; have HBb := aM hb; clear hR hb)
  have hLB := HBb.out.size
  have HB1 := aM ((HBb.out.block Bn (Array.getElem?_eq_some_iff.1 HB0.out).1).trans HWB.out)
  have HB1' := aM ((HBb.out.block Bn (Array.getElem?_eq_some_iff.1 HB0.out).1).trans HB0.out)
  have HWn1 := aM (HWn.out.trans (HBb.out.mono HSZ.out))
  have HJ1 := aM (hJ _ _ _ H0.out HBb.out)
  have HR1 := aM (Kd.R_lower HR.out HSZ.out)
  have HSZ1 := aM (Nat.le_trans HSZ.out hLB)
  clear HB0 HWB HWn H0 HR HSZ HBb HN hcell hLB HCW
  gi_loopw [3, 4, 5] (fun v3 v4 v5 wr => ∃ n, frame_Scan.Rel l0 r1 r2 n₀ Bn w J n v3 v4 v5 wr) (fun v3 v4 v5 wr => leastOf fun n => frame_Scan.Rel l0 r1 r2 n₀ Bn w J n v3 v4 v5 wr)
  case atStart => exact ⟨kk, [], y0, at0, e0, rfl, rfl, HR1, ⟨fun z hz => by simp at hz⟩, ⟨fun z hz => by simp at hz⟩, HJ1, HB1, HWn1, HF⟩
  case round =>
    clear HF HB1 HB1' HWn1 HJ1 HR1 HSZ1
    have hls := (leastOf_spec hrel).1
    obtain ⟨gk, hgk⟩ : ∃ gk, gk = leastOf (fun n => frame_Scan.Rel l0 r1 r2 n₀ Bn w J n u3 u4 u5 wr) := ⟨_, rfl⟩
    rw [← hgk] at hls
    have HGK := aM hgk
    clear hgk hrel
    obtain ⟨pre, y, at_, e, rfl, rfl, HR, HA, HLT, HJ, HBn, HWn, HF⟩ := hls
    have hb0 := HBn.out.trans hB
    have hcell : wr.cell? ⟨Bn, 0, none⟩ = some (.slice A0 l0.length c0) := (blk_cell hb0 0).trans rfl
    have HB0 := aM hb0
    clear hb0
    by_cases he : e = 0
    · subst he
      have hF := HF.out
      rw [if_pos rfl] at hF
      by_cases hl : pre.length < 5864062014805
      case neg => rw [if_neg hl] at hF; exact absurd hF (by simp)
      rw [if_pos hl] at hF
      cases gk with
      | zero => exact absurd hF (by simp [frame_Scan.l0])
      | succ gk =>
      simp only [frame_Scan.l0] at hF
      replace hF := Option.bind_eq_some_iff.1 hF
      obtain ⟨⟨y1, at1, e1⟩, hN, hF⟩ := hF
      obtain ⟨fn, tmps, assign, body, hy, hRd⟩ := hY pre (at_, u3, y) wr HJ.out ⟨HR.out, HA.out, hl⟩
      dsimp only at hy
      have HN := aM hN
      have HFF := aM hF
      have HL := aM hl
      clear hN hF hl HF
      have heq : ((0 : Int) == 0) = true := rfl
      gi_wp2
      refine hRd.mono ?_
      rintro e W3 ⟨rfl, hJ3, hK3, hK3b⟩
      have hb3 := hK3b.trans HB0.out
      have hcell3 : W3.cell? ⟨Bn, 0, none⟩ = some (.slice A0 l0.length c0) := (blk_cell hb3 0).trans rfl
      have HB3 := aM hb3
      have HJ3 := aM hJ3
      have HWn3 := aM (HWn.out.trans hK3)
      have HC3 := aM (hC W3 HWn3.out)
      have HSZ3 := aM (Nat.le_trans HWn.out.size hK3.size)
      have HSZ4 := aM hK3.size
      clear hJ3 hK3 hK3b hb3 hcell hy hRd
      gi_wp2_with (refine ⟨trivial, ?_⟩; gi_at_call 17; refine (callsIn_wide.2 (frame_Next.calls gk A0 c0 l0 at_ y1 at1 e1 _ HC3.out HC.out HN.out)).mono ?_; rintro e w' ⟨v0, rfl, hR, hb⟩; have HR4 := aM hR; have HB4 := aM hb; clear hR hb)
      have hRel : frame_Scan.Rel l0 r1 r2 n₀ Bn w J gk v0 (.int .i64 at1) (.int .i64 e1) w' := by
        have hsz := HB4.out.size
        have hs3 := HSZ3.out
        have hs4 := HSZ4.out
        have hu : ∀ z ∈ pre ++ [(at_, u3, y)], ∀ k, z.2.1.ownBlock = some k → k < W3.heap.size := by
          intro z hz k hk
          rcases List.mem_append.1 hz with hz | hz
          · have := HLT.out z hz k hk
            omega
          · obtain rfl := List.mem_singleton.1 hz
            have := Kd.R_lt HR.out k hk
            omega
        refine ⟨pre ++ [(at_, u3, y)], y1, at1, e1, rfl, rfl, ⟨Kd.R_lower HR4.out (Nat.le_trans hn HSZ3.out)⟩, ⟨fun z hz k hk hv => ?_⟩, ⟨fun z hz k hk => Nat.lt_of_lt_of_le (hu z hz k hk) hsz⟩, ⟨hJ _ _ _ HJ3.out HB4.out⟩, ⟨(HB4.out.block Bn (Array.getElem?_eq_some_iff.1 HB3.out).1).trans (HB3.out.trans hB.symm)⟩, ⟨HWn3.out.trans (HB4.out.mono (Nat.le_trans hn HSZ3.out))⟩, ⟨?_⟩⟩
        · have h1 := hu z hz k hk
          have h2 := ((Kd.R_bound HR4.out).1 k hv).2.1
          omega
        · rw [← HFF.out]
          simp only [List.map_append, List.map_cons, List.map_nil, List.length_append, List.length_map, List.length_cons, List.length_nil, frame_Scan.last_snoc]
      have HRel := aM hRel
      clear hRel
      go_roundw
      case rel => exact ⟨gk, HRel.out⟩
      case measure =>
        refine Nat.lt_of_le_of_lt ((leastOf_spec ⟨gk, HRel.out⟩).2 gk HRel.out) ?_
        rw [← HGK.out]
        exact Nat.lt_succ_self gk
    · have hF := HF.out
      rw [if_neg he] at hF
      simp only [Option.some.injEq, Prod.mk.injEq] at hF
      have HFF := aM hF
      have heq : ((e : Int) == 0) = false := beq_eq_false_iff_ne.mpr he
      clear he hF HF
      gi_wp2
      refine ⟨fun _ h => (by cases h), ?_⟩
      gi_wp2
      go_end0
      exact ⟨⟨_, rfl⟩, pre, HFF.out, HJ.out⟩
theorem frame_Scan.R_putObj {q base l : Nat} {W : World} {ok : Nat → Prop} {v : Value} {xs : List Int} {o : Obj} (o' : Obj) (h : Kd.R (Kd.int .u8) q W base ok v xs) (hl : W.heap[l]? = some o) (ho : o.isCells = false) : Kd.R (Kd.int .u8) q (W.putObj l o') base ok v xs :=
  Kd.R_mono (Kd.R_step (Kd.R_bound h) (fun k hk _ => World.putObj_heap_other (by
    rintro rfl
    obtain ⟨_, _, _, q, _, cells, hc⟩ := hk
    rw [hc] at hl
    cases hl
    cases ho))) (fun _ hk => hk.1)
/-- Between two rounds: what the loop has collected. -/
structure frame_Scan.Inv (w : World) (pre : List frame_Scan.It) (W : World) : Prop where
  row : ∃ vl, Boxed W w.heap.size 24 vl ∧ W.ownsRow (w.heap.size + 3) 22 1 vl pre.length (pre.map fun p => p.2.1)
  last : Boxed W (w.heap.size + 1) 3 (.int .i64 (frame_Scan.last pre))
  all : ∀ p ∈ pre, Kd.R (Kd.int .u8) 5 W w.heap.size (fun _ => True) p.2.1 p.2.2
  apart : ∀ (i j : Nat) (pi pj : frame_Scan.It), i < j → pre[i]? = some pi → pre[j]? = some pj → ∀ k, pi.2.1.ownBlock = some k → pj.2.1.ownBlock ≠ some k
  below : Below w.heap.size w W
  size : w.heap.size + 3 ≤ W.heap.size
theorem frame_Scan.Inv.later {w A B : World} {pre : List frame_Scan.It} (h : frame_Scan.Inv w pre A) (hb : Below A.heap.size A B) : frame_Scan.Inv w pre B := by
  obtain ⟨vl, hv, hr⟩ := h.row
  exact ⟨⟨vl, (hb.block _ hv.lt).trans hv, pw_own_below hr hb⟩, (hb.block _ h.last.lt).trans h.last, fun p hp => Kd.R_below (h.all p hp) hb, h.apart, below_step h.below hb, Nat.le_trans h.size hb.size⟩
theorem frame_Scan.Inv.putObj {w W : World} {pre : List frame_Scan.It} {l : Nat} {o : Obj} (o' : Obj) (h : frame_Scan.Inv w pre W) (hle : w.heap.size + 3 ≤ l) (hl : W.heap[l]? = some o) (ho : o.isCells = false) : frame_Scan.Inv w pre (W.putObj l o') := by
  obtain ⟨vl, hv, hr⟩ := h.row
  exact ⟨⟨vl, (World.putObj_heap_other (by omega)).trans hv, ownsRow_putObj hr o' hl ho⟩, (World.putObj_heap_other (by omega)).trans h.last, fun p hp => frame_Scan.R_putObj o' (h.all p hp) hl ho, h.apart, h.below.trans ((Below.refl w.heap.size W).grown (grownBy_putObj' W l o') (by have := h.size; omega) (fun k e => by cases e; omega)), by rw [World.putObj_size]; exact h.size⟩
theorem frame_Scan.round {w W w1 : World} {pre : List frame_Scan.It} {x : frame_Scan.It} {vl v' : Value} {tmp : Obj} (hI : frame_Scan.Inv w pre W) (hv : Boxed W w.heap.size 24 vl) (hrow : W.ownsRow (w.heap.size + 3) 22 1 vl pre.length (pre.map fun p => p.2.1)) (hx : frame_Scan.Pre w.heap.size pre x W)
    (hown' : w1.ownsRow (w.heap.size + 3) 22 1 v' (pre.length + 1) ((pre.map fun p => p.2.1) ++ [x.2.1])) (hgrow : (W.alloc tmp).grownBy w1 vl.ownBlock) :
    Boxed w1 w.heap.size 24 vl ∧ Boxed w1 (w.heap.size + 1) 3 (.int .i64 (frame_Scan.last pre)) ∧ KeepsFrom (w.heap.size + 3) W ((w1.setCell ⟨w.heap.size, 0, none⟩ v').setCell ⟨w.heap.size + 1, 0, none⟩ (.int .i64 x.1)) ∧
    (Below w.heap.size W ((w1.setCell ⟨w.heap.size, 0, none⟩ v').setCell ⟨w.heap.size + 1, 0, none⟩ (.int .i64 x.1)) ∧ ((w1.setCell ⟨w.heap.size, 0, none⟩ v').setCell ⟨w.heap.size + 1, 0, none⟩ (.int .i64 x.1)).heap[w.heap.size + 2]? = W.heap[w.heap.size + 2]?) ∧
    frame_Scan.Inv w (pre ++ [x]) ((w1.setCell ⟨w.heap.size, 0, none⟩ v').setCell ⟨w.heap.size + 1, 0, none⟩ (.int .i64 x.1)) := by
  have hsz := hI.size
  have hs1 : W.heap.size + 1 ≤ w1.heap.size := by have := hgrow.size; simpa using this
  have hvb : ∀ k, vl.ownBlock = some k → w.heap.size + 3 ≤ k ∧ ∃ cs, W.heap[k]? = some (.cells cs 22 (0, 0)) := by
    intro k hk
    refine ⟨own_base hrow k hk, ?_⟩
    rcases hrow.2 with ⟨rfl, _⟩ | ⟨g, cap, cur, rfl, _, hgb, _⟩
    · simp [Value.ownBlock] at hk
    · obtain rfl : g = k := by simpa [Value.ownBlock] using hk
      exact ⟨cur, hgb⟩
  have hb1 : ∀ k, k < W.heap.size → some k ≠ vl.ownBlock → w1.heap[k]? = W.heap[k]? := fun k hk hne => (hgrow.block k (by simp; omega) hne).trans (Below.heap_alloc W tmp k hk)
  have hb2 : ∀ k, k < W.heap.size → k ≠ w.heap.size → k ≠ w.heap.size + 1 → some k ≠ vl.ownBlock → ((w1.setCell ⟨w.heap.size, 0, none⟩ v').setCell ⟨w.heap.size + 1, 0, none⟩ (.int .i64 x.1)).heap[k]? = W.heap[k]? := fun k hk h1 h2 hne =>
    (Below.heap_setCell _ _ _ k h2).trans ((Below.heap_setCell _ _ _ k h1).trans (hb1 k hk hne))
  have hne : ∀ k, k < w.heap.size + 3 → some k ≠ vl.ownBlock := fun k hk he => by have := (hvb k he.symm).1; omega
  have hbx : Boxed w1 w.heap.size 24 vl := (hb1 _ (by omega) (hne _ (by omega))).trans hv
  have hbl : Boxed w1 (w.heap.size + 1) 3 (.int .i64 (frame_Scan.last pre)) := (hb1 _ (by omega) (hne _ (by omega))).trans hI.last
  have hnv : ∀ k, k < w.heap.size + 3 → some k ≠ v'.ownBlock := fun k hk he => by have := own_base hown' k he.symm; omega
  have hss : ((w1.setCell ⟨w.heap.size, 0, none⟩ v').setCell ⟨w.heap.size + 1, 0, none⟩ (.int .i64 x.1)).heap.size = w1.heap.size := by simp [World.setCell]
  have hRk : ∀ {v : Value} {y : List Int}, Kd.R (Kd.int .u8) 5 W w.heap.size (fun _ => True) v y → Kd.R (Kd.int .u8) 5 ((w1.setCell ⟨w.heap.size, 0, none⟩ v').setCell ⟨w.heap.size + 1, 0, none⟩ (.int .i64 x.1)) w.heap.size (fun _ => True) v y := by
    intro v y h
    refine Kd.R_mono (Kd.R_step (Kd.R_bound h) (fun k hk hlt => ?_)) (fun _ hk => hk.1)
    obtain ⟨_, _, _, q, hq, cells, hc⟩ := hk
    obtain rfl : q = 5 := by simpa [Kd.int, Kd.scalar] using hq
    refine hb2 k hlt ?_ ?_ ?_
    · rintro rfl
      rw [show W.heap[w.heap.size]? = _ from hv] at hc
      cases hc
    · rintro rfl
      rw [show W.heap[w.heap.size + 1]? = _ from hI.last] at hc
      cases hc
    · intro he
      obtain ⟨_, cs, h2⟩ := hvb k he.symm
      rw [h2] at hc
      cases hc
  have hBW : Below w.heap.size W ((w1.setCell ⟨w.heap.size, 0, none⟩ v').setCell ⟨w.heap.size + 1, 0, none⟩ (.int .i64 x.1)) :=
    ((((Below.refl w.heap.size W).alloc (by omega) tmp).grown hgrow (by simp; omega) (fun k he => by have := (hvb k he).1; omega)).setCell (p := ⟨w.heap.size, 0, none⟩) (Nat.le_refl _) _).setCell (p := ⟨w.heap.size + 1, 0, none⟩) (Nat.le_succ _) _
  refine ⟨hbx, hbl, ⟨by rw [hss]; omega, fun k o hB hk ho => ?_⟩, ⟨hBW, hb2 _ (by omega) (by omega) (by omega) (hne _ (by omega))⟩, ?_⟩
  · have hlt := (Array.getElem?_eq_some_iff.1 hk).1
    refine (hb2 k hlt (by omega) (by omega) (fun he => ?_)).trans hk
    obtain ⟨_, cs, h2⟩ := hvb k he.symm
    rw [h2] at hk
    cases hk
    cases ho
  · refine ⟨⟨v', ?_, ?_⟩, ?_, ?_, ?_, ?_, by rw [hss]; omega⟩
    · exact (Below.heap_setCell _ _ _ _ (by show w.heap.size ≠ w.heap.size + 1; omega)).trans (hbx.set v')
    · rw [List.length_append, List.map_append]
      exact own_setCell (own_setCell hown' (hnv _ (by show w.heap.size < _; omega)) _) (hnv _ (by show w.heap.size + 1 < _; omega)) _
    · rw [frame_Scan.last_snoc]
      exact Boxed.set _ ((Below.heap_setCell _ _ _ _ (by show w.heap.size + 1 ≠ w.heap.size; omega)).trans hbl)
    · intro p hp
      rcases List.mem_append.1 hp with hp | hp
      · exact hRk (hI.all p hp)
      · obtain rfl := List.mem_singleton.1 hp
        exact hRk hx.1
    · intro i j pi pj hij h1 h2
      by_cases hj : j < pre.length
      · rw [List.getElem?_append_left hj] at h2
        rw [List.getElem?_append_left (by omega)] at h1
        exact hI.apart i j pi pj hij h1 h2
      · rw [List.getElem?_append_right (by omega)] at h2
        have hjl := (List.getElem?_eq_some_iff.1 h2).1
        simp only [List.length_cons, List.length_nil] at hjl
        rw [show j - pre.length = 0 by omega] at h2
        simp only [List.getElem?_cons_zero, Option.some.injEq] at h2
        subst h2
        rw [List.getElem?_append_left (by omega)] at h1
        exact fun k hk => hx.2.1 pi (List.mem_iff_getElem?.2 ⟨i, h1⟩) k hk
    · exact hI.below.trans hBW

def frame_Scan.f (k : Nat) (l0 : List Int) : Option ((List (List Int)) × Int) := frame_Scan.l0 k l0 [] 0
theorem frame_Scan.mono : ∀ a0 k, LeO (frame_Scan.f k a0) (frame_Scan.f (k + 1) a0) := fun _ k => frame_Scan.mono_l k _ _ _

set_option maxHeartbeats 4000000 in
set_option maxRecDepth 100000 in
theorem frame_Scan.calls (k : Nat) (A0 : Option Addr) (c0 : Nat) (l0 : List Int) (r1 : List (List Int)) (r2 : Int) (w : World) (hr0 : Kd.C (Kd.int .u8) w A0 l0.length l0) (hc0 : l0.length ≤ c0) (h : frame_Scan.f k l0 = some (r1, r2)) :
    Calls Try.prog 18 #[.slice A0 l0.length c0] w fun e w' => ∃ v0_ : Value, e = .returned (.tuple #[v0_, .int .i64 r2]) ∧ Kd.S (Kd.slice 5 (Kd.int .u8)) 22 w' w.heap.size (fun _ => True) v0_ r1 ∧ Below w.heap.size w w' := by
  have HF := aM (show frame_Scan.l0 k l0 [] 0 = some (r1, r2) from h)
  have HR0 := aM hr0
  have HC0 := aM hc0
  clear h hr0 hc0
  refine (callsIn_wide (n := 3)).1 ?_
  refine callsIn_of_wp_marks Try.func18 rfl trivial ?_ rfl
  simp only [Try.ntmps18, List.size_toArray, List.length_cons, List.length_nil, Nat.reduceAdd, Nat.reduceSub, Array.replicate_succ, Array.replicate_zero, List.push_toArray, List.append_toArray, List.nil_append, List.cons_append]
  gi_wp2_with (refine ⟨trivial, ?_⟩; gi_at_call 29; refine (callsIn_wide.2 (frame_Scan.frames A0 l0.length c0 _)).mono ?_; rintro e w' ⟨rfl, rfl⟩)
  have bL := Boxed.new w 24 (.slice none 0 0)
  have bE := Boxed.new (w.alloc (.cells #[.slice none 0 0] 24)) 3 (.int .i64 0)
  have bB := Boxed.new ((w.alloc (.cells #[.slice none 0 0] 24)).alloc (.cells #[.int .i64 0] 3)) 22 (.slice A0 l0.length c0)
  have hB0 : Below w.heap.size w (((w.alloc (.cells #[.slice none 0 0] 24)).alloc (.cells #[.int .i64 0] 3)).alloc (.cells #[.slice A0 l0.length c0] 22)) := ((((Below.refl _ w).alloc (Nat.le_refl _) _).alloc (by simp) _).alloc (by simp; omega) _)
  rw [World.size_alloc] at bE bB
  rw [World.size_alloc] at bB
  have hI0 : frame_Scan.Inv w [] (((w.alloc (.cells #[.slice none 0 0] 24)).alloc (.cells #[.int .i64 0] 3)).alloc (.cells #[.slice A0 l0.length c0] 22)) :=
    ⟨⟨_, (bL.alloc _).alloc _, own_nil _ _ _ _⟩, bE.alloc _, fun p hp => by simp at hp, fun i j pi pj _ h1 => by simp at h1, hB0, by simp⟩
  have hC0 : ∀ W, Below w.heap.size (((w.alloc (.cells #[.slice none 0 0] 24)).alloc (.cells #[.int .i64 0] 3)).alloc (.cells #[.slice A0 l0.length c0] 22)) W → Kd.C (Kd.int .u8) W A0 l0.length l0 := fun W hW => Kd.C_below HR0.out (hB0.trans hW)
  have hit := frame_Scan.iter k l0 r1 r2 A0 c0 w.heap.size (w.heap.size + 1 + 1) _ bB (by simp; omega) hC0 HC0.out HF.out
  clear bL bE bB hB0 hC0
  obtain ⟨i0, hi, hz0, hz1, hz2⟩ := info_parts info22
  refine Go.Proofs.YtmlphabhldahlaaW.Rng.range_law (gf := 37) (lb := #[.pointer (some ⟨w.heap.size + 1 + 1, 0, none⟩)]) rfl (enters_of Try.func37 (by kernel_rfl) rfl) hit (Below.refl _ _) (fun _ => rfl)
    (fun h1 h2 => ⟨h1.1.trans h2.1, h2.2.trans h1.2⟩)
    (fun W l o o' hl hlo ho => ⟨(Below.refl _ W).grown (grownBy_putObj' W l o') (by simp at hl; have := (Array.getElem?_eq_some_iff.1 hlo).1; omega) (fun k e => by cases e; simp at hl; omega), World.putObj_heap_other (by simp at hl; omega)⟩)
    (fun pre x W l o o' hP hl hlo ho => ⟨frame_Scan.R_putObj o' hP.1 hlo ho, hP.2⟩)
    (frame_Scan.Inv w) (fun s A B _ hs hb => hs.later hb) (fun s W l o o' hs hl hlo ho => hs.putObj o' (by simp at hl; omega) hlo ho) hI0
    (fun x => { tmps := #[.slice A0 l0.length c0, undef, .slice none 0 0, .int .i64 0, .pointer (some ⟨w.heap.size, 0, none⟩), .pointer (some ⟨w.heap.size + 1, 0, none⟩), .int .i64 x.1, x.2.1, .slice A0 l0.length c0, .func (.func 37) #[] #[.pointer (some ⟨w.heap.size + 1 + 1, 0, none⟩)], .int .i64 x.1, x.2.1, undef, undef, undef, undef, undef, undef, undef], defers := [] }) ?assign ?body ?done
  case assign =>
    intro l x W K hK
    gi_wp2
    exact hK
  case body =>
    rintro l pre ⟨xa, xv, xl⟩ W hsz hI hP
    obtain ⟨vl, hv, hrow⟩ := hI.row
    obtain ⟨xA, xc, hxv⟩ : ∃ A c, xv = .slice A xl.length c := Kd.R_slice hP.1
    subst hxv
    have hc := hv.cell
    have hlt := hP.2.2
    have hI1 := aM hI
    have hP1 := aM hP
    have hV := aM hv
    have hw3 : w.heap.size + 3 ≤ W.heap.size := hI.size
    clear hI hP
    gi_wp2_with (gi_at_builtin; refine wpListIn_append_own _ rfl _ _ 24 rfl (w.heap.size + 3) 22 i0 (.slice none 0 0) 1 24 Try.underlying24 hi hz0 hz1 hz2 rfl (by decide) _ _ _ rfl (hrow.alloc _) ⟨W.heap.size, 0, none⟩ 1 1 [.slice xA xl.length xc] rfl rfl (cell_one_new _ _ _) (by simp [Value.oneCell']) (by simp only [maxLen]; omega) (by omega) (by simp; omega) ?_; intro v' w1 hown' hgrow _; obtain ⟨g', cap', rfl⟩ := ownsRow_succ hown'; obtain ⟨hb1, hb2, hkf, hkb, hin⟩ := frame_Scan.round hI1.out hV.out hrow hP1.out hown' hgrow; have hc1 := hb1.cell; have hf1 := hb1.frozen; have hc2 := hb2.cell; have hf2 := hb2.frozen; have HKF := aM hkf; have HKB := aM hkb; have HIN := aM hin; clear hkf hkb hin hown' hgrow)
    exact ⟨HKF.out, HKB.out, HIN.out⟩
  case done =>
    rintro D xs W hD ⟨rfl, rfl⟩ hI hK
    obtain ⟨vl, hv, hrow⟩ := hI.row
    have hc := hv.cell
    have hc2 := hI.last.cell
    have HI := aM hI
    have HV := aM hv
    have HROW := aM hrow
    have HK := aM hK
    clear hv hrow hI hK
    gi_wp2
    gi_region
    gi_wp2
    have hK' : (W.drew).heap[D]? = some (.deferred (some [])) := HK.out
    refine ⟨by simp, .inl ⟨_, _, rfl, run_takeDeferred hK', ?_⟩⟩
    have hI2 := (HI.out.later (below_drew (Below.refl _ _))).putObj (.deferred none) (by simp at hD; omega) hK' rfl
    have hr2 : ((W.drew).putObj D (.deferred none)).ownsRow (w.heap.size + 3) 22 1 vl xs.length (xs.map fun p => p.2.1) := ownsRow_putObj (W := W.drew) HROW.out (.deferred none) hK' rfl
    exact ⟨_, results_tmp2 rfl _ _ _, _, rfl, frame_Scan.S_of (by decide) (own_less hr2 (by omega)) hI2.all hI2.apart, hI2.below⟩

end Go.Proofs.Ytmlphabhldahlaa.PFk
