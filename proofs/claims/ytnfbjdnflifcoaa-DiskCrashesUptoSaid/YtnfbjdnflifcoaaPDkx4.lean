-- Laid by wip/tools/xprint.py, a program of this session over the kit's print: functions as Lean functions, each with its contract.
import Derived.Test.YtnfbjdnflifcoaaPDkx0
import Derived.Test.YtnfbjdnflifcoaaPDkx2
import Derived.Test.YtnfbjdnflifcoaaPDkx3
namespace Go.Proofs.Ytnfbjdnflifcoaa.PDk
open Go.RowKit Go.Proofs.YtnfbjdnflifcoaaW.PrintWords Go.Proofs.YtnfbjdnflifcoaaW.PrintLast Go.Proofs.YtnfbjdnflifcoaaW.PrintMore
attribute [local go_sem] max2_int min2_int max_two min_two max_three min_three max_four min_four   -- for this text's walks alone
set_option linter.unusedVariables false
set_option linter.unusedSimpArgs false

/-! ### disk_Crash: function 11, by hand -/
/-- Some elements from a on made zero. -/
def disk_Crash.clr : List Int → Nat → Nat → List Int
  | xs, _, 0 => xs
  | xs, a, m + 1 => disk_Crash.clr (xs.set a 0) (a + 1) m
theorem disk_Crash.clr_length : ∀ (m a : Nat) (xs : List Int), (disk_Crash.clr xs a m).length = xs.length
  | 0, _, _ => rfl
  | m + 1, a, xs => by rw [disk_Crash.clr, disk_Crash.clr_length m, List.length_set]
/-- The lost sectors of the first n bytes made zero, from byte a on. -/
def disk_Crash.zap (k : Nat) (lost : List Int) (n : Nat) : Nat → List Int → Nat → Option (List Int)
  | 0, _, _ => none
  | m + 1, xs, a => if a < n then (slices_Contains_int_int.f k lost ((a / 16 : Nat) : Int)).bind fun b => disk_Crash.zap k lost n m (if b = true then disk_Crash.clr xs a (min (a + 16) n - a) else xs) (a + 16) else some xs
/-- The number of pending bytes that a tear keeps. -/
def disk_Crash.kept (keep : Int) (f : S48) : Nat := (max 0 (min keep (f.f1.length : Int))).toNat
def disk_Crash.tear (l : List S39) (i : Nat) : S39 := if i < l.length then rd_T39 l i else z39
def disk_Crash.all (k : Nat) (l : List S39) : Nat → List S48 → Nat → Option (List S48)
  | 0, _, _ => none
  | m + 1, t, i => if i < t.length then
      (disk_Crash.zap k (disk_Crash.tear l i).f1 (disk_Crash.kept (disk_Crash.tear l i).f0 (rd_T48 t i)) k (rd_T48 t i).f1 0).bind fun xs =>
        if (rd_T48 t i).f0.length + disk_Crash.kept (disk_Crash.tear l i).f0 (rd_T48 t i) < 140737488355328 then
          disk_Crash.all k l m (t.set i ⟨(rd_T48 t i).f0 ++ xs.take (disk_Crash.kept (disk_Crash.tear l i).f0 (rd_T48 t i)), []⟩) (i + 1)
        else none
    else some t
theorem disk_Crash.zap_mono {k : Nat} {lost : List Int} {n : Nat} : ∀ (m : Nat) (xs : List Int) (a : Nat), LeO (disk_Crash.zap k lost n m xs a) (disk_Crash.zap (k + 1) lost n (m + 1) xs a)
  | 0, _, _ => LeO.none _
  | m + 1, xs, a => by
    unfold disk_Crash.zap
    refine LeO.ite ?_ (LeO.refl _)
    intro r h
    obtain ⟨b, h1, h2⟩ := Option.bind_eq_some_iff.1 h
    exact Option.bind_eq_some_iff.2 ⟨b, slices_Contains_int_int.mono _ _ _ _ h1, disk_Crash.zap_mono m _ _ _ h2⟩
theorem disk_Crash.all_mono {k : Nat} {l : List S39} : ∀ (m : Nat) (t : List S48) (i : Nat), LeO (disk_Crash.all k l m t i) (disk_Crash.all (k + 1) l (m + 1) t i)
  | 0, _, _ => LeO.none _
  | m + 1, t, i => by
    unfold disk_Crash.all
    refine LeO.ite ?_ (LeO.refl _)
    intro r h
    obtain ⟨b, h1, h2⟩ := Option.bind_eq_some_iff.1 h
    refine Option.bind_eq_some_iff.2 ⟨b, disk_Crash.zap_mono _ _ _ _ h1, ?_⟩
    by_cases hc : (rd_T48 t i).f0.length + disk_Crash.kept (disk_Crash.tear l i).f0 (rd_T48 t i) < 140737488355328
    · rw [if_pos hc] at h2
      rw [if_pos hc]
      exact disk_Crash.all_mono m _ _ _ h2
    · rw [if_neg hc] at h2
      cases h2
theorem disk_Crash.grown_set (W : World) (g a : Nat) (v : Value) : W.grownBy (W.setCell ⟨g, a, none⟩ v) (some g) :=
  ⟨rfl, rfl, rfl, by simp [World.setCell], fun i _ hi => Below.heap_setCell W ⟨g, a, none⟩ v i (fun h => hi (by rw [h]))⟩
theorem disk_Crash.R_clr {base g n cap : Nat} {ok : Nat → Prop} : ∀ (m a : Nat) {W : World} {xs : List Int}, (Kd.int .u8).R 5 W base ok (.slice (some ⟨g, 0, none⟩) n cap) xs → a + m ≤ xs.length →
    (Kd.int .u8).R 5 (W.setCells g a (List.replicate m (.int .u8 0))) base ok (.slice (some ⟨g, 0, none⟩) n cap) (disk_Crash.clr xs a m) ∧ W.grownBy (W.setCells g a (List.replicate m (.int .u8 0))) (some g)
  | 0, _, W, _, h, _ => ⟨h, ⟨rfl, rfl, rfl, Nat.le_refl _, fun _ _ _ => rfl⟩⟩
  | m + 1, a, W, xs, h, hl => by
    have h1 := Kd.R_putn h (a : Int) 0
    obtain ⟨h2, h3⟩ := disk_Crash.R_clr m (a + 1) (W := W.setCell ⟨g, a, none⟩ (.int .u8 0)) h1 (by rw [List.length_set]; omega)
    exact ⟨h2, (disk_Crash.grown_set W g a _).trans h3⟩
theorem disk_Crash.C_taken {d : Kd Int} {w : World} {A : Option Addr} {xs : List Int} {m : Nat} (h : d.C w A xs.length xs) (hm : m ≤ xs.length) : d.C w A m (xs.take m) := by
  have h1 := Kd.C_take h hm
  rw [List.length_take, Nat.min_eq_left hm] at h1
  exact h1
theorem disk_Crash.a16 {a n : Nat} (h : a < n) (hn : n < 140737488355328) : wrap64 ((a : Int) + 16) = (a : Int) + 16 := by unfold wrap64; omega
theorem disk_Crash.q16 {a n : Nat} (h : a < n) (hn : n < 140737488355328) : wrap64 ((a : Int) / 16) = ((a / 16 : Nat) : Int) := by unfold wrap64; omega
theorem disk_Crash.mn_cast (n a : Nat) : (if (n : Int) < (a : Int) + 16 then (n : Int) else (a : Int) + 16) = ((min (a + 16) n : Nat) : Int) := by
  rcases Nat.lt_or_ge n (a + 16) with h | h
  · rw [if_pos (by omega), Nat.min_eq_right (by omega)]
  · rw [if_neg (by omega), Nat.min_eq_left h]
    rfl
theorem disk_Crash.pos {l : List S39} {i : Nat} (h : i < l.length) : disk_Crash.tear l i = rd_T39 l (i : Int) := if_pos h
theorem disk_Crash.neg {l : List S39} {i : Nat} (h : ¬ i < l.length) : disk_Crash.tear l i = z39 := if_neg h

def disk_Crash.f (k : Nat) (l0_0 : List (S48)) (l1 : List (S39)) : Option ((List (S48))) := (disk_clone.f k l0_0).bind fun t => disk_Crash.all k l1 k t 0
/-- More rounds, the same answer. -/
theorem disk_Crash.mono (k : Nat) (l0_0 : List S48) (l1 : List S39) : LeO (disk_Crash.f k l0_0 l1) (disk_Crash.f (k + 1) l0_0 l1) := fun r h => by
  obtain ⟨t, h1, h2⟩ := Option.bind_eq_some_iff.1 h
  exact Option.bind_eq_some_iff.2 ⟨t, disk_clone.mono _ _ _ h1, disk_Crash.all_mono _ _ _ _ h2⟩

set_option maxHeartbeats 4000000 in
set_option maxRecDepth 100000 in
theorem disk_Crash.calls (k : Nat) (A0_0 : Option Addr) (c0_0 : Nat) (l0_0 : List (S48)) (A1 : Option Addr) (c1 : Nat) (l1 : List (S39)) (r : List (S48)) (w : World) (hr0_0 : Kd.C k48 w A0_0 l0_0.length l0_0) (hc0_0 : l0_0.length ≤ c0_0) (hr1 : Kd.C k39 w A1 l1.length l1) (hc1 : l1.length ≤ c1) (h : disk_Crash.f k l0_0 l1 = some r) :
    Calls Try.prog 11 #[.agg #[.slice A0_0 l0_0.length c0_0], .slice A1 l1.length c1] w fun e w' => ∃ v0_ : Value, e = .returned (.agg #[v0_]) ∧ Kd.S k48 48 w' w.heap.size (fun _ => True) v0_ r ∧ Below w.heap.size w w' := by
  unfold disk_Crash.f at h
  obtain ⟨t0, h0, h⟩ := Option.bind_eq_some_iff.1 h
  have HR0 := Lib.hid hr0_0
  have HC0 := Lib.hid hc0_0
  have HR1 := Lib.hid hr1
  have HF0 := Lib.hid h0
  have HF := Lib.hid h
  have hl1 : l1.length ≤ 9223372036854775807 := hr1.2.1
  clear hr0_0 hc0_0 hr1 h0 h hc1
  have HB := Aside0.mk (Below.refl w.heap.size w)
  go_enter Try.func11, Try.ntmps11
  go_wp2_with (first
    | ((with_reducible refine gate_dst (N := 2) rfl ?_); refine box_event ?hg (N := 2) ?hd (cs := #[.slice A0_0 l0_0.length c0_0]) (t := 24) ?hr ?_; (case hd => rfl); (case hg => rfl); (case hr => first | (go_simp; done) | (go_simp; rfl)); intro gd hg w2 hbox hb; have HGD := Aside0.mk (show w.heap.size ≤ gd by rw [hg]; exact below_size HB.out); have BKD := Aside0.mk hbox; have HB2 := Aside0.mk (below_step HB.out hb); clear HB hg hbox hb)
    | ((with_reducible refine gate_dst (N := 4) rfl ?_); refine box_event ?hg (N := 4) ?hd (cs := #[.slice none 0 0]) (t := 24) ?hr ?_; (case hd => rfl); (case hg => rfl); (case hr => first | (go_simp; done) | (go_simp; rfl)); intro gr hg w3 hbox hb; have HGR := Aside0.mk (show w.heap.size ≤ gr by rw [hg]; exact below_size HB2.out); have HNE := Aside0.mk (show gd ≠ gr by rw [hg]; exact Nat.ne_of_lt (blk_lt BKD.out)); have BKR := Aside0.mk hbox; have BKD3 := Aside0.mk (blk_below BKD.out hb); have HB3 := Aside0.mk (below_step HB2.out hb); clear BKD HB2 hg hbox hb; have hcz := (blk_cell BKD3.out 0).trans rfl; have hfz := blk_frozen BKD3.out 0)
    | (go_at_call 24; (with_reducible refine (disk_clone.callsA k _ _ l0_0 t0 _ ?side1 ?side2 HF0.out).mono ?_); (case side1 => exact Kd.C_below HR0.out HB3.out); (case side2 => exact HC0.out); rintro e w4 ⟨vd, rfl, ho0, hb⟩; have HS4 := Aside0.mk (Kd.S_lower ho0 (below_size HB3.out)); have BKD4 := Aside0.mk (blk_below BKD3.out hb); have BKR4 := Aside0.mk (blk_below BKR.out hb); have HB4 := Aside0.mk (below_step HB3.out hb); clear BKD3 BKR HB3 ho0 hb; have hcz4 := (blk_cell BKD4.out 0).trans rfl; have hfz4 := blk_frozen BKD4.out 0; obtain ⟨Ao, co, eo⟩ := Kd.S_slice HS4.out; subst eo))
  have hS := Kd.S_set HS4.out BKD4.out (by decide) 0 (.slice Ao t0.length co)
  have hb1 := blk_put BKD4.out 0 (.slice Ao t0.length co) rfl
  have hb2 := blk_far (p := ⟨gd, 0, none⟩) BKR4.out (Ne.symm HNE.out) (.slice Ao t0.length co)
  have hB := below_set (j := 0) (v := .slice Ao t0.length co) HB4.out HGD.out
  clear hcz hfz hcz4 hfz4
  generalize (w4.setCell ⟨gd, 0, none⟩ (.slice Ao t0.length co)) = w5 at *
  clear BKD4 BKR4 HB4 HS4
  have hlen : t0.length ≤ 9223372036854775807 := by obtain ⟨_, hc, hC⟩ := Kd.S_reads' hS; have := hC.2.1; omega
  have h5 := Lib.hid (And.intro hS (And.intro hb1 (And.intro hb2 hB)))
  clear hS hb1 hb2 hB
  go_loopw [15] (fun u15 W => ∃ (i m : Nat) (t : List S48), u15 = .int .i64 i ∧ t.length = t0.length ∧ disk_Crash.all k l1 m t i = some r ∧ i ≤ t0.length ∧ Kd.S k48a 48 W w.heap.size (fun _ => True) (.slice Ao t0.length co) t ∧ W.heap[gd]? = some (.cells #[.slice Ao t0.length co] 24 (0, 0)) ∧ W.heap[gr]? = some (.cells #[.slice none 0 0] 24 (0, 0)) ∧ Below w.heap.size w W) (fun u15 _ => t0.length - (intOf u15).toNat)
  case atStart => exact ⟨0, k, t0, rfl, rfl, HF.out, Nat.zero_le _, h5.out.1, h5.out.2.1, h5.out.2.2.1, h5.out.2.2.2⟩
  case round =>
    clear h5 HF HF0 w5
    obtain ⟨i, m, t, rfl, ht, hall, hi, hs, hbd, hbr, hb⟩ := hrel
    have HS := Aside0.mk hs
    have BKD := Aside0.mk hbd
    have BKR := Aside0.mk hbr
    have HB := Aside0.mk hb
    clear hs hbd hbr hb
    rcases m with _ | m
    · cases hall
    rw [disk_Crash.all] at hall
    by_cases hlt : i < t0.length
    · rw [if_pos (by rw [ht]; exact hlt)] at hall
      obtain ⟨T, hT⟩ : ∃ T, T = disk_Crash.tear l1 i := ⟨_, rfl⟩
      rw [← hT] at hall
      obtain ⟨xs, hz, hall⟩ := Option.bind_eq_some_iff.1 hall
      rcases Nat.lt_or_ge ((rd_T48 t i).f0.length + disk_Crash.kept T.f0 (rd_T48 t i)) 140737488355328 with hlim | hlim
      case inr => rw [if_neg (Nat.not_lt.2 hlim)] at hall; cases hall
      rw [if_pos hlim] at hall
      have HZ := Lib.hid hz
      have HALL := Lib.hid hall
      have HLIM := Lib.hid hlim
      have HT := Lib.hid ht
      clear hz hall hlim ht
      obtain ⟨go, co2, eo, hgo, hgl, cl, hGB⟩ := Kd.S_form HS.out (by rw [HT.out]; omega)
      rw [HT.out] at eo
      cases eo
      have HGO := Aside0.mk hgo
      clear hgo hgl hGB
      have hp1 : (0 ≤ (i : Int)) = True := eq_true (by omega)
      have hp2 : ((i : Int) < (t0.length : Int)) = True := eq_true (by omega)
      by_cases hil : i < l1.length
      · rw [disk_Crash.pos hil] at hT
        obtain ⟨ad1, AL, cL, eA, hx0, hx1, hcL, hCL⟩ := at_T39 HR1.out (i : Int) (by omega) (by omega)
        cases eA
        replace hx0 := (HB.out.cell (World.block_lt_of_cell? w _ hx0)).trans hx0
        replace hx1 := (HB.out.cell (World.block_lt_of_cell? w _ hx1)).trans hx1
        rw [← hT] at hx0 hx1 hcL hCL
        simp only [Int.toNat_natCast] at hx0 hx1
        have hq2 : ((i : Int) < (l1.length : Int)) = True := eq_true (by omega)
        have HT39 := Lib.hid hT
        clear hT
        go_wp2_with ((with_reducible refine gate_dst (N := 6) rfl ?_); refine box_event ?hg (N := 6) ?hd (cs := #[.int .i64 0, .slice none 0 0]) (t := 39) ?hr ?_; (case hd => rfl); (case hg => rfl); (case hr => first | (go_simp; done) | (go_simp; rfl)); intro g6 hg w6 hbox hb; have HG6 := Aside0.mk (show w.heap.size ≤ g6 by rw [hg]; exact below_size HB.out); have hnd := (show gd ≠ g6 by rw [hg]; exact Nat.ne_of_lt (blk_lt BKD.out)); have hnd2 := Ne.symm hnd; have hnr := (show gr ≠ g6 by rw [hg]; exact Nat.ne_of_lt (blk_lt BKR.out)); have BK6 := Aside0.mk hbox; have BKD6 := Aside0.mk (blk_below BKD.out hb); have BKR6 := Aside0.mk (blk_below BKR.out hb); have HB6 := Aside0.mk (below_step HB.out hb); have HS6 := Aside0.mk (Kd.S_below HS.out hb); (try (replace hx0 := (hb.cell (World.block_lt_of_cell? _ _ hx0)).trans hx0)); (try (replace hx1 := (hb.cell (World.block_lt_of_cell? _ _ hx1)).trans hx1)); clear hg hbox hb; have hcz6 := (blk_cell BK6.out 0).trans rfl; have hcy6 := (blk_cell BK6.out 1).trans rfl; have hfz6 := blk_frozen BK6.out; have hczd := (blk_cell BKD6.out 0).trans rfl)
        have hS := Kd.S_set (Kd.S_set HS6.out BK6.out (by decide) 0 (.int .i64 T.f0)) (blk_put BK6.out 0 (.int .i64 T.f0) rfl) (by decide) 1 (.slice AL T.f1.length cL)
        have h6 := blk_put (blk_put BK6.out 0 (.int .i64 T.f0) rfl) 1 (.slice AL T.f1.length cL) rfl
        have hd := blk_far (p := ⟨g6, 1, none⟩) (blk_far (p := ⟨g6, 0, none⟩) BKD6.out hnd (.int .i64 T.f0)) hnd (.slice AL T.f1.length cL)
        have hr := blk_far (p := ⟨g6, 1, none⟩) (blk_far (p := ⟨g6, 0, none⟩) BKR6.out hnr (.int .i64 T.f0)) hnr (.slice AL T.f1.length cL)
        have hB := below_set (j := 1) (v := .slice AL T.f1.length cL) (below_set (j := 0) (v := .int .i64 T.f0) HB6.out HG6.out) HG6.out
        clear hx0 hx1 hcz6 hcy6 hfz6 hczd
        generalize ((w6.setCell ⟨g6, 0, none⟩ (.int .i64 T.f0)).setCell ⟨g6, 1, none⟩ (.slice AL T.f1.length cL)) = w7 at *
        have hS1 := Kd.S_drew hS
        have h61 := blk_drew h6
        have hd1 := blk_drew hd
        have hr1 := blk_drew hr
        have hB1 := below_drew1 hB
        have HGDN := Lib.hid (Kd.S_ne hS1 hd1 (by decide))
        have HGRN := Lib.hid (Kd.S_ne hS1 hr1 (by decide))
        obtain ⟨oki, cE, hcl, hM, hcc, hfr, hoki, hH⟩ := Kd.S_elem hS1 z48 (i : Int) (by omega) (by omega)
        obtain ⟨fE, v0, v1, rfl, g0, g1⟩ := k48a_openM hM
        obtain ⟨A2, c2, rfl⟩ := Kd.R_slice g0
        obtain ⟨A3, c3, rfl⟩ := Kd.R_slice g1
        have hx3 : World.cell? _ ⟨go, i * 2 + 1, none⟩ = some (.slice A3 (rd_T48 t i).f1.length c3) := hcc 1 _ rfl
        have hx6 : World.cell? _ ⟨g6, 0, none⟩ = some (.int .i64 T.f0) := (blk_cell h61 0).trans rfl
        obtain ⟨f, hf⟩ : ∃ f, f = rd_T48 t (i : Int) := ⟨_, rfl⟩
        have hfe : (t.getD (i : Int).toNat z48) = f := hf.symm
        rw [← hf] at hx3 HZ HALL HLIM
        rw [hfe] at g0 g1 hH
        have hc3 := (Kd.R_reads' g1).2.1
        obtain ⟨n, hn⟩ : ∃ n, n = disk_Crash.kept T.f0 f := ⟨_, rfl⟩
        rw [← hn] at HZ HALL HLIM
        have hnl : n ≤ f.f1.length := by rw [hn]; unfold disk_Crash.kept; omega
        have hni : (if 0 < if (f.f1.length : Int) < T.f0 then (f.f1.length : Int) else T.f0 then if (f.f1.length : Int) < T.f0 then (f.f1.length : Int) else T.f0 else 0) = (n : Int) := by rw [hn]; unfold disk_Crash.kept; omega
        have HFF := Lib.hid hf
        have HNN := Lib.hid hn
        clear hf hfe hn
        refine start_ (n := 15) (S := fun w' => w'.cell? ⟨go, i * 2 + 1, none⟩ = some (.slice A3 f.f1.length c3) ∧ w'.cell? ⟨g6, 0, none⟩ = some (.int .i64 T.f0)) (ds := []) #[false, false, false, false, false, false, false, false, false, false, false, false, false, false, false] (by kernel_rfl) rfl rfl ⟨hx3, hx6⟩ (fun hHeld => ?_)
        generalize w7.drew = w8 at *
        refine pure_ (i := 0) (N := some 30) (v := ?_) (a' := ?_) #[true, false, false, false, false, false, false, false, false, false, false, false, false, false, false] rfl rfl (by kernel_rfl) (fun _ _ _ h => h) (Or.inl ⟨by rfl, ?_⟩) ?_ ?_
        rotate_left
        · intro w'
          go_simp
          with_reducible rfl
        rotate_left
        · simp only [Act.put, List.setIfInBounds_toArray, List.set_cons_zero, List.set_cons_succ, i64_w, i32_w]
          rfl
        refine pure_ (i := 1) (N := some 31) (v := ?_) (a' := ?_) #[true, true, false, false, false, false, false, false, false, false, false, false, false, false, false] rfl rfl (by kernel_rfl) (fun _ _ _ h => h) (Or.inl ⟨by rfl, ?_⟩) ?_ ?_
        rotate_left
        · intro w'
          go_simp
          with_reducible rfl
        rotate_left
        · simp only [Act.put, List.setIfInBounds_toArray, List.set_cons_zero, List.set_cons_succ, i64_w, i32_w]
          rfl
        refine pure_ (i := 2) (N := some 32) (v := ?_) (a' := ?_) #[true, true, true, false, false, false, false, false, false, false, false, false, false, false, false] rfl rfl (by kernel_rfl) (fun _ _ _ h => h) (Or.inl ⟨by rfl, ?_⟩) ?_ ?_
        rotate_left
        · intro w'
          go_simp
          with_reducible rfl
        rotate_left
        · simp only [Act.put, List.setIfInBounds_toArray, List.set_cons_zero, List.set_cons_succ, i64_w, i32_w]
          rfl
        refine pure_ (i := 4) (N := some 34) (v := ?_) (a' := ?_) #[true, true, true, false, true, false, false, false, false, false, false, false, false, false, false] rfl rfl (by kernel_rfl) (fun _ _ _ h => h) (Or.inl ⟨by rfl, ?_⟩) ?_ ?_
        rotate_left
        · intro w'
          go_simp
          with_reducible rfl
        rotate_left
        · simp only [Act.put, List.setIfInBounds_toArray, List.set_cons_zero, List.set_cons_succ, i64_w, i32_w]
          rfl
        refine pure_ (i := 6) (N := some 36) (v := ?_) (a' := ?_) #[true, true, true, false, true, false, true, false, false, false, false, false, false, false, false] rfl rfl (by kernel_rfl) (fun _ _ _ h => h) (Or.inl ⟨by rfl, ?_⟩) ?_ ?_
        rotate_left
        · intro w'
          go_simp
          with_reducible rfl
        rotate_left
        · simp only [Act.put, List.setIfInBounds_toArray, List.set_cons_zero, List.set_cons_succ, i64_w, i32_w]
          rfl
        refine pure_ (i := 7) (N := some 37) (v := ?_) (a' := ?_) #[true, true, true, false, true, false, true, true, false, false, false, false, false, false, false] rfl rfl (by kernel_rfl) (fun _ _ _ h => h) (Or.inl ⟨by rfl, ?_⟩) ?_ ?_
        rotate_left
        · intro w'
          go_simp
          with_reducible rfl
        rotate_left
        · simp only [Act.put, List.setIfInBounds_toArray, List.set_cons_zero, List.set_cons_succ, i64_w, i32_w]
          rfl
        refine pure_ (i := 8) (N := some 38) (v := ?_) (a' := ?_) #[true, true, true, false, true, false, true, true, true, false, false, false, false, false, false] rfl rfl (by kernel_rfl) (fun _ _ _ h => h) (Or.inl ⟨by rfl, ?_⟩) ?_ ?_
        rotate_left
        · intro w'
          go_simp
          with_reducible rfl
        rotate_left
        · simp only [Act.put, List.setIfInBounds_toArray, List.set_cons_zero, List.set_cons_succ, i64_w, i32_w]
          rfl
        refine take_ (i := 3) (N := some 33) (v := ?_) (a' := ?_) #[true, true, true, true, true, false, true, true, true, false, false, false, false, false, false] rfl rfl (by kernel_rfl) (fun _ _ _ h => h) (Or.inl ⟨by rfl, ?_⟩) hHeld ?_ ?_
        rotate_left
        · rintro w' ⟨s0, s1⟩
          go_simp
          with_reducible rfl
        rotate_left
        · simp only [Act.put, List.setIfInBounds_toArray, List.set_cons_zero, List.set_cons_succ, i64_w, i32_w]
          rfl
        refine take_ (i := 5) (N := some 35) (v := ?_) (a' := ?_) #[true, true, true, true, true, true, true, true, true, false, false, false, false, false, false] rfl rfl (by kernel_rfl) (fun _ _ _ h => h) (Or.inl ⟨by rfl, ?_⟩) hHeld ?_ ?_
        rotate_left
        · rintro w' ⟨s0, s1⟩
          go_simp
          with_reducible rfl
        rotate_left
        · simp only [Act.put, List.setIfInBounds_toArray, List.set_cons_zero, List.set_cons_succ, i64_w, i32_w]
          rfl
        refine take_ (i := 9) (N := some 39) (v := ?_) (a' := ?_) #[true, true, true, true, true, true, true, true, true, true, false, false, false, false, false] rfl rfl (by kernel_rfl) (fun _ _ _ h => h) (Or.inl ⟨by rfl, ?_⟩) hHeld ?_ ?_
        rotate_left
        · rintro w' ⟨s0, s1⟩
          go_simp
          with_reducible rfl
        rotate_left
        · simp only [Act.put, List.setIfInBounds_toArray, List.set_cons_zero, List.set_cons_succ, i64_w, i32_w]
          rfl
        refine pure_ (i := 10) (N := some 40) (v := ?_) (a' := ?_) #[true, true, true, true, true, true, true, true, true, true, true, false, false, false, false] rfl rfl (by kernel_rfl) (fun _ _ _ h => h) (Or.inl ⟨by rfl, ?_⟩) ?_ ?_
        rotate_left
        · intro w'
          go_simp
          with_reducible rfl
        rotate_left
        · simp only [Act.put, List.setIfInBounds_toArray, List.set_cons_zero, List.set_cons_succ, i64_w, i32_w]
          rfl
        refine pure_ (i := 11) (N := some 41) (v := ?_) (a' := ?_) #[true, true, true, true, true, true, true, true, true, true, true, true, false, false, false] rfl rfl (by kernel_rfl) (fun _ _ _ h => h) (Or.inl ⟨by rfl, ?_⟩) ?_ ?_
        rotate_left
        · intro w'
          go_simp
          with_reducible rfl
        rotate_left
        · simp only [Act.put, List.setIfInBounds_toArray, List.set_cons_zero, List.set_cons_succ, i64_w, i32_w]
          rfl
        refine pure_ (i := 12) (N := some 42) (v := ?_) (a' := ?_) #[true, true, true, true, true, true, true, true, true, true, true, true, true, false, false] rfl rfl (by kernel_rfl) (fun _ _ _ h => h) (Or.inl ⟨by rfl, ?_⟩) ?_ ?_
        rotate_left
        · intro w'
          go_simp
          with_reducible rfl
        rotate_left
        · simp only [Act.put, List.setIfInBounds_toArray, List.set_cons_zero, List.set_cons_succ, i64_w, i32_w]
          rfl
        have hnc : n ≤ c3 := by omega
        refine pure_ (i := 13) (N := some 43) (v := ?_) (a' := ?_) #[true, true, true, true, true, true, true, true, true, true, true, true, true, true, false] rfl rfl (by kernel_rfl) (fun _ _ _ h => h) (Or.inl ⟨by rfl, ?_⟩) ?_ ?_
        rotate_left
        · intro w'
          go_simp
          with_reducible rfl
        rotate_left
        · simp only [Act.put, List.setIfInBounds_toArray, List.set_cons_zero, List.set_cons_succ, i64_w, i32_w]
          rfl
        refine pure_ (i := 14) (N := some 8) (v := ?_) (a' := ?_) #[true, true, true, true, true, true, true, true, true, true, true, true, true, true, true] rfl rfl (by kernel_rfl) (fun _ _ _ h => h) (Or.inl ⟨by rfl, ?_⟩) ?_ ?_
        rotate_left
        · intro w'
          go_simp
          with_reducible rfl
        rotate_left
        · simp only [Act.put, List.setIfInBounds_toArray, List.set_cons_zero, List.set_cons_succ, i64_w, i32_w]
          rfl
        refine done_ (by kernel_rfl) ?_
        clear hHeld hx3 hx6 hni hcc hfr
        have h9 := Lib.hid (And.intro g1 (And.intro g0 (And.intro hH (And.intro h61 (And.intro hd1 (And.intro hr1 hB1))))))
        clear g1 g0 hH h61 hd1 hr1 hB1 hS1 hS h6 hd hr hB hM hoki
        generalize (if (f.f1.length : Int) < T.f0 then (f.f1.length : Int) else T.f0) = mk_
        go_wp2
        go_loopw [9] (fun u9 W => ∃ (a q : Nat) (ys : List Int), u9 = .int .i64 a ∧ ys.length = f.f1.length ∧ disk_Crash.zap k T.f1 n q ys a = some xs ∧ a ≤ n + 16 ∧ Kd.R (Kd.int .u8) 5 W w.heap.size (fun k_ => oki k_ ∧ fE k_ = false) (.slice A3 f.f1.length c3) ys ∧ Kd.R (Kd.int .u8) 5 W w.heap.size (fun k_ => oki k_ ∧ fE k_ = true) (.slice A2 f.f0.length c2) f.f0 ∧ Kd.H k48a 48 W w.heap.size (fun _ => True) (.slice (some ⟨go, 0, none⟩) t0.length co) t (i : Int) oki [.slice A2 f.f0.length c2, .slice A3 f.f1.length c3] ∧ W.heap[g6]? = some (.cells #[.int .i64 T.f0, .slice AL T.f1.length cL] 39 (0, 0)) ∧ W.heap[gd]? = some (.cells #[.slice (some ⟨go, 0, none⟩) t0.length co] 24 (0, 0)) ∧ W.heap[gr]? = some (.cells #[.slice none 0 0] 24 (0, 0)) ∧ Below w.heap.size w W) (fun u9 _ => n + 16 - (intOf u9).toNat)
        case atStart => exact ⟨0, k, f.f1, rfl, rfl, HZ.out, Nat.zero_le _, h9.out.1, h9.out.2.1, h9.out.2.2.1, h9.out.2.2.2.1, h9.out.2.2.2.2.1, h9.out.2.2.2.2.2.1, h9.out.2.2.2.2.2.2⟩
        case round =>
          clear h9 HZ w8
          obtain ⟨a, q, ys, rfl, hyl, hz, hal, hg1, hg0, hh, hb6, hbd, hbr, hb⟩ := hrel
          have HG1 := Lib.hid hg1
          have HG0 := Lib.hid hg0
          have HH := Lib.hid hh
          have BK6 := Lib.hid hb6
          have BKD := Lib.hid hbd
          have BKR := Lib.hid hbr
          have HB := Lib.hid hb
          have HYL := Lib.hid hyl
          clear hg1 hg0 hh hb6 hbd hbr hb hyl
          rcases q with _ | q
          · cases hz
          rw [disk_Crash.zap] at hz
          by_cases han : a < n
          · rw [if_pos han] at hz
            obtain ⟨b, hcn, hz⟩ := Option.bind_eq_some_iff.1 hz
            have HZ := Lib.hid hz
            have HCN := Lib.hid hcn
            clear hz hcn
            have hczL := (blk_cell BK6.out 1).trans rfl
            have hn47 : n < 140737488355328 := Nat.lt_of_le_of_lt (Nat.le_add_left _ _) HLIM.out
            have hab0 : (0 : Int) ≤ (a : Int) := Int.natCast_nonneg a
            have hab1 : (a : Int) ≤ 140737488355327 := by omega
            obtain ⟨e1, he1⟩ : ∃ e1, e1 = min (a + 16) n := ⟨_, rfl⟩
            have he2 : a < e1 := he1 ▸ Nat.lt_min.2 ⟨Nat.lt_add_of_pos_right (by decide), han⟩
            have he3 : e1 ≤ n := he1 ▸ Nat.min_le_right _ _
            have hmin : (if (n : Int) < (a : Int) + 16 then (n : Int) else (a : Int) + 16) = (e1 : Int) := he1 ▸ disk_Crash.mn_cast n a
            have HE1 := Lib.hid he1
            clear he1
            rcases b with _ | _
            · go_wp2_with (go_at_call 25; (refine (slices_Contains_int_int.calls k AL cL T.f1 _ false _ (Kd.C_below hCL HB.out) hcL HCN.out).mono ?_); rintro e wt ⟨rfl, hdr⟩; obtain ⟨nd, rfl⟩ := hdr.out; clear hdr)
              go_roundw
              case rel => exact ⟨a + 16, q, ys, rfl, HYL.out, HZ.out, by omega, Kd.R_drewN HG1.out _, Kd.R_drewN HG0.out _, Kd.H_drewN HH.out _, blk_drewN BK6.out _, blk_drewN BKD.out _, blk_drewN BKR.out _, pw_below_drewN HB.out _⟩
              case measure => simp [intOf]; omega
            · obtain ⟨gp, cp, eA, hgp, hgl, hGP⟩ := Kd.R_form HG1.out (by have := HYL.out; omega)
              rw [HYL.out] at eA
              cases eA
              clear hgl hGP
              have hclr : ∀ nd ty, (Builtin.clear_ #[30] ty #[.slice (some ⟨gp, a, none⟩) (e1 - a) (c3 - a)]).run Try.prog (wr.drewN nd) = .ok (.tuple #[]) ((wr.drewN nd).setCells gp a (List.replicate (e1 - a) (.int .u8 0))) :=
                fun nd ty => Lib.run_clear_slice _ 30 5 ty (.int .u8 0) Try.underlying30 (fun w => by kernel_rfl) rfl rfl gp a _ _ (by omega) (fun j hj => by have h_ := (Kd.R_celln 0 (Kd.R_drewN HG1.out nd) ((a + j : Nat) : Int) (by omega) (by omega)).1; rw [Int.toNat_natCast] at h_; rw [h_]; rfl) (fun j hj => by have h_ := (Kd.R_celln 0 (Kd.R_drewN HG1.out nd) ((a + j : Nat) : Int) (by omega) (by omega)).2; rw [Int.toNat_natCast] at h_; exact h_)
              have HGP := Lib.hid hgp
              clear hgp
              go_wp2_with (first | (go_at_call 25; (refine (slices_Contains_int_int.calls k AL cL T.f1 _ true _ (Kd.C_below hCL HB.out) hcL HCN.out).mono ?_); rintro e wt ⟨rfl, hdr⟩; obtain ⟨nd, rfl⟩ := hdr.out; clear hdr) | (simp only [hclr]))
              have hr := disk_Crash.R_clr (e1 - a) a (Kd.R_drewN HG1.out nd) (by have := HYL.out; omega)
              have hB := pw_below_grown (pw_below_drewN HB.out nd) (some gp) (pw_below_drewN HB.out nd).size hr.2 (fun k_ e_ => by cases e_; exact HGP.out)
              have h0 := Kd.R_grown (Kd.R_drewN HG0.out nd) hr.2 (fun k_ hk_ e_ => by cases e_; have h1_ := (HG1.out.1 gp rfl).2; rw [hk_.2] at h1_; exact absurd h1_ (by decide))
              have hH := Kd.H_grown (Kd.H_drewN HH.out nd) hr.2 (fun k_ e_ => by cases e_; exact (HG1.out.1 gp rfl).1)
              have h6 := blk_grown (blk_drewN BK6.out nd) hr.2 (Kd.R_ne (Kd.R_drewN HG1.out nd) (blk_drewN BK6.out nd) (by decide))
              have hd := blk_grown (blk_drewN BKD.out nd) hr.2 (Kd.R_ne (Kd.R_drewN HG1.out nd) (blk_drewN BKD.out nd) (by decide))
              have hrr := blk_grown (blk_drewN BKR.out nd) hr.2 (Kd.R_ne (Kd.R_drewN HG1.out nd) (blk_drewN BKR.out nd) (by decide))
              have hr1 := hr.1
              clear hr hclr
              generalize (wr.drewN nd).setCells gp a (List.replicate (e1 - a) (.int .u8 0)) = w9 at *
              go_roundw
              case rel => exact ⟨a + 16, q, disk_Crash.clr ys a (e1 - a), rfl, by rw [disk_Crash.clr_length]; exact HYL.out, HE1.out ▸ HZ.out, by omega, hr1, h0, hH, h6, hd, hrr, hB⟩
              case measure => simp [intOf]; omega
          · rw [if_neg han] at hz
            obtain rfl := Option.some.inj hz
            clear hz
            obtain ⟨y1, hy1⟩ : ∃ y_ : List Int, y_ = f.f0 ++ ys.take n := ⟨_, rfl⟩
            have hfe := HFF.out
            obtain ⟨x1, hx1_⟩ : ∃ x_ : S48, x_ = ⟨y1, []⟩ := ⟨_, rfl⟩
            have HX := Lib.hid hx1_
            have HY := Lib.hid hy1
            rw [← hy1, ← hx1_] at HALL
            clear hy1 hx1_ hfe
            obtain ⟨_, hfr0⟩ := Kd.H_at HH.out (by omega) (by omega)
            have hcc0 := (Kd.H_at HH.out (by omega) (by omega)).1
            have hz0 : World.cell? _ ⟨go, i * 2, none⟩ = some (.slice A2 f.f0.length c2) := hcc0 0 _ rfl
            clear hcc0 hfr0
            go_wp2_with ((with_reducible refine gate_builtin (b := .append) (xs := #[(.tmp 68), .tmp 69]) rfl ?_); at_builtin; refine Kd.R_append_rows (Kd.int .u8) (w0 := w) w.heap.size rfl (.tmp 68) (.tmp 69) 30 5 (.int .u8 0) 1 rfl Try.underlying30 info5 rfl (by decide) (by omega) (.slice A2 f.f0.length c2) f.f0 (ys.take n) _ _ _ (fun k_ => (oki k_ ∧ fE k_ = true) ∨ wr.heap.size ≤ k_) (fun _ => False) rfl rfl ?aO ?aR (fun _ _ h => h) (fun _ h => h.elim) ?aF ?aB ?aS ?aL ?_; (case aR => exact disk_Crash.C_taken (Kd.R_reads' HG1.out).2.2 (by have := HYL.out; omega)); (case aB => exact HB.out); (case aF => exact (fun _ h => .inr h)); (case aO => exact Kd.R_mono HG0.out (fun _ h => .inl h)); (case aS => exact (below_size HB.out)); (case aL => have := HLIM.out; omega); intro v1 w1 ho hb hg hat; rw [← HY.out] at ho; have HN0 := Lib.hid ho; have HN2 := Lib.hid (Kd.H_grown (Kd.H_widen HH.out) hg (fun k_ he => .inl (HG0.out.1 k_ he).1)); have HN3 := Lib.hid (blk_grown BKD.out hg (Kd.R_ne HG0.out BKD.out (by decide))); have HN4 := Lib.hid (blk_grown BKR.out hg (Kd.R_ne HG0.out BKR.out (by decide))); have HN5 := Lib.hid hb; clear ho hb hg hat hz0; obtain ⟨A4, c4, eo4⟩ := Kd.R_slice HN0.out; subst eo4; have hz0 : World.cell? _ ⟨go, i * 2, none⟩ = some (.slice A2 f.f0.length c2) := (Kd.H_at HN2.out (by omega) (by omega)).1 0 _ rfl; have hz1 : World.cell? _ ⟨go, i * 2 + 1, none⟩ = some (.slice A3 f.f1.length c3) := (Kd.H_at HN2.out (by omega) (by omega)).1 1 _ rfl; have hy0 : World.frozen? _ ⟨go, i * 2, none⟩ = false := (Kd.H_at HN2.out (by omega) (by omega)).2 0; have hy1 : World.frozen? _ ⟨go, i * 2 + 1, none⟩ = false := (Kd.H_at HN2.out (by omega) (by omega)).2 1)
            have HP := Kd.S_seg0 HN2.out (by omega) (by omega) (seg := [.slice A4 y1.length c4, .slice none 0 0]) (j := 0) (show 0 + 2 ≤ 2 by decide) (x' := x1) (HX.out ▸ k48a_mk (⟨y1, []⟩ : S48) HN0.out (Kd.R_nil (Kd.int .u8) 5 _ _ (fun _ => False)) (fun _ _ h => h)) (fun k_ hk => hk.elim (fun h => h.elim (fun h => .inl h.1) (fun h => .inr ⟨trivial, h⟩)) (fun h => h.elim))
            have hB3 := blk_grown HN3.out HP.2 (HGDN.out)
            have hB4 := blk_grown HN4.out HP.2 (HGRN.out)
            have hS2 := HP.1
            have hB5 := below_set (j := i * 2 + 1) (v := .slice none 0 0) (below_set (j := i * 2) (v := .slice A4 y1.length c4) HN5.out HGO.out) HGO.out
            clear HP
            change (((w1.setCell ⟨go, i * 2, none⟩ (.slice A4 y1.length c4)).setCell ⟨go, i * 2 + 1, none⟩ (.slice none 0 0)).heap[gd]?) = _ at hB3
            change (((w1.setCell ⟨go, i * 2, none⟩ (.slice A4 y1.length c4)).setCell ⟨go, i * 2 + 1, none⟩ (.slice none 0 0)).heap[gr]?) = _ at hB4
            change Kd.S k48a 48 ((w1.setCell ⟨go, i * 2, none⟩ (.slice A4 y1.length c4)).setCell ⟨go, i * 2 + 1, none⟩ (.slice none 0 0)) _ _ _ _ at hS2
            generalize (w1.setCell ⟨go, i * 2, none⟩ (.slice A4 y1.length c4)).setCell ⟨go, i * 2 + 1, none⟩ (.slice none 0 0) = wz at *
            go_roundw
            case rel => exact ⟨i + 1, m, t.set i x1, by go_num, by rw [List.length_set]; exact HT.out, HALL.out, by omega, hS2, hB3, hB4, hB5⟩
            case measure => simp [intOf]; omega
      · rw [disk_Crash.neg hil] at hT
        have hq2 : ((i : Int) < (l1.length : Int)) = False := eq_false (by omega)
        have HT39 := Lib.hid hT
        clear hT
        go_wp2_with ((with_reducible refine gate_dst (N := 6) rfl ?_); refine box_event ?hg (N := 6) ?hd (cs := #[.int .i64 0, .slice none 0 0]) (t := 39) ?hr ?_; (case hd => rfl); (case hg => rfl); (case hr => first | (go_simp; done) | (go_simp; rfl)); intro g6 hg w6 hbox hb; have HG6 := Aside0.mk (show w.heap.size ≤ g6 by rw [hg]; exact below_size HB.out); have hnd := (show gd ≠ g6 by rw [hg]; exact Nat.ne_of_lt (blk_lt BKD.out)); have hnd2 := Ne.symm hnd; have hnr := (show gr ≠ g6 by rw [hg]; exact Nat.ne_of_lt (blk_lt BKR.out)); have BK6 := Aside0.mk hbox; have BKD6 := Aside0.mk (blk_below BKD.out hb); have BKR6 := Aside0.mk (blk_below BKR.out hb); have HB6 := Aside0.mk (below_step HB.out hb); have HS6 := Aside0.mk (Kd.S_below HS.out hb); (try (replace hx0 := (hb.cell (World.block_lt_of_cell? _ _ hx0)).trans hx0)); (try (replace hx1 := (hb.cell (World.block_lt_of_cell? _ _ hx1)).trans hx1)); clear hg hbox hb; have hcz6 := (blk_cell BK6.out 0).trans rfl; have hcy6 := (blk_cell BK6.out 1).trans rfl; have hfz6 := blk_frozen BK6.out; have hczd := (blk_cell BKD6.out 0).trans rfl)
        have hT := HT39.out
        obtain ⟨AL, hAL⟩ : ∃ AL : Option Addr, AL = none := ⟨_, rfl⟩
        obtain ⟨cL, hcL0⟩ : ∃ cL : Nat, cL = 0 := ⟨_, rfl⟩
        have hS := HS6.out
        have h6 : w6.heap[g6]? = some (.cells #[.int .i64 T.f0, .slice AL T.f1.length cL] 39 (0, 0)) := by rw [hT, hAL, hcL0]; exact BK6.out
        have hd := BKD6.out
        have hr := BKR6.out
        have hB := HB6.out
        have hcL : T.f1.length ≤ cL := by rw [hT, hcL0]; exact Nat.le_refl _
        have hCL : Kd.C (Kd.int .i64) w AL T.f1.length T.f1 := by rw [hT, hAL]; exact Kd.C_nil _ _
        clear hcz6 hcy6 hfz6 hczd hAL hcL0 hT
        generalize w6 = w7 at *
        have hS1 := Kd.S_drew hS
        have h61 := blk_drew h6
        have hd1 := blk_drew hd
        have hr1 := blk_drew hr
        have hB1 := below_drew1 hB
        have HGDN := Lib.hid (Kd.S_ne hS1 hd1 (by decide))
        have HGRN := Lib.hid (Kd.S_ne hS1 hr1 (by decide))
        obtain ⟨oki, cE, hcl, hM, hcc, hfr, hoki, hH⟩ := Kd.S_elem hS1 z48 (i : Int) (by omega) (by omega)
        obtain ⟨fE, v0, v1, rfl, g0, g1⟩ := k48a_openM hM
        obtain ⟨A2, c2, rfl⟩ := Kd.R_slice g0
        obtain ⟨A3, c3, rfl⟩ := Kd.R_slice g1
        have hx3 : World.cell? _ ⟨go, i * 2 + 1, none⟩ = some (.slice A3 (rd_T48 t i).f1.length c3) := hcc 1 _ rfl
        have hx6 : World.cell? _ ⟨g6, 0, none⟩ = some (.int .i64 T.f0) := (blk_cell h61 0).trans rfl
        obtain ⟨f, hf⟩ : ∃ f, f = rd_T48 t (i : Int) := ⟨_, rfl⟩
        have hfe : (t.getD (i : Int).toNat z48) = f := hf.symm
        rw [← hf] at hx3 HZ HALL HLIM
        rw [hfe] at g0 g1 hH
        have hc3 := (Kd.R_reads' g1).2.1
        obtain ⟨n, hn⟩ : ∃ n, n = disk_Crash.kept T.f0 f := ⟨_, rfl⟩
        rw [← hn] at HZ HALL HLIM
        have hnl : n ≤ f.f1.length := by rw [hn]; unfold disk_Crash.kept; omega
        have hni : (if 0 < if (f.f1.length : Int) < T.f0 then (f.f1.length : Int) else T.f0 then if (f.f1.length : Int) < T.f0 then (f.f1.length : Int) else T.f0 else 0) = (n : Int) := by rw [hn]; unfold disk_Crash.kept; omega
        have HFF := Lib.hid hf
        have HNN := Lib.hid hn
        clear hf hfe hn
        refine start_ (n := 15) (S := fun w' => w'.cell? ⟨go, i * 2 + 1, none⟩ = some (.slice A3 f.f1.length c3) ∧ w'.cell? ⟨g6, 0, none⟩ = some (.int .i64 T.f0)) (ds := []) #[false, false, false, false, false, false, false, false, false, false, false, false, false, false, false] (by kernel_rfl) rfl rfl ⟨hx3, hx6⟩ (fun hHeld => ?_)
        generalize w7.drew = w8 at *
        refine pure_ (i := 0) (N := some 30) (v := ?_) (a' := ?_) #[true, false, false, false, false, false, false, false, false, false, false, false, false, false, false] rfl rfl (by kernel_rfl) (fun _ _ _ h => h) (Or.inl ⟨by rfl, ?_⟩) ?_ ?_
        rotate_left
        · intro w'
          go_simp
          with_reducible rfl
        rotate_left
        · simp only [Act.put, List.setIfInBounds_toArray, List.set_cons_zero, List.set_cons_succ, i64_w, i32_w]
          rfl
        refine pure_ (i := 1) (N := some 31) (v := ?_) (a' := ?_) #[true, true, false, false, false, false, false, false, false, false, false, false, false, false, false] rfl rfl (by kernel_rfl) (fun _ _ _ h => h) (Or.inl ⟨by rfl, ?_⟩) ?_ ?_
        rotate_left
        · intro w'
          go_simp
          with_reducible rfl
        rotate_left
        · simp only [Act.put, List.setIfInBounds_toArray, List.set_cons_zero, List.set_cons_succ, i64_w, i32_w]
          rfl
        refine pure_ (i := 2) (N := some 32) (v := ?_) (a' := ?_) #[true, true, true, false, false, false, false, false, false, false, false, false, false, false, false] rfl rfl (by kernel_rfl) (fun _ _ _ h => h) (Or.inl ⟨by rfl, ?_⟩) ?_ ?_
        rotate_left
        · intro w'
          go_simp
          with_reducible rfl
        rotate_left
        · simp only [Act.put, List.setIfInBounds_toArray, List.set_cons_zero, List.set_cons_succ, i64_w, i32_w]
          rfl
        refine pure_ (i := 4) (N := some 34) (v := ?_) (a' := ?_) #[true, true, true, false, true, false, false, false, false, false, false, false, false, false, false] rfl rfl (by kernel_rfl) (fun _ _ _ h => h) (Or.inl ⟨by rfl, ?_⟩) ?_ ?_
        rotate_left
        · intro w'
          go_simp
          with_reducible rfl
        rotate_left
        · simp only [Act.put, List.setIfInBounds_toArray, List.set_cons_zero, List.set_cons_succ, i64_w, i32_w]
          rfl
        refine pure_ (i := 6) (N := some 36) (v := ?_) (a' := ?_) #[true, true, true, false, true, false, true, false, false, false, false, false, false, false, false] rfl rfl (by kernel_rfl) (fun _ _ _ h => h) (Or.inl ⟨by rfl, ?_⟩) ?_ ?_
        rotate_left
        · intro w'
          go_simp
          with_reducible rfl
        rotate_left
        · simp only [Act.put, List.setIfInBounds_toArray, List.set_cons_zero, List.set_cons_succ, i64_w, i32_w]
          rfl
        refine pure_ (i := 7) (N := some 37) (v := ?_) (a' := ?_) #[true, true, true, false, true, false, true, true, false, false, false, false, false, false, false] rfl rfl (by kernel_rfl) (fun _ _ _ h => h) (Or.inl ⟨by rfl, ?_⟩) ?_ ?_
        rotate_left
        · intro w'
          go_simp
          with_reducible rfl
        rotate_left
        · simp only [Act.put, List.setIfInBounds_toArray, List.set_cons_zero, List.set_cons_succ, i64_w, i32_w]
          rfl
        refine pure_ (i := 8) (N := some 38) (v := ?_) (a' := ?_) #[true, true, true, false, true, false, true, true, true, false, false, false, false, false, false] rfl rfl (by kernel_rfl) (fun _ _ _ h => h) (Or.inl ⟨by rfl, ?_⟩) ?_ ?_
        rotate_left
        · intro w'
          go_simp
          with_reducible rfl
        rotate_left
        · simp only [Act.put, List.setIfInBounds_toArray, List.set_cons_zero, List.set_cons_succ, i64_w, i32_w]
          rfl
        refine take_ (i := 3) (N := some 33) (v := ?_) (a' := ?_) #[true, true, true, true, true, false, true, true, true, false, false, false, false, false, false] rfl rfl (by kernel_rfl) (fun _ _ _ h => h) (Or.inl ⟨by rfl, ?_⟩) hHeld ?_ ?_
        rotate_left
        · rintro w' ⟨s0, s1⟩
          go_simp
          with_reducible rfl
        rotate_left
        · simp only [Act.put, List.setIfInBounds_toArray, List.set_cons_zero, List.set_cons_succ, i64_w, i32_w]
          rfl
        refine take_ (i := 5) (N := some 35) (v := ?_) (a' := ?_) #[true, true, true, true, true, true, true, true, true, false, false, false, false, false, false] rfl rfl (by kernel_rfl) (fun _ _ _ h => h) (Or.inl ⟨by rfl, ?_⟩) hHeld ?_ ?_
        rotate_left
        · rintro w' ⟨s0, s1⟩
          go_simp
          with_reducible rfl
        rotate_left
        · simp only [Act.put, List.setIfInBounds_toArray, List.set_cons_zero, List.set_cons_succ, i64_w, i32_w]
          rfl
        refine take_ (i := 9) (N := some 39) (v := ?_) (a' := ?_) #[true, true, true, true, true, true, true, true, true, true, false, false, false, false, false] rfl rfl (by kernel_rfl) (fun _ _ _ h => h) (Or.inl ⟨by rfl, ?_⟩) hHeld ?_ ?_
        rotate_left
        · rintro w' ⟨s0, s1⟩
          go_simp
          with_reducible rfl
        rotate_left
        · simp only [Act.put, List.setIfInBounds_toArray, List.set_cons_zero, List.set_cons_succ, i64_w, i32_w]
          rfl
        refine pure_ (i := 10) (N := some 40) (v := ?_) (a' := ?_) #[true, true, true, true, true, true, true, true, true, true, true, false, false, false, false] rfl rfl (by kernel_rfl) (fun _ _ _ h => h) (Or.inl ⟨by rfl, ?_⟩) ?_ ?_
        rotate_left
        · intro w'
          go_simp
          with_reducible rfl
        rotate_left
        · simp only [Act.put, List.setIfInBounds_toArray, List.set_cons_zero, List.set_cons_succ, i64_w, i32_w]
          rfl
        refine pure_ (i := 11) (N := some 41) (v := ?_) (a' := ?_) #[true, true, true, true, true, true, true, true, true, true, true, true, false, false, false] rfl rfl (by kernel_rfl) (fun _ _ _ h => h) (Or.inl ⟨by rfl, ?_⟩) ?_ ?_
        rotate_left
        · intro w'
          go_simp
          with_reducible rfl
        rotate_left
        · simp only [Act.put, List.setIfInBounds_toArray, List.set_cons_zero, List.set_cons_succ, i64_w, i32_w]
          rfl
        refine pure_ (i := 12) (N := some 42) (v := ?_) (a' := ?_) #[true, true, true, true, true, true, true, true, true, true, true, true, true, false, false] rfl rfl (by kernel_rfl) (fun _ _ _ h => h) (Or.inl ⟨by rfl, ?_⟩) ?_ ?_
        rotate_left
        · intro w'
          go_simp
          with_reducible rfl
        rotate_left
        · simp only [Act.put, List.setIfInBounds_toArray, List.set_cons_zero, List.set_cons_succ, i64_w, i32_w]
          rfl
        have hnc : n ≤ c3 := by omega
        refine pure_ (i := 13) (N := some 43) (v := ?_) (a' := ?_) #[true, true, true, true, true, true, true, true, true, true, true, true, true, true, false] rfl rfl (by kernel_rfl) (fun _ _ _ h => h) (Or.inl ⟨by rfl, ?_⟩) ?_ ?_
        rotate_left
        · intro w'
          go_simp
          with_reducible rfl
        rotate_left
        · simp only [Act.put, List.setIfInBounds_toArray, List.set_cons_zero, List.set_cons_succ, i64_w, i32_w]
          rfl
        refine pure_ (i := 14) (N := some 8) (v := ?_) (a' := ?_) #[true, true, true, true, true, true, true, true, true, true, true, true, true, true, true] rfl rfl (by kernel_rfl) (fun _ _ _ h => h) (Or.inl ⟨by rfl, ?_⟩) ?_ ?_
        rotate_left
        · intro w'
          go_simp
          with_reducible rfl
        rotate_left
        · simp only [Act.put, List.setIfInBounds_toArray, List.set_cons_zero, List.set_cons_succ, i64_w, i32_w]
          rfl
        refine done_ (by kernel_rfl) ?_
        clear hHeld hx3 hx6 hni hcc hfr
        have h9 := Lib.hid (And.intro g1 (And.intro g0 (And.intro hH (And.intro h61 (And.intro hd1 (And.intro hr1 hB1))))))
        clear g1 g0 hH h61 hd1 hr1 hB1 hS1 hS h6 hd hr hB hM hoki
        generalize (if (f.f1.length : Int) < T.f0 then (f.f1.length : Int) else T.f0) = mk_
        go_wp2
        go_loopw [9] (fun u9 W => ∃ (a q : Nat) (ys : List Int), u9 = .int .i64 a ∧ ys.length = f.f1.length ∧ disk_Crash.zap k T.f1 n q ys a = some xs ∧ a ≤ n + 16 ∧ Kd.R (Kd.int .u8) 5 W w.heap.size (fun k_ => oki k_ ∧ fE k_ = false) (.slice A3 f.f1.length c3) ys ∧ Kd.R (Kd.int .u8) 5 W w.heap.size (fun k_ => oki k_ ∧ fE k_ = true) (.slice A2 f.f0.length c2) f.f0 ∧ Kd.H k48a 48 W w.heap.size (fun _ => True) (.slice (some ⟨go, 0, none⟩) t0.length co) t (i : Int) oki [.slice A2 f.f0.length c2, .slice A3 f.f1.length c3] ∧ W.heap[g6]? = some (.cells #[.int .i64 T.f0, .slice AL T.f1.length cL] 39 (0, 0)) ∧ W.heap[gd]? = some (.cells #[.slice (some ⟨go, 0, none⟩) t0.length co] 24 (0, 0)) ∧ W.heap[gr]? = some (.cells #[.slice none 0 0] 24 (0, 0)) ∧ Below w.heap.size w W) (fun u9 _ => n + 16 - (intOf u9).toNat)
        case atStart => exact ⟨0, k, f.f1, rfl, rfl, HZ.out, Nat.zero_le _, h9.out.1, h9.out.2.1, h9.out.2.2.1, h9.out.2.2.2.1, h9.out.2.2.2.2.1, h9.out.2.2.2.2.2.1, h9.out.2.2.2.2.2.2⟩
        case round =>
          clear h9 HZ w8
          obtain ⟨a, q, ys, rfl, hyl, hz, hal, hg1, hg0, hh, hb6, hbd, hbr, hb⟩ := hrel
          have HG1 := Lib.hid hg1
          have HG0 := Lib.hid hg0
          have HH := Lib.hid hh
          have BK6 := Lib.hid hb6
          have BKD := Lib.hid hbd
          have BKR := Lib.hid hbr
          have HB := Lib.hid hb
          have HYL := Lib.hid hyl
          clear hg1 hg0 hh hb6 hbd hbr hb hyl
          rcases q with _ | q
          · cases hz
          rw [disk_Crash.zap] at hz
          by_cases han : a < n
          · rw [if_pos han] at hz
            obtain ⟨b, hcn, hz⟩ := Option.bind_eq_some_iff.1 hz
            have HZ := Lib.hid hz
            have HCN := Lib.hid hcn
            clear hz hcn
            have hczL := (blk_cell BK6.out 1).trans rfl
            have hn47 : n < 140737488355328 := Nat.lt_of_le_of_lt (Nat.le_add_left _ _) HLIM.out
            have hab0 : (0 : Int) ≤ (a : Int) := Int.natCast_nonneg a
            have hab1 : (a : Int) ≤ 140737488355327 := by omega
            obtain ⟨e1, he1⟩ : ∃ e1, e1 = min (a + 16) n := ⟨_, rfl⟩
            have he2 : a < e1 := he1 ▸ Nat.lt_min.2 ⟨Nat.lt_add_of_pos_right (by decide), han⟩
            have he3 : e1 ≤ n := he1 ▸ Nat.min_le_right _ _
            have hmin : (if (n : Int) < (a : Int) + 16 then (n : Int) else (a : Int) + 16) = (e1 : Int) := he1 ▸ disk_Crash.mn_cast n a
            have HE1 := Lib.hid he1
            clear he1
            rcases b with _ | _
            · go_wp2_with (go_at_call 25; (refine (slices_Contains_int_int.calls k AL cL T.f1 _ false _ (Kd.C_below hCL HB.out) hcL HCN.out).mono ?_); rintro e wt ⟨rfl, hdr⟩; obtain ⟨nd, rfl⟩ := hdr.out; clear hdr)
              go_roundw
              case rel => exact ⟨a + 16, q, ys, rfl, HYL.out, HZ.out, by omega, Kd.R_drewN HG1.out _, Kd.R_drewN HG0.out _, Kd.H_drewN HH.out _, blk_drewN BK6.out _, blk_drewN BKD.out _, blk_drewN BKR.out _, pw_below_drewN HB.out _⟩
              case measure => simp [intOf]; omega
            · obtain ⟨gp, cp, eA, hgp, hgl, hGP⟩ := Kd.R_form HG1.out (by have := HYL.out; omega)
              rw [HYL.out] at eA
              cases eA
              clear hgl hGP
              have hclr : ∀ nd ty, (Builtin.clear_ #[30] ty #[.slice (some ⟨gp, a, none⟩) (e1 - a) (c3 - a)]).run Try.prog (wr.drewN nd) = .ok (.tuple #[]) ((wr.drewN nd).setCells gp a (List.replicate (e1 - a) (.int .u8 0))) :=
                fun nd ty => Lib.run_clear_slice _ 30 5 ty (.int .u8 0) Try.underlying30 (fun w => by kernel_rfl) rfl rfl gp a _ _ (by omega) (fun j hj => by have h_ := (Kd.R_celln 0 (Kd.R_drewN HG1.out nd) ((a + j : Nat) : Int) (by omega) (by omega)).1; rw [Int.toNat_natCast] at h_; rw [h_]; rfl) (fun j hj => by have h_ := (Kd.R_celln 0 (Kd.R_drewN HG1.out nd) ((a + j : Nat) : Int) (by omega) (by omega)).2; rw [Int.toNat_natCast] at h_; exact h_)
              have HGP := Lib.hid hgp
              clear hgp
              go_wp2_with (first | (go_at_call 25; (refine (slices_Contains_int_int.calls k AL cL T.f1 _ true _ (Kd.C_below hCL HB.out) hcL HCN.out).mono ?_); rintro e wt ⟨rfl, hdr⟩; obtain ⟨nd, rfl⟩ := hdr.out; clear hdr) | (simp only [hclr]))
              have hr := disk_Crash.R_clr (e1 - a) a (Kd.R_drewN HG1.out nd) (by have := HYL.out; omega)
              have hB := pw_below_grown (pw_below_drewN HB.out nd) (some gp) (pw_below_drewN HB.out nd).size hr.2 (fun k_ e_ => by cases e_; exact HGP.out)
              have h0 := Kd.R_grown (Kd.R_drewN HG0.out nd) hr.2 (fun k_ hk_ e_ => by cases e_; have h1_ := (HG1.out.1 gp rfl).2; rw [hk_.2] at h1_; exact absurd h1_ (by decide))
              have hH := Kd.H_grown (Kd.H_drewN HH.out nd) hr.2 (fun k_ e_ => by cases e_; exact (HG1.out.1 gp rfl).1)
              have h6 := blk_grown (blk_drewN BK6.out nd) hr.2 (Kd.R_ne (Kd.R_drewN HG1.out nd) (blk_drewN BK6.out nd) (by decide))
              have hd := blk_grown (blk_drewN BKD.out nd) hr.2 (Kd.R_ne (Kd.R_drewN HG1.out nd) (blk_drewN BKD.out nd) (by decide))
              have hrr := blk_grown (blk_drewN BKR.out nd) hr.2 (Kd.R_ne (Kd.R_drewN HG1.out nd) (blk_drewN BKR.out nd) (by decide))
              have hr1 := hr.1
              clear hr hclr
              generalize (wr.drewN nd).setCells gp a (List.replicate (e1 - a) (.int .u8 0)) = w9 at *
              go_roundw
              case rel => exact ⟨a + 16, q, disk_Crash.clr ys a (e1 - a), rfl, by rw [disk_Crash.clr_length]; exact HYL.out, HE1.out ▸ HZ.out, by omega, hr1, h0, hH, h6, hd, hrr, hB⟩
              case measure => simp [intOf]; omega
          · rw [if_neg han] at hz
            obtain rfl := Option.some.inj hz
            clear hz
            obtain ⟨y1, hy1⟩ : ∃ y_ : List Int, y_ = f.f0 ++ ys.take n := ⟨_, rfl⟩
            have hfe := HFF.out
            obtain ⟨x1, hx1_⟩ : ∃ x_ : S48, x_ = ⟨y1, []⟩ := ⟨_, rfl⟩
            have HX := Lib.hid hx1_
            have HY := Lib.hid hy1
            rw [← hy1, ← hx1_] at HALL
            clear hy1 hx1_ hfe
            obtain ⟨_, hfr0⟩ := Kd.H_at HH.out (by omega) (by omega)
            have hcc0 := (Kd.H_at HH.out (by omega) (by omega)).1
            have hz0 : World.cell? _ ⟨go, i * 2, none⟩ = some (.slice A2 f.f0.length c2) := hcc0 0 _ rfl
            clear hcc0 hfr0
            go_wp2_with ((with_reducible refine gate_builtin (b := .append) (xs := #[(.tmp 68), .tmp 69]) rfl ?_); at_builtin; refine Kd.R_append_rows (Kd.int .u8) (w0 := w) w.heap.size rfl (.tmp 68) (.tmp 69) 30 5 (.int .u8 0) 1 rfl Try.underlying30 info5 rfl (by decide) (by omega) (.slice A2 f.f0.length c2) f.f0 (ys.take n) _ _ _ (fun k_ => (oki k_ ∧ fE k_ = true) ∨ wr.heap.size ≤ k_) (fun _ => False) rfl rfl ?aO ?aR (fun _ _ h => h) (fun _ h => h.elim) ?aF ?aB ?aS ?aL ?_; (case aR => exact disk_Crash.C_taken (Kd.R_reads' HG1.out).2.2 (by have := HYL.out; omega)); (case aB => exact HB.out); (case aF => exact (fun _ h => .inr h)); (case aO => exact Kd.R_mono HG0.out (fun _ h => .inl h)); (case aS => exact (below_size HB.out)); (case aL => have := HLIM.out; omega); intro v1 w1 ho hb hg hat; rw [← HY.out] at ho; have HN0 := Lib.hid ho; have HN2 := Lib.hid (Kd.H_grown (Kd.H_widen HH.out) hg (fun k_ he => .inl (HG0.out.1 k_ he).1)); have HN3 := Lib.hid (blk_grown BKD.out hg (Kd.R_ne HG0.out BKD.out (by decide))); have HN4 := Lib.hid (blk_grown BKR.out hg (Kd.R_ne HG0.out BKR.out (by decide))); have HN5 := Lib.hid hb; clear ho hb hg hat hz0; obtain ⟨A4, c4, eo4⟩ := Kd.R_slice HN0.out; subst eo4; have hz0 : World.cell? _ ⟨go, i * 2, none⟩ = some (.slice A2 f.f0.length c2) := (Kd.H_at HN2.out (by omega) (by omega)).1 0 _ rfl; have hz1 : World.cell? _ ⟨go, i * 2 + 1, none⟩ = some (.slice A3 f.f1.length c3) := (Kd.H_at HN2.out (by omega) (by omega)).1 1 _ rfl; have hy0 : World.frozen? _ ⟨go, i * 2, none⟩ = false := (Kd.H_at HN2.out (by omega) (by omega)).2 0; have hy1 : World.frozen? _ ⟨go, i * 2 + 1, none⟩ = false := (Kd.H_at HN2.out (by omega) (by omega)).2 1)
            have HP := Kd.S_seg0 HN2.out (by omega) (by omega) (seg := [.slice A4 y1.length c4, .slice none 0 0]) (j := 0) (show 0 + 2 ≤ 2 by decide) (x' := x1) (HX.out ▸ k48a_mk (⟨y1, []⟩ : S48) HN0.out (Kd.R_nil (Kd.int .u8) 5 _ _ (fun _ => False)) (fun _ _ h => h)) (fun k_ hk => hk.elim (fun h => h.elim (fun h => .inl h.1) (fun h => .inr ⟨trivial, h⟩)) (fun h => h.elim))
            have hB3 := blk_grown HN3.out HP.2 (HGDN.out)
            have hB4 := blk_grown HN4.out HP.2 (HGRN.out)
            have hS2 := HP.1
            have hB5 := below_set (j := i * 2 + 1) (v := .slice none 0 0) (below_set (j := i * 2) (v := .slice A4 y1.length c4) HN5.out HGO.out) HGO.out
            clear HP
            change (((w1.setCell ⟨go, i * 2, none⟩ (.slice A4 y1.length c4)).setCell ⟨go, i * 2 + 1, none⟩ (.slice none 0 0)).heap[gd]?) = _ at hB3
            change (((w1.setCell ⟨go, i * 2, none⟩ (.slice A4 y1.length c4)).setCell ⟨go, i * 2 + 1, none⟩ (.slice none 0 0)).heap[gr]?) = _ at hB4
            change Kd.S k48a 48 ((w1.setCell ⟨go, i * 2, none⟩ (.slice A4 y1.length c4)).setCell ⟨go, i * 2 + 1, none⟩ (.slice none 0 0)) _ _ _ _ at hS2
            generalize (w1.setCell ⟨go, i * 2, none⟩ (.slice A4 y1.length c4)).setCell ⟨go, i * 2 + 1, none⟩ (.slice none 0 0) = wz at *
            go_roundw
            case rel => exact ⟨i + 1, m, t.set i x1, by go_num, by rw [List.length_set]; exact HT.out, HALL.out, by omega, hS2, hB3, hB4, hB5⟩
            case measure => simp [intOf]; omega
    · rw [if_neg (by omega)] at hall
      obtain rfl := Option.some.inj hall
      clear hall hi
      have hn1 : ¬ ((i : Int) < (t0.length : Int)) := by omega
      have HT := Lib.hid ht
      clear ht
      have hcz1 := (blk_cell BKD.out 0).trans rfl
      have hcz2 := (blk_cell BKR.out 0).trans rfl
      have hfz2 := blk_frozen BKR.out 0
      go_wp2
      refine bodyPost_ret (results_cell_row rfl _ _ gr 24 #[.slice Ao t0.length co] (0, 0) _ rfl (blk_put (cs := #[.slice none 0 0]) BKR.out 0 _ rfl) Try.underlying24 rfl (by kernel_rfl)) rfl ?_
      exact ⟨_, rfl, k48a_S (Kd.S_set HS.out BKR.out (by decide) 0 _), below_set HB.out HGR.out⟩

end Go.Proofs.Ytnfbjdnflifcoaa.PDk
