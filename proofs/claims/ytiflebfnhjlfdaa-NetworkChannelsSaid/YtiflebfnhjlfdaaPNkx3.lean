-- Laid by wip/tools/xprint.py, a program of this session over the kit's print: functions as Lean functions, each with its contract.
import Derived.Test.YtiflebfnhjlfdaaPNkx0
namespace Go.Proofs.Ytiflebfnhjlfdaa.PNk
open Go.RowKit Go.Proofs.YtiflebfnhjlfdaaW.PrintWords Go.Proofs.YtiflebfnhjlfdaaW.PrintLast Go.Proofs.YtiflebfnhjlfdaaW.PrintMore
attribute [local go_sem] max2_int min2_int max_two min_two max_three min_three max_four min_four   -- for this text's walks alone
set_option linter.unusedVariables false
set_option linter.unusedSimpArgs false

/-! ### network_Channel: function 14, by hand -/
attribute [local go_sem] Oper.semAt_some
/-- Is it a message of the channel? -/
def network_Channel.hit (f t : Int) (m : S32) : Bool := m.f0 == f && m.f1 == t
/-- The places of the channel's messages, counted from i. -/
def network_Channel.go (f t : Int) : List S32 → Nat → List Int
  | [], _ => []
  | m :: r, i => (if network_Channel.hit f t m = true then [(i : Int)] else []) ++ network_Channel.go f t r (i + 1)
theorem network_Channel.go_append (f t : Int) : ∀ (a b : List S32) (i : Nat), network_Channel.go f t (a ++ b) i = network_Channel.go f t a i ++ network_Channel.go f t b (i + a.length)
  | [], b, i => by simp [network_Channel.go]
  | m :: a, b, i => by
    simp only [List.cons_append, network_Channel.go, network_Channel.go_append f t a b (i + 1), List.length_cons, List.append_assoc]
    rw [show i + 1 + a.length = i + (a.length + 1) by omega]
theorem network_Channel.go_length (f t : Int) : ∀ (l : List S32) (i : Nat), (network_Channel.go f t l i).length ≤ l.length
  | [], _ => by simp [network_Channel.go]
  | m :: l, i => by
    have := network_Channel.go_length f t l (i + 1)
    simp only [network_Channel.go, List.length_append, List.length_cons]
    split <;> simp <;> omega
theorem network_Channel.go_next (f t : Int) {l : List S32} {i : Nat} (h : i < l.length) : network_Channel.go f t (l.take (i + 1)) 0 = network_Channel.go f t (l.take i) 0 ++ (if network_Channel.hit f t l[i] = true then [(i : Int)] else []) := by
  rw [List.take_succ_eq_append_getElem h, network_Channel.go_append, List.length_take, Nat.min_eq_left (by omega)]
  simp [network_Channel.go]
theorem network_Channel.go_prefix (f t : Int) (l : List S32) (i : Nat) : network_Channel.go f t (l.take i) 0 <+: network_Channel.go f t l 0 := by
  conv => rhs; rw [← List.take_append_drop i l, network_Channel.go_append]
  exact List.prefix_append _ _
theorem network_Channel.channel (A0 : Option Addr) (n c0 : Nat) (f t : Int) (W : World) : Calls Try.prog 33 #[.slice A0 n c0, .int .i64 f, .int .i64 t] W fun e w' => e = .returned (.func (.func 40) #[] #[.pointer (some ⟨W.heap.size, 0, none⟩), .pointer (some ⟨W.heap.size + 1, 0, none⟩), .pointer (some ⟨W.heap.size + 1 + 1, 0, none⟩)]) ∧ w' = ((W.alloc (.cells #[.slice A0 n c0] 26)).alloc (.cells #[.int .i64 f] 3)).alloc (.cells #[.int .i64 t] 3) := by
  go_enter Try.func33, Try.ntmps33
  go_wp2
  go_ret
  exact ⟨rfl, rfl⟩
set_option maxHeartbeats 4000000 in
set_option maxRecDepth 100000 in
theorem network_Channel.iter (A0 : Option Addr) (c0 : Nat) (l0 : List S32) (f t : Int) (b : Nat) (w : World) (hr0 : Kd.C k32 w A0 l0.length l0) (hb : b + 1 + 1 < w.heap.size)
    (h0 : w.cell? ⟨b, 0, none⟩ = some (.slice A0 l0.length c0)) (h1 : w.cell? ⟨b + 1, 0, none⟩ = some (.int .i64 f)) (h2 : w.cell? ⟨b + 1 + 1, 0, none⟩ = some (.int .i64 t)) :
    SeqStopsK Fence.wide 2 Try.prog 40 #[.pointer (some ⟨b, 0, none⟩), .pointer (some ⟨b + 1, 0, none⟩), .pointer (some ⟨b + 1 + 1, 0, none⟩)] (fun x : Int => #[.int .i64 x]) (Below w.heap.size) (fun ys => ys = network_Channel.go f t l0 0) (fun pre => pre <+: network_Channel.go f t l0 0) l0.length w := by
  intro l J Jx W hW hJ hJx hY hj0
  have hm := hr0.2.1
  have HR0 := aM hr0
  have H0 := aM h0
  have H1 := aM h1
  have H2 := aM h2
  have HLB := aM hb
  have HJ := aM hj0
  have HW := aM hW
  have HJA := aM hJ
  have HJX := aM hJx
  have HYH := aM hY
  have g0 : W.cell? ⟨b, 0, none⟩ = some (.slice A0 l0.length c0) := (hW.cell (World.block_lt_of_cell? w _ h0)).trans h0
  clear hr0 h0 h1 h2 hb hj0 hW hJ hJx hY
  refine callsIn_of_wp Try.func40 rfl trivial ?_ rfl
  simp only [Try.ntmps40, List.size_toArray, List.length_cons, List.length_nil, Nat.reduceAdd, Nat.reduceSub, Array.replicate_succ, Array.replicate_zero, List.push_toArray, List.append_toArray, List.nil_append, List.cons_append]
  gi_wp2
  gi_loopw [9] (fun u9 wr => ∃ i : Nat, i ≤ l0.length ∧ u9 = .int .i64 i ∧ Aside0 (J (network_Channel.go f t (l0.take i) 0) wr) ∧ Aside0 (Below w.heap.size w wr) ∧ Aside0 (W.heap.size ≤ wr.heap.size)) (fun u9 _ => l0.length - (intOf u9).toNat)
  case atStart => exact ⟨0, Nat.zero_le _, rfl, HJ, HW, ⟨Nat.le_refl _⟩⟩
  case round =>
    clear HJ HW g0
    obtain ⟨i, hi, rfl, HJ, HB, HS⟩ := hrel
    by_cases hlt : i < l0.length
    case neg =>
      have hd : ¬ (i : Int) < (l0.length : Int) := by omega
      have he : i = l0.length := by omega
      have HE := aM he
      clear hlt hi he
      gi_wp2
      go_end0
      exact ⟨⟨_, rfl⟩, .inl (by have h_ := HJ.out; rw [HE.out, List.take_of_length_le (Nat.le_refl _)] at h_; exact h_)⟩
    have hp1 : (0 ≤ (i : Int)) = True := eq_true (by omega)
    have hp2 : ((i : Int) < (l0.length : Int)) = True := eq_true (by omega)
    obtain ⟨M, hM⟩ : ∃ M, M = rd_T32 l0 (i : Int) := ⟨_, rfl⟩
    have hMl : M = l0[i] := by rw [hM]; simp [rd_T32, List.getD_eq_getElem?_getD, List.getElem?_eq_getElem hlt]
    have hgn := network_Channel.go_next f t hlt
    rw [← hMl] at hgn
    obtain ⟨ad1, A7, c7, A8, c8, eA, hx0, hx1, hx2, hx3, hx4, hx5, hx6, hx7, hx8, _⟩ := at_T32 HR0.out (i : Int) (by omega) (by omega)
    cases eA
    replace hx0 := (HB.out.cell (World.block_lt_of_cell? w _ hx0)).trans hx0
    replace hx1 := (HB.out.cell (World.block_lt_of_cell? w _ hx1)).trans hx1
    replace hx2 := (HB.out.cell (World.block_lt_of_cell? w _ hx2)).trans hx2
    replace hx3 := (HB.out.cell (World.block_lt_of_cell? w _ hx3)).trans hx3
    replace hx4 := (HB.out.cell (World.block_lt_of_cell? w _ hx4)).trans hx4
    replace hx5 := (HB.out.cell (World.block_lt_of_cell? w _ hx5)).trans hx5
    replace hx6 := (HB.out.cell (World.block_lt_of_cell? w _ hx6)).trans hx6
    replace hx7 := (HB.out.cell (World.block_lt_of_cell? w _ hx7)).trans hx7
    replace hx8 := (HB.out.cell (World.block_lt_of_cell? w _ hx8)).trans hx8
    rw [← hM] at hx0 hx1 hx2 hx3 hx4 hx5 hx6 hx7 hx8
    simp only [Int.toNat_natCast] at hx0 hx1 hx2 hx3 hx4 hx5 hx6 hx7 hx8
    have g1 : wr.cell? ⟨b + 1, 0, none⟩ = some (.int .i64 f) := (HB.out.cell (World.block_lt_of_cell? w _ H1.out)).trans H1.out
    have g2 : wr.cell? ⟨b + 1 + 1, 0, none⟩ = some (.int .i64 t) := (HB.out.cell (World.block_lt_of_cell? w _ H2.out)).trans H2.out
    have g3 : b + 1 + 1 < wr.heap.size := Nat.lt_of_lt_of_le HLB.out HB.out.size
    have g4 : b + 1 < wr.heap.size := by omega
    have hw1 : wrap64 ((i : Int) + 1) = ((i + 1 : Nat) : Int) := by unfold wrap64; omega
    have hw2 : IntKind.i64.wrap ((i : Int) + 1) = ((i + 1 : Nat) : Int) := (i64_w _).trans hw1
    have HGN := aM hgn
    have HLT := aM hlt
    clear hgn hM hMl hi hlt
    have hjn : ∀ o : Obj, J (network_Channel.go f t (l0.take i) 0) (wr.alloc o) := fun o => HJA.out _ _ _ none HJ.out (World.grownBy_alloc wr o none) (fun r e => by cases e)
    have HJN := aM hjn
    have HBN := aM (fun o : Obj => HB.out.trans ((Below.refl w.heap.size wr).alloc HB.out.size o))
    clear hjn
    cases c1 : (M.f0 == f) with
    | false =>
      have HC1 := aM c1
      gi_wp2
      refine ⟨fun _ h => (by cases h), ?_⟩
      gi_wp2
      go_roundw
      case rel =>
        refine ⟨i + 1, HLT.out, rfl, ⟨?_⟩, ⟨HBN.out _⟩, ⟨Nat.le_trans HS.out (by simp)⟩⟩
        rw [HGN.out, network_Channel.hit, HC1.out, Bool.false_and, if_neg Bool.false_ne_true, List.append_nil]
        exact HJN.out _
      case measure => have := HLT.out; simp [intOf]; omega
    | true =>
      cases c2 : (M.f1 == t) with
      | false =>
        have HC1 := aM c1
        have HC2 := aM c2
        gi_wp2
        refine ⟨fun _ h => (by cases h), ?_⟩
        gi_wp2
        go_roundw
        case rel =>
          refine ⟨i + 1, HLT.out, rfl, ⟨?_⟩, ⟨HBN.out _⟩, ⟨Nat.le_trans HS.out (by simp)⟩⟩
          rw [HGN.out, network_Channel.hit, HC1.out, HC2.out, Bool.true_and, if_neg Bool.false_ne_true, List.append_nil]
          exact HJN.out _
        case measure => have := HLT.out; simp [intOf]; omega
      | true =>
        have HC1 := aM c1
        have HC2 := aM c2
        have hgl := network_Channel.go_length f t (l0.take i) 0
        have hpl : (network_Channel.go f t (l0.take i) 0).length < l0.length := by
          rw [List.length_take] at hgl
          have := HLT.out
          omega
        have HHIT := aM (show network_Channel.go f t (l0.take (i + 1)) 0 = network_Channel.go f t (l0.take i) 0 ++ [(i : Int)] by rw [HGN.out, network_Channel.hit, HC1.out, HC2.out, Bool.true_and, if_pos rfl])
        obtain ⟨fn, tmps, assign, body, hy, hRd⟩ := HYH.out _ (i : Int) (wr.alloc (.cells #[.int .i64 M.f0, .int .i64 M.f1, .int .i64 M.f2.f0, .int .i64 M.f2.f1, .int .i64 M.f3, .int .i64 M.f4, .int .i64 M.f5, .slice A7 M.f6.length c7, .slice A8 M.f7.length c8] 32)) (HJN.out _) hpl
        clear hgl hpl
        gi_wp2
        refine hRd.mono ?_
        rintro e W3 (⟨rfl, hJ3, hk3⟩ | ⟨rfl, hJx3⟩)
        · have HJ3 := aM hJ3
          have HK3 := aM ((HBN.out _).trans hk3)
          have HS3 := aM (show W.heap.size ≤ W3.heap.size from Nat.le_trans (Nat.le_trans HS.out (by simp)) hk3.size)
          clear hJ3 hk3 hy hRd
          gi_wp2
          go_roundw
          case rel => exact ⟨i + 1, HLT.out, rfl, ⟨by rw [HHIT.out]; exact HJ3.out⟩, HK3, HS3⟩
          case measure => have := HLT.out; simp [intOf]; omega
        · have HJX3 := aM hJx3
          clear hJx3 hy hRd
          gi_wp2
          refine bodyPost_ret (results_none rfl _ _ _) rfl ?_
          exact ⟨⟨_, rfl⟩, .inr ⟨_, (by rw [← HHIT.out]; exact network_Channel.go_prefix f t l0 (i + 1)), HJX3.out⟩⟩
set_option maxHeartbeats 4000000 in
set_option maxRecDepth 100000 in
theorem network_Channel.append (A0 : Option Addr) (c0 : Nat) (l0 : List S32) (f t : Int) (b : Nat) (w : World) (hlen : l0.length < 17592186044416)
    (hit : SeqStopsK Fence.wide 2 Try.prog 40 #[.pointer (some ⟨b, 0, none⟩), .pointer (some ⟨b + 1, 0, none⟩), .pointer (some ⟨b + 1 + 1, 0, none⟩)] (fun x : Int => #[.int .i64 x]) (Below w.heap.size) (fun ys => ys = network_Channel.go f t l0 0) (fun pre => pre <+: network_Channel.go f t l0 0) l0.length w) :
    Calls Try.prog 39 #[.slice none 0 0, .func (.func 40) #[] #[.pointer (some ⟨b, 0, none⟩), .pointer (some ⟨b + 1, 0, none⟩), .pointer (some ⟨b + 1 + 1, 0, none⟩)]] w fun e w' => ∃ v : Value, e = .returned v ∧ Kd.R (Kd.int .i64) 3 w' w.heap.size (fun _ => True) v (network_Channel.go f t l0 0) ∧ Below w.heap.size w w' := by
  refine (callsIn_wide (n := 3)).1 ?_
  refine callsIn_of_wp_marks Try.func39 rfl trivial ?_ rfl
  simp only [Try.ntmps39, List.size_toArray, List.length_cons, List.length_nil, Nat.reduceAdd, Nat.reduceSub, Array.replicate_succ, Array.replicate_zero, List.push_toArray, List.append_toArray, List.nil_append, List.cons_append]
  gi_wp2
  have hB0 : Below w.heap.size w (w.alloc (.cells #[.slice none 0 0] 29)) := (Below.refl _ w).alloc (Nat.le_refl _) _
  have bO := Boxed.new w 29 (.slice none 0 0)
  have hgl := network_Channel.go_length f t l0 0
  obtain ⟨i0, hi, hz0, hz1, hz2⟩ := info_parts info3
  refine wpIn_rangeFunc_ownG (P := Try.prog) rfl (by omega) (gf := 40) (lb := #[.pointer (some ⟨b, 0, none⟩), .pointer (some ⟨b + 1, 0, none⟩), .pointer (some ⟨b + 1 + 1, 0, none⟩)]) rfl trivial (enters_of Try.func40 (by kernel_rfl) rfl) hit belowK_t (belowK_b (by simp)) hB0 (fun _ => rfl)
    (fun (pre : List Int) W => (∃ v, Boxed W w.heap.size 29 v ∧ W.ownsRow w.heap.size 3 1 v pre.length (pre.map (Value.int .i64)) ∧ True) ∧ Below w.heap.size w W)
    (fun _ _ _ => False)
    (OwnFrom.and (Own.from (holdsRow_own w.heap.size w.heap.size 29 3 1 (fun (pre : List Int) => pre.length) (fun (pre : List Int) => pre.map (Value.int .i64)) (fun _ _ => True)) _) (ownFrom_below (Nat.le_refl _) (by simp)))
    (fun _ _ _ _ _ hs _ _ => hs)
    ⟨⟨_, bO, World.ownsRow_nil _ _ _ _, trivial⟩, hB0⟩
    (fun x => { tmps := #[.slice none 0 0, .func (.func 40) #[] #[.pointer (some ⟨b, 0, none⟩), .pointer (some ⟨b + 1, 0, none⟩), .pointer (some ⟨b + 1 + 1, 0, none⟩)], .pointer (some ⟨w.heap.size, 0, none⟩), undef, .slice none 0 0, .int .i64 x, .func (.func 40) #[] #[.pointer (some ⟨b, 0, none⟩), .pointer (some ⟨b + 1, 0, none⟩), .pointer (some ⟨b + 1 + 1, 0, none⟩)], .int .i64 x, undef, undef, undef, undef, undef], defers := [] }) ?assign ?body ?done ?stop
  case assign =>
    intro l x W K hK
    gi_wp2
    exact hK
  case body =>
    rintro l pre x W ⟨⟨v, hv, hrow, _⟩, hB⟩ hlt
    have hc := hv.cell
    have hlt2 : pre.length < l0.length := hlt
    gi_wp2_with (gi_at_builtin; refine wpListIn_append_own _ rfl _ _ 29 rfl w.heap.size 3 i0 (.int .i64 0) 1 8 Try.underlying29 hi hz0 hz1 hz2 rfl (by decide) _ _ _ rfl (hrow.alloc _) ⟨W.heap.size, 0, none⟩ 1 1 [.int .i64 x] rfl rfl (cell_one_new _ _ _) (by simp [Value.oneCell']) (by simp only [maxLen]; omega) (by omega) (by have := hB.size; simp; omega) ?_; intro v' w1 hown' hgrow _; obtain ⟨g', cap', rfl⟩ := ownsRow_succ hown'; obtain ⟨hv1, hv2, hr2, hk2, hb2⟩ := hv.appended (by decide) hrow hB.size (Nat.le_refl _) hown' hgrow; have hc1 := hv1.cell; have hf1 := hv1.frozen)
    exact ⟨hk2.from _, hb2, ⟨_, hv2, by simpa using hr2, trivial⟩, hB.trans hb2⟩
  case done =>
    rintro D ys W hD rfl ⟨⟨v, hv, hrow, _⟩, hB⟩ hK
    have hc := hv.cell
    gi_wp2
    refine ⟨by simp, .inl ⟨_, _, rfl, run_takeDeferred hK, ?_⟩⟩
    exact ⟨_, results_tmp rfl _ _ _, v, rfl, Kd.R_of_own (ownsRow_putObj hrow _ hK rfl) (fun _ _ => trivial), hB.trans (belowK_b (w := w) (Nat.le_refl _) W D _ _ (by simp at hD; omega) hK rfl rfl)⟩
  case stop =>
    rintro D c pre W _ _ h _
    exact h.elim
theorem network_Channel.collect (A0 : Option Addr) (c0 : Nat) (l0 : List S32) (f t : Int) (b : Nat) (w : World) (hlen : l0.length < 17592186044416)
    (hit : SeqStopsK Fence.wide 2 Try.prog 40 #[.pointer (some ⟨b, 0, none⟩), .pointer (some ⟨b + 1, 0, none⟩), .pointer (some ⟨b + 1 + 1, 0, none⟩)] (fun x : Int => #[.int .i64 x]) (Below w.heap.size) (fun ys => ys = network_Channel.go f t l0 0) (fun pre => pre <+: network_Channel.go f t l0 0) l0.length w) :
    Calls Try.prog 32 #[.func (.func 40) #[] #[.pointer (some ⟨b, 0, none⟩), .pointer (some ⟨b + 1, 0, none⟩), .pointer (some ⟨b + 1 + 1, 0, none⟩)]] w fun e w' => ∃ v : Value, e = .returned v ∧ Kd.R (Kd.int .i64) 3 w' w.heap.size (fun _ => True) v (network_Channel.go f t l0 0) ∧ Below w.heap.size w w' := by
  have HAP := aM (network_Channel.append A0 c0 l0 f t b w hlen hit)
  clear hit
  go_enter Try.func32, Try.ntmps32
  go_wp2_with (go_at_call 39; refine HAP.out.mono ?_; rintro e w' ⟨v, rfl, hr, hb⟩; have HR := aM hr; have HB := aM hb; clear hr hb)
  go_ret
  exact ⟨_, rfl, HR.out, HB.out⟩

def network_Channel.f (l0 : List (S32)) (a1 : Int) (a2 : Int) : Option (List Int) := if l0.length < 17592186044416 then some (network_Channel.go a1 a2 l0 0) else none
set_option maxHeartbeats 4000000 in
set_option maxRecDepth 100000 in
theorem network_Channel.calls (A0 : Option Addr) (c0 : Nat) (l0 : List (S32)) (a1 : Int) (a2 : Int) (r : List Int) (w : World) (hr0 : Kd.C k32 w A0 l0.length l0) (hc0 : l0.length ≤ c0) (h : network_Channel.f l0 a1 a2 = some r) :
    Calls Try.prog 14 #[.slice A0 l0.length c0, .int .i64 a1, .int .i64 a2] w fun e w' => ∃ v0_ : Value, e = .returned (v0_) ∧ Kd.R (Kd.int .i64) 3 w' w.heap.size (fun _ => True) v0_ r ∧ Below w.heap.size w w' := by
  unfold network_Channel.f at h
  by_cases hlen : l0.length < 17592186044416
  case neg => rw [if_neg hlen] at h; cases h
  rw [if_pos hlen] at h
  cases Option.some.inj h
  have q0 := blk_alloc (blk_alloc (heap_alloc_new w (.cells #[.slice A0 l0.length c0] 26)) (.cells #[.int .i64 a1] 3)) (.cells #[.int .i64 a2] 3)
  have q1 := blk_alloc (heap_alloc_new (w.alloc (.cells #[.slice A0 l0.length c0] 26)) (.cells #[.int .i64 a1] 3)) (.cells #[.int .i64 a2] 3)
  have q2 := heap_alloc_new ((w.alloc (.cells #[.slice A0 l0.length c0] 26)).alloc (.cells #[.int .i64 a1] 3)) (.cells #[.int .i64 a2] 3)
  rw [World.size_alloc] at q1 q2
  rw [World.size_alloc] at q2
  have QB := aM (below_alloc (below_alloc (below_alloc (Below.refl w.heap.size w) (.cells #[.slice A0 l0.length c0] 26)) (.cells #[.int .i64 a1] 3)) (.cells #[.int .i64 a2] 3))
  have HIT := aM (network_Channel.collect A0 c0 l0 a1 a2 w.heap.size _ hlen (network_Channel.iter A0 c0 l0 a1 a2 w.heap.size _ (Kd.C_below hr0 QB.out) (blk_lt q2) ((blk_cell q0 0).trans rfl) ((blk_cell q1 0).trans rfl) ((blk_cell q2 0).trans rfl)))
  clear q0 q1 q2 h hlen hr0 hc0
  go_enter Try.func14, Try.ntmps14
  go_wp2_with (first | (go_at_call 33; refine (network_Channel.channel A0 l0.length c0 a1 a2 _).mono ?_; rintro e w' ⟨rfl, rfl⟩) | (go_at_call 32; refine HIT.out.mono ?_; rintro e w' ⟨v, rfl, hr, hb⟩; have HR := aM (Kd.R_lower hr QB.out.size); have HB := aM (below_step QB.out hb); clear hr hb))
  go_ret
  exact ⟨_, rfl, HR.out, HB.out⟩

end Go.Proofs.Ytiflebfnhjlfdaa.PNk
