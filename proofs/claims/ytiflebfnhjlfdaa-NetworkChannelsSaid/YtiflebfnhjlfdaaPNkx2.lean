-- Laid by wip/tools/xprint.py, a program of this session over the kit's print: functions as Lean functions, each with its contract.
import Derived.Test.YtiflebfnhjlfdaaPNkx0
namespace Go.Proofs.Ytiflebfnhjlfdaa.PNk
open Go.RowKit Go.Proofs.YtiflebfnhjlfdaaW.PrintWords Go.Proofs.YtiflebfnhjlfdaaW.PrintLast Go.Proofs.YtiflebfnhjlfdaaW.PrintMore
attribute [local go_sem] max2_int min2_int max_two min_two max_three min_three max_four min_four   -- for this text's walks alone
set_option linter.unusedVariables false
set_option linter.unusedSimpArgs false

-- NOT PRINTED: function 30 (api_Message)

/-! ### network_Find: function 11, by hand -/
/-- Is it the message that is looked for? -/
def network_Find.hit (f s0 s1 o : Int) (m : S32) : Bool := m.f0 == f && (m.f2.f0 == s0 && m.f2.f1 == s1) && m.f3 == o
/-- The place of the first such message, counted from i. -/
def network_Find.go (f s0 s1 o : Int) : List S32 → Nat → Int
  | [], _ => -1
  | m :: t, i => if network_Find.hit f s0 s1 o m = true then (i : Int) else network_Find.go f s0 s1 o t (i + 1)
set_option maxHeartbeats 1000000 in
theorem network_Find.one (F s0 s1 O m0 m1 i0 i1 o v ck : Int) (A7 A8 : Option Addr) (n7 c7 n8 c8 b : Nat) (w : World) (hlt : b + 1 + 1 < w.heap.size)
    (h5 : w.cell? ⟨b, 0, none⟩ = some (.int .i64 F)) (h6 : w.cell? ⟨b + 1, 0, none⟩ = some (.int .i64 s0)) (h6b : w.cell? ⟨b + 1, 1, none⟩ = some (.int .i64 s1)) (h7 : w.cell? ⟨b + 1 + 1, 0, none⟩ = some (.int .i64 O)) :
    Calls Try.prog 31 #[.agg #[.int .i64 m0, .int .i64 m1, .int .i64 i0, .int .i64 i1, .int .i64 o, .int .i64 v, .int .i64 ck, .slice A7 n7 c7, .slice A8 n8 c8], .pointer (some ⟨b, 0, none⟩), .pointer (some ⟨b + 1, 0, none⟩), .pointer (some ⟨b + 1 + 1, 0, none⟩)] w fun e w' => e = .returned (.bool (m0 == F && (i0 == s0 && i1 == s1) && o == O)) ∧ Below w.heap.size w w' := by
  have g1 : b < w.heap.size := by omega
  have g2 : b + 1 < w.heap.size := by omega
  cases c1 : (m0 == F) with
  | false =>
    go_enter Try.func31, Try.ntmps31
    go_wp2
    go_ret
    exact ⟨rfl, below_alloc (Below.refl _ _) _⟩
  | true =>
    cases c2 : (i0 == s0) with
    | false =>
      go_enter Try.func31, Try.ntmps31
      go_wp2
      go_ret
      exact ⟨rfl, below_alloc (Below.refl _ _) _⟩
    | true =>
      cases c3 : (i1 == s1) with
      | false =>
        go_enter Try.func31, Try.ntmps31
        go_wp2
        go_ret
        exact ⟨rfl, below_alloc (Below.refl _ _) _⟩
      | true =>
        cases c4 : (o == O) with
        | false =>
          go_enter Try.func31, Try.ntmps31
          go_wp2
          go_ret
          exact ⟨rfl, below_alloc (Below.refl _ _) _⟩
        | true =>
          go_enter Try.func31, Try.ntmps31
          go_wp2
          go_ret
          exact ⟨rfl, below_alloc (Below.refl _ _) _⟩
set_option maxHeartbeats 2000000 in
set_option maxRecDepth 100000 in
theorem network_Find.index (A0 : Option Addr) (c0 : Nat) (l0 : List S32) (F s0 s1 O : Int) (b : Nat) (w : World) (hr0 : Kd.C k32 w A0 l0.length l0) (hc0 : l0.length ≤ c0) (hlt : b + 1 + 1 < w.heap.size)
    (h5 : w.cell? ⟨b, 0, none⟩ = some (.int .i64 F)) (h6 : w.cell? ⟨b + 1, 0, none⟩ = some (.int .i64 s0)) (h6b : w.cell? ⟨b + 1, 1, none⟩ = some (.int .i64 s1)) (h7 : w.cell? ⟨b + 1 + 1, 0, none⟩ = some (.int .i64 O)) :
    Calls Try.prog 30 #[.slice A0 l0.length c0, .func (.func 31) #[] #[.pointer (some ⟨b, 0, none⟩), .pointer (some ⟨b + 1, 0, none⟩), .pointer (some ⟨b + 1 + 1, 0, none⟩)]] w fun e w' => e = .returned (.int .i64 (network_Find.go F s0 s1 O l0 0)) ∧ Below w.heap.size w w' := by
  have hm := hr0.2.1
  have HR0 := aM hr0
  have HC0 := aM hc0
  have H5 := aM h5
  have H6 := aM h6
  have H6b := aM h6b
  have H7 := aM h7
  have HLT := aM hlt
  clear hr0 hc0 h5 h6 h6b h7 hlt
  go_enter Try.func30, Try.ntmps30
  go_wp2
  go_loopw [8] (fun u8 W => ∃ i : Nat, u8 = .int .i64 i ∧ i ≤ l0.length ∧ Aside0 (network_Find.go F s0 s1 O (l0.drop i) i = network_Find.go F s0 s1 O l0 0) ∧ Below w.heap.size w W) (fun u8 _ => l0.length - (intOf u8).toNat)
  case atStart => exact ⟨0, rfl, Nat.zero_le _, ⟨rfl⟩, Below.refl _ _⟩
  case round =>
    obtain ⟨i, rfl, hi, HG, hB⟩ := hrel
    have HB := aM hB
    clear hB
    by_cases hlt : i < l0.length
    case neg =>
      have hg := HG.out
      rw [List.drop_eq_nil_of_le (by omega)] at hg
      have HG2 := aM hg
      have hd : ¬ (i : Int) < (l0.length : Int) := by omega
      clear hlt hi hg HG
      go_wp2
      go_ret
      exact ⟨by rw [← HG2.out]; rfl, HB.out⟩
    have hp1 : (0 ≤ (i : Int)) = True := eq_true (by omega)
    have hp2 : ((i : Int) < (l0.length : Int)) = True := eq_true (by omega)
    obtain ⟨M, hM⟩ : ∃ M, M = rd_T32 l0 (i : Int) := ⟨_, rfl⟩
    have hMl : M = l0[i] := by rw [hM]; simp [rd_T32, List.getD_eq_getElem?_getD, List.getElem?_eq_getElem hlt]
    have hg := HG.out
    rw [List.drop_eq_getElem_cons hlt, ← hMl, network_Find.go] at hg
    obtain ⟨ad1, A7, c7, A8, c8, eA, hx0, hx1, hx2, hx3, hx4, hx5, hx6, hx7, hx8, _⟩ := at_T32 HR0.out (i : Int) (by omega) (by omega)
    cases eA
    replace hx0 := (HB.out.cell (World.block_lt_of_cell? w _ hx0)).trans hx0
    replace hx1 := (HB.out.cell (World.block_lt_of_cell? w _ hx1)).trans hx1
    replace hx2 := (HB.out.cell (World.block_lt_of_cell? w _ hx2)).trans hx2
    replace hx3 := (HB.out.cell (World.block_lt_of_cell? w _ hx3)).trans hx3
    replace hx4 := (HB.out.cell (World.block_lt_of_cell? w _ hx4)).trans hx4
    replace hx5 := (HB.out.cell (World.block_lt_of_cell? w _ hx5)).trans hx5
    replace hx6 := (HB.out.cell (World.block_lt_of_cell? w _ hx6)).trans hx6
    replace hx7 := (HB.out.cell (World.block_lt_of_cell? w _ hx7)).trans hx7
    replace hx8 := (HB.out.cell (World.block_lt_of_cell? w _ hx8)).trans hx8
    rw [← hM] at hx0 hx1 hx2 hx3 hx4 hx5 hx6 hx7 hx8
    simp only [Int.toNat_natCast] at hx0 hx1 hx2 hx3 hx4 hx5 hx6 hx7 hx8
    have HONE := aM (network_Find.one F s0 s1 O M.f0 M.f1 M.f2.f0 M.f2.f1 M.f3 M.f4 M.f5 A7 A8 M.f6.length c7 M.f7.length c8 b wr (Nat.lt_of_lt_of_le HLT.out HB.out.size) ((HB.out.cell (World.block_lt_of_cell? w _ H5.out)).trans H5.out) ((HB.out.cell (World.block_lt_of_cell? w _ H6.out)).trans H6.out) ((HB.out.cell (World.block_lt_of_cell? w _ H6b.out)).trans H6b.out) ((HB.out.cell (World.block_lt_of_cell? w _ H7.out)).trans H7.out))
    have hhit : (M.f0 == F && (M.f2.f0 == s0 && M.f2.f1 == s1) && M.f3 == O) = network_Find.hit F s0 s1 O M := rfl
    have hw1 : wrap64 ((i : Int) + 1) = ((i + 1 : Nat) : Int) := by unfold wrap64; omega
    have hw2 : IntKind.i64.wrap ((i : Int) + 1) = ((i + 1 : Nat) : Int) := (i64_w _).trans hw1
    have HH := aM hhit
    have HLT2 := aM hlt
    clear hhit hM hMl HG hi hlt
    cases ch : network_Find.hit F s0 s1 O M with
    | true =>
      rw [if_pos ch] at hg
      have HG := aM hg
      have HCH := aM ch
      clear hg ch
      go_wp2_with (go_at_call 31; refine HONE.out.mono ?_; rw [HH.out, HCH.out]; rintro e w' ⟨rfl, hb⟩; have HB2 := aM (below_step HB.out hb); clear hb)
      go_ret
      exact ⟨by rw [← HG.out]; rfl, HB2.out⟩
    | false =>
      rw [if_neg (by rw [ch]; exact Bool.false_ne_true)] at hg
      have HG := aM hg
      have HCH := aM ch
      clear hg ch
      go_wp2_with (go_at_call 31; refine HONE.out.mono ?_; rw [HH.out, HCH.out]; rintro e w' ⟨rfl, hb⟩; have HB2 := aM (below_step HB.out hb); clear hb)
      go_roundw
      case rel => exact ⟨i + 1, rfl, by have := HLT2.out; omega, ⟨HG.out⟩, HB2.out⟩
      case measure => have := HLT2.out; simp [intOf]; omega

def network_Find.f (l0 : List (S32)) (a1 : Int) (a2_0 : Int) (a2_1 : Int) (a3 : Int) : Option (Int) := some (network_Find.go a1 a2_0 a2_1 a3 l0 0)
set_option maxHeartbeats 4000000 in
set_option maxRecDepth 100000 in
theorem network_Find.calls (A0 : Option Addr) (c0 : Nat) (l0 : List (S32)) (a1 : Int) (a2_0 : Int) (a2_1 : Int) (a3 : Int) (r : Int) (w : World) (hr0 : Kd.C k32 w A0 l0.length l0) (hc0 : l0.length ≤ c0) (h : network_Find.f l0 a1 a2_0 a2_1 a3 = some r) :
    Calls Try.prog 11 #[.slice A0 l0.length c0, .int .i64 a1, .agg #[.int .i64 a2_0, .int .i64 a2_1], .int .i64 a3] w fun e w' => e = .returned (.int .i64 r) ∧ Below w.heap.size w w' := by
  cases Option.some.inj h
  have HR0 := aM hr0
  have HC0 := aM hc0
  clear hr0 hc0 h
  have q5 := blk_alloc (blk_alloc (heap_alloc_new w (.cells #[.int .i64 a1] 3)) (.cells #[.int .i64 a2_0, .int .i64 a2_1] 24)) (.cells #[.int .i64 a3] 3)
  have q6 := blk_alloc (heap_alloc_new (w.alloc (.cells #[.int .i64 a1] 3)) (.cells #[.int .i64 a2_0, .int .i64 a2_1] 24)) (.cells #[.int .i64 a3] 3)
  have q7 := heap_alloc_new ((w.alloc (.cells #[.int .i64 a1] 3)).alloc (.cells #[.int .i64 a2_0, .int .i64 a2_1] 24)) (.cells #[.int .i64 a3] 3)
  rw [World.size_alloc] at q6 q7
  rw [World.size_alloc] at q7
  have Q5 := aM ((blk_cell q5 0).trans rfl)
  have Q6 := aM ((blk_cell q6 0).trans rfl)
  have Q6b := aM ((blk_cell q6 1).trans rfl)
  have Q7 := aM ((blk_cell q7 0).trans rfl)
  have QB := aM (below_alloc (below_alloc (below_alloc (Below.refl w.heap.size w) (.cells #[.int .i64 a1] 3)) (.cells #[.int .i64 a2_0, .int .i64 a2_1] 24)) (.cells #[.int .i64 a3] 3))
  have QL := aM (blk_lt q7)
  clear q5 q6 q7
  go_enter Try.func11, Try.ntmps11
  go_wp2_with fail
  refine (network_Find.index A0 c0 l0 a1 a2_0 a2_1 a3 w.heap.size _ (Kd.C_below HR0.out QB.out) HC0.out QL.out Q5.out Q6.out Q6b.out Q7.out).mono ?_
  rintro e w' ⟨rfl, hb⟩
  have HB2 := aM (below_step QB.out hb)
  clear hb
  go_wp2
  go_ret
  exact ⟨rfl, HB2.out⟩

-- NOT PRINTED: function 39 (slices_AppendSeq_int_int)

-- NOT PRINTED: function 32 (slices_Collect_int)

-- NOT PRINTED: function 33 (network_channel)

end Go.Proofs.Ytiflebfnhjlfdaa.PNk
