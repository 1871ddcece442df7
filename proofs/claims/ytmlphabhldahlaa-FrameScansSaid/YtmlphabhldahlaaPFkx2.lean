-- Laid by wip/tools/xprint.py, a program of this session over the kit's print: functions as Lean functions, each with its contract.
import Derived.Test.YtmlphabhldahlaaPFkx0
namespace Go.Proofs.Ytmlphabhldahlaa.PFk
open Go.RowKit Go.Proofs.YtmlphabhldahlaaW.PrintWords Go.Proofs.YtmlphabhldahlaaW.PrintLast Go.Proofs.YtmlphabhldahlaaW.PrintMore
attribute [local go_sem] max2_int min2_int max_two min_two max_three min_three max_four min_four   -- for this text's walks alone
set_option linter.unusedVariables false
set_option linter.unusedSimpArgs false

/-! ### slices_Concat_byte_byte: function 21, by hand -/
theorem concat_take {α : Type} {l : List (List α)} {k : Nat} (h : k < l.length) : (l.take (k + 1)).flatten = (l.take k).flatten ++ l[k] := by
  rw [List.take_succ_eq_append_getElem h, List.flatten_append, List.flatten_singleton]
theorem concat_le {α : Type} (l : List (List α)) (k : Nat) : (l.take k).flatten.length ≤ l.flatten.length := by
  have : l.flatten = (l.take k).flatten ++ (l.drop k).flatten := by rw [← List.flatten_append, List.take_append_drop]
  rw [this, List.length_append]
  omega
/-- How long the first k are together. -/
def flatLen {α : Type} (l : List (List α)) (k : Nat) : Nat := (l.take k).flatten.length
theorem flatLen_next {α : Type} {l : List (List α)} {k : Nat} (h : k < l.length) : flatLen l (k + 1) = flatLen l k + l[k].length := by
  unfold flatLen
  rw [concat_take h, List.length_append]
theorem flatLen_le {α : Type} (l : List (List α)) (k : Nat) : flatLen l k ≤ l.flatten.length := concat_le l k
theorem flatLen_all {α : Type} (l : List (List α)) : flatLen l l.length = l.flatten.length := by unfold flatLen; rw [List.take_length]
/-- An element of a slice of slices: its cell, and what it leads to. -/
theorem concat_at {α : Type} {d : Kd α} {e : Nat} {W : World} {A : Option Addr} {l : List (List α)} (h : Kd.C (Kd.slice e d) W A l.length l) {k : Nat} (hk : k < l.length) :
    ∃ ad B c, A = some ad ∧ W.cell? (ad.add k) = some (.slice B l[k].length c) ∧ l[k].length ≤ c ∧ Kd.C d W B l[k].length l[k] := by
  obtain ⟨ad, rfl, hc⟩ := h.2.2 (by omega)
  obtain ⟨cs, _, ⟨B, c, rfl, hl, hC⟩, hcell⟩ := hc k l[k] (List.getElem?_eq_getElem hk)
  have := hcell 0 _ rfl
  rw [show k * (Kd.slice e d).sz + 0 = k from by show k * 1 + 0 = k; omega] at this
  exact ⟨ad, B, c, rfl, this, hl, hC⟩
set_option maxRecDepth 100000 in
theorem slices_Concat_byte_byte.grow (n : Nat) (w : World) (hn : n ≤ 140737488355328) : Calls Try.prog 33 #[.slice none 0 0, .int .i64 n] w fun e w' => ∃ v0_ : Value, e = .returned v0_ ∧ Kd.R (Kd.int .u8) 5 w' w.heap.size (fun _ => True) v0_ [] ∧ Below w.heap.size w w' := by
  have hn0 : (n : Int) ≤ 140737488355328 := by omega
  have hz : ¬ ((n : Int) < 0) := by omega
  by_cases h0 : n = 0
  · subst h0
    go_enter Try.func33, Try.ntmps33
    go_wp2
    go_ret
    exact ⟨_, rfl, Kd.R_nil _ _ _ _ _, Below.refl _ _⟩
  · have hp : 0 < (n : Int) := by omega
    have HN := Lib.hid hn
    have H0 := Lib.hid h0
    clear hn h0
    have HB := Aside0.mk (Below.refl w.heap.size w)
    go_enter Try.func33, Try.ntmps33
    go_wp2_with ((with_reducible refine gate_dst (N := 22) rfl ?_); at_builtin; refine Kd.R_append_zeros (Kd.int .u8) (w0 := w) w.heap.size rfl (.tmp 20) (.tmp 21) 22 3 5 (.int .u8 0) 1 rfl Try.underlying22 Try.underlying3 info5 rfl (by decide) (by omega) (.slice none 0 0) [] 0 (n : Int) (fun _ => True) rfl rfl rfl (fun _ _ => trivial) (Kd.R_nil _ _ _ _ _) (by omega) (Below.refl _ _) (Nat.le_refl _) ?hl ?_; (case hl => have := HN.out; simp; omega); intro v1 w1 ho hb hg hat; obtain ⟨A1, c1, rfl, hc1, _⟩ := Kd.R_reads ho; have HO := Aside0.mk ho; have HB := Aside0.mk hb; clear ho hb hg hat hc1)
    go_ret
    exact ⟨_, rfl, by have := Kd.R_take (m := 0) HO.out (by omega); rwa [List.take_zero] at this, HB.out⟩

def slices_Concat_byte_byte.f (l0 : List (List Int)) : Option (List Int) := if l0.flatten.length < 140737488355328 then some l0.flatten else none
set_option maxHeartbeats 4000000 in
set_option maxRecDepth 100000 in
theorem slices_Concat_byte_byte.calls (A0 : Option Addr) (c0 : Nat) (l0 : List (List Int)) (r : List Int) (w : World) (hr0 : Kd.C (Kd.slice 5 (Kd.int .u8)) w A0 l0.length l0) (hc0 : l0.length ≤ c0) (h : slices_Concat_byte_byte.f l0 = some r) :
    Calls Try.prog 21 #[.slice A0 l0.length c0] w fun e w' => ∃ v0_ : Value, e = .returned (v0_) ∧ Kd.R (Kd.int .u8) 5 w' w.heap.size (fun _ => True) v0_ r ∧ Below w.heap.size w w' := by
  unfold slices_Concat_byte_byte.f at h
  by_cases hlim : l0.flatten.length < 140737488355328
  · rw [if_pos hlim] at h
    obtain rfl := Option.some.inj h
    clear h
    have hm0 : l0.length ≤ 9223372036854775807 := hr0.2.1
    have HR := Lib.hid hr0
    have HL := Lib.hid hlim
    clear hr0 hlim
    go_enter Try.func21, Try.ntmps21
    go_wp2
    go_loop [3, 11] (fun u3 u11 => ∃ k : Nat, k ≤ l0.length ∧ u11 = .int .i64 k ∧ u3 = .int .i64 (flatLen l0 k : Nat)) (fun _ u11 => l0.length - (intOf u11).toNat)
    case atStart => exact ⟨0, by omega, rfl, rfl⟩
    case round =>
      obtain ⟨k, hk, rfl, rfl⟩ := hrel
      by_cases hlt : k < l0.length
      · obtain ⟨ad, B, c, rfl, hcell, hle, hC⟩ := concat_at HR.out hlt
        have hsum := flatLen_next hlt
        have hle2 := flatLen_le l0 (k + 1)
        have hlim := HL.out
        have HS := Lib.hid hsum
        have hb : flatLen l0 k + l0[k].length < 140737488355328 := by omega
        clear hle2 hlim hsum hC hle
        generalize flatLen l0 k = m at *
        generalize l0[k].length = q at *
        go_wp2
        go_round
        case rel => exact ⟨k + 1, by omega, by go_num, by rw [HS.out]; go_num⟩
        case measure => simp [intOf]; omega
      · obtain rfl : k = l0.length := by omega
        have hfl := flatLen_all l0
        have hfl2 : flatLen l0 l0.length ≤ 140737488355328 := by have := HL.out; omega
        clear hfl
        generalize flatLen l0 l0.length = m at *
        go_wp2_with fail
        refine (slices_Concat_byte_byte.grow _ _ hfl2).mono ?_
        rintro e w1 ⟨v1, rfl, ho1, hb1⟩
        have HO := Aside0.mk ho1
        have HB := Aside0.mk hb1
        have HR1 := Lib.hid (Kd.C_below HR.out hb1)
        clear ho1 hb1
        go_wp2
        go_loopw [6, 27] (fun u6 u27 W => ∃ k : Nat, k ≤ l0.length ∧ u27 = .int .i64 k ∧ Kd.R (Kd.int .u8) 5 W w.heap.size (fun _ => True) u6 (l0.take k).flatten ∧ Below w.heap.size w W) (fun _ u27 _ => l0.length - (intOf u27).toNat)
        case atStart => exact ⟨0, by omega, rfl, HO.out, HB.out⟩
        case round =>
          clear HO HB
          obtain ⟨k, hk, rfl, ho, hb⟩ := hrel
          obtain ⟨A6, c6, rfl, _, _⟩ := Kd.R_reads ho
          have HO := Aside0.mk ho
          have HB := Aside0.mk hb
          clear ho hb
          by_cases hlt : k < l0.length
          · obtain ⟨ad, B, c, rfl, hcell, hle, hC⟩ := concat_at (Kd.C_below HR.out HB.out) hlt
            have hnext := concat_take hlt
            have hle2 := concat_le l0 (k + 1)
            have hlim := HL.out
            have hsum : (l0.take (k + 1)).flatten.length = (l0.take k).flatten.length + l0[k].length := by rw [hnext, List.length_append]
            have HS := Lib.hid hnext
            have HCC := Lib.hid hC
            have HBD := Lib.hid (show (l0.take k).flatten.length + l0[k].length < 140737488355328 by omega)
            clear hnext hle2 hlim hsum hC hle
            generalize hF : (l0.take k).flatten = fl at *
            clear hF
            go_wp2_with ((with_reducible refine gate_dst (N := 33) rfl ?_); at_builtin; refine Kd.R_append_rows (Kd.int .u8) (w0 := w) w.heap.size rfl (.tmp 31) (.tmp 32) 22 5 (.int .u8 0) 1 rfl Try.underlying22 info5 rfl (by decide) (by omega) (.slice A6 fl.length c6) fl l0[k] _ _ _ (fun _ => True) (fun _ => False) rfl rfl HO.out HCC.out (fun _ _ h => h) (fun _ h => h.elim) (fun _ _ => trivial) HB.out (below_size HB.out) ?hl ?_; (case hl => have := HBD.out; omega); intro v7 w7 ho hb hg hat; rw [← HS.out] at ho; clear HO HB; have HO := Aside0.mk ho; have HB := Aside0.mk hb; clear ho hb hg hat)
            go_roundw
            case rel => exact ⟨k + 1, by omega, by go_num, HO.out, HB.out⟩
            case measure => simp [intOf]; omega
          · obtain rfl : k = l0.length := by omega
            have he := Lib.hid (show (l0.take l0.length).flatten = l0.flatten by rw [List.take_length])
            go_wp2
            go_ret
            exact ⟨_, rfl, by rw [← he.out]; exact HO.out, HB.out⟩
  · rw [if_neg hlim] at h
    exact absurd h (by simp)

end Go.Proofs.Ytmlphabhldahlaa.PFk
