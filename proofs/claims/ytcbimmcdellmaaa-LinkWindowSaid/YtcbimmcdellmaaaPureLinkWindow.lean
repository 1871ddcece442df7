/- How many values a link accepts (LinkWindow; no condition): what comes in counts by its remainders alone, and these are few. -/
import Derived.Test.YtcbimmcdellmaaaPLkpLinkWindow
import Derived.KernelRfl
namespace Go.Proofs.Ytcbimmcdellmaaa.Pure
open Go.RowKit Go.Proofs.Ytcbimmcdellmaaa.PLk Go.Proofs.YtcbimmcdellmaaaW.PrintWords Go.Proofs.YtcbimmcdellmaaaW.PrintLast
theorem w64 {x : Int} (h : -9223372036854775808 ≤ x ∧ x ≤ 9223372036854775807) : wrap64 x = x := by unfold wrap64; omega

theorem rd_mem {l : List Int} {i : Int} (h0 : 0 ≤ i) (h1 : i < (l.length : Int)) : rd l i ∈ l := by
  unfold rd
  rw [List.getD_eq_getElem?_getD, List.getElem?_eq_getElem (by omega)]
  simp

theorem wf_u8 {x : Int} (h : (Lit.int .u8 x).wf = true) : 0 ≤ x ∧ x < 256 := by
  simp [Lit.wf, IntKind.min, IntKind.max, IntKind.bits, IntKind.signed] at h
  omega
theorem wf_i64 {x : Int} (h : (Lit.int .i64 x).wf = true) : -9223372036854775808 ≤ x ∧ x ≤ 9223372036854775807 := by
  simp [Lit.wf, IntKind.min, IntKind.max, IntKind.bits, IntKind.signed] at h
  omega
theorem bind_of {α β : Type} {o : Option α} {a : α} {f : α → Option β} (h : o = some a) : o.bind f = f a := by rw [h]; rfl
theorem lw_cong {x y s : Int} (h : Int.tmod (wrap64 x) (wrap64 (s + 2)) = Int.tmod (wrap64 y) (wrap64 (s + 2))) : ∀ (k : Nat) (i w b : Int) (l : List Int) (q : Int) (e : List S42),
    rollbacknetlaw15_LinkWindow.l0 k x s i w b l q e = rollbacknetlaw15_LinkWindow.l0 k y s i w b l q e := by
  intro k
  induction k with
  | zero => intro i w b l q e; simp only [rollbacknetlaw15_LinkWindow.l0]
  | succ k ih => intro i w b l q e; simp only [rollbacknetlaw15_LinkWindow.l0, h, ih]
theorem all_ok : ((List.range 8).all fun s => (List.range 10).all fun m => rollbacknetlaw15_LinkWindow.l0 100 (m : Int) ((s + 1 : Nat) : Int) 0 ((s + 1 : Nat) : Int) 1 [] 1 [] == some true) = true := by kernel_rfl
theorem awake_ok : rollbacknetlaw15_awake.f 100 = some true := by kernel_rfl
theorem LinkWindow : rollbacknetlaw15_LinkWindow.Pure := by
  intro a b ha hb
  have ha := wf_u8 ha
  have hb := wf_u8 hb
  refine ⟨100, ?_⟩
  unfold rollbacknetlaw15_LinkWindow.f
  obtain ⟨s, hs⟩ := Int.eq_ofNat_of_zero_le (show 0 ≤ a % 8 by omega)
  have hs8 : s < 8 := by omega
  have e1 : wrap64 (1 + Int.tmod (wrap64 a) 8) = ((s + 1 : Nat) : Int) := by
    rw [w64 (x := a) (by omega), Int.tmod_eq_emod_of_nonneg (by omega), hs, w64 (by omega)]
    omega
  obtain ⟨m, hm⟩ := Int.eq_ofNat_of_zero_le (Int.emod_nonneg b (b := ((s + 3 : Nat) : Int)) (by omega))
  have hm10 : m < 10 := by
    have := Int.emod_lt_of_pos b (b := ((s + 3 : Nat) : Int)) (by omega)
    omega
  have hc : Int.tmod (wrap64 b) (wrap64 (((s + 1 : Nat) : Int) + 2)) = Int.tmod (wrap64 (m : Int)) (wrap64 (((s + 1 : Nat) : Int) + 2)) := by
    rw [w64 (x := b) (by omega), w64 (x := (m : Int)) (by omega), w64 (x := ((s + 1 : Nat) : Int) + 2) (by omega), Int.tmod_eq_emod_of_nonneg (by omega), Int.tmod_eq_emod_of_nonneg (by omega), show ((s + 1 : Nat) : Int) + 2 = ((s + 3 : Nat) : Int) by omega, ← hm, Int.emod_emod]
  have hn : link_New.f ((s + 1 : Nat) : Int) = some (((s + 1 : Nat) : Int), 1, [], 1, [], 0) := by
    unfold link_New.f
    rw [if_neg (by omega), if_neg (by omega)]
  have h_ := all_ok
  rw [List.all_eq_true] at h_
  have h1 := h_ s (List.mem_range.2 hs8)
  rw [List.all_eq_true] at h1
  have h2 := h1 m (List.mem_range.2 hm10)
  rw [bind_of awake_ok, if_pos rfl, e1, bind_of hn]
  simp only []
  rw [lw_cong hc]
  exact eq_of_beq h2
end Go.Proofs.Ytcbimmcdellmaaa.Pure
