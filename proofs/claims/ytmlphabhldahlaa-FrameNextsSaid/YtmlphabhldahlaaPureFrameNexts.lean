/- The frame at any offset of any bytes, or the first error (FrameNexts; no condition). -/
import Derived.Test.YtmlphabhldahlaaPFkpFrameNexts
import Derived.Test.YtmlphabhldahlaaFrMake
namespace Go.Proofs.Ytmlphabhldahlaa.Pure
open Go.RowKit Go.Proofs.Ytmlphabhldahlaa.PFk Go.Proofs.YtmlphabhldahlaaW.PrintWords Go.Proofs.YtmlphabhldahlaaW.PrintLast Go.Proofs.Ytmlphabhldahlaa.Fr
theorem fsame {b : List Int} (hb : Crc.Bytes b) (hl : b.length ≤ 3000) (q : Int) {k : Nat} (hk : 4000 ≤ k) : rollbacknetlaw11_same.f k b q = some true := by
  have := nx_length b q
  unfold rollbacknetlaw11_same.f
  rw [bind_of (next_eq hb (by omega) q (by omega)), bind_of (ref_eq hb (by omega) q (by omega)), if_pos rfl, if_pos rfl, bind_of (same_f (by omega) (by omega))]
theorem xor_range (a x : Int) : 0 ≤ Go.bits .xor .u8 a x ∧ Go.bits .xor .u8 a x < 256 := by
  unfold Go.bits
  simp only [IntKind.wrap_u8]
  omega
theorem FrameNexts : rollbacknetlaw11_FrameNexts.Pure := by
  intro b a l n y _ _ hb ha _ _ hl hn hy
  have hb : Crc.Bytes b := fun x hx => wf_u8 (hb x hx)
  have ha := wf_i64 ha
  have hn := wf_i64 hn
  obtain ⟨K, hK⟩ : ∃ K : Nat, 5000 ≤ K := ⟨5000, Nat.le_refl _⟩
  refine ⟨K + 1, ?_⟩
  unfold rollbacknetlaw11_FrameNexts.f
  rw [bind_of (awake_f (by omega)), if_pos rfl]
  by_cases hlen : (b.length : Int) > 2000
  · rw [if_pos hlen]
  rw [if_neg hlen]
  obtain ⟨bs, e1, h1, h2⟩ := bodies_ok hl (k := K + 1) (by omega)
  rw [bind_of e1, bind_of (seal_ok h1 (by omega) (by omega))]
  have hc := seals_bytes h1
  have hcl := seals_length h1
  generalize seals bs = c at hc hcl ⊢
  have m1 := mod_ok (n := (b.length : Int) + 1) ha (by omega) (by omega)
  have m2 := mod_ok (n := (c.length : Int) + 1) ha (by omega) (by omega)
  rw [bind_of (fsame hb (by omega) a (by omega)), if_pos rfl, w64 (x := (b.length : Int) + 1) (by omega), bind_of m1, bind_of (fsame hb (by omega) _ (by omega)), if_pos rfl, w64 (x := (c.length : Int) + 1) (by omega), bind_of m2, bind_of (fsame hc (by omega) _ (by omega)), if_pos rfl, bind_of (fsame hc (by omega) _ (by omega))]
  show rollbacknetlaw11_FrameNexts.j0 (K + 1) n y c false = some true
  rw [rollbacknetlaw11_FrameNexts.j0, if_neg Bool.false_ne_true]
  by_cases hz : (c.length : Int) = 0
  · rw [if_pos hz]
  have m3 := mod_ok (n := (c.length : Int)) hn (by omega) (by omega)
  have q0 := Int.emod_nonneg n (b := (c.length : Int)) (by omega)
  have q1 := Int.emod_lt_of_pos n (b := (c.length : Int)) (by omega)
  rw [if_neg hz, if_pos (by simp; omega), List.nil_append, bind_of rfl, bind_of m3, if_pos q0, if_pos q1]
  have hd : Crc.Bytes (c.set (n % (c.length : Int)).toNat (Go.bits .xor .u8 (rd c (n % (c.length : Int))) y)) := by
    intro z hz
    rcases List.mem_or_eq_of_mem_set hz with h | rfl
    · exact hc z h
    · exact xor_range _ _
  rw [bind_of (fsame hd (by rw [List.length_set]; omega) 0 (by omega)), if_pos rfl, bind_of m3, if_pos q0, if_pos (by omega), bind_of (fsame (hc.take _) (by rw [List.length_take]; omega) 0 (by omega))]
end Go.Proofs.Ytmlphabhldahlaa.Pure
