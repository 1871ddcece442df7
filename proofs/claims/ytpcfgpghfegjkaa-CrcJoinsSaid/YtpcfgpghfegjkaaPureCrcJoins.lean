/- A checksum can be computed in parts (CrcJoins; no condition). -/
import Derived.Test.YtpcfgpghfegjkaaPCrg
import Derived.Test.YtpcfgpghfegjkaaCrcLaws
namespace Go.Proofs.Ytpcfgpghfegjkaa.Pure
open Go.RowKit Go.Proofs.Ytpcfgpghfegjkaa.PCr Go.Proofs.YtpcfgpghfegjkaaW.PrintWords Go.Proofs.YtpcfgpghfegjkaaW.PrintLast Go.Proofs.Ytpcfgpghfegjkaa.Crc
-- what the makers of inputs give
theorem w64 {x : Int} (h : -9223372036854775808 ≤ x ∧ x ≤ 9223372036854775807) : wrap64 x = x := by unfold wrap64; omega

theorem rd_mem {l : List Int} {i : Int} (h0 : 0 ≤ i) (h1 : i < (l.length : Int)) : rd l i ∈ l := by
  unfold rd
  rw [List.getD_eq_getElem?_getD, List.getElem?_eq_getElem (by omega)]
  simp

theorem wf_u8 {x : Int} (h : (Lit.int .u8 x).wf = true) : 0 ≤ x ∧ x < 256 := by
  simp [Lit.wf, IntKind.min, IntKind.max, IntKind.bits, IntKind.signed] at h
  omega
theorem wf_i64 {x : Int} (h : (Lit.int .i64 x).wf = true) : -9223372036854775808 ≤ x ∧ x ≤ 9223372036854775807 := by
  simp [Lit.wf, IntKind.min, IntKind.max, IntKind.bits, IntKind.signed] at h
  omega
theorem bind_of {α β : Type} {o : Option α} {a : α} {f : α → Option β} (h : o = some a) : o.bind f = f a := by rw [h]; rfl
theorem wf_u32 {x : Int} (h : (Lit.int .u32 x).wf = true) : 0 ≤ x ∧ x < 4294967296 := by
  simp [Lit.wf, IntKind.min, IntKind.max, IntKind.bits, IntKind.signed] at h
  omega
theorem mod_ok {x n : Int} (hx : -9223372036854775808 ≤ x ∧ x ≤ 9223372036854775807) (h0 : 0 < n) (h1 : n ≤ 4611686018427387904) :
    rollbacknetmake_Mod.f x n = some (x % n) := by
  unfold rollbacknetmake_Mod.f
  rw [if_neg (by omega)]
  have e := Int.tmod_eq_emod (a := x) (b := n)
  have a := Int.emod_nonneg x (b := n) (by omega)
  have b := Int.emod_lt_of_pos x h0
  by_cases hn : 0 ≤ x
  · rw [Int.tmod_eq_emod_of_nonneg hn, if_neg (by omega)]
  · by_cases hd : n ∣ x
    · rw [Int.tmod_eq_zero_of_dvd hd, if_neg (by omega), Int.emod_eq_zero_of_dvd hd]
    · rw [if_neg (by simp [hd]; omega)] at e
      have hab : (n.natAbs : Int) = n := by omega
      rw [hab] at e
      have hz : x % n ≠ 0 := fun h => hd (Int.dvd_of_emod_eq_zero h)
      rw [if_pos (by omega), w64 (by omega)]
      congr 1
      omega
theorem of_f {l : List Int} (h : Bytes l) : crc_Of.f l = some (upd 0 l) := by
  unfold crc_Of.f crc_Update.f
  rw [if_pos ⟨by decide, by decide, h⟩]
  rfl
theorem update_f {a : Int} {l : List Int} (h0 : 0 ≤ a) (h1 : a < 4294967296) (h : Bytes l) : crc_Update.f a l = some (upd a l) := by
  unfold crc_Update.f
  rw [if_pos ⟨h0, h1, h⟩]

theorem CrcJoins : rollbacknetlaw09_CrcJoins.Pure := by
  intro a l n ha _ _ hl hn
  obtain ⟨h0, h1⟩ := wf_u32 ha
  have hb : Bytes l := fun x hx => wf_u8 (hl x hx)
  unfold rollbacknetlaw09_CrcJoins.f
  rw [bind_of (show rollbacknetlaw09_awake.f = some true from rfl), if_pos rfl]
  split
  · rfl
  · have e3 := mod_ok (n := (l.length : Int) + 1) (wf_i64 hn) (by omega) (by omega)
    have m0 := Int.emod_nonneg n (b := (l.length : Int) + 1) (by omega)
    have m1 := Int.emod_lt_of_pos n (b := (l.length : Int) + 1) (by omega)
    rw [w64 (by omega), bind_of e3, if_pos m0, if_pos (by omega)]
    have r1 := upd_range h0 h1 (hb.take (n % ((l.length : Int) + 1)).toNat)
    have r2 := upd_range (a := 0) (by omega) (by omega) (hb.take (n % ((l.length : Int) + 1)).toNat)
    rw [bind_of (update_f h0 h1 (hb.take _)), bind_of (update_f r1.1 r1.2 (hb.drop _)), bind_of (update_f h0 h1 hb), upd_append, List.take_append_drop, if_pos rfl]
    rw [bind_of (of_f (hb.take _)), bind_of (update_f r2.1 r2.2 (hb.drop _)), bind_of (of_f hb), upd_append, List.take_append_drop, if_pos rfl]
    rw [bind_of (update_f h0 h1 Bytes.nil), upd_nil h0]
    simp
end Go.Proofs.Ytpcfgpghfegjkaa.Pure
