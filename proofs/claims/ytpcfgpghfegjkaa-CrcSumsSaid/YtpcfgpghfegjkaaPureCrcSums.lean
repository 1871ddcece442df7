/- The checksum of any bytes, also continued from any checksum: the program's table and the document's bits agree (CrcSums; no condition). -/
import Derived.Test.YtpcfgpghfegjkaaPCrg
import Derived.Test.YtpcfgpghfegjkaaCrcLaws
namespace Go.Proofs.Ytpcfgpghfegjkaa.Pure
open Go.RowKit Go.Proofs.Ytpcfgpghfegjkaa.PCr Go.Proofs.YtpcfgpghfegjkaaW.PrintWords Go.Proofs.YtpcfgpghfegjkaaW.PrintLast Go.Proofs.Ytpcfgpghfegjkaa.Crc
-- what the makers of inputs give
theorem w64 {x : Int} (h : -9223372036854775808 ≤ x ∧ x ≤ 9223372036854775807) : wrap64 x = x := by unfold wrap64; omega

theorem rd_mem {l : List Int} {i : Int} (h0 : 0 ≤ i) (h1 : i < (l.length : Int)) : rd l i ∈ l := by
  unfold rd
  rw [List.getD_eq_getElem?_getD, List.getElem?_eq_getElem (by omega)]
  simp

theorem wf_u8 {x : Int} (h : (Lit.int .u8 x).wf = true) : 0 ≤ x ∧ x < 256 := by
  simp [Lit.wf, IntKind.min, IntKind.max, IntKind.bits, IntKind.signed] at h
  omega
theorem wf_i64 {x : Int} (h : (Lit.int .i64 x).wf = true) : -9223372036854775808 ≤ x ∧ x ≤ 9223372036854775807 := by
  simp [Lit.wf, IntKind.min, IntKind.max, IntKind.bits, IntKind.signed] at h
  omega
theorem bind_of {α β : Type} {o : Option α} {a : α} {f : α → Option β} (h : o = some a) : o.bind f = f a := by rw [h]; rfl
theorem wf_u32 {x : Int} (h : (Lit.int .u32 x).wf = true) : 0 ≤ x ∧ x < 4294967296 := by
  simp [Lit.wf, IntKind.min, IntKind.max, IntKind.bits, IntKind.signed] at h
  omega
theorem of_f {l : List Int} (h : Bytes l) : crc_Of.f l = some (upd 0 l) := by
  unfold crc_Of.f crc_Update.f
  rw [if_pos ⟨by decide, by decide, h⟩]
  rfl
theorem update_f {a : Int} {l : List Int} (h0 : 0 ≤ a) (h1 : a < 4294967296) (h : Bytes l) : crc_Update.f a l = some (upd a l) := by
  unfold crc_Update.f
  rw [if_pos ⟨h0, h1, h⟩]
theorem rof_f {l : List Int} (h : Bytes l) : rollbacknetref09_Of.f l = some (upd 0 l) := by
  unfold rollbacknetref09_Of.f rollbacknetref09_Update.f
  rw [if_pos ⟨by decide, by decide, h⟩]
  rfl
theorem rupdate_f {a : Int} {l : List Int} (h0 : 0 ≤ a) (h1 : a < 4294967296) (h : Bytes l) : rollbacknetref09_Update.f a l = some (upd a l) := by
  unfold rollbacknetref09_Update.f
  rw [if_pos ⟨h0, h1, h⟩]

theorem CrcSums : rollbacknetlaw09_CrcSums.Pure := by
  intro a l ha _ _ hl
  obtain ⟨h0, h1⟩ := wf_u32 ha
  have hb : Bytes l := fun x hx => wf_u8 (hl x hx)
  unfold rollbacknetlaw09_CrcSums.f
  rw [bind_of (show rollbacknetlaw09_awake.f = some true from rfl), if_pos rfl]
  split
  · rfl
  · rw [bind_of (of_f hb), bind_of (rof_f hb), if_pos rfl, bind_of (update_f h0 h1 hb), bind_of (rupdate_f h0 h1 hb)]
    simp
end Go.Proofs.Ytpcfgpghfegjkaa.Pure
