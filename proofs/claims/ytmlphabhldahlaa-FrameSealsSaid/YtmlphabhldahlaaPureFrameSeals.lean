/- The frame of any body (FrameSeals; no condition). -/
import Derived.Test.YtmlphabhldahlaaPFkpFrameSeals
import Derived.Test.YtmlphabhldahlaaCrcLaws
import Derived.KernelRfl
namespace Go.Proofs.Ytmlphabhldahlaa.Pure
open Go.RowKit Go.Proofs.Ytmlphabhldahlaa.PFk Go.Proofs.YtmlphabhldahlaaW.PrintWords Go.Proofs.YtmlphabhldahlaaW.PrintLast
theorem w64 {x : Int} (h : -9223372036854775808 ≤ x ∧ x ≤ 9223372036854775807) : wrap64 x = x := by unfold wrap64; omega

theorem rd_mem {l : List Int} {i : Int} (h0 : 0 ≤ i) (h1 : i < (l.length : Int)) : rd l i ∈ l := by
  unfold rd
  rw [List.getD_eq_getElem?_getD, List.getElem?_eq_getElem (by omega)]
  simp

theorem wf_u8 {x : Int} (h : (Lit.int .u8 x).wf = true) : 0 ≤ x ∧ x < 256 := by
  simp [Lit.wf, IntKind.min, IntKind.max, IntKind.bits, IntKind.signed] at h
  omega
theorem wf_i64 {x : Int} (h : (Lit.int .i64 x).wf = true) : -9223372036854775808 ≤ x ∧ x ≤ 9223372036854775807 := by
  simp [Lit.wf, IntKind.min, IntKind.max, IntKind.bits, IntKind.signed] at h
  omega
theorem bind_of {α β : Type} {o : Option α} {a : α} {f : α → Option β} (h : o = some a) : o.bind f = f a := by rw [h]; rfl
theorem w64n {n : Nat} (h : n < 140737488355328) : wrap64 ((n : Int) + 1) = ((n + 1 : Nat) : Int) := by rw [w64 (by omega)]; rfl
theorem bytes_l0 (l : List Int) (hl : l.length ≤ 1099511627776) : ∀ (n i k : Nat), l.length - i ≤ n → n < k → i ≤ l.length → rollbacknetref08_SameBytes.l0 k l l (i : Int) = some true := by
  intro n
  induction n with
  | zero =>
    intro i k hn hk hi
    obtain ⟨k, rfl⟩ : ∃ q, k = q + 1 := ⟨k - 1, by omega⟩
    simp only [rollbacknetref08_SameBytes.l0]
    rw [if_neg (by omega)]
  | succ n ih =>
    intro i k hn hk hi
    obtain ⟨k, rfl⟩ : ∃ q, k = q + 1 := ⟨k - 1, by omega⟩
    simp only [rollbacknetref08_SameBytes.l0]
    by_cases hlt : i < l.length
    · rw [if_pos (by omega), if_pos (by omega), if_pos (by omega), if_pos trivial, w64n (by omega)]
      exact ih (i + 1) k (by omega) (by omega) (by omega)
    · rw [if_neg (by omega)]
theorem bytes_f {l : List Int} (hl : l.length ≤ 1099511627776) {k : Nat} (hk : l.length < k) : rollbacknetref08_SameBytes.f k l l = some true := by
  unfold rollbacknetref08_SameBytes.f
  rw [if_pos rfl]
  exact bytes_l0 l hl l.length 0 k (by omega) hk (by omega)
theorem upd_eq (a : Int) (l : List Int) : rollbacknetref09_Update.f a l = crc_Update.f a l := rfl
theorem upd_some {a : Int} {l : List Int} (h0 : 0 ≤ a) (h1 : a < 4294967296) (hl : Crc.Bytes l) : ∃ s, crc_Update.f a l = some s ∧ 0 ≤ s ∧ s < 4294967296 := by
  exact ⟨Crc.upd a l, if_pos ⟨h0, h1, hl⟩, Crc.upd_range h0 h1 hl⟩
theorem seal_eq {l : List Int} (hl : Crc.Bytes l) : ∃ r, frame_Seal.f l = some r ∧ rollbacknetref11_Seal.f l = some r ∧ r.1.length ≤ 4104 := by
  unfold frame_Seal.f rollbacknetref11_Seal.f
  by_cases h : (l.length : Int) > 4096
  · exact ⟨([], 5), by rw [if_pos h], by rw [if_pos h], by simp⟩
  rw [if_neg h, if_neg h]
  obtain ⟨x, hx, x0, x1⟩ := upd_some (a := 0) (l := frame_Seal.le (l.length : Int)) (by omega) (by omega) (by
    intro y hy
    simp only [frame_Seal.le, List.mem_cons, List.not_mem_nil, or_false] at hy
    omega)
  obtain ⟨s, hs, s0, s1⟩ := upd_some (a := x) (l := l) x0 x1 hl
  have ho : crc_Of.f (frame_Seal.le (l.length : Int)) = some x := by unfold crc_Of.f; rw [bind_of hx]
  have ho2 : rollbacknetref09_Of.f (frame_Seal.le (l.length : Int)) = some x := by unfold rollbacknetref09_Of.f; rw [upd_eq, bind_of hx]
  have hh : rollbacknetref11_head.f l = some (frame_Seal.le (l.length : Int) ++ frame_Seal.le s) := by
    unfold rollbacknetref11_head.f
    refine (bind_of rfl).trans ((bind_of ho2).trans ((bind_of (show rollbacknetref09_Update.f x l = some s from hs)).trans ((bind_of rfl).trans ((if_pos ?_).trans rfl))))
    show 4 + 4 < 140737488355328
    decide
  refine ⟨(frame_Seal.le (l.length : Int) ++ frame_Seal.le s ++ l, 0), ?_, ?_, ?_⟩
  · rw [bind_of ho, bind_of hs, if_pos ⟨s0, s1⟩]
  · rw [bind_of hh, if_pos (by show 8 + l.length < 140737488355328; omega)]
  · rw [List.length_append]
    show 8 + l.length ≤ 4104
    omega
theorem seals_step {x : List Int} {t : List (List Int)} {i k : Nat} (hx : Crc.Bytes x) (hi : i < 2) (ht : t.length = 2) (hr : rd_L2 t (i : Int) = x) (hk : 5000 ≤ k) :
    rollbacknetlaw11_FrameSeals.l0 (k + 1) t 2 (i : Int) = rollbacknetlaw11_FrameSeals.l0 k t 2 ((i + 1 : Nat) : Int) := by
  obtain ⟨r, h1, h2, h3⟩ := seal_eq hx
  rw [rollbacknetlaw11_FrameSeals.l0]
  rw [if_pos (by omega), if_pos (by omega), if_pos (by omega), hr, bind_of h1, bind_of h2, if_pos rfl, bind_of (bytes_f (by omega) (by omega)), if_pos rfl, w64n (by omega)]
theorem awake_f {k : Nat} (hk : 200 ≤ k) : rollbacknetlaw11_awake.f k = some true :=
  at_rounds (g := fun k => rollbacknetlaw11_awake.f k) rollbacknetlaw11_awake.mono hk (by kernel_rfl)
theorem FrameSeals : rollbacknetlaw11_FrameSeals.Pure := by
  intro l a h1 h2 hl ha
  have hb : Crc.Bytes l := fun x hx => wf_u8 (hl x hx)
  have ha := wf_u8 ha
  obtain ⟨K, hK⟩ : ∃ K : Nat, 6000 ≤ K := ⟨6000, Nat.le_refl _⟩
  refine ⟨K + 3, ?_⟩
  unfold rollbacknetlaw11_FrameSeals.f
  have e1 : wrap64 (4088 + Int.tmod (wrap64 a) 16) = 4088 + a % 16 := by
    rw [w64 (x := a) (by omega), Int.tmod_eq_emod_of_nonneg (by omega), w64 (by omega)]
  rw [bind_of (awake_f (by omega)), if_pos rfl, e1, if_pos (by omega), if_pos (by omega), bind_of rfl]
  have hz : Crc.Bytes (List.replicate (4088 + a % 16).toNat (0 : Int)) := fun x hx => by rw [List.eq_of_mem_replicate hx]; omega
  generalize List.replicate (4088 + a % 16).toNat (0 : Int) = z at *
  have s1 := seals_step (x := l) (t := [l, z]) (i := 0) (k := K + 2) hb (by omega) rfl rfl (by omega)
  have s2 := seals_step (x := z) (t := [l, z]) (i := 1) (k := K + 1) hz (by omega) rfl rfl (by omega)
  have s3 : rollbacknetlaw11_FrameSeals.l0 (K + 1) [l, z] 2 2 = some true := by
    rw [rollbacknetlaw11_FrameSeals.l0]
    rw [if_neg (by omega)]
  exact s1.trans (s2.trans s3)
end Go.Proofs.Ytmlphabhldahlaa.Pure
