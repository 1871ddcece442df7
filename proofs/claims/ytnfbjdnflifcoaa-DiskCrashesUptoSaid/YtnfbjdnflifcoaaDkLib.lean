/- What the disk's functions come to, on both sides: plain words for disks, crashes and tears (for the laws of chapter 10; no condition but sizes). -/
import Derived.Test.YtnfbjdnflifcoaaPDkx2
import Derived.Test.YtnfbjdnflifcoaaPDkx5
import Derived.Test.YtnfbjdnflifcoaaPDkx5
namespace Go.Proofs.Ytnfbjdnflifcoaa.Dk
open Go.RowKit Go.Proofs.Ytnfbjdnflifcoaa.PDk Go.Proofs.YtnfbjdnflifcoaaW.PrintWords Go.Proofs.YtnfbjdnflifcoaaW.PrintLast
theorem w64 {x : Int} (h : -9223372036854775808 ≤ x ∧ x ≤ 9223372036854775807) : wrap64 x = x := by unfold wrap64; omega

theorem rd_mem {l : List Int} {i : Int} (h0 : 0 ≤ i) (h1 : i < (l.length : Int)) : rd l i ∈ l := by
  unfold rd
  rw [List.getD_eq_getElem?_getD, List.getElem?_eq_getElem (by omega)]
  simp

theorem wf_u8 {x : Int} (h : (Lit.int .u8 x).wf = true) : 0 ≤ x ∧ x < 256 := by
  simp [Lit.wf, IntKind.min, IntKind.max, IntKind.bits, IntKind.signed] at h
  omega
theorem wf_i64 {x : Int} (h : (Lit.int .i64 x).wf = true) : -9223372036854775808 ≤ x ∧ x ≤ 9223372036854775807 := by
  simp [Lit.wf, IntKind.min, IntKind.max, IntKind.bits, IntKind.signed] at h
  omega
theorem bind_of {α β : Type} {o : Option α} {a : α} {f : α → Option β} (h : o = some a) : o.bind f = f a := by rw [h]; rfl
abbrev File := S48
abbrev Tear := S39
theorem w64n {n : Nat} (h : n < 140737488355328) : wrap64 ((n : Int) + 1) = ((n + 1 : Nat) : Int) := by rw [w64 (by omega)]; rfl
theorem file_at {t : List File} {i : Nat} (h : i < t.length) : rd_T48 t (i : Int) = t[i] := by
  simp [rd_T48, List.getD_eq_getElem?_getD, List.getElem?_eq_getElem h]
theorem tear_at {l : List Tear} {i : Nat} (h : i < l.length) : rd_T39 l (i : Int) = l[i] := by
  simp [rd_T39, List.getD_eq_getElem?_getD, List.getElem?_eq_getElem h]
theorem rd_at {l : List Int} {i : Nat} (h : i < l.length) : rd l (i : Int) = l[i] := by
  simp [rd, List.getD_eq_getElem?_getD, List.getElem?_eq_getElem h]

/-- A disk of at most 100 files of at most m bytes each, synchronized and pending. -/
structure DGood (m : Nat) (t : List File) : Prop where
  len : t.length ≤ 100
  file : ∀ f ∈ t, f.f0.length ≤ m ∧ f.f1.length ≤ m
theorem DGood.at {m : Nat} {t : List File} (h : DGood m t) {i : Nat} (hi : i < t.length) : t[i].f0.length ≤ m ∧ t[i].f1.length ≤ m := h.file _ (List.getElem_mem hi)
theorem DGood.mono {m n : Nat} {t : List File} (h : DGood m t) (hn : m ≤ n) : DGood n t := ⟨h.len, fun f hf => ⟨by have := h.file f hf; omega, by have := h.file f hf; omega⟩⟩
theorem DGood.set {m : Nat} {t : List File} (h : DGood m t) {i : Nat} {f : File} (hf : f.f0.length ≤ m ∧ f.f1.length ≤ m) : DGood m (t.set i f) :=
  ⟨by rw [List.length_set]; exact h.len, fun g hg => by rcases List.mem_or_eq_of_mem_set hg with h1 | h1; exact h.file g h1; rw [h1]; exact hf⟩
theorem DGood.nil (m : Nat) : DGood m [] := ⟨by simp, fun _ h => by simp at h⟩

theorem clone_l0 {m : Nat} {t : List File} (h : DGood m t) (hm : m ≤ 70368744177664) : ∀ (n i k : Nat), t.length - i ≤ n → n < k → i ≤ t.length → disk_clone.l0 k (t.length : Int) (i : Int) t (t.take i) = some t := by
  have hl := h.len
  intro n
  induction n with
  | zero =>
    intro i k hn hk hi
    obtain ⟨k, rfl⟩ : ∃ q, k = q + 1 := ⟨k - 1, by omega⟩
    obtain rfl : i = t.length := by omega
    simp only [disk_clone.l0]
    rw [if_neg (by omega), List.take_length]
  | succ n ih =>
    intro i k hn hk hi
    obtain ⟨k, rfl⟩ : ∃ q, k = q + 1 := ⟨k - 1, by omega⟩
    by_cases hlt : i < t.length
    · have g := ih (i + 1) k (by omega) (by omega) (by omega)
      have hf := h.at hlt
      simp only [disk_clone.l0]
      rw [if_pos (by omega), if_pos (by omega), if_pos (by omega), file_at hlt, bind_of (show slices_Clone_byte_byte.f t[i].f0 = some t[i].f0 from if_pos (by omega)), bind_of (show slices_Clone_byte_byte.f t[i].f1 = some t[i].f1 from if_pos (by omega)),
        if_pos (by rw [List.length_take]; omega), w64n (by omega)]
      rw [List.take_succ_eq_append_getElem hlt] at g
      exact g
    · obtain rfl : i = t.length := by omega
      simp only [disk_clone.l0]
      rw [if_neg (by omega), List.take_length]
theorem clone_f {m : Nat} {t : List File} (h : DGood m t) (hm : m ≤ 70368744177664) {k : Nat} (hk : 100 < k) : disk_clone.f k t = some t := by
  have := h.len
  exact clone_l0 h hm t.length 0 k (by omega) (by omega) (by omega)

theorem has_f (t : List File) (i : Int) : disk_has.f t i = some (decide (0 ≤ i ∧ i < t.length)) := by
  unfold disk_has.f
  by_cases h : i ≥ 0
  · rw [if_pos h]
    by_cases h2 : i < (t.length : Int)
    · rw [decide_eq_true h2, decide_eq_true ⟨h, h2⟩]
    · rw [decide_eq_false h2, decide_eq_false (fun hh => h2 hh.2)]
  · rw [if_neg h, decide_eq_false (fun hh => h hh.1)]
/-- The file at an index, where there is one. -/
def at_ (t : List File) (i : Int) : File := t.getD i.toNat z48
theorem at_rd (t : List File) (i : Int) : rd_T48 t i = at_ t i := rfl
theorem DGood.at_ {m : Nat} {t : List File} (h : DGood m t) (i : Int) : (at_ t i).f0.length ≤ m ∧ (at_ t i).f1.length ≤ m := by
  unfold Dk.at_
  rw [List.getD_eq_getElem?_getD]
  by_cases hi : i.toNat < t.length
  · rw [List.getElem?_eq_getElem hi]
    exact h.at hi
  · rw [List.getElem?_eq_none (by omega)]
    exact ⟨Nat.zero_le _, Nat.zero_le _⟩
/-- The answers. -/
def apd (t : List File) (i : Int) (b : List Int) : List File × Int :=
  if 0 ≤ i ∧ i < t.length then (if (at_ t i).f0.length + (at_ t i).f1.length + b.length > 65536 then ([], 5) else (t.set i.toNat ⟨(at_ t i).f0, (at_ t i).f1 ++ b⟩, 0)) else ([], 11)
def syn (t : List File) (i : Int) : List File × Int := if 0 ≤ i ∧ i < t.length then (t.set i.toNat ⟨(at_ t i).f0 ++ (at_ t i).f1, []⟩, 0) else ([], 11)
def rep (t : List File) (i : Int) (b : List Int) : List File × Int := if 0 ≤ i ∧ i < t.length then (if b.length > 65536 then ([], 5) else (t.set i.toNat ⟨b, []⟩, 0)) else ([], 11)
def rdd (t : List File) (i : Int) : List Int × Int := if 0 ≤ i ∧ i < t.length then ((at_ t i).f0 ++ (at_ t i).f1, 0) else ([], 11)

theorem new_f {n : Int} : disk_New.f n = some (if n < 0 ∨ n > 16 then ([], 3) else (List.replicate n.toNat z48, 0)) := by
  unfold disk_New.f
  by_cases h : n < 0
  · rw [if_pos h, if_pos (.inl h)]
  · rw [if_neg h]
    by_cases h2 : n > 16
    · rw [if_pos h2, if_pos (.inr h2)]
    · rw [if_neg h2, if_pos (by omega), if_pos (by omega), if_neg (by omega)]
theorem new_one : disk_New.f 1 = some (List.replicate 1 z48, 0) := by kernel_rfl
theorem new_two : disk_New.f 2 = some (List.replicate 2 z48, 0) := by kernel_rfl
theorem new_three : disk_New.f 3 = some (List.replicate 3 z48, 0) := by kernel_rfl
theorem new_four : disk_New.f 4 = some (List.replicate 4 z48, 0) := by kernel_rfl
theorem DGood.new (m n : Nat) (h : n ≤ 100) : DGood m (List.replicate n z48) := ⟨by simpa using h, fun f hf => by rw [List.eq_of_mem_replicate hf]; exact ⟨Nat.zero_le _, Nat.zero_le _⟩⟩

end Go.Proofs.Ytnfbjdnflifcoaa.Dk
