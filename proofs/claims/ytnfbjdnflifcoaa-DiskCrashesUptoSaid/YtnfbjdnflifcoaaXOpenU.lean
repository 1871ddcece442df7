/- Arguments opened: a value that reads as data of a type, told as a plain Lean value (for the rows of laws over slices and structs; no condition). -/
import Derived.ProofKit
import Derived.Deep.Slices
import Derived.SizedLaws
import Derived.Lib.SmallJoins
import Derived.Test.YtnfbjdnflifcoaaWWords
import Derived.Test.YtnfbjdnflifcoaaRows
set_option linter.unusedVariables false
namespace Go.Proofs.YtnfbjdnflifcoaaXU
open Go.Proofs.Ytnfbjdnflifcoaa Go.ChangeShapes Go.WideShapes Go.Deep Go.RowKit Go.Proofs.YtnfbjdnflifcoaaW.PrintWords

/-- The data is of bulk at most 1048576. -/
def Light {H : Type} (D : DataW H) : Prop := Rows.uptoBulk D ≤ 1048576
theorem part_le {H : Type} {D : DataW H} : ∀ {l : List (DataW H)}, D ∈ l → Rows.uptoBulk D ≤ Rows.uptoBulkAll l
  | x :: l, h => by
    simp only [Rows.uptoBulkAll]
    rcases List.mem_cons.1 h with rfl | h
    · omega
    · have := part_le h
      omega
theorem one_le {H : Type} (D : DataW H) : 1 ≤ Rows.uptoBulk D := by
  cases D with
  | lit l => cases l <;> simp [Rows.uptoBulk]
  | _ => simp [Rows.uptoBulk]
theorem length_le {H : Type} : ∀ (l : List (DataW H)), l.length ≤ Rows.uptoBulkAll l
  | [] => by simp
  | x :: l => by
    have h1 := length_le l
    have h2 := one_le x
    simp only [Rows.uptoBulkAll, List.length_cons]
    omega
theorem Light.of {H : Type} {ds : List (DataW H)} {j : Nat} {D : DataW H} (hk : Rows.uptoSmall H ds = true) (hd : ds[j]? = some D) : Light D := by
  have h : Rows.uptoBulkAll ds ≤ 1048576 := of_decide_eq_true hk
  exact Nat.le_trans (part_le (List.mem_of_getElem? hd)) h
theorem Light.elems {H : Type} {l s : List (DataW H)} (h : Light (.slice l s)) : l.length ≤ 1048576 ∧ ∀ D ∈ l, Light D := by
  have h0 : Rows.uptoBulkAll l + Rows.uptoBulkAll s + 1 ≤ 1048576 := by simpa [Light, Rows.uptoBulk] using h
  have h1 := length_le l
  exact ⟨by omega, fun D hD => by have := part_le hD; unfold Light; omega⟩
theorem Light.part {H : Type} {l : List (DataW H)} (h : Light (.agg l)) {i : Nat} {D : DataW H} (hD : l[i]? = some D) : Light D := by
  have h0 : Rows.uptoBulkAll l + 1 ≤ 1048576 := by simpa [Light, Rows.uptoBulk] using h
  have := part_le (List.mem_of_getElem? hD)
  unfold Light
  omega
/-- What reads as data of type t is a value of kind d with what g says. -/
def Opens {α : Type} (P : Program) (t : TypeId) (d : Kd α) (g : α → Prop) : Prop :=
  ∀ {H : Type} {enc : TypeId × Value → H} {w : World} {base : Nat} {spare : Nat → Bool} {held : Bool} {fuel : Nat} {cs : List Value} {x : DataW H × List MemPlace}, DataW.trod enc P w base spare held fuel t cs = some x → Light x.1 → ∃ v, d.K w v cs ∧ g v

section
variable {P : Program} {t e : TypeId}
theorem Opens.int {k : IntKind} (hu : P.underlying t = some (.int k)) : Opens P t (Kd.int k) (fun x => (Lit.int k x).wf = true) := by
  intro H enc w base spare held fuel cs x h _
  obtain ⟨n, rfl, _, hw⟩ := DataW.trod_int hu h
  exact ⟨n, rfl, hw⟩
theorem Opens.bool (hu : P.underlying t = some .bool) : Opens P t Kd.bool (fun _ => True) := by
  intro H enc w base spare held fuel cs x h _
  obtain ⟨n, rfl, _⟩ := DataW.trod_bool hu h
  exact ⟨n, rfl, trivial⟩
theorem Opens.string (hu : P.underlying t = some .string) : Opens P t Kd.string (fun s => s.size ≤ 1048576) := by
  intro H enc w base spare held fuel cs x h hs
  obtain ⟨n, rfl, rfl, hw⟩ := DataW.trod_string hu h
  have h0 : n.data.toList.length + 1 ≤ 1048576 := by simpa [Light, Rows.uptoBulk] using hs
  exact ⟨n, rfl, by simp at h0; omega⟩

theorem list_of {α : Type} {p : Nat → α → Prop} : ∀ n : Nat, (∀ i, i < n → ∃ x, p i x) → ∃ l : List α, l.length = n ∧ ∀ i x, l[i]? = some x → p i x := by
  intro n
  induction n with
  | zero => intro _; exact ⟨[], rfl, fun i x h => by simp at h⟩
  | succ n ih =>
    intro h
    obtain ⟨l, hl, hp⟩ := ih (fun i hi => h i (by omega))
    obtain ⟨x, hx⟩ := h n (by omega)
    refine ⟨l ++ [x], by simp [hl], fun i y hy => ?_⟩
    rcases Nat.lt_or_ge i n with hi | hi
    · rw [List.getElem?_append_left (by omega)] at hy
      exact hp i y hy
    · have hi' : i = n := by
        have := (List.getElem?_eq_some_iff.1 hy).1
        simp [hl] at this
        omega
      subst hi'
      rw [List.getElem?_append_right (by omega), hl] at hy
      simp at hy
      subst hy
      exact hx

theorem Opens.slice {α : Type} {d : Kd α} {g : α → Prop} (hu : P.underlying t = some (.slice e)) (hc : P.cellsOf e = d.sz) (ho : Opens P e d g) : Opens P t (Kd.slice e d) (fun l => l.length ≤ 1048576 ∧ ∀ x ∈ l, g x) := by
  intro H enc w base spare held fuel cs x h hs
  rcases open_slice hu h with ⟨rfl, _⟩ | ⟨a, len, cap, m, n, D, Pl, rfl, _, hl, hm, hmm, rfl, hx⟩
  · exact ⟨[], ⟨none, 0, rfl, Nat.le_refl _, rfl, by simp, fun h => absurd h (by simp)⟩, by simp, fun x hx => by simp at hx⟩
  · obtain ⟨hs1, hs2⟩ := hs.elems
    simp only [List.length_map, List.length_range] at hs1
    have hlm : len ≤ m := by rw [hmm]; split <;> omega
    obtain ⟨l, hll, hp⟩ := list_of (p := fun i v => g v ∧ ∃ c, c.length = d.sz ∧ d.K w v c ∧ ∀ j u, c[j]? = some u → w.cell? (a.add (i * d.sz + j)) = some u) len (fun i hi => by
      obtain ⟨cs', h1, h2⟩ := hx i (by omega)
      obtain ⟨v, hK, hg⟩ := ho h2 (hs2 (D i) (List.mem_map.2 ⟨i, List.mem_range.2 hi, rfl⟩))
      refine ⟨v, hg, cs', d.K_len hK, hK, fun j u hu' => ?_⟩
      obtain ⟨_, hlen, hcell⟩ := World.cells?_some h1
      have hj : j < P.cellsOf e := by
        have := (List.getElem?_eq_some_iff.1 hu').1
        omega
      have := hcell j hj
      rw [Deep.add_add, hc] at this
      rw [this]
      exact hu')
    refine ⟨l, ⟨some a, cap, by rw [hll], by omega, rfl, ?_, fun _ => ⟨a, rfl, fun j p hj => (hp j p hj).2⟩⟩, by rw [hll]; exact hs1, fun y hy => ?_⟩
    · unfold maxLen at hm
      omega
    · obtain ⟨i, hi⟩ := List.getElem?_of_mem hy
      exact (hp i y hi).1

theorem cut2 (cs : List Value) (o n : Nat) : cs.drop o = (cs.drop o).take n ++ cs.drop (o + n) := by
  rw [← List.drop_drop, List.take_append_drop]
theorem cutlast {cs : List Value} {o n : Nat} (h : cs.length = o + n) : (cs.drop o).take n = cs.drop o := List.take_of_length_le (by simp; omega)

/-- A field of what reads as a struct. -/
theorem field_of {H : Type} {enc : TypeId × Value → H} {w : World} {base : Nat} {spare : Nat → Bool} {held : Bool} {fs : Array Field} {xs : List (DataW H × List MemPlace)} {n : Nat} {cs : List Value} (hl : xs.length = fs.size) (hs : Light (.agg (xs.map (·.1))))
    (h : ∀ (i : Nat) (f : Field), fs[i]? = some f → DataW.trod enc P w base spare held n f.type ((cs.drop f.offset).take (P.cellsOf f.type)) = xs[i]?) {i : Nat} {f : Field} (hf : fs[i]? = some f) {α : Type} {d : Kd α} {g : α → Prop} (ho : Opens P f.type d g) (hc : P.cellsOf f.type = d.sz) :
    ∃ v, d.K w v ((cs.drop f.offset).take d.sz) ∧ g v := by
  have hi : i < xs.length := by rw [hl]; exact (Array.getElem?_eq_some_iff.1 hf).1
  have := h i f hf
  rw [List.getElem?_eq_getElem hi, hc] at this
  exact ho this (hs.part (i := i) (by rw [List.getElem?_map, List.getElem?_eq_getElem hi]; rfl))

/-- A slice that came in. -/
theorem arg_slice {α : Type} {d : Kd α} {g : α → Prop} {H : Type} {enc : TypeId × Value → H} {w : World} {base : Nat} {spare : Nat → Bool} {held : Bool} {a : Option Addr} {len cap : Nat} {D : DataW H} {ps : List MemPlace}
    (hu : P.underlying t = some (.slice e)) (hc : P.cellsOf e = d.sz) (ho : Opens P e d g) (hs : Light D) (h : DataW.Trod enc P w base spare held t (.slice a len cap) D ps) :
    ∃ l : List α, len = l.length ∧ Kd.C d w a l.length l ∧ l.length ≤ cap ∧ l.length ≤ 1048576 ∧ ∀ x ∈ l, g x := by
  obtain ⟨fuel, hf⟩ := h
  obtain ⟨l, ⟨A, c, he, hle, hC⟩, hm, hg⟩ := Opens.slice hu hc ho hf hs
  simp [Value.cells] at he
  obtain ⟨rfl, rfl, rfl⟩ := he
  exact ⟨l, rfl, hC, hle, hm, hg⟩

/-- A struct by value. -/
theorem arg_struct {α : Type} {d : Kd α} {g : α → Prop} {fs : Array Field} {H : Type} {enc : TypeId × Value → H} {w : World} {base b0 : Nat} {r : Reach} {spare : Nat → Bool} {held : Bool} {v : Value} {D : DataW H} {ps : List MemPlace}
    (hu : P.underlying t = some (.struct fs)) (hv : Value.okWide P w r b0 t v) (ho : Opens P t d g) (hs : Light D) (h : DataW.Trod enc P w base spare held t v D ps) :
    ∃ (x : α) (cs : List Value), v = .agg cs.toArray ∧ d.K w x cs ∧ g x := by
  obtain ⟨cs, rfl, hsz⟩ := okWide_struct hu hv
  obtain ⟨fuel, hf⟩ := h
  obtain ⟨x, hK, hg⟩ := ho hf hs
  exact ⟨x, cs.toList, by simp, by simpa [Value.cells] using hK, hg⟩
end
end Go.Proofs.YtnfbjdnflifcoaaXU
