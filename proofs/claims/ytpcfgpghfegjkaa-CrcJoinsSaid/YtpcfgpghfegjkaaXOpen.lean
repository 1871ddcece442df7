/- Arguments opened: a value that reads as data of a type, told as a plain Lean value (for the rows of laws over slices and structs; no condition). -/
import Derived.ProofKit
import Derived.Deep.Slices
import Derived.SizedLaws
import Derived.Lib.SmallJoins
import Derived.Test.YtpcfgpghfegjkaaWWords
namespace Go.Proofs.YtpcfgpghfegjkaaX
open Go.ChangeShapes Go.WideShapes Go.Deep Go.RowKit Go.Proofs.YtpcfgpghfegjkaaW.PrintWords

/-- What reads as data of type t is a value of kind d with what g says. -/
def Opens {α : Type} (P : Program) (t : TypeId) (d : Kd α) (g : α → Prop) : Prop :=
  ∀ {H : Type} {enc : TypeId × Value → H} {w : World} {base : Nat} {spare : Nat → Bool} {held : Bool} {fuel : Nat} {cs : List Value} {x : DataW H × List MemPlace}, DataW.trod enc P w base spare held fuel t cs = some x → ∃ v, d.K w v cs ∧ g v

section
variable {P : Program} {t e : TypeId}
theorem Opens.int {k : IntKind} (hu : P.underlying t = some (.int k)) : Opens P t (Kd.int k) (fun x => (Lit.int k x).wf = true) := by
  intro H enc w base spare held fuel cs x h
  obtain ⟨n, rfl, _, hw⟩ := DataW.trod_int hu h
  exact ⟨n, rfl, hw⟩
theorem Opens.bool (hu : P.underlying t = some .bool) : Opens P t Kd.bool (fun _ => True) := by
  intro H enc w base spare held fuel cs x h
  obtain ⟨n, rfl, _⟩ := DataW.trod_bool hu h
  exact ⟨n, rfl, trivial⟩
theorem Opens.string (hu : P.underlying t = some .string) : Opens P t Kd.string (fun s => s.size ≤ maxLen) := by
  intro H enc w base spare held fuel cs x h
  obtain ⟨n, rfl, _, hw⟩ := DataW.trod_string hu h
  exact ⟨n, rfl, hw⟩

theorem list_of {α : Type} {p : Nat → α → Prop} : ∀ n : Nat, (∀ i, i < n → ∃ x, p i x) → ∃ l : List α, l.length = n ∧ ∀ i x, l[i]? = some x → p i x := by
  intro n
  induction n with
  | zero => intro _; exact ⟨[], rfl, fun i x h => by simp at h⟩
  | succ n ih =>
    intro h
    obtain ⟨l, hl, hp⟩ := ih (fun i hi => h i (by omega))
    obtain ⟨x, hx⟩ := h n (by omega)
    refine ⟨l ++ [x], by simp [hl], fun i y hy => ?_⟩
    rcases Nat.lt_or_ge i n with hi | hi
    · rw [List.getElem?_append_left (by omega)] at hy
      exact hp i y hy
    · have hi' : i = n := by
        have := (List.getElem?_eq_some_iff.1 hy).1
        simp [hl] at this
        omega
      subst hi'
      rw [List.getElem?_append_right (by omega), hl] at hy
      simp at hy
      subst hy
      exact hx

theorem Opens.slice {α : Type} {d : Kd α} {g : α → Prop} (hu : P.underlying t = some (.slice e)) (hc : P.cellsOf e = d.sz) (ho : Opens P e d g) : Opens P t (Kd.slice e d) (fun l => l.length ≤ maxLen ∧ ∀ x ∈ l, g x) := by
  intro H enc w base spare held fuel cs x h
  rcases open_slice hu h with ⟨rfl, _⟩ | ⟨a, len, cap, m, n, D, Pl, rfl, _, hl, hm, hmm, _, hx⟩
  · exact ⟨[], ⟨none, 0, rfl, Nat.le_refl _, rfl, by simp, fun h => absurd h (by simp)⟩, by simp, fun x hx => by simp at hx⟩
  · have hlm : len ≤ m := by rw [hmm]; split <;> omega
    obtain ⟨l, hll, hp⟩ := list_of (p := fun i v => g v ∧ ∃ c, c.length = d.sz ∧ d.K w v c ∧ ∀ j u, c[j]? = some u → w.cell? (a.add (i * d.sz + j)) = some u) len (fun i hi => by
      obtain ⟨cs', h1, h2⟩ := hx i (by omega)
      obtain ⟨v, hK, hg⟩ := ho h2
      refine ⟨v, hg, cs', d.K_len hK, hK, fun j u hu' => ?_⟩
      obtain ⟨_, hlen, hcell⟩ := World.cells?_some h1
      have hj : j < P.cellsOf e := by
        have := (List.getElem?_eq_some_iff.1 hu').1
        omega
      have := hcell j hj
      rw [Deep.add_add, hc] at this
      rw [this]
      exact hu')
    refine ⟨l, ⟨some a, cap, by rw [hll], by omega, rfl, ?_, fun _ => ⟨a, rfl, fun j p hj => (hp j p hj).2⟩⟩, by omega, fun y hy => ?_⟩
    · unfold maxLen at hm
      omega
    · obtain ⟨i, hi⟩ := List.getElem?_of_mem hy
      exact (hp i y hi).1

theorem cut2 (cs : List Value) (o n : Nat) : cs.drop o = (cs.drop o).take n ++ cs.drop (o + n) := by
  rw [← List.drop_drop, List.take_append_drop]
theorem cutlast {cs : List Value} {o n : Nat} (h : cs.length = o + n) : (cs.drop o).take n = cs.drop o := List.take_of_length_le (by simp; omega)

/-- A field of what reads as a struct. -/
theorem field_of {H : Type} {enc : TypeId × Value → H} {w : World} {base : Nat} {spare : Nat → Bool} {held : Bool} {fs : Array Field} {xs : List (DataW H × List MemPlace)} {n : Nat} {cs : List Value} (hl : xs.length = fs.size)
    (h : ∀ (i : Nat) (f : Field), fs[i]? = some f → DataW.trod enc P w base spare held n f.type ((cs.drop f.offset).take (P.cellsOf f.type)) = xs[i]?) {i : Nat} {f : Field} (hf : fs[i]? = some f) {α : Type} {d : Kd α} {g : α → Prop} (ho : Opens P f.type d g) (hc : P.cellsOf f.type = d.sz) :
    ∃ v, d.K w v ((cs.drop f.offset).take d.sz) ∧ g v := by
  have hi : i < xs.length := by rw [hl]; exact (Array.getElem?_eq_some_iff.1 hf).1
  have := h i f hf
  rw [List.getElem?_eq_getElem hi, hc] at this
  exact ho this

/-- A slice that came in. -/
theorem arg_slice {α : Type} {d : Kd α} {g : α → Prop} {H : Type} {enc : TypeId × Value → H} {w : World} {base : Nat} {spare : Nat → Bool} {held : Bool} {a : Option Addr} {len cap : Nat} {D : DataW H} {ps : List MemPlace}
    (hu : P.underlying t = some (.slice e)) (hc : P.cellsOf e = d.sz) (ho : Opens P e d g) (h : DataW.Trod enc P w base spare held t (.slice a len cap) D ps) :
    ∃ l : List α, len = l.length ∧ Kd.C d w a l.length l ∧ l.length ≤ cap ∧ l.length ≤ maxLen ∧ ∀ x ∈ l, g x := by
  obtain ⟨fuel, hf⟩ := h
  obtain ⟨l, ⟨A, c, he, hle, hC⟩, hm, hg⟩ := Opens.slice hu hc ho hf
  simp [Value.cells] at he
  obtain ⟨rfl, rfl, rfl⟩ := he
  exact ⟨l, rfl, hC, hle, hm, hg⟩

/-- A slice that came in is no longer than its weight allows. -/
theorem sized_any {H : Type} {enc : TypeId × Value → H} {W : World} {base : Nat} {spare : Nat → Bool} {held : Bool} {a : Option Addr} {len cap : Nat} {d : DataW H} {ps : List MemPlace} {ts : List TypeId} {ds : List (DataW H)} {j : Nat}
    (hsz : (DataW.weightsEach P ts ds).all (· ≤ reachBytes) = true) (ht : ts[j]? = some t) (hd : ds[j]? = some d) (hu : P.underlying t = some (.slice e)) {B : Nat} (hB : P.bytesOf e = B)
    (h : DataW.Trod enc P W base spare held t (.slice a len cap) d ps) : len * B ≤ 140737488351232 := by
  obtain ⟨fuel, hf⟩ := h
  rcases open_slice hu hf with ⟨hcs, _⟩ | ⟨x, l, c, m, n, D, Pl, hcs, _, hl, hm, _, hx, _⟩
  · simp [Value.cells] at hcs
    obtain ⟨rfl, rfl, rfl⟩ := hcs
    simp
  · simp [Value.cells] at hcs
    obtain ⟨rfl, rfl, rfl⟩ := hcs
    obtain ⟨hx, _⟩ := Prod.mk.inj hx
    subst hx
    have z := sized_slice hsz ht hd hu
    rw [hB] at z
    have : len ≤ ((List.range len).map D).length + ((List.range (m - len)).map fun j => D (len + j)).length := by simp
    exact Nat.le_trans (Nat.mul_le_mul_right _ this) z

/-- A struct by value. -/
theorem arg_struct {α : Type} {d : Kd α} {g : α → Prop} {fs : Array Field} {H : Type} {enc : TypeId × Value → H} {w : World} {base b0 : Nat} {r : Reach} {spare : Nat → Bool} {held : Bool} {v : Value} {D : DataW H} {ps : List MemPlace}
    (hu : P.underlying t = some (.struct fs)) (hv : Value.okWide P w r b0 t v) (ho : Opens P t d g) (h : DataW.Trod enc P w base spare held t v D ps) :
    ∃ (x : α) (cs : List Value), v = .agg cs.toArray ∧ d.K w x cs ∧ g x := by
  obtain ⟨cs, rfl, hsz⟩ := okWide_struct hu hv
  obtain ⟨fuel, hf⟩ := h
  obtain ⟨x, hK, hg⟩ := ho hf
  exact ⟨x, cs.toList, by simp, by simpa [Value.cells] using hK, hg⟩
end
end Go.Proofs.YtpcfgpghfegjkaaX
