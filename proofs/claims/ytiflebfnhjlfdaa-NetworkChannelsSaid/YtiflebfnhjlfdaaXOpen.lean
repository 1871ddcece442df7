/- Arguments opened: a value that reads as data of a type, told as a plain Lean value (for the rows of laws over slices and structs; no condition). -/
import Derived.ProofKit
import Derived.Deep.Slices
import Derived.SizedLaws
import Derived.Lib.SmallJoins
import Derived.Test.YtiflebfnhjlfdaaWWords
namespace Go.Proofs.YtiflebfnhjlfdaaX
open Go.ChangeShapes Go.WideShapes Go.Deep Go.RowKit Go.Proofs.YtiflebfnhjlfdaaW.PrintWords

/-- No part of the data is longer than the reach. -/
def Light {H : Type} (P : Program) (t : TypeId) (D : DataW H) : Prop := ∀ n ∈ D.weights P t, n ≤ reachBytes
theorem Light.of {H : Type} {P : Program} {ts : List TypeId} {ds : List (DataW H)} {j : Nat} {t : TypeId} {D : DataW H} (hsz : (DataW.weightsEach P ts ds).all (· ≤ reachBytes) = true) (ht : ts[j]? = some t) (hd : ds[j]? = some D) : Light P t D :=
  fun n hn => by have := List.all_eq_true.1 hsz _ (DataW.weights_mem_each ht hd n hn); simpa using this
theorem mem_all {H : Type} {P : Program} {e : TypeId} {n : Nat} : ∀ {l : List (DataW H)} {D : DataW H}, D ∈ l → n ∈ D.weights P e → n ∈ DataW.weightsAll P e l
  | x :: l, D, h, hn => by
    rw [DataW.weightsAll, List.mem_append]
    rcases List.mem_cons.1 h with rfl | h
    · exact .inl hn
    · exact .inr (mem_all h hn)
theorem Light.elems {H : Type} {P : Program} {t e : TypeId} {l s : List (DataW H)} (h : Light P t (.slice l s)) (hu : P.underlying t = some (.slice e)) : (l.length + s.length) * P.bytesOf e ≤ 140737488351232 ∧ ∀ D ∈ l, Light P e D :=
  ⟨by have := h _ (show (l.length + s.length) * P.bytesOf e ∈ DataW.weights P t (.slice l s) by simp [DataW.weights, hu]); simpa [reachBytes] using this,
   fun D hD n hn => h n (by simp only [DataW.weights, hu, List.mem_cons, List.mem_append]; exact .inr (.inl (mem_all hD hn)))⟩
theorem Light.part {H : Type} {P : Program} {t : TypeId} {fs : Array Field} {l : List (DataW H)} (h : Light P t (.agg l)) (hu : P.underlying t = some (.struct fs)) {i : Nat} {f : Field} {D : DataW H} (hf : fs[i]? = some f) (hD : l[i]? = some D) : Light P f.type D :=
  fun n hn => h n (by simp only [DataW.weights, hu]; exact DataW.weights_mem_each (j := i) (by simp [hf]) hD n hn)
/-- What reads as data of type t is a value of kind d with what g says. -/
def Opens {α : Type} (P : Program) (t : TypeId) (d : Kd α) (g : α → Prop) : Prop :=
  ∀ {H : Type} {enc : TypeId × Value → H} {w : World} {base : Nat} {spare : Nat → Bool} {held : Bool} {fuel : Nat} {cs : List Value} {x : DataW H × List MemPlace}, DataW.trod enc P w base spare held fuel t cs = some x → Light P t x.1 → ∃ v, d.K w v cs ∧ g v

section
variable {P : Program} {t e : TypeId}
theorem Opens.int {k : IntKind} (hu : P.underlying t = some (.int k)) : Opens P t (Kd.int k) (fun x => (Lit.int k x).wf = true) := by
  intro H enc w base spare held fuel cs x h _
  obtain ⟨n, rfl, _, hw⟩ := DataW.trod_int hu h
  exact ⟨n, rfl, hw⟩
theorem Opens.bool (hu : P.underlying t = some .bool) : Opens P t Kd.bool (fun _ => True) := by
  intro H enc w base spare held fuel cs x h _
  obtain ⟨n, rfl, _⟩ := DataW.trod_bool hu h
  exact ⟨n, rfl, trivial⟩
theorem Opens.string (hu : P.underlying t = some .string) : Opens P t Kd.string (fun s => s.size ≤ 140737488351232) := by
  intro H enc w base spare held fuel cs x h hs
  obtain ⟨n, rfl, rfl, hw⟩ := DataW.trod_string hu h
  exact ⟨n, rfl, by have := hs _ (show n.data.toList.length ∈ _ by simp [DataW.weights]); simpa [reachBytes] using this⟩

theorem list_of {α : Type} {p : Nat → α → Prop} : ∀ n : Nat, (∀ i, i < n → ∃ x, p i x) → ∃ l : List α, l.length = n ∧ ∀ i x, l[i]? = some x → p i x := by
  intro n
  induction n with
  | zero => intro _; exact ⟨[], rfl, fun i x h => by simp at h⟩
  | succ n ih =>
    intro h
    obtain ⟨l, hl, hp⟩ := ih (fun i hi => h i (by omega))
    obtain ⟨x, hx⟩ := h n (by omega)
    refine ⟨l ++ [x], by simp [hl], fun i y hy => ?_⟩
    rcases Nat.lt_or_ge i n with hi | hi
    · rw [List.getElem?_append_left (by omega)] at hy
      exact hp i y hy
    · have hi' : i = n := by
        have := (List.getElem?_eq_some_iff.1 hy).1
        simp [hl] at this
        omega
      subst hi'
      rw [List.getElem?_append_right (by omega), hl] at hy
      simp at hy
      subst hy
      exact hx

theorem Opens.slice {α : Type} {d : Kd α} {g : α → Prop} {B : Nat} (hu : P.underlying t = some (.slice e)) (hc : P.cellsOf e = d.sz) (hB : P.bytesOf e = B) (ho : Opens P e d g) : Opens P t (Kd.slice e d) (fun l => l.length ≤ maxLen ∧ l.length * B ≤ 140737488351232 ∧ ∀ x ∈ l, g x) := by
  intro H enc w base spare held fuel cs x h hs
  rcases open_slice hu h with ⟨rfl, _⟩ | ⟨a, len, cap, m, n, D, Pl, rfl, _, hl, hm, hmm, rfl, hx⟩
  · exact ⟨[], ⟨none, 0, rfl, Nat.le_refl _, rfl, by simp, fun h => absurd h (by simp)⟩, by simp, by simp, fun x hx => by simp at hx⟩
  · obtain ⟨hs1, hs2⟩ := hs.elems hu
    rw [hB] at hs1
    simp only [List.length_map, List.length_range] at hs1
    have hlm : len ≤ m := by rw [hmm]; split <;> omega
    obtain ⟨l, hll, hp⟩ := list_of (p := fun i v => g v ∧ ∃ c, c.length = d.sz ∧ d.K w v c ∧ ∀ j u, c[j]? = some u → w.cell? (a.add (i * d.sz + j)) = some u) len (fun i hi => by
      obtain ⟨cs', h1, h2⟩ := hx i (by omega)
      obtain ⟨v, hK, hg⟩ := ho h2 (hs2 (D i) (List.mem_map.2 ⟨i, List.mem_range.2 hi, rfl⟩))
      refine ⟨v, hg, cs', d.K_len hK, hK, fun j u hu' => ?_⟩
      obtain ⟨_, hlen, hcell⟩ := World.cells?_some h1
      have hj : j < P.cellsOf e := by
        have := (List.getElem?_eq_some_iff.1 hu').1
        omega
      have := hcell j hj
      rw [Deep.add_add, hc] at this
      rw [this]
      exact hu')
    refine ⟨l, ⟨some a, cap, by rw [hll], by omega, rfl, ?_, fun _ => ⟨a, rfl, fun j p hj => (hp j p hj).2⟩⟩, by omega, by rw [hll]; exact Nat.le_trans (Nat.mul_le_mul_right _ (Nat.le_add_right _ _)) hs1, fun y hy => ?_⟩
    · unfold maxLen at hm
      omega
    · obtain ⟨i, hi⟩ := List.getElem?_of_mem hy
      exact (hp i y hi).1

theorem cut2 (cs : List Value) (o n : Nat) : cs.drop o = (cs.drop o).take n ++ cs.drop (o + n) := by
  rw [← List.drop_drop, List.take_append_drop]
theorem cutlast {cs : List Value} {o n : Nat} (h : cs.length = o + n) : (cs.drop o).take n = cs.drop o := List.take_of_length_le (by simp; omega)

/-- A field of what reads as a struct. -/
theorem field_of {t : TypeId} {H : Type} {enc : TypeId × Value → H} {w : World} {base : Nat} {spare : Nat → Bool} {held : Bool} {fs : Array Field} {xs : List (DataW H × List MemPlace)} {n : Nat} {cs : List Value} (hl : xs.length = fs.size) (hu : P.underlying t = some (.struct fs)) (hs : Light P t (.agg (xs.map (·.1))))
    (h : ∀ (i : Nat) (f : Field), fs[i]? = some f → DataW.trod enc P w base spare held n f.type ((cs.drop f.offset).take (P.cellsOf f.type)) = xs[i]?) {i : Nat} {f : Field} (hf : fs[i]? = some f) {α : Type} {d : Kd α} {g : α → Prop} (ho : Opens P f.type d g) (hc : P.cellsOf f.type = d.sz) :
    ∃ v, d.K w v ((cs.drop f.offset).take d.sz) ∧ g v := by
  have hi : i < xs.length := by rw [hl]; exact (Array.getElem?_eq_some_iff.1 hf).1
  have := h i f hf
  rw [List.getElem?_eq_getElem hi, hc] at this
  exact ho this (hs.part hu hf (by rw [List.getElem?_map, List.getElem?_eq_getElem hi]; rfl))

/-- A slice that came in. -/
theorem arg_slice {α : Type} {d : Kd α} {g : α → Prop} {H : Type} {enc : TypeId × Value → H} {w : World} {base : Nat} {spare : Nat → Bool} {held : Bool} {a : Option Addr} {len cap : Nat} {D : DataW H} {ps : List MemPlace}
    {B : Nat} (hu : P.underlying t = some (.slice e)) (hc : P.cellsOf e = d.sz) (hB : P.bytesOf e = B) (ho : Opens P e d g) (hs : Light P t D) (h : DataW.Trod enc P w base spare held t (.slice a len cap) D ps) :
    ∃ l : List α, len = l.length ∧ Kd.C d w a l.length l ∧ l.length ≤ cap ∧ l.length ≤ maxLen ∧ l.length * B ≤ 140737488351232 ∧ ∀ x ∈ l, g x := by
  obtain ⟨fuel, hf⟩ := h
  obtain ⟨l, ⟨A, c, he, hle, hC⟩, hm, hb, hg⟩ := Opens.slice hu hc hB ho hf hs
  simp [Value.cells] at he
  obtain ⟨rfl, rfl, rfl⟩ := he
  exact ⟨l, rfl, hC, hle, hm, hb, hg⟩

/-- A struct by value. -/
theorem arg_struct {α : Type} {d : Kd α} {g : α → Prop} {fs : Array Field} {H : Type} {enc : TypeId × Value → H} {w : World} {base b0 : Nat} {r : Reach} {spare : Nat → Bool} {held : Bool} {v : Value} {D : DataW H} {ps : List MemPlace}
    (hu : P.underlying t = some (.struct fs)) (hv : Value.okWide P w r b0 t v) (ho : Opens P t d g) (hs : Light P t D) (h : DataW.Trod enc P w base spare held t v D ps) :
    ∃ (x : α) (cs : List Value), v = .agg cs.toArray ∧ d.K w x cs ∧ g x := by
  obtain ⟨cs, rfl, hsz⟩ := okWide_struct hu hv
  obtain ⟨fuel, hf⟩ := h
  obtain ⟨x, hK, hg⟩ := ho hf hs
  exact ⟨x, cs.toList, by simp, by simpa [Value.cells] using hK, hg⟩
end
end Go.Proofs.YtiflebfnhjlfdaaX
