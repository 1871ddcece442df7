import Derived.Test.YtiflebfnhjlfdaaWMore
import Derived.Test.YtiflebfnhjlfdaaWN
import Derived.ArgAppend
import Derived.Deep.RegionLawGrows
/-! What the kit's print asks for and its words lack: a shared row that is read lies in none of the blocks that it keeps clear of. -/
namespace Go.Proofs.YtiflebfnhjlfdaaW.PrintMore
open Go.RowKit Go.Proofs.YtiflebfnhjlfdaaW.PrintWords
end Go.Proofs.YtiflebfnhjlfdaaW.PrintMore
namespace Go.Proofs.YtiflebfnhjlfdaaW.PrintWords
open Go.RowKit Go.Proofs.YtiflebfnhjlfdaaW.PrintMore
namespace Kd
theorem V_away {α : Type} {d : Kd α} {e : Nat} {W : World} {base g n c : Nat} {ok : Nat → Prop} {ad : Addr} {xs : List α} (h : V d e W base ok (.slice (some ad) n c) xs) (hok : ∀ k, ok k → k ≠ g)
    (hn : 0 < n := by first | omega | (simp only [eq_iff_iff, iff_true] at *; omega)) (hs : 0 < d.sz := by decide) : some g ≠ (Value.slice (some ad) n c).ownBlock := by
  obtain ⟨hl, hc, hF⟩ := V_at h
  subst hl
  have hp : 0 < xs.length := hn
  obtain ⟨ad', cs, he, _, _, _, hb⟩ := F_get hF (xs[0]'hp) 0 (by omega) (by omega)
  injection he with he
  subst he
  intro h2
  have : g = ad.block := by simpa [Value.ownBlock] using h2
  exact hok _ (hb hs) this.symm
end Kd
namespace Kd
theorem reps_drewN {α : Type} {d : Kd α} {W : World} {ok : Nat → Prop} {sz : Nat} {xs : List α} {cs : List Value} (m : Nat) (h : Reps (FK d W ok) sz xs cs) : Reps (FK d (W.drewN m) ok) sz xs cs := h.imp_ (fun _ _ h => FK_below h (pw_below_drewN (Below.refl _ _) m))
end Kd
namespace Kd
/-! A cut with a capacity that is its end. -/
theorem C_mid3 {α : Type} {k : Kd α} {w : World} {A : Option Addr} {xs : List α} {lo hi : Nat} (h : k.C w A xs.length xs) (h1 : lo ≤ hi) (h2 : hi ≤ xs.length) : k.C w (if hi = lo then A else A.map (·.add (lo * k.sz))) ((xs.take hi).drop lo).length ((xs.take hi).drop lo) := by
  have hl : (xs.take hi).length = hi := by rw [List.length_take]; omega
  exact C_drop (C_take h h2) (by omega) (by omega)
theorem F_mid3 {α : Type} {d : Kd α} {W : World} {ok : Nat → Prop} {A : Option Addr} {xs : List α} {lo hi : Nat} (h : F d W ok A xs.length xs) (h1 : lo ≤ hi) (h2 : hi ≤ xs.length) : F d W ok (if hi = lo then A else A.map (·.add (lo * d.sz))) ((xs.take hi).drop lo).length ((xs.take hi).drop lo) := F_imp h (fun _ hC => C_mid3 hC h1 h2)
end Kd
theorem cut_mid3 {P : Program} (t e : TypeId) (kl kh km : IntKind) {i : TypeInfo} (ht : P.underlying t = some (.slice e)) (hi : P.info? e = some i) (size : Nat) (hsz : i.size = size) (A : Option Addr) (n c : Nat) (lo hi' : Int) (h0 : 0 ≤ lo) (h1 : lo ≤ hi') (h2 : hi' ≤ n) (hc : n ≤ c) :
    ∀ W : World, (Instr.slice t (.slice A n c) (some (.int kl lo)) (some (.int kh hi')) (some (.int km hi'))).run P W = .ok (.slice (if hi'.toNat = lo.toNat then A else A.map (·.add (lo.toNat * size))) (hi'.toNat - lo.toNat) (hi'.toNat - lo.toNat)) W := by
  intro W
  have hel : P.elem t = e := by simp [Program.elem, ht]
  have hu : P.underlying t = some (.slice (P.elem t)) := by rw [hel]; exact ht
  rw [run_slice_lhm W t A n c hu kl kh km lo hi' hi' h0 h1 (by omega) (by omega), hel]
  simp [sizeOf, typeInfo, hi, hsz, sliced, Result.andThen]
theorem cut_to3 {P : Program} (t e : TypeId) (kh km : IntKind) {i : TypeInfo} (ht : P.underlying t = some (.slice e)) (hi : P.info? e = some i) (A : Option Addr) (n c : Nat) (hi' : Int) (h0 : 0 ≤ hi') (h2 : hi' ≤ n) (hc : n ≤ c) :
    ∀ W : World, (Instr.slice t (.slice A n c) none (some (.int kh hi')) (some (.int km hi'))).run P W = .ok (.slice A hi'.toNat hi'.toNat) W := by
  intro W
  have hel : P.elem t = e := by simp [Program.elem, ht]
  have hu : P.underlying t = some (.slice (P.elem t)) := by rw [hel]; exact ht
  rw [run_slice_hm W t A n c hu kh km hi' hi' h0 (by omega) (by omega), hel]
  simp [sizeOf, typeInfo, hi, sliced, Result.andThen]
  intro _
  cases A with
  | none => rfl
  | some a => simp only [Option.map_some, Addr.add]; split <;> simp_all
theorem cut_as3 {X : World → Result Value} {A A1 : Option Addr} {n n1 c1 : Nat} (h : ∀ W, X W = .ok (.slice A n n) W) (hA : A1 = A) (hn : n1 = n) (hc : c1 = n) : ∀ W, X W = .ok (.slice A1 n1 c1) W := by
  subst hA; subst hn; subst hc; exact h
namespace Kd
/-! An append to a cut with no room: what is appended to is only read, and the row is new. -/
theorem full_core {α : Type} {d : Kd α} {e base : Nat} {w0 W w' : World} {o : Obj} {v' : Value} {xs : List α} {p : α} {cs olds : List Value} {ok : Nat → Prop} (HB : Below base w0 W) (hbase : base ≤ W.heap.size)
    (hKM : ∀ (W : World) (b : Nat) (ok : Nat → Prop) (x : α) (cs : List Value), d.K W x cs → d.M W b ok x cs) (hr : Reps (d.K W) d.sz xs olds) (hp : d.K W p cs) (hfresh : ∀ k, W.heap.size ≤ k → ok k)
    (hown : w'.ownsRow (W.alloc o).heap.size e d.sz v' (xs.length + 1) (olds ++ cs)) (hg : (W.alloc o).grownBy w' none) :
    d.R e w' base ok v' (xs ++ [p]) ∧ Below base w0 w' ∧ W.grownBy w' (Value.slice none 0 0).ownBlock ∧ (v'.ownBlock = (Value.slice none 0 0).ownBlock ∨ ∃ b, v'.ownBlock = some b ∧ W.heap.size ≤ b) := by
  have hz : Below W.heap.size W w' := pw_below_grown (below_alloc (Below.refl _ _) o) none (below_alloc (Below.refl _ _) o).size hg (fun k h => by cases h)
  have hsz : W.heap.size ≤ (W.alloc o).heap.size := (below_alloc (Below.refl W.heap.size W) o).size
  obtain ⟨b, hb, hle⟩ : ∃ b, v'.ownBlock = some b ∧ W.heap.size ≤ b := by
    rcases hown.2 with ⟨_, h0⟩ | ⟨g, cap, cur, rfl, h1, _⟩
    · omega
    · exact ⟨g, rfl, by omega⟩
  refine ⟨⟨fun k hk => ?_, olds ++ cs, ?_, ?_⟩, below_then HB hbase hz, grown_of_below hz _, .inr ⟨b, hb, hle⟩⟩
  · rw [hb] at hk
    cases hk
    exact hfresh _ hle
  · rw [List.length_append]
    exact own_less hown (by omega)
  · exact Reps.snoc (hr.imp_ (fun _ _ h => hKM _ _ _ _ _ (d.K_below hz h))) (hKM _ _ _ _ _ (d.K_below hz hp)) (d.K_len hp)
theorem full_olds {α : Type} {d : Kd α} {W : World} {A : Option Addr} {xs : List α} (h : d.C W A xs.length xs) : ∃ olds, Reps (d.K W) d.sz xs olds ∧ (A = none → xs.length = 0 ∧ xs.length = 0) ∧ ∀ b, A = some b → ∀ j u, olds[j]? = some u → W.cell? (b.add j) = some u := by
  rcases A with _ | ad
  · have h0 : xs.length = 0 := by
      rcases Nat.eq_zero_or_pos xs.length with h0 | h0
      · exact h0
      · obtain ⟨ad, e, _⟩ := h.2.2 h0
        cases e
    obtain rfl : xs = [] := List.eq_nil_of_length_eq_zero h0
    exact ⟨[], Reps.none _ _, fun _ => ⟨rfl, rfl⟩, fun b hb => by cases hb⟩
  · obtain ⟨olds, h1, h2⟩ := ReadsRow.inner_ h
    exact ⟨olds, h1, fun hh => (by cases hh), fun b hb => by cases hb; exact h2⟩
section
variable {P : Program} {ops : Array Oper} {rest : List Oper} {o : Oper} {a : Act} {Q : Exit → Act → World → Prop} {Kc : Act → World → Prop} {α : Type}
theorem R_append_full (d : Kd α) {w0 W : World} (base : Nat) (hgd : o.guard = none) (s x : Operand) (t e : TypeId) (z : Value) (bytes : Nat)
    (ho : o.op = .call { callee := .builtin .append, args := #[s, x], argTypes := #[t, t] })
    (ht : P.underlying t = some (.slice e)) (hinfo : (P.info? e).map (fun i => (i.zero, i.size, i.bytes)) = some (some z, d.sz, bytes)) (hz : z.cells.size = d.sz) (hs0 : 0 < d.sz) (hb0 : 0 < bytes)
    (A : Option Addr) (xs : List α) (p : α) (cs : List Value) (ok : Nat → Prop) (hs : a.eval s = .slice A xs.length xs.length) (hx : a.eval x = .slice (some ⟨W.heap.size, 0, none⟩) 1 1) (hp : d.M W base (fun _ => False) p cs) (hfresh : ∀ k, W.heap.size ≤ k → ok k)
    (HO : d.C W A xs.length xs) (hKM : ∀ (W : World) (b : Nat) (ok : Nat → Prop) (x : α) (cs : List Value), d.K W x cs → d.M W b ok x cs) (HB : Below base w0 W) (hbase : base ≤ W.heap.size) (hl : (xs.length + 1) * bytes ≤ 140737488355328)
    (h : ∀ v1 w1, d.R e w1 base ok v1 (xs ++ [p]) → Below base w0 w1 → W.grownBy w1 (Value.slice none 0 0).ownBlock → (v1.ownBlock = (Value.slice none 0 0).ownBlock ∨ ∃ b, v1.ownBlock = some b ∧ W.heap.size ≤ b) → wpList P ops Q rest (a.put o.dst v1) w1) :
    wpList P ops Q (o :: rest) a (W.alloc (.cells cs.toArray e)) := by
  obtain ⟨i0, hi, hzz⟩ := Option.map_eq_some_iff.1 hinfo
  simp only [Prod.mk.injEq] at hzz
  obtain ⟨hz0, hz1, hz2⟩ := hzz
  obtain ⟨olds, hr, hn, hc⟩ := full_olds HO
  have hlen : xs.length + 1 ≤ 140737488355328 := Nat.le_trans (Nat.le_mul_of_pos_right _ hb0) hl
  refine wpList_append_grows _ hgd s x t ho e i0 z d.sz bytes ht hi hz0 hz1 hz2 hz hs0 A xs.length xs.length olds hs hn hr.1 (fun b hb j u hj => pw_cell_below (below_alloc (Below.refl _ _) _) (hc b hb j u hj)) ⟨W.heap.size, 0, none⟩ 1 1 cs hx (by rw [d.K_len (d.K_of_M hp), Nat.one_mul])
    (fun j u hj => by rw [add_plain]; exact (blk_cell (blk_new W _) j).trans (by simpa using hj)) (d.K_one (d.K_of_M hp)) (by omega) (by simp only [maxLen]; omega) hl ?_
  intro v1 w1 hown hg
  obtain ⟨g1, g2, g3, g4⟩ := full_core HB hbase hKM hr (d.K_of_M hp) hfresh hown hg
  exact h v1 w1 g1 g2 g3 g4
theorem R_append_full_step (d : Kd α) {w0 W : World} (base : Nat) (_hw : Region.wanted o (yielded ops a.tmps) = true) (s x : Operand) (t e : TypeId) (z : Value) (bytes : Nat)
    (ho : o.op = .call { callee := .builtin .append, args := #[s, x], argTypes := #[t, t] })
    (ht : P.underlying t = some (.slice e)) (hinfo : (P.info? e).map (fun i => (i.zero, i.size, i.bytes)) = some (some z, d.sz, bytes)) (hz : z.cells.size = d.sz) (hs0 : 0 < d.sz) (hb0 : 0 < bytes)
    (A : Option Addr) (xs : List α) (p : α) (cs : List Value) (ok : Nat → Prop) (hs : a.eval s = .slice A xs.length xs.length) (hx : a.eval x = .slice (some ⟨W.heap.size, 0, none⟩) 1 1) (hp : d.M W base (fun _ => False) p cs) (hfresh : ∀ k, W.heap.size ≤ k → ok k)
    (HO : d.C W A xs.length xs) (hKM : ∀ (W : World) (b : Nat) (ok : Nat → Prop) (x : α) (cs : List Value), d.K W x cs → d.M W b ok x cs) (HB : Below base w0 W) (hbase : base ≤ W.heap.size) (hl : (xs.length + 1) * bytes ≤ 140737488355328)
    (h : ∀ v1 w1, d.R e w1 base ok v1 (xs ++ [p]) → Below base w0 w1 → W.grownBy w1 (Value.slice none 0 0).ownBlock → (v1.ownBlock = (Value.slice none 0 0).ownBlock ∨ ∃ b, v1.ownBlock = some b ∧ W.heap.size ≤ b) → Kc (a.put o.dst v1) w1) (hgd : o.guard = none := by rfl) :
    if Region.wanted o (yielded ops a.tmps) = true then Oper.wp P o a (W.alloc (.cells cs.toArray e)) Kc Q else Kc (a.put o.dst undef) (W.alloc (.cells cs.toArray e)) := by
  obtain ⟨i0, hi, hzz⟩ := Option.map_eq_some_iff.1 hinfo
  simp only [Prod.mk.injEq] at hzz
  obtain ⟨hz0, hz1, hz2⟩ := hzz
  obtain ⟨olds, hr, hn, hc⟩ := full_olds HO
  have hlen : xs.length + 1 ≤ 140737488355328 := Nat.le_trans (Nat.le_mul_of_pos_right _ hb0) hl
  refine step_append_grows hgd s x t ho e i0 z d.sz bytes ht hi hz0 hz1 hz2 hz hs0 A xs.length xs.length olds hs hn hr.1 (fun b hb j u hj => pw_cell_below (below_alloc (Below.refl _ _) _) (hc b hb j u hj)) ⟨W.heap.size, 0, none⟩ 1 1 cs hx (by rw [d.K_len (d.K_of_M hp), Nat.one_mul])
    (fun j u hj => by rw [add_plain]; exact (blk_cell (blk_new W _) j).trans (by simpa using hj)) (d.K_one (d.K_of_M hp)) (by omega) (by simp only [maxLen]; omega) hl ?_
  intro v1 w1 hown hg
  obtain ⟨g1, g2, g3, g4⟩ := full_core HB hbase hKM hr (d.K_of_M hp) hfresh hown hg
  exact h v1 w1 g1 g2 g3 g4
end
end Kd
/-! Short names. -/
theorem bN {w : World} {g : Nat} {o : Obj} (h : w.heap[g]? = some o) (n : Nat) : (w.drewN n).heap[g]? = some o := h
theorem bD {w : World} {g : Nat} {o : Obj} (h : w.heap[g]? = some o) : w.drew.heap[g]? = some o := h
theorem bA {w : World} {g : Nat} {o : Obj} (h : w.heap[g]? = some o) (o' : Obj) : (w.alloc o').heap[g]? = some o := blk_alloc h o'
theorem kF {w W : World} {g : Nat} {row : Option Nat} (h : KeepBut w W g row) {p : Addr} (hp : w.heap.size ≤ p.block) (u : Value) : KeepBut w (W.setCell p u) g row := keep_far h hp u
theorem wN {B : Nat} {w W : World} (h : Below B w W) (n : Nat) : Below B w (W.drewN n) := pw_below_drewN h n
theorem wD {base : Nat} {w W : World} (h : Below base w W) : Below base w W.drew := below_drew1 h
theorem wA {w W : World} (h : Below w.heap.size w W) (o : Obj) : Below w.heap.size w (W.alloc o) := below_alloc h o
theorem kN {w W : World} {g : Nat} {row : Option Nat} (h : KeepBut w W g row) (m : Nat) : KeepBut w (W.drewN m) g row := keep_drewN h m
theorem kD {w W : World} {g : Nat} {row : Option Nat} (h : KeepBut w W g row) : KeepBut w W.drew g row := keep_drew h
theorem kA {w W : World} {g : Nat} (h : KeepBut w W g none) (o : Obj) : KeepBut w (W.alloc o) g none := keep_alloc h o
theorem aM {p : Prop} (h : p) : Aside0 p := ⟨h⟩
section
variable {P : Program} {ops : Array Oper} {rest : List Oper} {o : Oper} {a : Act} {Q : Exit → Act → World → Prop} {Kc : Act → World → Prop} {α : Type}
/-- What 'make' with a length of any kind of whole number runs to. -/
theorem run_madeK {W : World} {t e : TypeId} {x y : Operand} {kx : IntKind} {m sz bytes : Nat} {z : Value} (ho : o.op = .makeSlice t x y) (hx : a.eval x = .int kx m) (hy : a.eval y = .int kx m)
    (ht : P.underlying t = some (.slice e)) (hinfo : (P.info? e).map (fun i => (i.zero, i.size, i.bytes)) = some (some z, sz, bytes)) (hb0 : 0 < bytes) (hl : m * bytes ≤ 281474976710656) :
    (execOp a.eval o).run P W = .ok (.value (.slice (some ⟨W.heap.size, 0, none⟩) (List.replicate m z).length (List.replicate m z).length)) (W.alloc (.cells (madeCells z.cells (m * sz)).toList.toArray e)) := by
  obtain ⟨i, hi, he⟩ := Option.map_eq_some_iff.1 hinfo
  obtain ⟨h1, h2, h3⟩ : i.zero = some z ∧ i.size = sz ∧ i.bytes = bytes := by simpa using he
  have hm : m ≤ m * bytes := Nat.le_mul_of_pos_right _ hb0
  have hw : (i.bytes : Int) * (m : Int) ≤ 281474976710656 := by rw [h3, ← Int.natCast_mul, Nat.mul_comm]; omega
  have hr := run_make (P := P) (w := W) t e i z ht hi h1 kx kx m m (by omega) (by omega) hw (by omega)
  simp only [Int.toNat_natCast, h2] at hr
  simp [execOp, ho, hx, hy, hr]
namespace Kd
theorem R_makeK (d : Kd α) {kx : IntKind} {w0 W : World} (base e : Nat) (hgd : o.guard = none) {N : Tmp} (hd : o.dst = some N) (t : TypeId) (x y : Operand) (ho : o.op = .makeSlice t x y) (n : Int) (hx : a.eval x = .int kx n) (hy : a.eval y = .int kx n)
    (ht : P.underlying t = some (.slice e)) (z : Value) (bytes : Nat) (hinfo : (P.info? e).map (fun i => (i.zero, i.size, i.bytes)) = some (some z, d.sz, bytes)) (hz : z.cells.size = d.sz) (hs0 : 0 < d.sz) (hb0 : 0 < bytes)
    (z0 : α) {ok okp : Nat → Prop} (hzero : d.M W base okp z0 z.cells.toList) (hok : ∀ k, okp k → ok k) (hfresh : ok W.heap.size) (h0 : 0 ≤ n) (hl : n.toNat * bytes ≤ 281474976710656) (HB : Below base w0 W) (hbase : base ≤ W.heap.size)
    (h : ∀ v1 w1, d.R e w1 base ok v1 (List.replicate n.toNat z0) → Below base w0 w1 → W.grownBy w1 none → (∃ b, v1.ownBlock = some b ∧ W.heap.size ≤ b) → wpList P ops Q rest (a.put o.dst v1) w1) : wpList P ops Q (o :: rest) a W := by
  obtain ⟨m, rfl⟩ := Int.eq_ofNat_of_zero_le h0
  rw [Int.toNat_natCast] at hl h
  have hm : m ≤ m * bytes := Nat.le_mul_of_pos_right _ hb0
  exact R_lit d base e hgd hd (xs := List.replicate m z0) (by simpa using run_madeK ho hx hy ht hinfo hb0 hl) (reps_made hz hs0 hzero m) hok hfresh HB hbase (by simp; omega) h
theorem R_makeK_step (d : Kd α) {kx : IntKind} {w0 W : World} (base e : Nat) (hw : Region.wanted o (yielded ops a.tmps) = true) {N : Tmp} (hd : o.dst = some N) (t : TypeId) (x y : Operand) (ho : o.op = .makeSlice t x y) (n : Int) (hx : a.eval x = .int kx n) (hy : a.eval y = .int kx n)
    (ht : P.underlying t = some (.slice e)) (z : Value) (bytes : Nat) (hinfo : (P.info? e).map (fun i => (i.zero, i.size, i.bytes)) = some (some z, d.sz, bytes)) (hz : z.cells.size = d.sz) (hs0 : 0 < d.sz) (hb0 : 0 < bytes)
    (z0 : α) {ok okp : Nat → Prop} (hzero : d.M W base okp z0 z.cells.toList) (hok : ∀ k, okp k → ok k) (hfresh : ok W.heap.size) (h0 : 0 ≤ n) (hl : n.toNat * bytes ≤ 281474976710656) (HB : Below base w0 W) (hbase : base ≤ W.heap.size)
    (h : ∀ v1 w1, d.R e w1 base ok v1 (List.replicate n.toNat z0) → Below base w0 w1 → W.grownBy w1 none → (∃ b, v1.ownBlock = some b ∧ W.heap.size ≤ b) → Kc (a.put o.dst v1) w1) : if Region.wanted o (yielded ops a.tmps) = true then Oper.wp P o a W Kc Q else Kc (a.put o.dst undef) W := by
  obtain ⟨m, rfl⟩ := Int.eq_ofNat_of_zero_le h0
  rw [Int.toNat_natCast] at hl h
  have hm : m ≤ m * bytes := Nat.le_mul_of_pos_right _ hb0
  exact R_lit_step d base e hw hd (xs := List.replicate m z0) (by simpa using run_madeK ho hx hy ht hinfo hb0 hl) (reps_made hz hs0 hzero m) hok hfresh HB hbase (by simp; omega) h
end Kd
end
end Go.Proofs.YtiflebfnhjlfdaaW.PrintWords
