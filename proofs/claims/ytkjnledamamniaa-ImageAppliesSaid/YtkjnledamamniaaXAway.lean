import Derived.Test.YtkjnledamamniaaWMore
import Derived.Test.YtkjnledamamniaaWN
/-! What the kit's print asks for and its words lack: a shared row that is read lies in none of the blocks that it keeps clear of. -/
namespace Go.Proofs.YtkjnledamamniaaW.PrintMore
open Go.RowKit Go.Proofs.YtkjnledamamniaaW.PrintWords
end Go.Proofs.YtkjnledamamniaaW.PrintMore
namespace Go.Proofs.YtkjnledamamniaaW.PrintWords
open Go.RowKit Go.Proofs.YtkjnledamamniaaW.PrintMore
namespace Kd
theorem V_away {α : Type} {d : Kd α} {e : Nat} {W : World} {base g n c : Nat} {ok : Nat → Prop} {ad : Addr} {xs : List α} (h : V d e W base ok (.slice (some ad) n c) xs) (hok : ∀ k, ok k → k ≠ g)
    (hn : 0 < n := by first | omega | (simp only [eq_iff_iff, iff_true] at *; omega)) (hs : 0 < d.sz := by decide) : some g ≠ (Value.slice (some ad) n c).ownBlock := by
  obtain ⟨hl, hc, hF⟩ := V_at h
  subst hl
  have hp : 0 < xs.length := hn
  obtain ⟨ad', cs, he, _, _, _, hb⟩ := F_get hF (xs[0]'hp) 0 (by omega) (by omega)
  injection he with he
  subst he
  intro h2
  have : g = ad.block := by simpa [Value.ownBlock] using h2
  exact hok _ (hb hs) this.symm
end Kd
namespace Kd
/-! A cut with a capacity that is its end. -/
theorem C_mid3 {α : Type} {k : Kd α} {w : World} {A : Option Addr} {xs : List α} {lo hi : Nat} (h : k.C w A xs.length xs) (h1 : lo ≤ hi) (h2 : hi ≤ xs.length) : k.C w (if hi = lo then A else A.map (·.add (lo * k.sz))) ((xs.take hi).drop lo).length ((xs.take hi).drop lo) := by
  have hl : (xs.take hi).length = hi := by rw [List.length_take]; omega
  exact C_drop (C_take h h2) (by omega) (by omega)
theorem F_mid3 {α : Type} {d : Kd α} {W : World} {ok : Nat → Prop} {A : Option Addr} {xs : List α} {lo hi : Nat} (h : F d W ok A xs.length xs) (h1 : lo ≤ hi) (h2 : hi ≤ xs.length) : F d W ok (if hi = lo then A else A.map (·.add (lo * d.sz))) ((xs.take hi).drop lo).length ((xs.take hi).drop lo) := F_imp h (fun _ hC => C_mid3 hC h1 h2)
end Kd
theorem cut_mid3 {P : Program} (t e : TypeId) (kl kh km : IntKind) {i : TypeInfo} (ht : P.underlying t = some (.slice e)) (hi : P.info? e = some i) (size : Nat) (hsz : i.size = size) (A : Option Addr) (n c : Nat) (lo hi' : Int) (h0 : 0 ≤ lo) (h1 : lo ≤ hi') (h2 : hi' ≤ n) (hc : n ≤ c) :
    ∀ W : World, (Instr.slice t (.slice A n c) (some (.int kl lo)) (some (.int kh hi')) (some (.int km hi'))).run P W = .ok (.slice (if hi'.toNat = lo.toNat then A else A.map (·.add (lo.toNat * size))) (hi'.toNat - lo.toNat) (hi'.toNat - lo.toNat)) W := by
  intro W
  have hel : P.elem t = e := by simp [Program.elem, ht]
  have hu : P.underlying t = some (.slice (P.elem t)) := by rw [hel]; exact ht
  rw [run_slice_lhm W t A n c hu kl kh km lo hi' hi' h0 h1 (by omega) (by omega), hel]
  simp [sizeOf, typeInfo, hi, hsz, sliced, Result.andThen]
theorem cut_as3 {X : World → Result Value} {A A1 : Option Addr} {n n1 c1 : Nat} (h : ∀ W, X W = .ok (.slice A n n) W) (hA : A1 = A) (hn : n1 = n) (hc : c1 = n) : ∀ W, X W = .ok (.slice A1 n1 c1) W := by
  subst hA; subst hn; subst hc; exact h
/-! Short names. -/
theorem bN {w : World} {g : Nat} {o : Obj} (h : w.heap[g]? = some o) (n : Nat) : (w.drewN n).heap[g]? = some o := h
theorem bD {w : World} {g : Nat} {o : Obj} (h : w.heap[g]? = some o) : w.drew.heap[g]? = some o := h
theorem bA {w : World} {g : Nat} {o : Obj} (h : w.heap[g]? = some o) (o' : Obj) : (w.alloc o').heap[g]? = some o := blk_alloc h o'
theorem kF {w W : World} {g : Nat} {row : Option Nat} (h : KeepBut w W g row) {p : Addr} (hp : w.heap.size ≤ p.block) (u : Value) : KeepBut w (W.setCell p u) g row := keep_far h hp u
theorem wN {B : Nat} {w W : World} (h : Below B w W) (n : Nat) : Below B w (W.drewN n) := pw_below_drewN h n
theorem wD {base : Nat} {w W : World} (h : Below base w W) : Below base w W.drew := below_drew1 h
theorem wA {w W : World} (h : Below w.heap.size w W) (o : Obj) : Below w.heap.size w (W.alloc o) := below_alloc h o
theorem kN {w W : World} {g : Nat} {row : Option Nat} (h : KeepBut w W g row) (m : Nat) : KeepBut w (W.drewN m) g row := keep_drewN h m
theorem kD {w W : World} {g : Nat} {row : Option Nat} (h : KeepBut w W g row) : KeepBut w W.drew g row := keep_drew h
theorem kA {w W : World} {g : Nat} (h : KeepBut w W g none) (o : Obj) : KeepBut w (W.alloc o) g none := keep_alloc h o
theorem aM {p : Prop} (h : p) : Aside0 p := ⟨h⟩
section
variable {P : Program} {ops : Array Oper} {rest : List Oper} {o : Oper} {a : Act} {Q : Exit → Act → World → Prop} {Kc : Act → World → Prop} {α : Type}
/-- What 'make' with a length of any kind of whole number runs to. -/
theorem run_madeK {W : World} {t e : TypeId} {x y : Operand} {kx : IntKind} {m sz bytes : Nat} {z : Value} (ho : o.op = .makeSlice t x y) (hx : a.eval x = .int kx m) (hy : a.eval y = .int kx m)
    (ht : P.underlying t = some (.slice e)) (hinfo : (P.info? e).map (fun i => (i.zero, i.size, i.bytes)) = some (some z, sz, bytes)) (hb0 : 0 < bytes) (hl : m * bytes ≤ 281474976710656) :
    (execOp a.eval o).run P W = .ok (.value (.slice (some ⟨W.heap.size, 0, none⟩) (List.replicate m z).length (List.replicate m z).length)) (W.alloc (.cells (madeCells z.cells (m * sz)).toList.toArray e)) := by
  obtain ⟨i, hi, he⟩ := Option.map_eq_some_iff.1 hinfo
  obtain ⟨h1, h2, h3⟩ : i.zero = some z ∧ i.size = sz ∧ i.bytes = bytes := by simpa using he
  have hm : m ≤ m * bytes := Nat.le_mul_of_pos_right _ hb0
  have hw : (i.bytes : Int) * (m : Int) ≤ 281474976710656 := by rw [h3, ← Int.natCast_mul, Nat.mul_comm]; omega
  have hr := run_make (P := P) (w := W) t e i z ht hi h1 kx kx m m (by omega) (by omega) hw (by omega)
  simp only [Int.toNat_natCast, h2] at hr
  simp [execOp, ho, hx, hy, hr]
namespace Kd
theorem R_makeK (d : Kd α) {kx : IntKind} {w0 W : World} (base e : Nat) (hgd : o.guard = none) {N : Tmp} (hd : o.dst = some N) (t : TypeId) (x y : Operand) (ho : o.op = .makeSlice t x y) (n : Int) (hx : a.eval x = .int kx n) (hy : a.eval y = .int kx n)
    (ht : P.underlying t = some (.slice e)) (z : Value) (bytes : Nat) (hinfo : (P.info? e).map (fun i => (i.zero, i.size, i.bytes)) = some (some z, d.sz, bytes)) (hz : z.cells.size = d.sz) (hs0 : 0 < d.sz) (hb0 : 0 < bytes)
    (z0 : α) {ok okp : Nat → Prop} (hzero : d.M W base okp z0 z.cells.toList) (hok : ∀ k, okp k → ok k) (hfresh : ok W.heap.size) (h0 : 0 ≤ n) (hl : n.toNat * bytes ≤ 281474976710656) (HB : Below base w0 W) (hbase : base ≤ W.heap.size)
    (h : ∀ v1 w1, d.R e w1 base ok v1 (List.replicate n.toNat z0) → Below base w0 w1 → W.grownBy w1 none → (∃ b, v1.ownBlock = some b ∧ W.heap.size ≤ b) → wpList P ops Q rest (a.put o.dst v1) w1) : wpList P ops Q (o :: rest) a W := by
  obtain ⟨m, rfl⟩ := Int.eq_ofNat_of_zero_le h0
  rw [Int.toNat_natCast] at hl h
  have hm : m ≤ m * bytes := Nat.le_mul_of_pos_right _ hb0
  exact R_lit d base e hgd hd (xs := List.replicate m z0) (by simpa using run_madeK ho hx hy ht hinfo hb0 hl) (reps_made hz hs0 hzero m) hok hfresh HB hbase (by simp; omega) h
theorem R_makeK_step (d : Kd α) {kx : IntKind} {w0 W : World} (base e : Nat) (hw : Region.wanted o (yielded ops a.tmps) = true) {N : Tmp} (hd : o.dst = some N) (t : TypeId) (x y : Operand) (ho : o.op = .makeSlice t x y) (n : Int) (hx : a.eval x = .int kx n) (hy : a.eval y = .int kx n)
    (ht : P.underlying t = some (.slice e)) (z : Value) (bytes : Nat) (hinfo : (P.info? e).map (fun i => (i.zero, i.size, i.bytes)) = some (some z, d.sz, bytes)) (hz : z.cells.size = d.sz) (hs0 : 0 < d.sz) (hb0 : 0 < bytes)
    (z0 : α) {ok okp : Nat → Prop} (hzero : d.M W base okp z0 z.cells.toList) (hok : ∀ k, okp k → ok k) (hfresh : ok W.heap.size) (h0 : 0 ≤ n) (hl : n.toNat * bytes ≤ 281474976710656) (HB : Below base w0 W) (hbase : base ≤ W.heap.size)
    (h : ∀ v1 w1, d.R e w1 base ok v1 (List.replicate n.toNat z0) → Below base w0 w1 → W.grownBy w1 none → (∃ b, v1.ownBlock = some b ∧ W.heap.size ≤ b) → Kc (a.put o.dst v1) w1) : if Region.wanted o (yielded ops a.tmps) = true then Oper.wp P o a W Kc Q else Kc (a.put o.dst undef) W := by
  obtain ⟨m, rfl⟩ := Int.eq_ofNat_of_zero_le h0
  rw [Int.toNat_natCast] at hl h
  have hm : m ≤ m * bytes := Nat.le_mul_of_pos_right _ hb0
  exact R_lit_step d base e hw hd (xs := List.replicate m z0) (by simpa using run_madeK ho hx hy ht hinfo hb0 hl) (reps_made hz hs0 hzero m) hok hfresh HB hbase (by simp; omega) h
end Kd
end
end Go.Proofs.YtkjnledamamniaaW.PrintWords
