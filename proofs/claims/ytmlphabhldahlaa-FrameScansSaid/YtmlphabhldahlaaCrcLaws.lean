/- What the checksum does: in parts, of an exclusive or, of a burst of 32 bits: in plain numbers. -/
import Derived.Test.YtmlphabhldahlaaCrc
namespace Go.Proofs.Ytmlphabhldahlaa.Crc
open Go
theorem ff_lt : (4294967295 : Nat) < 2 ^ 32 := by decide
theorem xor_cancel (a b : Nat) : a ^^^ b ^^^ b = a := by rw [Nat.xor_assoc, Nat.xor_self, Nat.xor_zero]
theorem Bytes.map {l : List Int} (h : Bytes l) : ∀ c ∈ l.map Int.toNat, c < 256 := by
  intro c hc
  obtain ⟨x, hx, rfl⟩ := List.mem_map.1 hc
  have := h x hx
  omega
theorem Bytes.take {l : List Int} (h : Bytes l) (n : Nat) : Bytes (l.take n) := fun x hx => h x (List.mem_of_mem_take hx)
theorem Bytes.drop {l : List Int} (h : Bytes l) (n : Nat) : Bytes (l.drop n) := fun x hx => h x (List.mem_of_mem_drop hx)
theorem Bytes.append {l m : List Int} (h : Bytes l) (k : Bytes m) : Bytes (l ++ m) := fun x hx => (List.mem_append.1 hx).elim (h x) (k x)
theorem Bytes.nil : Bytes [] := fun x hx => by simp at hx
theorem upd_range {a : Int} {l : List Int} (h0 : 0 ≤ a) (h1 : a < 4294967296) (hl : Bytes l) : 0 ≤ upd a l ∧ upd a l < 4294967296 := by
  unfold upd
  have h2 : a.toNat ^^^ 4294967295 < 2 ^ 32 := Nat.xor_lt_two_pow (by omega) ff_lt
  have h3 := Nat.xor_lt_two_pow (run_lt (l.map Int.toNat) h2 hl.map) ff_lt
  omega
theorem upd_nil {a : Int} (h0 : 0 ≤ a) : upd a [] = a := by
  unfold upd
  show ((a.toNat ^^^ 4294967295 ^^^ 4294967295 : Nat) : Int) = a
  rw [xor_cancel]
  omega
theorem upd_append (a : Int) (l m : List Int) : upd (upd a l) m = upd a (l ++ m) := by
  unfold upd
  rw [List.map_append, run_append, Int.toNat_natCast, xor_cancel]

/-- The exclusive or of three lists of numbers. -/
def x3 : List Nat → List Nat → List Nat → List Nat
  | a :: l, b :: m, c :: n => (a ^^^ b ^^^ c) :: x3 l m n
  | _, _, _ => []
theorem mix (a b c d e f : Nat) : a ^^^ b ^^^ c ^^^ (d ^^^ e ^^^ f) = (a ^^^ d) ^^^ (b ^^^ e) ^^^ (c ^^^ f) := by
  apply Nat.eq_of_testBit_eq
  intro i
  simp only [Nat.testBit_xor]
  cases a.testBit i <;> cases b.testBit i <;> cases c.testBit i <;> cases d.testBit i <;> cases e.testBit i <;> cases f.testBit i <;> rfl
theorem run_x3 : ∀ (l m n : List Nat) (s t u : Nat), l.length = m.length → l.length = n.length → run (s ^^^ t ^^^ u) (x3 l m n) = run s l ^^^ run t m ^^^ run u n := by
  intro l
  induction l with
  | nil =>
    intro m n s t u h1 h2
    obtain rfl : m = [] := List.length_eq_zero_iff.1 h1.symm
    obtain rfl : n = [] := List.length_eq_zero_iff.1 h2.symm
    rfl
  | cons a l ih =>
    intro m n s t u h1 h2
    obtain ⟨b, m, rfl⟩ : ∃ b m', m = b :: m' := by cases m with | nil => simp at h1 | cons b m => exact ⟨b, m, rfl⟩
    obtain ⟨c, n, rfl⟩ : ∃ c n', n = c :: n' := by cases n with | nil => simp at h2 | cons c n => exact ⟨c, n, rfl⟩
    simp only [x3, run]
    rw [mix, it_xor, it_xor]
    exact ih m n _ _ _ (by simpa using h1) (by simpa using h2)

/-- One bit of a number of bytes turned. -/
theorem num_set : ∀ (l : List Nat) (j t : Nat) (h : j < l.length), (∀ c ∈ l, c < 256) → t < 8 → num (l.set j (l[j] ^^^ 2 ^ t)) = num l ^^^ 2 ^ (8 * j + t) := by
  intro l
  induction l with
  | nil => intro j t h; simp at h
  | cons c l ih =>
    intro j t h hb ht
    have hc : c < 256 := hb c (by simp)
    have h2 : 2 ^ t < 256 := by
      have : 2 ^ t < 2 ^ 8 := Nat.pow_lt_pow_right (by decide) ht
      simpa using this
    cases j with
    | zero =>
      simp only [List.set_cons_zero, List.getElem_cons_zero, num, Nat.mul_zero, Nat.zero_add]
      rw [add_xor (xor_lt hc h2), add_xor hc, Nat.xor_assoc, Nat.xor_comm (2 ^ t), ← Nat.xor_assoc]
    | succ j =>
      have hj : j < l.length := by simpa using h
      simp only [List.set_cons_succ, List.getElem_cons_succ, num]
      rw [ih j t hj (fun d hd => hb d (by simp [hd])) ht, add_xor hc, add_xor hc, Nat.xor_assoc]
      congr 1
      have e : 2 ^ (8 * (j + 1) + t) = 256 * 2 ^ (8 * j + t) := by
        rw [show 8 * (j + 1) + t = 8 + (8 * j + t) by omega, Nat.pow_add]
      rw [e]
      have sh : ∀ x : Nat, 256 * x = x <<< 8 := fun x => by rw [Nat.shiftLeft_eq]; omega
      rw [sh, sh, sh, Nat.shiftLeft_xor_distrib]
theorem xor_one_lt {c t : Nat} (hc : c < 256) (ht : t < 8) : c ^^^ 2 ^ t < 256 := xor_lt hc (by
  have : 2 ^ t < 2 ^ 8 := Nat.pow_lt_pow_right (by decide) ht
  simpa using this)

/-- A mask's bits, one more. -/
theorem mask_step (m i k : Nat) (h : (m / 2 ^ i) % 2 = 1) (x : Nat) : x ^^^ (m % 2 ^ i * 2 ^ k) ^^^ 2 ^ (k + i) = x ^^^ (m % 2 ^ (i + 1) * 2 ^ k) := by
  rw [Nat.xor_assoc]
  congr 1
  have e : m % 2 ^ (i + 1) = 2 ^ i + m % 2 ^ i := by
    rw [Nat.pow_succ, Nat.mod_mul, h]
    omega
  have hlt : m % 2 ^ i < 2 ^ i := Nat.mod_lt _ (Nat.two_pow_pos i)
  have e2 : 2 ^ i + m % 2 ^ i = 2 ^ i ^^^ m % 2 ^ i := by
    have e3 := Nat.two_pow_add_eq_or_of_lt hlt 1
    rw [Nat.mul_one] at e3
    rw [e3]
    apply Nat.eq_of_testBit_eq
    intro j
    rw [Nat.testBit_xor, Nat.testBit_or, Nat.testBit_two_pow]
    by_cases hj : i = j
    · subst hj
      rw [Nat.testBit_lt_two_pow hlt]
      simp
    · simp [hj]
  rw [e, e2, ← Nat.shiftLeft_eq, ← Nat.shiftLeft_eq, Nat.shiftLeft_xor_distrib, Nat.xor_comm]
  congr 1
  rw [Nat.shiftLeft_eq, ← Nat.pow_add, Nat.add_comm]
theorem mask_skip (m i : Nat) (h : (m / 2 ^ i) % 2 ≠ 1) : m % 2 ^ (i + 1) = m % 2 ^ i := by
  rw [Nat.pow_succ, Nat.mod_mul]
  have : m / 2 ^ i % 2 = 0 := by omega
  rw [this]
  omega

/-- A burst of 32 bits changes the checksum. -/
theorem burst {l c : List Nat} {s k m : Nat} (hl : ∀ x ∈ l, x < 256) (hc : ∀ x ∈ c, x < 256) (hn : c.length = l.length) (hk : k + 32 ≤ 8 * l.length) (hm : m < 2 ^ 32) (h0 : m ≠ 0) (h : num c = num l ^^^ (m * 2 ^ k)) : run s l ≠ run s c := by
  intro he
  rw [run_num l s hl, run_num c s hc, hn, h, ← Nat.xor_assoc, it_xor _ (s ^^^ num l)] at he
  have hz : it (8 * l.length) (m * 2 ^ k) = 0 := by
    have := congrArg (fun x => it (8 * l.length) (s ^^^ num l) ^^^ x) he
    simp only [Nat.xor_self] at this
    rw [← Nat.xor_assoc, Nat.xor_self, Nat.zero_xor] at this
    exact this.symm
  rw [show 8 * l.length = k + (8 * l.length - k) by omega, it_add, Nat.mul_comm m, it_shift] at hz
  exact it_ne _ hm h0 hz
end Go.Proofs.Ytmlphabhldahlaa.Crc
