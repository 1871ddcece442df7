/- What the frames' functions come to, in plain numbers and lists. -/
import Derived.Test.YtmlphabhldahlaaPFkx13
import Derived.Test.YtmlphabhldahlaaPFkx14
import Derived.Test.YtmlphabhldahlaaCrcLaws
import Derived.KernelRfl
namespace Go.Proofs.Ytmlphabhldahlaa.Fr
open Go.RowKit Go.Proofs.Ytmlphabhldahlaa.PFk Go.Proofs.YtmlphabhldahlaaW.PrintWords Go.Proofs.YtmlphabhldahlaaW.PrintLast
theorem w64 {x : Int} (h : -9223372036854775808 ≤ x ∧ x ≤ 9223372036854775807) : wrap64 x = x := by unfold wrap64; omega
theorem bind_of {α β : Type} {o : Option α} {a : α} {f : α → Option β} (h : o = some a) : o.bind f = f a := by rw [h]; rfl
theorem w64n {n : Nat} (h : n < 140737488355328) : wrap64 ((n : Int) + 1) = ((n + 1 : Nat) : Int) := by rw [w64 (by omega)]; rfl
theorem upd_eq (a : Int) (l : List Int) : rollbacknetref09_Update.f a l = crc_Update.f a l := rfl
theorem upd_some {a : Int} {l : List Int} (h0 : 0 ≤ a) (h1 : a < 4294967296) (hl : Crc.Bytes l) : crc_Update.f a l = some (Crc.upd a l) ∧ 0 ≤ Crc.upd a l ∧ Crc.upd a l < 4294967296 := by
  exact ⟨if_pos ⟨h0, h1, hl⟩, Crc.upd_range h0 h1 hl⟩
theorem le_bytes (v : Int) : Crc.Bytes (frame_Seal.le v) := by
  intro y hy
  simp only [frame_Seal.le, List.mem_cons, List.not_mem_nil, or_false] at hy
  omega
/-- The eight bytes ahead of a body. -/
def hd (y : List Int) : List Int := frame_Seal.le (y.length : Int) ++ frame_Seal.le (Crc.upd (Crc.upd 0 (frame_Seal.le (y.length : Int))) y)
theorem hd_length (y : List Int) : (hd y).length = 8 := rfl
theorem hd_bytes (y : List Int) : Crc.Bytes (hd y) := (le_bytes _).append (le_bytes _)
theorem of_le (n : Int) : crc_Of.f (frame_Seal.le n) = some (Crc.upd 0 (frame_Seal.le n)) ∧ 0 ≤ Crc.upd 0 (frame_Seal.le n) ∧ Crc.upd 0 (frame_Seal.le n) < 4294967296 := by
  obtain ⟨h1, h2⟩ := upd_some (a := 0) (l := frame_Seal.le n) (by omega) (by omega) (le_bytes _)
  refine ⟨?_, h2⟩
  unfold crc_Of.f
  rw [bind_of h1]
theorem head_eq {y : List Int} (hy : Crc.Bytes y) : rollbacknetref11_head.f y = some (hd y) := by
  obtain ⟨a1, a2, a3⟩ := of_le (y.length : Int)
  obtain ⟨b1, _⟩ := upd_some a2 a3 hy
  have ho2 : rollbacknetref09_Of.f (frame_Seal.le (y.length : Int)) = some (Crc.upd 0 (frame_Seal.le (y.length : Int))) := a1
  unfold rollbacknetref11_head.f
  refine (bind_of rfl).trans ((bind_of ho2).trans ((bind_of (show rollbacknetref09_Update.f _ y = some _ from b1)).trans ((bind_of rfl).trans ((if_pos ?_).trans rfl))))
  show 4 + 4 < 140737488355328
  decide
theorem or_comm (k : IntKind) (a b : Int) : Go.bits .or k a b = Go.bits .or k b a := by
  simp only [Go.bits, BitVec.or_comm]
theorem wraps_u32 (n : Int) (h0 : 0 ≤ n) (h1 : n < 2 ^ 32) : IntKind.u32.wrap n = n := by rw [IntKind.wrap_u32]; omega
theorem wraps_i64 (n : Int) (h0 : 0 ≤ n) (h1 : n < 2 ^ 40) : IntKind.i64.wrap n = n := by rw [IntKind.wrap_i64]; omega
theorem or4_u32 {a b c d : Int} (ha : 0 ≤ a ∧ a < 256) (hb : 0 ≤ b ∧ b < 256) (hc : 0 ≤ c ∧ c < 256) (hd : 0 ≤ d ∧ d < 256) :
    Go.bits .or .u32 (Go.bits .or .u32 (Go.bits .or .u32 (a % 4294967296) (((b % 4294967296) * 256) % 4294967296)) (((c % 4294967296) * 65536) % 4294967296)) (((d % 4294967296) * 16777216) % 4294967296) = a + b * 256 + c * 65536 + d * 16777216 := by
  rw [show a % 4294967296 = a by omega, show ((b % 4294967296) * 256) % 4294967296 = b * 256 by omega, show ((c % 4294967296) * 65536) % 4294967296 = c * 65536 by omega, show ((d % 4294967296) * 16777216) % 4294967296 = d * 16777216 by omega]
  rw [or_comm .u32 a, bits_join .u32 32 (by decide) wraps_u32 8 (b * 256) a (by omega) (by omega) (by omega) (by omega) (by omega) (by omega)]
  rw [or_comm .u32 (b * 256 + a), bits_join .u32 32 (by decide) wraps_u32 16 (c * 65536) _ (by omega) (by omega) (by omega) (by omega) (by omega) (by omega)]
  rw [or_comm .u32 (c * 65536 + _), bits_join .u32 32 (by decide) wraps_u32 24 (d * 16777216) _ (by omega) (by omega) (by omega) (by omega) (by omega) (by omega)]
  omega
theorem or4_i64 {a b c d : Int} (ha : 0 ≤ a ∧ a < 256) (hb : 0 ≤ b ∧ b < 256) (hc : 0 ≤ c ∧ c < 256) (hd : 0 ≤ d ∧ d < 256) :
    Go.bits .or .i64 (Go.bits .or .i64 (Go.bits .or .i64 (wrap64 a) (wrap64 (wrap64 b * 256))) (wrap64 (wrap64 c * 65536))) (wrap64 (wrap64 d * 16777216)) = a + b * 256 + c * 65536 + d * 16777216 := by
  rw [w64 (x := a) (by omega), w64 (x := b) (by omega), w64 (x := c) (by omega), w64 (x := d) (by omega), w64 (x := b * 256) (by omega), w64 (x := c * 65536) (by omega), w64 (x := d * 16777216) (by omega)]
  rw [or_comm .i64 a, bits_join .i64 40 (by decide) wraps_i64 8 (b * 256) a (by omega) (by omega) (by omega) (by omega) (by omega) (by omega)]
  rw [or_comm .i64 (b * 256 + a), bits_join .i64 40 (by decide) wraps_i64 16 (c * 65536) _ (by omega) (by omega) (by omega) (by omega) (by omega) (by omega)]
  rw [or_comm .i64 (c * 65536 + _), bits_join .i64 40 (by decide) wraps_i64 24 (d * 16777216) _ (by omega) (by omega) (by omega) (by omega) (by omega) (by omega)]
  omega
theorem getD_byte {b : List Int} (hb : Crc.Bytes b) (j : Nat) : 0 ≤ b.getD j 0 ∧ b.getD j 0 < 256 := by
  rw [List.getD_eq_getElem?_getD]
  by_cases h : j < b.length
  · rw [List.getElem?_eq_getElem h]
    exact hb _ (List.getElem_mem h)
  · rw [List.getElem?_eq_none (by omega)]
    simp
/-- The number that four bytes tell. -/
def num (b : List Int) (p : Nat) : Nat := (b.getD p 0 + b.getD (p + 1) 0 * 256 + b.getD (p + 2) 0 * 65536 + b.getD (p + 3) 0 * 16777216).toNat
theorem num_eq {b : List Int} (hb : Crc.Bytes b) (p : Nat) : b.getD p 0 + b.getD (p + 1) 0 * 256 + b.getD (p + 2) 0 * 65536 + b.getD (p + 3) 0 * 16777216 = (num b p : Int) := by
  have := getD_byte hb p
  have := getD_byte hb (p + 1)
  have := getD_byte hb (p + 2)
  have := getD_byte hb (p + 3)
  unfold num
  omega
theorem num_lt {b : List Int} (hb : Crc.Bytes b) (p : Nat) : num b p < 4294967296 := by
  have := getD_byte hb p
  have := getD_byte hb (p + 1)
  have := getD_byte hb (p + 2)
  have := getD_byte hb (p + 3)
  unfold num
  omega
/-- The body that a frame at p tells of. -/
def bod (b : List Int) (p : Nat) : List Int := (b.take (p + 8 + num b p)).drop (p + 8)
theorem bod_length {b : List Int} {p : Nat} (h : p + 8 + num b p ≤ b.length) : (bod b p).length = num b p := by
  rw [bod, List.length_drop, List.length_take]
  omega
theorem bod_bytes {b : List Int} (hb : Crc.Bytes b) (p : Nat) : Crc.Bytes (bod b p) := (hb.take _).drop _
/-- What stands at an offset within the bytes. -/
def nx (b : List Int) (p : Nat) : List Int × Int × Int :=
  if p = b.length then ([], 0, 11) else if b.length < p + 8 then ([], 0, 8) else if 4096 < num b p then ([], 0, 5) else if b.length < p + 8 + num b p then ([], 0, 8)
  else if hd (bod b p) = (b.drop p).take 8 then (bod b p, ((p + 8 + num b p : Nat) : Int), 0) else ([], 0, 10)
/-- What stands at any offset. -/
def nextS (b : List Int) (q : Int) : List Int × Int × Int := if q < 0 ∨ (b.length : Int) < q then ([], 0, 3) else nx b q.toNat
theorem number_eq {b : List Int} (hb : Crc.Bytes b) {p : Nat} (h : p + 8 ≤ b.length) : frame_number.f (b.drop p) = some (num b p : Int) := by
  have hl : (b.drop p).length = b.length - p := List.length_drop ..
  have hr : ∀ j : Nat, rd (b.drop p) (j : Int) = b.getD (p + j) 0 := fun j => by simp [rd, List.getD_eq_getElem?_getD, List.getElem?_drop]
  unfold frame_number.f
  rw [hl, if_pos (by omega), if_pos (by omega), if_pos (by omega), if_pos (by omega)]
  rw [show rd (b.drop p) 0 = b.getD p 0 from hr 0, show rd (b.drop p) 1 = b.getD (p + 1) 0 from hr 1, show rd (b.drop p) 2 = b.getD (p + 2) 0 from hr 2, show rd (b.drop p) 3 = b.getD (p + 3) 0 from hr 3]
  rw [or4_u32 (getD_byte hb _) (getD_byte hb _) (getD_byte hb _) (getD_byte hb _), num_eq hb]
theorem next_in {b : List Int} (hb : Crc.Bytes b) (hl : b.length ≤ 1099511627776) {p : Nat} (hp : p ≤ b.length) (k : Nat) : frame_Next.j0 (k + 1) b (p : Int) false = some (nx b p) := by
  simp only [frame_Next.j0]
  rw [if_neg Bool.false_ne_true]
  unfold nx
  by_cases h1 : p = b.length
  · rw [if_pos (by omega), if_pos h1]
  rw [if_neg (by omega), if_neg h1, w64 (x := (b.length : Int) - p) (by omega)]
  by_cases h2 : b.length < p + 8
  · rw [if_pos (by omega), if_pos h2]
  rw [if_neg (by omega), if_neg h2, if_pos (by omega), if_pos (by omega), Int.toNat_natCast, bind_of (number_eq hb (by omega))]
  by_cases h3 : 4096 < num b p
  · rw [if_pos (by omega), if_pos h3]
  rw [if_neg (by omega), if_neg h3, w64 (x := (b.length : Int) - p - 8) (by omega), w64 (x := (num b p : Int)) (by omega)]
  by_cases h4 : b.length < p + 8 + num b p
  · rw [if_pos (by omega), if_pos h4]
  rw [if_neg (by omega), if_neg h4, w64 (x := (p : Int) + 8) (by omega), w64 (x := (p : Int) + 8 + (num b p : Int)) (by omega), if_pos (by omega), if_pos (by omega), if_pos (by omega)]
  rw [show ((p : Int) + 8 + (num b p : Int)).toNat = p + 8 + num b p by omega, show ((p : Int) + 8).toNat = p + 8 by omega]
  show frame_Next.tail b (p : Int) (bod b p) = _
  have hy := bod_length (b := b) (p := p) (by omega)
  have hyb := bod_bytes hb p
  obtain ⟨a1, a2, a3⟩ := of_le ((bod b p).length : Int)
  obtain ⟨b1, b2, b3⟩ := upd_some a2 a3 hyb
  unfold frame_Next.tail
  rw [if_pos ⟨by omega, by omega, by omega⟩, bind_of a1, bind_of b1, if_pos ⟨b2, b3⟩, Int.toNat_natCast]
  by_cases h5 : hd (bod b p) = (b.drop p).take 8
  · rw [if_pos h5, if_pos (show frame_Seal.le ((bod b p).length : Int) ++ frame_Seal.le (Crc.upd (Crc.upd 0 (frame_Seal.le ((bod b p).length : Int))) (bod b p)) = _ from h5), hy]
    rfl
  · rw [if_neg h5, if_neg (show ¬ frame_Seal.le ((bod b p).length : Int) ++ frame_Seal.le (Crc.upd (Crc.upd 0 (frame_Seal.le ((bod b p).length : Int))) (bod b p)) = _ from h5)]
theorem next_eq {b : List Int} (hb : Crc.Bytes b) (hl : b.length ≤ 1099511627776) (q : Int) {k : Nat} (hk : 1 ≤ k) : frame_Next.f k b q = some (nextS b q) := by
  obtain ⟨k, rfl⟩ : ∃ m, k = m + 1 := ⟨k - 1, by omega⟩
  unfold frame_Next.f nextS
  by_cases h0 : q < 0
  · rw [if_pos h0, if_pos (.inl h0)]
    simp only [frame_Next.j0]
    rw [if_pos trivial]
  · rw [if_neg h0]
    by_cases h1 : (b.length : Int) < q
    · rw [if_pos (.inr h1), decide_eq_true (show q > (b.length : Int) from h1)]
      simp only [frame_Next.j0]
      rw [if_pos trivial]
    · obtain ⟨p, rfl⟩ := Int.eq_ofNat_of_zero_le (show 0 ≤ q by omega)
      rw [if_neg (by omega), decide_eq_false (show ¬ (p : Int) > (b.length : Int) from h1), Int.toNat_natCast]
      exact next_in hb hl (by omega) k
theorem cmp_l0 {b h : List Int} {p : Nat} (hp : p + 8 ≤ b.length) (hh : h.length = 8) (hl : b.length ≤ 1099511627776) (n : Int) (y : List Int) (hy : y.length ≤ 1099511627776) :
    ∀ (d i k : Nat), 8 - i ≤ d → d < k → i ≤ 8 → rollbacknetref11_Next.l0 k b (p : Int) n y h (i : Int) = if h.drop i = (b.drop (p + i)).take (8 - i) then some (y, wrap64 (wrap64 ((p : Int) + 8) + n), 0) else some ([], 0, 10) := by
  intro d
  induction d with
  | zero =>
    intro i k h1 h2 h3
    obtain ⟨k, rfl⟩ : ∃ m, k = m + 1 := ⟨k - 1, by omega⟩
    obtain rfl : i = 8 := by omega
    simp only [rollbacknetref11_Next.l0]
    rw [if_neg (by omega), if_pos (by simp; omega), List.drop_eq_nil_of_le (by omega), List.take_zero, if_pos rfl, List.nil_append]
  | succ d ih =>
    intro i k h1 h2 h3
    by_cases h8 : i = 8
    · exact ih i k (by omega) (by omega) h3
    obtain ⟨k, rfl⟩ : ∃ m, k = m + 1 := ⟨k - 1, by omega⟩
    simp only [rollbacknetref11_Next.l0]
    have e1 : h.drop i = h[i]'(by omega) :: h.drop (i + 1) := List.drop_eq_getElem_cons (by omega)
    have e2 : (b.drop (p + i)).take (8 - i) = b[p + i]'(by omega) :: (b.drop (p + (i + 1))).take (8 - (i + 1)) := by
      rw [List.drop_eq_getElem_cons (by omega), show 8 - i = (8 - (i + 1)) + 1 by omega, List.take_succ_cons]
      rfl
    have r1 : rd h (i : Int) = h[i]'(by omega) := by simp [rd, List.getD_eq_getElem?_getD, List.getElem?_eq_getElem (show i < h.length by omega)]
    have r2 : rd b ((p : Int) + i) = b[p + i]'(by omega) := by
      rw [show (p : Int) + i = ((p + i : Nat) : Int) by omega, rd, Int.toNat_natCast, List.getD_eq_getElem?_getD, List.getElem?_eq_getElem (show p + i < b.length by omega)]
      rfl
    rw [if_pos (by omega), if_pos (by omega), if_pos (by omega), w64 (x := (p : Int) + i) (by omega), if_pos (by omega), if_pos (by omega), r1, r2, e1, e2]
    by_cases hc : h[i]'(by omega) = b[p + i]'(by omega)
    · rw [if_pos hc, w64n (by omega), ih (i + 1) k (by omega) (by omega) (by omega), hc]
      simp only [List.cons.injEq, true_and]
    · rw [if_neg hc, if_neg (fun h_ => hc (List.cons.inj h_).1)]
theorem ref_in {b : List Int} (hb : Crc.Bytes b) (hl : b.length ≤ 1099511627776) {p : Nat} (hp : p ≤ b.length) (k : Nat) (hk : 10 ≤ k) : rollbacknetref11_Next.j0 (k + 1) b (p : Int) false = some (nx b p) := by
  simp only [rollbacknetref11_Next.j0]
  rw [if_neg Bool.false_ne_true]
  unfold nx
  by_cases h1 : p = b.length
  · rw [if_pos (by omega), if_pos h1]
  rw [if_neg (by omega), if_neg h1, w64 (x := (b.length : Int) - p) (by omega)]
  by_cases h2 : b.length < p + 8
  · rw [if_pos (by omega), if_pos h2]
  have hr : ∀ j : Nat, rd b ((p : Int) + (j : Int)) = b.getD (p + j) 0 := fun j => by unfold rd; rw [show ((p : Int) + (j : Int)).toNat = p + j by omega]
  have hnum : Go.bits .or .i64 (Go.bits .or .i64 (Go.bits .or .i64 (wrap64 (rd b (p : Int))) (wrap64 (wrap64 (rd b ((p : Int) + 1)) * 256))) (wrap64 (wrap64 (rd b ((p : Int) + 2)) * 65536))) (wrap64 (wrap64 (rd b ((p : Int) + 3)) * 16777216)) = (num b p : Int) := by
    rw [show rd b (p : Int) = b.getD p 0 from by unfold rd; rw [Int.toNat_natCast], show rd b ((p : Int) + 1) = b.getD (p + 1) 0 from hr 1, show rd b ((p : Int) + 2) = b.getD (p + 2) 0 from hr 2, show rd b ((p : Int) + 3) = b.getD (p + 3) 0 from hr 3]
    rw [or4_i64 (getD_byte hb _) (getD_byte hb _) (getD_byte hb _) (getD_byte hb _), num_eq hb]
  rw [if_neg (by omega), if_neg h2, if_pos (by omega), if_pos (by omega), w64 (x := (p : Int) + 1) (by omega), w64 (x := (p : Int) + 2) (by omega), w64 (x := (p : Int) + 3) (by omega), if_pos (by omega), if_pos (by omega), if_pos (by omega), if_pos (by omega), if_pos (by omega), if_pos (by omega), hnum]
  by_cases h3 : 4096 < num b p
  · rw [if_pos (by omega), if_pos h3]
  rw [if_neg (by omega), if_neg h3, w64 (x := (b.length : Int) - p - 8) (by omega)]
  by_cases h4 : b.length < p + 8 + num b p
  · rw [if_pos (by omega), if_pos h4]
  rw [if_neg (by omega), if_neg h4, w64 (x := (p : Int) + 8) (by omega), w64 (x := (p : Int) + 8 + (num b p : Int)) (by omega), if_pos (by omega), if_pos (by omega), if_pos (by omega)]
  rw [show ((p : Int) + 8 + (num b p : Int)).toNat = p + 8 + num b p by omega, show ((p : Int) + 8).toNat = p + 8 by omega]
  show (rollbacknetref11_head.f (bod b p)).bind (fun t => rollbacknetref11_Next.l0 k b (p : Int) (num b p : Int) (bod b p) t 0) = _
  have hy := bod_length (b := b) (p := p) (by omega)
  rw [bind_of (head_eq (bod_bytes hb p))]
  have := cmp_l0 (b := b) (h := hd (bod b p)) (p := p) (by omega) (hd_length _) hl (num b p : Int) (bod b p) (by omega) 8 0 k (by omega) (by omega) (by omega)
  rw [show ((0 : Nat) : Int) = 0 from rfl] at this
  rw [this, List.drop_zero, Nat.add_zero, Nat.sub_zero, w64 (x := (p : Int) + 8) (by omega), w64 (by omega)]
  by_cases h5 : hd (bod b p) = (b.drop p).take 8
  · rw [if_pos h5, if_pos h5]
    rfl
  · rw [if_neg h5, if_neg h5]
theorem ref_eq {b : List Int} (hb : Crc.Bytes b) (hl : b.length ≤ 1099511627776) (q : Int) {k : Nat} (hk : 11 ≤ k) : rollbacknetref11_Next.f k b q = some (nextS b q) := by
  obtain ⟨k, rfl⟩ : ∃ m, k = m + 1 := ⟨k - 1, by omega⟩
  unfold rollbacknetref11_Next.f nextS
  by_cases h0 : q < 0
  · rw [if_pos h0, if_pos (.inl h0)]
    simp only [rollbacknetref11_Next.j0]
    rw [if_pos trivial]
  · rw [if_neg h0]
    by_cases h1 : (b.length : Int) < q
    · rw [if_pos (.inr h1), decide_eq_true (show q > (b.length : Int) from h1)]
      simp only [rollbacknetref11_Next.j0]
      rw [if_pos trivial]
    · obtain ⟨p, rfl⟩ := Int.eq_ofNat_of_zero_le (show 0 ≤ q by omega)
      rw [if_neg (by omega), decide_eq_false (show ¬ (p : Int) > (b.length : Int) from h1), Int.toNat_natCast]
      exact ref_in hb hl (by omega) k (by omega)
theorem seal_eq {l : List Int} (hl : Crc.Bytes l) (hs : l.length ≤ 4096) : frame_Seal.f l = some (hd l ++ l, 0) := by
  obtain ⟨a1, a2, a3⟩ := of_le (l.length : Int)
  obtain ⟨b1, b2, b3⟩ := upd_some a2 a3 hl
  unfold frame_Seal.f
  rw [if_neg (by omega), bind_of a1, bind_of b1, if_pos ⟨b2, b3⟩]
  rfl
end Go.Proofs.Ytmlphabhldahlaa.Fr
