/- The checksum of the exclusive or of three lists of one length is that of their checksums (CrcXors; no condition). -/
import Derived.Test.YtpcfgpghfegjkaaPCrg
import Derived.Test.YtpcfgpghfegjkaaCrcLaws
namespace Go.Proofs.Ytpcfgpghfegjkaa.Pure
open Go.RowKit Go.Proofs.Ytpcfgpghfegjkaa.PCr Go.Proofs.YtpcfgpghfegjkaaW.PrintWords Go.Proofs.YtpcfgpghfegjkaaW.PrintLast Go.Proofs.YtpcfgpghfegjkaaW.PrintMore Go.Proofs.Ytpcfgpghfegjkaa.Crc
-- what the makers of inputs give
theorem w64 {x : Int} (h : -9223372036854775808 ≤ x ∧ x ≤ 9223372036854775807) : wrap64 x = x := by unfold wrap64; omega

theorem rd_mem {l : List Int} {i : Int} (h0 : 0 ≤ i) (h1 : i < (l.length : Int)) : rd l i ∈ l := by
  unfold rd
  rw [List.getD_eq_getElem?_getD, List.getElem?_eq_getElem (by omega)]
  simp

theorem wf_u8 {x : Int} (h : (Lit.int .u8 x).wf = true) : 0 ≤ x ∧ x < 256 := by
  simp [Lit.wf, IntKind.min, IntKind.max, IntKind.bits, IntKind.signed] at h
  omega
theorem wf_i64 {x : Int} (h : (Lit.int .i64 x).wf = true) : -9223372036854775808 ≤ x ∧ x ≤ 9223372036854775807 := by
  simp [Lit.wf, IntKind.min, IntKind.max, IntKind.bits, IntKind.signed] at h
  omega
theorem bind_of {α β : Type} {o : Option α} {a : α} {f : α → Option β} (h : o = some a) : o.bind f = f a := by rw [h]; rfl
theorem wf_u32 {x : Int} (h : (Lit.int .u32 x).wf = true) : 0 ≤ x ∧ x < 4294967296 := by
  simp [Lit.wf, IntKind.min, IntKind.max, IntKind.bits, IntKind.signed] at h
  omega
theorem of_f {l : List Int} (h : Bytes l) : crc_Of.f l = some (upd 0 l) := by
  unfold crc_Of.f crc_Update.f
  rw [if_pos ⟨by decide, by decide, h⟩]
  rfl

/-- One byte of the exclusive or. -/
def X (a b c : List Int) (i : Nat) : Int := Go.bits .xor .u8 (Go.bits .xor .u8 (rd a i) (rd b i)) (rd c i)
def Xs (a b c : List Int) (i n : Nat) : List Int := (List.range i).map (X a b c) ++ List.replicate (n - i) 0
theorem Xs_length (a b c : List Int) {i n : Nat} (h : i ≤ n) : (Xs a b c i n).length = n := by simp [Xs]; omega
theorem Xs_set (a b c : List Int) {i n : Nat} (h : i < n) : (Xs a b c i n).set i (X a b c i) = Xs a b c (i + 1) n := by
  unfold Xs
  rw [List.set_append_right _ _ (by simp), List.range_succ, List.map_append, List.append_assoc]
  congr 1
  simp only [List.length_map, List.length_range, Nat.sub_self, List.map_cons, List.map_nil, List.singleton_append]
  rw [show n - i = (n - (i + 1)) + 1 by omega, List.replicate_succ, List.set_cons_zero]

theorem x3_range : ∀ (l m k : List Int), l.length = m.length → l.length = k.length → Bytes l → Bytes m → Bytes k →
    ((List.range l.length).map (X l m k)).map Int.toNat = x3 (l.map Int.toNat) (m.map Int.toNat) (k.map Int.toNat) ∧ Bytes ((List.range l.length).map (X l m k)) := by
  intro l
  induction l with
  | nil =>
    intro m k h1 h2 _ _ _
    obtain rfl : m = [] := List.length_eq_zero_iff.1 h1.symm
    obtain rfl : k = [] := List.length_eq_zero_iff.1 h2.symm
    exact ⟨rfl, Bytes.nil⟩
  | cons a l ih =>
    intro m k h1 h2 b1 b2 b3
    obtain ⟨b, m, rfl⟩ : ∃ b m', m = b :: m' := by cases m with | nil => simp at h1 | cons b m => exact ⟨b, m, rfl⟩
    obtain ⟨c, k, rfl⟩ : ∃ c n', k = c :: n' := by cases k with | nil => simp at h2 | cons c n => exact ⟨c, n, rfl⟩
    obtain ⟨g1, g2⟩ := ih m k (by simpa using h1) (by simpa using h2) (fun x hx => b1 x (by simp [hx])) (fun x hx => b2 x (by simp [hx])) (fun x hx => b3 x (by simp [hx]))
    have ha := b1 a (by simp)
    have hb := b2 b (by simp)
    have hc := b3 c (by simp)
    have hx : X (a :: l) (b :: m) (c :: k) 0 = ((a.toNat ^^^ b.toNat ^^^ c.toNat : Nat) : Int) := by
      unfold X
      show Go.bits .xor .u8 (Go.bits .xor .u8 a b) c = _
      obtain ⟨a, rfl⟩ := Int.eq_ofNat_of_zero_le ha.1
      obtain ⟨b, rfl⟩ := Int.eq_ofNat_of_zero_le hb.1
      obtain ⟨c, rfl⟩ := Int.eq_ofNat_of_zero_le hc.1
      rw [xor_u8 a b (by omega) (by omega), xor_u8 _ c (xor_lt (by omega) (by omega)) (by omega)]
      rfl
    have hs : ∀ i, X (a :: l) (b :: m) (c :: k) (i + 1) = X l m k i := by
      intro i
      simp [X, rd]
    have hr : (List.range (a :: l).length).map (X (a :: l) (b :: m) (c :: k)) = ((a.toNat ^^^ b.toNat ^^^ c.toNat : Nat) : Int) :: (List.range l.length).map (X l m k) := by
      rw [List.length_cons, List.range_succ_eq_map, List.map_cons, hx, List.map_map]
      exact congrArg (fun z => _ :: z) (List.map_congr_left (fun i _ => hs i))
    rw [hr]
    refine ⟨?_, ?_⟩
    · simp only [List.map_cons, x3, Int.toNat_natCast, g1]
    · intro x hx
      rcases List.mem_cons.1 hx with rfl | hx
      · have := xor_lt (xor_lt (a := a.toNat) (b := b.toNat) (by omega) (by omega)) (b := c.toNat) (by omega)
        omega
      · exact g2 x hx

theorem X_take {a b c : List Int} {n i : Nat} (h : i < n) (ha : n ≤ a.length) (hb : n ≤ b.length) (hc : n ≤ c.length) : X (a.take n) (b.take n) (c.take n) i = X a b c i := by
  have e : ∀ l : List Int, n ≤ l.length → rd (l.take n) (i : Int) = rd l (i : Int) := by
    intro l hl
    simp [rd, List.getD_eq_getElem?_getD, h]
  unfold X
  rw [e a ha, e b hb, e c hc]

theorem xors_l0 (a b c : List Int) (n : Nat) (ha : n ≤ a.length) (hb : n ≤ b.length) (hc : n ≤ c.length) (hn : n ≤ 1000) (b1 : Bytes a) (b2 : Bytes b) (b3 : Bytes c) : ∀ (d i k : Nat), n - i ≤ d → d < k → i ≤ n →
    rollbacknetlaw09_CrcXors.l0 k a b c (n : Int) (Xs a b c i n) (n : Int) (i : Int) = some true := by
  intro d
  induction d with
  | zero =>
    intro i k h hk hi
    obtain ⟨k, rfl⟩ : ∃ m, k = m + 1 := ⟨k - 1, by omega⟩
    obtain rfl : i = n := by omega
    simp only [rollbacknetlaw09_CrcXors.l0]
    have la : (a.take i).length = i := by simp; omega
    have lb : (b.take i).length = i := by simp; omega
    have lc : (c.take i).length = i := by simp; omega
    obtain ⟨g1, g2⟩ := x3_range (a.take i) (b.take i) (c.take i) (by rw [la, lb]) (by rw [la, lc]) (b1.take i) (b2.take i) (b3.take i)
    have hX : Xs a b c i i = (List.range (a.take i).length).map (X (a.take i) (b.take i) (c.take i)) := by
      unfold Xs
      rw [la, Nat.sub_self, List.replicate_zero, List.append_nil]
      exact List.map_congr_left (fun j hj => (X_take (List.mem_range.1 hj) ha hb hc).symm)
    have hni : ((i : Int)).toNat = i := by omega
    rw [if_neg (by omega), hX, bind_of (of_f g2), if_pos (by omega), if_pos (by omega), hni, bind_of (of_f (b1.take i)), if_pos (by omega), bind_of (of_f (b2.take i)), if_pos (by omega), bind_of (of_f (b3.take i))]
    have key : ∀ l : List Int, upd 0 l = ((run 4294967295 (l.map Int.toNat) ^^^ 4294967295 : Nat) : Int) := fun l => rfl
    have hff : ∀ l : List Int, Bytes l → run 4294967295 (l.map Int.toNat) < 2 ^ 32 := fun l hl => run_lt _ ff_lt hl.map
    have fa := hff _ (b1.take i)
    have fb := hff _ (b2.take i)
    have fc := hff _ (b3.take i)
    rw [key, key, key, key, g1, xor_u32 _ _ (Nat.xor_lt_two_pow fa ff_lt) (Nat.xor_lt_two_pow fb ff_lt), xor_u32 _ _ (Nat.xor_lt_two_pow (Nat.xor_lt_two_pow fa ff_lt) (Nat.xor_lt_two_pow fb ff_lt)) (Nat.xor_lt_two_pow fc ff_lt)]
    have h3 := run_x3 ((a.take i).map Int.toNat) ((b.take i).map Int.toNat) ((c.take i).map Int.toNat) 4294967295 4294967295 4294967295 (by simp only [List.length_map]; rw [la, lb]) (by simp only [List.length_map]; rw [la, lc])
    have hff3 : (4294967295 : Nat) ^^^ 4294967295 ^^^ 4294967295 = 4294967295 := by decide
    rw [hff3] at h3
    rw [h3, ← mix, hff3]
    simp
  | succ d ih =>
    intro i k h hk hi
    obtain ⟨k, rfl⟩ : ∃ m, k = m + 1 := ⟨k - 1, by omega⟩
    by_cases hlt : i < n
    · simp only [rollbacknetlaw09_CrcXors.l0]
      have hl := Xs_length a b c hi
      have hi2 : ((i : Int)).toNat = i := by omega
      rw [if_pos (by omega), if_pos (by omega), if_pos (by omega), if_pos (by omega), if_pos (by omega), if_pos (by omega), w64 (by omega), hi2]
      have hset := Xs_set a b c hlt
      unfold X at hset
      rw [hset]
      exact ih (i + 1) k (by omega) (by omega) (by omega)
    · obtain rfl : i = n := by omega
      exact ih i (k + 1) (by omega) (by omega) (by omega)

theorem CrcXors : rollbacknetlaw09_CrcXors.Pure := by
  intro a b c _ _ ha _ _ hb _ _ hc
  have b1 : Bytes a := fun x hx => wf_u8 (ha x hx)
  have b2 : Bytes b := fun x hx => wf_u8 (hb x hx)
  have b3 : Bytes c := fun x hx => wf_u8 (hc x hx)
  obtain ⟨K, hK⟩ : ∃ K : Nat, 2000 ≤ K := ⟨2000, by omega⟩
  refine ⟨K, ?_⟩
  unfold rollbacknetlaw09_CrcXors.f
  rw [bind_of (show rollbacknetlaw09_awake.f = some true from rfl), if_pos rfl]
  obtain ⟨n, hn, hna, hnb, hnc⟩ : ∃ n : Nat, mn (mn (a.length : Int) (b.length : Int)) (c.length : Int) = (n : Int) ∧ n ≤ a.length ∧ n ≤ b.length ∧ n ≤ c.length := by
    unfold mn
    by_cases h1 : (b.length : Int) < (a.length : Int)
    · rw [if_pos h1]
      by_cases h2 : (c.length : Int) < (b.length : Int)
      · rw [if_pos h2]; exact ⟨c.length, rfl, by omega, by omega, by omega⟩
      · rw [if_neg h2]; exact ⟨b.length, rfl, by omega, by omega, by omega⟩
    · rw [if_neg h1]
      by_cases h2 : (c.length : Int) < (a.length : Int)
      · rw [if_pos h2]; exact ⟨c.length, rfl, by omega, by omega, by omega⟩
      · rw [if_neg h2]; exact ⟨a.length, rfl, by omega, by omega, by omega⟩
  rw [hn]
  by_cases h : (n : Int) > 1000
  · rw [if_pos h]
  · have hi2 : ((n : Int)).toNat = n := by omega
    rw [if_neg h, if_pos (by omega), hi2, if_pos (by omega)]
    have hX : Xs a b c 0 n = List.replicate n 0 := by simp [Xs]
    rw [bind_of rfl, List.length_replicate, ← hX]
    exact xors_l0 a b c n hna hnb hnc (by omega) b1 b2 b3 n 0 K (by omega) (by omega) (by omega)
end Go.Proofs.Ytpcfgpghfegjkaa.Pure
