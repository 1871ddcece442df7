/- What the makers of frames' inputs give. -/
import Derived.Test.YtmlphabhldahlaaFrLib
import Derived.Test.YtmlphabhldahlaaPFkx11
import Derived.Test.YtmlphabhldahlaaPFkx8
import Derived.Test.YtmlphabhldahlaaPFkx15
import Derived.Test.YtmlphabhldahlaaPFkx5
namespace Go.Proofs.Ytmlphabhldahlaa.Fr
open Go.RowKit Go.Proofs.Ytmlphabhldahlaa.PFk Go.Proofs.YtmlphabhldahlaaW.PrintWords Go.Proofs.YtmlphabhldahlaaW.PrintLast
theorem rd_mem {l : List Int} {i : Int} (h0 : 0 ≤ i) (h1 : i < (l.length : Int)) : rd l i ∈ l := by
  unfold rd
  rw [List.getD_eq_getElem?_getD, List.getElem?_eq_getElem (by omega)]
  simp
theorem wf_u8 {x : Int} (h : (Lit.int .u8 x).wf = true) : 0 ≤ x ∧ x < 256 := by
  simp [Lit.wf, IntKind.min, IntKind.max, IntKind.bits, IntKind.signed] at h
  omega
theorem wf_i64 {x : Int} (h : (Lit.int .i64 x).wf = true) : -9223372036854775808 ≤ x ∧ x ≤ 9223372036854775807 := by
  simp [Lit.wf, IntKind.min, IntKind.max, IntKind.bits, IntKind.signed] at h
  omega
/-- A state of the choices. -/
structure Ok (l : List Int) (p : Int) : Prop where
  lo : 0 ≤ p
  hi : p ≤ (l.length : Int)
  len : (l.length : Int) ≤ 1000000
  byte : ∀ x ∈ l, 0 ≤ x ∧ x < 256

theorem left_eq (l : List Int) (p : Int) : rollbacknetmake_Codes_Left.f l p = some (decide (p < (l.length : Int)), p) := rfl

theorem next_ok {l : List Int} {p : Int} (h : Ok l p) {n : Int} (h1 : 1 ≤ n) (h2 : n ≤ 256) :
    ∃ r q, rollbacknetmake_Codes_Next.f l p n = some (r, q) ∧ 0 ≤ r ∧ r < n ∧ Ok l q := by
  obtain ⟨a, b, c, d⟩ := h
  unfold rollbacknetmake_Codes_Next.f
  rw [left_eq]
  simp only [Option.bind_some]
  by_cases hl : p < (l.length : Int)
  · have e1 : wrap64 (p + 1) = p + 1 := w64 (by omega)
    have e2 : wrap64 (p + 1 - 1) = p := by rw [w64 (by omega)]; omega
    have hb := d _ (rd_mem a hl)
    rw [if_pos (by simpa using hl), e1, e2, if_pos a, if_pos hl, if_neg (by omega), w64 (by omega)]
    rw [Int.tmod_eq_emod_of_nonneg hb.1]
    exact ⟨_, _, rfl, Int.emod_nonneg _ (by omega), Int.emod_lt_of_pos _ (by omega), by omega, by omega, c, d⟩
  · rw [if_neg (by simpa using hl)]
    exact ⟨_, _, rfl, by omega, by omega, a, b, c, d⟩

theorem new_ok {l : List Int} {m : Int} (hl : ∀ x ∈ l, (Lit.int .u8 x).wf = true) (h0 : 0 ≤ m) (h1 : m ≤ 1000000) :
    ∃ l', rollbacknetmake_New.f l m = some (l', 0) ∧ Ok l' 0 := by
  have hb : ∀ x ∈ l, 0 ≤ x ∧ x < 256 := by
    intro x hx
    exact wf_u8 (hl x hx)
  unfold rollbacknetmake_New.f
  by_cases h : (l.length : Int) > m
  · rw [if_pos h, if_pos h0, if_pos (by omega)]
    refine ⟨_, rfl, by omega, by omega, ?_, fun x hx => hb x (List.mem_of_mem_take hx)⟩
    simp only [List.length_take]
    omega
  · rw [if_neg h]
    exact ⟨_, rfl, by omega, by omega, by omega, hb⟩
theorem mod_ok {x n : Int} (hx : -9223372036854775808 ≤ x ∧ x ≤ 9223372036854775807) (h0 : 0 < n) (h1 : n ≤ 4611686018427387904) :
    rollbacknetmake_Mod.f x n = some (x % n) := by
  unfold rollbacknetmake_Mod.f
  rw [if_neg (by omega)]
  have e := Int.tmod_eq_emod (a := x) (b := n)
  have a := Int.emod_nonneg x (b := n) (by omega)
  have b := Int.emod_lt_of_pos x h0
  by_cases hn : 0 ≤ x
  · rw [Int.tmod_eq_emod_of_nonneg hn, if_neg (by omega)]
  · by_cases hd : n ∣ x
    · rw [Int.tmod_eq_zero_of_dvd hd, if_neg (by omega), Int.emod_eq_zero_of_dvd hd]
    · rw [if_neg (by simp [hd]; omega)] at e
      have hab : (n.natAbs : Int) = n := by omega
      rw [hab] at e
      have hz : x % n ≠ 0 := fun h => hd (Int.dvd_of_emod_eq_zero h)
      rw [if_pos (by omega), w64 (by omega)]
      congr 1
      omega
theorem bytes_l0 {l : List Int} : ∀ (n : Nat) (x : List Int) (p : Int) (k : Nat), Ok l p → Crc.Bytes x → x.length + n ≤ 1000 → n < k →
    ∃ r q, rollbacknetmake_Codes_Bytes.l0 k x (n : Int) l p = some (r, q) ∧ Ok l q ∧ Crc.Bytes r ∧ r.length ≤ x.length + n := by
  intro n
  induction n with
  | zero =>
    intro x p k h hx hl hk
    obtain ⟨k, rfl⟩ : ∃ m, k = m + 1 := ⟨k - 1, by omega⟩
    simp only [rollbacknetmake_Codes_Bytes.l0]
    rw [if_neg (by omega)]
    exact ⟨_, _, rfl, h, hx, by omega⟩
  | succ n ih =>
    intro x p k h hx hl hk
    obtain ⟨k, rfl⟩ : ∃ m, k = m + 1 := ⟨k - 1, by omega⟩
    simp only [rollbacknetmake_Codes_Bytes.l0]
    obtain ⟨r1, q1, e1, a1, b1, h1⟩ := next_ok h (n := 256) (by omega) (by omega)
    rw [if_pos (by omega), bind_of e1, if_pos (by omega), w64 (by omega), show ((n + 1 : Nat) : Int) - 1 = (n : Int) by omega]
    obtain ⟨r, q, e2, h2, h3, h4⟩ := ih (x ++ [r1 % 256]) q1 k h1 (hx.append (fun y hy => by
      obtain rfl := List.mem_singleton.1 hy
      omega)) (by simp; omega) (by omega)
    exact ⟨r, q, e2, h2, h3, by simp at h4; omega⟩
theorem bytes_ok {l : List Int} {p : Int} (h : Ok l p) {m k : Nat} (hm : m ≤ 200) (hk : m < k) :
    ∃ r q, rollbacknetmake_Codes_Bytes.f k l p (m : Int) = some (r, q) ∧ Ok l q ∧ Crc.Bytes r ∧ r.length ≤ m := by
  unfold rollbacknetmake_Codes_Bytes.f
  obtain ⟨r1, q1, e1, a1, b1, h1⟩ := next_ok h (n := (m : Int) + 1) (by omega) (by omega)
  obtain ⟨n, rfl⟩ := Int.eq_ofNat_of_zero_le a1
  rw [w64 (by omega), bind_of e1]
  obtain ⟨r, q, e2, h2, h3, h4⟩ := bytes_l0 n [] q1 k h1 Crc.Bytes.nil (by simp; omega) (by omega)
  exact ⟨r, q, e2, h2, h3, by simp at h4; omega⟩
/-- A list of bodies. -/
def Bodies (x : List (List Int)) : Prop := ∀ y ∈ x, Crc.Bytes y ∧ y.length ≤ 12
theorem bodies_l0 {l : List Int} : ∀ (n : Nat) (x : List (List Int)) (p : Int) (k : Nat), Ok l p → Bodies x → x.length + n ≤ 1000 → n + 20 < k →
    ∃ r, rollbacknetlaw11_bodies.l0 k x (n : Int) l p = some r ∧ Bodies r ∧ r.length ≤ x.length + n := by
  intro n
  induction n with
  | zero =>
    intro x p k h hx hl hk
    obtain ⟨k, rfl⟩ : ∃ m, k = m + 1 := ⟨k - 1, by omega⟩
    simp only [rollbacknetlaw11_bodies.l0]
    rw [if_neg (by omega)]
    exact ⟨_, rfl, hx, by omega⟩
  | succ n ih =>
    intro x p k h hx hl hk
    obtain ⟨k, rfl⟩ : ∃ m, k = m + 1 := ⟨k - 1, by omega⟩
    simp only [rollbacknetlaw11_bodies.l0]
    obtain ⟨r1, q1, e1, h1, h2, h3⟩ := bytes_ok h (m := 12) (k := k) (by omega) (by omega)
    rw [if_pos (by omega), bind_of (show rollbacknetmake_Codes_Bytes.f k l p 12 = some (r1, q1) from e1), if_pos (by omega), w64 (by omega), show ((n + 1 : Nat) : Int) - 1 = (n : Int) by omega]
    obtain ⟨r, e2, h4, h5⟩ := ih (x ++ [r1]) q1 k h1 (fun y hy => by
      rcases List.mem_append.1 hy with hy | hy
      · exact hx y hy
      · obtain rfl := List.mem_singleton.1 hy
        exact ⟨h2, h3⟩) (by simp; omega) (by omega)
    exact ⟨r, e2, h4, by simp at h5; omega⟩
theorem bodies_ok {l : List Int} (hl : ∀ x ∈ l, (Lit.int .u8 x).wf = true) {k : Nat} (hk : 40 ≤ k) : ∃ r, rollbacknetlaw11_bodies.f k l = some r ∧ Bodies r ∧ r.length ≤ 4 := by
  unfold rollbacknetlaw11_bodies.f
  obtain ⟨l', e0, h0⟩ := new_ok (m := 120) hl (by omega) (by omega)
  obtain ⟨r1, q1, e1, a1, b1, h1⟩ := next_ok h0 (n := 5) (by omega) (by omega)
  obtain ⟨n, rfl⟩ := Int.eq_ofNat_of_zero_le a1
  rw [bind_of e0, bind_of e1]
  obtain ⟨r, e2, h2, h3⟩ := bodies_l0 n [] q1 k h1 (fun y hy => by simp at hy) (by simp; omega) (by omega)
  exact ⟨r, e2, h2, by simp at h3; omega⟩
/-- Frames, one behind the other. -/
def seals (x : List (List Int)) : List Int := x.flatMap fun y => hd y ++ y
theorem seals_bytes {x : List (List Int)} (h : Bodies x) : Crc.Bytes (seals x) := by
  intro z hz
  obtain ⟨y, hy, hz⟩ := List.mem_flatMap.1 hz
  rcases List.mem_append.1 hz with hz | hz
  · exact hd_bytes y z hz
  · exact (h y hy).1 z hz
theorem seals_length {x : List (List Int)} (h : Bodies x) : (seals x).length ≤ 20 * x.length := by
  induction x with
  | nil => simp [seals]
  | cons y x ih =>
    have h1 := ih (fun z hz => h z (by simp [hz]))
    have h2 := (h y (by simp)).2
    have h3 : (seals (y :: x)).length = 8 + y.length + (seals x).length := by
      show (List.flatMap (fun y => hd y ++ y) (y :: x)).length = _
      rw [List.flatMap_cons, List.length_append, List.length_append, hd_length]
      rfl
    rw [List.length_cons]
    omega
theorem seal_l0 {x : List (List Int)} (hx : Bodies x) (hn : x.length ≤ 1000) : ∀ (n i k : Nat) (b : List Int), x.length - i ≤ n → n < k → i ≤ x.length → b = seals (x.take i) → rollbacknetlaw11_seal.l0 k x b (x.length : Int) (i : Int) = some (seals x) := by
  intro n
  induction n with
  | zero =>
    intro i k b h1 h2 h3 hb
    obtain ⟨k, rfl⟩ : ∃ m, k = m + 1 := ⟨k - 1, by omega⟩
    simp only [rollbacknetlaw11_seal.l0]
    rw [if_neg (by omega), hb, List.take_of_length_le (by omega)]
  | succ n ih =>
    intro i k b h1 h2 h3 hb
    by_cases he : i = x.length
    · exact ih i k b (by omega) (by omega) h3 hb
    obtain ⟨k, rfl⟩ : ∃ m, k = m + 1 := ⟨k - 1, by omega⟩
    simp only [rollbacknetlaw11_seal.l0]
    have hm := hx _ (List.getElem_mem (show i < x.length by omega))
    have hr : rd_L2 x (i : Int) = x[i]'(by omega) := by simp [rd_L2, List.getD_eq_getElem?_getD, List.getElem?_eq_getElem (show i < x.length by omega)]
    have hl : b.length ≤ 20 * i := by
      rw [hb]
      refine Nat.le_trans (seals_length (fun y hy => hx y (List.mem_of_mem_take hy))) ?_
      rw [List.length_take]
      omega
    rw [if_pos (by omega), if_pos (by omega), if_pos (by omega), hr, bind_of (seal_eq hm.1 (by omega)), if_pos (by rw [List.length_append, hd_length]; have := hm.2; omega), w64n (by omega)]
    refine ih (i + 1) k _ (by omega) (by omega) (by omega) ?_
    rw [hb, List.take_succ_eq_append_getElem (by omega), seals, seals, List.flatMap_append]
    simp
theorem seal_ok {x : List (List Int)} (hx : Bodies x) (hn : x.length ≤ 1000) {k : Nat} (hk : x.length < k) : rollbacknetlaw11_seal.f k x = some (seals x) := by
  unfold rollbacknetlaw11_seal.f
  exact seal_l0 hx hn x.length 0 k [] (by omega) hk (by omega) rfl
theorem same_l0 (l : List Int) (hl : l.length ≤ 1099511627776) : ∀ (n i k : Nat), l.length - i ≤ n → n < k → i ≤ l.length → rollbacknetref08_SameBytes.l0 k l l (i : Int) = some true := by
  intro n
  induction n with
  | zero =>
    intro i k hn hk hi
    obtain ⟨k, rfl⟩ : ∃ q, k = q + 1 := ⟨k - 1, by omega⟩
    simp only [rollbacknetref08_SameBytes.l0]
    rw [if_neg (by omega)]
  | succ n ih =>
    intro i k hn hk hi
    obtain ⟨k, rfl⟩ : ∃ q, k = q + 1 := ⟨k - 1, by omega⟩
    simp only [rollbacknetref08_SameBytes.l0]
    by_cases hlt : i < l.length
    · rw [if_pos (by omega), if_pos (by omega), if_pos (by omega), if_pos trivial, w64n (by omega)]
      exact ih (i + 1) k (by omega) (by omega) (by omega)
    · rw [if_neg (by omega)]
theorem same_f {l : List Int} (hl : l.length ≤ 1099511627776) {k : Nat} (hk : l.length < k) : rollbacknetref08_SameBytes.f k l l = some true := by
  unfold rollbacknetref08_SameBytes.f
  rw [if_pos rfl]
  exact same_l0 l hl l.length 0 k (by omega) hk (by omega)
theorem awake_f {k : Nat} (hk : 200 ≤ k) : rollbacknetlaw11_awake.f k = some true :=
  at_rounds (g := fun k => rollbacknetlaw11_awake.f k) rollbacknetlaw11_awake.mono hk (by kernel_rfl)
theorem nx_length (b : List Int) (q : Int) : (nextS b q).1.length ≤ b.length := by
  unfold nextS nx bod
  repeat' split
  all_goals first | (simp; done) | (simp; omega)
end Go.Proofs.Ytmlphabhldahlaa.Fr
