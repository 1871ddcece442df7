/- Two lists that differ only within 32 consecutive bits have different checksums (CrcBursts; no condition). -/
import Derived.Test.YtpcfgpghfegjkaaPCrg
import Derived.Test.YtpcfgpghfegjkaaCrcLaws
namespace Go.Proofs.Ytpcfgpghfegjkaa.Pure
open Go.RowKit Go.Proofs.Ytpcfgpghfegjkaa.PCr Go.Proofs.YtpcfgpghfegjkaaW.PrintWords Go.Proofs.YtpcfgpghfegjkaaW.PrintLast Go.Proofs.YtpcfgpghfegjkaaW.PrintMore Go.Proofs.Ytpcfgpghfegjkaa.Crc
-- what the makers of inputs give
theorem w64 {x : Int} (h : -9223372036854775808 ≤ x ∧ x ≤ 9223372036854775807) : wrap64 x = x := by unfold wrap64; omega

theorem rd_mem {l : List Int} {i : Int} (h0 : 0 ≤ i) (h1 : i < (l.length : Int)) : rd l i ∈ l := by
  unfold rd
  rw [List.getD_eq_getElem?_getD, List.getElem?_eq_getElem (by omega)]
  simp

theorem wf_u8 {x : Int} (h : (Lit.int .u8 x).wf = true) : 0 ≤ x ∧ x < 256 := by
  simp [Lit.wf, IntKind.min, IntKind.max, IntKind.bits, IntKind.signed] at h
  omega
theorem wf_i64 {x : Int} (h : (Lit.int .i64 x).wf = true) : -9223372036854775808 ≤ x ∧ x ≤ 9223372036854775807 := by
  simp [Lit.wf, IntKind.min, IntKind.max, IntKind.bits, IntKind.signed] at h
  omega
theorem bind_of {α β : Type} {o : Option α} {a : α} {f : α → Option β} (h : o = some a) : o.bind f = f a := by rw [h]; rfl
theorem wf_u32 {x : Int} (h : (Lit.int .u32 x).wf = true) : 0 ≤ x ∧ x < 4294967296 := by
  simp [Lit.wf, IntKind.min, IntKind.max, IntKind.bits, IntKind.signed] at h
  omega
theorem mod_ok {x n : Int} (hx : -9223372036854775808 ≤ x ∧ x ≤ 9223372036854775807) (h0 : 0 < n) (h1 : n ≤ 4611686018427387904) :
    rollbacknetmake_Mod.f x n = some (x % n) := by
  unfold rollbacknetmake_Mod.f
  rw [if_neg (by omega)]
  have e := Int.tmod_eq_emod (a := x) (b := n)
  have a := Int.emod_nonneg x (b := n) (by omega)
  have b := Int.emod_lt_of_pos x h0
  by_cases hn : 0 ≤ x
  · rw [Int.tmod_eq_emod_of_nonneg hn, if_neg (by omega)]
  · by_cases hd : n ∣ x
    · rw [Int.tmod_eq_zero_of_dvd hd, if_neg (by omega), Int.emod_eq_zero_of_dvd hd]
    · rw [if_neg (by simp [hd]; omega)] at e
      have hab : (n.natAbs : Int) = n := by omega
      rw [hab] at e
      have hz : x % n ≠ 0 := fun h => hd (Int.dvd_of_emod_eq_zero h)
      rw [if_pos (by omega), w64 (by omega)]
      congr 1
      omega
theorem of_f {l : List Int} (h : Bytes l) : crc_Of.f l = some (upd 0 l) := by
  unfold crc_Of.f crc_Update.f
  rw [if_pos ⟨by decide, by decide, h⟩]
  rfl

theorem u64_wrap {x : Int} (h0 : 0 ≤ x) (h1 : x < 18446744073709551616) : IntKind.u64.wrap x = x := by
  simp only [IntKind.wrap, IntKind.bits, IntKind.signed]
  simp
  omega
theorem tdiv8 (a b : Nat) : Int.tdiv ((a : Int) + b) 8 = (((a + b) / 8 : Nat) : Int) := by
  rw [Int.tdiv_eq_ediv_of_nonneg (by omega)]
  omega
theorem tmod8 (a b : Nat) : Int.tmod ((a : Int) + b) 8 = (((a + b) % 8 : Nat) : Int) := by
  rw [Int.tmod_eq_emod_of_nonneg (by omega)]
  omega
theorem mask_bit (m i : Nat) (hm : m < 2 ^ 32) (hi : i ≤ 32) : Go.bits .and .u32 (shr .u32 (m : Int) (i : Int)) 1 = ((m / 2 ^ i % 2 : Nat) : Int) := by
  have e : shr .u32 (m : Int) (i : Int) = ((m / 2 ^ i : Nat) : Int) := by
    unfold shr
    rw [Int.toNat_natCast, Nat.min_eq_left (show i ≤ IntKind.u32.bits from hi)]
    rw [show ((2 : Int) ^ i) = ((2 ^ i : Nat) : Int) by simp]
    rfl
  rw [e]
  exact and_one _ (Nat.lt_of_le_of_lt (Nat.div_le_self _ _) hm)
theorem flip {c : List Int} (hc : Bytes c) {j t : Nat} (hj : j < c.length) (ht : t < 8) :
    c.set ((j : Int)).toNat (Go.bits .xor .u8 (rd c (j : Int)) (shl .u8 1 (t : Int))) = c.set j (((c[j].toNat ^^^ 2 ^ t : Nat)) : Int) ∧
    Bytes (c.set j (((c[j].toNat ^^^ 2 ^ t : Nat)) : Int)) ∧ num ((c.set j (((c[j].toNat ^^^ 2 ^ t : Nat)) : Int)).map Int.toNat) = num (c.map Int.toNat) ^^^ 2 ^ (8 * j + t) := by
  have hx := hc c[j] (List.getElem_mem hj)
  have h2 : 2 ^ t < 256 := by
    have : 2 ^ t < 2 ^ 8 := Nat.pow_lt_pow_right (by decide) ht
    simpa using this
  have hrd : rd c (j : Int) = c[j] := by simp [rd, List.getD_eq_getElem?_getD, List.getElem?_eq_getElem hj]
  have hs : shl .u8 1 (t : Int) = ((2 ^ t : Nat) : Int) := by
    unfold shl
    rw [Int.toNat_natCast, Nat.min_eq_left (show t ≤ IntKind.u8.bits from by show t ≤ 8; omega), IntKind.wrap_u8]
    have e2 : ((2 : Int) ^ t) = ((2 ^ t : Nat) : Int) := by simp
    rw [e2, Int.one_mul]
    exact Int.emod_eq_of_lt (Int.natCast_nonneg _) (Int.ofNat_lt.2 h2)
  have hlt : c[j].toNat ^^^ 2 ^ t < 256 := xor_lt (by omega) h2
  refine ⟨?_, ?_, ?_⟩
  · rw [hrd, hs, Int.toNat_natCast]
    congr 1
    obtain ⟨a, ea⟩ := Int.eq_ofNat_of_zero_le hx.1
    rw [ea, xor_u8 a _ (by omega) (by omega)]
    rfl
  · intro x hx2
    rcases List.mem_or_eq_of_mem_set hx2 with h | rfl
    · exact hc x h
    · omega
  · rw [List.map_set]
    have hj2 : j < (c.map Int.toNat).length := by simpa using hj
    have := num_set (c.map Int.toNat) j t hj2 hc.map ht
    rw [List.getElem_map] at this
    exact this

theorem bursts_l0 (l : List Int) (hl : Bytes l) (hlen : l.length ≤ 1000) (m k : Nat) (hm : m < 2 ^ 32) (h0 : m ≠ 0) (hk : k + 32 ≤ 8 * l.length) : ∀ (d i f : Nat) (c : List Int), 32 - i ≤ d → d < f → i ≤ 32 → Bytes c → c.length = l.length →
    num (c.map Int.toNat) = num (l.map Int.toNat) ^^^ (m % 2 ^ i * 2 ^ k) → rollbacknetlaw09_CrcBursts.l0 f l (m : Int) (k : Int) c (i : Int) = some true := by
  intro d
  induction d with
  | zero =>
    intro i f c h hf hi hc hcl hn
    obtain ⟨f, rfl⟩ : ∃ m, f = m + 1 := ⟨f - 1, by omega⟩
    obtain rfl : i = 32 := by omega
    simp only [rollbacknetlaw09_CrcBursts.l0]
    rw [if_neg (by omega), bind_of (of_f hl), bind_of (of_f hc)]
    rw [Nat.mod_eq_of_lt hm] at hn
    have hb := burst (s := 4294967295) hl.map hc.map (by simpa using hcl) (by simpa using hk) hm h0 hn
    have hne : upd 0 l ≠ upd 0 c := by
      unfold upd
      intro e
      have e' : run 4294967295 (l.map Int.toNat) ^^^ 4294967295 = run 4294967295 (c.map Int.toNat) ^^^ 4294967295 := Int.ofNat.inj e
      apply hb
      rw [← xor_cancel (run 4294967295 (l.map Int.toNat)) 4294967295, e', xor_cancel]
    simpa using hne
  | succ d ih =>
    intro i f c h hf hi hc hcl hn
    by_cases hlt : i < 32
    · obtain ⟨f, rfl⟩ : ∃ m, f = m + 1 := ⟨f - 1, by omega⟩
      simp only [rollbacknetlaw09_CrcBursts.l0]
      rw [if_pos (by omega), u64_wrap (by omega) (by omega), if_pos (by omega), mask_bit m i hm (by omega), w64 (x := (i : Int) + 1) (by omega)]
      by_cases hb : m / 2 ^ i % 2 = 1
      · rw [if_pos (by omega), w64 (x := (k : Int) + i) (by omega), tdiv8, tmod8, w64 (x := (((k + i) / 8 : Nat) : Int)) (by omega), if_pos (by omega), if_pos (by omega), u64_wrap (by omega) (by omega), if_pos (by omega)]
        have hj : (k + i) / 8 < c.length := by omega
        obtain ⟨e1, e2, e3⟩ := flip hc hj (t := (k + i) % 8) (by omega)
        rw [e1]
        refine ih (i + 1) f _ (by omega) (by omega) (by omega) e2 (by rw [List.length_set]; exact hcl) ?_
        rw [e3, hn, show 8 * ((k + i) / 8) + (k + i) % 8 = k + i by omega, mask_step m i k hb]
      · rw [if_neg (by omega)]
        refine ih (i + 1) f c (by omega) (by omega) (by omega) hc hcl ?_
        rw [mask_skip m i hb, hn]
    · obtain rfl : i = 32 := by omega
      exact ih 32 f c (by omega) (by omega) (by omega) hc hcl hn

theorem CrcBursts : rollbacknetlaw09_CrcBursts.Pure := by
  intro l a m _ _ hl ha hm
  have hb : Bytes l := fun x hx => wf_u8 (hl x hx)
  obtain ⟨m0, m1⟩ := wf_u32 hm
  obtain ⟨m, rfl⟩ := Int.eq_ofNat_of_zero_le m0
  obtain ⟨K, hK⟩ : ∃ K : Nat, 2000 ≤ K := ⟨2000, by omega⟩
  refine ⟨K + 1, ?_⟩
  unfold rollbacknetlaw09_CrcBursts.f
  rw [bind_of (show rollbacknetlaw09_awake.f = some true from rfl), if_pos rfl]
  simp only [rollbacknetlaw09_CrcBursts.j0]
  by_cases h4 : (l.length : Int) < 4
  · rw [if_pos h4, if_true]
  · rw [if_neg h4]
    by_cases h1000 : (l.length : Int) > 1000
    · rw [if_pos h1000, if_true]
    · rw [if_neg h1000]
      by_cases hz : (m : Int) = 0
      · rw [if_pos (by simpa using hz)]
      · rw [if_neg (by simpa using hz)]
        have e3 := mod_ok (n := 8 * (l.length : Int) - 31) (wf_i64 ha) (by omega) (by omega)
        have q0 := Int.emod_nonneg a (b := 8 * (l.length : Int) - 31) (by omega)
        have q1 := Int.emod_lt_of_pos a (b := 8 * (l.length : Int) - 31) (by omega)
        obtain ⟨k, hk⟩ := Int.eq_ofNat_of_zero_le q0
        rw [w64 (x := 8 * (l.length : Int)) (by omega), w64 (by omega), bind_of e3, hk, if_pos (by simp; omega), List.nil_append]
        exact bursts_l0 l hb (by omega) m k (by omega) (by omega) (by omega) 32 0 K l (by omega) (by omega) (by omega) hb rfl (by simp [Nat.mod_one])
end Go.Proofs.Ytpcfgpghfegjkaa.Pure
