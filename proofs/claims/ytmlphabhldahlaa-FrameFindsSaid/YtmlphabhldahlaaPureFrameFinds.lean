/- A frame in which up to 32 consecutive bits of the body were changed is no frame any more (FrameFinds; no condition). -/
import Derived.Test.YtmlphabhldahlaaPFkpFrameFinds
import Derived.Test.YtmlphabhldahlaaFrMake
namespace Go.Proofs.Ytmlphabhldahlaa.Pure
open Go.RowKit Go.Proofs.Ytmlphabhldahlaa.PFk Go.Proofs.YtmlphabhldahlaaW.PrintWords Go.Proofs.YtmlphabhldahlaaW.PrintLast Go.Proofs.Ytmlphabhldahlaa.Fr Go.Proofs.Ytmlphabhldahlaa.Crc
theorem wf_u32 {x : Int} (h : (Lit.int .u32 x).wf = true) : 0 ≤ x ∧ x < 4294967296 := by
  simp [Lit.wf, IntKind.min, IntKind.max, IntKind.bits, IntKind.signed] at h
  omega
theorem u64_wrap {x : Int} (h0 : 0 ≤ x) (h1 : x < 18446744073709551616) : IntKind.u64.wrap x = x := by
  simp only [IntKind.wrap, IntKind.bits, IntKind.signed]
  simp
  omega
theorem tdiv8 (a b : Nat) : Int.tdiv ((a : Int) + b) 8 = (((a + b) / 8 : Nat) : Int) := by
  rw [Int.tdiv_eq_ediv_of_nonneg (by omega)]
  omega
theorem tmod8 (a b : Nat) : Int.tmod ((a : Int) + b) 8 = (((a + b) % 8 : Nat) : Int) := by
  rw [Int.tmod_eq_emod_of_nonneg (by omega)]
  omega
theorem mask_bit (m i : Nat) (hm : m < 2 ^ 32) (hi : i ≤ 32) : Go.bits .and .u32 (shr .u32 (m : Int) (i : Int)) 1 = ((m / 2 ^ i % 2 : Nat) : Int) := by
  have e : shr .u32 (m : Int) (i : Int) = ((m / 2 ^ i : Nat) : Int) := by
    unfold shr
    rw [Int.toNat_natCast, Nat.min_eq_left (show i ≤ IntKind.u32.bits from hi)]
    rw [show ((2 : Int) ^ i) = ((2 ^ i : Nat) : Int) by simp]
    rfl
  rw [e]
  exact and_one _ (Nat.lt_of_le_of_lt (Nat.div_le_self _ _) hm)
theorem flip {c : List Int} (hc : Bytes c) {j t : Nat} (hj : j < c.length) (ht : t < 8) :
    c.set ((j : Int)).toNat (Go.bits .xor .u8 (rd c (j : Int)) (shl .u8 1 (t : Int))) = c.set j (((c[j].toNat ^^^ 2 ^ t : Nat)) : Int) ∧
    Bytes (c.set j (((c[j].toNat ^^^ 2 ^ t : Nat)) : Int)) ∧ num ((c.set j (((c[j].toNat ^^^ 2 ^ t : Nat)) : Int)).map Int.toNat) = num (c.map Int.toNat) ^^^ 2 ^ (8 * j + t) := by
  have hx := hc c[j] (List.getElem_mem hj)
  have h2 : 2 ^ t < 256 := by
    have : 2 ^ t < 2 ^ 8 := Nat.pow_lt_pow_right (by decide) ht
    simpa using this
  have hrd : rd c (j : Int) = c[j] := by simp [rd, List.getD_eq_getElem?_getD, List.getElem?_eq_getElem hj]
  have hs : shl .u8 1 (t : Int) = ((2 ^ t : Nat) : Int) := by
    unfold shl
    rw [Int.toNat_natCast, Nat.min_eq_left (show t ≤ IntKind.u8.bits from by show t ≤ 8; omega), IntKind.wrap_u8]
    have e2 : ((2 : Int) ^ t) = ((2 ^ t : Nat) : Int) := by simp
    rw [e2, Int.one_mul]
    exact Int.emod_eq_of_lt (Int.natCast_nonneg _) (Int.ofNat_lt.2 h2)
  have hlt : c[j].toNat ^^^ 2 ^ t < 256 := xor_lt (by omega) h2
  refine ⟨?_, ?_, ?_⟩
  · rw [hrd, hs, Int.toNat_natCast]
    congr 1
    obtain ⟨a, ea⟩ := Int.eq_ofNat_of_zero_le hx.1
    rw [ea, xor_u8 a _ (by omega) (by omega)]
    rfl
  · intro x hx2
    rcases List.mem_or_eq_of_mem_set hx2 with h | rfl
    · exact hc x h
    · omega
  · rw [List.map_set]
    have hj2 : j < (c.map Int.toNat).length := by simpa using hj
    have := num_set (c.map Int.toNat) j t hj2 hc.map ht
    rw [List.getElem_map] at this
    exact this
/-- What a burst in a body makes of its frame. -/
theorem found {l c : List Int} (hl : Bytes l) (hc : Bytes c) (hlen : l.length ≤ 1000) (hcl : c.length = l.length) {m k : Nat} (hm : m < 2 ^ 32) (h0 : m ≠ 0) (hk : k + 32 ≤ 8 * l.length)
    (hn : num (c.map Int.toNat) = num (l.map Int.toNat) ^^^ (m * 2 ^ k)) {f : Nat} (hf : 1 ≤ f) : frame_Next.f f (hd l ++ c) 0 = some ([], 0, 10) := by
  have hb : Bytes (hd l ++ c) := (hd_bytes l).append hc
  have hle : (hd l ++ c).length = 8 + l.length := by rw [List.length_append, hd_length, hcl]
  have hgd : ∀ j, j < 4 → (hd l ++ c).getD j 0 = (frame_Seal.le (l.length : Int)).getD j 0 := by
    intro j hj
    rw [List.getD_eq_getElem?_getD, List.getD_eq_getElem?_getD, List.getElem?_append_left (by rw [hd_length]; omega)]
    unfold hd
    rw [List.getElem?_append_left (by show j < 4; exact hj)]
  have hnum : Fr.num (hd l ++ c) 0 = l.length := by
    have h_ := num_eq hb 0
    rw [Nat.zero_add, Nat.zero_add, Nat.zero_add, hgd 0 (by omega), hgd 1 (by omega), hgd 2 (by omega), hgd 3 (by omega)] at h_
    have h2 : (l.length : Int) % 256 + ((l.length : Int) / 256 % 256) * 256 + ((l.length : Int) / 65536 % 256) * 65536 + ((l.length : Int) / 16777216 % 256) * 16777216 = (Fr.num (hd l ++ c) 0 : Int) := h_
    omega
  have hbod : bod (hd l ++ c) 0 = c := by
    unfold bod
    rw [hnum, List.take_of_length_le (by omega), Nat.zero_add, List.drop_append_of_le_length (by rw [hd_length]; omega), List.drop_eq_nil_of_le (by rw [hd_length]; omega)]
    rfl
  have hne : hd c ≠ hd l := by
    intro e
    unfold hd at e
    rw [hcl] at e
    have e1 := List.append_cancel_left e
    obtain ⟨r1, r2, r3⟩ := of_le (l.length : Int)
    generalize upd 0 (frame_Seal.le (l.length : Int)) = s at e1 r2 r3
    obtain ⟨_, c2, c3⟩ := upd_some r2 r3 hc
    obtain ⟨_, l2, l3⟩ := upd_some r2 r3 hl
    have e2 : upd s c = upd s l := by
      simp only [frame_Seal.le, List.cons.injEq, and_true] at e1
      omega
    have hb := burst (s := s.toNat ^^^ 4294967295) hl.map hc.map (by simpa using hcl) (by simpa using hk) hm h0 hn
    unfold upd at e2
    have e3 : run (s.toNat ^^^ 4294967295) (c.map Int.toNat) ^^^ 4294967295 = run (s.toNat ^^^ 4294967295) (l.map Int.toNat) ^^^ 4294967295 := Int.ofNat.inj e2
    apply hb
    rw [← xor_cancel (run (s.toNat ^^^ 4294967295) (l.map Int.toNat)) 4294967295, ← e3, xor_cancel]
  rw [next_eq hb (by omega) 0 hf]
  unfold nextS nx
  rw [if_neg (by omega), show (0 : Int).toNat = 0 from rfl, if_neg (by omega), if_neg (by omega), hnum, if_neg (by omega), if_neg (by omega), hbod, if_neg (fun h => hne (by
    rw [h, List.drop_zero, List.take_append_of_le_length (by rw [hd_length]; omega), List.take_of_length_le (by rw [hd_length]; omega)]))]
theorem set_app {h c : List Int} (hh : h.length = 8) (j : Nat) (x : Int) : (h ++ c).set (8 + j) x = h ++ c.set j x := by
  rw [List.set_append_right _ _ (by omega), hh, Nat.add_sub_cancel_left]
theorem finds_l0 (l : List Int) (hl : Bytes l) (hlen : l.length ≤ 1000) (m k : Nat) (hm : m < 2 ^ 32) (h0 : m ≠ 0) (hk : k + 32 ≤ 8 * l.length) : ∀ (d i f : Nat) (c : List Int), 32 - i ≤ d → d + 2 < f → i ≤ 32 → Bytes c → c.length = l.length →
    num (c.map Int.toNat) = num (l.map Int.toNat) ^^^ (m % 2 ^ i * 2 ^ k) → rollbacknetlaw11_FrameFinds.l0 f (m : Int) (hd l ++ c) ((64 + k : Nat) : Int) (i : Int) = some true := by
  intro d
  induction d with
  | zero =>
    intro i f c h hf hi hc hcl hn
    obtain ⟨f, rfl⟩ : ∃ m, f = m + 1 := ⟨f - 1, by omega⟩
    obtain rfl : i = 32 := by omega
    simp only [rollbacknetlaw11_FrameFinds.l0]
    rw [Nat.mod_eq_of_lt hm] at hn
    rw [if_neg (by omega), bind_of (found hl hc hlen hcl hm h0 hk hn (by omega))]
    rfl
  | succ d ih =>
    intro i f c h hf hi hc hcl hn
    by_cases hlt : i < 32
    · obtain ⟨f, rfl⟩ : ∃ m, f = m + 1 := ⟨f - 1, by omega⟩
      simp only [rollbacknetlaw11_FrameFinds.l0]
      rw [if_pos (by omega), u64_wrap (by omega) (by omega), if_pos (by omega), mask_bit m i hm (by omega), w64 (x := (i : Int) + 1) (by omega)]
      by_cases hb : m / 2 ^ i % 2 = 1
      · have hle : (hd l ++ c).length = 8 + l.length := by rw [List.length_append, hd_length, hcl]
        rw [if_pos (by omega), w64 (x := ((64 + k : Nat) : Int) + i) (by omega), tdiv8, tmod8, w64 (x := (((64 + k + i) / 8 : Nat) : Int)) (by omega), if_pos (by omega), if_pos (by omega), u64_wrap (by omega) (by omega), if_pos (by omega)]
        have hj : (k + i) / 8 < c.length := by omega
        obtain ⟨e1, e2, e3⟩ := flip hc hj (t := (k + i) % 8) (by omega)
        have hr : rd (hd l ++ c) (((64 + k + i) / 8 : Nat) : Int) = rd c (((k + i) / 8 : Nat) : Int) := by
          unfold rd
          rw [Int.toNat_natCast, Int.toNat_natCast, List.getD_eq_getElem?_getD, List.getD_eq_getElem?_getD, List.getElem?_append_right (by rw [hd_length]; omega), hd_length, show (64 + k + i) / 8 - 8 = (k + i) / 8 by omega]
        rw [hr, Int.toNat_natCast, show (64 + k + i) / 8 = 8 + (k + i) / 8 by omega, show (64 + k + i) % 8 = (k + i) % 8 by omega, set_app (hd_length l)]
        rw [Int.toNat_natCast] at e1
        rw [e1]
        refine ih (i + 1) f _ (by omega) (by omega) (by omega) e2 (by rw [List.length_set]; exact hcl) ?_
        rw [e3, hn, show 8 * ((k + i) / 8) + (k + i) % 8 = k + i by omega, mask_step m i k hb]
      · rw [if_neg (by omega)]
        refine ih (i + 1) f c (by omega) (by omega) (by omega) hc hcl ?_
        rw [mask_skip m i hb, hn]
    · obtain rfl : i = 32 := by omega
      exact ih 32 f c (by omega) (by omega) (by omega) hc hcl hn
theorem FrameFinds : rollbacknetlaw11_FrameFinds.Pure := by
  intro l a m _ _ hl ha hm
  have hb : Bytes l := fun x hx => wf_u8 (hl x hx)
  obtain ⟨m0, m1⟩ := wf_u32 hm
  obtain ⟨m, rfl⟩ := Int.eq_ofNat_of_zero_le m0
  obtain ⟨K, hK⟩ : ∃ K : Nat, 2000 ≤ K := ⟨2000, by omega⟩
  refine ⟨K + 2, ?_⟩
  unfold rollbacknetlaw11_FrameFinds.f
  rw [bind_of (awake_f (by omega)), if_pos rfl]
  by_cases h4 : (l.length : Int) < 4
  · rw [if_pos h4, rollbacknetlaw11_FrameFinds.j0, if_pos rfl]
  rw [if_neg h4]
  by_cases h1000 : (l.length : Int) > 1000
  · rw [if_pos h1000, rollbacknetlaw11_FrameFinds.j0, if_pos rfl]
  rw [if_neg h1000]
  by_cases hz : (m : Int) = 0
  · rw [rollbacknetlaw11_FrameFinds.j0, if_pos (by simpa using hz)]
  have e3 := mod_ok (n := 8 * (l.length : Int) - 31) (wf_i64 ha) (by omega) (by omega)
  have q0 := Int.emod_nonneg a (b := 8 * (l.length : Int) - 31) (by omega)
  have q1 := Int.emod_lt_of_pos a (b := 8 * (l.length : Int) - 31) (by omega)
  obtain ⟨k, hk⟩ := Int.eq_ofNat_of_zero_le q0
  have hle : (hd l ++ l).length = 8 + l.length := by rw [List.length_append, hd_length]
  rw [rollbacknetlaw11_FrameFinds.j0, if_neg (by simpa using hz), bind_of (seal_eq hb (by omega)), if_pos rfl, w64 (x := (l.length : Int) + 8) (by omega)]
  show rollbacknetlaw11_FrameFinds.j1 (K + 1) l a (m : Int) (hd l ++ l) (((hd l ++ l).length : Int) != (l.length : Int) + 8) = some true
  rw [show (((hd l ++ l).length : Int) != (l.length : Int) + 8) = false from by rw [hle]; simp; omega, rollbacknetlaw11_FrameFinds.j1, if_neg Bool.false_ne_true, w64 (x := 8 * (l.length : Int)) (by omega), w64 (by omega), bind_of e3, hk, w64 (by omega)]
  exact finds_l0 l hb (by omega) m k (by omega) (by omega) (by omega) 32 0 K l (by omega) (by omega) (by omega) hb rfl (by simp [Nat.mod_one])
end Go.Proofs.Ytmlphabhldahlaa.Pure
