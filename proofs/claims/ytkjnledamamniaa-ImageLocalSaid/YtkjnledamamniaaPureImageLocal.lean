/- A changed cell costs one page (ImageLocal; no condition). -/
import Derived.Test.YtkjnledamamniaaPImpImageLocal
import Derived.Test.YtkjnledamamniaaImLib
namespace Go.Proofs.Ytkjnledamamniaa.Pure
open Go.RowKit Go.Proofs.Ytkjnledamamniaa.PIm Go.Proofs.YtkjnledamamniaaW.PrintWords Go.Proofs.YtkjnledamamniaaW.PrintLast Go.Proofs.Ytkjnledamamniaa.Im
theorem mod_ok {x n : Int} (hx : -9223372036854775808 ≤ x ∧ x ≤ 9223372036854775807) (h0 : 0 < n) (h1 : n ≤ 4611686018427387904) :
    rollbacknetmake_Mod.f x n = some (x % n) := by
  unfold rollbacknetmake_Mod.f
  rw [if_neg (by omega)]
  have e := Int.tmod_eq_emod (a := x) (b := n)
  have a := Int.emod_nonneg x (b := n) (by omega)
  have b := Int.emod_lt_of_pos x h0
  by_cases hn : 0 ≤ x
  · rw [Int.tmod_eq_emod_of_nonneg hn, if_neg (by omega)]
  · by_cases hd : n ∣ x
    · rw [Int.tmod_eq_zero_of_dvd hd, if_neg (by omega), Int.emod_eq_zero_of_dvd hd]
    · rw [if_neg (by simp [hd]; omega)] at e
      have hab : (n.natAbs : Int) = n := by omega
      rw [hab] at e
      have hz : x % n ≠ 0 := fun h => hd (Int.dvd_of_emod_eq_zero h)
      rw [if_pos (by omega), w64 (by omega)]
      congr 1
      omega
theorem page_at {p : Page} {l : List Page} : rd_T28 (p :: l) 0 = p := by simp [rd_T28]
theorem dif_none {a b : List Int} (h : ∀ i, dl a b i = []) : ∀ m i, dif a b i m = [] := by
  intro m
  induction m with
  | zero => intro i; rfl
  | succ m ih => intro i; rw [dif, h, ih]; rfl
theorem dif_after {a b : List Int} {c : Nat} (h : ∀ i, i ≠ c → dl a b i = []) : ∀ m i, c < i → dif a b i m = [] := by
  intro m
  induction m with
  | zero => intro i _; rfl
  | succ m ih => intro i hi; rw [dif, h i (by omega), ih (i + 1) (by omega)]; rfl
theorem dif_one {a b : List Int} {c : Nat} (h : ∀ i, i ≠ c → dl a b i = []) : ∀ m i, i ≤ c → c < i + m → dif a b i m = dl a b c := by
  intro m
  induction m with
  | zero => intro i h1 h2; omega
  | succ m ih =>
    intro i h1 h2
    rw [dif]
    by_cases hi : i = c
    · subst hi
      rw [dif_after h m (i + 1) (by omega), List.append_nil]
    · rw [h i hi, ih (i + 1) (by omega) (by omega)]
      rfl
theorem set_pg {a : List Int} {k : Nat} (v : Int) (i : Nat) (hi : i ≠ k / 4) : pg (a.set k v) i = pg a i := by
  apply List.ext_getElem?
  intro j
  rw [pg_get, pg_get]
  by_cases h : j < 4
  · rw [if_pos h, if_pos h, List.getElem?_set_ne (by omega)]
  · rw [if_neg h, if_neg h]

theorem ImageLocal : rollbacknetlaw07_ImageLocal.Pure := by
  intro l n v _ _ _ hn _
  have hn := wf_i64 hn
  refine ⟨1000, ?_⟩
  unfold rollbacknetlaw07_ImageLocal.f
  rw [bind_of (awake_f (by omega)), if_pos rfl]
  by_cases h0 : (l.length : Int) = 0
  · rw [if_pos h0]
    rfl
  rw [if_neg h0]
  by_cases h2 : (l.length : Int) > 200
  · rw [decide_eq_true h2]
    rfl
  rw [decide_eq_false h2]
  simp only [rollbacknetlaw07_ImageLocal.j0]
  have m0 := Int.emod_nonneg n (b := (l.length : Int)) (by omega)
  have m1 := Int.emod_lt_of_pos n (b := (l.length : Int)) (by omega)
  rw [if_neg (by simp), bind_of (mod_ok hn (by omega) (by omega))]
  obtain ⟨k, hk⟩ := Int.eq_ofNat_of_zero_le m0
  rw [hk] at m0 m1 ⊢
  have hkl : k < l.length := by omega
  rw [if_pos (by simp; omega), List.nil_append, bind_of rfl, if_pos (by omega), if_pos (by omega), Int.toNat_natCast]
  have hb : (l.set k v).length = l.length := List.length_set ..
  have hcnt : cnt (l.set k v) = cnt l := by unfold cnt; rw [hb]
  have hc : k / 4 < cnt l := by unfold cnt; omega
  have hc2 : cnt l ≤ 60 := by unfold cnt; omega
  have far : ∀ i, i ≠ k / 4 → dl l (l.set k v) i = [] := fun i hi => if_pos ⟨hb.symm, (set_pg v i hi).symm⟩
  rw [bind_of (diff_f (a := l) (b := l.set k v) (by omega) (by omega) (by omega)), if_pos (by omega), hcnt, dif_one far (cnt l) 0 (by omega) (by omega), rd_at hkl]
  have hin : (pg (l.set k v) (k / 4))[k % 4]? = some v := by
    rw [pg_get, if_pos (by omega), show 4 * (k / 4) + k % 4 = k by omega, List.getElem?_set_self hkl]
  by_cases hv : v = l[k]
  · have e : l.set k v = l := by rw [hv]; exact List.set_getElem_self hkl
    rw [if_pos hv, e, show dl l l (k / 4) = [] from if_pos ⟨rfl, rfl⟩]
    rfl
  · have e : dl l (l.set k v) (k / 4) = [⟨((k / 4 : Nat) : Int), pg (l.set k v) (k / 4)⟩] := by
      refine if_neg (fun hh => hv ?_)
      have h1 := hin
      rw [← hh.2, pg_get, if_pos (by omega), show 4 * (k / 4) + k % 4 = k by omega, List.getElem?_eq_getElem hkl] at h1
      exact (Option.some.inj h1).symm
    rw [if_neg hv, e]
    have hp := pg_len (l.set k v) (k / 4)
    obtain ⟨hlt, hget⟩ := List.getElem?_eq_some_iff.1 hin
    rw [page_at]
    simp only [List.length_singleton]
    rw [if_pos (by omega), if_pos (by omega), Int.tdiv_eq_ediv_of_nonneg (by omega), w64 (by omega), if_pos (by omega), if_pos (by omega), Int.tmod_eq_emod_of_nonneg (by omega), if_pos (by omega), if_pos (by omega), show (k : Int) % 4 = ((k % 4 : Nat) : Int) by omega, rd_at hlt, hget]
    simp
end Go.Proofs.Ytkjnledamamniaa.Pure
