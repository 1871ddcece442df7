/- What a crash makes of a disk, by the document (chapter 10; no condition but sizes). -/
import Derived.Test.YtnfbjdnflifcoaaDkCrash
import Derived.Test.YtnfbjdnflifcoaaPDkx14
import Derived.Test.YtnfbjdnflifcoaaPDkx13
import Derived.Test.YtnfbjdnflifcoaaPDkx12
namespace Go.Proofs.Ytnfbjdnflifcoaa.Dk
open Go.RowKit Go.Proofs.Ytnfbjdnflifcoaa.PDk Go.Proofs.YtnfbjdnflifcoaaW.PrintWords Go.Proofs.YtnfbjdnflifcoaaW.PrintLast
theorem in_l0 (l : List Int) (v : Int) (hl : l.length < 140737488355328) : ∀ (n i k : Nat), l.length - i ≤ n → n < k → i ≤ l.length → rollbacknetref10_in.l0 k l v (i : Int) = some (decide (v ∈ l.drop i)) := by
  intro n
  induction n with
  | zero =>
    intro i k hn hk hi
    obtain ⟨k, rfl⟩ : ∃ q, k = q + 1 := ⟨k - 1, by omega⟩
    simp only [rollbacknetref10_in.l0]
    rw [if_neg (by omega), List.drop_of_length_le (by omega)]
    simp
  | succ n ih =>
    intro i k hn hk hi
    obtain ⟨k, rfl⟩ : ∃ q, k = q + 1 := ⟨k - 1, by omega⟩
    simp only [rollbacknetref10_in.l0]
    by_cases hlt : i < l.length
    · rw [if_pos (by omega), if_pos (by omega), rd_at hlt]
      by_cases hv : l[i] = v
      · rw [if_pos hv, decide_eq_true ((mem_drop hlt).2 (.inl hv.symm))]
      · rw [if_neg hv, w64n (by omega), ih (i + 1) k (by omega) (by omega) (by omega)]
        congr 1
        exact decide_eq_decide.2 ⟨fun h => (mem_drop hlt).2 (.inr h), fun h => ((mem_drop hlt).1 h).resolve_left (fun e => hv e.symm)⟩
    · rw [if_neg (by omega), List.drop_of_length_le (by omega)]
      simp
theorem in_f {l : List Int} (hl : l.length < 140737488355328) (v : Int) {k : Nat} (hk : l.length < k) : rollbacknetref10_in.f k l v = some (decide (v ∈ l)) :=
  in_l0 l v hl l.length 0 k (by omega) hk (by omega)

theorem rtorn_l0 {lost : List Int} (hl : lost.length < 140737488355328) (x : Int) (n : Nat) (hn : n < 140737488355328) : ∀ (d i k : Nat) (xs : List Int), n ≤ xs.length → n - i ≤ d → d + lost.length < k → rollbacknetref10_Torn.l0 k (n : Int) xs (i : Int) x lost = some (zp lost n i xs) := by
  intro d
  induction d with
  | zero =>
    intro i k xs hx hd hk
    obtain ⟨k, rfl⟩ : ∃ q, k = q + 1 := ⟨k - 1, by omega⟩
    simp only [rollbacknetref10_Torn.l0]
    rw [if_neg (by omega), zp_done (by omega)]
  | succ d ih =>
    intro i k xs hx hd hk
    obtain ⟨k, rfl⟩ : ∃ q, k = q + 1 := ⟨k - 1, by omega⟩
    simp only [rollbacknetref10_Torn.l0]
    by_cases hi : i < n
    · have e : wrap64 (Int.tdiv (i : Int) 16) = ((i / 16 : Nat) : Int) := by rw [Int.tdiv_eq_ediv_of_nonneg (by omega), w64 (by omega)]; omega
      rw [if_pos (by omega), e, bind_of (in_f hl _ (by omega))]
      have hn2 : ((i : Nat) : Int).toNat = i := by omega
      have key : zp lost n (i + 1) (if ((i / 16 : Nat) : Int) ∈ lost then xs.set i 0 else xs) = zp lost n i xs := by
        apply List.ext_getElem?
        intro j
        rw [zp_at, zp_at]
        by_cases hs : ((i / 16 : Nat) : Int) ∈ lost
        · rw [if_pos hs, List.getElem?_set]
          by_cases hj : i = j
          · subst hj
            rw [if_pos rfl, if_pos (by omega), List.getElem?_eq_getElem (by omega)]
            simp only [Option.map_some]
            rw [if_pos (show i ≤ i ∧ i < n ∧ _ from ⟨Nat.le_refl _, hi, hs⟩)]
            split <;> rfl
          · rw [if_neg hj]
            cases xs[j]? with
            | none => rfl
            | some y =>
              simp only [Option.map_some]
              congr 1
              by_cases h2 : i + 1 ≤ j ∧ j < n ∧ ((j / 16 : Nat) : Int) ∈ lost
              · rw [if_pos h2, if_pos ⟨by omega, h2.2⟩]
              · rw [if_neg h2, if_neg (fun h => h2 ⟨by omega, h.2⟩)]
        · rw [if_neg hs]
          cases xs[j]? with
          | none => rfl
          | some y =>
            simp only [Option.map_some]
            congr 1
            by_cases h2 : i + 1 ≤ j ∧ j < n ∧ ((j / 16 : Nat) : Int) ∈ lost
            · rw [if_pos h2, if_pos ⟨by omega, h2.2⟩]
            · rw [if_neg h2, if_neg (fun h => h2 ⟨by
                rcases Nat.lt_or_ge i j with h3 | h3
                · exact h3
                · obtain rfl : i = j := by omega
                  exact absurd h.2.2 hs, h.2⟩)]
      by_cases hs : ((i / 16 : Nat) : Int) ∈ lost
      · rw [if_pos hs] at key
        rw [if_pos (decide_eq_true hs), if_pos (by omega), if_pos (by omega), hn2, w64n (by omega), ih (i + 1) k _ (by rw [List.length_set]; exact hx) (by omega) (by omega), key]
      · rw [if_neg hs] at key
        rw [decide_eq_false hs, if_neg (by simp), w64n (by omega), ih (i + 1) k _ hx (by omega) (by omega), key]
    · rw [if_neg (by omega), zp_done (by omega)]
theorem rtorn_f {t : Tear} {p : List Int} (hl : t.f1.length < 140737488355328) (hp : p.length < 140737488355328) {k : Nat} (hk : p.length + t.f1.length < k) : rollbacknetref10_Torn.f k p t.f0 t.f1 = some (torn t p) := by
  have hkp := keep_le t p
  have e : mn (mx t.f0 0) (p.length : Int) = ((keep t p : Nat) : Int) := by unfold mn mx keep; split <;> split <;> omega
  unfold rollbacknetref10_Torn.f
  rw [e, if_pos (by omega), if_pos (by omega), Int.toNat_natCast, if_pos (by rw [List.length_take]; simp only [List.length_nil]; omega), List.nil_append]
  exact rtorn_l0 hl t.f0 (keep t p) (by omega) p.length 0 k _ (by rw [List.length_take]; omega) (by omega) (by omega)
theorem rcrash_l0 {m q : Nat} {l : List Tear} {t : List File} (h : DGood m t) (hm : m ≤ 70368744177663) (hl : ∀ x ∈ l, x.f1.length ≤ q) (hq : q < 140737488355328) : ∀ (n i k : Nat), t.length - i ≤ n → n + m + q < k → i ≤ t.length →
    rollbacknetref10_Crash.l0 k l (i : Int) t ((crash l t).take i) = some (crash l t) := by
  have hlen := h.len
  intro n
  induction n with
  | zero =>
    intro i k hn hk hi
    obtain ⟨k, rfl⟩ : ∃ q, k = q + 1 := ⟨k - 1, by omega⟩
    simp only [rollbacknetref10_Crash.l0]
    rw [if_neg (by omega), List.take_of_length_le (by rw [crash_length]; omega)]
  | succ n ih =>
    intro i k hn hk hi
    obtain ⟨k, rfl⟩ : ∃ q, k = q + 1 := ⟨k - 1, by omega⟩
    simp only [rollbacknetref10_Crash.l0]
    by_cases hi2 : i < t.length
    · have hf := h.at hi2
      have ht := tear_lost hl i
      have hkp := keep_le (tear l i) t[i].f1
      have g := ih (i + 1) k (by omega) (by omega) (by omega)
      have hc : i < (crash l t).length := by rw [crash_length]; exact hi2
      have hx : (crash l t)[i] = ⟨t[i].f0 ++ torn (tear l i) t[i].f1, []⟩ := by
        have := crash_at l t hi2
        rw [List.getElem?_eq_getElem hc] at this
        exact Option.some.inj this
      rw [List.take_succ_eq_append_getElem hc, hx] at g
      have hR := rtorn_f (t := tear l i) (p := t[i].f1) (by omega) (by omega) (k := k) (by omega)
      rw [if_pos (by omega), file_at hi2]
      by_cases hil : i < l.length
      · have e : rd_T39 l (i : Int) = tear l i := by rw [tear_pos hil, tear_at hil]
        rw [if_pos (by omega), e, if_pos (by omega), if_pos (by simp only [List.length_nil]; omega), bind_of rfl, List.nil_append, bind_of hR, if_pos (by rw [torn_length]; omega), if_pos (by rw [List.length_take]; omega), w64n (by omega)]
        exact g
      · have e : tear l i = z39 := tear_neg hil
        rw [e] at hR g
        have hR2 : rollbacknetref10_Torn.f k t[i].f1 0 [] = some (torn z39 t[i].f1) := hR
        rw [if_neg (by omega), if_pos (by omega), if_pos (by simp only [List.length_nil]; omega), bind_of rfl, List.nil_append, bind_of hR2, if_pos (by rw [← e, torn_length]; omega), if_pos (by rw [List.length_take]; omega), w64n (by omega)]
        exact g
    · rw [if_neg (by omega), List.take_of_length_le (by rw [crash_length]; omega)]
theorem rcrash_f {m q : Nat} {l : List Tear} {t : List File} (h : DGood m t) (hm : m ≤ 70368744177663) (hl : ∀ x ∈ l, x.f1.length ≤ q) (hq : q < 140737488355328) {k : Nat} (hk : 100 + m + q < k) : rollbacknetref10_Crash.f k t l = some (crash l t) := by
  have := h.len
  unfold rollbacknetref10_Crash.f
  exact rcrash_l0 h hm hl hq t.length 0 k (by omega) (by omega) (by omega)

end Go.Proofs.Ytnfbjdnflifcoaa.Dk
