/- What a crash makes of a disk, on both sides: which pending bytes stay, and which become zero (chapter 10; no condition but sizes). -/
import Derived.Test.YtnfbjdnflifcoaaDkLib
import Derived.Test.YtnfbjdnflifcoaaPDkx4
import Derived.Test.YtnfbjdnflifcoaaPDkx3
namespace Go.Proofs.Ytnfbjdnflifcoaa.Dk
open Go.RowKit Go.Proofs.Ytnfbjdnflifcoaa.PDk Go.Proofs.YtnfbjdnflifcoaaW.PrintWords Go.Proofs.YtnfbjdnflifcoaaW.PrintLast

theorem mem_drop {l : List Int} {v : Int} {i : Nat} (h : i < l.length) : v ∈ l.drop i ↔ v = l[i] ∨ v ∈ l.drop (i + 1) := by rw [List.drop_eq_getElem_cons h, List.mem_cons]
theorem index_l0 (l : List Int) (v : Int) (hl : l.length < 140737488355328) : ∀ (n i k : Nat), l.length - i ≤ n → n < k → i ≤ l.length → ∃ r, slices_Index_int_int.l0 k l v (l.length : Int) (i : Int) = some r ∧ (r ≥ 0 ↔ v ∈ l.drop i) := by
  intro n
  induction n with
  | zero =>
    intro i k hn hk hi
    obtain ⟨k, rfl⟩ : ∃ q, k = q + 1 := ⟨k - 1, by omega⟩
    refine ⟨-1, ?_, ?_⟩
    · simp only [slices_Index_int_int.l0]
      rw [if_neg (by omega)]
    · rw [List.drop_of_length_le (by omega)]
      simp
  | succ n ih =>
    intro i k hn hk hi
    obtain ⟨k, rfl⟩ : ∃ q, k = q + 1 := ⟨k - 1, by omega⟩
    simp only [slices_Index_int_int.l0]
    by_cases hlt : i < l.length
    · rw [if_pos (by omega), if_pos (by omega), if_pos (by omega), rd_at hlt]
      by_cases hv : v = l[i]
      · rw [if_pos hv]
        exact ⟨_, rfl, ⟨fun _ => (mem_drop hlt).2 (.inl hv), fun _ => by omega⟩⟩
      · rw [if_neg hv, w64n (by omega)]
        obtain ⟨r, hr, hm⟩ := ih (i + 1) k (by omega) (by omega) (by omega)
        exact ⟨r, hr, by rw [hm, mem_drop hlt]; exact ⟨.inr, fun h => h.resolve_left hv⟩⟩
    · refine ⟨-1, by rw [if_neg (by omega)], ?_⟩
      rw [List.drop_of_length_le (by omega)]
      simp
theorem contains_f {l : List Int} (hl : l.length < 140737488355328) (v : Int) {k : Nat} (hk : l.length < k) : slices_Contains_int_int.f k l v = some (decide (v ∈ l)) := by
  obtain ⟨r, hr, hm⟩ := index_l0 l v hl l.length 0 k (by omega) hk (by omega)
  unfold slices_Contains_int_int.f slices_Index_int_int.f
  rw [bind_of (show slices_Index_int_int.l0 k l v (l.length : Int) 0 = some r from hr)]
  congr 1
  rw [List.drop_zero] at hm
  exact decide_eq_decide.2 hm
/-- The lost sectors made zero, from byte a on, before byte n. -/
def zp (lost : List Int) (n a : Nat) (xs : List Int) : List Int := xs.mapIdx fun j x => if a ≤ j ∧ j < n ∧ ((j / 16 : Nat) : Int) ∈ lost then 0 else x
theorem zp_at (lost : List Int) (n a : Nat) (xs : List Int) (j : Nat) : (zp lost n a xs)[j]? = xs[j]?.map fun x => if a ≤ j ∧ j < n ∧ ((j / 16 : Nat) : Int) ∈ lost then 0 else x := List.getElem?_mapIdx
theorem zp_length (lost : List Int) (n a : Nat) (xs : List Int) : (zp lost n a xs).length = xs.length := List.length_mapIdx
theorem zp_done {lost : List Int} {n a : Nat} (h : n ≤ a) (xs : List Int) : zp lost n a xs = xs := by
  apply List.ext_getElem?
  intro j
  rw [zp_at]
  cases xs[j]? with
  | none => rfl
  | some x => simp only [Option.map_some]; rw [if_neg (by omega)]
theorem zp_take (lost : List Int) (n : Nat) (xs : List Int) : (zp lost n 0 xs).take n = zp lost n 0 (xs.take n) := by
  apply List.ext_getElem?
  intro j
  rw [zp_at]
  by_cases h : j < n
  · rw [List.getElem?_take_of_lt h, List.getElem?_take_of_lt h, zp_at]
  · rw [List.getElem?_take_eq_none (by omega), List.getElem?_take_eq_none (by omega)]
    rfl
theorem clr_at : ∀ (m a : Nat) (xs : List Int) (j : Nat), (disk_Crash.clr xs a m)[j]? = xs[j]?.map fun x => if a ≤ j ∧ j < a + m then 0 else x
  | 0, a, xs, j => by
    rw [disk_Crash.clr]
    cases xs[j]? with
    | none => rfl
    | some x => simp only [Option.map_some]; rw [if_neg (by omega)]
  | m + 1, a, xs, j => by
    rw [disk_Crash.clr, clr_at m (a + 1) (xs.set a 0) j, List.getElem?_set]
    by_cases h : a = j
    · subst h
      rw [if_pos rfl]
      by_cases hl : a < xs.length
      · rw [if_pos hl, List.getElem?_eq_getElem hl]
        simp only [Option.map_some]
        rw [if_neg (by omega), if_pos (by omega)]
      · rw [if_neg hl, List.getElem?_eq_none (by omega)]
        rfl
    · rw [if_neg h]
      cases xs[j]? with
      | none => rfl
      | some x =>
        simp only [Option.map_some]
        by_cases h2 : a + 1 ≤ j ∧ j < a + 1 + m
        · rw [if_pos h2, if_pos (by omega)]
        · rw [if_neg h2, if_neg (by omega)]
theorem zp_sector (lost : List Int) (n a : Nat) (ha : a % 16 = 0) (xs : List Int) :
    zp lost n (a + 16) (if ((a / 16 : Nat) : Int) ∈ lost then disk_Crash.clr xs a (min (a + 16) n - a) else xs) = zp lost n a xs := by
  apply List.ext_getElem?
  intro j
  rw [zp_at, zp_at]
  by_cases hl : ((a / 16 : Nat) : Int) ∈ lost
  · rw [if_pos hl, clr_at]
    cases xs[j]? with
    | none => rfl
    | some x =>
      simp only [Option.map_some]
      congr 1
      by_cases h1 : a ≤ j ∧ j < a + (min (a + 16) n - a)
      · have e : j / 16 = a / 16 := by omega
        rw [if_pos h1, if_pos (show a ≤ j ∧ j < n ∧ ((j / 16 : Nat) : Int) ∈ lost from ⟨h1.1, by omega, by rw [e]; exact hl⟩)]
        split <;> rfl
      · rw [if_neg h1]
        by_cases h2 : a + 16 ≤ j ∧ j < n ∧ ((j / 16 : Nat) : Int) ∈ lost
        · rw [if_pos h2, if_pos ⟨by omega, h2.2⟩]
        · rw [if_neg h2, if_neg (fun h => h2 ⟨by omega, h.2⟩)]
  · rw [if_neg hl]
    cases xs[j]? with
    | none => rfl
    | some x =>
      simp only [Option.map_some]
      congr 1
      by_cases h2 : a + 16 ≤ j ∧ j < n ∧ ((j / 16 : Nat) : Int) ∈ lost
      · rw [if_pos h2, if_pos ⟨by omega, h2.2⟩]
      · rw [if_neg h2, if_neg (fun h => h2 ⟨by
          rcases Nat.lt_or_ge j (a + 16) with h3 | h3
          · exact absurd (show ((a / 16 : Nat) : Int) ∈ lost by rw [← show j / 16 = a / 16 by omega]; exact h.2.2) hl
          · exact h3, h.2⟩)]
theorem zap_f {lost : List Int} (hl : lost.length < 140737488355328) {k : Nat} (hk : lost.length < k) (n : Nat) : ∀ (m a : Nat) (xs : List Int), n - a < m → a % 16 = 0 → disk_Crash.zap k lost n m xs a = some (zp lost n a xs) := by
  intro m
  induction m with
  | zero => intro a xs h; omega
  | succ m ih =>
    intro a xs h ha
    rw [disk_Crash.zap]
    by_cases hn : a < n
    · rw [if_pos hn, bind_of (contains_f hl _ hk), ih (a + 16) _ (by omega) (by omega)]
      congr 1
      rw [← zp_sector lost n a ha xs]
      simp only [decide_eq_true_eq]
    · rw [if_neg hn, zp_done (by omega)]

/-- How many pending bytes a tear keeps. -/
def keep (t : Tear) (p : List Int) : Nat := (max 0 (min t.f0 (p.length : Int))).toNat
theorem keep_le (t : Tear) (p : List Int) : keep t p ≤ p.length := by unfold keep; omega
/-- What survives of pending bytes. -/
def torn (t : Tear) (p : List Int) : List Int := zp t.f1 (keep t p) 0 (p.take (keep t p))
theorem torn_length (t : Tear) (p : List Int) : (torn t p).length = keep t p := by
  have := keep_le t p
  unfold torn
  rw [zp_length, List.length_take]
  omega
/-- The tear of a file. -/
def tear (l : List Tear) (i : Nat) : Tear := if i < l.length then rd_T39 l (i : Int) else z39
theorem tear_pos {l : List Tear} {i : Nat} (h : i < l.length) : tear l i = l[i] := by unfold tear; rw [if_pos h, tear_at h]
theorem tear_neg {l : List Tear} {i : Nat} (h : ¬ i < l.length) : tear l i = z39 := by unfold tear; rw [if_neg h]
theorem tear_lost {l : List Tear} {q : Nat} (h : ∀ x ∈ l, x.f1.length ≤ q) (i : Nat) : (tear l i).f1.length ≤ q := by
  by_cases hi : i < l.length
  · rw [tear_pos hi]
    exact h _ (List.getElem_mem hi)
  · rw [tear_neg hi]
    exact Nat.zero_le _
/-- A disk after a crash, from file a on. -/
def crf (l : List Tear) (a : Nat) (t : List File) : List File := t.mapIdx fun j f => if a ≤ j then ⟨f.f0 ++ torn (tear l j) f.f1, []⟩ else f
/-- A disk after a crash. -/
def crash (l : List Tear) (t : List File) : List File := crf l 0 t
theorem crf_at (l : List Tear) (a : Nat) (t : List File) (j : Nat) : (crf l a t)[j]? = t[j]?.map fun f => if a ≤ j then ⟨f.f0 ++ torn (tear l j) f.f1, []⟩ else f := List.getElem?_mapIdx
theorem crf_done {l : List Tear} {a : Nat} {t : List File} (h : t.length ≤ a) : crf l a t = t := by
  apply List.ext_getElem?
  intro j
  rw [crf_at]
  by_cases hj : j < t.length
  · rw [List.getElem?_eq_getElem hj]
    simp only [Option.map_some]
    rw [if_neg (by omega)]
  · rw [List.getElem?_eq_none (by omega)]
    rfl
theorem crf_step {l : List Tear} {a : Nat} {t : List File} (h : a < t.length) : crf l (a + 1) (t.set a ⟨t[a].f0 ++ torn (tear l a) t[a].f1, []⟩) = crf l a t := by
  apply List.ext_getElem?
  intro j
  rw [crf_at, crf_at, List.getElem?_set]
  by_cases hj : a = j
  · subst hj
    rw [if_pos rfl, if_pos h, List.getElem?_eq_getElem h]
    simp only [Option.map_some]
    rw [if_neg (by omega), if_pos (Nat.le_refl _)]
  · rw [if_neg hj]
    cases t[j]? with
    | none => rfl
    | some f =>
      simp only [Option.map_some]
      congr 1
      by_cases h2 : a + 1 ≤ j
      · rw [if_pos h2, if_pos (by omega)]
      · rw [if_neg h2, if_neg (by omega)]
theorem crash_length (l : List Tear) (t : List File) : (crash l t).length = t.length := List.length_mapIdx
theorem crash_at (l : List Tear) (t : List File) {j : Nat} (h : j < t.length) : (crash l t)[j]? = some ⟨t[j].f0 ++ torn (tear l j) t[j].f1, []⟩ := by
  unfold crash
  rw [crf_at, List.getElem?_eq_getElem h]
  rfl
theorem crash_good {m : Nat} {l : List Tear} {t : List File} (h : DGood m t) : DGood (m + m) (crash l t) := by
  refine ⟨by rw [crash_length]; exact h.len, fun f hf => ?_⟩
  obtain ⟨j, hj, he⟩ := List.getElem_of_mem hf
  have hj2 : j < t.length := by rw [← crash_length l t]; exact hj
  have h1 := crash_at l t hj2
  rw [List.getElem?_eq_getElem hj, he] at h1
  obtain rfl := Option.some.inj h1
  have h2 := h.at hj2
  have h3 := keep_le (tear l j) t[j].f1
  simp only [List.length_append, torn_length, List.length_nil]
  omega

theorem all_f {m q k : Nat} {l : List Tear} (hl : ∀ x ∈ l, x.f1.length ≤ q) (hq : q < 140737488355328) (hm : m ≤ 70368744177663) (hk : q < k) (hk2 : m < k) : ∀ (n i r : Nat) (t : List File), (∀ j (h : j < t.length), i ≤ j → t[j].f0.length ≤ m ∧ t[j].f1.length ≤ m) → t.length - i ≤ n → n < r →
    disk_Crash.all k l r t i = some (crf l i t) := by
  intro n
  induction n with
  | zero =>
    intro i r t h hn hr
    obtain ⟨r, rfl⟩ : ∃ q, r = q + 1 := ⟨r - 1, by omega⟩
    rw [disk_Crash.all, if_neg (by omega), crf_done (by omega)]
  | succ n ih =>
    intro i r t h hn hr
    obtain ⟨r, rfl⟩ : ∃ q, r = q + 1 := ⟨r - 1, by omega⟩
    rw [disk_Crash.all]
    by_cases hi : i < t.length
    · have hf := h i hi (Nat.le_refl _)
      have ht := tear_lost hl i
      have hkp := keep_le (tear l i) t[i].f1
      have e1 : disk_Crash.tear l i = tear l i := rfl
      have e2 : disk_Crash.kept (tear l i).f0 t[i] = keep (tear l i) t[i].f1 := rfl
      rw [if_pos hi, e1, file_at hi, e2, bind_of (zap_f (by omega) (by omega) _ k 0 _ (by omega) rfl), if_pos (by omega), zp_take]
      have g := ih (i + 1) r (t.set i ⟨t[i].f0 ++ torn (tear l i) t[i].f1, []⟩) (fun j hj hij => by
        rw [List.length_set] at hj
        rw [List.getElem_set_ne (by omega)]
        exact h j hj (by omega)) (by rw [List.length_set]; omega) (by omega)
      rw [crf_step hi] at g
      exact g
    · rw [if_neg hi, crf_done (by omega)]
theorem crash_f {m q k : Nat} {l : List Tear} {t : List File} (h : DGood m t) (hm : m ≤ 70368744177663) (hl : ∀ x ∈ l, x.f1.length ≤ q) (hq : q < 140737488355328) (hk : q < k) (hk2 : m < k) (hk3 : 100 < k) : disk_Crash.f k t l = some (crash l t) := by
  have := h.len
  unfold disk_Crash.f
  rw [bind_of (clone_f h (by omega) hk3)]
  exact all_f hl hq hm hk hk2 t.length 0 k t (fun j hj _ => h.at hj) (by omega) (by omega)

end Go.Proofs.Ytnfbjdnflifcoaa.Dk
