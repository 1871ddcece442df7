/- The difference of two images leads from the first one to the second one (ImageBack; no condition). -/
import Derived.Test.YtkjnledamamniaaPImpImageBack
import Derived.Test.YtkjnledamamniaaImApply
import Derived.Test.YtkjnledamamniaaImChange
namespace Go.Proofs.Ytkjnledamamniaa.Pure
open Go.RowKit Go.Proofs.Ytkjnledamamniaa.PIm Go.Proofs.YtkjnledamamniaaW.PrintWords Go.Proofs.YtkjnledamamniaaW.PrintLast Go.Proofs.Ytkjnledamamniaa.Im
theorem fill_get : ∀ (ys : List Int) (a : Nat) (xs : List Int) (j : Nat), a + ys.length ≤ xs.length → (image_Apply.fill xs a ys)[j]? = if a ≤ j ∧ j < a + ys.length then ys[j - a]? else xs[j]?
  | [], a, xs, j, _ => by rw [image_Apply.fill, if_neg (by simp)]
  | y :: ys, a, xs, j, h => by
    simp only [List.length_cons] at h ⊢
    rw [image_Apply.fill, fill_get ys (a + 1) (xs.set a y) j (by rw [List.length_set]; omega)]
    by_cases h1 : j = a
    · subst h1
      rw [if_neg (by omega), if_pos (by omega), List.getElem?_set_self (by omega), Nat.sub_self]
      rfl
    · by_cases h2 : a + 1 ≤ j ∧ j < a + 1 + ys.length
      · rw [if_pos h2, if_pos (by omega), show j - a = (j - (a + 1)) + 1 by omega, List.getElem?_cons_succ]
      · rw [if_neg h2, if_neg (by omega), List.getElem?_set_ne (by omega)]
theorem back_go {a d : List Int} (hl : d.length = a.length) : ∀ (m i : Nat) (b : List Int), i + m = cnt d → b.length = d.length → (∀ j, b[j]? = if j < 4 * i then d[j]? else a[j]?) → image_Apply.go b (dif a d i m) = (d, 0) := by
  intro m
  induction m with
  | zero =>
    intro i b hi hb hg
    rw [dif, image_Apply.go]
    congr 1
    apply List.ext_getElem?
    intro j
    rw [hg]
    by_cases h : j < 4 * i
    · rw [if_pos h]
    · unfold cnt at hi
      rw [if_neg h, List.getElem?_eq_none (by omega), List.getElem?_eq_none (by omega)]
  | succ m ih =>
    intro i b hi hb hg
    rw [dif]
    have hc : 4 * i < d.length := by unfold cnt at hi; omega
    have hpl := pg_length d i
    by_cases he : pg a i = pg d i
    · rw [show dl a d i = [] from if_pos ⟨hl.symm, he⟩, List.nil_append]
      refine ih (i + 1) b (by omega) hb (fun j => ?_)
      rw [hg]
      by_cases h1 : j < 4 * i
      · rw [if_pos h1, if_pos (by omega)]
      · rw [if_neg h1]
        by_cases h2 : j < 4 * (i + 1)
        · rw [if_pos h2]
          have e1 := pg_get a i (j - 4 * i)
          have e2 := pg_get d i (j - 4 * i)
          rw [if_pos (by omega), show 4 * i + (j - 4 * i) = j by omega] at e1 e2
          rw [← e1, ← e2, he]
        · rw [if_neg h2]
    · rw [show dl a d i = [⟨(i : Int), pg d i⟩] from if_neg (fun h => he h.2), List.singleton_append, image_Apply.go]
      simp only []
      rw [if_neg (by omega), if_neg (by unfold cnt at hi; rw [hb]; omega), Int.toNat_natCast, if_pos (by rw [hb, hpl])]
      refine ih (i + 1) _ (by omega) (by rw [image_Apply.fill_length]; exact hb) (fun j => ?_)
      rw [fill_get _ _ _ _ (by rw [hb, hpl]; omega)]
      by_cases h1 : 4 * i ≤ j ∧ j < 4 * i + (pg d i).length
      · rw [if_pos h1, if_pos (by omega), pg_get, if_pos (by omega), show 4 * i + (j - 4 * i) = j by omega]
      · rw [if_neg h1, hg]
        by_cases h2 : j < 4 * i
        · rw [if_pos h2, if_pos (by omega)]
        · rw [if_neg h2]
          by_cases h3 : j < 4 * (i + 1)
          · rw [if_pos h3, List.getElem?_eq_none (by omega), List.getElem?_eq_none (by omega)]
          · rw [if_neg h3]
/-- The number of cells in pages. -/
def cells : List Page → Nat
  | [] => 0
  | p :: t => p.f1.length + cells t
theorem dif_cost (a d : List Int) : ∀ (m i : Nat), i + m = cnt d → cells (dif a d i m) ≤ d.length - 4 * i := by
  intro m
  induction m with
  | zero => intro i _; exact Nat.zero_le _
  | succ m ih =>
    intro i hi
    have g := ih (i + 1) (by omega)
    have hpl := pg_length d i
    have hc : 4 * i < d.length := by unfold cnt at hi; omega
    rw [dif]
    unfold dl
    split
    · rw [List.nil_append]; omega
    · rw [List.singleton_append, cells]; simp only []; omega
theorem cost_eq {t : List Page} (hl : t.length ≤ 1000000) : ∀ (n i k s : Nat), t.length - i ≤ n → n < k → i ≤ t.length → s + cells (t.drop i) ≤ 1000000 → image_Cost.l0 k (s : Int) t (t.length : Int) (i : Int) = some ((s + cells (t.drop i) : Nat) : Int) := by
  intro n
  induction n with
  | zero =>
    intro i k s hn hk hi hs
    obtain ⟨k, rfl⟩ : ∃ q, k = q + 1 := ⟨k - 1, by omega⟩
    rw [image_Cost.l0, if_neg (by omega), List.drop_eq_nil_of_le (by omega)]
    rfl
  | succ n ih =>
    intro i k s hn hk hi hs
    obtain ⟨k, rfl⟩ : ∃ q, k = q + 1 := ⟨k - 1, by omega⟩
    by_cases hlt : i < t.length
    · rw [List.drop_eq_getElem_cons hlt, cells] at hs ⊢
      rw [image_Cost.l0, if_pos (by omega), if_pos (by omega), if_pos (by omega), rdp_at hlt, w64 (by omega), w64n (by omega)]
      have g := ih (i + 1) k (s + t[i].f1.length) (by omega) (by omega) (by omega) (by omega)
      rw [show (s : Int) + (t[i].f1.length : Int) = ((s + t[i].f1.length : Nat) : Int) by omega, g]
      congr 2
      omega
    · rw [image_Cost.l0, if_neg (by omega), List.drop_eq_nil_of_le (by omega)]
      rfl
theorem dif_self (d : List Int) : ∀ m i, dif d d i m = [] := by
  intro m
  induction m with
  | zero => intro i; rfl
  | succ m ih => intro i; rw [dif, show dl d d i = [] from if_pos ⟨rfl, rfl⟩, ih]; rfl

theorem ImageBack : rollbacknetlaw07_ImageBack.Pure := by
  intro a l _ _ _ _ _ hl
  refine ⟨2000, ?_⟩
  unfold rollbacknetlaw07_ImageBack.f
  rw [bind_of (awake_f (by omega)), if_pos rfl]
  by_cases h1 : (a.length : Int) > 200
  · rw [if_pos h1]
  rw [if_neg h1]
  obtain ⟨l', e, ok⟩ := new_ok hl (m := 40) (by omega) (by omega)
  obtain ⟨d, q, e2, hd, _⟩ := change_f ok (a := a) (by omega) (k := 2000) (by omega)
  rw [bind_of e]
  simp only []
  rw [bind_of e2]
  simp only []
  have hc : cnt d ≤ 60 := by unfold cnt; omega
  have hlen := dif_len a d (cnt d) 0
  have hcost := dif_cost a d (cnt d) 0 (by omega)
  have hgo := back_go hd (cnt d) 0 a (by omega) hd.symm (fun j => by rw [if_neg (by omega)])
  have hce := cost_eq (t := dif a d 0 (cnt d)) (by omega) (dif a d 0 (cnt d)).length 0 2000 0 (by omega) (by omega) (by omega) (by rw [List.drop_zero]; omega)
  rw [bind_of (diff_f (by omega) (by omega) (by omega)), bind_of (apply_f (by omega) _), hgo]
  simp only []
  rw [if_pos trivial, bind_of (ints_f (by omega) (by omega)), decide_eq_true rfl, if_pos rfl]
  have hcf : image_Cost.f 2000 (dif a d 0 (cnt d)) = some ((0 + cells ((dif a d 0 (cnt d)).drop 0) : Nat) : Int) := hce
  rw [bind_of hcf, List.drop_zero, if_pos (by omega), bind_of (diff_f (by omega) (by omega) (by omega)), dif_self]
  rfl
end Go.Proofs.Ytkjnledamamniaa.Pure
