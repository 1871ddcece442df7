/- Confirming again and again confirms all events: one confirmation for each message, and never less than before (SenderlogEnds; no condition). -/
import Derived.Test.YtpcfgpghfegjkaaSl
namespace Go.Proofs.Ytpcfgpghfegjkaa.Pure
open Go.RowKit Go.Proofs.Ytpcfgpghfegjkaa.PSl Go.Proofs.YtpcfgpghfegjkaaW.PrintWords Go.Proofs.YtpcfgpghfegjkaaW.PrintLast Go.Proofs.Ytpcfgpghfegjkaa.Mk Go.Proofs.Ytpcfgpghfegjkaa.Sl

/-- How many messages stand from place a on. -/
def rc (l : List S34) (a : Nat) : Nat := (l.drop a).countP (fun e => decide (e.f0 = 1))

theorem rc_step {l : List S34} {a : Nat} (h : a < l.length) : rc l a = rc l (a + 1) + if (rd_T34 l (a : Int)).f0 = 1 then 1 else 0 := by
  unfold rc
  rw [drop_at h, List.countP_cons]
  simp

theorem rc_end (l : List S34) : rc l l.length = 0 := by simp [rc]

theorem rc_skip {l : List S34} : ∀ (d a : Nat), a + d ≤ l.length → (∀ m : Nat, a ≤ m → m < a + d → (rd_T34 l (m : Int)).f0 ≠ 1) → rc l a = rc l (a + d) := by
  intro d
  induction d with
  | zero => intro a _ _; rfl
  | succ d ih =>
    intro a h hm
    rw [rc_step (by omega), if_neg (hm a (by omega) (by omega)), ih (a + 1) (by omega) (fun m h1 h2 => hm m (by omega) (by omega))]
    rw [show a + 1 + d = a + (d + 1) by omega]
    rfl

theorem rc_pos {l : List S34} {a j : Nat} (h1 : a ≤ j) (h2 : j < l.length) (h3 : (rd_T34 l (j : Int)).f0 = 1) : 0 < rc l a := by
  unfold rc
  rw [List.countP_pos_iff]
  refine ⟨rd_T34 l (j : Int), ?_, by simpa using h3⟩
  have : rd_T34 l (j : Int) = l[j] := by simp [rd_T34, List.getD_eq_getElem?_getD, List.getElem?_eq_getElem h2]
  rw [this, List.mem_drop_iff_getElem]
  exact ⟨j - a, by omega, by simp [show a + (j - a) = j by omega]⟩

theorem rc_le (l : List S34) (c : Nat) : rc l c ≤ l.length := by
  unfold rc
  have := List.countP_le_length (p := fun e : S34 => decide (e.f0 = 1)) (l := l.drop c)
  simp at this ⊢
  omega

theorem ends_l1 (l : List S34) (hl : l.length ≤ 1000000) : ∀ (d k : Nat) (c : Nat), c ≤ l.length → d + l.length + 1 < k → rc l c = d →
    rollbacknetlaw29_SenderlogEnds.l1 k l (c : Int) (d : Int) = some true := by
  intro d
  induction d with
  | zero =>
    intro k c hc hk hr
    obtain ⟨k, rfl⟩ : ∃ m, k = m + 1 := ⟨k - 1, by omega⟩
    have h0 : nx l (c : Int) 0 = 0 := by
      rcases nx_tells (c : Int) l 0 (by omega) with ⟨h, _⟩ | ⟨j, hj, _, h2, h3, _⟩
      · exact h
      · have := rc_pos (l := l) (a := c) (j := j) (by omega) hj h3
        omega
    simp only [rollbacknetlaw29_SenderlogEnds.l1]
    rw [if_neg (by omega), next_f l _ (by omega) (by omega)]
    simp only [Option.bind_some]
    rw [if_pos h0, confirm_f l _ (by omega) (by omega)]
    simp only [Option.bind_some]
    unfold cf
    rw [if_pos h0]
    simp
  | succ d ih =>
    intro k c hc hk hr
    obtain ⟨k, rfl⟩ : ∃ m, k = m + 1 := ⟨k - 1, by omega⟩
    have hle := rc_le l c
    rcases nx_tells (c : Int) l 0 (by omega) with ⟨_, h⟩ | ⟨j, hj, e1, h2, h3, h4⟩
    · have := rc_skip (l := l) (l.length - c) c (by omega) (fun m h1 h2 => h m (by omega) (by omega))
      rw [show c + (l.length - c) = l.length by omega, rc_end] at this
      omega
    · have ej : rc l c = rc l j := by
        have := rc_skip (l := l) (j - c) c (by omega) (fun m h1 h5 => h4 m (by omega) (by omega))
        rwa [show c + (j - c) = j by omega] at this
      have ej2 := rc_step hj
      rw [if_pos h3] at ej2
      -- the next one's place
      obtain ⟨c', hc', e2, h5, h6⟩ : ∃ c' : Nat, c' ≤ l.length ∧ cf l (c : Int) = (c' : Int) ∧ j + 1 ≤ c' ∧ rc l (j + 1) = rc l c' := by
        unfold cf
        rw [if_neg (by omega)]
        rcases nx_tells (nx l (c : Int) 0) l 0 (by omega) with ⟨e3, h⟩ | ⟨m, hm, e3, g2, g3, g4⟩
        · rw [if_pos e3]
          refine ⟨l.length, by omega, rfl, by omega, ?_⟩
          have := rc_skip (l := l) (l.length - (j + 1)) (j + 1) (by omega) (fun m h1 h2 => h m (by omega) (by omega))
          rwa [show j + 1 + (l.length - (j + 1)) = l.length by omega] at this
        · rw [if_neg (by omega)]
          refine ⟨m, by omega, by omega, by omega, ?_⟩
          have := rc_skip (l := l) (m - (j + 1)) (j + 1) (by omega) (fun m h1 h5 => g4 m (by omega) (by omega))
          rwa [show j + 1 + (m - (j + 1)) = m by omega] at this
      simp only [rollbacknetlaw29_SenderlogEnds.l1]
      rw [if_pos (by omega), next_f l _ (by omega) (by omega)]
      simp only [Option.bind_some]
      rw [confirm_f l _ (by omega) (by omega)]
      simp only [Option.bind_some]
      rw [e2, if_neg (by omega), if_neg (by omega), if_neg (by omega), w64 (x := nx l (c : Int) 0 - 1) (by omega), if_pos (by omega), if_pos (by omega)]
      rw [show nx l (c : Int) 0 - 1 = (j : Int) by omega, if_pos h3, w64 (by omega), show ((d + 1 : Nat) : Int) - 1 = (d : Int) by omega]
      exact ih k c' hc' (by omega) (by omega)

theorem ends_l0 (l : List S34) (hl : l.length ≤ 1000000) (c : Nat) (hc : c ≤ l.length) : ∀ (n k cnt i : Nat), l.length - i ≤ n → n + cnt + rc l i + l.length + 2 < k → i ≤ l.length → c ≤ i → cnt + rc l i = rc l c → cnt ≤ i →
    rollbacknetlaw29_SenderlogEnds.l0 k l (c : Int) (cnt : Int) (i : Int) = some true := by
  intro n
  induction n with
  | zero =>
    intro k cnt i h hk hi hci hr hcn
    obtain ⟨k, rfl⟩ : ∃ m, k = m + 1 := ⟨k - 1, by omega⟩
    obtain rfl : i = l.length := by omega
    simp only [rollbacknetlaw29_SenderlogEnds.l0]
    rw [if_neg (by omega)]
    rw [rc_end] at hr
    exact ends_l1 l hl cnt k c hc (by omega) (by omega)
  | succ n ih =>
    intro k cnt i h hk hi hci hr hcn
    obtain ⟨k, rfl⟩ : ∃ m, k = m + 1 := ⟨k - 1, by omega⟩
    by_cases hlt : i < l.length
    · have hs := rc_step hlt
      simp only [rollbacknetlaw29_SenderlogEnds.l0]
      rw [if_pos (by omega), if_pos (by omega), w64 (x := (i : Int) + 1) (by omega)]
      by_cases h1 : (rd_T34 l (i : Int)).f0 = 1
      · rw [if_pos h1] at hs
        rw [if_pos h1, w64 (by omega)]
        exact ih k (cnt + 1) (i + 1) (by omega) (by omega) (by omega) (by omega) (by omega) (by omega)
      · rw [if_neg h1] at hs
        rw [if_neg h1]
        exact ih k cnt (i + 1) (by omega) (by omega) (by omega) (by omega) (by omega) (by omega)
    · obtain rfl : i = l.length := by omega
      simp only [rollbacknetlaw29_SenderlogEnds.l0]
      rw [if_neg (by omega)]
      rw [rc_end] at hr
      exact ends_l1 l hl cnt k c hc (by omega) (by omega)

/-- The pure statement. -/
theorem SenderlogEnds : rollbacknetlaw29_SenderlogEnds.Pure := by
  intro l0 a1 _ _ hb ha
  obtain ⟨l, e1, h1⟩ := new_ok hb (m := 100) (by omega) (by omega)
  obtain ⟨ys, q, hy, h2, e2⟩ := events_ok h1 (n := 14) (by omega) (by omega)
  obtain ⟨K, hK⟩ : ∃ K : Nat, 2000 ≤ K := ⟨2000, by omega⟩
  refine ⟨K, ?_⟩
  unfold rollbacknetlaw29_SenderlogEnds.f
  have e3 := mod_ok (n := (ys.length : Int) + 1) (wf_i64 ha) (by omega) (by omega)
  rw [bind_of (awake_f (by omega)), if_pos rfl, bind_of e1, bind_of (e2 K (by omega)), w64 (by dsimp only; omega), bind_of e3]
  dsimp only
  have g0 := Int.emod_nonneg a1 (b := (ys.length : Int) + 1) (by omega)
  have g1 := Int.emod_lt_of_pos a1 (b := (ys.length : Int) + 1) (by omega)
  obtain ⟨c, hc⟩ := Int.eq_ofNat_of_zero_le g0
  rw [hc]
  have := rc_le ys c
  exact ends_l0 ys (by omega) c (by omega) 255 K 0 c (by omega) (by omega) (by omega) (by omega) (by omega) (by omega)
end Go.Proofs.Ytpcfgpghfegjkaa.Pure
