/- Confirming again and again confirms all events: one confirmation for each message, and never less than before (SenderlogEnds, with no condition). -/
import Derived.Test.YtpcfgpghfegjkaaPSenderlogEndsx2
namespace Go.Proofs.Ytpcfgpghfegjkaa.Pure
open Go.RowKit Go.Proofs.Ytpcfgpghfegjkaa.PSenderlogEnds Go.Proofs.YtpcfgpghfegjkaaW.PrintWords Go.Proofs.YtpcfgpghfegjkaaW.PrintLast

theorem w64 {x : Int} (h : -9223372036854775808 ≤ x ∧ x ≤ 9223372036854775807) : wrap64 x = x := by unfold wrap64; omega

/-- A state of the choices. -/
structure Ok (l : List Int) (p : Int) : Prop where
  lo : 0 ≤ p
  hi : p ≤ (l.length : Int)
  len : (l.length : Int) ≤ 1000000
  byte : ∀ x ∈ l, 0 ≤ x ∧ x < 256

theorem rd_mem {l : List Int} {i : Int} (h0 : 0 ≤ i) (h1 : i < (l.length : Int)) : rd l i ∈ l := by
  unfold rd
  rw [List.getD_eq_getElem?_getD, List.getElem?_eq_getElem (by omega)]
  simp

theorem left_eq (l : List Int) (p : Int) : rollbacknetmake_Codes_Left.f l p = some (decide (p < (l.length : Int)), p) := rfl

theorem next_ok {l : List Int} {p : Int} (h : Ok l p) {n : Int} (h1 : 1 ≤ n) (h2 : n ≤ 256) :
    ∃ r q, rollbacknetmake_Codes_Next.f l p n = some (r, q) ∧ 0 ≤ r ∧ r < n ∧ Ok l q := by
  obtain ⟨a, b, c, d⟩ := h
  unfold rollbacknetmake_Codes_Next.f
  rw [left_eq]
  simp only [Option.bind_some]
  by_cases hl : p < (l.length : Int)
  · have e1 : wrap64 (p + 1) = p + 1 := w64 (by omega)
    have e2 : wrap64 (p + 1 - 1) = p := by rw [w64 (by omega)]; omega
    have hb := d _ (rd_mem a hl)
    rw [if_pos (by simpa using hl), e1, e2, if_pos a, if_pos hl, if_neg (by omega), w64 (by omega)]
    rw [Int.tmod_eq_emod_of_nonneg hb.1]
    exact ⟨_, _, rfl, Int.emod_nonneg _ (by omega), Int.emod_lt_of_pos _ (by omega), by omega, by omega, c, d⟩
  · rw [if_neg (by simpa using hl)]
    exact ⟨_, _, rfl, by omega, by omega, a, b, c, d⟩

theorem wf_u8 {x : Int} (h : (Lit.int .u8 x).wf = true) : 0 ≤ x ∧ x < 256 := by
  simp [Lit.wf, IntKind.min, IntKind.max, IntKind.bits, IntKind.signed] at h
  omega
theorem wf_i64 {x : Int} (h : (Lit.int .i64 x).wf = true) : -9223372036854775808 ≤ x ∧ x ≤ 9223372036854775807 := by
  simp [Lit.wf, IntKind.min, IntKind.max, IntKind.bits, IntKind.signed] at h
  omega
theorem bind_of {α β : Type} {o : Option α} {a : α} {f : α → Option β} (h : o = some a) : o.bind f = f a := by rw [h]; rfl
theorem new_ok {l : List Int} {m : Int} (hl : ∀ x ∈ l, (Lit.int .u8 x).wf = true) (h0 : 0 ≤ m) (h1 : m ≤ 1000000) :
    ∃ l', rollbacknetmake_New.f l m = some (l', 0) ∧ Ok l' 0 := by
  have hb : ∀ x ∈ l, 0 ≤ x ∧ x < 256 := by
    intro x hx
    exact wf_u8 (hl x hx)
  unfold rollbacknetmake_New.f
  by_cases h : (l.length : Int) > m
  · rw [if_pos h, if_pos h0, if_pos (by omega)]
    refine ⟨_, rfl, by omega, by omega, ?_, fun x hx => hb x (List.mem_of_mem_take hx)⟩
    simp only [List.length_take]
    omega
  · rw [if_neg h]
    exact ⟨_, rfl, by omega, by omega, by omega, hb⟩

theorem int_ok {l : List Int} {p : Int} (h : Ok l p) : ∃ r q, rollbacknetmake_Codes_Int.f l p = some (r, q) ∧ (-9223372036854775808 ≤ r ∧ r ≤ 9223372036854775807) ∧ Ok l q := by
  obtain ⟨r, q, e, a, b, h1⟩ := next_ok h (n := 6) (by omega) (by omega)
  unfold rollbacknetmake_Codes_Int.f
  simp only [Option.bind_some]
  rw [e]
  simp only [Option.bind_some]
  by_cases h5 : r = 5
  · rw [if_pos h5]
    obtain ⟨r2, q2, e2, a2, b2, h2⟩ := next_ok h1 (n := 10) (by omega) (by omega)
    refine ⟨_, _, (bind_of (f := _) e2).trans ((if_pos a2).trans (if_pos b2)), ?_, h2⟩
    have : r2 = 0 ∨ r2 = 1 ∨ r2 = 2 ∨ r2 = 3 ∨ r2 = 4 ∨ r2 = 5 ∨ r2 = 6 ∨ r2 = 7 ∨ r2 = 8 ∨ r2 = 9 := by omega
    rcases this with rfl | rfl | rfl | rfl | rfl | rfl | rfl | rfl | rfl | rfl <;> simp [rd]
  · rw [if_neg h5]
    obtain ⟨r2, q2, e2, a2, b2, h2⟩ := next_ok h1 (n := 12) (by omega) (by omega)
    rw [e2]
    simp only [Option.bind_some]
    exact ⟨_, _, rfl, by rw [w64 (by omega)]; omega, h2⟩

theorem event_ok {l : List Int} {p : Int} (h : Ok l p) : ∃ a b c d e f g q, rollbacknetmake_Codes_Event.f l p = some (a, b, c, d, e, f, g, q) ∧ Ok l q := by
  obtain ⟨r1, q1, e1, a1, b1, h1⟩ := next_ok h (n := 3) (by omega) (by omega)
  obtain ⟨r2, q2, e2, a2, b2, h2⟩ := next_ok h1 (n := 3) (by omega) (by omega)
  obtain ⟨r3, q3, e3, a3, h3⟩ := int_ok h2
  unfold rollbacknetmake_Codes_Event.f
  simp only [e1, e2, e3, Option.bind_some]
  by_cases hr : wrap64 (1 + r1) = 1
  · rw [if_pos hr]
    obtain ⟨r4, q4, e4, a4, b4, h4⟩ := next_ok h3 (n := 3) (by omega) (by omega)
    obtain ⟨r5, q5, e5, a5, b5, h5⟩ := next_ok h4 (n := 2) (by omega) (by omega)
    obtain ⟨r6, q6, e6, a6, b6, h6⟩ := next_ok h5 (n := 5) (by omega) (by omega)
    obtain ⟨r7, q7, e7, a7, b7, h7⟩ := next_ok h6 (n := 3) (by omega) (by omega)
    simp only [e4, e5, e6, e7, Option.bind_some]
    exact ⟨_, _, _, _, _, _, _, _, rfl, h7⟩
  · rw [if_neg hr]
    exact ⟨_, _, _, _, _, _, _, _, rfl, h3⟩

theorem events_l0 (l : List Int) : ∀ (n : Nat) (k : Nat) (xs : List S34) (p : Int), n < k → xs.length + n ≤ 1000000 → Ok l p →
    ∃ ys q, rollbacknetmake_Codes_Events.l0 k xs (n : Int) l p = some (ys, q) ∧ ys.length = xs.length + n ∧ Ok l q := by
  intro n
  induction n with
  | zero =>
    intro k xs p hk _ h
    obtain ⟨k, rfl⟩ : ∃ m, k = m + 1 := ⟨k - 1, by omega⟩
    exact ⟨xs, p, by simp only [rollbacknetmake_Codes_Events.l0]; rw [if_neg (by omega)], rfl, h⟩
  | succ n ih =>
    intro k xs p hk hn h
    obtain ⟨k, rfl⟩ : ∃ m, k = m + 1 := ⟨k - 1, by omega⟩
    obtain ⟨a, b, c, d, e, f, g, q, he, hq⟩ := event_ok h
    obtain ⟨ys, q2, e2, hy, h2⟩ := ih k (xs ++ [⟨a, b, c, ⟨d, e⟩, f, g⟩]) q (by omega) (by simp; omega) hq
    refine ⟨ys, q2, ?_, by rw [hy]; simp; omega, h2⟩
    simp only [rollbacknetmake_Codes_Events.l0]
    rw [if_pos (by omega), he]
    simp only [Option.bind_some]
    rw [if_pos (by omega), w64 (by omega), show ((n + 1 : Nat) : Int) - 1 = (n : Int) by omega]
    exact e2

theorem events_ok {l : List Int} {p : Int} (h : Ok l p) {n : Int} (h0 : 0 ≤ n) (h1 : n ≤ 255) :
    ∃ ys q, ys.length ≤ 255 ∧ Ok l q ∧ ∀ k, 256 ≤ k → rollbacknetmake_Codes_Events.f k l p n = some (ys, q) := by
  obtain ⟨r, q, e, a, b, hq⟩ := next_ok h (n := n + 1) (by omega) (by omega)
  obtain ⟨m, rfl⟩ := Int.eq_ofNat_of_zero_le a
  obtain ⟨ys, q2, e2, hy, h2⟩ := events_l0 l m 256 [] q (by omega) (by simp; omega) hq
  refine ⟨ys, q2, by rw [hy]; simp; omega, h2, fun k hk => at_rounds (fun k => rollbacknetmake_Codes_Events.mono l p n k) hk ?_⟩
  unfold rollbacknetmake_Codes_Events.f
  rw [w64 (by omega), e]
  exact e2

theorem mod_ok {x n : Int} (hx : -9223372036854775808 ≤ x ∧ x ≤ 9223372036854775807) (h0 : 0 < n) (h1 : n ≤ 4611686018427387904) :
    rollbacknetmake_Mod.f x n = some (x % n) := by
  unfold rollbacknetmake_Mod.f
  rw [if_neg (by omega)]
  have e := Int.tmod_eq_emod (a := x) (b := n)
  have a := Int.emod_nonneg x (b := n) (by omega)
  have b := Int.emod_lt_of_pos x h0
  by_cases hn : 0 ≤ x
  · rw [Int.tmod_eq_emod_of_nonneg hn, if_neg (by omega)]
  · by_cases hd : n ∣ x
    · rw [Int.tmod_eq_zero_of_dvd hd, if_neg (by omega), Int.emod_eq_zero_of_dvd hd]
    · rw [if_neg (by simp [hd]; omega)] at e
      have hab : (n.natAbs : Int) = n := by omega
      rw [hab] at e
      have hz : x % n ≠ 0 := fun h => hd (Int.dvd_of_emod_eq_zero h)
      rw [if_pos (by omega), w64 (by omega)]
      congr 1
      omega

/-- The next event to be confirmed: of the events from place i on. -/
def nx : List S34 → Int → Int → Int
  | [], _, _ => 0
  | e :: l, c, i => if e.f0 = 1 ∧ i + 1 > c then i + 1 else nx l c (i + 1)

theorem drop_at {xs : List S34} {i : Nat} (h : i < xs.length) : xs.drop i = rd_T34 xs (i : Int) :: xs.drop (i + 1) := by
  rw [List.drop_eq_getElem_cons h]
  simp [rd_T34, List.getD_eq_getElem?_getD, List.getElem?_eq_getElem h]

theorem next_l0 (l : List S34) (c : Int) (hl : l.length ≤ 1000000000000) : ∀ (n i k : Nat), l.length - i ≤ n → n < k → i ≤ l.length →
    senderlog_Next.l0 k c l (l.length : Int) (i : Int) = some (nx (l.drop i) c i) := by
  intro n
  induction n with
  | zero =>
    intro i k h hk hi
    obtain ⟨k, rfl⟩ : ∃ m, k = m + 1 := ⟨k - 1, by omega⟩
    simp only [senderlog_Next.l0]
    rw [if_neg (by omega), List.drop_eq_nil_of_le (by omega)]
    rfl
  | succ n ih =>
    intro i k h hk hi
    obtain ⟨k, rfl⟩ : ∃ m, k = m + 1 := ⟨k - 1, by omega⟩
    by_cases hlt : i < l.length
    · simp only [senderlog_Next.l0]
      rw [if_pos (by omega), if_pos (by omega), if_pos (by omega), w64 (by omega), drop_at hlt]
      have hn := ih (i + 1) k (by omega) (by omega) (by omega)
      simp only [Int.natCast_add, Int.cast_ofNat_Int] at hn
      simp only [nx]
      by_cases h1 : (rd_T34 l (i : Int)).f0 = 1
      · rw [if_pos h1]
        by_cases h2 : (i : Int) + 1 > c
        · rw [if_pos h2, if_pos ⟨h1, h2⟩]
        · rw [if_neg h2, if_neg (fun h => h2 h.2)]
          exact hn
      · rw [if_neg h1, if_neg (fun h => h1 h.1)]
        exact hn
    · simp only [senderlog_Next.l0]
      rw [if_neg (by omega), List.drop_eq_nil_of_le (by omega)]
      rfl

theorem next_f (l : List S34) (c : Int) (hl : l.length ≤ 1000000000000) {k : Nat} (hk : l.length < k) : senderlog_Next.f k l c = some (nx l c 0) := by
  unfold senderlog_Next.f
  exact next_l0 l c hl l.length 0 k (by omega) hk (by omega)

/-- Where it lies. -/
theorem nx_tells (c : Int) : ∀ (l : List S34) (i : Int), 0 ≤ i → (nx l c i = 0 ∧ ∀ j : Nat, j < l.length → i + j + 1 > c → (rd_T34 l j).f0 ≠ 1) ∨
    ∃ j : Nat, j < l.length ∧ nx l c i = i + j + 1 ∧ i + j + 1 > c ∧ (rd_T34 l j).f0 = 1 ∧ ∀ m : Nat, m < j → i + m + 1 > c → (rd_T34 l m).f0 ≠ 1 := by
  intro l
  induction l with
  | nil => intro i _; exact .inl ⟨rfl, fun j h => by simp at h⟩
  | cons e l ih =>
    intro i hi
    have h0 : (rd_T34 (e :: l) ((0 : Nat) : Int)) = e := rfl
    have hs : ∀ j : Nat, rd_T34 (e :: l) ((j + 1 : Nat) : Int) = rd_T34 l (j : Int) := fun j => by simp [rd_T34]
    simp only [nx]
    by_cases h : e.f0 = 1 ∧ i + 1 > c
    · rw [if_pos h]
      exact .inr ⟨0, by simp, by simp, by simpa using h.2, by rw [h0]; exact h.1, fun m hm => by omega⟩
    · rw [if_neg h]
      rcases ih (i + 1) (by omega) with ⟨e1, h1⟩ | ⟨j, hj, e1, h2, h3, h4⟩
      · refine .inl ⟨e1, fun j hj hc => ?_⟩
        cases j with
        | zero => rw [h0]; exact fun h5 => h ⟨h5, by simpa using hc⟩
        | succ j => rw [hs]; exact h1 j (by simpa using hj) (by omega)
      · refine .inr ⟨j + 1, by simpa using hj, by omega, by omega, by rw [hs]; exact h3, fun m hm hc => ?_⟩
        cases m with
        | zero => rw [h0]; exact fun h5 => h ⟨h5, by simpa using hc⟩
        | succ m => rw [hs]; exact h4 m (by omega) (by omega)

/-- Up to which event is confirmed by the next confirmation. -/
def cf (l : List S34) (c : Int) : Int := if nx l c 0 = 0 then c else if nx l (nx l c 0) 0 = 0 then (l.length : Int) else nx l (nx l c 0) 0 - 1

theorem nx_le (l : List S34) (c : Int) : 0 ≤ nx l c 0 ∧ nx l c 0 ≤ l.length := by
  rcases nx_tells c l 0 (by omega) with ⟨h, _⟩ | ⟨j, hj, h, _⟩ <;> omega

theorem confirm_f (l : List S34) (c : Int) (hl : l.length ≤ 1000000000000) {k : Nat} (hk : l.length < k) : senderlog_Confirm.f k l c = some (cf l c) := by
  unfold senderlog_Confirm.f cf
  rw [next_f l c hl hk]
  simp only [Option.bind_some]
  split
  · rfl
  · rw [next_f l _ hl hk]
    simp only [Option.bind_some]
    have := nx_le l (nx l c 0)
    split
    · rfl
    · rw [w64 (by omega)]

/-- How many messages stand from place a on. -/
def rc (l : List S34) (a : Nat) : Nat := (l.drop a).countP (fun e => decide (e.f0 = 1))

theorem rc_step {l : List S34} {a : Nat} (h : a < l.length) : rc l a = rc l (a + 1) + if (rd_T34 l (a : Int)).f0 = 1 then 1 else 0 := by
  unfold rc
  rw [drop_at h, List.countP_cons]
  simp

theorem rc_end (l : List S34) : rc l l.length = 0 := by simp [rc]

theorem rc_skip {l : List S34} : ∀ (d a : Nat), a + d ≤ l.length → (∀ m : Nat, a ≤ m → m < a + d → (rd_T34 l (m : Int)).f0 ≠ 1) → rc l a = rc l (a + d) := by
  intro d
  induction d with
  | zero => intro a _ _; rfl
  | succ d ih =>
    intro a h hm
    rw [rc_step (by omega), if_neg (hm a (by omega) (by omega)), ih (a + 1) (by omega) (fun m h1 h2 => hm m (by omega) (by omega))]
    rw [show a + 1 + d = a + (d + 1) by omega]
    rfl

theorem rc_pos {l : List S34} {a j : Nat} (h1 : a ≤ j) (h2 : j < l.length) (h3 : (rd_T34 l (j : Int)).f0 = 1) : 0 < rc l a := by
  unfold rc
  rw [List.countP_pos_iff]
  refine ⟨rd_T34 l (j : Int), ?_, by simpa using h3⟩
  have : rd_T34 l (j : Int) = l[j] := by simp [rd_T34, List.getD_eq_getElem?_getD, List.getElem?_eq_getElem h2]
  rw [this, List.mem_drop_iff_getElem]
  exact ⟨j - a, by omega, by simp [show a + (j - a) = j by omega]⟩

theorem rc_le (l : List S34) (c : Nat) : rc l c ≤ l.length := by
  unfold rc
  have := List.countP_le_length (p := fun e : S34 => decide (e.f0 = 1)) (l := l.drop c)
  simp at this ⊢
  omega

theorem ends_l1 (l : List S34) (hl : l.length ≤ 1000000) : ∀ (d k : Nat) (c : Nat), c ≤ l.length → d + l.length + 1 < k → rc l c = d →
    rollbacknetlaw29_SenderlogEnds.l1 k l (c : Int) (d : Int) = some true := by
  intro d
  induction d with
  | zero =>
    intro k c hc hk hr
    obtain ⟨k, rfl⟩ : ∃ m, k = m + 1 := ⟨k - 1, by omega⟩
    have h0 : nx l (c : Int) 0 = 0 := by
      rcases nx_tells (c : Int) l 0 (by omega) with ⟨h, _⟩ | ⟨j, hj, _, h2, h3, _⟩
      · exact h
      · have := rc_pos (l := l) (a := c) (j := j) (by omega) hj h3
        omega
    simp only [rollbacknetlaw29_SenderlogEnds.l1]
    rw [if_neg (by omega), next_f l _ (by omega) (by omega)]
    simp only [Option.bind_some]
    rw [if_pos h0, confirm_f l _ (by omega) (by omega)]
    simp only [Option.bind_some]
    unfold cf
    rw [if_pos h0]
    simp
  | succ d ih =>
    intro k c hc hk hr
    obtain ⟨k, rfl⟩ : ∃ m, k = m + 1 := ⟨k - 1, by omega⟩
    have hle := rc_le l c
    rcases nx_tells (c : Int) l 0 (by omega) with ⟨_, h⟩ | ⟨j, hj, e1, h2, h3, h4⟩
    · have := rc_skip (l := l) (l.length - c) c (by omega) (fun m h1 h2 => h m (by omega) (by omega))
      rw [show c + (l.length - c) = l.length by omega, rc_end] at this
      omega
    · have ej : rc l c = rc l j := by
        have := rc_skip (l := l) (j - c) c (by omega) (fun m h1 h5 => h4 m (by omega) (by omega))
        rwa [show c + (j - c) = j by omega] at this
      have ej2 := rc_step hj
      rw [if_pos h3] at ej2
      -- the next one's place
      obtain ⟨c', hc', e2, h5, h6⟩ : ∃ c' : Nat, c' ≤ l.length ∧ cf l (c : Int) = (c' : Int) ∧ j + 1 ≤ c' ∧ rc l (j + 1) = rc l c' := by
        unfold cf
        rw [if_neg (by omega)]
        rcases nx_tells (nx l (c : Int) 0) l 0 (by omega) with ⟨e3, h⟩ | ⟨m, hm, e3, g2, g3, g4⟩
        · rw [if_pos e3]
          refine ⟨l.length, by omega, rfl, by omega, ?_⟩
          have := rc_skip (l := l) (l.length - (j + 1)) (j + 1) (by omega) (fun m h1 h2 => h m (by omega) (by omega))
          rwa [show j + 1 + (l.length - (j + 1)) = l.length by omega] at this
        · rw [if_neg (by omega)]
          refine ⟨m, by omega, by omega, by omega, ?_⟩
          have := rc_skip (l := l) (m - (j + 1)) (j + 1) (by omega) (fun m h1 h5 => g4 m (by omega) (by omega))
          rwa [show j + 1 + (m - (j + 1)) = m by omega] at this
      simp only [rollbacknetlaw29_SenderlogEnds.l1]
      rw [if_pos (by omega), next_f l _ (by omega) (by omega)]
      simp only [Option.bind_some]
      rw [confirm_f l _ (by omega) (by omega)]
      simp only [Option.bind_some]
      rw [e2, if_neg (by omega), if_neg (by omega), if_neg (by omega), w64 (x := nx l (c : Int) 0 - 1) (by omega), if_pos (by omega), if_pos (by omega)]
      rw [show nx l (c : Int) 0 - 1 = (j : Int) by omega, if_pos h3, w64 (by omega), show ((d + 1 : Nat) : Int) - 1 = (d : Int) by omega]
      exact ih k c' hc' (by omega) (by omega)

theorem ends_l0 (l : List S34) (hl : l.length ≤ 1000000) (c : Nat) (hc : c ≤ l.length) : ∀ (n k cnt i : Nat), l.length - i ≤ n → n + cnt + rc l i + l.length + 2 < k → i ≤ l.length → c ≤ i → cnt + rc l i = rc l c → cnt ≤ i →
    rollbacknetlaw29_SenderlogEnds.l0 k l (c : Int) (cnt : Int) (i : Int) = some true := by
  intro n
  induction n with
  | zero =>
    intro k cnt i h hk hi hci hr hcn
    obtain ⟨k, rfl⟩ : ∃ m, k = m + 1 := ⟨k - 1, by omega⟩
    obtain rfl : i = l.length := by omega
    simp only [rollbacknetlaw29_SenderlogEnds.l0]
    rw [if_neg (by omega)]
    rw [rc_end] at hr
    exact ends_l1 l hl cnt k c hc (by omega) (by omega)
  | succ n ih =>
    intro k cnt i h hk hi hci hr hcn
    obtain ⟨k, rfl⟩ : ∃ m, k = m + 1 := ⟨k - 1, by omega⟩
    by_cases hlt : i < l.length
    · have hs := rc_step hlt
      simp only [rollbacknetlaw29_SenderlogEnds.l0]
      rw [if_pos (by omega), if_pos (by omega), w64 (x := (i : Int) + 1) (by omega)]
      by_cases h1 : (rd_T34 l (i : Int)).f0 = 1
      · rw [if_pos h1] at hs
        rw [if_pos h1, w64 (by omega)]
        exact ih k (cnt + 1) (i + 1) (by omega) (by omega) (by omega) (by omega) (by omega) (by omega)
      · rw [if_neg h1] at hs
        rw [if_neg h1]
        exact ih k cnt (i + 1) (by omega) (by omega) (by omega) (by omega) (by omega) (by omega)
    · obtain rfl : i = l.length := by omega
      simp only [rollbacknetlaw29_SenderlogEnds.l0]
      rw [if_neg (by omega)]
      rw [rc_end] at hr
      exact ends_l1 l hl cnt k c hc (by omega) (by omega)

theorem awake_f {k : Nat} (hk : 5 ≤ k) : rollbacknetlaw29_awake.f k = some true := by
  unfold rollbacknetlaw29_awake.f
  simp only [Option.bind_some]
  rw [next_f _ _ (by simp) (by simp; omega), confirm_f _ _ (by simp) (by simp; omega), confirm_f _ _ (by simp) (by simp; omega), next_f _ _ (by simp) (by simp; omega)]
  simp [nx, cf]

/-- The pure statement. -/
theorem SenderlogEnds : rollbacknetlaw29_SenderlogEnds.Pure := by
  intro l0 a1 _ _ hb ha
  obtain ⟨l, e1, h1⟩ := new_ok hb (m := 100) (by omega) (by omega)
  obtain ⟨ys, q, hy, h2, e2⟩ := events_ok h1 (n := 14) (by omega) (by omega)
  obtain ⟨K, hK⟩ : ∃ K : Nat, 2000 ≤ K := ⟨2000, by omega⟩
  refine ⟨K, ?_⟩
  unfold rollbacknetlaw29_SenderlogEnds.f
  have e3 := mod_ok (n := (ys.length : Int) + 1) (wf_i64 ha) (by omega) (by omega)
  rw [bind_of (awake_f (by omega)), if_pos rfl, bind_of e1, bind_of (e2 K (by omega)), w64 (by dsimp only; omega), bind_of e3]
  dsimp only
  have g0 := Int.emod_nonneg a1 (b := (ys.length : Int) + 1) (by omega)
  have g1 := Int.emod_lt_of_pos a1 (b := (ys.length : Int) + 1) (by omega)
  obtain ⟨c, hc⟩ := Int.eq_ofNat_of_zero_le g0
  rw [hc]
  have := rc_le ys c
  exact ends_l0 ys (by omega) c (by omega) 255 K 0 c (by omega) (by omega) (by omega) (by omega) (by omega) (by omega)
end Go.Proofs.Ytpcfgpghfegjkaa.Pure
