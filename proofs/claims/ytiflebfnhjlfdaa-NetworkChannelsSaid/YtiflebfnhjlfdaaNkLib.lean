/- What the network's functions come to, in plain lists. -/
import Derived.Test.YtiflebfnhjlfdaaPNkx3
import Derived.Test.YtiflebfnhjlfdaaPNkx4
import Derived.Test.YtiflebfnhjlfdaaPNkx5
import Derived.Test.YtiflebfnhjlfdaaPNkx9
import Derived.Test.YtiflebfnhjlfdaaPNkx11
import Derived.Test.YtiflebfnhjlfdaaPNkx12
import Derived.Test.YtiflebfnhjlfdaaPNkx10
import Derived.Test.YtiflebfnhjlfdaaPNkx8
import Derived.Test.YtiflebfnhjlfdaaPNkx8
import Derived.Test.YtiflebfnhjlfdaaPNkx6
import Derived.KernelRfl
namespace Go.Proofs.Ytiflebfnhjlfdaa.Net
open Go.RowKit Go.Proofs.Ytiflebfnhjlfdaa.PNk Go.Proofs.YtiflebfnhjlfdaaW.PrintWords Go.Proofs.YtiflebfnhjlfdaaW.PrintLast
-- what the makers of inputs give
theorem w64 {x : Int} (h : -9223372036854775808 ≤ x ∧ x ≤ 9223372036854775807) : wrap64 x = x := by unfold wrap64; omega

/-- A state of the choices. -/
structure Ok (l : List Int) (p : Int) : Prop where
  lo : 0 ≤ p
  hi : p ≤ (l.length : Int)
  len : (l.length : Int) ≤ 1000000
  byte : ∀ x ∈ l, 0 ≤ x ∧ x < 256

theorem rd_mem {l : List Int} {i : Int} (h0 : 0 ≤ i) (h1 : i < (l.length : Int)) : rd l i ∈ l := by
  unfold rd
  rw [List.getD_eq_getElem?_getD, List.getElem?_eq_getElem (by omega)]
  simp

theorem left_eq (l : List Int) (p : Int) : rollbacknetmake_Codes_Left.f l p = some (decide (p < (l.length : Int)), p) := rfl

theorem next_ok {l : List Int} {p : Int} (h : Ok l p) {n : Int} (h1 : 1 ≤ n) (h2 : n ≤ 256) :
    ∃ r q, rollbacknetmake_Codes_Next.f l p n = some (r, q) ∧ 0 ≤ r ∧ r < n ∧ Ok l q := by
  obtain ⟨a, b, c, d⟩ := h
  unfold rollbacknetmake_Codes_Next.f
  rw [left_eq]
  simp only [Option.bind_some]
  by_cases hl : p < (l.length : Int)
  · have e1 : wrap64 (p + 1) = p + 1 := w64 (by omega)
    have e2 : wrap64 (p + 1 - 1) = p := by rw [w64 (by omega)]; omega
    have hb := d _ (rd_mem a hl)
    rw [if_pos (by simpa using hl), e1, e2, if_pos a, if_pos hl, if_neg (by omega), w64 (by omega)]
    rw [Int.tmod_eq_emod_of_nonneg hb.1]
    exact ⟨_, _, rfl, Int.emod_nonneg _ (by omega), Int.emod_lt_of_pos _ (by omega), by omega, by omega, c, d⟩
  · rw [if_neg (by simpa using hl)]
    exact ⟨_, _, rfl, by omega, by omega, a, b, c, d⟩

theorem wf_u8 {x : Int} (h : (Lit.int .u8 x).wf = true) : 0 ≤ x ∧ x < 256 := by
  simp [Lit.wf, IntKind.min, IntKind.max, IntKind.bits, IntKind.signed] at h
  omega
theorem wf_i64 {x : Int} (h : (Lit.int .i64 x).wf = true) : -9223372036854775808 ≤ x ∧ x ≤ 9223372036854775807 := by
  simp [Lit.wf, IntKind.min, IntKind.max, IntKind.bits, IntKind.signed] at h
  omega
theorem bind_of {α β : Type} {o : Option α} {a : α} {f : α → Option β} (h : o = some a) : o.bind f = f a := by rw [h]; rfl
theorem new_ok {l : List Int} {m : Int} (hl : ∀ x ∈ l, (Lit.int .u8 x).wf = true) (h0 : 0 ≤ m) (h1 : m ≤ 1000000) :
    ∃ l', rollbacknetmake_New.f l m = some (l', 0) ∧ Ok l' 0 := by
  have hb : ∀ x ∈ l, 0 ≤ x ∧ x < 256 := by
    intro x hx
    exact wf_u8 (hl x hx)
  unfold rollbacknetmake_New.f
  by_cases h : (l.length : Int) > m
  · rw [if_pos h, if_pos h0, if_pos (by omega)]
    refine ⟨_, rfl, by omega, by omega, ?_, fun x hx => hb x (List.mem_of_mem_take hx)⟩
    simp only [List.length_take]
    omega
  · rw [if_neg h]
    exact ⟨_, rfl, by omega, by omega, by omega, hb⟩

theorem int_ok {l : List Int} {p : Int} (h : Ok l p) : ∃ r q, rollbacknetmake_Codes_Int.f l p = some (r, q) ∧ (-9223372036854775808 ≤ r ∧ r ≤ 9223372036854775807) ∧ Ok l q := by
  obtain ⟨r, q, e, a, b, h1⟩ := next_ok h (n := 6) (by omega) (by omega)
  unfold rollbacknetmake_Codes_Int.f
  simp only [Option.bind_some]
  rw [e]
  simp only [Option.bind_some]
  by_cases h5 : r = 5
  · rw [if_pos h5]
    obtain ⟨r2, q2, e2, a2, b2, h2⟩ := next_ok h1 (n := 10) (by omega) (by omega)
    refine ⟨_, _, (bind_of (f := _) e2).trans ((if_pos a2).trans (if_pos b2)), ?_, h2⟩
    have : r2 = 0 ∨ r2 = 1 ∨ r2 = 2 ∨ r2 = 3 ∨ r2 = 4 ∨ r2 = 5 ∨ r2 = 6 ∨ r2 = 7 ∨ r2 = 8 ∨ r2 = 9 := by omega
    rcases this with rfl | rfl | rfl | rfl | rfl | rfl | rfl | rfl | rfl | rfl <;> simp [rd]
  · rw [if_neg h5]
    obtain ⟨r2, q2, e2, a2, b2, h2⟩ := next_ok h1 (n := 12) (by omega) (by omega)
    rw [e2]
    simp only [Option.bind_some]
    exact ⟨_, _, rfl, by rw [w64 (by omega)]; omega, h2⟩

theorem mod_ok {x n : Int} (hx : -9223372036854775808 ≤ x ∧ x ≤ 9223372036854775807) (h0 : 0 < n) (h1 : n ≤ 4611686018427387904) :
    rollbacknetmake_Mod.f x n = some (x % n) := by
  unfold rollbacknetmake_Mod.f
  rw [if_neg (by omega)]
  have e := Int.tmod_eq_emod (a := x) (b := n)
  have a := Int.emod_nonneg x (b := n) (by omega)
  have b := Int.emod_lt_of_pos x h0
  by_cases hn : 0 ≤ x
  · rw [Int.tmod_eq_emod_of_nonneg hn, if_neg (by omega)]
  · by_cases hd : n ∣ x
    · rw [Int.tmod_eq_zero_of_dvd hd, if_neg (by omega), Int.emod_eq_zero_of_dvd hd]
    · rw [if_neg (by simp [hd]; omega)] at e
      have hab : (n.natAbs : Int) = n := by omega
      rw [hab] at e
      have hz : x % n ≠ 0 := fun h => hd (Int.dvd_of_emod_eq_zero h)
      rw [if_pos (by omega), w64 (by omega)]
      congr 1
      omega
abbrev Msg := S32
theorem w64n {n : Nat} (h : n < 140737488355328) : wrap64 ((n : Int) + 1) = ((n + 1 : Nat) : Int) := by rw [w64 (by omega)]; rfl
theorem rd_at {l : List Msg} {i : Nat} (h : i < l.length) : rd_T32 l (i : Int) = l[i] := by simp [rd_T32, List.getD_eq_getElem?_getD, List.getElem?_eq_getElem h]
theorem awake_f : rollbacknetlaw14_awake.f = some true := by kernel_rfl
/-- A message as the makers of inputs make it. -/
def Fine (m : Msg) : Prop := 0 ≤ m.f0 ∧ m.f0 < 3 ∧ 0 ≤ m.f1 ∧ m.f1 < 3
theorem messages_l0 {c : List Int} : ∀ (n : Nat) (x : List Msg) (p : Int) (k : Nat), Ok c p → (∀ m ∈ x, Fine m) → x.length + n ≤ 1000 → n < k →
    ∃ r, rollbacknetlaw14_messages.l0 k x (n : Int) c p = some r ∧ (∀ m ∈ r, Fine m) ∧ r.length ≤ x.length + n := by
  intro n
  induction n with
  | zero =>
    intro x p k h hx hl hk
    obtain ⟨k, rfl⟩ : ∃ m, k = m + 1 := ⟨k - 1, by omega⟩
    simp only [rollbacknetlaw14_messages.l0]
    rw [if_neg (by omega)]
    exact ⟨_, rfl, hx, by omega⟩
  | succ n ih =>
    intro x p k h hx hl hk
    obtain ⟨k, rfl⟩ : ∃ m, k = m + 1 := ⟨k - 1, by omega⟩
    simp only [rollbacknetlaw14_messages.l0]
    obtain ⟨r1, q1, e1, a1, b1, h1⟩ := next_ok h (n := 3) (by omega) (by omega)
    obtain ⟨r2, q2, e2, a2, b2, h2⟩ := next_ok h1 (n := 2) (by omega) (by omega)
    obtain ⟨r3, q3, e3, a3, b3, h3⟩ := next_ok h2 (n := 2) (by omega) (by omega)
    obtain ⟨r4, q4, e4, a4, b4, h4⟩ := next_ok h3 (n := 4) (by omega) (by omega)
    obtain ⟨r5, q5, e5, a5, b5, h5⟩ := next_ok h4 (n := 2) (by omega) (by omega)
    obtain ⟨r6, q6, e6, a6, h6⟩ := int_ok h5
    have et : Int.tmod (wrap64 (wrap64 (r1 + 1) + r2)) 3 = (r1 + 1 + r2) % 3 := by rw [w64 (x := r1 + 1) (by omega), w64 (by omega), Int.tmod_eq_emod_of_nonneg (by omega)]
    rw [if_pos (by omega), bind_of e1, bind_of e2, bind_of e3, bind_of e4, bind_of e5, bind_of e6, if_pos (by omega), w64 (x := ((n + 1 : Nat) : Int) - 1) (by omega), show ((n + 1 : Nat) : Int) - 1 = (n : Int) by omega, et]
    obtain ⟨r, e, hr, hrl⟩ := ih (x ++ [⟨r1, (r1 + 1 + r2) % 3, ⟨r3, r4⟩, r5, r6, 0, [], []⟩]) q6 k h6 (fun m hm => by
      rcases List.mem_append.1 hm with hm | hm
      · exact hx m hm
      · obtain rfl := List.mem_singleton.1 hm
        exact ⟨a1, b1, Int.emod_nonneg _ (by omega), Int.emod_lt_of_pos _ (by omega)⟩) (by simp; omega) (by omega)
    exact ⟨r, e, hr, by simp at hrl; omega⟩
theorem messages_ok {l : List Int} (hl : ∀ x ∈ l, (Lit.int .u8 x).wf = true) {m k : Nat} (hm : m ≤ 200) (hk : m < k) : ∃ r, rollbacknetlaw14_messages.f k l (m : Int) = some r ∧ (∀ x ∈ r, Fine x) ∧ r.length ≤ m := by
  unfold rollbacknetlaw14_messages.f
  obtain ⟨l', e0, h0⟩ := new_ok (m := 200) hl (by omega) (by omega)
  obtain ⟨r1, q1, e1, a1, b1, h1⟩ := next_ok h0 (n := (m : Int) + 1) (by omega) (by omega)
  obtain ⟨n, rfl⟩ := Int.eq_ofNat_of_zero_le a1
  rw [bind_of e0, w64 (by omega), bind_of e1]
  obtain ⟨r, e2, h2, h3⟩ := messages_l0 n [] q1 k h1 (fun y hy => by simp at hy) (by simp; omega) (by omega)
  exact ⟨r, e2, h2, by simp at h3; omega⟩
theorem find_l0 {l : List Msg} (hl : l.length ≤ 1000) (a s0 s1 o : Int) : ∀ (n i k : Nat), l.length - i ≤ n → n < k → i ≤ l.length → rollbacknetref14_Find.l0 k l a o (i : Int) s0 s1 = some (network_Find.go a s0 s1 o (l.drop i) i) := by
  intro n
  induction n with
  | zero =>
    intro i k h1 h2 h3
    obtain ⟨k, rfl⟩ : ∃ m, k = m + 1 := ⟨k - 1, by omega⟩
    rw [rollbacknetref14_Find.l0, if_neg (by omega), List.drop_eq_nil_of_le (by omega), network_Find.go]
  | succ n ih =>
    intro i k h1 h2 h3
    by_cases he : i = l.length
    · exact ih i k (by omega) (by omega) h3
    obtain ⟨k, rfl⟩ : ∃ m, k = m + 1 := ⟨k - 1, by omega⟩
    have hi : i < l.length := by omega
    have hn := ih (i + 1) k (by omega) (by omega) (by omega)
    rw [rollbacknetref14_Find.l0, if_pos (by omega), if_pos (by omega), rd_at hi, w64n (by omega), hn, List.drop_eq_getElem_cons hi, network_Find.go, network_Find.hit]
    by_cases c1 : l[i].f0 = a
    · rw [if_pos c1]
      by_cases c2 : (l[i].f2.f0 == s0 && (l[i].f2.f1 == s1)) = true
      · rw [if_pos c2]
        by_cases c3 : l[i].f3 = o
        · rw [if_pos c3, if_pos (by rw [c2, c1, c3]; simp)]
        · rw [if_neg c3, if_neg (by simp [c3])]
      · rw [if_neg c2, if_neg (by intro h; apply c2; simp only [Bool.and_eq_true] at h ⊢; exact h.1.2)]
    · rw [if_neg c1, if_neg (by simp [c1])]
theorem find_eq {l : List Msg} (hl : l.length ≤ 1000) (a s0 s1 o : Int) {k : Nat} (hk : l.length < k) : rollbacknetref14_Find.f k l a s0 s1 o = network_Find.f l a s0 s1 o := by
  unfold rollbacknetref14_Find.f network_Find.f
  exact find_l0 hl a s0 s1 o l.length 0 k (by omega) hk (by omega)
theorem chan_l0 {l : List Msg} (hl : l.length ≤ 1000) (f t : Int) : ∀ (n i k : Nat), l.length - i ≤ n → n < k → i ≤ l.length → rollbacknetref14_Channel.l0 k l f t (network_Channel.go f t (l.take i) 0) (i : Int) = some (network_Channel.go f t l 0) := by
  intro n
  induction n with
  | zero =>
    intro i k h1 h2 h3
    obtain ⟨k, rfl⟩ : ∃ m, k = m + 1 := ⟨k - 1, by omega⟩
    rw [rollbacknetref14_Channel.l0, if_neg (by omega), List.take_of_length_le (by omega)]
  | succ n ih =>
    intro i k h1 h2 h3
    by_cases he : i = l.length
    · exact ih i k (by omega) (by omega) h3
    obtain ⟨k, rfl⟩ : ∃ m, k = m + 1 := ⟨k - 1, by omega⟩
    have hi : i < l.length := by omega
    have hn := ih (i + 1) k (by omega) (by omega) (by omega)
    have hgl := network_Channel.go_length f t (l.take i) 0
    rw [List.length_take] at hgl
    rw [network_Channel.go_next f t hi, network_Channel.hit] at hn
    rw [rollbacknetref14_Channel.l0, if_pos (by omega), if_pos (by omega), rd_at hi, w64n (by omega)]
    by_cases c1 : l[i].f0 = f
    · rw [if_pos c1]
      by_cases c2 : l[i].f1 = t
      · rw [if_pos c2, if_pos (by omega)]
        rw [if_pos (by simp [c1, c2])] at hn
        exact hn
      · rw [if_neg c2]
        rw [if_neg (by simp [c2]), List.append_nil] at hn
        exact hn
    · rw [if_neg c1]
      rw [if_neg (by simp [c1]), List.append_nil] at hn
      exact hn
theorem chan_ref {l : List Msg} (hl : l.length ≤ 1000) (f t : Int) {k : Nat} (hk : l.length < k) : rollbacknetref14_Channel.f k l f t = some (network_Channel.go f t l 0) := by
  unfold rollbacknetref14_Channel.f
  exact chan_l0 hl f t l.length 0 k (by omega) hk (by omega)
theorem chan_eq {l : List Msg} (hl : l.length ≤ 1000) (f t : Int) : network_Channel.f l f t = some (network_Channel.go f t l 0) := by
  unfold network_Channel.f
  rw [if_pos (by omega)]
/-- The places of a channel, one by one. -/
theorem go_mem (f t : Int) : ∀ (l : List Msg) (i : Nat) (x : Int), x ∈ network_Channel.go f t l i ↔ ∃ j : Nat, ∃ h : j < l.length, x = ((i + j : Nat) : Int) ∧ l[j].f0 = f ∧ l[j].f1 = t
  | [], i, x => by simp [network_Channel.go]
  | m :: l, i, x => by
    rw [network_Channel.go, List.mem_append, go_mem f t l (i + 1) x]
    constructor
    · rintro (h | ⟨j, hj, e, e1, e2⟩)
      · split at h
        · rename_i hh
          simp [network_Channel.hit] at hh
          obtain rfl := List.mem_singleton.1 h
          exact ⟨0, by simp, by simp, hh.1, hh.2⟩
        · simp at h
      · exact ⟨j + 1, by simpa using hj, by rw [e]; congr 1; omega, by simpa using e1, by simpa using e2⟩
    · rintro ⟨j, hj, e, e1, e2⟩
      cases j with
      | zero =>
        refine .inl ?_
        simp at e1 e2
        rw [if_pos (by simp [network_Channel.hit, e1, e2]), e]
        simp
      | succ j => exact .inr ⟨j, by simpa using hj, by rw [e]; congr 1; omega, by simpa using e1, by simpa using e2⟩
theorem oldest_eq {l : List Msg} (hl : l.length ≤ 1000) (p : Int) {k : Nat} (hk : l.length < k) : rollbacknetref14_Oldest.f k l p = network_Oldest.f l p := by
  unfold rollbacknetref14_Oldest.f network_Oldest.f
  rw [if_pos (show l.length < 17592186044416 by omega)]
  by_cases h : 0 ≤ p ∧ p < (l.length : Int)
  · rw [if_pos h, if_pos h, bind_of (chan_ref hl _ _ hk)]
    obtain ⟨j, rfl⟩ := Int.eq_ofNat_of_zero_le h.1
    have hj : j < l.length := by omega
    have hm := (go_mem (rd_T32 l (j : Int)).f0 (rd_T32 l (j : Int)).f1 l 0 (j : Int)).2 ⟨j, hj, by rw [Nat.zero_add], by rw [rd_at hj], by rw [rd_at hj]⟩
    cases hg : network_Channel.go (rd_T32 l (j : Int)).f0 (rd_T32 l (j : Int)).f1 l 0 with
    | nil => rw [hg] at hm; simp at hm
    | cons x c =>
      rw [if_pos (by simp only [List.length_cons]; omega)]
      rfl
  · rw [if_neg h, if_neg h]
theorem same_l0 (l : List Int) (hl : l.length ≤ 1099511627776) : ∀ (n i k : Nat), l.length - i ≤ n → n < k → i ≤ l.length → rollbacknetref03_SameInts.l0 k l l (i : Int) = some true := by
  intro n
  induction n with
  | zero =>
    intro i k hn hk hi
    obtain ⟨k, rfl⟩ : ∃ q, k = q + 1 := ⟨k - 1, by omega⟩
    simp only [rollbacknetref03_SameInts.l0]
    rw [if_neg (by omega)]
  | succ n ih =>
    intro i k hn hk hi
    obtain ⟨k, rfl⟩ : ∃ q, k = q + 1 := ⟨k - 1, by omega⟩
    simp only [rollbacknetref03_SameInts.l0]
    by_cases hlt : i < l.length
    · rw [if_pos (by omega), if_pos (by omega), if_pos (by omega), if_pos trivial, w64n (by omega)]
      exact ih (i + 1) k (by omega) (by omega) (by omega)
    · rw [if_neg (by omega)]
theorem same_f {l : List Int} (hl : l.length ≤ 1099511627776) {k : Nat} (hk : l.length < k) : rollbacknetref03_SameInts.f k l l = some true := by
  unfold rollbacknetref03_SameInts.f
  rw [if_pos rfl]
  exact same_l0 l hl l.length 0 k (by omega) hk (by omega)
end Go.Proofs.Ytiflebfnhjlfdaa.Net
