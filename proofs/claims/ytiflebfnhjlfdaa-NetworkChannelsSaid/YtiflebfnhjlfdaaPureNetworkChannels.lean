/- The channels divide the messages, and a channel's oldest message is its first (NetworkChannels). -/
import Derived.Test.YtiflebfnhjlfdaaPNkpNetworkChannels
import Derived.Test.YtiflebfnhjlfdaaNkLib
namespace Go.Proofs.Ytiflebfnhjlfdaa.Pure
open Go.RowKit Go.Proofs.Ytiflebfnhjlfdaa.PNk Go.Proofs.YtiflebfnhjlfdaaW.PrintWords Go.Proofs.YtiflebfnhjlfdaaW.PrintLast Go.Proofs.Ytiflebfnhjlfdaa.Net
/-- What has been seen, as ones and zeros. -/
def sn (n : Nat) (p : Nat → Bool) : List Int := (List.range n).map fun j => if p j = true then 1 else 0
theorem sn_length (n : Nat) (p : Nat → Bool) : (sn n p).length = n := by simp [sn]
theorem sn_congr {n : Nat} {p q : Nat → Bool} (h : ∀ j, j < n → p j = q j) : sn n p = sn n q := by
  unfold sn
  refine List.map_congr_left fun j hj => ?_
  rw [h j (List.mem_range.1 hj)]
theorem sn_zero (n : Nat) : List.replicate n (0 : Int) = sn n (fun _ => false) := by
  refine List.ext_getElem (by simp [sn]) fun i h1 h2 => ?_
  simp [sn]
theorem sn_rd {n : Nat} {p : Nat → Bool} {j : Nat} (h : j < n) : rd (sn n p) (j : Int) = if p j = true then 1 else 0 := by
  simp [rd, sn, List.getD_eq_getElem?_getD, h]
theorem sn_set {n : Nat} {p : Nat → Bool} {j : Nat} (h : j < n) : (sn n p).set j 1 = sn n (fun i => p i || i == j) := by
  refine List.ext_getElem (by simp [sn]) fun i h1 h2 => ?_
  simp only [sn, List.getElem_set, List.getElem_map, List.getElem_range]
  by_cases e : j = i
  · subst e; simp
  · rw [if_neg e]
    have : (i == j) = false := by simpa using fun h => e h.symm
    rw [this, Bool.or_false]
theorem rd_get {l : List Int} {i : Nat} (h : i < l.length) : rd l (i : Int) = l[i] := by simp [rd, List.getD_eq_getElem?_getD, List.getElem?_eq_getElem h]
theorem go_asc (f t : Int) : ∀ (l : List Msg) (i : Nat), (network_Channel.go f t l i).Pairwise (· < ·)
  | [], i => by simp [network_Channel.go]
  | m :: l, i => by
    rw [network_Channel.go]
    refine List.pairwise_append.2 ⟨by split <;> simp, go_asc f t l (i + 1), fun x hx y hy => ?_⟩
    obtain ⟨j, _, e, _⟩ := (go_mem f t l (i + 1) y).1 hy
    split at hx
    · obtain rfl := List.mem_singleton.1 hx
      omega
    · simp at hx
/-- Before channel (a, b). -/
def pr (l : List Msg) (a b : Int) (j : Nat) : Bool := decide ((rd_T32 l (j : Int)).f0 < a ∨ (rd_T32 l (j : Int)).f0 = a ∧ (rd_T32 l (j : Int)).f1 < b)
theorem chan_l2 {l : List Msg} (hl : l.length ≤ 20) (a b : Int) {c : List Int} (hc : network_Channel.go a b l 0 = c) : ∀ (n i k : Nat), i + n = c.length → n < k →
    rollbacknetlaw14_NetworkChannels.l2 k l (sn l.length fun j => pr l a b j || (c.take i).contains (j : Int)) a b c c (c.length : Int) (i : Int)
      = rollbacknetlaw14_NetworkChannels.l1 (k - n - 1) l (sn l.length fun j => pr l a b j || c.contains (j : Int)) a (wrap64 (b + 1)) := by
  have hcl : c.length ≤ 20 := by have := network_Channel.go_length a b l 0; rw [hc] at this; omega
  intro n
  induction n with
  | zero =>
    intro i k h1 h2
    obtain ⟨k, rfl⟩ : ∃ m, k = m + 1 := ⟨k - 1, by omega⟩
    rw [rollbacknetlaw14_NetworkChannels.l2, if_neg (by omega), List.take_of_length_le (by omega)]
    rfl
  | succ n ih =>
    intro i k h1 h2
    obtain ⟨k, rfl⟩ : ∃ m, k = m + 1 := ⟨k - 1, by omega⟩
    have hi : i < c.length := by omega
    have hn := ih (i + 1) k (by omega) (by omega)
    obtain ⟨j, hj, e, e0, e1⟩ := (go_mem a b l 0 c[i]).1 (by rw [hc]; exact List.getElem_mem hi)
    rw [Nat.zero_add] at e
    have er : rd c (i : Int) = (j : Int) := by rw [rd_get hi, e]
    have hasc : c.Pairwise (· < ·) := by rw [← hc]; exact go_asc a b l 0
    have hlt : ∀ q (hq : q < i), c[q]'(by omega) < (j : Int) := fun q hq => by rw [← e]; exact List.pairwise_iff_getElem.1 hasc q i (by omega) hi hq
    have hnot : (c.take i).contains (j : Int) = false := by
      rw [List.contains_eq_any_beq, List.any_eq_false]
      intro x hx
      obtain ⟨q, hq, rfl⟩ := List.getElem_of_mem hx
      have := hlt q (by simp at hq; omega)
      rw [List.getElem_take]
      simp
      omega
    have hpr : pr l a b j = false := by
      unfold pr
      rw [rd_at hj, e0, e1]
      simp
    have hset : (sn l.length fun j => pr l a b j || (c.take i).contains (j : Int)).set ((j : Int)).toNat (wrap64 (rd (sn l.length fun j => pr l a b j || (c.take i).contains (j : Int)) (j : Int) + 1)) = sn l.length fun j => pr l a b j || (c.take (i + 1)).contains (j : Int) := by
      rw [sn_rd hj, hpr, hnot, if_neg (by simp), show wrap64 ((0 : Int) + 1) = 1 by (rw [w64 (by omega)]; rfl), Int.toNat_natCast, sn_set hj]
      refine sn_congr fun q hq => ?_
      rw [List.take_succ_eq_append_getElem hi, List.contains_append, Bool.or_assoc, e]
      congr 2
      rw [Bool.eq_iff_iff]
      simp
      try omega
    have hold : network_Oldest.f l (j : Int) = some (rd c 0) := by
      unfold network_Oldest.f
      rw [if_pos (by omega), if_pos ⟨by omega, by omega⟩, rd_at hj, e0, e1, hc]
      cases c with
      | nil => simp at hi
      | cons x c => rfl
    rw [rollbacknetlaw14_NetworkChannels.l2, if_pos (by omega), if_pos (by omega), if_pos (by omega), er, if_neg (by omega), if_neg (by omega)]
    have hres : (if 0 ≤ (j : Int) then (if (j : Int) < (l.length : Int) then (if ((rd_T32 l (j : Int)).f0) = a then (if ((rd_T32 l (j : Int)).f1) = b then ((network_Oldest.f l (j : Int)).bind fun t194 => (if 0 < (c.length : Int) then (if t194 = (rd c 0) then (if (j : Int) < ((sn l.length fun j => pr l a b j || (c.take i).contains (j : Int)).length : Int) then (rollbacknetlaw14_NetworkChannels.l2 k l ((sn l.length fun j => pr l a b j || (c.take i).contains (j : Int)).set ((j : Int)).toNat (wrap64 (rd (sn l.length fun j => pr l a b j || (c.take i).contains (j : Int)) (j : Int) + 1))) a b c c (c.length : Int) (wrap64 ((i : Int) + 1))) else (none)) else (some false)) else (none))) else (some false)) else (some false)) else (none)) else (none))
        = rollbacknetlaw14_NetworkChannels.l1 (k + 1 - (n + 1) - 1) l (sn l.length fun j => pr l a b j || c.contains (j : Int)) a (wrap64 (b + 1)) := by
      rw [if_pos (by omega), if_pos (by omega), rd_at hj, if_pos e0, if_pos e1, bind_of hold, if_pos (by omega), if_pos rfl, if_pos (by rw [sn_length]; omega), hset, w64n (by omega), hn, show k + 1 - (n + 1) - 1 = k - n - 1 by omega]
    by_cases h0 : (i : Int) > 0
    · have ew : wrap64 ((i : Int) - 1) = ((i - 1 : Nat) : Int) := by rw [w64 (by omega)]; omega
      have hl1 := hlt (i - 1) (by omega)
      rw [if_pos h0, ew, if_pos (by omega), if_pos (by omega), rd_get (by omega), if_neg (by omega)]
      exact hres
    · rw [if_neg h0]
      exact hres
theorem chan_l1 {l : List Msg} (hl : l.length ≤ 20) (a : Int) : ∀ (m k : Nat), m ≤ 3 → 25 * m < k → ∃ k', k ≤ k' + 25 * m + 1 ∧
    rollbacknetlaw14_NetworkChannels.l1 k l (sn l.length (pr l a (3 - (m : Int)))) a (3 - (m : Int)) = rollbacknetlaw14_NetworkChannels.l0 k' l (sn l.length (pr l a 3)) (wrap64 (a + 1)) := by
  intro m
  induction m with
  | zero =>
    intro k h1 h2
    obtain ⟨k, rfl⟩ : ∃ m, k = m + 1 := ⟨k - 1, by omega⟩
    refine ⟨k, by omega, ?_⟩
    rw [rollbacknetlaw14_NetworkChannels.l1, if_neg (by omega)]
    rfl
  | succ m ih =>
    intro k h1 h2
    obtain ⟨k, rfl⟩ : ∃ m, k = m + 1 := ⟨k - 1, by omega⟩
    have hcl := network_Channel.go_length a (3 - ((m + 1 : Nat) : Int)) l 0
    rw [rollbacknetlaw14_NetworkChannels.l1, if_pos (by omega), bind_of (chan_eq (by omega) a _)]
    have h := chan_l2 hl a (3 - ((m + 1 : Nat) : Int)) rfl (network_Channel.go a (3 - ((m + 1 : Nat) : Int)) l 0).length 0 k (by omega) (by omega)
    rw [show (sn l.length fun j => pr l a (3 - ((m + 1 : Nat) : Int)) j || ((network_Channel.go a (3 - ((m + 1 : Nat) : Int)) l 0).take 0).contains (j : Int)) = sn l.length (pr l a (3 - ((m + 1 : Nat) : Int))) from sn_congr fun j hj => by simp] at h
    have hs : (sn l.length fun j => pr l a (3 - ((m + 1 : Nat) : Int)) j || (network_Channel.go a (3 - ((m + 1 : Nat) : Int)) l 0).contains (j : Int)) = sn l.length (pr l a (3 - (m : Int))) := by
      refine sn_congr fun j hj => ?_
      have hm := go_mem a (3 - ((m + 1 : Nat) : Int)) l 0 (j : Int)
      rw [Bool.eq_iff_iff]
      simp only [pr, rd_at hj, Bool.or_eq_true, decide_eq_true_eq, List.contains_iff_mem, hm]
      constructor
      · rintro ((h | ⟨h, h'⟩) | ⟨q, hq, e, e0, e1⟩)
        · exact .inl h
        · exact .inr ⟨h, by omega⟩
        · obtain rfl : j = q := by omega
          exact .inr ⟨e0, by omega⟩
      · rintro (h | ⟨h, h'⟩)
        · exact .inl (.inl h)
        · by_cases h2 : l[j].f1 = 3 - ((m + 1 : Nat) : Int)
          · exact .inr ⟨j, hj, by omega, h, h2⟩
          · exact .inl (.inr ⟨h, by omega⟩)
    rw [hs, w64 (by omega), show (3 : Int) - ((m + 1 : Nat) : Int) + 1 = 3 - (m : Int) by omega] at h
    obtain ⟨k', h3, h4⟩ := ih (k - (network_Channel.go a (3 - ((m + 1 : Nat) : Int)) l 0).length - 1) (by omega) (by omega)
    exact ⟨k', by omega, (h.trans h4)⟩
theorem chan_l3 (n : Nat) (hn : n ≤ 20) : ∀ (m i k : Nat), i + m = n → m < k → rollbacknetlaw14_NetworkChannels.l3 k (sn n fun _ => true) (n : Int) (i : Int) = some true := by
  intro m
  induction m with
  | zero =>
    intro i k h1 h2
    obtain ⟨k, rfl⟩ : ∃ m, k = m + 1 := ⟨k - 1, by omega⟩
    rw [rollbacknetlaw14_NetworkChannels.l3, if_neg (by omega)]
  | succ m ih =>
    intro i k h1 h2
    obtain ⟨k, rfl⟩ : ∃ m, k = m + 1 := ⟨k - 1, by omega⟩
    rw [rollbacknetlaw14_NetworkChannels.l3, if_pos (by omega), if_pos (by omega), if_pos (by rw [sn_length]; omega), sn_rd (by omega), if_pos rfl, if_pos rfl, w64n (by omega)]
    exact ih (i + 1) k (by omega) (by omega)
theorem chan_l0 {l : List Msg} (hl : l.length ≤ 20) (hf : ∀ x ∈ l, Fine x) : ∀ (m k : Nat), m ≤ 3 → 77 * m + 30 < k → rollbacknetlaw14_NetworkChannels.l0 k l (sn l.length (pr l (3 - (m : Int)) 0)) (3 - (m : Int)) = some true := by
  intro m
  induction m with
  | zero =>
    intro k h1 h2
    obtain ⟨k, rfl⟩ : ∃ m, k = m + 1 := ⟨k - 1, by omega⟩
    rw [rollbacknetlaw14_NetworkChannels.l0, if_neg (by omega), show sn l.length (pr l (3 - ((0 : Nat) : Int)) 0) = sn l.length (fun _ => true) from sn_congr fun j hj => by
      have h := hf _ (List.getElem_mem hj)
      unfold Fine at h
      simp only [pr, rd_at hj, decide_eq_true_eq]
      omega, sn_length]
    exact chan_l3 l.length hl l.length 0 k (by omega) (by omega)
  | succ m ih =>
    intro k h1 h2
    obtain ⟨k, rfl⟩ : ∃ m, k = m + 1 := ⟨k - 1, by omega⟩
    rw [rollbacknetlaw14_NetworkChannels.l0, if_pos (by omega)]
    obtain ⟨k', h3, h4⟩ := chan_l1 hl (3 - ((m + 1 : Nat) : Int)) 3 k (by omega) (by omega)
    have h4 : rollbacknetlaw14_NetworkChannels.l1 k l (sn l.length (pr l (3 - ((m + 1 : Nat) : Int)) 0)) (3 - ((m + 1 : Nat) : Int)) 0 = _ := h4
    rw [h4, w64 (by omega), show (3 : Int) - ((m + 1 : Nat) : Int) + 1 = 3 - (m : Int) by omega]
    rw [show sn l.length (pr l (3 - ((m + 1 : Nat) : Int)) 3) = sn l.length (pr l (3 - (m : Int)) 0) from sn_congr fun j hj => by
      have h := hf _ (List.getElem_mem hj)
      unfold Fine at h
      rw [Bool.eq_iff_iff]
      simp only [pr, rd_at hj, decide_eq_true_eq]
      omega]
    exact ih k' (by omega) (by omega)
theorem NetworkChannels : rollbacknetlaw14_NetworkChannels.Pure := by
  intro c _ _ hc
  obtain ⟨K, hK⟩ : ∃ K : Nat, 1000 ≤ K := ⟨1000, Nat.le_refl _⟩
  refine ⟨K, ?_⟩
  unfold rollbacknetlaw14_NetworkChannels.f
  obtain ⟨l, e1, h1, h2⟩ := messages_ok hc (m := 20) (k := K) (by omega) (by omega)
  rw [bind_of awake_f, if_pos rfl, bind_of (show rollbacknetlaw14_messages.f K c 20 = some l from e1), if_pos (by omega), Int.toNat_natCast, if_pos (by omega), sn_zero]
  rw [show sn l.length (fun _ => false) = sn l.length (pr l (3 - ((3 : Nat) : Int)) 0) from sn_congr fun j hj => by
    have h := h1 _ (List.getElem_mem hj)
    unfold Fine at h
    symm
    simp only [pr, rd_at hj, decide_eq_false_iff_not]
    omega]
  exact chan_l0 (by omega) h1 3 K (by omega) (by omega)
end Go.Proofs.Ytiflebfnhjlfdaa.Pure
