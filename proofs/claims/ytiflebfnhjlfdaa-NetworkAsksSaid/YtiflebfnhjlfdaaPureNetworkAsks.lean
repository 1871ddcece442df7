/- Where a message and the messages of a channel are (NetworkAsks; no condition). -/
import Derived.Test.YtiflebfnhjlfdaaPNkpNetworkAsks
import Derived.Test.YtiflebfnhjlfdaaNkLib
namespace Go.Proofs.Ytiflebfnhjlfdaa.Pure
open Go.RowKit Go.Proofs.Ytiflebfnhjlfdaa.PNk Go.Proofs.YtiflebfnhjlfdaaW.PrintWords Go.Proofs.YtiflebfnhjlfdaaW.PrintLast Go.Proofs.Ytiflebfnhjlfdaa.Net
theorem asks_j1 {l : List Msg} (hl : l.length ≤ 20) (a b p o q s0 s1 : Int) {k : Nat} (hk : 100 ≤ k) : rollbacknetlaw14_NetworkAsks.j1 (k + 1) a b p o l q s0 s1 = some true := by
  have hgl := network_Channel.go_length a b l 0
  obtain ⟨y1, e1⟩ : ∃ y, network_Oldest.f l q = some y := by
    unfold network_Oldest.f
    rw [if_pos (by omega)]
    split <;> exact ⟨_, rfl⟩
  obtain ⟨y2, e2⟩ : ∃ y, network_Oldest.f l p = some y := by
    unfold network_Oldest.f
    rw [if_pos (by omega)]
    split <;> exact ⟨_, rfl⟩
  rw [rollbacknetlaw14_NetworkAsks.j1, find_eq (by omega) _ _ _ _ (by omega), bind_of (show network_Find.f l a s0 s1 o = some _ from rfl), bind_of (show network_Find.f l a s0 s1 o = some _ from rfl), if_pos rfl, bind_of (chan_eq (by omega) a b), bind_of (chan_ref (by omega) a b (by omega)), bind_of (same_f (by omega) (by omega)), if_pos rfl, oldest_eq (by omega) _ (by omega), oldest_eq (by omega) _ (by omega), bind_of e1, bind_of e1, if_pos rfl, bind_of e2, bind_of e2]
  simp
theorem NetworkAsks : rollbacknetlaw14_NetworkAsks.Pure := by
  intro c a b p s o _ _ hc ha hb hp hs ho
  have hp := wf_i64 hp
  obtain ⟨K, hK⟩ : ∃ K : Nat, 1000 ≤ K := ⟨1000, Nat.le_refl _⟩
  refine ⟨K + 2, ?_⟩
  unfold rollbacknetlaw14_NetworkAsks.f
  obtain ⟨l, e1, h1, h2⟩ := messages_ok hc (m := 20) (k := K + 2) (by omega) (by omega)
  have m1 := mod_ok (n := (l.length : Int) + 1) hp (by omega) (by omega)
  have q0 := Int.emod_nonneg p (b := (l.length : Int) + 1) (by omega)
  have q1 := Int.emod_lt_of_pos p (b := (l.length : Int) + 1) (by omega)
  rw [bind_of awake_f, if_pos rfl, bind_of (show rollbacknetlaw14_messages.f (K + 2) c 20 = some l from e1), w64 (by omega), bind_of m1]
  by_cases hlt : p % ((l.length : Int) + 1) < (l.length : Int)
  · rw [if_pos hlt, rollbacknetlaw14_NetworkAsks.j0]
    cases hx : (Int.tmod p 2 == 0) with
    | true =>
      rw [if_pos rfl, if_pos q0, if_pos hlt]
      exact asks_j1 (by omega) _ _ _ _ _ _ _ (by omega)
    | false =>
      rw [if_neg Bool.false_ne_true]
      exact asks_j1 (by omega) _ _ _ _ _ _ _ (by omega)
  · rw [if_neg hlt, rollbacknetlaw14_NetworkAsks.j0, if_neg Bool.false_ne_true]
    exact asks_j1 (by omega) _ _ _ _ _ _ _ (by omega)
end Go.Proofs.Ytiflebfnhjlfdaa.Pure
