/- Up to which index events are confirmed when one was added: the program and the document agree at any events and index (SenderlogRaises; no condition). -/
import Derived.Test.YtpcfgpghfegjkaaSl
namespace Go.Proofs.Ytpcfgpghfegjkaa.Pure
open Go.RowKit Go.Proofs.Ytpcfgpghfegjkaa.PSl Go.Proofs.YtpcfgpghfegjkaaW.PrintWords Go.Proofs.YtpcfgpghfegjkaaW.PrintLast Go.Proofs.Ytpcfgpghfegjkaa.Mk Go.Proofs.Ytpcfgpghfegjkaa.Sl

theorem raise_some (l : List S34) (c : Int) (hl : l.length ≤ 1000000000000) : ∃ r, senderlog_Raise.f l c = some r := by
  unfold senderlog_Raise.f
  by_cases h : (l.length : Int) > 0
  · rw [if_pos h, w64 (by omega), if_pos (by omega), if_pos (by omega)]
    split
    · exact ⟨_, rfl⟩
    · split <;> exact ⟨_, rfl⟩
  · rw [if_neg h]
    exact ⟨_, rfl⟩

theorem raise_same (l : List S34) (c : Int) : rollbacknetref29_Raise.f l c = senderlog_Raise.f l c := rfl

theorem SenderlogRaises : rollbacknetlaw29_SenderlogRaises.Pure := by
  intro l0 a1 l2 _ hl _ ha _ _ hb
  obtain ⟨K, hK⟩ : ∃ K : Nat, l0.length + 2000 ≤ K := ⟨_, Nat.le_refl _⟩
  refine ⟨K + 1, ?_⟩
  unfold rollbacknetlaw29_SenderlogRaises.f
  rw [bind_of (awake_f (by omega)), if_pos rfl]
  simp only [rollbacknetlaw29_SenderlogRaises.j0]
  by_cases h80 : (l0.length : Int) > 80
  · rw [if_pos (by simpa using h80)]
    simpa using h80
  · rw [if_neg (by simpa using h80)]
    obtain ⟨l, e1, h1⟩ := new_ok hb (m := 100) (by omega) (by omega)
    obtain ⟨ys, q, hy, h2, e2⟩ := events_ok h1 (n := 8) (by omega) (by omega)
    rw [bind_of e1, bind_of (e2 K (by omega))]
    dsimp only
    simp only [raise_same]
    rw [w64 (x := (l0.length : Int) - 1) (by omega), w64 (x := (ys.length : Int) - 1) (by omega)]
    obtain ⟨r1, h1⟩ := raise_some l0 a1 (by omega)
    obtain ⟨r2, h2⟩ := raise_some l0 ((l0.length : Int) - 1) (by omega)
    obtain ⟨r3, h3⟩ := raise_some ys ((ys.length : Int) - 1) (by omega)
    rw [bind_of h1, bind_of h1, if_pos rfl, bind_of h2, bind_of h2, if_pos rfl, bind_of h3, bind_of h3]
    simp
end Go.Proofs.Ytpcfgpghfegjkaa.Pure
