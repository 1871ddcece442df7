/- The frames at the beginning of any bytes (FrameScans; no condition). -/
import Derived.Test.YtmlphabhldahlaaPFkpFrameScans
import Derived.Test.YtmlphabhldahlaaFrScan
namespace Go.Proofs.Ytmlphabhldahlaa.Pure
open Go.RowKit Go.Proofs.Ytmlphabhldahlaa.PFk Go.Proofs.YtmlphabhldahlaaW.PrintWords Go.Proofs.YtmlphabhldahlaaW.PrintLast Go.Proofs.Ytmlphabhldahlaa.Fr
theorem rows_l1 {l : List (List Int)} {t : List (List Int)} {m j : Int} (hy : ∀ y ∈ l, y.length ≤ 3000) (hl : l.length ≤ 3000) {K : Nat} (hK : 3010 ≤ K) (hn : ∀ k, K ≤ k → rollbacknetlaw11_FrameScans.l0 k t m (wrap64 (j + 1)) = some true) :
    ∀ (n i k : Nat), l.length - i ≤ n → K + n < k → i ≤ l.length → rollbacknetlaw11_FrameScans.l1 k l l t m j (l.length : Int) (i : Int) = some true := by
  intro n
  induction n with
  | zero =>
    intro i k h1 h2 h3
    obtain ⟨k, rfl⟩ : ∃ q, k = q + 1 := ⟨k - 1, by omega⟩
    rw [rollbacknetlaw11_FrameScans.l1, if_neg (by omega)]
    exact hn k (by omega)
  | succ n ih =>
    intro i k h1 h2 h3
    by_cases he : i = l.length
    · exact ih i k (by omega) (by omega) h3
    obtain ⟨k, rfl⟩ : ∃ q, k = q + 1 := ⟨k - 1, by omega⟩
    have hr : rd_L2 l (i : Int) = l[i]'(by omega) := by simp [rd_L2, List.getD_eq_getElem?_getD, List.getElem?_eq_getElem (show i < l.length by omega)]
    have hm := hy _ (List.getElem_mem (show i < l.length by omega))
    rw [rollbacknetlaw11_FrameScans.l1, if_pos (by omega), if_pos (by omega), if_pos (by omega), if_pos (by omega), hr, bind_of (same_f (by omega) (by omega)), if_pos rfl, w64n (by omega)]
    exact ih (i + 1) k (by omega) (by omega) (by omega)
theorem one_l0 {x : List Int} {t : List (List Int)} (hx : Crc.Bytes x) (hl : x.length ≤ 3000) (ht : t.length = 3) {j : Nat} (hj : j < 3) (hr : rd_L2 t (j : Int) = x) {K : Nat} (hK : 3030 ≤ K) (hn : ∀ k, K ≤ k → rollbacknetlaw11_FrameScans.l0 k t 3 ((j + 1 : Nat) : Int) = some true) :
    ∀ k, K + 3010 ≤ k → rollbacknetlaw11_FrameScans.l0 k t 3 (j : Int) = some true := by
  intro k hk
  obtain ⟨k, rfl⟩ : ∃ q, k = q + 2 := ⟨k - 2, by omega⟩
  obtain ⟨l, q, e1, e2, q1, q2, q3, q4⟩ := scan_eq hx (by omega) x.length 0 (k + 1) [] (by omega) (by omega) (by simp; omega) (by omega)
  rw [rollbacknetlaw11_FrameScans.l0, if_pos (by omega), if_pos (by omega), if_pos (by omega), hr, bind_of (show frame_Scan.f (k + 1) x = some (l, (q : Int)) from e1), bind_of (show rollbacknetref11_Scan.f (k + 1) x = some (l, (q : Int)) from e2), if_pos rfl, rollbacknetlaw11_FrameScans.j1, if_neg (by simp)]
  refine rows_l1 (fun y hy => Nat.le_trans (q3 y hy) hl) (by omega) (K := K) (by omega) (fun k' hk' => ?_) l.length 0 k (by omega) (by omega) (by omega)
  rw [w64n (by omega)]
  exact hn k' hk'
theorem FrameScans : rollbacknetlaw11_FrameScans.Pure := by
  intro b l a _ _ hb _ _ hl ha
  have hb : Crc.Bytes b := fun x hx => wf_u8 (hb x hx)
  have ha := wf_i64 ha
  obtain ⟨K, hK⟩ : ∃ K : Nat, 20000 ≤ K := ⟨20000, Nat.le_refl _⟩
  refine ⟨K, ?_⟩
  unfold rollbacknetlaw11_FrameScans.f
  rw [bind_of (awake_f (by omega)), if_pos rfl]
  by_cases hlen : (b.length : Int) > 2000
  · rw [if_pos hlen]
  rw [if_neg hlen]
  obtain ⟨bs, e1, h1, h2⟩ := bodies_ok hl (k := K) (by omega)
  rw [bind_of e1, bind_of (seal_ok h1 (by omega) (by omega))]
  have hc := (seals_bytes h1).append hb
  have hcl := seals_length h1
  have hle : (seals bs ++ b).length = (seals bs).length + b.length := List.length_append ..
  have m1 := mod_ok (n := ((seals bs ++ b).length : Int) + 1) ha (by omega) (by omega)
  have q0 := Int.emod_nonneg a (b := ((seals bs ++ b).length : Int) + 1) (by omega)
  have q1 := Int.emod_lt_of_pos a (b := ((seals bs ++ b).length : Int) + 1) (by omega)
  rw [if_pos (by omega), bind_of rfl, w64 (by omega), bind_of m1, if_pos q0, if_pos (by omega), bind_of rfl]
  generalize (a % (((seals bs ++ b).length : Int) + 1)).toNat = z
  generalize seals bs ++ b = c at hc hle
  have s3 : ∀ k, 3030 ≤ k → rollbacknetlaw11_FrameScans.l0 k [b, c, c.take z] 3 ((3 : Nat) : Int) = some true := by
    intro k hk
    obtain ⟨k, rfl⟩ : ∃ q, k = q + 1 := ⟨k - 1, by omega⟩
    rw [rollbacknetlaw11_FrameScans.l0, if_neg (by omega)]
  have s2 := one_l0 (x := c.take z) (t := [b, c, c.take z]) (j := 2) (hc.take z) (by rw [List.length_take]; omega) rfl (by omega) rfl (Nat.le_refl _) s3
  have s1 := one_l0 (x := c) (t := [b, c, c.take z]) (j := 1) hc (by omega) rfl (by omega) rfl (by omega) s2
  have s0 := one_l0 (x := b) (t := [b, c, c.take z]) (j := 0) hb (by omega) rfl (by omega) rfl (by omega) s1
  exact s0 K (by omega)
end Go.Proofs.Ytmlphabhldahlaa.Pure
