/- Frames come back, whatever stands behind them (FrameBack; no condition). -/
import Derived.Test.YtmlphabhldahlaaPFkpFrameBack
import Derived.Test.YtmlphabhldahlaaFrScan
namespace Go.Proofs.Ytmlphabhldahlaa.Pure
open Go.RowKit Go.Proofs.Ytmlphabhldahlaa.PFk Go.Proofs.YtmlphabhldahlaaW.PrintWords Go.Proofs.YtmlphabhldahlaaW.PrintLast Go.Proofs.Ytmlphabhldahlaa.Fr
theorem back_l0 {x r : List (List Int)} {c : List Int} (hx : Bodies x) (hl : x.length ≤ 10) {K : Nat} (hK : 100 ≤ K) (hs : ∀ k, K ≤ k → frame_Scan.f k c = some (x, (c.length : Int))) :
    ∀ (n i k : Nat), x.length - i ≤ n → K + n < k → i ≤ x.length → rollbacknetlaw11_FrameBack.l0 k x c (x ++ r) (x.length : Int) (i : Int) = some true := by
  intro n
  induction n with
  | zero =>
    intro i k h1 h2 h3
    obtain ⟨k, rfl⟩ : ∃ q, k = q + 1 := ⟨k - 1, by omega⟩
    rw [rollbacknetlaw11_FrameBack.l0, if_neg (by omega), bind_of (hs k (by omega)), if_pos rfl]
    simp
  | succ n ih =>
    intro i k h1 h2 h3
    by_cases he : i = x.length
    · exact ih i k (by omega) (by omega) h3
    obtain ⟨k, rfl⟩ : ∃ q, k = q + 1 := ⟨k - 1, by omega⟩
    have hr : rd_L2 x (i : Int) = x[i]'(by omega) := by simp [rd_L2, List.getD_eq_getElem?_getD, List.getElem?_eq_getElem (show i < x.length by omega)]
    have hr2 : rd_L2 (x ++ r) (i : Int) = x[i]'(by omega) := by simp [rd_L2, List.getD_eq_getElem?_getD, List.getElem?_append_left (show i < x.length by omega), List.getElem?_eq_getElem (show i < x.length by omega)]
    have hm := hx _ (List.getElem_mem (show i < x.length by omega))
    have hxr : (x ++ r).length = x.length + r.length := List.length_append ..
    rw [rollbacknetlaw11_FrameBack.l0, if_pos (by omega), if_pos (by omega), if_pos (by omega), if_pos (by omega), hr, hr2, bind_of (same_f (by omega) (by omega)), if_pos rfl, w64n (by omega)]
    exact ih (i + 1) k (by omega) (by omega) (by omega)
theorem scan_all {x : List (List Int)} (hx : Bodies x) (hl : x.length ≤ 10) {more : List Int} (hm : Crc.Bytes more) (hml : more.length ≤ 2000) {k : Nat} (hk : 2100 ≤ k) : ∃ (r : List (List Int)) (q : Nat), frame_Scan.f k (seals x ++ more) = some (x ++ r, (q : Int)) ∧ (seals x).length ≤ q ∧ q ≤ (seals x).length + more.length := by
  obtain ⟨k, rfl⟩ : ∃ q, k = q + x.length := ⟨k - x.length, by omega⟩
  have hsl := seals_length hx
  have hle : (seals x ++ more).length = (seals x).length + more.length := List.length_append ..
  have h1 := scan_seals hm (by omega) x [] [] k hx Crc.Bytes.nil (by simp; omega) (by simp; omega) (by omega)
  obtain ⟨l, q, e1, _, q1, q2, q3, q4⟩ := scan_eq ((seals_bytes hx).append hm) (by omega) more.length (seals x).length k x (by omega) (by omega) (by omega) (by omega)
  refine ⟨l, q, ?_, q1, by omega⟩
  unfold frame_Scan.f
  simp only [List.nil_append, List.length_nil, Nat.zero_add] at h1
  exact h1.trans e1
theorem FrameBack : rollbacknetlaw11_FrameBack.Pure := by
  intro l b _ _ hl _ _ hb
  have hb : Crc.Bytes b := fun x hx => wf_u8 (hb x hx)
  obtain ⟨K, hK⟩ : ∃ K : Nat, 20000 ≤ K := ⟨20000, Nat.le_refl _⟩
  refine ⟨K + 1, ?_⟩
  unfold rollbacknetlaw11_FrameBack.f
  rw [bind_of (awake_f (by omega)), if_pos rfl]
  by_cases hlen : (b.length : Int) > 2000
  · rw [if_pos hlen]
  rw [if_neg hlen]
  obtain ⟨bs, e1, h1, h2⟩ := bodies_ok hl (k := K + 1) (by omega)
  have hcl := seals_length h1
  obtain ⟨r, q, e2, q1, q2⟩ := scan_all h1 (by omega) hb (by omega) (k := K + 1) (by omega)
  rw [bind_of e1, bind_of (seal_ok h1 (by omega) (by omega)), if_pos (by simp; omega), List.nil_append, bind_of rfl, if_pos (by omega), bind_of e2, if_neg (by rw [List.length_append]; omega)]
  show rollbacknetlaw11_FrameBack.j0 (K + 1) bs (seals bs) (bs ++ r) (decide ((q : Int) < ((seals bs).length : Int))) = some true
  rw [decide_eq_false (by omega), rollbacknetlaw11_FrameBack.j0, if_neg Bool.false_ne_true]
  refine back_l0 h1 (by omega) (K := 3000) (by omega) (fun k hk => ?_) bs.length 0 K (by omega) (by omega) (by omega)
  have h3 := scan_seals Crc.Bytes.nil (by simp) bs [] [] (k - bs.length) h1 Crc.Bytes.nil (by simp; omega) (by simp; omega) (by omega)
  rw [show k - bs.length + bs.length = k by omega] at h3
  simp only [List.nil_append, List.length_nil, Nat.zero_add, List.append_nil] at h3
  unfold frame_Scan.f
  refine Eq.trans h3 ?_
  obtain ⟨m, hm⟩ : ∃ m, k - bs.length = m + 1 := ⟨k - bs.length - 1, by omega⟩
  rw [hm]
  simp only [frame_Scan.l0]
  have e : nx (seals bs) (seals bs).length = ([], 0, 11) := by unfold nx; rw [if_pos rfl]
  rw [bind_of (next_eq (seals_bytes h1) (by omega) _ (by omega)), nextS_in (Nat.le_refl _), e, if_neg (by decide)]
end Go.Proofs.Ytmlphabhldahlaa.Pure
