/- A cap's text is read back, plain. -/
import Derived.Test.YtmblgbcipniecaaGreatDoorMX41
namespace Go.Proofs.YtmblgbcipniecaaGreatDoor
open Go.RowKit
theorem zzT_get (sd an : List Int) : ∀ n i, i < n → (zzT sd an n).getD (2 * i) 0 = sd.getD i 0 ∧ (zzT sd an n).getD (2 * i + 1) 0 = an.getD i 0
  | 0, i, h => by omega
  | n + 1, i, h => by
    have hl := zzT_len sd an n
    rw [zzT]
    simp only [List.getD_eq_getElem?_getD]
    by_cases hi : i < n
    · have ih := zzT_get sd an n i hi
      simp only [List.getD_eq_getElem?_getD] at ih
      rw [List.getElem?_append_left (by omega), List.getElem?_append_left (by omega)]
      exact ih
    · obtain rfl : i = n := by omega
      rw [List.getElem?_append_right (by omega), List.getElem?_append_right (by omega), hl, Nat.sub_self, show 2 * i + 1 - 2 * i = 1 by omega]
      exact ⟨rfl, rfl⟩
theorem take_get {l : List Int} {k : Nat} (h : k < l.length) : l.take (k + 1) = l.take k ++ [l.getD k 0] := by
  rw [List.take_succ_eq_append_getElem h, List.getD_eq_getElem?_getD, List.getElem?_eq_getElem h]
  rfl
theorem evT_zz {sd an : List Int} {n : Nat} (h1 : n ≤ sd.length) : ∀ k, k ≤ n → evT (zzT sd an n) k = sd.take k
  | 0, _ => rfl
  | k + 1, h => by rw [evT, evT_zz h1 k (by omega), (zzT_get sd an n k (by omega)).1, take_get (by omega)]
theorem odT_zz {sd an : List Int} {n : Nat} (h1 : n ≤ an.length) : ∀ k, k ≤ n → odT (zzT sd an n) k = an.take k
  | 0, _ => rfl
  | k + 1, h => by rw [odT, odT_zz h1 k (by omega), (zzT_get sd an n k (by omega)).2, take_get (by omega)]
/-- How lines are read. -/
structure RdOk (rd : Rd → List UInt8 → Rd) : Prop where
  ease : ∀ r x, 0 ≤ x ∧ x ≤ 1000000 → rd r (sEase ++ nmT [x]) = { r with E := x }
  piece : ∀ r sd an, an.length = sd.length → NumOk (zzT sd an sd.length) → rd r (sPiece ++ nmT (zzT sd an sd.length)) = { r with P := r.P ++ [(sd, an)] }
  seam : ∀ r a b c d, NumOk [a, b, c, d] → rd r (sSeam ++ nmT [a, b, c, d]) = { r with S := r.S ++ [a, b, c, d] }
  nil : ∀ r, rd r [] = r
theorem rdP_ok : RdOk rdP := by
  refine ⟨fun r x h => ?_, fun r sd an h hn => ?_, fun r a b c d h => ?_, fun r => ?_⟩
  · rw [rdP_line (fun y hy => by rw [List.mem_singleton.1 hy]; exact h) (by decide)]
    rfl
  · rw [rdP_line hn (by decide)]
    unfold sgP
    rw [if_neg (fun h => absurd h.1 (by decide)), if_pos ⟨rfl, by rw [zzT_len]; omega⟩, zzT_len, Nat.mul_div_cancel_left _ (by decide), evT_zz (Nat.le_refl _) _ (Nat.le_refl _), odT_zz (by omega) _ (Nat.le_refl _), List.take_length, ← h, List.take_length]
  · rw [rdP_line h (by decide)]
    rfl
  · rfl
theorem rdR_ok {Nr : List UInt8 → Int} (hN : ∀ x : Int, 0 ≤ x ∧ x ≤ 1000000 → Nr (Go.Lib.itoa x) = x) : RdOk (rdR Nr) := by
  refine ⟨fun r x h => ?_, fun r sd an h hn => ?_, fun r a b c d h => ?_, fun r => ?_⟩
  · rw [rdR_line hN (fun y hy => by rw [List.mem_singleton.1 hy]; exact h) (by decide)]
    rfl
  · rw [rdR_line hN hn (by decide)]
    unfold sgR1 sgR2 sgR3
    rw [if_neg (fun h => absurd h.1 (by decide)), if_pos rfl, if_neg (fun h => absurd h.1 (by decide)), zzT_len, Nat.mul_div_cancel_left _ (by decide), evT_zz (Nat.le_refl _) _ (Nat.le_refl _), odT_zz (by omega) _ (Nat.le_refl _), List.take_length, ← h, List.take_length]
  · rw [rdR_line hN h (by decide)]
    rfl
  · rfl
theorem wds_ln {w : List UInt8} {l : List Int} (hw : (10 : UInt8) ∉ w) (hl : NumOk l) (rest : List UInt8) : wds 10 (lnT w l ++ rest) = (w ++ nmT l) :: wds 10 rest := by
  have e : lnT w l ++ rest = (w ++ nmT l) ++ 10 :: rest := by unfold lnT; simp
  rw [e, wds_app]
  intro hm
  rcases List.mem_append.1 hm with hm | hm
  · exact hw hm
  · exact nmT_no hl 10 (by decide) (by decide) hm
def prP (p : Pc) : List Int × List Int := (p.sd, p.an)
section
variable {rd : Rd → List UInt8 → Rd} (R : RdOk rd) {ps : List Pc} {sm : List Int} {m : Nat} {e : Int} (T : TxC ps sm m e)
include R T
theorem fold_pcs : ∀ k, k ≤ ps.length → ∀ r rest, (wds 10 (pcsT ps k ++ rest)).foldl rd r = (wds 10 rest).foldl rd { r with P := r.P ++ (ps.take k).map prP }
  | 0, _, r, rest => by simp [pcsT]
  | k + 1, hk, r, rest => by
    have h6 := T.sd6 k hk
    have hb := T.sdb k hk
    have hn : NumOk (zzT (pcA ps k).sd (pcA ps k).an (pcA ps k).sd.length) := zzT_mem _ hb
    rw [pcsT, List.append_assoc, fold_pcs k (by omega), wds_ln (by decide) hn, List.foldl_cons, R.piece _ _ _ h6.2 hn]
    congr 1
    rw [List.take_succ_eq_append_getElem hk, List.map_append, ← List.append_assoc]
    have e1 : ps[k] = pcA ps k := by unfold pcA; rw [List.getD_eq_getElem?_getD, List.getElem?_eq_getElem hk]; rfl
    rw [e1]
    rfl
theorem fold_sms (hsm : sm.length = m * 4) : ∀ k, k ≤ m → ∀ r rest, (wds 10 (smsT sm k ++ rest)).foldl rd r = (wds 10 rest).foldl rd { r with S := r.S ++ sm.take (4 * k) }
  | 0, _, r, rest => by simp [smsT]
  | k + 1, hk, r, rest => by
    obtain ⟨a, b, c, d⟩ := T.smb k hk
    have hn : NumOk [smA sm k, smI sm k, smB sm k, smJ sm k] := fun x hx => by
      simp only [List.mem_cons, List.not_mem_nil, or_false] at hx
      rcases hx with rfl | rfl | rfl | rfl <;> assumption
    rw [smsT, List.append_assoc, fold_sms hsm k (by omega), wds_ln (by decide) hn, List.foldl_cons, R.seam _ _ _ _ _ hn]
    congr 1
    have e1 : sm.take (4 * (k + 1)) = sm.take (4 * k) ++ [smA sm k, smI sm k, smB sm k, smJ sm k] := by
      rw [show 4 * (k + 1) = 4 * k + 1 + 1 + 1 + 1 by omega, take_get (by omega), take_get (by omega), take_get (by omega), take_get (by omega)]
      unfold smA smI smB smJ
      rw [Nat.mul_comm k 4]
      simp
    rw [e1, ← List.append_assoc]
/-- A cap's text is read back. -/
theorem fold_cap (hsm : sm.length = m * 4) : (wds 10 (capT ps sm m e)).foldl rd ⟨[], [], 0⟩ = ⟨ps.map prP, sm, e⟩ := by
  have hn : NumOk [e] := fun x hx => by rw [List.mem_singleton.1 hx]; exact T.e0
  have e1 : capT ps sm m e = lnT sEase [e] ++ (pcsT ps ps.length ++ (smsT sm m ++ [])) := by unfold capT; simp
  rw [e1, wds_ln (by decide) hn, List.foldl_cons, R.ease _ _ T.e0, fold_pcs R T _ (Nat.le_refl _), fold_sms R T hsm _ (Nat.le_refl _), show wds 10 ([] : List UInt8) = [[]] from rfl, List.foldl_cons, R.nil, List.foldl_nil, List.take_length, List.take_of_length_le (by omega)]
  rfl
end
end Go.Proofs.YtmblgbcipniecaaGreatDoor
