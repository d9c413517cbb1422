/- Which caps are valid: the seams, and Validate. -/
import Derived.Test.YtnbickholedckaaMC6
namespace Go.Proofs.Ytnbickholedckaa
open Go.RowKit

def smA (sm : List Int) (k : Nat) : Int := sm.getD (k * 4) 0
def smI (sm : List Int) (k : Nat) : Int := sm.getD (k * 4 + 1) 0
def smB (sm : List Int) (k : Nat) : Int := sm.getD (k * 4 + 2) 0
def smJ (sm : List Int) (k : Nat) : Int := sm.getD (k * 4 + 3) 0
def usP (sm : List Int) (t : Nat) (p q : Int) : Prop := (smA sm t = p ∧ smI sm t = q) ∨ (smB sm t = p ∧ smJ sm t = q)
instance (sm : List Int) (t : Nat) (p q : Int) : Decidable (usP sm t p q) := by unfold usP; infer_instance
/-- A seam before the k-th uses this side. -/
def usD (sm : List Int) (k : Nat) (p q : Int) : Prop := ¬ ∀ t, t < k → ¬ usP sm t p q
instance (sm : List Int) (k : Nat) (p q : Int) : Decidable (usD sm k p q) := by unfold usD; infer_instance
theorem usD_iff {sm : List Int} {k : Nat} {p q : Int} : usD sm k p q ↔ ∃ t, t < k ∧ usP sm t p q := by
  unfold usD
  constructor
  · intro h
    by_cases h2 : ∃ t, t < k ∧ usP sm t p q
    · exact h2
    · exact absurd (fun t ht hu => h2 ⟨t, ht, hu⟩) h
  · rintro ⟨t, ht, hu⟩ h; exact h t ht hu
def lnS (sd : Nat → List Int) (a i : Int) : Int := (sd a.toNat).getD i.toNat 0
/-- The error of the k-th seam. -/
def seE (n : Nat) (sd : Nat → List Int) (sm : List Int) (e : Int) (k : Nat) : Int :=
  if ¬ (hsP n sd (smA sm k) (smI sm k) ∧ hsP n sd (smB sm k) (smJ sm k)) then 5
  else if (smA sm k = smB sm k ∧ smI sm k = smJ sm k) ∨ usD sm k (smA sm k) (smI sm k) ∨ usD sm k (smB sm k) (smJ sm k) then 7
  else if ¬ (-e ≤ lnS sd (smA sm k) (smI sm k) - lnS sd (smB sm k) (smJ sm k) ∧ lnS sd (smA sm k) (smI sm k) - lnS sd (smB sm k) (smJ sm k) ≤ e) then 8 else 0
/-- The first that is not 0. -/
def fstE (f : Nat → Int) : Nat → Int
  | 0 => 0
  | k + 1 => if fstE f k ≠ 0 then fstE f k else f k
theorem fstE_0 {f : Nat → Int} : ∀ {m : Nat}, (∀ t, t < m → f t = 0) → fstE f m = 0
  | 0, _ => rfl
  | m + 1, h => by
    have h1 := fstE_0 (m := m) (fun t ht => h t (by omega))
    simp only [fstE]
    rw [if_neg (by simp [h1])]
    exact h m (by omega)
theorem fstE_at {f : Nat → Int} {k : Nat} (h : ∀ t, t < k → f t = 0) (hk : f k ≠ 0) : ∀ {m : Nat}, k < m → fstE f m = f k
  | 0, hm => by omega
  | m + 1, hm => by
    by_cases e : k = m
    · subst e; simp only [fstE, fstE_0 h, ne_eq, not_true_eq_false, if_false]
    · simp only [fstE, fstE_at h hk (show k < m by omega)]; exact if_pos hk
theorem fstE_iff {f : Nat → Int} : ∀ {m : Nat}, fstE f m = 0 ↔ ∀ t, t < m → f t = 0
  | 0 => ⟨fun _ t ht => by omega, fun _ => rfl⟩
  | m + 1 => by
    constructor
    · intro h
      simp only [fstE] at h
      by_cases h1 : fstE f m = 0
      · rw [if_neg (by simp [h1])] at h
        intro t ht
        by_cases e : t = m
        · rw [e]; exact h
        · exact fstE_iff.1 h1 t (by omega)
      · rw [if_pos h1] at h; exact absurd h h1
    · exact fstE_0
def vdE (n : Nat) (sd an : Nat → List Int) (m : Nat) (sm : List Int) (e : Int) : Int :=
  if ¬ (1 ≤ n ∧ n ≤ 8) then 4 else if ¬ (0 ≤ e ∧ e ≤ 5) ∨ ¬ allOK n sd an then 1 else fstE (seE n sd sm e) m
theorem seE_5 {n : Nat} {sd : Nat → List Int} {sm : List Int} {e : Int} {k : Nat} (h : ¬ (hsP n sd (smA sm k) (smI sm k) ∧ hsP n sd (smB sm k) (smJ sm k))) : seE n sd sm e k = 5 := by unfold seE; exact if_pos h
theorem seE_7 {n : Nat} {sd : Nat → List Int} {sm : List Int} {e : Int} {k : Nat} (h : hsP n sd (smA sm k) (smI sm k) ∧ hsP n sd (smB sm k) (smJ sm k)) (h1 : (smA sm k = smB sm k ∧ smI sm k = smJ sm k) ∨ usD sm k (smA sm k) (smI sm k) ∨ usD sm k (smB sm k) (smJ sm k)) : seE n sd sm e k = 7 := by
  unfold seE; rw [if_neg (by simp only [h, and_self, not_true_eq_false, not_false_eq_true]), if_pos h1]
theorem seE_8 {n : Nat} {sd : Nat → List Int} {sm : List Int} {e : Int} {k : Nat} (h : hsP n sd (smA sm k) (smI sm k) ∧ hsP n sd (smB sm k) (smJ sm k)) (h1 : ¬ ((smA sm k = smB sm k ∧ smI sm k = smJ sm k) ∨ usD sm k (smA sm k) (smI sm k) ∨ usD sm k (smB sm k) (smJ sm k)))
    (h2 : ¬ (-e ≤ lnS sd (smA sm k) (smI sm k) - lnS sd (smB sm k) (smJ sm k) ∧ lnS sd (smA sm k) (smI sm k) - lnS sd (smB sm k) (smJ sm k) ≤ e)) : seE n sd sm e k = 8 := by
  unfold seE; rw [if_neg (by simp only [h, and_self, not_true_eq_false, not_false_eq_true]), if_neg h1, if_pos h2]
theorem seE_0 {n : Nat} {sd : Nat → List Int} {sm : List Int} {e : Int} {k : Nat} (h : hsP n sd (smA sm k) (smI sm k) ∧ hsP n sd (smB sm k) (smJ sm k)) (h1 : ¬ ((smA sm k = smB sm k ∧ smI sm k = smJ sm k) ∨ usD sm k (smA sm k) (smI sm k) ∨ usD sm k (smB sm k) (smJ sm k)))
    (h2 : -e ≤ lnS sd (smA sm k) (smI sm k) - lnS sd (smB sm k) (smJ sm k) ∧ lnS sd (smA sm k) (smI sm k) - lnS sd (smB sm k) (smJ sm k) ≤ e) : seE n sd sm e k = 0 := by
  unfold seE; rw [if_neg (by simp only [h, and_self, not_true_eq_false, not_false_eq_true]), if_neg h1, if_neg (by simp only [h2, and_self, not_true_eq_false, not_false_eq_true])]
/-- What the map of used sides says. -/
def usS (sm : List Int) (k : Nat) (x : List Int) : Prop := ∃ p q, x = [p, q] ∧ usD sm k p q
theorem usS_2 {sm : List Int} {k : Nat} {p q : Int} : usS sm k [p, q] ↔ usD sm k p q := by
  constructor
  · rintro ⟨a, b, h, hu⟩; simp at h; obtain ⟨rfl, rfl⟩ := h; exact hu
  · intro h; exact ⟨p, q, rfl, h⟩
theorem usS_0 (sm : List Int) (x : List Int) : ¬ usS sm 0 x := by
  rintro ⟨p, q, _, h⟩
  obtain ⟨t, ht, _⟩ := usD_iff.1 h; omega
theorem usS_step (sm : List Int) (k : Nat) (y : List Int) : usS sm (k + 1) y ↔ (usS sm k y ∨ y = [smA sm k, smI sm k]) ∨ y = [smB sm k, smJ sm k] := by
  constructor
  · rintro ⟨p, q, rfl, h⟩
    obtain ⟨t, ht, hu⟩ := usD_iff.1 h
    by_cases e : t = k
    · subst e
      rcases hu with ⟨h1, h2⟩ | ⟨h1, h2⟩
      · exact .inl (.inr (by rw [h1, h2]))
      · exact .inr (by rw [h1, h2])
    · exact .inl (.inl ⟨p, q, rfl, usD_iff.2 ⟨t, by omega, hu⟩⟩)
  · rintro ((⟨p, q, rfl, h⟩ | rfl) | rfl)
    · obtain ⟨t, ht, hu⟩ := usD_iff.1 h
      exact ⟨p, q, rfl, usD_iff.2 ⟨t, by omega, hu⟩⟩
    · exact ⟨_, _, rfl, usD_iff.2 ⟨k, by omega, .inl ⟨rfl, rfl⟩⟩⟩
    · exact ⟨_, _, rfl, usD_iff.2 ⟨k, by omega, .inr ⟨rfl, rfl⟩⟩⟩
/-- What is known of a side's length. -/
theorem ln_in {n : Nat} {sd an : Nat → List Int} (h : allOK n sd an) {a i : Int} (hs : hsP n sd a i) : 1 ≤ lnS sd a i ∧ lnS sd a i ≤ 200 := by
  have := (h a.toNat (by have := hs.1; omega)).2.2.1 i.toNat (by have := hs.2; omega)
  exact this.1
theorem ld_seam {P : Program} {B : Nat} {w0 : Wd} {hs hs' : HS} {t : TypeId} {oS : Option Addr} {sm : List Int} {i : Nat} (ht : sh P t = some (true, 4)) (h : Sl B w0 hs oS sm) (hsub : hs.Sublist hs') (hi : i * 4 + 3 < sm.length) :
    Ld P B w0 hs' t (ea oS (i * 4)) (.agg #[iv (smA sm i), iv (smI sm i), iv (smB sm i), iv (smJ sm i)]) := ld_4S ht h hsub hi
attribute [irreducible] smA smI smB smJ
attribute [local irreducible] OpF Ld CellAt Sl Sv pcA
structure VS where
  i : Nat
  L : Mp
set_option maxRecDepth 100000 in
set_option maxHeartbeats 8000000 in
theorem k_validSeams (ps : List Pc) (oP oS : Option Addr) (cP m cS : Nat) (sm : List Int) (e : Int) (hsm : sm.length = m * 4) (hm : m ≤ 100) (hok : allOK ps.length (sdF ps) (anF ps)) (he : 0 ≤ e ∧ e ≤ 5) (B : Nat) (w0 : Wd) (hs : HS) (hC : CapM B w0 hs oP oS ps sm) :
    Fn Try.prog 57 #[.agg #[.slice oP ps.length cP, .slice oS m cS, iv e]] B w0 hs (fun v h => v = iv (fstE (seE ps.length (sdF ps) sm e) m) ∧ h = hs) := by
  refine fn_enter Try.func57 rfl Try.ntmps57 (by simp) ?_
  repeat' (first | ((with_reducible apply kP (.makeMap _ _)); refine s_makeMap true (by decide) (fun mp => ?_)) | ((with_reducible apply kRg 7); refine cD [1, 1, 1, 1, 1, 0, 0, 0, 0, 0, 2, 2, 3, 4] ?_) | ((with_reducible apply kRg 10); refine cD [1, 1, 0, 0, 5, 5] ?_) | (with_reducible first | refine c_seq ?_ | refine c_reg ?_ | refine c_region ?_ | refine c_block ?_ | refine c_skip ?_ | refine c_exit ?_ | refine c_ret ?_ | refine s_nil ?_ | refine x_then ?_ | refine x_then_exit ?_ | refine x_then_ret ?_ | refine x_block ?_ | refine x_block_ret ?_ | refine x_block_same ?_ | refine x_block_other (by first | rfl | decide) ?_ | refine q_nil ?_ | refine k_nil ?_) | ((with_reducible apply kP (.makeFunc _ _ _)); refine sMF ?_) | ((with_reducible apply kG); first | refine gY1 ?_ | refine gN1 ?_ | refine gU1 ?_ | (refine gD1 (fun h => ?_) (fun h => ?_) <;> (try (exfalso; omega))) | refine gB1 (fun h => ?_) (fun h => ?_)) | ((with_reducible apply kN); first | refine stP ?_ | refine stI ?_ | refine st1 ?_ | refine stW ?_) | ((with_reducible apply kP (.alloc _)); refine sA (fun b => ?_)) | ((with_reducible apply kP (.box _ _)); first | refine sBA (fun b => ?_) | refine sB (fun b => ?_)) | ((with_reducible apply kP (.buildSlice _ 1 _)); first | refine sl1A (fun b => ?_) | refine sl1 (fun b => ?_)) | ((with_reducible apply kP (.buildSlice _ 2 _)); refine sl2 (fun b => ?_)) | ((with_reducible apply kP (.buildSlice _ 3 _)); refine sl3 (fun b => ?_)) | ((with_reducible apply kP (.buildSlice _ 4 _)); refine sl4 (fun b => ?_)) | ((with_reducible apply kP (.buildSlice _ 0 _)); refine s_bs0 (scTOf rfl) (zsTOf rfl) (by decide) (fun b => ?_)) | ((with_reducible apply kP (.makeSlice _ _ _)); refine sMk (fun b => ?_)) | ((with_reducible apply kP (.call ⟨.builtin .append, _, _⟩)); refine sAp (fun oa2 c2 blk2 hrow2 => ?_)) | ((with_reducible apply kP _); refine sP ?_) | ((with_reducible apply kP _); refine sX ?_) | ((with_reducible apply kQG); first | refine qY1 ?_ | refine qN1 ?_ | refine qU1 ?_ | (refine qD1 (fun h => ?_) (fun h => ?_) <;> (try (exfalso; omega))) | refine qB1 (fun h => ?_) (fun h => ?_)) | ((with_reducible apply kQP); refine qP ?_) | ((with_reducible apply kQP); refine qX ?_) | ((with_reducible apply kC); first | refine cT ?_ | refine cF ?_ | (refine cI (fun h => ?_) (fun h => ?_) <;> (try (exfalso; omega))) | refine cB (fun h => ?_) (fun h => ?_)) | ((with_reducible apply kR); refine cQ ?_) | ((with_reducible apply kDG); first | refine dY1 ?_ | refine dNo1 ?_ | refine dU1 ?_ | (refine dD1 (fun h => ?_) (fun h => ?_) <;> (try (exfalso; omega))) | refine dB1 (fun h => ?_) (fun h => ?_)) | ((with_reducible apply kDN); first | refine dtI ?_ | refine dt1 ?_ | refine dtW ?_) | ((with_reducible apply kDP (.alloc _)); refine dA (fun b => ?_)) | ((with_reducible apply kDP (.box _ _)); first | refine dBA (fun b => ?_) | refine dB (fun b => ?_)) | ((with_reducible apply kDP (.buildSlice _ 1 _)); first | refine dl1A (fun b => ?_) | refine dl1 (fun b => ?_)) | ((with_reducible apply kDP (.call ⟨.builtin .append, _, _⟩)); first | refine dAp3 (fun oa2 c2 blk2 hrow2 => ?_) (hS := SCt) | refine dAp4 (fun oa2 c2 blk2 hrow2 => ?_)) | ((with_reducible apply kDP _); refine dP ?_) | ((with_reducible apply kDP _); refine dX ?_))
  refine c_loopM (fun t : VS => ⟨w0.w, (mp, mapO true t.L) :: w0.ms⟩) (fun t : VS => [(1, .pointer (some ⟨b, 0, none⟩)), (3, .map (some mp)), (11, .slice oS m cS), (12, iv m), (13, iv t.i)]) (fun _ => (b, [.slice oP ps.length cP, .slice oS m cS, iv e]) :: hs) (fun t => t.i ≤ m ∧ SnM 2 (usS sm t.i) t.L ∧ ∀ k, k < t.i → seE ps.length (sdF ps) sm e k = 0) (fun t => m - t.i) ⟨0, []⟩ ⟨Nat.zero_le _, SnM.nil 2 (usS_0 sm), fun k hk => absurd hk (Nat.not_lt_zero k)⟩ (.refl _) (by repeat' first | trivial | rfl | apply And.intro) (.refl _) ?_
  rintro ⟨i, L⟩ ⟨hi, hS, hz⟩
  dsimp only at hi hS hz ⊢
  have hle : w0.le ⟨w0.w, (mp, mapO true L) :: w0.ms⟩ := ⟨rfl, .cons _ (.refl _)⟩
  have hC' := hC.base hle
  by_cases hi' : i < m
  · have hoS : oS.isSome = true := hC.sms.any (i := i * 4) (by omega)
    have hld : ∀ hs' : HS, hs.Sublist hs' → Ld Try.prog B ⟨w0.w, (mp, mapO true L) :: w0.ms⟩ hs' 56 (ea oS (i * 4)) (.agg #[iv (smA sm i), iv (smI sm i), iv (smB sm i), iv (smJ sm i)]) := fun hs' h => ld_seam (shTOf rfl) hC'.sms h (by omega)
    have kh := fun a j hs' (h : hs.Sublist hs') => k_hasSide ps oP oS cP m cS sm e a j B _ hs' (hC'.sub h)
    have hb1 := hS.look [smA sm i, smI sm i] (b := decide (usD sm i (smA sm i) (smI sm i))) (by rw [decide_eq_true_iff]; exact usS_2.symm)
    have hb2 := hS.look [smB sm i, smJ sm i] (b := decide (usD sm i (smB sm i) (smJ sm i))) (by rw [decide_eq_true_iff]; exact usS_2.symm)
    have hend : ∀ z : Int, seE ps.length (sdF ps) sm e i = z → z ≠ 0 → iv z = iv (fstE (seE ps.length (sdF ps) sm e) m) := fun z h1 h2 => by rw [fstE_at hz (by rw [h1]; exact h2) hi', h1]
    by_cases hh : hsP ps.length (sdF ps) (smA sm i) (smI sm i) ∧ hsP ps.length (sdF ps) (smB sm i) (smJ sm i)
    · have q1 := decide_eq_true hh.1
      have q2 := decide_eq_true hh.2
      have kh1 := kh (smA sm i) (smI sm i)
      have kh2 := kh (smB sm i) (smJ sm i)
      rw [q1] at kh1
      rw [q2] at kh2
      have hl1 := ln_in hok hh.1
      have hl2 := ln_in hok hh.2
      have hC2 := hC.base (a := w0) (b := ⟨w0.w, (mp, mapO true (mset (mset L [smA sm i, smI sm i] (.bool true)) [smB sm i, smJ sm i] (.bool true))) :: w0.ms⟩) ⟨rfl, .cons _ (.refl _)⟩
      have hcA := fun hs' (h : hs.Sublist hs') => hC2.c0 h (i := (smA sm i).toNat) (by have := hh.1.1; omega)
      have hcB := fun hs' (h : hs.Sublist hs') => hC2.c0 h (i := (smB sm i).toNat) (by have := hh.2.1; omega)
      have hsA := (hC2.sds (smA sm i).toNat (by have := hh.1.1; omega))
      have hsB := (hC2.sds (smB sm i).toNat (by have := hh.2.1; omega))
      have hoP := hC.isS (i := (smA sm i).toNat) (by have := hh.1.1; omega)
      have hoA : (pcA ps (smA sm i).toNat).oa.isSome = true := hsA.any (i := (smI sm i).toNat) (by have := hh.1.2; unfold sdF at this; omega)
      have hoB : (pcA ps (smB sm i).toNat).oa.isSome = true := hsB.any (i := (smJ sm i).toNat) (by have := hh.2.2; unfold sdF at this; omega)
      have hS1 : SnM 2 (fun y => usS sm i y ∨ y = [smA sm i, smI sm i]) (mset L [smA sm i, smI sm i] (.bool true)) := hS.step rfl (fun y => Iff.rfl)
      have hS2 : SnM 2 (usS sm (i + 1)) (mset (mset L [smA sm i, smI sm i] (.bool true)) [smB sm i, smJ sm i] (.bool true)) := hS1.step rfl (fun y => usS_step sm i y)
      obtain ⟨⟨A0, A1⟩, A2, A3⟩ := hh.1
      obtain ⟨⟨B0, B1⟩, B2, B3⟩ := hh.2
      unfold sdF at A3 B3
      unfold lnS sdF at hl1 hl2
      repeat' (first | ((with_reducible apply kP (.load 56 _)); refine sP ?_ (o_load rfl (hld _ SBt))) | ((with_reducible apply kDP (.load 56 _)); refine dP ?_ (hX := rfl) (hv := o_load rfl (hld _ SBt))) | ((with_reducible apply kQO (.load 56 _)); refine qP ?_ (o_load rfl (hld _ SBt))) | ((with_reducible apply kN); refine stW ?_ (hf := flat_cons rfl (flat3 rfl rfl rfl))) | ((with_reducible apply kF 76); refine sC 76 (kh1 _ SBt) ?_) | ((with_reducible apply kF 76); refine sC 76 (kh2 _ SBt) ?_) | ((with_reducible apply kP (.lookup _ _ _ _)); refine sP ?_ (hb1 ▸ o_lookup (x := [smA sm i, smI sm i]) mp106 rfl rfl (.head _) rfl hS.len)) | ((with_reducible apply kP (.lookup _ _ _ _)); refine sP ?_ (hb2 ▸ o_lookup (x := [smB sm i, smJ sm i]) mp106 rfl rfl (.head _) rfl hS.len)) | ((with_reducible apply kP (.binOp .eql 107 _ _ _)); refine sP ?_ (o_eqlA2 eq107 rfl rfl)) | ((with_reducible apply kDP (.binOp .eql 107 _ _ _)); refine dP ?_ (hX := rfl) (hv := o_eqlA2 eq107 rfl rfl)) | ((with_reducible apply kQO (.binOp .eql 107 _ _ _)); refine qP ?_ (o_eqlA2 eq107 rfl rfl)) | ((with_reducible apply kRg 10); refine cD [6, 6, 6, 6, 7, 7] ?_) | ((with_reducible apply kDP (.move _)); refine k_pure6 0 rfl (fun w1 _ => o_move rfl) (by decide) ?_) | ((with_reducible apply kDP (.load 107 _)); refine k_pure6 0 rfl (fun w1 _ => o_load rfl (ld_whole (shTOf rfl) MMt rfl)) (by decide) ?_) | ((with_reducible apply kDN); refine k_mapUpdate7 (x := [smA sm i, smI sm i]) (v := .bool true) mp106 rfl rfl rfl rfl rfl hS.len (.head _) ?_) | ((with_reducible apply kDN); refine k_mapUpdate7 (x := [smB sm i, smJ sm i]) (v := .bool true) mp106 rfl rfl rfl rfl rfl hS1.len (.head _) ?_) | ((with_reducible apply kP (.load 3 _)); refine sP ?_ (o_load rfl (ld_one (shTOf rfl) (Sl.at (by assumption) SBt (by omega))))) | ((with_reducible apply kDP (.load 3 _)); refine dP ?_ (hX := rfl) (hv := o_load rfl (ld_one (shTOf rfl) (Sl.at (by assumption) SBt (by omega))))) | ((with_reducible apply kQO (.load 3 _)); refine qP ?_ (o_load rfl (ld_one (shTOf rfl) (Sl.at (by assumption) SBt (by omega))))) | ((with_reducible apply kP (.fieldAddr _ _ _)); refine sP ?_ (o_fieldE rfl (by assumption) (foTOf2 rfl rfl) (by with_reducible first | exact bb0 _ | exact bb1 _ | exact bb2 _ _))) | ((with_reducible apply kDP (.fieldAddr _ _ _)); refine dP ?_ (hX := rfl) (hv := o_fieldE rfl (by assumption) (foTOf2 rfl rfl) (by with_reducible first | exact bb0 _ | exact bb1 _ | exact bb2 _ _))) | ((with_reducible apply kQO (.fieldAddr _ _ _)); refine qP ?_ (o_fieldE rfl (by assumption) (foTOf2 rfl rfl) (by with_reducible first | exact bb0 _ | exact bb1 _ | exact bb2 _ _))) | ((with_reducible apply kP (.load 39 _)); refine sP ?_ (o_load rfl (ld_one (shTOf rfl) (hcA _ SBt)))) | ((with_reducible apply kDP (.load 39 _)); refine dP ?_ (hX := rfl) (hv := o_load rfl (ld_one (shTOf rfl) (hcA _ SBt)))) | ((with_reducible apply kQO (.load 39 _)); refine qP ?_ (o_load rfl (ld_one (shTOf rfl) (hcA _ SBt)))) | ((with_reducible apply kP (.load 39 _)); refine sP ?_ (o_load rfl (ld_one (shTOf rfl) (hcB _ SBt)))) | ((with_reducible apply kDP (.load 39 _)); refine dP ?_ (hX := rfl) (hv := o_load rfl (ld_one (shTOf rfl) (hcB _ SBt)))) | ((with_reducible apply kQO (.load 39 _)); refine qP ?_ (o_load rfl (ld_one (shTOf rfl) (hcB _ SBt)))) | ((with_reducible apply kF 53); refine sC 53 (k_within _ _ _ B _ _) ?_) | ((with_reducible apply kRg 7); refine cD [1, 1, 1, 1, 1, 0, 0, 0, 0, 0, 2, 2, 3, 4] ?_) | (with_reducible first | refine c_seq ?_ | refine c_reg ?_ | refine c_region ?_ | refine c_block ?_ | refine c_skip ?_ | refine c_exit ?_ | refine c_ret ?_ | refine s_nil ?_ | refine x_then ?_ | refine x_then_exit ?_ | refine x_then_ret ?_ | refine x_block ?_ | refine x_block_ret ?_ | refine x_block_same ?_ | refine x_block_other (by first | rfl | decide) ?_ | refine q_nil ?_ | refine k_nil ?_) | ((with_reducible apply kP (.makeFunc _ _ _)); refine sMF ?_) | ((with_reducible apply kG); first | refine gY1 ?_ | refine gN1 ?_ | refine gU1 ?_ | (refine gD1 (fun h => ?_) (fun h => ?_) <;> (try (exfalso; omega))) | refine gB1 (fun h => ?_) (fun h => ?_)) | ((with_reducible apply kN); first | refine stP ?_ | refine stI ?_ | refine st1 ?_ | refine stW ?_) | ((with_reducible apply kP (.alloc _)); refine sA (fun b => ?_)) | ((with_reducible apply kP (.box _ _)); first | refine sBA (fun b => ?_) | refine sB (fun b => ?_)) | ((with_reducible apply kP (.buildSlice _ 1 _)); first | refine sl1A (fun b => ?_) | refine sl1 (fun b => ?_)) | ((with_reducible apply kP (.buildSlice _ 2 _)); refine sl2 (fun b => ?_)) | ((with_reducible apply kP (.buildSlice _ 3 _)); refine sl3 (fun b => ?_)) | ((with_reducible apply kP (.buildSlice _ 4 _)); refine sl4 (fun b => ?_)) | ((with_reducible apply kP (.buildSlice _ 0 _)); refine s_bs0 (scTOf rfl) (zsTOf rfl) (by decide) (fun b => ?_)) | ((with_reducible apply kP (.makeSlice _ _ _)); refine sMk (fun b => ?_)) | ((with_reducible apply kP (.call ⟨.builtin .append, _, _⟩)); refine sAp (fun oa2 c2 blk2 hrow2 => ?_)) | ((with_reducible apply kP _); refine sP ?_) | ((with_reducible apply kP _); refine sX ?_) | ((with_reducible apply kQG); first | refine qY1 ?_ | refine qN1 ?_ | refine qU1 ?_ | (refine qD1 (fun h => ?_) (fun h => ?_) <;> (try (exfalso; omega))) | refine qB1 (fun h => ?_) (fun h => ?_)) | ((with_reducible apply kQP); refine qP ?_) | ((with_reducible apply kQP); refine qX ?_) | ((with_reducible apply kC); first | refine cT ?_ | refine cF ?_ | (refine cI (fun h => ?_) (fun h => ?_) <;> (try (exfalso; omega))) | refine cB (fun h => ?_) (fun h => ?_)) | ((with_reducible apply kR); refine cQ ?_) | ((with_reducible apply kDG); first | refine dY1 ?_ | refine dNo1 ?_ | refine dU1 ?_ | (refine dD1 (fun h => ?_) (fun h => ?_) <;> (try (exfalso; omega))) | refine dB1 (fun h => ?_) (fun h => ?_)) | ((with_reducible apply kDN); first | refine dtI ?_ | refine dt1 ?_ | refine dtW ?_) | ((with_reducible apply kDP (.alloc _)); refine dA (fun b => ?_)) | ((with_reducible apply kDP (.box _ _)); first | refine dBA (fun b => ?_) | refine dB (fun b => ?_)) | ((with_reducible apply kDP (.buildSlice _ 1 _)); first | refine dl1A (fun b => ?_) | refine dl1 (fun b => ?_)) | ((with_reducible apply kDP (.call ⟨.builtin .append, _, _⟩)); first | refine dAp3 (fun oa2 c2 blk2 hrow2 => ?_) (hS := SCt) | refine dAp4 (fun oa2 c2 blk2 hrow2 => ?_)) | ((with_reducible apply kDP _); refine dP ?_) | ((with_reducible apply kDP _); refine dX ?_))
      all_goals first
        | (refine Sat.base (a := w0) ⟨rfl, .cons _ (.refl _)⟩ (e_ret1 rfl rfl ⟨hend 7 (seE_7 hh (by first | exact .inl (by assumption) | exact .inr (.inl (by assumption)) | exact .inr (.inr (by assumption)))) (by decide), rfl⟩ SCt))
        | (refine Sat.base (a := w0) ⟨rfl, .cons _ (.refl _)⟩ (e_ret1 rfl rfl ⟨hend 8 (seE_8 hh (by rintro (h | h | h) <;> first | exact absurd h (by assumption)) (by assumption)) (by decide), rfl⟩ SCt))
        | skip
      refine r_endM (⟨i + 1, mset (mset L [smA sm i, smI sm i] (.bool true)) [smB sm i, smJ sm i] (.bool true)⟩ : VS) ⟨hi', hS2, fun k hk => ?_⟩ (by dsimp only; omega) (.refl _) (by repeat' first | trivial | rfl | apply And.intro) SCt
      by_cases ek : k = i
      · rw [ek]; exact seE_0 hh (by rintro (h | h | h) <;> first | exact absurd h (by assumption)) (by first | assumption | exact Decidable.not_not.1 (by assumption))
      · exact hz k (by dsimp only at hk; omega)
    · have h5 := hend 5 (seE_5 hh) (by decide)
      have kh1 := kh (smA sm i) (smI sm i)
      have kh2 := kh (smB sm i) (smJ sm i)
      repeat' (first | ((with_reducible apply kP (.load 56 _)); refine sP ?_ (o_load rfl (hld _ SBt))) | ((with_reducible apply kDP (.load 56 _)); refine dP ?_ (hX := rfl) (hv := o_load rfl (hld _ SBt))) | ((with_reducible apply kQO (.load 56 _)); refine qP ?_ (o_load rfl (hld _ SBt))) | ((with_reducible apply kN); refine stW ?_ (hf := flat_cons rfl (flat3 rfl rfl rfl))) | ((with_reducible apply kF 76); refine sC 76 (kh1 _ SBt) ?_) | ((with_reducible apply kF 76); refine sC 76 (kh2 _ SBt) ?_) | ((with_reducible apply kRg 7); refine cD [1, 1, 1, 1, 1, 0, 0, 0, 0, 0, 2, 2, 3, 4] ?_) | ((with_reducible apply kRg 10); refine cD [1, 1, 0, 0, 5, 5] ?_) | (with_reducible first | refine c_seq ?_ | refine c_reg ?_ | refine c_region ?_ | refine c_block ?_ | refine c_skip ?_ | refine c_exit ?_ | refine c_ret ?_ | refine s_nil ?_ | refine x_then ?_ | refine x_then_exit ?_ | refine x_then_ret ?_ | refine x_block ?_ | refine x_block_ret ?_ | refine x_block_same ?_ | refine x_block_other (by first | rfl | decide) ?_ | refine q_nil ?_ | refine k_nil ?_) | ((with_reducible apply kP (.makeFunc _ _ _)); refine sMF ?_) | ((with_reducible apply kG); first | refine gY1 ?_ | refine gN1 ?_ | refine gU1 ?_ | (refine gD1 (fun h => ?_) (fun h => ?_) <;> (try (exfalso; omega))) | refine gB1 (fun h => ?_) (fun h => ?_)) | ((with_reducible apply kN); first | refine stP ?_ | refine stI ?_ | refine st1 ?_ | refine stW ?_) | ((with_reducible apply kP (.alloc _)); refine sA (fun b => ?_)) | ((with_reducible apply kP (.box _ _)); first | refine sBA (fun b => ?_) | refine sB (fun b => ?_)) | ((with_reducible apply kP (.buildSlice _ 1 _)); first | refine sl1A (fun b => ?_) | refine sl1 (fun b => ?_)) | ((with_reducible apply kP (.buildSlice _ 2 _)); refine sl2 (fun b => ?_)) | ((with_reducible apply kP (.buildSlice _ 3 _)); refine sl3 (fun b => ?_)) | ((with_reducible apply kP (.buildSlice _ 4 _)); refine sl4 (fun b => ?_)) | ((with_reducible apply kP (.buildSlice _ 0 _)); refine s_bs0 (scTOf rfl) (zsTOf rfl) (by decide) (fun b => ?_)) | ((with_reducible apply kP (.makeSlice _ _ _)); refine sMk (fun b => ?_)) | ((with_reducible apply kP (.call ⟨.builtin .append, _, _⟩)); refine sAp (fun oa2 c2 blk2 hrow2 => ?_)) | ((with_reducible apply kP _); refine sP ?_) | ((with_reducible apply kP _); refine sX ?_) | ((with_reducible apply kQG); first | refine qY1 ?_ | refine qN1 ?_ | refine qU1 ?_ | (refine qD1 (fun h => ?_) (fun h => ?_) <;> (try (exfalso; omega))) | refine qB1 (fun h => ?_) (fun h => ?_)) | ((with_reducible apply kQP); refine qP ?_) | ((with_reducible apply kQP); refine qX ?_) | ((with_reducible apply kC); first | refine cT ?_ | refine cF ?_ | (refine cI (fun h => ?_) (fun h => ?_) <;> (try (exfalso; omega))) | refine cB (fun h => ?_) (fun h => ?_)) | ((with_reducible apply kR); refine cQ ?_) | ((with_reducible apply kDG); first | refine dY1 ?_ | refine dNo1 ?_ | refine dU1 ?_ | (refine dD1 (fun h => ?_) (fun h => ?_) <;> (try (exfalso; omega))) | refine dB1 (fun h => ?_) (fun h => ?_)) | ((with_reducible apply kDN); first | refine dtI ?_ | refine dt1 ?_ | refine dtW ?_) | ((with_reducible apply kDP (.alloc _)); refine dA (fun b => ?_)) | ((with_reducible apply kDP (.box _ _)); first | refine dBA (fun b => ?_) | refine dB (fun b => ?_)) | ((with_reducible apply kDP (.buildSlice _ 1 _)); first | refine dl1A (fun b => ?_) | refine dl1 (fun b => ?_)) | ((with_reducible apply kDP (.call ⟨.builtin .append, _, _⟩)); first | refine dAp3 (fun oa2 c2 blk2 hrow2 => ?_) (hS := SCt) | refine dAp4 (fun oa2 c2 blk2 hrow2 => ?_)) | ((with_reducible apply kDP _); refine dP ?_) | ((with_reducible apply kDP _); refine dX ?_))
      all_goals first
        | exact Sat.base (a := w0) ⟨rfl, .cons _ (.refl _)⟩ (e_ret1 rfl rfl ⟨h5, rfl⟩ SCt)
        | (exfalso; first | exact hh ⟨by assumption, by assumption⟩ | (refine hh ⟨?_, ?_⟩ <;> first | assumption | exact Decidable.not_not.1 (by assumption)))
        | trace_state
  · obtain rfl : m = i := by omega
    repeat' (first | ((with_reducible apply kRg 7); refine cD [1, 1, 1, 1, 1, 0, 0, 0, 0, 0, 2, 2, 3, 4] ?_) | ((with_reducible apply kRg 10); refine cD [1, 1, 0, 0, 5, 5] ?_) | (with_reducible first | refine c_seq ?_ | refine c_reg ?_ | refine c_region ?_ | refine c_block ?_ | refine c_skip ?_ | refine c_exit ?_ | refine c_ret ?_ | refine s_nil ?_ | refine x_then ?_ | refine x_then_exit ?_ | refine x_then_ret ?_ | refine x_block ?_ | refine x_block_ret ?_ | refine x_block_same ?_ | refine x_block_other (by first | rfl | decide) ?_ | refine q_nil ?_ | refine k_nil ?_) | ((with_reducible apply kP (.makeFunc _ _ _)); refine sMF ?_) | ((with_reducible apply kG); first | refine gY1 ?_ | refine gN1 ?_ | refine gU1 ?_ | (refine gD1 (fun h => ?_) (fun h => ?_) <;> (try (exfalso; omega))) | refine gB1 (fun h => ?_) (fun h => ?_)) | ((with_reducible apply kN); first | refine stP ?_ | refine stI ?_ | refine st1 ?_ | refine stW ?_) | ((with_reducible apply kP (.alloc _)); refine sA (fun b => ?_)) | ((with_reducible apply kP (.box _ _)); first | refine sBA (fun b => ?_) | refine sB (fun b => ?_)) | ((with_reducible apply kP (.buildSlice _ 1 _)); first | refine sl1A (fun b => ?_) | refine sl1 (fun b => ?_)) | ((with_reducible apply kP (.buildSlice _ 2 _)); refine sl2 (fun b => ?_)) | ((with_reducible apply kP (.buildSlice _ 3 _)); refine sl3 (fun b => ?_)) | ((with_reducible apply kP (.buildSlice _ 4 _)); refine sl4 (fun b => ?_)) | ((with_reducible apply kP (.buildSlice _ 0 _)); refine s_bs0 (scTOf rfl) (zsTOf rfl) (by decide) (fun b => ?_)) | ((with_reducible apply kP (.makeSlice _ _ _)); refine sMk (fun b => ?_)) | ((with_reducible apply kP (.call ⟨.builtin .append, _, _⟩)); refine sAp (fun oa2 c2 blk2 hrow2 => ?_)) | ((with_reducible apply kP _); refine sP ?_) | ((with_reducible apply kP _); refine sX ?_) | ((with_reducible apply kQG); first | refine qY1 ?_ | refine qN1 ?_ | refine qU1 ?_ | (refine qD1 (fun h => ?_) (fun h => ?_) <;> (try (exfalso; omega))) | refine qB1 (fun h => ?_) (fun h => ?_)) | ((with_reducible apply kQP); refine qP ?_) | ((with_reducible apply kQP); refine qX ?_) | ((with_reducible apply kC); first | refine cT ?_ | refine cF ?_ | (refine cI (fun h => ?_) (fun h => ?_) <;> (try (exfalso; omega))) | refine cB (fun h => ?_) (fun h => ?_)) | ((with_reducible apply kR); refine cQ ?_) | ((with_reducible apply kDG); first | refine dY1 ?_ | refine dNo1 ?_ | refine dU1 ?_ | (refine dD1 (fun h => ?_) (fun h => ?_) <;> (try (exfalso; omega))) | refine dB1 (fun h => ?_) (fun h => ?_)) | ((with_reducible apply kDN); first | refine dtI ?_ | refine dt1 ?_ | refine dtW ?_) | ((with_reducible apply kDP (.alloc _)); refine dA (fun b => ?_)) | ((with_reducible apply kDP (.box _ _)); first | refine dBA (fun b => ?_) | refine dB (fun b => ?_)) | ((with_reducible apply kDP (.buildSlice _ 1 _)); first | refine dl1A (fun b => ?_) | refine dl1 (fun b => ?_)) | ((with_reducible apply kDP (.call ⟨.builtin .append, _, _⟩)); first | refine dAp3 (fun oa2 c2 blk2 hrow2 => ?_) (hS := SCt) | refine dAp4 (fun oa2 c2 blk2 hrow2 => ?_)) | ((with_reducible apply kDP _); refine dP ?_) | ((with_reducible apply kDP _); refine dX ?_))
    exact Sat.base (a := w0) hle (e_ret1 rfl rfl ⟨congrArg iv (fstE_0 hz).symm, rfl⟩ SCt)
end Go.Proofs.Ytnbickholedckaa
