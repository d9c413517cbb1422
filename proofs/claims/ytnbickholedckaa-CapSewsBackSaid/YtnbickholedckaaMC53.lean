/- CapSews: the law's walk. -/
import Derived.Test.YtnbickholedckaaMC52
import Derived.Test.YtnbickholedckaaMC40
namespace Go.Proofs.Ytnbickholedckaa
open Go.RowKit
theorem CpR.of {qs ps : List Pc} {sm : List Int} {m : Nat} {e : Int} {u : Value} {blk : HS} (h : CpR qs sm m e u blk) (hs : SmP qs ps) : CpR ps sm m e u blk := by
  obtain ⟨oP', cP', oS', cS', rs, bo, ko, g1, g2, g3, g4, g5, g6, g7⟩ := h
  exact ⟨oP', cP', oS', cS', rs, bo, ko, by rw [g1, hs.len], g2, g3, by rw [g4, hs.len], fun i hi => by
    have := g5 i (by rw [hs.len]; exact hi)
    have := hs.at i
    constructor
    · rw [(g5 i (by rw [hs.len]; exact hi)).1, this.1]
    · rw [(g5 i (by rw [hs.len]; exact hi)).2, this.2], g6, g7⟩
theorem CeR.of {E : Int} {qs ps : List Pc} {sm : List Int} {m : Nat} {e : Int} {hs h : HS} {v : Value} (hc : CeR E qs sm m e hs v h) (hq : SmP qs ps) : CeR E ps sm m e hs v h := by
  rcases hc with hc | ⟨h1, u, blk, h2, h3, h4⟩
  · exact .inl hc
  · exact .inr ⟨h1, u, blk, h2.of hq, h3, h4⟩
/-- Bounds of what a cap holds. -/
structure Bd (ps : List Pc) (sm : List Int) (m : Nat) : Prop where
  n : ps.length ≤ 100
  l : ∀ i, i < ps.length → (pcA ps i).sd.length ≤ 100 ∧ (pcA ps i).an.length ≤ 100
  s : sm.length = m * 4
  m : m ≤ 100
theorem CpR.zero : CpR [] [] 0 0 zcap [] := ⟨none, 0, none, 0, [], [], [], rfl, RowOk.nil, fun r hr => (by cases hr), rfl, fun i hi => absurd hi (Nat.not_lt_zero _), RowOk.nil, rfl⟩
theorem CeR.x {E : Int} {ps : List Pc} {sm : List Int} {m : Nat} {e : Int} (hb : E = 0 → Bd ps sm m) : ∃ PS SM M e1, Bd PS SM M ∧ (E = 0 → PS = ps ∧ SM = sm ∧ M = m ∧ e1 = e) ∧ (E ≠ 0 → PS = [] ∧ SM = [] ∧ M = 0) ∧ ∀ hs v h, CeR E ps sm m e hs v h → ∃ u blk, CpR PS SM M e1 u blk ∧ v = .tuple #[u, iv E] ∧ h = blk ++ hs := by
  by_cases hE : E = 0
  · exact ⟨ps, sm, m, e, hb hE, fun _ => ⟨rfl, rfl, rfl, rfl⟩, fun h => absurd hE h, fun hs v h hc => by
      rcases hc with ⟨h1, _⟩ | ⟨h1, u, blk, h2, h3, h4⟩
      · exact absurd hE h1
      · exact ⟨u, blk, h2, by rw [hE]; exact h3, h4⟩⟩
  · exact ⟨[], [], 0, 0, ⟨Nat.zero_le _, fun i hi => absurd hi (Nat.not_lt_zero _), rfl, Nat.zero_le _⟩, fun h => absurd h hE, fun _ => ⟨rfl, rfl, rfl⟩, fun hs v h hc => by
      rcases hc with ⟨h1, h2, h3⟩ | ⟨h1, _⟩
      · exact ⟨zcap, [], CpR.zero, h2, h3⟩
      · exact absurd h1 hE⟩
theorem CpR.x {ps : List Pc} {sm : List Int} {m : Nat} {e : Int} {u : Value} {blk : HS} (h : CpR ps sm m e u blk) (B : Nat) (w0 : Wd) : ∃ qs oP cP oS cS, u = .agg #[.slice oP ps.length cP, .slice oS m cS, iv e] ∧ SmP qs ps ∧ CapM B w0 blk oP oS qs sm := by
  obtain ⟨qs, oP, cP, oS, cS, h1, h2, h3⟩ := h.m (B := B) (w0 := w0)
  have := h3 []
  rw [List.append_nil] at this
  exact ⟨qs, oP, cP, oS, cS, by rw [h1, h2.len], h2, this⟩
attribute [local irreducible] OpF Ld CellAt Sl Sv pcA usP
theorem same_cp {ps qs1 qs2 : List Pc} {oP oS oP' oS' : Option Addr} {sm : List Int} {m : Nat} (e : Int) (cP cS cP' cS' : Nat) {b1 b2 : HS} {B : Nat} {w0 : Wd} (hb : Bd ps sm m) (h1 : SmP qs1 ps) (h2 : SmP qs2 ps) (g1 : CapM B w0 b1 oP oS qs1 sm) (g2 : CapM B w0 b2 oP' oS' qs2 sm) (hs : HS) (s1 : b1.Sublist hs) (s2 : b2.Sublist hs) :
    Fn Try.prog 20 #[.agg #[.slice oP ps.length cP, .slice oS m cS, iv e], .agg #[.slice oP' ps.length cP', .slice oS' m cS', iv e]] B w0 hs (fun v h => v = .bool true ∧ h = hs) := by
  have := r_SameT qs1 qs2 oP oS oP' oS' cP m cS cP' cS' sm e (by rw [h1.len]; exact hb.n) (by rw [h1.len, h2.len]) (fun i hi => by rw [(h1.at i).1, (h1.at i).2]; exact hb.l i (by rw [← h1.len]; exact hi)) (fun i _ => ⟨by rw [(h1.at i).1, (h2.at i).1], by rw [(h1.at i).2, (h2.at i).2]⟩) hb.s hb.m B w0 hs (g1.sub s1) (g2.sub s2)
  rw [h1.len] at this
  exact this
structure SwT where
  i : Nat
  rs : List Rp
theorem rpb_split : ∀ (l1 : List Rp) (r : Rp) (l2 : List Rp), rpb (l1 ++ r :: l2) = rpb l2 ++ (r.k ++ rpb l1) := fun l1 r l2 => by
  unfold rpb
  rw [List.foldl_append, List.foldl_cons, rpb_go l2]
  rfl
theorem split_at {α : Type} {l : List α} {i : Nat} (h : i < l.length) : ∃ l1 a l2, l = l1 ++ a :: l2 ∧ l1.length = i :=
  ⟨l.take i, l[i], l.drop (i + 1), by rw [← List.drop_eq_getElem_cons h, List.take_append_drop], by rw [List.length_take]; omega⟩
theorem rp_mid (l1 l2 : List Rp) (r : Rp) : pcA (rpP (l1 ++ r :: l2)) l1.length = r.p := by
  unfold pcA rpP
  rw [List.getD_eq_getElem?_getD, List.map_append, List.getElem?_append_right (by simp)]
  simp
theorem rp_ne (l1 l2 : List Rp) (r q : Rp) {u : Nat} (h : u ≠ l1.length) : pcA (rpP (l1 ++ q :: l2)) u = pcA (rpP (l1 ++ r :: l2)) u := by
  unfold pcA rpP
  rw [List.getD_eq_getElem?_getD, List.getD_eq_getElem?_getD, List.map_append, List.map_append]
  congr 1
  by_cases hu : u < l1.length
  · rw [List.getElem?_append_left (by simpa using hu), List.getElem?_append_left (by simpa using hu)]
  · rw [List.getElem?_append_right (by simpa using hu), List.getElem?_append_right (by simpa using hu)]
    obtain ⟨v, hv⟩ : ∃ v, u - (l1.map (·.p)).length = v + 1 := ⟨u - l1.length - 1, by simp; omega⟩
    rw [hv]
    simp
theorem ivs_setz {sd : List Int} {z : List Value} {j : Nat} (x : Int) (h : j < sd.length) : (ivs sd ++ z).set j (iv x) = ivs (sd.set j x) ++ z := by
  rw [List.set_append_left _ _ (by rw [ivs_length]; exact h)]
  congr 1
  simp [ivs, List.map_set]
set_option maxRecDepth 100000 in
set_option maxHeartbeats 8000000 in
theorem k_CapSews (ps : List Pc) (oP oS : Option Addr) (cP m cS : Nat) (sm : List Int) (e A I D J x : Int) (hsm : sm.length = m * 4) (B : Nat) (w0 : Wd) (hs : HS) (hC : CapM B w0 hs oP oS ps sm) :
    Fn Try.prog 8 #[.agg #[.slice oP ps.length cP, .slice oS m cS, iv e], .agg #[iv A, iv I, iv D, iv J], iv x] B w0 hs (fun v h => v = .bool true ∧ h = hs) := by
  have kL := fun hs' (h : hs.Sublist hs') => k_Long ps oP oS cP m cS sm e B w0 hs' (hC.sub h)
  by_cases hlg : lgC ps m
  · refine fn_enter Try.func8 rfl Try.ntmps8 (by simp) ?_
    repeat' (first | ((with_reducible apply kP (.box 25 _)); refine sBA (fun b1 => ?_)) | ((with_reducible apply kP (.box 56 _)); refine sBA (fun b2 => ?_)) | ((with_reducible apply kF 15); refine sR 15 (kL _ SBt) ?_; rintro v7 h7 ⟨⟨bb, rfl, hb⟩, rfl⟩; obtain rfl : bb = true := hb.2 hlg) | ((with_reducible apply kF 16); refine sC 16 (k_known B w0 _) ?_) | (with_reducible first | refine c_seq ?_ | refine c_reg ?_ | refine c_region ?_ | refine c_block ?_ | refine c_skip ?_ | refine c_exit ?_ | refine c_ret ?_ | refine s_nil ?_ | refine x_then ?_ | refine x_then_exit ?_ | refine x_then_ret ?_ | refine x_block ?_ | refine x_block_ret ?_ | refine x_block_same ?_ | refine x_block_other (by first | rfl | decide) ?_ | refine q_nil ?_ | refine k_nil ?_) | ((with_reducible apply kG); first | refine gY1 ?_ | refine gN1 ?_ | refine gU1 ?_ | (refine gD1 (fun h => ?_) (fun h => ?_) <;> (try (exfalso; omega))) | refine gB1 (fun h => ?_) (fun h => ?_)) | ((with_reducible apply kN); first | refine stP ?_ | refine stI ?_ | refine st1 ?_ | refine stW ?_) | ((with_reducible apply kP (.alloc _)); refine sA (fun b => ?_)) | ((with_reducible apply kP (.box _ _)); first | refine sBA (fun b => ?_) | refine sB (fun b => ?_)) | ((with_reducible apply kP _); refine sP ?_) | ((with_reducible apply kP _); refine sX ?_) | ((with_reducible apply kC); first | refine cT ?_ | refine cF ?_ | (refine cI (fun h => ?_) (fun h => ?_) <;> (try (exfalso; omega))) | refine cB (fun h => ?_) (fun h => ?_)))
    exact e_ret1 (hs' := hs) rfl rfl ⟨rfl, rfl⟩ SCt
  · obtain ⟨hn, hm, hl⟩ := lgC_no hlg
    have hb0 : Bd ps sm m := ⟨by omega, fun i hi => by have := hl i hi; omega, hsm, by omega⟩
    have kc := fun hs' (h : hs.Sublist hs') => r_CopyC ps oP oS cP m cS sm e (by omega) hb0.l hsm (by omega) B w0 hs' (hC.sub h)
    have hsm' : (sm ++ [A, I, D, J]).length = (m + 1) * 4 := by simp; omega
    have hb1 : Bd ps (sm ++ [A, I, D, J]) (m + 1) := ⟨hb0.n, hb0.l, hsm', by omega⟩
    obtain ⟨PS, SM, M, e1, hB1, -, -, hX1⟩ := CeR.x (E := swV ps sm m e [A, I, D, J]) (e := e) (fun _ => hb1)
    have hu : unV ps sm m e x = 0 → Bd ps (rmS sm x.toNat) (m - 1) := fun h => by
      have hx : 0 ≤ x ∧ x < (m : Int) := by
        unfold unV at h
        split at h
        · exact absurd h (by assumption)
        · split at h
          · exact absurd h (by decide)
          · rename_i hx; exact Decidable.not_not.1 hx
      exact ⟨hb0.n, hb0.l, rmS_len hsm (by omega), by omega⟩
    obtain ⟨PT, TM, T, e2, hB2, -, -, hX2⟩ := CeR.x (E := unV ps sm m e x) (e := e) hu
    have kS1 : ∀ qs oP1 oS1 cP1 cS1 blk, SmP qs ps → CapM B w0 blk oP1 oS1 qs sm → ∀ hs' (_ : blk.Sublist hs'), Fn Try.prog 34 #[.agg #[.slice oP1 ps.length cP1, .slice oS1 m cS1, iv e], .agg #[iv A, iv I, iv D, iv J]] B w0 hs' (CeR (swV ps sm m e [A, I, D, J]) ps (sm ++ [A, I, D, J]) (m + 1) e hs') := fun qs oP1 oS1 cP1 cS1 blk hq hM hs' h => by
      have := k_Sew qs oP1 oS1 cP1 m cS1 sm e A I D J (by rw [hq.len]; omega) hsm (by omega) B w0 hs' (hM.sub h)
      have e5 : swV qs sm m e [A, I, D, J] = swV ps sm m e [A, I, D, J] := by unfold swV; rw [hq.vd, hq.vd]
      rw [hq.len, e5] at this
      exact this.mono fun v h hc => hc.of hq
    have kU1 : ∀ qs oP1 oS1 cP1 cS1 blk, SmP qs ps → CapM B w0 blk oP1 oS1 qs sm → ∀ hs' (_ : blk.Sublist hs'), Fn Try.prog 36 #[.agg #[.slice oP1 ps.length cP1, .slice oS1 m cS1, iv e], iv x] B w0 hs' (CeR (unV ps sm m e x) ps (rmS sm x.toNat) (m - 1) e hs') := fun qs oP1 oS1 cP1 cS1 blk hq hM hs' h => by
      have := k_Unsew qs oP1 oS1 cP1 m cS1 sm e x (by rw [hq.len]; omega) hsm (by omega) B w0 hs' (hM.sub h)
      have e5 : unV qs sm m e x = unV ps sm m e x := by unfold unV; rw [hq.vd]
      rw [hq.len, e5] at this
      exact this.mono fun v h hc => hc.of hq
    have kS2 := fun hs' (h : hs.Sublist hs') => r_Sew ps oP oS cP m cS sm e A I D J (by omega) hsm (by omega) B w0 hs' (hC.sub h)
    have kU2 := fun hs' (h : hs.Sublist hs') => r_Unsew ps oP oS cP m cS sm e x (by omega) hsm (by omega) B w0 hs' (hC.sub h)
    have hCS : SmP ps ps := ⟨rfl, rfl, rfl⟩
    generalize swV ps sm m e [A, I, D, J] = E1 at *
    generalize unV ps sm m e x = E2 at *
    refine fn_enter Try.func8 rfl Try.ntmps8 (by simp) ?_
    repeat' (first | ((with_reducible apply kP (.box 25 _)); refine sBA (fun b3 => ?_)) | ((with_reducible apply kP (.box 56 _)); refine sBA (fun b4 => ?_)) | ((with_reducible apply kF 15); refine sR 15 (kL _ SBt) ?_; rintro v7 h7 ⟨⟨bb, rfl, hb⟩, rfl⟩; obtain rfl : bb = false := by (rw [← Bool.not_eq_true]; exact fun h => hlg (hb.1 h))) | ((with_reducible apply kF 17); refine sR 17 (kc _ SBt) ?_; rintro v7 h7 ⟨k0, hcp0, rfl⟩; obtain ⟨q0, oP0, cP0, oS0, cS0, rfl, hq0, hM0⟩ := hcp0.x B w0) | ((with_reducible apply kF 34); refine sR 34 (kS1 _ _ _ _ _ _ hq0 hM0 _ SBt) ?_; rintro v7 h7 hce; obtain ⟨u1, k1, hcp1, rfl, rfl⟩ := hX1 _ _ _ hce; obtain ⟨oPa, cPa, oSa, cSa, rsa, boa, koa, rfl, a2, a3, a4, a5, a6, rfl⟩ := hcp1) | ((with_reducible apply kF 35); refine sR 35 (kS2 _ SBt) ?_; rintro v7 h7 hce; obtain ⟨u2, k2, hcp2, rfl, rfl⟩ := hX1 _ _ _ hce; obtain ⟨q2, oP2, cP2, oS2, cS2, rfl, hq2, hM2⟩ := hcp2.x B w0) | ((with_reducible apply kF 36); refine sR 36 (kU1 _ _ _ _ _ _ hq0 hM0 _ SBt) ?_; rintro v7 h7 hce; obtain ⟨u3, k3, hcp3, rfl, rfl⟩ := hX2 _ _ _ hce; obtain ⟨q3, oP3, cP3, oS3, cS3, rfl, hq3, hM3⟩ := hcp3.x B w0) | ((with_reducible apply kF 37); refine sR 37 (kU2 _ SBt) ?_; rintro v7 h7 hce; obtain ⟨u4, k4, hcp4, rfl, rfl⟩ := hX2 _ _ _ hce; obtain ⟨q4, oP4, cP4, oS4, cS4, rfl, hq4, hM4⟩ := hcp4.x B w0) | ((with_reducible apply kP (.alloc 25)); refine sA (fun b5 => ?_)) | ((with_reducible apply kN); refine stW ?_ (hf := flat_cons rfl (flat_cons rfl (flat1 rfl)))) | (with_reducible first | refine c_seq ?_ | refine c_reg ?_ | refine c_region ?_ | refine c_block ?_ | refine c_skip ?_ | refine c_exit ?_ | refine c_ret ?_ | refine s_nil ?_ | refine x_then ?_ | refine x_then_exit ?_ | refine x_then_ret ?_ | refine x_block ?_ | refine x_block_ret ?_ | refine x_block_same ?_ | refine x_block_other (by first | rfl | decide) ?_ | refine q_nil ?_ | refine k_nil ?_) | ((with_reducible apply kG); first | refine gY1 ?_ | refine gN1 ?_ | refine gU1 ?_ | (refine gD1 (fun h => ?_) (fun h => ?_) <;> (try (exfalso; omega))) | refine gB1 (fun h => ?_) (fun h => ?_)) | ((with_reducible apply kN); first | refine stP ?_ | refine stI ?_ | refine st1 ?_ | refine stW ?_) | ((with_reducible apply kP (.alloc _)); refine sA (fun b => ?_)) | ((with_reducible apply kP (.box _ _)); first | refine sBA (fun b => ?_) | refine sB (fun b => ?_)) | ((with_reducible apply kP _); refine sP ?_) | ((with_reducible apply kP _); refine sX ?_) | ((with_reducible apply kC); first | refine cT ?_ | refine cF ?_ | (refine cI (fun h => ?_) (fun h => ?_) <;> (try (exfalso; omega))) | refine cB (fun h => ?_) (fun h => ?_)))
    rename_i b8 y1 b9 y2 b10 y3 b12
    have hqa := smP a4 a5
    have hMa := capC (B := B) (w0 := w0) (hs := []) a2 a3 a6
    rw [List.append_nil] at hMa
    have hs1 := fun hs' h h' => same_cp e1 cPa cSa cP2 cS2 hB1 hqa hq2 hMa hM2 hs' h h'
    have hs2 := fun hs' h h' => same_cp e2 cP3 cS3 cP4 cS4 hB2 hq3 hq4 hM3 hM4 hs' h h'
    repeat' (first | ((with_reducible apply kF 20); refine sC 20 (hs1 _ (.cons _ (sbA (.cons _ (sbA (.cons _ (sbA (.cons _ (List.sublist_append_left _ _)))))))) (.cons _ (sbA (.cons _ (sbA (.cons _ (List.sublist_append_left _ _))))))) ?_) | ((with_reducible apply kF 20); refine sC 20 (hs2 _ (.cons _ (sbA (.cons _ (List.sublist_append_left _ _)))) (.cons _ (List.sublist_append_left _ _))) ?_) | (with_reducible first | refine c_seq ?_ | refine c_reg ?_ | refine c_region ?_ | refine c_block ?_ | refine c_skip ?_ | refine c_exit ?_ | refine c_ret ?_ | refine s_nil ?_ | refine x_then ?_ | refine x_then_exit ?_ | refine x_then_ret ?_ | refine x_block ?_ | refine x_block_ret ?_ | refine x_block_same ?_ | refine x_block_other (by first | rfl | decide) ?_ | refine q_nil ?_ | refine k_nil ?_) | ((with_reducible apply kG); first | refine gY1 ?_ | refine gN1 ?_ | refine gU1 ?_ | (refine gD1 (fun h => ?_) (fun h => ?_) <;> (try (exfalso; omega))) | refine gB1 (fun h => ?_) (fun h => ?_)) | ((with_reducible apply kN); first | refine stP ?_ | refine stI ?_ | refine st1 ?_ | refine stW ?_) | ((with_reducible apply kP (.alloc _)); refine sA (fun b => ?_)) | ((with_reducible apply kP (.box _ _)); first | refine sBA (fun b => ?_) | refine sB (fun b => ?_)) | ((with_reducible apply kP _); refine sP ?_) | ((with_reducible apply kP _); refine sX ?_) | ((with_reducible apply kC); first | refine cT ?_ | refine cF ?_ | (refine cI (fun h => ?_) (fun h => ?_) <;> (try (exfalso; omega))) | refine cB (fun h => ?_) (fun h => ?_)))
    refine c_loop (fun t : SwT => [(3, .pointer (some ⟨b3, 0, none⟩)), (7, .pointer (some ⟨b8, 0, none⟩)), (8, .pointer (some ⟨b9, 0, none⟩)), (16, .bool (decide (E2 = E2))), (17, iv t.i)])
      (fun t => (b9, [.slice oPa PS.length cPa, .slice oSa M cSa, iv e1]) :: (koa ++ (boa ++ (rpb t.rs ++ ((b8, [.slice oP0 ps.length cP0, .slice oS0 m cS0, iv e]) :: (k0 ++ ((b4, [iv A, iv I, iv D, iv J]) :: (b3, [.slice oP ps.length cP, .slice oS m cS, iv e]) :: hs)))))))
      (fun t => t.i ≤ PS.length ∧ (∀ r ∈ t.rs, RpOk r) ∧ t.rs.length = PS.length ∧ pcsv (rpP t.rs) = pcsv (rpP rsa) ∧ ∀ i, i < PS.length → (pcA (rpP t.rs) i).sd.length ≤ 100) (fun t => PS.length - t.i) ⟨0, rsa⟩ ⟨Nat.zero_le _, a3, a4, rfl, fun i hi => by rw [(a5 i hi).1]; exact (hB1.l i hi).1⟩ (by repeat' first | trivial | rfl | apply And.intro) ?_ ?_
    · dsimp only
      rw [List.append_assoc, List.append_assoc]
      exact .cons _ (sbA (.cons _ (sbA (.cons _ (sbA (.refl _))))))
    rintro ⟨i, rs⟩ ⟨hi, hrr, hrl, hrp, hrb⟩
    dsimp only at hi hrr hrl hrp hrb ⊢
    have hPn := hB1.n
    have hrlen : (rpP rs).length = PS.length := by rw [rpP, List.length_map]; exact hrl
    by_cases hi' : i < PS.length
    · repeat' (first | (with_reducible first | refine c_seq ?_ | refine c_reg ?_ | refine c_region ?_ | refine c_block ?_ | refine c_skip ?_ | refine c_exit ?_ | refine c_ret ?_ | refine s_nil ?_ | refine x_then ?_ | refine x_then_exit ?_ | refine x_then_ret ?_ | refine x_block ?_ | refine x_block_ret ?_ | refine x_block_same ?_ | refine x_block_other (by first | rfl | decide) ?_ | refine q_nil ?_ | refine k_nil ?_) | ((with_reducible apply kG); first | refine gY1 ?_ | refine gN1 ?_ | refine gU1 ?_ | (refine gD1 (fun h => ?_) (fun h => ?_) <;> (try (exfalso; omega))) | refine gB1 (fun h => ?_) (fun h => ?_)) | ((with_reducible apply kN); first | refine stP ?_ | refine stI ?_ | refine st1 ?_ | refine stW ?_) | ((with_reducible apply kP (.alloc _)); refine sA (fun b => ?_)) | ((with_reducible apply kP (.box _ _)); first | refine sBA (fun b => ?_) | refine sB (fun b => ?_)) | ((with_reducible apply kP _); refine sP ?_) | ((with_reducible apply kP _); refine sX ?_) | ((with_reducible apply kC); first | refine cT ?_ | refine cF ?_ | (refine cI (fun h => ?_) (fun h => ?_) <;> (try (exfalso; omega))) | refine cB (fun h => ?_) (fun h => ?_)))
      refine c_loop (fun t : SwT => [(3, .pointer (some ⟨b3, 0, none⟩)), (7, .pointer (some ⟨b8, 0, none⟩)), (8, .pointer (some ⟨b9, 0, none⟩)), (16, .bool (decide (E2 = E2))), (17, iv i), (18, iv t.i)])
        (fun t => (b9, [.slice oPa PS.length cPa, .slice oSa M cSa, iv e1]) :: (koa ++ (boa ++ (rpb t.rs ++ ((b8, [.slice oP0 ps.length cP0, .slice oS0 m cS0, iv e]) :: (k0 ++ ((b4, [iv A, iv I, iv D, iv J]) :: (b3, [.slice oP ps.length cP, .slice oS m cS, iv e]) :: hs)))))))
        (fun t => t.i ≤ (pcA (rpP rs) i).sd.length ∧ (∀ r ∈ t.rs, RpOk r) ∧ t.rs.length = PS.length ∧ pcsv (rpP t.rs) = pcsv (rpP rsa) ∧ (∀ u, u < PS.length → (pcA (rpP t.rs) u).sd.length = (pcA (rpP rs) u).sd.length)) (fun t => (pcA (rpP rs) i).sd.length - t.i) ⟨0, rs⟩ ⟨Nat.zero_le _, hrr, hrl, hrp, fun u hu => rfl⟩ (by repeat' first | trivial | rfl | apply And.intro) (.refl _) ?_
      rintro ⟨j, rt⟩ ⟨hj, htr, htl, htp, htb⟩
      dsimp only at hj htr htl htp htb ⊢
      have htlen : (rpP rt).length = PS.length := by rw [rpP, List.length_map]; exact htl
      have hMt := capC (B := B) (w0 := w0) (hs := []) (oP := oPa) (cP := cPa) (rs := rt) (by rw [htp]; exact a2) htr a6
      rw [List.append_nil] at hMt
      have hl0 := hrb i hi'
      have hlt := htb i hi'
      have iP := hMt.isS (i := i) (by omega)
      have hsubM : ∀ {y : Nat × List Value} {F : HS}, (koa ++ (boa ++ rpb rt)).Sublist (y :: (koa ++ (boa ++ (rpb rt ++ F)))) := fun {y F} => .cons _ (.append (.refl _) (.append (.refl _) (List.sublist_append_left _ _)))
      have hi2 : i < (rpP rt).length := by omega
      have iC := fun y F => hMt.c0 (hsubM (y := y) (F := F)) hi2
      by_cases hj' : j < (pcA (rpP rt) i).sd.length
      · obtain ⟨l1, ⟨⟨oa, ca, sd, ob, cb, an⟩, k⟩, l2, rfl, rfl⟩ := split_at (show i < rt.length by omega)
        have hpe := rp_mid l1 l2 ⟨⟨oa, ca, sd, ob, cb, an⟩, k⟩
        rw [hpe] at iC hj' hlt
        dsimp only at iC hj' hlt
        obtain ⟨k1, k2, g1, g2, g3⟩ := htr ⟨⟨oa, ca, sd, ob, cb, an⟩, k⟩ (by simp)
        dsimp only at g1 g2 g3
        rcases g1 with ⟨_, _, h3, _⟩ | ⟨bb, z, rfl, rfl, hz, hcc⟩
        · exfalso
          have : sd.length = 0 := by
            have := congrArg List.length h3
            rw [ivs_length] at this
            simpa using this
          omega
        subst g3
        rw [rpb_split] at iC
        rw [rpb_split]
        dsimp only at iC ⊢
        have hjz : j < (ivs sd ++ z).length := by rw [List.length_append, ivs_length]; omega
        have hrs : ∀ c X, (rpb l2 ++ ((k2 ++ [(bb, c)]) ++ rpb l1)) ++ X = rpb l2 ++ (k2 ++ ((bb, c) :: (rpb l1 ++ X))) := fun c X => by simp
        rw [hrs]
        simp only [hrs] at iC
        repeat' (first | ((with_reducible apply kP (.fieldAddr _ _ _)); refine sP ?_ (o_fieldE rfl (by assumption) (foTOf2 rfl rfl) (by with_reducible first | exact bb0 _ | exact bb1 _ | exact bb2 _ _))) | ((with_reducible apply kDP (.fieldAddr _ _ _)); refine dP ?_ (hX := rfl) (hv := o_fieldE rfl (by assumption) (foTOf2 rfl rfl) (by with_reducible first | exact bb0 _ | exact bb1 _ | exact bb2 _ _))) | ((with_reducible apply kQO (.fieldAddr _ _ _)); refine qP ?_ (o_fieldE rfl (by assumption) (foTOf2 rfl rfl) (by with_reducible first | exact bb0 _ | exact bb1 _ | exact bb2 _ _))) | ((with_reducible apply kP (.load 39 _)); refine sP ?_ (o_load rfl (ld_one (shTOf rfl) (iC _ _)))) | ((with_reducible apply kDP (.load 39 _)); refine dP ?_ (hX := rfl) (hv := o_load rfl (ld_one (shTOf rfl) (iC _ _)))) | ((with_reducible apply kQO (.load 39 _)); refine qP ?_ (o_load rfl (ld_one (shTOf rfl) (iC _ _)))) | ((with_reducible apply kN); refine st1 ?_ (hl := hjz)) | (with_reducible first | refine c_seq ?_ | refine c_reg ?_ | refine c_region ?_ | refine c_block ?_ | refine c_skip ?_ | refine c_exit ?_ | refine c_ret ?_ | refine s_nil ?_ | refine x_then ?_ | refine x_then_exit ?_ | refine x_then_ret ?_ | refine x_block ?_ | refine x_block_ret ?_ | refine x_block_same ?_ | refine x_block_other (by first | rfl | decide) ?_ | refine q_nil ?_ | refine k_nil ?_) | ((with_reducible apply kG); first | refine gY1 ?_ | refine gN1 ?_ | refine gU1 ?_ | (refine gD1 (fun h => ?_) (fun h => ?_) <;> (try (exfalso; omega))) | refine gB1 (fun h => ?_) (fun h => ?_)) | ((with_reducible apply kN); first | refine stP ?_ | refine stI ?_ | refine st1 ?_ | refine stW ?_) | ((with_reducible apply kP (.alloc _)); refine sA (fun b => ?_)) | ((with_reducible apply kP (.box _ _)); first | refine sBA (fun b => ?_) | refine sB (fun b => ?_)) | ((with_reducible apply kP _); refine sP ?_) | ((with_reducible apply kP _); refine sX ?_) | ((with_reducible apply kC); first | refine cT ?_ | refine cF ?_ | (refine cI (fun h => ?_) (fun h => ?_) <;> (try (exfalso; omega))) | refine cB (fun h => ?_) (fun h => ?_)))
        have hlen1 : (l1 ++ (⟨⟨some ⟨bb, 0, none⟩, ca, sd, ob, cb, an⟩, k2 ++ [(bb, ivs sd ++ z)]⟩ : Rp) :: l2).length = (l1 ++ (⟨⟨some ⟨bb, 0, none⟩, ca, sd.set j (-1), ob, cb, an⟩, k2 ++ [(bb, ivs (sd.set j (-1)) ++ z)]⟩ : Rp) :: l2).length := by simp
        refine r_end (⟨j + 1, l1 ++ ⟨⟨some ⟨bb, 0, none⟩, ca, sd.set j (-1), ob, cb, an⟩, k2 ++ [(bb, ivs (sd.set j (-1)) ++ z)]⟩ :: l2⟩ : SwT) ⟨by dsimp only; omega, fun r hr => ?_, by dsimp only; rw [← hlen1]; exact htl, ?_, fun u hu => ?_⟩ (by dsimp only; omega) (by repeat' first | trivial | rfl | apply And.intro) ?_
        · dsimp only at hr
          rcases List.mem_append.1 hr with hr | hr
          · exact htr r (List.mem_append_left _ hr)
          · rcases List.mem_cons.1 hr with rfl | hr
            · exact ⟨_, k2, .inr ⟨bb, z, rfl, rfl, by dsimp only; rw [List.length_append, ivs_length, List.length_set] at *; exact hz, hcc⟩, g2, rfl⟩
            · exact htr r (List.mem_append_right _ (.tail _ hr))
        · dsimp only
          rw [← htp]
          unfold rpP
          rw [List.map_append, List.map_append, pcsv_app, pcsv_app, List.map_cons, List.map_cons]
          unfold pcsv pcv
          dsimp only
          rw [List.length_set]
        · dsimp only
          rw [← htb u hu]
          by_cases hul : u = l1.length
          · subst hul
            rw [rp_mid, rp_mid]
            exact List.length_set ..
          · rw [rp_ne l1 l2 ⟨⟨some ⟨bb, 0, none⟩, ca, sd, ob, cb, an⟩, k2 ++ [(bb, ivs sd ++ z)]⟩ _ hul]
        · dsimp only
          rw [rpb_split]
          dsimp only
          rw [hrs, show Value.int IntKind.i64 (-1) = iv (-1) from rfl, ivs_setz _ hj']
          exact .refl _
      · repeat' (first | ((with_reducible apply kP (.fieldAddr _ _ _)); refine sP ?_ (o_fieldE rfl (by assumption) (foTOf2 rfl rfl) (by with_reducible first | exact bb0 _ | exact bb1 _ | exact bb2 _ _))) | ((with_reducible apply kDP (.fieldAddr _ _ _)); refine dP ?_ (hX := rfl) (hv := o_fieldE rfl (by assumption) (foTOf2 rfl rfl) (by with_reducible first | exact bb0 _ | exact bb1 _ | exact bb2 _ _))) | ((with_reducible apply kQO (.fieldAddr _ _ _)); refine qP ?_ (o_fieldE rfl (by assumption) (foTOf2 rfl rfl) (by with_reducible first | exact bb0 _ | exact bb1 _ | exact bb2 _ _))) | ((with_reducible apply kP (.load 39 _)); refine sP ?_ (o_load rfl (ld_one (shTOf rfl) (iC _ _)))) | ((with_reducible apply kDP (.load 39 _)); refine dP ?_ (hX := rfl) (hv := o_load rfl (ld_one (shTOf rfl) (iC _ _)))) | ((with_reducible apply kQO (.load 39 _)); refine qP ?_ (o_load rfl (ld_one (shTOf rfl) (iC _ _)))) | (with_reducible first | refine c_seq ?_ | refine c_reg ?_ | refine c_region ?_ | refine c_block ?_ | refine c_skip ?_ | refine c_exit ?_ | refine c_ret ?_ | refine s_nil ?_ | refine x_then ?_ | refine x_then_exit ?_ | refine x_then_ret ?_ | refine x_block ?_ | refine x_block_ret ?_ | refine x_block_same ?_ | refine x_block_other (by first | rfl | decide) ?_ | refine q_nil ?_ | refine k_nil ?_) | ((with_reducible apply kG); first | refine gY1 ?_ | refine gN1 ?_ | refine gU1 ?_ | (refine gD1 (fun h => ?_) (fun h => ?_) <;> (try (exfalso; omega))) | refine gB1 (fun h => ?_) (fun h => ?_)) | ((with_reducible apply kN); first | refine stP ?_ | refine stI ?_ | refine st1 ?_ | refine stW ?_) | ((with_reducible apply kP (.alloc _)); refine sA (fun b => ?_)) | ((with_reducible apply kP (.box _ _)); first | refine sBA (fun b => ?_) | refine sB (fun b => ?_)) | ((with_reducible apply kP _); refine sP ?_) | ((with_reducible apply kP _); refine sX ?_) | ((with_reducible apply kC); first | refine cT ?_ | refine cF ?_ | (refine cI (fun h => ?_) (fun h => ?_) <;> (try (exfalso; omega))) | refine cB (fun h => ?_) (fun h => ?_)))
        exact r_end (⟨i + 1, rt⟩ : SwT) ⟨hi', htr, htl, htp, fun u hu => by rw [htb u hu]; exact hrb u hu⟩ (by dsimp only; omega) (by repeat' first | trivial | rfl | apply And.intro) (.refl _)
    · have hs3 := fun hs' h h' => same_cp e cP0 cS0 cP cS hb0 hq0 hCS hM0 hC hs' h h'
      repeat' (first | ((with_reducible apply kF 20); refine sC 20 (hs3 _ (.cons _ (sbA (sbA (sbA (.cons _ sbL))))) (.cons _ (sbA (sbA (sbA (.cons _ (sbA (.cons _ (.cons _ (.refl _)))))))))) ?_) | ((with_reducible apply kF 16); refine sC 16 (k_known B w0 _) ?_) | (with_reducible first | refine c_seq ?_ | refine c_reg ?_ | refine c_region ?_ | refine c_block ?_ | refine c_skip ?_ | refine c_exit ?_ | refine c_ret ?_ | refine s_nil ?_ | refine x_then ?_ | refine x_then_exit ?_ | refine x_then_ret ?_ | refine x_block ?_ | refine x_block_ret ?_ | refine x_block_same ?_ | refine x_block_other (by first | rfl | decide) ?_ | refine q_nil ?_ | refine k_nil ?_) | ((with_reducible apply kG); first | refine gY1 ?_ | refine gN1 ?_ | refine gU1 ?_ | (refine gD1 (fun h => ?_) (fun h => ?_) <;> (try (exfalso; omega))) | refine gB1 (fun h => ?_) (fun h => ?_)) | ((with_reducible apply kN); first | refine stP ?_ | refine stI ?_ | refine st1 ?_ | refine stW ?_) | ((with_reducible apply kP (.alloc _)); refine sA (fun b => ?_)) | ((with_reducible apply kP (.box _ _)); first | refine sBA (fun b => ?_) | refine sB (fun b => ?_)) | ((with_reducible apply kP _); refine sP ?_) | ((with_reducible apply kP _); refine sX ?_) | ((with_reducible apply kC); first | refine cT ?_ | refine cF ?_ | (refine cI (fun h => ?_) (fun h => ?_) <;> (try (exfalso; omega))) | refine cB (fun h => ?_) (fun h => ?_)))
      all_goals first
        | exact e_ret1 (hs' := hs) rfl rfl ⟨rfl, rfl⟩ SCt
        | (exfalso; omega)
        | trace_state
end Go.Proofs.Ytnbickholedckaa
