/- Dart of the program. -/
import Derived.Test.YtnbickholedckaaMC57
import Derived.Test.YtnbickholedckaaMC53
namespace Go.Proofs.Ytnbickholedckaa
open Go.RowKit
theorem Sv.c1 {B : Nat} {w0 : Wd} {bo hs : HS} {oP : Option Addr} {ps : List Pc} (h : Sv B w0 bo oP (pcsv ps)) (hsub : bo.Sublist hs) {i : Nat} (hi : i < ps.length) : CellAt B w0 hs (ea oP (i * 2 + 1)) (.slice (pcA ps i).ob (pcA ps i).an.length (pcA ps i).cb) := fun w hw => by
  rw [Nat.mul_comm i 2, (h (2 * i + 1) (by rw [pcsv_len]; omega)).2 w (hw.sub hsub)]; exact (pcsv_at ps i hi).2
theorem Sv.isP {B : Nat} {w0 : Wd} {bo : HS} {oP : Option Addr} {ps : List Pc} (h : Sv B w0 bo oP (pcsv ps)) {i : Nat} (hi : i < ps.length) : oP.isSome = true := (h (2 * i) (by rw [pcsv_len]; omega)).1
theorem setP_at {ps : List Pc} {p i : Nat} {an : List Int} (hp : p < ps.length) : pcA (ps.set p { pcA ps p with an := an }) i = if i = p then { pcA ps p with an := an } else pcA ps i := by
  have h1 : ∀ l : List Pc, pcA l i = l.getD i default := fun l => by unfold pcA; rfl
  rw [h1, h1 ps]
  rw [List.getD_eq_getElem?_getD, List.getD_eq_getElem?_getD, List.getElem?_set]
  by_cases e : p = i
  · subst e; rw [if_pos rfl, if_pos rfl, if_pos hp]; rfl
  · rw [if_neg e, if_neg (fun h => e h.symm)]
/-- A copy, with the row of angles of one piece in sight. -/
theorem CpR.atA {ps : List Pc} {sm : List Int} {m : Nat} {e : Int} {u : Value} {blk : HS} (h : CpR ps sm m e u blk) {p : Nat} (hp : p < ps.length) (hne : 1 ≤ (pcA ps p).an.length) :
    ∃ oP' cP' oS' cS' cb bb z F1 F2, u = .agg #[.slice oP' ps.length cP', .slice oS' m cS', iv e] ∧ blk = F1 ++ ((bb, ivs (pcA ps p).an ++ z) :: F2) ∧ oP'.isSome = true ∧ (∀ B w0 hs', F1.Sublist hs' → CellAt B w0 hs' (ea oP' (p * 2 + 1)) (.slice (some ⟨bb, 0, none⟩) (pcA ps p).an.length cb)) ∧ ∀ an', an'.length = (pcA ps p).an.length → CpR (ps.set p { pcA ps p with an := an' }) sm m e u (F1 ++ ((bb, ivs an' ++ z) :: F2)) := by
  obtain ⟨oP', cP', oS', cS', rs, bo, ko, rfl, g2, g3, g4, g5, g6, rfl⟩ := h
  obtain ⟨l1, ⟨⟨oa, ca, sd, ob, cb, an⟩, k⟩, l2, rfl, rfl⟩ := split_at (show p < rs.length by omega)
  have hpe := rp_mid l1 l2 ⟨⟨oa, ca, sd, ob, cb, an⟩, k⟩
  have hg := g5 _ hp
  rw [hpe] at hg
  obtain ⟨h1, h2⟩ := hg
  dsimp only at h1 h2
  obtain ⟨k1, k2, q1, q2, q3⟩ := g3 ⟨⟨oa, ca, sd, ob, cb, an⟩, k⟩ (by simp)
  dsimp only at q1 q2 q3
  rcases q2 with ⟨_, _, h3, _⟩ | ⟨bb, z, rfl, rfl, hz, hcc⟩
  · exfalso
    have : an.length = 0 := by
      have := congrArg List.length h3
      rw [ivs_length] at this
      simpa using this
    rw [h2] at this; omega
  subst q3
  have hrs : ∀ c, ko ++ (bo ++ (rpb l2 ++ (([(bb, c)] ++ k1) ++ rpb l1))) = (ko ++ (bo ++ rpb l2)) ++ ((bb, c) :: (k1 ++ rpb l1)) := fun c => by simp
  have hlen : (rpP (l1 ++ (⟨⟨oa, ca, sd, some ⟨bb, 0, none⟩, cb, an⟩, [(bb, ivs an ++ z)] ++ k1⟩ : Rp) :: l2)).length = ps.length := by rw [rpP, List.length_map]; exact g4
  refine ⟨oP', cP', oS', cS', cb, bb, z, ko ++ (bo ++ rpb l2), k1 ++ rpb l1, rfl, ?_, (Sv.rowC (B := 0) (w0 := ⟨default, []⟩) g2).isP (show l1.length < _ by omega), fun B w0 hs' hsub => ?_, fun an' hl => ?_⟩
  · rw [rpb_split, ← h2]
    exact hrs _
  · have := (Sv.rowC (B := B) (w0 := w0) g2).c1 (((List.sublist_append_left _ _).trans (List.sublist_append_right _ _)).trans hsub) (show l1.length < _ by omega)
    rw [hpe] at this
    dsimp only at this
    rw [← h2]
    exact this
  · rw [← h2] at hl
    have hv : pcsv (rpP (l1 ++ (⟨⟨oa, ca, sd, some ⟨bb, 0, none⟩, cb, an'⟩, [(bb, ivs an' ++ z)] ++ k1⟩ : Rp) :: l2)) = pcsv (rpP (l1 ++ (⟨⟨oa, ca, sd, some ⟨bb, 0, none⟩, cb, an⟩, [(bb, ivs an ++ z)] ++ k1⟩ : Rp) :: l2)) := by
      unfold rpP
      rw [List.map_append, List.map_append, pcsv_app, pcsv_app, List.map_cons, List.map_cons]
      unfold pcsv pcv
      dsimp only
      rw [hl]
    refine ⟨oP', cP', oS', cS', l1 ++ ⟨⟨oa, ca, sd, some ⟨bb, 0, none⟩, cb, an'⟩, [(bb, ivs an' ++ z)] ++ k1⟩ :: l2, bo, ko, by rw [List.length_set], by rw [hv]; exact g2, fun r hr => ?_, by rw [List.length_set, ← g4]; simp, fun i hi => ?_, g6, ?_⟩
    · rcases List.mem_append.1 hr with hr | hr
      · exact g3 r (List.mem_append_left _ hr)
      · rcases List.mem_cons.1 hr with rfl | hr
        · exact ⟨k1, _, q1, .inr ⟨bb, z, rfl, rfl, by dsimp only; rw [List.length_append, ivs_length] at *; rw [hl]; exact hz, hcc⟩, rfl⟩
        · exact g3 r (List.mem_append_right _ (.tail _ hr))
    · rw [List.length_set] at hi
      rw [setP_at hp]
      by_cases hul : i = l1.length
      · subst hul
        rw [rp_mid, if_pos rfl]
        exact ⟨h1, rfl⟩
      · rw [rp_ne l1 l2 ⟨⟨oa, ca, sd, some ⟨bb, 0, none⟩, cb, an⟩, [(bb, ivs an ++ z)] ++ k1⟩ _ hul, if_neg hul]
        exact g5 i hi
    · rw [rpb_split]
      exact (hrs _).symm
def dtE (ps : List Pc) (sm : List Int) (m : Nat) (e x d : Int) : Int := if vdC ps sm m e ≠ 0 then vdC ps sm m e else if ¬ (0 ≤ x ∧ x < (nC ps : Int)) then 5 else if d < 1 ∨ agF ps x.toNat - d < 1 ∨ 359 < agF ps (nxC ps x.toNat) + d then 1 else 0
def dtQ (ps : List Pc) (x : Nat) (d : Int) : List Pc := dtP ps (pcG (sdF ps) ps.length x) (x - fsN (sdF ps) (pcG (sdF ps) ps.length x)) (nxN (sdF ps) ps.length x - fsN (sdF ps) (pcG (sdF ps) ps.length x)) d
/-- A corner and the next. -/
structure DtX (ps : List Pc) (x p f r q : Nat) : Prop where
  hp : p < ps.length
  hk : 3 ≤ (pcA ps p).sd.length ∧ (pcA ps p).sd.length ≤ 6
  ha : (pcA ps p).an.length = (pcA ps p).sd.length
  xr : x = f + r
  hr : r < (pcA ps p).sd.length
  hq : q < (pcA ps p).sd.length
  he : q = if r + 1 = (pcA ps p).sd.length then 0 else r + 1
  hf : f + (pcA ps p).sd.length ≤ 48
  ff : fsN (sdF ps) p = f
  nx : nxN (sdF ps) ps.length x = f + q
  pc : pcG (sdF ps) ps.length x = p
  pq : pcG (sdF ps) ps.length (f + q) = p
  lt : f + q < fsN (sdF ps) ps.length
theorem dtX {ps : List Pc} {sm : List Int} {m : Nat} {e : Int} (V : VdC ps sm m e) {x : Nat} (hx : x < nC ps) : ∃ p f r q, DtX ps x p f r q ∧ dtQ ps x = dtP ps p r q ∧ agF ps x = (pcA ps p).an.getD r 0 ∧ agF ps (nxC ps x) = (pcA ps p).an.getD q 0 := by
  obtain ⟨_, h1, h2, h3⟩ := sdx hx
  obtain ⟨g1, g2⟩ := nx_pc (sd := sdF ps) (P := ps.length) hx
  have hN := V.n48
  have h4 := V.ok _ h1
  have hm := fsN_mono (sd := sdF ps) (p := pcG (sdF ps) ps.length x + 1) (q := ps.length) (by omega)
  have e2 : fsN (sdF ps) (pcG (sdF ps) ps.length x + 1) = fsN (sdF ps) (pcG (sdF ps) ps.length x) + (pcA ps (pcG (sdF ps) ps.length x)).sd.length := rfl
  have hk : (sdF ps (pcG (sdF ps) ps.length x)).length = (pcA ps (pcG (sdF ps) ps.length x)).sd.length := rfl
  have ha : (anF ps (pcG (sdF ps) ps.length x)).length = (pcA ps (pcG (sdF ps) ps.length x)).an.length := rfl
  have h5 := h4.1
  have h6 := h4.2.1
  have hnx : nxN (sdF ps) ps.length x = fsN (sdF ps) (pcG (sdF ps) ps.length x) + (if (x - fsN (sdF ps) (pcG (sdF ps) ps.length x)) + 1 = (pcA ps (pcG (sdF ps) ps.length x)).sd.length then 0 else (x - fsN (sdF ps) (pcG (sdF ps) ps.length x)) + 1) := by
    unfold nxN
    rw [e2]
    split
    · rw [if_pos (by omega)]; omega
    · rw [if_neg (by omega)]; omega
  have hq : (if (x - fsN (sdF ps) (pcG (sdF ps) ps.length x)) + 1 = (pcA ps (pcG (sdF ps) ps.length x)).sd.length then 0 else (x - fsN (sdF ps) (pcG (sdF ps) ps.length x)) + 1) < (pcA ps (pcG (sdF ps) ps.length x)).sd.length := by split <;> omega
  refine ⟨pcG (sdF ps) ps.length x, fsN (sdF ps) (pcG (sdF ps) ps.length x), x - fsN (sdF ps) (pcG (sdF ps) ps.length x), _, ⟨h1, by omega, by omega, by omega, by omega, hq, rfl, ?_, rfl, hnx, rfl, by rw [← hnx]; exact g1, by rw [← hnx]; exact g2⟩, ?_, rfl, ?_⟩
  · unfold nC at hN; omega
  · unfold dtQ
    rw [hnx, Nat.add_sub_cancel_left]
  · unfold agF nxC
    rw [g1, hnx, Nat.add_sub_cancel_left]
attribute [local irreducible] OpF Ld CellAt Sl Sv pcA usP
set_option maxRecDepth 100000 in
set_option maxHeartbeats 8000000 in
theorem k_Dart (ps : List Pc) (oP oS : Option Addr) (cP m cS : Nat) (sm : List Int) (e x d : Int) (hn : ps.length ≤ 100) (hsm : sm.length = m * 4) (hm : m ≤ 100) (B : Nat) (w0 : Wd) (hs : HS) (hC : CapM B w0 hs oP oS ps sm) :
    Fn Try.prog 48 #[.agg #[.slice oP ps.length cP, .slice oS m cS, iv e], iv x, iv d] B w0 hs (CeR (dtE ps sm m e x d) (dtQ ps x.toNat d) sm m e hs) := by
  have kv := fun hs' (h : hs.Sublist hs') => k_Validate ps oP oS cP m cS sm e hn hsm hm B w0 hs' (hC.sub h)
  unfold CeR dtE
  by_cases hv : vdC ps sm m e = 0
  · have V := vdC_0 hv
    rw [if_neg (fun h => h hv)]
    have hv' : vdE ps.length (sdF ps) (anF ps) m sm e = 0 := hv
    rw [hv'] at kv
    have ks := fun hs' (h : hs.Sublist hs') => k_sew ps oP oS cP m cS sm e V.n8 V.n1 hsm hm V.ok V.se B w0 hs' (hC.sub h)
    have hN := V.n48
    by_cases hx : 0 ≤ x ∧ x < (nC ps : Int)
    · rw [if_neg (fun h => h hx)]
      obtain ⟨x, rfl⟩ : ∃ y : Nat, x = (y : Int) := ⟨x.toNat, by omega⟩
      have hx' : x < fsN (sdF ps) ps.length := by have := hx.2; unfold nC at this; omega
      rw [show ((x : Nat) : Int).toNat = x by omega]
      have hll : ∀ i, i < ps.length → (pcA ps i).an.length = (pcA ps i).sd.length := fun i hi => (V.ok i hi).2.1
      obtain ⟨p, f, r, q, D, hQ, hA1, hA2⟩ := dtX V (show x < nC ps from hx')
      have hi1 := (V.ok p D.hp).2.2.1 r D.hr
      have hi2 := (V.ok p D.hp).2.2.1 q D.hq
      rw [hQ, hA1, hA2]
      have kt := fun (s : Sw) hs' (h : SewAt B w0 hs' s ps (muS (smL (sdF ps) sm m))) => k_turned1 s ps _ x hN hx' B w0 hs' h
      have ka1 := fun (s : Sw) hs' (h : SewAt B w0 hs' s ps (muS (smL (sdF ps) sm m))) => k_angle s ps _ x hN hx' hll B w0 hs' h
      have ka2 := fun (s : Sw) hs' (h : SewAt B w0 hs' s ps (muS (smL (sdF ps) sm m))) => k_angle s ps _ (f + q) hN D.lt hll B w0 hs' h
      rw [D.pc, D.ff, show x - f = r by have := D.xr; omega] at ka1
      rw [D.pq, D.ff, Nat.add_sub_cancel_left] at ka2
      rw [D.nx] at kt
      have hsd1 : 1 ≤ (pcA ps p).an.getD r 0 ∧ (pcA ps p).an.getD r 0 ≤ 359 := hi1.2
      have hsd2 : 1 ≤ (pcA ps p).an.getD q 0 ∧ (pcA ps p).an.getD q 0 ≤ 359 := hi2.2
      by_cases hg : d < 1 ∨ (pcA ps p).an.getD r 0 - d < 1 ∨ 359 < (pcA ps p).an.getD q 0 + d
      · rw [if_pos hg]
        refine fn_enter Try.func48 rfl Try.ntmps48 (by simp) ?_
        repeat' (first | ((with_reducible apply kP (.box 25 _)); refine sBA (fun b2 => ?_)) | ((with_reducible apply kP (.alloc 25)); refine sA (fun b4 => ?_)) | ((with_reducible apply kF 18); refine sC 18 (kv _ SBt) ?_) | ((with_reducible apply kF 61); refine sR 61 (ks _ SBt) ?_; rintro v7 h7 ⟨blk7, ⟨s, k1, k2, k3, rfl, q1, q2, q3, q4, hR, rfl⟩, rfl⟩) | ((with_reducible apply kRg 12); refine cD [1, 1, 1, 1, 1, 1, 1, 1, 1, 1, 1, 1, 1, 1, 1, 1, 1, 1, 1, 1, 4] ?_) | ((with_reducible apply kRg 13); refine cD [1, 1, 1, 1, 1, 1, 1, 1, 1, 1, 1, 1, 1, 1, 1, 1, 1, 1, 1, 1, 4] ?_) | (with_reducible first | refine c_seq ?_ | refine c_reg ?_ | refine c_region ?_ | refine c_block ?_ | refine c_skip ?_ | refine c_exit ?_ | refine c_ret ?_ | refine s_nil ?_ | refine x_then ?_ | refine x_then_exit ?_ | refine x_then_ret ?_ | refine x_block ?_ | refine x_block_ret ?_ | refine x_block_same ?_ | refine x_block_other (by first | rfl | decide) ?_ | refine q_nil ?_ | refine k_nil ?_) | ((with_reducible apply kG); first | refine gY1 ?_ | refine gN1 ?_ | refine gU1 ?_ | (refine gD1 (fun h => ?_) (fun h => ?_) <;> (try (exfalso; omega))) | refine gB1 (fun h => ?_) (fun h => ?_)) | ((with_reducible apply kN); first | refine stP ?_ | refine stI ?_ | refine st1 ?_ | refine stW ?_) | ((with_reducible apply kP (.alloc _)); refine sA (fun b => ?_)) | ((with_reducible apply kP (.box _ _)); first | refine sBA (fun b => ?_) | refine sB (fun b => ?_)) | ((with_reducible apply kP _); refine sP ?_) | ((with_reducible apply kP _); refine sX ?_) | ((with_reducible apply kC); first | refine cT ?_ | refine cF ?_ | (refine cI (fun h => ?_) (fun h => ?_) <;> (try (exfalso; omega))) | refine cB (fun h => ?_) (fun h => ?_)) | ((with_reducible apply kDN); first | refine dtI ?_ | refine dt1 ?_ | refine dtW ?_) | ((with_reducible apply kDP _); refine dP ?_) | ((with_reducible apply kDP _); refine dX ?_))
        subst q1 q2 q3 q4
        have hA := SewR.at (hC.sub (hs' := (b4, [.slice none 0 0, .slice none 0 0, .int .i64 0]) :: (b2, [.slice s.oP ps.length cP, .slice s.oS s.nS cS, iv s.e]) :: hs) (.cons _ (.cons _ (.refl _)))) hR
        have hme := fun hs' h => hA.me' (hs' := hs') h
        have hp1 := fun hs' h => hA.pc (hs' := hs') h hx'
        have hf1 := fun hs' h => hA.fs (hs' := hs') h D.hp
        rw [D.pc] at hp1
        rw [D.ff] at hf1
        have i1 := hA.s1 hx'
        have i2 := hA.s2 D.hp
        have hxr := D.xr
        have hff := D.hf
        have hkk := D.hk
        have haa := D.ha
        have hpp := D.hp
        have hrr := D.hr
        have hqq := D.hq
        repeat' (first | ((with_reducible apply kP (.load 39 (.tmp 27))); refine sP ?_ (o_load rfl (ld_one (shTOf rfl) (own (hme _ SBt) rfl)))) | ((with_reducible apply kDP (.load 39 (.tmp 27))); refine dP ?_ (hX := rfl) (hv := o_load rfl (ld_one (shTOf rfl) (own (hme _ SBt) rfl)))) | ((with_reducible apply kQO (.load 39 (.tmp 27))); refine qP ?_ (o_load rfl (ld_one (shTOf rfl) (own (hme _ SBt) rfl)))) | ((with_reducible apply kF 84); refine sC 84 (kt s _ (hA.sub SBt)) ?_) | ((with_reducible apply kF 53); refine sC 53 (k_within _ _ _ B w0 _) ?_) | ((with_reducible apply kF 85); refine sC 85 (ka1 s _ (hA.sub SBt)) ?_) | ((with_reducible apply kF 85); refine sC 85 (ka2 s _ (hA.sub SBt)) ?_) | ((with_reducible apply kN); refine stW ?_ (hf := flat_cons rfl (flat_cons rfl (flat1 rfl)))) | ((with_reducible apply kRg 12); refine cD [1, 1, 1, 1, 1, 1, 1, 1, 1, 1, 1, 1, 1, 1, 1, 1, 1, 1, 1, 1, 4] ?_) | ((with_reducible apply kRg 13); refine cD [1, 1, 1, 1, 1, 1, 1, 1, 1, 1, 1, 1, 1, 1, 1, 1, 1, 1, 1, 1, 4] ?_) | (with_reducible first | refine c_seq ?_ | refine c_reg ?_ | refine c_region ?_ | refine c_block ?_ | refine c_skip ?_ | refine c_exit ?_ | refine c_ret ?_ | refine s_nil ?_ | refine x_then ?_ | refine x_then_exit ?_ | refine x_then_ret ?_ | refine x_block ?_ | refine x_block_ret ?_ | refine x_block_same ?_ | refine x_block_other (by first | rfl | decide) ?_ | refine q_nil ?_ | refine k_nil ?_) | ((with_reducible apply kG); first | refine gY1 ?_ | refine gN1 ?_ | refine gU1 ?_ | (refine gD1 (fun h => ?_) (fun h => ?_) <;> (try (exfalso; omega))) | refine gB1 (fun h => ?_) (fun h => ?_)) | ((with_reducible apply kN); first | refine stP ?_ | refine stI ?_ | refine st1 ?_ | refine stW ?_) | ((with_reducible apply kP (.alloc _)); refine sA (fun b => ?_)) | ((with_reducible apply kP (.box _ _)); first | refine sBA (fun b => ?_) | refine sB (fun b => ?_)) | ((with_reducible apply kP _); refine sP ?_) | ((with_reducible apply kP _); refine sX ?_) | ((with_reducible apply kC); first | refine cT ?_ | refine cF ?_ | (refine cI (fun h => ?_) (fun h => ?_) <;> (try (exfalso; omega))) | refine cB (fun h => ?_) (fun h => ?_)) | ((with_reducible apply kDN); first | refine dtI ?_ | refine dt1 ?_ | refine dtW ?_) | ((with_reducible apply kDP _); refine dP ?_) | ((with_reducible apply kDP _); refine dX ?_))
        all_goals first
          | exact e_ret2 (hs' := hs) rfl ⟨_, rfl, ld_whole (shTOf rfl) MDt rfl⟩ rfl (.inl ⟨by decide, rfl, rfl⟩) SCt
          | (exfalso; omega)
          | trace_state
      · rw [if_neg hg]
        have kc := fun hs' (h : hs.Sublist hs') => k_copyCap ps oP oS cP m cS sm e (by omega) V.n1 (vdC_ok V) hsm (by omega) B w0 hs' (hC.sub h)
        refine fn_enter Try.func48 rfl Try.ntmps48 (by simp) ?_
        repeat' (first | ((with_reducible apply kP (.box 25 _)); refine sBA (fun b2 => ?_)) | ((with_reducible apply kP (.alloc 25)); refine sA (fun b4 => ?_)) | ((with_reducible apply kF 18); refine sC 18 (kv _ SBt) ?_) | ((with_reducible apply kF 61); refine sR 61 (ks _ SBt) ?_; rintro v7 h7 ⟨blk7, ⟨s, k1, k2, k3, rfl, q1, q2, q3, q4, hR, rfl⟩, rfl⟩) | ((with_reducible apply kRg 12); refine cD [1, 1, 1, 1, 1, 1, 1, 1, 1, 1, 1, 1, 1, 1, 1, 1, 1, 1, 1, 1, 4] ?_) | ((with_reducible apply kRg 13); refine cD [1, 1, 1, 1, 1, 1, 1, 1, 1, 1, 1, 1, 1, 1, 1, 1, 1, 1, 1, 1, 4] ?_) | (with_reducible first | refine c_seq ?_ | refine c_reg ?_ | refine c_region ?_ | refine c_block ?_ | refine c_skip ?_ | refine c_exit ?_ | refine c_ret ?_ | refine s_nil ?_ | refine x_then ?_ | refine x_then_exit ?_ | refine x_then_ret ?_ | refine x_block ?_ | refine x_block_ret ?_ | refine x_block_same ?_ | refine x_block_other (by first | rfl | decide) ?_ | refine q_nil ?_ | refine k_nil ?_) | ((with_reducible apply kG); first | refine gY1 ?_ | refine gN1 ?_ | refine gU1 ?_ | (refine gD1 (fun h => ?_) (fun h => ?_) <;> (try (exfalso; omega))) | refine gB1 (fun h => ?_) (fun h => ?_)) | ((with_reducible apply kN); first | refine stP ?_ | refine stI ?_ | refine st1 ?_ | refine stW ?_) | ((with_reducible apply kP (.alloc _)); refine sA (fun b => ?_)) | ((with_reducible apply kP (.box _ _)); first | refine sBA (fun b => ?_) | refine sB (fun b => ?_)) | ((with_reducible apply kP _); refine sP ?_) | ((with_reducible apply kP _); refine sX ?_) | ((with_reducible apply kC); first | refine cT ?_ | refine cF ?_ | (refine cI (fun h => ?_) (fun h => ?_) <;> (try (exfalso; omega))) | refine cB (fun h => ?_) (fun h => ?_)) | ((with_reducible apply kDN); first | refine dtI ?_ | refine dt1 ?_ | refine dtW ?_) | ((with_reducible apply kDP _); refine dP ?_) | ((with_reducible apply kDP _); refine dX ?_))
        subst q1 q2 q3 q4
        have hA := SewR.at (hC.sub (hs' := (b4, [.slice none 0 0, .slice none 0 0, .int .i64 0]) :: (b2, [.slice s.oP ps.length cP, .slice s.oS s.nS cS, iv s.e]) :: hs) (.cons _ (.cons _ (.refl _)))) hR
        have hme := fun hs' h => hA.me' (hs' := hs') h
        have hp1 := fun hs' h => hA.pc (hs' := hs') h hx'
        have hf1 := fun hs' h => hA.fs (hs' := hs') h D.hp
        rw [D.pc] at hp1
        rw [D.ff] at hf1
        have i1 := hA.s1 hx'
        have i2 := hA.s2 D.hp
        have hxr := D.xr
        have hff := D.hf
        have hkk := D.hk
        have haa := D.ha
        have hpp := D.hp
        have hrr := D.hr
        have hqq := D.hq
        have hj1 : (x : Int) - (f : Int) = (r : Int) := by omega
        have hj2 : ((f + q : Nat) : Int) - (f : Int) = (q : Int) := by omega
        have hne : r ≠ q := by rw [D.he]; split <;> omega
        have gr1 : ∀ z : List Value, (ivs (pcA ps p).an ++ z)[r]? = some (iv ((pcA ps p).an.getD r 0)) := fun z => by
          rw [List.getElem?_append_left (by rw [ivs_length]; omega)]; exact ivs_get (by omega)
        have gq1 : ∀ (z : List Value) v, ((ivs (pcA ps p).an ++ z).set r v)[q]? = some (iv ((pcA ps p).an.getD q 0)) := fun z v => by
          rw [List.getElem?_set_ne hne, List.getElem?_append_left (by rw [ivs_length]; omega)]; exact ivs_get (by omega)
        have gl1 : ∀ z : List Value, r < (ivs (pcA ps p).an ++ z).length := fun z => by rw [List.length_append, ivs_length]; omega
        have gl2 : ∀ (z : List Value) v, q < ((ivs (pcA ps p).an ++ z).set r v).length := fun z v => by rw [List.length_set, List.length_append, ivs_length]; omega
        have gg : ∀ (z : List Value) (v w : Int), ((ivs (pcA ps p).an ++ z).set r (iv v)).set q (iv w) = ivs (((pcA ps p).an.set r v).set q w) ++ z := fun z v w => by
          rw [ivs_setz _ (by omega), ivs_setz _ (by rw [List.length_set]; omega)]
        repeat' (first | ((with_reducible apply kP (.load 39 (.tmp 27))); refine sP ?_ (o_load rfl (ld_one (shTOf rfl) (own (hme _ SBt) rfl)))) | ((with_reducible apply kDP (.load 39 (.tmp 27))); refine dP ?_ (hX := rfl) (hv := o_load rfl (ld_one (shTOf rfl) (own (hme _ SBt) rfl)))) | ((with_reducible apply kQO (.load 39 (.tmp 27))); refine qP ?_ (o_load rfl (ld_one (shTOf rfl) (own (hme _ SBt) rfl)))) | ((with_reducible apply kF 84); refine sC 84 (kt s _ (hA.sub SBt)) ?_) | ((with_reducible apply kF 53); refine sC 53 (k_within _ _ _ B w0 _) ?_) | ((with_reducible apply kF 85); refine sC 85 (ka1 s _ (hA.sub SBt)) ?_) | ((with_reducible apply kF 85); refine sC 85 (ka2 s _ (hA.sub SBt)) ?_) | ((with_reducible apply kN); refine stW ?_ (hf := flat_cons rfl (flat_cons rfl (flat1 rfl)))) | ((with_reducible apply kF 69); refine sR 69 (kc _ SBt) ?_; rintro v7 h7 ⟨blk7, hcp, rfl⟩; obtain ⟨oP', cP', oS', cS', cb, bb, z, F1, F2, rfl, rfl, iP, hcl, hcp'⟩ := hcp.atA D.hp (by omega); rw [List.append_assoc, List.cons_append]) | ((with_reducible apply kP (.load 39 (.tmp 60))); refine sP ?_ (o_load rfl (ld_one (shTOf rfl) (own (hme _ SBt) rfl)))) | ((with_reducible apply kDP (.load 39 (.tmp 60))); refine dP ?_ (hX := rfl) (hv := o_load rfl (ld_one (shTOf rfl) (own (hme _ SBt) rfl)))) | ((with_reducible apply kQO (.load 39 (.tmp 60))); refine qP ?_ (o_load rfl (ld_one (shTOf rfl) (own (hme _ SBt) rfl)))) | ((with_reducible apply kP (.load 3 (.tmp 63))); refine sP ?_ (o_load rfl (ld_one (shTOf rfl) (hp1 _ SBt)))) | ((with_reducible apply kDP (.load 3 (.tmp 63))); refine dP ?_ (hX := rfl) (hv := o_load rfl (ld_one (shTOf rfl) (hp1 _ SBt)))) | ((with_reducible apply kQO (.load 3 (.tmp 63))); refine qP ?_ (o_load rfl (ld_one (shTOf rfl) (hp1 _ SBt)))) | ((with_reducible apply kP (.fieldAddr _ _ _)); refine sP ?_ (o_fieldE rfl (by assumption) (foTOf2 rfl rfl) (by with_reducible first | exact bb0 _ | exact bb1 _ | exact bb2 _ _))) | ((with_reducible apply kDP (.fieldAddr _ _ _)); refine dP ?_ (hX := rfl) (hv := o_fieldE rfl (by assumption) (foTOf2 rfl rfl) (by with_reducible first | exact bb0 _ | exact bb1 _ | exact bb2 _ _))) | ((with_reducible apply kQO (.fieldAddr _ _ _)); refine qP ?_ (o_fieldE rfl (by assumption) (foTOf2 rfl rfl) (by with_reducible first | exact bb0 _ | exact bb1 _ | exact bb2 _ _))) | ((with_reducible apply kP (.load 39 (.tmp 69))); refine sP ?_ (o_load rfl (ld_one (shTOf rfl) (hcl B w0 _ (.cons _ sbL))))) | ((with_reducible apply kDP (.load 39 (.tmp 69))); refine dP ?_ (hX := rfl) (hv := o_load rfl (ld_one (shTOf rfl) (hcl B w0 _ (.cons _ sbL))))) | ((with_reducible apply kQO (.load 39 (.tmp 69))); refine qP ?_ (o_load rfl (ld_one (shTOf rfl) (hcl B w0 _ (.cons _ sbL))))) | ((with_reducible apply kP (.load 39 (.tmp 89))); refine sP ?_ (o_load rfl (ld_one (shTOf rfl) (hcl B w0 _ (.cons _ sbL))))) | ((with_reducible apply kDP (.load 39 (.tmp 89))); refine dP ?_ (hX := rfl) (hv := o_load rfl (ld_one (shTOf rfl) (hcl B w0 _ (.cons _ sbL))))) | ((with_reducible apply kQO (.load 39 (.tmp 89))); refine qP ?_ (o_load rfl (ld_one (shTOf rfl) (hcl B w0 _ (.cons _ sbL))))) | ((with_reducible apply kP (.load 39 (.tmp 74))); refine sP ?_ (o_load rfl (ld_one (shTOf rfl) (own (hme _ SBt) rfl)))) | ((with_reducible apply kDP (.load 39 (.tmp 74))); refine dP ?_ (hX := rfl) (hv := o_load rfl (ld_one (shTOf rfl) (own (hme _ SBt) rfl)))) | ((with_reducible apply kQO (.load 39 (.tmp 74))); refine qP ?_ (o_load rfl (ld_one (shTOf rfl) (own (hme _ SBt) rfl)))) | ((with_reducible apply kP (.load 39 (.tmp 94))); refine sP ?_ (o_load rfl (ld_one (shTOf rfl) (own (hme _ SBt) rfl)))) | ((with_reducible apply kDP (.load 39 (.tmp 94))); refine dP ?_ (hX := rfl) (hv := o_load rfl (ld_one (shTOf rfl) (own (hme _ SBt) rfl)))) | ((with_reducible apply kQO (.load 39 (.tmp 94))); refine qP ?_ (o_load rfl (ld_one (shTOf rfl) (own (hme _ SBt) rfl)))) | ((with_reducible apply kP (.load 3 (.tmp 77))); refine sP ?_ (o_load rfl (ld_one (shTOf rfl) (hf1 _ SBt)))) | ((with_reducible apply kDP (.load 3 (.tmp 77))); refine dP ?_ (hX := rfl) (hv := o_load rfl (ld_one (shTOf rfl) (hf1 _ SBt)))) | ((with_reducible apply kQO (.load 3 (.tmp 77))); refine qP ?_ (o_load rfl (ld_one (shTOf rfl) (hf1 _ SBt)))) | ((with_reducible apply kP (.load 3 (.tmp 97))); refine sP ?_ (o_load rfl (ld_one (shTOf rfl) (hf1 _ SBt)))) | ((with_reducible apply kDP (.load 3 (.tmp 97))); refine dP ?_ (hX := rfl) (hv := o_load rfl (ld_one (shTOf rfl) (hf1 _ SBt)))) | ((with_reducible apply kQO (.load 3 (.tmp 97))); refine qP ?_ (o_load rfl (ld_one (shTOf rfl) (hf1 _ SBt)))) | ((with_reducible apply kP (.indexAddr 39 (.tmp 70) _)); refine sP ?_ (o_indexB (scTOf rfl) rfl rfl hj1 (aa0 _) (by omega))) | ((with_reducible apply kDP (.indexAddr 39 (.tmp 70) _)); refine dP ?_ (hX := rfl) (hv := o_indexB (scTOf rfl) rfl rfl hj1 (aa0 _) (by omega))) | ((with_reducible apply kQO (.indexAddr 39 (.tmp 70) _)); refine qP ?_ (o_indexB (scTOf rfl) rfl rfl hj1 (aa0 _) (by omega))) | ((with_reducible apply kP (.indexAddr 39 (.tmp 90) _)); refine sP ?_ (o_indexB (scTOf rfl) rfl rfl hj2 (aa0 _) (by omega))) | ((with_reducible apply kDP (.indexAddr 39 (.tmp 90) _)); refine dP ?_ (hX := rfl) (hv := o_indexB (scTOf rfl) rfl rfl hj2 (aa0 _) (by omega))) | ((with_reducible apply kQO (.indexAddr 39 (.tmp 90) _)); refine qP ?_ (o_indexB (scTOf rfl) rfl rfl hj2 (aa0 _) (by omega))) | ((with_reducible apply kP (.load 3 (.tmp 80))); refine sP ?_ (o_load rfl (ld_one (shTOf rfl) (own MMt (gr1 _))))) | ((with_reducible apply kDP (.load 3 (.tmp 80))); refine dP ?_ (hX := rfl) (hv := o_load rfl (ld_one (shTOf rfl) (own MMt (gr1 _))))) | ((with_reducible apply kQO (.load 3 (.tmp 80))); refine qP ?_ (o_load rfl (ld_one (shTOf rfl) (own MMt (gr1 _))))) | ((with_reducible apply kP (.load 3 (.tmp 100))); refine sP ?_ (o_load rfl (ld_one (shTOf rfl) (own MMt (gq1 _ _))))) | ((with_reducible apply kDP (.load 3 (.tmp 100))); refine dP ?_ (hX := rfl) (hv := o_load rfl (ld_one (shTOf rfl) (own MMt (gq1 _ _))))) | ((with_reducible apply kQO (.load 3 (.tmp 100))); refine qP ?_ (o_load rfl (ld_one (shTOf rfl) (own MMt (gq1 _ _))))) | ((with_reducible apply kDN); refine dt1 ?_ (hl := gl1 _)) | ((with_reducible apply kDN); refine dt1 ?_ (hl := gl2 _ _)) | ((with_reducible apply kRg 12); refine cD [1, 1, 1, 1, 1, 1, 1, 1, 1, 1, 1, 1, 1, 1, 1, 1, 1, 1, 1, 1, 4] ?_) | ((with_reducible apply kRg 13); refine cD [1, 1, 1, 1, 1, 1, 1, 1, 1, 1, 1, 1, 1, 1, 1, 1, 1, 1, 1, 1, 4] ?_) | (with_reducible first | refine c_seq ?_ | refine c_reg ?_ | refine c_region ?_ | refine c_block ?_ | refine c_skip ?_ | refine c_exit ?_ | refine c_ret ?_ | refine s_nil ?_ | refine x_then ?_ | refine x_then_exit ?_ | refine x_then_ret ?_ | refine x_block ?_ | refine x_block_ret ?_ | refine x_block_same ?_ | refine x_block_other (by first | rfl | decide) ?_ | refine q_nil ?_ | refine k_nil ?_) | ((with_reducible apply kG); first | refine gY1 ?_ | refine gN1 ?_ | refine gU1 ?_ | (refine gD1 (fun h => ?_) (fun h => ?_) <;> (try (exfalso; omega))) | refine gB1 (fun h => ?_) (fun h => ?_)) | ((with_reducible apply kN); first | refine stP ?_ | refine stI ?_ | refine st1 ?_ | refine stW ?_) | ((with_reducible apply kP (.alloc _)); refine sA (fun b => ?_)) | ((with_reducible apply kP (.box _ _)); first | refine sBA (fun b => ?_) | refine sB (fun b => ?_)) | ((with_reducible apply kP _); refine sP ?_) | ((with_reducible apply kP _); refine sX ?_) | ((with_reducible apply kC); first | refine cT ?_ | refine cF ?_ | (refine cI (fun h => ?_) (fun h => ?_) <;> (try (exfalso; omega))) | refine cB (fun h => ?_) (fun h => ?_)) | ((with_reducible apply kDN); first | refine dtI ?_ | refine dt1 ?_ | refine dtW ?_) | ((with_reducible apply kDP _); refine dP ?_) | ((with_reducible apply kDP _); refine dX ?_))
        all_goals try (exfalso; omega)
        have hgg : ((ivs (pcA ps p).an ++ z).set r (.int .i64 ((pcA ps p).an.getD r 0 - d))).set q (.int .i64 ((pcA ps p).an.getD q 0 + d)) = ivs (dtA (pcA ps p).an r q d) ++ z := gg z _ _
        rw [hgg]
        refine e_ret2 (hs' := (F1 ++ ((bb, ivs (dtA (pcA ps p).an r q d) ++ z) :: F2)) ++ hs) rfl ⟨_, rfl, ld_whole (shTOf rfl) MDt rfl⟩ rfl (.inr ⟨rfl, _, _, hcp' _ (dtA_len _ _ _ _), rfl, rfl⟩) ?_
        rw [List.append_assoc, List.cons_append]
        exact .cons _ (.append (.refl _) (.cons_cons _ (.append (.refl _) (sbA (.cons _ (.cons _ (.refl _)))))))
    · rw [if_pos hx]
      have hx3 : ¬ (0 ≤ x ∧ x < (fsN (sdF ps) ps.length : Int)) := hx
      have hN' : fsN (sdF ps) ps.length ≤ 48 := hN
      by_cases hx0 : x < 0
      · refine fn_enter Try.func48 rfl Try.ntmps48 (by simp) ?_
        repeat' (first | ((with_reducible apply kP (.box 25 _)); refine sBA (fun b2 => ?_)) | ((with_reducible apply kP (.alloc 25)); refine sA (fun b4 => ?_)) | ((with_reducible apply kF 18); refine sC 18 (kv _ SBt) ?_) | ((with_reducible apply kF 61); refine sR 61 (ks _ SBt) ?_; rintro v7 h7 ⟨blk7, ⟨s, k1, k2, k3, rfl, q1, q2, q3, q4, hR, rfl⟩, rfl⟩) | ((with_reducible apply kN); refine stW ?_ (hf := flat_cons rfl (flat_cons rfl (flat1 rfl)))) | ((with_reducible apply kRg 12); refine cD [1, 1, 1, 1, 1, 1, 1, 1, 1, 1, 1, 1, 1, 1, 1, 1, 1, 1, 1, 1, 4] ?_) | ((with_reducible apply kRg 13); refine cD [1, 1, 1, 1, 1, 1, 1, 1, 1, 1, 1, 1, 1, 1, 1, 1, 1, 1, 1, 1, 4] ?_) | (with_reducible first | refine c_seq ?_ | refine c_reg ?_ | refine c_region ?_ | refine c_block ?_ | refine c_skip ?_ | refine c_exit ?_ | refine c_ret ?_ | refine s_nil ?_ | refine x_then ?_ | refine x_then_exit ?_ | refine x_then_ret ?_ | refine x_block ?_ | refine x_block_ret ?_ | refine x_block_same ?_ | refine x_block_other (by first | rfl | decide) ?_ | refine q_nil ?_ | refine k_nil ?_) | ((with_reducible apply kG); first | refine gY1 ?_ | refine gN1 ?_ | refine gU1 ?_ | (refine gD1 (fun h => ?_) (fun h => ?_) <;> (try (exfalso; omega))) | refine gB1 (fun h => ?_) (fun h => ?_)) | ((with_reducible apply kN); first | refine stP ?_ | refine stI ?_ | refine st1 ?_ | refine stW ?_) | ((with_reducible apply kP (.alloc _)); refine sA (fun b => ?_)) | ((with_reducible apply kP (.box _ _)); first | refine sBA (fun b => ?_) | refine sB (fun b => ?_)) | ((with_reducible apply kP _); refine sP ?_) | ((with_reducible apply kP _); refine sX ?_) | ((with_reducible apply kC); first | refine cT ?_ | refine cF ?_ | (refine cI (fun h => ?_) (fun h => ?_) <;> (try (exfalso; omega))) | refine cB (fun h => ?_) (fun h => ?_)) | ((with_reducible apply kDN); first | refine dtI ?_ | refine dt1 ?_ | refine dtW ?_) | ((with_reducible apply kDP _); refine dP ?_) | ((with_reducible apply kDP _); refine dX ?_))
        all_goals try (exfalso; omega)
        exact e_ret2 (hs' := hs) rfl ⟨_, rfl, ld_whole (shTOf rfl) MDt rfl⟩ rfl (.inl ⟨by decide, rfl, rfl⟩) (sbA (.cons _ (.cons _ (.refl _))))
      · refine fn_enter Try.func48 rfl Try.ntmps48 (by simp) ?_
        repeat' (first | ((with_reducible apply kP (.box 25 _)); refine sBA (fun b2 => ?_)) | ((with_reducible apply kP (.alloc 25)); refine sA (fun b4 => ?_)) | ((with_reducible apply kF 18); refine sC 18 (kv _ SBt) ?_) | ((with_reducible apply kF 61); refine sR 61 (ks _ SBt) ?_; rintro v7 h7 ⟨blk7, ⟨s, k1, k2, k3, rfl, q1, q2, q3, q4, hR, rfl⟩, rfl⟩) | ((with_reducible apply kRg 12); refine cD [1, 1, 1, 1, 1, 1, 1, 1, 1, 1, 1, 1, 1, 1, 1, 1, 1, 1, 1, 1, 4] ?_) | ((with_reducible apply kRg 13); refine cD [1, 1, 1, 1, 1, 1, 1, 1, 1, 1, 1, 1, 1, 1, 1, 1, 1, 1, 1, 1, 4] ?_) | (with_reducible first | refine c_seq ?_ | refine c_reg ?_ | refine c_region ?_ | refine c_block ?_ | refine c_skip ?_ | refine c_exit ?_ | refine c_ret ?_ | refine s_nil ?_ | refine x_then ?_ | refine x_then_exit ?_ | refine x_then_ret ?_ | refine x_block ?_ | refine x_block_ret ?_ | refine x_block_same ?_ | refine x_block_other (by first | rfl | decide) ?_ | refine q_nil ?_ | refine k_nil ?_) | ((with_reducible apply kG); first | refine gY1 ?_ | refine gN1 ?_ | refine gU1 ?_ | (refine gD1 (fun h => ?_) (fun h => ?_) <;> (try (exfalso; omega))) | refine gB1 (fun h => ?_) (fun h => ?_)) | ((with_reducible apply kN); first | refine stP ?_ | refine stI ?_ | refine st1 ?_ | refine stW ?_) | ((with_reducible apply kP (.alloc _)); refine sA (fun b => ?_)) | ((with_reducible apply kP (.box _ _)); first | refine sBA (fun b => ?_) | refine sB (fun b => ?_)) | ((with_reducible apply kP _); refine sP ?_) | ((with_reducible apply kP _); refine sX ?_) | ((with_reducible apply kC); first | refine cT ?_ | refine cF ?_ | (refine cI (fun h => ?_) (fun h => ?_) <;> (try (exfalso; omega))) | refine cB (fun h => ?_) (fun h => ?_)) | ((with_reducible apply kDN); first | refine dtI ?_ | refine dt1 ?_ | refine dtW ?_) | ((with_reducible apply kDP _); refine dP ?_) | ((with_reducible apply kDP _); refine dX ?_))
        all_goals try (exfalso; omega)
        subst q1 q2 q3 q4
        have hA := SewR.at (hC.sub (hs' := (b4, [.slice none 0 0, .slice none 0 0, .int .i64 0]) :: (b2, [.slice s.oP ps.length cP, .slice s.oS s.nS cS, iv s.e]) :: hs) (.cons _ (.cons _ (.refl _)))) hR
        have hme := fun hs' h => hA.me' (hs' := hs') h
        repeat' (first | ((with_reducible apply kP (.load 39 (.tmp 27))); refine sP ?_ (o_load rfl (ld_one (shTOf rfl) (own (hme _ SBt) rfl)))) | ((with_reducible apply kDP (.load 39 (.tmp 27))); refine dP ?_ (hX := rfl) (hv := o_load rfl (ld_one (shTOf rfl) (own (hme _ SBt) rfl)))) | ((with_reducible apply kQO (.load 39 (.tmp 27))); refine qP ?_ (o_load rfl (ld_one (shTOf rfl) (own (hme _ SBt) rfl)))) | ((with_reducible apply kN); refine stW ?_ (hf := flat_cons rfl (flat_cons rfl (flat1 rfl)))) | ((with_reducible apply kRg 12); refine cD [1, 1, 1, 1, 1, 1, 1, 1, 1, 1, 1, 1, 1, 1, 1, 1, 1, 1, 1, 1, 4] ?_) | ((with_reducible apply kRg 13); refine cD [1, 1, 1, 1, 1, 1, 1, 1, 1, 1, 1, 1, 1, 1, 1, 1, 1, 1, 1, 1, 4] ?_) | (with_reducible first | refine c_seq ?_ | refine c_reg ?_ | refine c_region ?_ | refine c_block ?_ | refine c_skip ?_ | refine c_exit ?_ | refine c_ret ?_ | refine s_nil ?_ | refine x_then ?_ | refine x_then_exit ?_ | refine x_then_ret ?_ | refine x_block ?_ | refine x_block_ret ?_ | refine x_block_same ?_ | refine x_block_other (by first | rfl | decide) ?_ | refine q_nil ?_ | refine k_nil ?_) | ((with_reducible apply kG); first | refine gY1 ?_ | refine gN1 ?_ | refine gU1 ?_ | (refine gD1 (fun h => ?_) (fun h => ?_) <;> (try (exfalso; omega))) | refine gB1 (fun h => ?_) (fun h => ?_)) | ((with_reducible apply kN); first | refine stP ?_ | refine stI ?_ | refine st1 ?_ | refine stW ?_) | ((with_reducible apply kP (.alloc _)); refine sA (fun b => ?_)) | ((with_reducible apply kP (.box _ _)); first | refine sBA (fun b => ?_) | refine sB (fun b => ?_)) | ((with_reducible apply kP _); refine sP ?_) | ((with_reducible apply kP _); refine sX ?_) | ((with_reducible apply kC); first | refine cT ?_ | refine cF ?_ | (refine cI (fun h => ?_) (fun h => ?_) <;> (try (exfalso; omega))) | refine cB (fun h => ?_) (fun h => ?_)) | ((with_reducible apply kDN); first | refine dtI ?_ | refine dt1 ?_ | refine dtW ?_) | ((with_reducible apply kDP _); refine dP ?_) | ((with_reducible apply kDP _); refine dX ?_))
        all_goals try (exfalso; omega)
        exact e_ret2 (hs' := hs) rfl ⟨_, rfl, ld_whole (shTOf rfl) MDt rfl⟩ rfl (.inl ⟨by decide, rfl, rfl⟩) (sbA (.cons _ (.cons _ (.refl _))))
  · rw [if_pos hv]
    have hv' : vdE ps.length (sdF ps) (anF ps) m sm e ≠ 0 := hv
    have hv2 : vdC ps sm m e = vdE ps.length (sdF ps) (anF ps) m sm e := rfl
    rw [hv2]
    generalize vdE ps.length (sdF ps) (anF ps) m sm e = z at *
    refine fn_enter Try.func48 rfl Try.ntmps48 (by simp) ?_
    repeat' (first | ((with_reducible apply kP (.box 25 _)); refine sBA (fun b2 => ?_)) | ((with_reducible apply kP (.alloc 25)); refine sA (fun b4 => ?_)) | ((with_reducible apply kF 18); refine sC 18 (kv _ SBt) ?_) | ((with_reducible apply kN); refine stW ?_ (hf := flat_cons rfl (flat_cons rfl (flat1 rfl)))) | ((with_reducible apply kRg 12); refine cD [1, 1, 1, 1, 1, 1, 1, 1, 1, 1, 1, 1, 1, 1, 1, 1, 1, 1, 1, 1, 4] ?_) | ((with_reducible apply kRg 13); refine cD [1, 1, 1, 1, 1, 1, 1, 1, 1, 1, 1, 1, 1, 1, 1, 1, 1, 1, 1, 1, 4] ?_) | (with_reducible first | refine c_seq ?_ | refine c_reg ?_ | refine c_region ?_ | refine c_block ?_ | refine c_skip ?_ | refine c_exit ?_ | refine c_ret ?_ | refine s_nil ?_ | refine x_then ?_ | refine x_then_exit ?_ | refine x_then_ret ?_ | refine x_block ?_ | refine x_block_ret ?_ | refine x_block_same ?_ | refine x_block_other (by first | rfl | decide) ?_ | refine q_nil ?_ | refine k_nil ?_) | ((with_reducible apply kG); first | refine gY1 ?_ | refine gN1 ?_ | refine gU1 ?_ | (refine gD1 (fun h => ?_) (fun h => ?_) <;> (try (exfalso; omega))) | refine gB1 (fun h => ?_) (fun h => ?_)) | ((with_reducible apply kN); first | refine stP ?_ | refine stI ?_ | refine st1 ?_ | refine stW ?_) | ((with_reducible apply kP (.alloc _)); refine sA (fun b => ?_)) | ((with_reducible apply kP (.box _ _)); first | refine sBA (fun b => ?_) | refine sB (fun b => ?_)) | ((with_reducible apply kP _); refine sP ?_) | ((with_reducible apply kP _); refine sX ?_) | ((with_reducible apply kC); first | refine cT ?_ | refine cF ?_ | (refine cI (fun h => ?_) (fun h => ?_) <;> (try (exfalso; omega))) | refine cB (fun h => ?_) (fun h => ?_)) | ((with_reducible apply kDN); first | refine dtI ?_ | refine dt1 ?_ | refine dtW ?_) | ((with_reducible apply kDP _); refine dP ?_) | ((with_reducible apply kDP _); refine dX ?_))
    exact e_ret2 (hs' := hs) rfl ⟨_, rfl, ld_whole (shTOf rfl) MDt rfl⟩ rfl (.inl ⟨hv', rfl, rfl⟩) SCt
end Go.Proofs.Ytnbickholedckaa
