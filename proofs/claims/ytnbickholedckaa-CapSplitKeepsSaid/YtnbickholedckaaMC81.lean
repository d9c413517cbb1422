/- The lengths of the loops, of the program and of the reference; loops in memory. -/
import Derived.Test.YtnbickholedckaaMC80
import Derived.Test.YtnbickholedckaaMB5
import Derived.Test.YtnbickholedckaaMB1
namespace Go.Proofs.Ytnbickholedckaa
open Go.RowKit
instance : Inhabited Lr := ⟨⟨none, 0, [], []⟩⟩
def lrA (rs : List Lr) (i : Nat) : Lr := rs.getD i default
theorem lrv_at {rs : List Lr} {i : Nat} (hi : i < rs.length) : (lrv rs)[i]? = some (.slice (lrA rs i).oa (lrA rs i).l.length (lrA rs i).c) := by
  unfold lrv lrA
  rw [List.getElem?_map, List.getElem?_eq_getElem hi, List.getD_eq_getElem?_getD, List.getElem?_eq_getElem hi]
  rfl
structure LrM (B : Nat) (w0 : Wd) (hs : HS) (oa : Option Addr) (rs : List Lr) : Prop where
  lv : Sv B w0 hs oa (lrv rs)
  ls : ∀ i, i < rs.length → Sl B w0 hs (lrA rs i).oa (lrA rs i).l
theorem LrM.sub {B : Nat} {w0 : Wd} {hs hs' : HS} {oa : Option Addr} {rs : List Lr} (h : LrM B w0 hs oa rs) (hsub : hs.Sublist hs') : LrM B w0 hs' oa rs := ⟨h.lv.sub hsub, fun i hi => (h.ls i hi).sub hsub⟩
theorem lrb_go : ∀ (rs : List Lr) (acc : HS), rs.foldl (fun acc r => r.blk ++ acc) acc = lrb rs ++ acc
  | [], acc => rfl
  | r :: rs, acc => by
    unfold lrb
    simp only [List.foldl_cons]
    rw [lrb_go rs (r.blk ++ acc), lrb_go rs (r.blk ++ []), List.append_nil, List.append_assoc]
theorem lrb_mem : ∀ {rs : List Lr} {r : Lr}, r ∈ rs → r.blk.Sublist (lrb rs)
  | q :: rs, r, h => by
    have e : lrb (q :: rs) = lrb rs ++ q.blk := by show rs.foldl _ (q.blk ++ []) = _; rw [lrb_go, List.append_nil]
    rw [e]
    rcases List.mem_cons.1 h with rfl | h
    · exact List.sublist_append_right _ _
    · exact (lrb_mem h).trans (List.sublist_append_left _ _)
theorem lrA_mem {rs : List Lr} {i : Nat} (hi : i < rs.length) : lrA rs i ∈ rs := by
  unfold lrA
  rw [List.getD_eq_getElem?_getD, List.getElem?_eq_getElem hi]
  exact List.getElem_mem hi
theorem lrA_l {rs : List Lr} {ls : List (List Int)} (h : rs.map (·.l) = ls) {i : Nat} (hi : i < rs.length) : ls[i]? = some (lrA rs i).l := by
  rw [← h, List.getElem?_map, List.getElem?_eq_getElem hi]
  unfold lrA
  rw [List.getD_eq_getElem?_getD, List.getElem?_eq_getElem hi]
  rfl
theorem LrR.m {B : Nat} {w0 : Wd} {hs : HS} {ls : List (List Int)} {v : Value} {blk : HS} (h : LrR ls v blk) : ∃ oa c rs, v = .slice oa rs.length c ∧ rs.map (·.l) = ls ∧ LrM B w0 (blk ++ hs) oa rs := by
  obtain ⟨oa, c, rs, bo, rfl, h1, h2, h3, rfl⟩ := h
  refine ⟨oa, c, rs, rfl, h3, (Sv.rowC h1).sub ((List.sublist_append_left _ _).trans (List.sublist_append_left _ _)), fun i hi => ?_⟩
  have hm := lrA_mem hi
  exact (Sl.row (h2 _ hm)).sub (((lrb_mem hm).trans (List.sublist_append_right _ _)).trans (List.sublist_append_left _ _))
theorem LrM.nil {B : Nat} {w0 : Wd} {hs : HS} {oa : Option Addr} : LrM B w0 hs oa [] := ⟨by unfold Sv; exact fun i hi => absurd hi (Nat.not_lt_zero _), fun i hi => absurd hi (Nat.not_lt_zero _)⟩
theorem LrM.c {B : Nat} {w0 : Wd} {hs hs' : HS} {oa : Option Addr} {rs : List Lr} (h : LrM B w0 hs oa rs) (hsub : hs.Sublist hs') {i : Nat} (hi : i < rs.length) : CellAt B w0 hs' (ea oa i) (.slice (lrA rs i).oa (lrA rs i).l.length (lrA rs i).c) := by
  have hp := h.lv
  unfold Sv at hp
  unfold CellAt
  intro w hw
  rw [(hp i (by rw [lrv_len]; exact hi)).2 w (hw.sub hsub)]
  exact lrv_at hi
theorem LrM.isS {B : Nat} {w0 : Wd} {hs : HS} {oa : Option Addr} {rs : List Lr} (h : LrM B w0 hs oa rs) {i : Nat} (hi : i < rs.length) : oa.isSome = true := by
  have hp := h.lv
  unfold Sv at hp
  exact (hp i (by rw [lrv_len]; exact hi)).1
/-- The lengths of the loops. -/
def hrC (ps : List Pc) (sm : List Int) (m : Nat) : List Int := hrL (nC ps) (nxC ps) (muC ps sm m) (lnF ps)
theorem hrC_len (ps : List Pc) (sm : List Int) (m : Nat) : (hrC ps sm m).length = (lpsC ps sm m).length := by unfold hrC hrL lpsC; rw [List.length_map]
theorem lnF_in {ps : List Pc} (hA : allOK ps.length (sdF ps) (anF ps)) {x : Nat} (hx : x < fsN (sdF ps) ps.length) : 1 ≤ lnF ps x ∧ lnF ps x ≤ 200 := by
  obtain ⟨h1, h2, h3⟩ := pcG_spec hx
  have h4 : fsN (sdF ps) (pcG (sdF ps) ps.length x + 1) = fsN (sdF ps) (pcG (sdF ps) ps.length x) + (sdF ps (pcG (sdF ps) ps.length x)).length := rfl
  exact ((hA _ h1).2.2.1 (x - fsN (sdF ps) (pcG (sdF ps) ps.length x)) (by omega)).1
section
variable {ps : List Pc} {sm : List Int} {m : Nat} {e : Int}
theorem VdC.lp (V : VdC ps sm m e) {i : Nat} {l : List Nat} (h : (lpsC ps sm m)[i]? = some l) : (∀ x ∈ l, x < nC ps) ∧ l.length ≤ 48 := by
  have h0 : l ∈ lpsC ps sm m := List.mem_of_getElem? h
  have h1 : ∀ x ∈ l, x < nC ps := fun x hx => (V.net.lps_mem.1 (List.mem_flatten.2 ⟨l, h0, hx⟩)).1
  refine ⟨h1, ?_⟩
  unfold lpsC lpsL at h0
  obtain ⟨x, hx, rfl⟩ := List.mem_map.1 h0
  simp only [List.mem_filter, List.mem_range] at hx
  obtain ⟨p, hp⟩ := V.net.loop hx.1
  have h2 := V.n48
  have h3 := hp.pn
  rw [hp.list]
  unfold loopL
  rw [List.length_map, List.length_range]; omega
theorem hr_at {i : Nat} {l : List Nat} (h : (lpsC ps sm m)[i]? = some l) : (hrC ps sm m)[i]? = some (asum (lnF ps) l) := by
  unfold hrC hrL
  unfold lpsC at h
  rw [List.getElem?_map, h]; rfl
end
attribute [local irreducible] OpF Ld CellAt Sl Sv pcA usP
structure HrI where
  i : Nat
  oa : Option Addr
  c : Nat
  k6 : HS
set_option maxRecDepth 100000 in
set_option maxHeartbeats 8000000 in
theorem k_Hairline (ps : List Pc) (oP oS : Option Addr) (cP m cS : Nat) (sm : List Int) (e : Int) (hn : ps.length ≤ 100) (hsm : sm.length = m * 4) (hm : m ≤ 100) (B : Nat) (w0 : Wd) (hs : HS) (hC : CapM B w0 hs oP oS ps sm) :
    Fn Try.prog 26 #[.agg #[.slice oP ps.length cP, .slice oS m cS, iv e]] B w0 hs (fun v h => (vdC ps sm m e ≠ 0 ∧ v = .tuple #[.slice none 0 0, iv (vdC ps sm m e)] ∧ h = hs) ∨ (vdC ps sm m e = 0 ∧ ∃ oa c blk, RowOk oa c 1 (ivs (hrC ps sm m)) blk ∧ v = .tuple #[.slice oa (hrC ps sm m).length c, iv 0] ∧ h = blk ++ hs)) := by
  have kv := fun hs' (h : hs.Sublist hs') => k_Validate ps oP oS cP m cS sm e hn hsm hm B w0 hs' (hC.sub h)
  by_cases hv : vdC ps sm m e = 0
  · have V := vdC_0 hv
    have ks := fun hs' (h : hs.Sublist hs') => k_sew ps oP oS cP m cS sm e V.n8 V.n1 hsm hm V.ok V.se B w0 hs' (hC.sub h)
    have hv' : vdE ps.length (sdF ps) (anF ps) m sm e = 0 := hv
    rw [hv'] at kv
    refine fn_enter Try.func26 rfl Try.ntmps26 (by simp) ?_
    repeat' (first | ((with_reducible apply kP (.box 25 _)); refine sBA (fun b1 => ?_)) | ((with_reducible apply kF 18); refine sC 18 (kv _ SBt) ?_) | ((with_reducible apply kF 61); refine sR 61 (ks _ SBt) ?_; rintro v7 h7 ⟨blk7, ⟨s, k1, k2, k3, rfl, q1, q2, q3, q4, hR, rfl⟩, rfl⟩) | (with_reducible first | refine c_seq ?_ | refine c_reg ?_ | refine c_region ?_ | refine c_block ?_ | refine c_skip ?_ | refine c_exit ?_ | refine c_ret ?_ | refine s_nil ?_ | refine x_then ?_ | refine x_then_exit ?_ | refine x_then_ret ?_ | refine x_block ?_ | refine x_block_ret ?_ | refine x_block_same ?_ | refine x_block_other (by first | rfl | decide) ?_ | refine q_nil ?_ | refine k_nil ?_) | ((with_reducible apply kP (.box _ _)); first | refine sBA (fun b => ?_) | refine sB (fun b => ?_)) | ((with_reducible apply kP (.buildSlice _ 1 _)); first | refine sl1A (fun b => ?_) | refine sl1 (fun b => ?_)) | ((with_reducible apply kP (.call ⟨.builtin .append, _, _⟩)); refine sAp (fun oa2 c2 blk2 hrow2 => ?_)) | ((with_reducible apply kP _); refine sP ?_) | ((with_reducible apply kP _); refine sX ?_) | ((with_reducible apply kC); first | refine cT ?_ | refine cF ?_ | (refine cI (fun h => ?_) (fun h => ?_) <;> (try (exfalso; omega))) | refine cB (fun h => ?_) (fun h => ?_)))
    subst q1 q2 q3 q4
    have hA := SewR.at (hC.sub (hs' := (b1, [.slice s.oP ps.length cP, .slice s.oS s.nS cS, iv s.e]) :: hs) (.cons _ (.refl _))) hR
    generalize hH : k3 ++ (k1 ++ (k2 ++ [(s.b, s.cells ps.length (fsN (sdF ps) ps.length))])) ++ (b1, [.slice s.oP ps.length cP, .slice s.oS s.nS cS, iv s.e]) :: hs = H at *
    have kp := k_loops s ps _ V.n48 V.net _ _ _ hA
    have kl := fun x (hx : x < fsN (sdF ps) ps.length) hs' (h : H.Sublist hs') => k_length s ps _ x V.n48 hx B w0 hs' (hA.sub h)
    repeat' (first | ((with_reducible apply kF 65); refine sR 65 (kp) ?_; rintro v8 h8 ⟨blk8, hP8, rfl⟩; obtain ⟨o8, c8, rs, rfl, g8, m8⟩ := hP8.m (B := B) (w0 := w0) (hs := H)) | (with_reducible first | refine c_seq ?_ | refine c_reg ?_ | refine c_region ?_ | refine c_block ?_ | refine c_skip ?_ | refine c_exit ?_ | refine c_ret ?_ | refine s_nil ?_ | refine x_then ?_ | refine x_then_exit ?_ | refine x_then_ret ?_ | refine x_block ?_ | refine x_block_ret ?_ | refine x_block_same ?_ | refine x_block_other (by first | rfl | decide) ?_ | refine q_nil ?_ | refine k_nil ?_) | ((with_reducible apply kP (.box _ _)); first | refine sBA (fun b => ?_) | refine sB (fun b => ?_)) | ((with_reducible apply kP (.buildSlice _ 1 _)); first | refine sl1A (fun b => ?_) | refine sl1 (fun b => ?_)) | ((with_reducible apply kP (.call ⟨.builtin .append, _, _⟩)); refine sAp (fun oa2 c2 blk2 hrow2 => ?_)) | ((with_reducible apply kP _); refine sP ?_) | ((with_reducible apply kP _); refine sX ?_) | ((with_reducible apply kC); first | refine cT ?_ | refine cF ?_ | (refine cI (fun h => ?_) (fun h => ?_) <;> (try (exfalso; omega))) | refine cB (fun h => ?_) (fun h => ?_)))
    have g8 : rs.map (·.l) = (lpsC ps sm s.nS).map nats := g8
    have hlen : rs.length = (lpsC ps sm s.nS).length := by have := congrArg List.length g8; simpa using this
    have hlp := V.lpn
    have hrl := hrC_len ps sm s.nS
    refine c_loop (fun x : HrI => [(5, .pointer (some ⟨s.b, 0, none⟩)), (6, .slice x.oa x.i x.c), (20, .slice o8 rs.length c8), (21, iv rs.length), (22, iv x.i)]) (fun x => x.k6 ++ (blk8 ++ H))
      (fun x => x.i ≤ rs.length ∧ RowOk x.oa x.c 1 (ivs ((hrC ps sm s.nS).take x.i)) x.k6) (fun x => rs.length - x.i) ⟨0, none, 0, []⟩ ⟨Nat.zero_le _, by rw [List.take_zero]; exact RowOk.nil⟩ (by repeat' first | trivial | rfl | apply And.intro) (.refl _) ?_
    rintro ⟨i, oa, c, k6⟩ ⟨hi, hr6⟩
    dsimp only at hi hr6 ⊢
    by_cases hi' : i < rs.length
    · have hla := lrA_l g8 hi'
      rw [List.getElem?_map] at hla
      obtain ⟨l, hl, hle⟩ : ∃ l, (lpsC ps sm s.nS)[i]? = some l ∧ nats l = (lrA rs i).l := by
        cases hl : (lpsC ps sm s.nS)[i]? with
        | none => rw [hl] at hla; cases hla
        | some l => rw [hl] at hla; exact ⟨l, rfl, by simpa using hla⟩
      obtain ⟨hlt, hl48⟩ := V.lp hl
      have i8 := m8.isS hi'
      have hc8 := fun hs' (h : (blk8 ++ H).Sublist hs') => m8.c h hi'
      have hls := m8.ls i hi'
      rw [← hle] at hls hc8
      rw [nats_len] at hc8
      generalize lrA rs i = r at *
      have h6l : (ivs ((hrC ps sm s.nS).take i)).length = i * 1 := by rw [ivs_length, List.length_take]; omega
      have htk := take_snoc (hr_at hl)
      repeat' (first | ((with_reducible apply kP (.load 39 (.tmp 24))); refine sP ?_ (o_load rfl (ld_one (shTOf rfl) (hc8 _ SBt)))) | ((with_reducible apply kDP (.load 39 (.tmp 24))); refine dP ?_ (hX := rfl) (hv := o_load rfl (ld_one (shTOf rfl) (hc8 _ SBt)))) | ((with_reducible apply kQO (.load 39 (.tmp 24))); refine qP ?_ (o_load rfl (ld_one (shTOf rfl) (hc8 _ SBt)))) | (with_reducible first | refine c_seq ?_ | refine c_reg ?_ | refine c_region ?_ | refine c_block ?_ | refine c_skip ?_ | refine c_exit ?_ | refine c_ret ?_ | refine s_nil ?_ | refine x_then ?_ | refine x_then_exit ?_ | refine x_then_ret ?_ | refine x_block ?_ | refine x_block_ret ?_ | refine x_block_same ?_ | refine x_block_other (by first | rfl | decide) ?_ | refine q_nil ?_ | refine k_nil ?_) | ((with_reducible apply kP (.box _ _)); first | refine sBA (fun b => ?_) | refine sB (fun b => ?_)) | ((with_reducible apply kP (.buildSlice _ 1 _)); first | refine sl1A (fun b => ?_) | refine sl1 (fun b => ?_)) | ((with_reducible apply kP (.call ⟨.builtin .append, _, _⟩)); refine sAp (fun oa2 c2 blk2 hrow2 => ?_)) | ((with_reducible apply kP _); refine sP ?_) | ((with_reducible apply kP _); refine sX ?_) | ((with_reducible apply kC); first | refine cT ?_ | refine cF ?_ | (refine cI (fun h => ?_) (fun h => ?_) <;> (try (exfalso; omega))) | refine cB (fun h => ?_) (fun h => ?_)))
      refine c_loop (fun j : Nat => [(5, .pointer (some ⟨s.b, 0, none⟩)), (6, .slice oa i c), (20, .slice o8 rs.length c8), (21, iv rs.length), (22, iv i), (9, iv (asum (lnF ps) (l.take j))), (26, .slice r.oa l.length r.c), (27, iv l.length), (28, iv j)]) (fun _ => k6 ++ (blk8 ++ H)) (fun j => j ≤ l.length) (fun j => l.length - j) 0 (Nat.zero_le _) (by repeat' first | trivial | rfl | apply And.intro) (.refl _) ?_
      intro j hj
      by_cases hj' : j < l.length
      · have hxj : l[j]? = some l[j] := List.getElem?_eq_getElem hj'
        have hx := hlt _ (List.getElem_mem hj')
        have hcj := fun hs' (h : (blk8 ++ H).Sublist hs') => hls.at h (i := j) (by rw [nats_len]; exact hj')
        have hgd : (nats l).getD j 0 = ((l[j] : Nat) : Int) := by
          unfold nats
          rw [List.getD_eq_getElem?_getD, List.getElem?_map, hxj]; rfl
        rw [hgd] at hcj
        have ij := hls.any (i := j) (by rw [nats_len]; exact hj')
        have hat := asum_take (lnF ps) hxj
        have hin := asum_in (ag := lnF ps) (l := l.take j) (fun x hx => by have := lnF_in V.ok (hlt x (List.mem_of_mem_take hx)); omega)
        rw [List.length_take] at hin
        have hlx := lnF_in V.ok hx
        generalize l[j] = x at *
        have klx : ∀ hs' (h : H.Sublist hs'), Fn Try.prog 67 #[.pointer (some ⟨s.b, 0, none⟩), iv x] B w0 hs' (fun v h => v = iv (lnF ps x) ∧ h = hs') := fun hs' h => kl x hx hs' h
        generalize lnF ps = ln at *
        generalize asum ln (l.take j) = sum at *
        repeat' (first | ((with_reducible apply kP (.load 3 (.tmp 30))); refine sP ?_ (o_load rfl (ld_one (shTOf rfl) (hcj _ SBt)))) | ((with_reducible apply kDP (.load 3 (.tmp 30))); refine dP ?_ (hX := rfl) (hv := o_load rfl (ld_one (shTOf rfl) (hcj _ SBt)))) | ((with_reducible apply kQO (.load 3 (.tmp 30))); refine qP ?_ (o_load rfl (ld_one (shTOf rfl) (hcj _ SBt)))) | ((with_reducible apply kF 67); refine sC 67 (klx _ (sbA (sbA sb0))) ?_) | (with_reducible first | refine c_seq ?_ | refine c_reg ?_ | refine c_region ?_ | refine c_block ?_ | refine c_skip ?_ | refine c_exit ?_ | refine c_ret ?_ | refine s_nil ?_ | refine x_then ?_ | refine x_then_exit ?_ | refine x_then_ret ?_ | refine x_block ?_ | refine x_block_ret ?_ | refine x_block_same ?_ | refine x_block_other (by first | rfl | decide) ?_ | refine q_nil ?_ | refine k_nil ?_) | ((with_reducible apply kP (.box _ _)); first | refine sBA (fun b => ?_) | refine sB (fun b => ?_)) | ((with_reducible apply kP (.buildSlice _ 1 _)); first | refine sl1A (fun b => ?_) | refine sl1 (fun b => ?_)) | ((with_reducible apply kP (.call ⟨.builtin .append, _, _⟩)); refine sAp (fun oa2 c2 blk2 hrow2 => ?_)) | ((with_reducible apply kP _); refine sP ?_) | ((with_reducible apply kP _); refine sX ?_) | ((with_reducible apply kC); first | refine cT ?_ | refine cF ?_ | (refine cI (fun h => ?_) (fun h => ?_) <;> (try (exfalso; omega))) | refine cB (fun h => ?_) (fun h => ?_)))
        exact r_end (j + 1) hj' (by omega) (by repeat' first | trivial | rfl | apply And.intro | (rw [hat]; rfl)) SCt
      · obtain rfl : l.length = j := by omega
        have hll := hr_at hl
        rw [List.take_length]
        repeat' (first | ((with_reducible apply kP (.call ⟨.builtin .append, _, _⟩)); refine sAp (fun oa7 c7 k7 hr7 => ?_) (hr := hr6) (hk := h6l)) | (with_reducible first | refine c_seq ?_ | refine c_reg ?_ | refine c_region ?_ | refine c_block ?_ | refine c_skip ?_ | refine c_exit ?_ | refine c_ret ?_ | refine s_nil ?_ | refine x_then ?_ | refine x_then_exit ?_ | refine x_then_ret ?_ | refine x_block ?_ | refine x_block_ret ?_ | refine x_block_same ?_ | refine x_block_other (by first | rfl | decide) ?_ | refine q_nil ?_ | refine k_nil ?_) | ((with_reducible apply kP (.box _ _)); first | refine sBA (fun b => ?_) | refine sB (fun b => ?_)) | ((with_reducible apply kP (.buildSlice _ 1 _)); first | refine sl1A (fun b => ?_) | refine sl1 (fun b => ?_)) | ((with_reducible apply kP (.call ⟨.builtin .append, _, _⟩)); refine sAp (fun oa2 c2 blk2 hrow2 => ?_)) | ((with_reducible apply kP _); refine sP ?_) | ((with_reducible apply kP _); refine sX ?_) | ((with_reducible apply kC); first | refine cT ?_ | refine cF ?_ | (refine cI (fun h => ?_) (fun h => ?_) <;> (try (exfalso; omega))) | refine cB (fun h => ?_) (fun h => ?_)))
        have hr7' : RowOk oa7 c7 1 (ivs ((hrC ps sm s.nS).take (i + 1))) k7 := by rw [htk, ← ivs_snoc]; exact hr7
        exact r_end (⟨i + 1, oa7, c7, k7⟩ : HrI) ⟨hi', hr7'⟩ (by dsimp only; omega) (by repeat' first | trivial | rfl | apply And.intro) SCt
    · obtain rfl : rs.length = i := by omega
      rw [List.take_of_length_le (by omega)] at hr6
      repeat' (first | (with_reducible first | refine c_seq ?_ | refine c_reg ?_ | refine c_region ?_ | refine c_block ?_ | refine c_skip ?_ | refine c_exit ?_ | refine c_ret ?_ | refine s_nil ?_ | refine x_then ?_ | refine x_then_exit ?_ | refine x_then_ret ?_ | refine x_block ?_ | refine x_block_ret ?_ | refine x_block_same ?_ | refine x_block_other (by first | rfl | decide) ?_ | refine q_nil ?_ | refine k_nil ?_) | ((with_reducible apply kP (.box _ _)); first | refine sBA (fun b => ?_) | refine sB (fun b => ?_)) | ((with_reducible apply kP (.buildSlice _ 1 _)); first | refine sl1A (fun b => ?_) | refine sl1 (fun b => ?_)) | ((with_reducible apply kP (.call ⟨.builtin .append, _, _⟩)); refine sAp (fun oa2 c2 blk2 hrow2 => ?_)) | ((with_reducible apply kP _); refine sP ?_) | ((with_reducible apply kP _); refine sX ?_) | ((with_reducible apply kC); first | refine cT ?_ | refine cF ?_ | (refine cI (fun h => ?_) (fun h => ?_) <;> (try (exfalso; omega))) | refine cB (fun h => ?_) (fun h => ?_)))
      subst hH
      rw [show rs.length = (hrC ps sm s.nS).length by omega]
      exact e_ret2 (hs' := k6 ++ hs) rfl rfl rfl (.inr ⟨hv, oa, c, k6, hr6, rfl, rfl⟩) (.append (.refl _) (sbA (sbA (.cons _ (.refl _)))))
  · have hv' : vdE ps.length (sdF ps) (anF ps) m sm e ≠ 0 := hv
    have hv2 : vdC ps sm m e = vdE ps.length (sdF ps) (anF ps) m sm e := rfl
    rw [hv2]
    generalize vdE ps.length (sdF ps) (anF ps) m sm e = z at *
    refine fn_enter Try.func26 rfl Try.ntmps26 (by simp) ?_
    repeat' (first | ((with_reducible apply kP (.box 25 _)); refine sBA (fun b1 => ?_)) | ((with_reducible apply kF 18); refine sC 18 (kv _ SBt) ?_) | (with_reducible first | refine c_seq ?_ | refine c_reg ?_ | refine c_region ?_ | refine c_block ?_ | refine c_skip ?_ | refine c_exit ?_ | refine c_ret ?_ | refine s_nil ?_ | refine x_then ?_ | refine x_then_exit ?_ | refine x_then_ret ?_ | refine x_block ?_ | refine x_block_ret ?_ | refine x_block_same ?_ | refine x_block_other (by first | rfl | decide) ?_ | refine q_nil ?_ | refine k_nil ?_) | ((with_reducible apply kP (.box _ _)); first | refine sBA (fun b => ?_) | refine sB (fun b => ?_)) | ((with_reducible apply kP (.buildSlice _ 1 _)); first | refine sl1A (fun b => ?_) | refine sl1 (fun b => ?_)) | ((with_reducible apply kP (.call ⟨.builtin .append, _, _⟩)); refine sAp (fun oa2 c2 blk2 hrow2 => ?_)) | ((with_reducible apply kP _); refine sP ?_) | ((with_reducible apply kP _); refine sX ?_) | ((with_reducible apply kC); first | refine cT ?_ | refine cF ?_ | (refine cI (fun h => ?_) (fun h => ?_) <;> (try (exfalso; omega))) | refine cB (fun h => ?_) (fun h => ?_)))
    exact e_ret2 (hs' := hs) rfl rfl rfl (.inl ⟨hv', rfl, rfl⟩) SCt
end Go.Proofs.Ytnbickholedckaa
