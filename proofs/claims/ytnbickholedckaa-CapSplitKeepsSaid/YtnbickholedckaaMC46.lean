/- The program's Parts, Missing, Handles; the law's measure. -/
import Derived.Test.YtnbickholedckaaMC31
import Derived.Test.YtnbickholedckaaMC80
import Derived.Test.YtnbickholedckaaMC20
import Derived.Test.YtnbickholedckaaMA3
namespace Go.Proofs.Ytnbickholedckaa
open Go.RowKit
theorem rlR_len {P : Nat} {pc : Nat → Nat} (S : List (Nat × Nat)) : (cpt (srtI (natL P (rlR pc S)))).length = ccE P (cmpE pc S) := by
  refine rlR_cc ?_ (fun z => ?_)
  · exact (cpt_ord (srtI_ord _)).imp (fun {a b} h e => by omega)
  · rw [cpt_mem, srtI_mem]
    unfold natL tab
    simp only [List.mem_map, List.mem_range]
    exact ⟨fun ⟨x, h1, h2⟩ => ⟨x, h1, h2.symm⟩, fun ⟨x, h1, h2⟩ => ⟨x, h1, h2.symm⟩⟩
theorem natL_set {P : Nat} {F : Nat → Nat} {i v : Nat} : (natL P F).set i (v : Int) = natL P (fun x => if x = i then v else F x) := by
  unfold natL
  rw [tab_set]
  refine tab_ext fun x _ => ?_
  by_cases h : x = i <;> simp [h]
theorem natL_cong {P : Nat} {F G : Nat → Nat} (h : ∀ x, x < P → F x = G x) : natL P F = natL P G := tab_ext fun x hx => by rw [h x hx]
theorem paC_in {ps : List Pc} {sm : List Int} {m : Nat} {e : Int} (V : VdC ps sm m e) : paC ps sm m ≤ 8 := by
  have h1 := V.n8
  have h2 := cnN_le (fun i => decide (rpE (cmpE (pcG (sdF ps) ps.length) (smL (sdF ps) sm m)) i = i)) ps.length
  unfold paC ccE
  omega
theorem euC_in {ps : List Pc} {sm : List Int} {m : Nat} {e : Int} (V : VdC ps sm m e) (hm : m ≤ 100) : -100 ≤ euC ps sm m ∧ euC ps sm m ≤ 200 := by
  have h1 := (ptsC_in V).1
  have h2 := V.n48
  have h3 := V.n8
  unfold euC
  omega
attribute [local irreducible] OpF Ld CellAt Sl Sv pcA usP
set_option maxRecDepth 100000 in
set_option maxHeartbeats 8000000 in
theorem k_Parts (ps : List Pc) (oP oS : Option Addr) (cP m cS : Nat) (sm : List Int) (e : Int) (hn : ps.length ≤ 100) (hsm : sm.length = m * 4) (hm : m ≤ 100) (B : Nat) (w0 : Wd) (hs : HS) (hC : CapM B w0 hs oP oS ps sm) :
    Fn Try.prog 71 #[.agg #[.slice oP ps.length cP, .slice oS m cS, iv e]] B w0 hs (fun v h => v = .tuple #[iv (if vdC ps sm m e = 0 then (paC ps sm m : Int) else 0), iv (vdC ps sm m e)] ∧ h = hs) := by
  have kv := fun hs' (h : hs.Sublist hs') => k_Validate ps oP oS cP m cS sm e hn hsm hm B w0 hs' (hC.sub h)
  by_cases hv : vdC ps sm m e = 0
  · have V := vdC_0 hv
    have hv' : vdE ps.length (sdF ps) (anF ps) m sm e = 0 := hv
    rw [hv'] at kv
    rw [if_pos hv, hv]
    have hP := V.n8
    have hP1 := V.n1
    have hse := V.se
    have e0 : ivs (List.replicate ps.length 0) = ivs (natL ps.length fun x => if x < 0 then x else 0) := by
      congr 1
      unfold natL tab
      exact List.ext_getElem (by simp) fun i h1 h2 => by simp
    have hlen := rlR_len (P := ps.length) (pc := pcG (sdF ps) ps.length) (smL (sdF ps) sm m)
    unfold paC
    rw [← hlen]
    have hcl := cpt_le (srtI (natL ps.length (rlR (pcG (sdF ps) ps.length) (smL (sdF ps) sm m))))
    rw [srtI_len, natL_len] at hcl
    refine fn_enter Try.func71 rfl Try.ntmps71 (by simp) ?_
    repeat' (first | ((with_reducible apply kP (.box 25 _)); refine sBA (fun b1 => ?_)) | ((with_reducible apply kF 18); refine sC 18 (kv _ SBt) ?_) | ((with_reducible apply kP (.makeSlice 39 _ _)); refine sMk (fun b5 => ?_)) | (with_reducible first | refine c_seq ?_ | refine c_reg ?_ | refine c_region ?_ | refine c_block ?_ | refine c_skip ?_ | refine c_exit ?_ | refine c_ret ?_ | refine s_nil ?_ | refine x_then ?_ | refine x_then_exit ?_ | refine x_then_ret ?_ | refine x_block ?_ | refine x_block_ret ?_ | refine x_block_same ?_ | refine x_block_other (by first | rfl | decide) ?_ | refine q_nil ?_ | refine k_nil ?_) | ((with_reducible apply kN); first | refine stP ?_ | refine stI ?_ | refine st1 ?_ | refine stW ?_) | ((with_reducible apply kP (.alloc _)); refine sA (fun b => ?_)) | ((with_reducible apply kP (.box _ _)); first | refine sBA (fun b => ?_) | refine sB (fun b => ?_)) | ((with_reducible apply kP (.makeSlice _ _ _)); refine sMk (fun b => ?_)) | ((with_reducible apply kP _); refine sP ?_) | ((with_reducible apply kP _); refine sX ?_) | ((with_reducible apply kQP); refine qP ?_) | ((with_reducible apply kQP); refine qX ?_) | ((with_reducible apply kC); first | refine cT ?_ | refine cF ?_ | (refine cI (fun h => ?_) (fun h => ?_) <;> (try (exfalso; omega))) | refine cB (fun h => ?_) (fun h => ?_)) | ((with_reducible apply kR); refine cQ ?_))
    rw [e0]
    refine c_loop (fun i : Nat => [(1, .pointer (some ⟨b1, 0, none⟩)), (5, .slice (some ⟨b5, 0, none⟩) ps.length ps.length), (22, iv ps.length), (23, iv i)]) (fun i => (b5, ivs (natL ps.length fun x => if x < i then x else 0)) :: (b1, [.slice oP ps.length cP, .slice oS m cS, iv e]) :: hs) (fun i => i ≤ ps.length) (fun i => ps.length - i) 0 (Nat.zero_le _) (by repeat' first | trivial | rfl | apply And.intro) (.refl _) ?_
    intro i hi
    by_cases hi' : i < ps.length
    · have hl : i < (natL ps.length fun x => if x < i then x else 0).length := by rw [natL_len]; exact hi'
      have hst : (natL ps.length fun x => if x < i then x else 0).set i ((i : Nat) : Int) = natL ps.length fun x => if x < i + 1 then x else 0 := by
        rw [natL_set]
        refine natL_cong fun x _ => ?_
        by_cases h1 : x = i
        · rw [if_pos h1, if_pos (by omega)]; exact h1.symm
        · rw [if_neg h1]
          by_cases h2 : x < i
          · rw [if_pos h2, if_pos (by omega)]
          · rw [if_neg h2, if_neg (by omega)]
      repeat' (first | ((with_reducible apply kN); refine stI ?_ (hl := hl)) | (with_reducible first | refine c_seq ?_ | refine c_reg ?_ | refine c_region ?_ | refine c_block ?_ | refine c_skip ?_ | refine c_exit ?_ | refine c_ret ?_ | refine s_nil ?_ | refine x_then ?_ | refine x_then_exit ?_ | refine x_then_ret ?_ | refine x_block ?_ | refine x_block_ret ?_ | refine x_block_same ?_ | refine x_block_other (by first | rfl | decide) ?_ | refine q_nil ?_ | refine k_nil ?_) | ((with_reducible apply kN); first | refine stP ?_ | refine stI ?_ | refine st1 ?_ | refine stW ?_) | ((with_reducible apply kP (.alloc _)); refine sA (fun b => ?_)) | ((with_reducible apply kP (.box _ _)); first | refine sBA (fun b => ?_) | refine sB (fun b => ?_)) | ((with_reducible apply kP (.makeSlice _ _ _)); refine sMk (fun b => ?_)) | ((with_reducible apply kP _); refine sP ?_) | ((with_reducible apply kP _); refine sX ?_) | ((with_reducible apply kQP); refine qP ?_) | ((with_reducible apply kQP); refine qX ?_) | ((with_reducible apply kC); first | refine cT ?_ | refine cF ?_ | (refine cI (fun h => ?_) (fun h => ?_) <;> (try (exfalso; omega))) | refine cB (fun h => ?_) (fun h => ?_)) | ((with_reducible apply kR); refine cQ ?_))
      rw [hst]
      exact r_end (i + 1) hi' (by omega) (by repeat' first | trivial | rfl | apply And.intro) SCt
    · obtain rfl : ps.length = i := by omega
      have e1 : natL ps.length (fun x => if x < ps.length then x else 0) = natL ps.length (rlR (pcG (sdF ps) ps.length) (smL (sdF ps) sm 0)) := natL_cong fun x hx => by rw [if_pos hx]; rfl
      rw [e1]
      repeat' (first | (with_reducible first | refine c_seq ?_ | refine c_reg ?_ | refine c_region ?_ | refine c_block ?_ | refine c_skip ?_ | refine c_exit ?_ | refine c_ret ?_ | refine s_nil ?_ | refine x_then ?_ | refine x_then_exit ?_ | refine x_then_ret ?_ | refine x_block ?_ | refine x_block_ret ?_ | refine x_block_same ?_ | refine x_block_other (by first | rfl | decide) ?_ | refine q_nil ?_ | refine k_nil ?_) | ((with_reducible apply kN); first | refine stP ?_ | refine stI ?_ | refine st1 ?_ | refine stW ?_) | ((with_reducible apply kP (.alloc _)); refine sA (fun b => ?_)) | ((with_reducible apply kP (.box _ _)); first | refine sBA (fun b => ?_) | refine sB (fun b => ?_)) | ((with_reducible apply kP (.makeSlice _ _ _)); refine sMk (fun b => ?_)) | ((with_reducible apply kP _); refine sP ?_) | ((with_reducible apply kP _); refine sX ?_) | ((with_reducible apply kQP); refine qP ?_) | ((with_reducible apply kQP); refine qX ?_) | ((with_reducible apply kC); first | refine cT ?_ | refine cF ?_ | (refine cI (fun h => ?_) (fun h => ?_) <;> (try (exfalso; omega))) | refine cB (fun h => ?_) (fun h => ?_)) | ((with_reducible apply kR); refine cQ ?_))
      have hsl := hC.sms
      refine c_loop (fun t : Nat => [(1, .pointer (some ⟨b1, 0, none⟩)), (5, .slice (some ⟨b5, 0, none⟩) ps.length ps.length), (32, .slice oS m cS), (33, iv m), (34, iv t)]) (fun t => (b5, ivs (natL ps.length (rlR (pcG (sdF ps) ps.length) (smL (sdF ps) sm t)))) :: (b1, [.slice oP ps.length cP, .slice oS m cS, iv e]) :: hs) (fun t => t ≤ m) (fun t => m - t) 0 (Nat.zero_le _) (by repeat' first | trivial | rfl | apply And.intro) (.refl _) ?_
      intro t ht
      by_cases ht' : t < m
      · obtain ⟨⟨hA, hB⟩, _, _⟩ := seE_z (hse t ht')
        have hoS : oS.isSome = true := hsl.any (i := t * 4) (by omega)
        have hld := fun hs' (h : hs.Sublist hs') => ld_seam (P := Try.prog) (t := 56) (shTOf rfl) hsl h (i := t) (by omega)
        have pA := (adS_lt hA).2.1
        have pB := (adS_lt hB).2.1
        obtain ⟨⟨A0, A1⟩, _⟩ := hA
        obtain ⟨⟨B0, B1⟩, _⟩ := hB
        have hnx : rlR (pcG (sdF ps) ps.length) (smL (sdF ps) sm (t + 1)) = rlS (rlR (pcG (sdF ps) ps.length) (smL (sdF ps) sm t)) (smA sm t).toNat (smB sm t).toNat := by
          rw [smL_succ, rlR_snoc]
          simp only [pA, pB]
        generalize hG : rlR (pcG (sdF ps) ps.length) (smL (sdF ps) sm t) = G at *
        have lA : (smA sm t).toNat < ps.length := by omega
        have lB : (smB sm t).toNat < ps.length := by omega
        have g0 : ∀ (F : Nat → Nat) x, x < ps.length → (ivs (natL ps.length F))[x]? = some (iv (F x : Int)) := fun F x hx => by
          rw [ivs_get (by rw [natL_len]; exact hx), natL_at hx]
        have gA := g0 G _ lA
        have gB := g0 G _ lB
        have uA : smA sm t = ((smA sm t).toNat : Int) := by omega
        have uB : smB sm t = ((smB sm t).toNat : Int) := by omega
        repeat' (first | ((with_reducible apply kP (.load 56 _)); refine sP ?_ (o_load rfl (hld _ SBt))) | ((with_reducible apply kDP (.load 56 _)); refine dP ?_ (hX := rfl) (hv := o_load rfl (hld _ SBt))) | ((with_reducible apply kQO (.load 56 _)); refine qP ?_ (o_load rfl (hld _ SBt))) | ((with_reducible apply kP (.alloc 56)); refine sA (fun b8 => ?_)) | ((with_reducible apply kN); refine stW ?_ (hf := flat_cons rfl (flat3 rfl rfl rfl))) | ((with_reducible apply kP (.indexAddr 39 (.tmp 38) _)); refine sP ?_ (o_indexB (scTOf rfl) rfl rfl uA (aa0 _) lA)) | ((with_reducible apply kDP (.indexAddr 39 (.tmp 38) _)); refine dP ?_ (hX := rfl) (hv := o_indexB (scTOf rfl) rfl rfl uA (aa0 _) lA)) | ((with_reducible apply kQO (.indexAddr 39 (.tmp 38) _)); refine qP ?_ (o_indexB (scTOf rfl) rfl rfl uA (aa0 _) lA)) | ((with_reducible apply kP (.indexAddr 39 (.tmp 43) _)); refine sP ?_ (o_indexB (scTOf rfl) rfl rfl uB (aa0 _) lB)) | ((with_reducible apply kDP (.indexAddr 39 (.tmp 43) _)); refine dP ?_ (hX := rfl) (hv := o_indexB (scTOf rfl) rfl rfl uB (aa0 _) lB)) | ((with_reducible apply kQO (.indexAddr 39 (.tmp 43) _)); refine qP ?_ (o_indexB (scTOf rfl) rfl rfl uB (aa0 _) lB)) | ((with_reducible apply kP (.load 3 (.tmp 41))); refine sP ?_ (o_load rfl (ld_one (shTOf rfl) (own MMt gA)))) | ((with_reducible apply kDP (.load 3 (.tmp 41))); refine dP ?_ (hX := rfl) (hv := o_load rfl (ld_one (shTOf rfl) (own MMt gA)))) | ((with_reducible apply kQO (.load 3 (.tmp 41))); refine qP ?_ (o_load rfl (ld_one (shTOf rfl) (own MMt gA)))) | ((with_reducible apply kP (.load 3 (.tmp 46))); refine sP ?_ (o_load rfl (ld_one (shTOf rfl) (own MMt gB)))) | ((with_reducible apply kDP (.load 3 (.tmp 46))); refine dP ?_ (hX := rfl) (hv := o_load rfl (ld_one (shTOf rfl) (own MMt gB)))) | ((with_reducible apply kQO (.load 3 (.tmp 46))); refine qP ?_ (o_load rfl (ld_one (shTOf rfl) (own MMt gB)))) | (with_reducible first | refine c_seq ?_ | refine c_reg ?_ | refine c_region ?_ | refine c_block ?_ | refine c_skip ?_ | refine c_exit ?_ | refine c_ret ?_ | refine s_nil ?_ | refine x_then ?_ | refine x_then_exit ?_ | refine x_then_ret ?_ | refine x_block ?_ | refine x_block_ret ?_ | refine x_block_same ?_ | refine x_block_other (by first | rfl | decide) ?_ | refine q_nil ?_ | refine k_nil ?_) | ((with_reducible apply kN); first | refine stP ?_ | refine stI ?_ | refine st1 ?_ | refine stW ?_) | ((with_reducible apply kP (.alloc _)); refine sA (fun b => ?_)) | ((with_reducible apply kP (.box _ _)); first | refine sBA (fun b => ?_) | refine sB (fun b => ?_)) | ((with_reducible apply kP (.makeSlice _ _ _)); refine sMk (fun b => ?_)) | ((with_reducible apply kP _); refine sP ?_) | ((with_reducible apply kP _); refine sX ?_) | ((with_reducible apply kQP); refine qP ?_) | ((with_reducible apply kQP); refine qX ?_) | ((with_reducible apply kC); first | refine cT ?_ | refine cF ?_ | (refine cI (fun h => ?_) (fun h => ?_) <;> (try (exfalso; omega))) | refine cB (fun h => ?_) (fun h => ?_)) | ((with_reducible apply kR); refine cQ ?_))
        have e2 : natL ps.length G = natL ps.length (fun x => if x < 0 then rlS G (smA sm t).toNat (smB sm t).toNat x else G x) := natL_cong fun x _ => rfl
        rw [e2]
        refine c_loop (fun i : Nat => [(1, .pointer (some ⟨b1, 0, none⟩)), (5, .slice (some ⟨b5, 0, none⟩) ps.length ps.length), (32, .slice oS m cS), (33, iv m), (34, iv t), (9, iv (G (smA sm t).toNat : Nat)), (10, iv (G (smB sm t).toNat : Nat)), (49, iv ps.length), (50, iv i)]) (fun i => (b5, ivs (natL ps.length (fun x => if x < i then rlS G (smA sm t).toNat (smB sm t).toNat x else G x))) :: (b1, [.slice oP ps.length cP, .slice oS m cS, iv e]) :: hs) (fun i => i ≤ ps.length) (fun i => ps.length - i) 0 (Nat.zero_le _) (by repeat' first | trivial | rfl | apply And.intro) (.cons _ (.refl _)) ?_
        intro i hi
        by_cases hi' : i < ps.length
        · have gi := g0 (fun x => if x < i then rlS G (smA sm t).toNat (smB sm t).toNat x else G x) i hi'
          rw [if_neg (Nat.lt_irrefl i)] at gi
          have hl : i < (natL ps.length (fun x => if x < i then rlS G (smA sm t).toNat (smB sm t).toNat x else G x)).length := by rw [natL_len]; exact hi'
          by_cases he : G i = G (smA sm t).toNat
          · have hst : (natL ps.length (fun x => if x < i then rlS G (smA sm t).toNat (smB sm t).toNat x else G x)).set i ((G (smB sm t).toNat : Nat) : Int) = natL ps.length (fun x => if x < i + 1 then rlS G (smA sm t).toNat (smB sm t).toNat x else G x) := by
              rw [natL_set]
              refine natL_cong fun x _ => ?_
              by_cases h1 : x = i
              · rw [if_pos h1, if_pos (by omega), h1]; unfold rlS; rw [if_pos he]
              · rw [if_neg h1]
                by_cases h2 : x < i
                · rw [if_pos h2, if_pos (by omega)]
                · rw [if_neg h2, if_neg (by omega)]
            repeat' (first | ((with_reducible apply kP (.load 3 (.tmp 55))); refine sP ?_ (o_load rfl (ld_one (shTOf rfl) (own MMt gi)))) | ((with_reducible apply kDP (.load 3 (.tmp 55))); refine dP ?_ (hX := rfl) (hv := o_load rfl (ld_one (shTOf rfl) (own MMt gi)))) | ((with_reducible apply kQO (.load 3 (.tmp 55))); refine qP ?_ (o_load rfl (ld_one (shTOf rfl) (own MMt gi)))) | ((with_reducible apply kN); refine stI ?_ (hl := hl)) | (with_reducible first | refine c_seq ?_ | refine c_reg ?_ | refine c_region ?_ | refine c_block ?_ | refine c_skip ?_ | refine c_exit ?_ | refine c_ret ?_ | refine s_nil ?_ | refine x_then ?_ | refine x_then_exit ?_ | refine x_then_ret ?_ | refine x_block ?_ | refine x_block_ret ?_ | refine x_block_same ?_ | refine x_block_other (by first | rfl | decide) ?_ | refine q_nil ?_ | refine k_nil ?_) | ((with_reducible apply kN); first | refine stP ?_ | refine stI ?_ | refine st1 ?_ | refine stW ?_) | ((with_reducible apply kP (.alloc _)); refine sA (fun b => ?_)) | ((with_reducible apply kP (.box _ _)); first | refine sBA (fun b => ?_) | refine sB (fun b => ?_)) | ((with_reducible apply kP (.makeSlice _ _ _)); refine sMk (fun b => ?_)) | ((with_reducible apply kP _); refine sP ?_) | ((with_reducible apply kP _); refine sX ?_) | ((with_reducible apply kQP); refine qP ?_) | ((with_reducible apply kQP); refine qX ?_) | ((with_reducible apply kC); first | refine cT ?_ | refine cF ?_ | (refine cI (fun h => ?_) (fun h => ?_) <;> (try (exfalso; omega))) | refine cB (fun h => ?_) (fun h => ?_)) | ((with_reducible apply kR); refine cQ ?_))
            all_goals first
              | (rw [hst]; exact r_end (i + 1) hi' (by omega) (by repeat' first | trivial | rfl | apply And.intro) SCt)
              | (exfalso; omega)
              | trace_state
          · have hst : natL ps.length (fun x => if x < i then rlS G (smA sm t).toNat (smB sm t).toNat x else G x) = natL ps.length (fun x => if x < i + 1 then rlS G (smA sm t).toNat (smB sm t).toNat x else G x) := natL_cong fun x _ => by
              by_cases h1 : x = i
              · rw [if_neg (by omega), if_pos (by omega), h1]; unfold rlS; rw [if_neg he]
              · by_cases h2 : x < i
                · rw [if_pos h2, if_pos (by omega)]
                · rw [if_neg h2, if_neg (by omega)]
            repeat' (first | ((with_reducible apply kP (.load 3 (.tmp 55))); refine sP ?_ (o_load rfl (ld_one (shTOf rfl) (own MMt gi)))) | ((with_reducible apply kDP (.load 3 (.tmp 55))); refine dP ?_ (hX := rfl) (hv := o_load rfl (ld_one (shTOf rfl) (own MMt gi)))) | ((with_reducible apply kQO (.load 3 (.tmp 55))); refine qP ?_ (o_load rfl (ld_one (shTOf rfl) (own MMt gi)))) | (with_reducible first | refine c_seq ?_ | refine c_reg ?_ | refine c_region ?_ | refine c_block ?_ | refine c_skip ?_ | refine c_exit ?_ | refine c_ret ?_ | refine s_nil ?_ | refine x_then ?_ | refine x_then_exit ?_ | refine x_then_ret ?_ | refine x_block ?_ | refine x_block_ret ?_ | refine x_block_same ?_ | refine x_block_other (by first | rfl | decide) ?_ | refine q_nil ?_ | refine k_nil ?_) | ((with_reducible apply kN); first | refine stP ?_ | refine stI ?_ | refine st1 ?_ | refine stW ?_) | ((with_reducible apply kP (.alloc _)); refine sA (fun b => ?_)) | ((with_reducible apply kP (.box _ _)); first | refine sBA (fun b => ?_) | refine sB (fun b => ?_)) | ((with_reducible apply kP (.makeSlice _ _ _)); refine sMk (fun b => ?_)) | ((with_reducible apply kP _); refine sP ?_) | ((with_reducible apply kP _); refine sX ?_) | ((with_reducible apply kQP); refine qP ?_) | ((with_reducible apply kQP); refine qX ?_) | ((with_reducible apply kC); first | refine cT ?_ | refine cF ?_ | (refine cI (fun h => ?_) (fun h => ?_) <;> (try (exfalso; omega))) | refine cB (fun h => ?_) (fun h => ?_)) | ((with_reducible apply kR); refine cQ ?_))
            all_goals first
              | (rw [hst]; exact r_end (i + 1) hi' (by omega) (by repeat' first | trivial | rfl | apply And.intro) SCt)
              | (exfalso; omega)
              | trace_state
        · obtain rfl : ps.length = i := by omega
          have e3 : natL ps.length (fun x => if x < ps.length then rlS G (smA sm t).toNat (smB sm t).toNat x else G x) = natL ps.length (rlR (pcG (sdF ps) ps.length) (smL (sdF ps) sm (t + 1))) := by
            rw [hnx]
            exact natL_cong fun x hx => if_pos hx
          rw [e3]
          repeat' (first | (with_reducible first | refine c_seq ?_ | refine c_reg ?_ | refine c_region ?_ | refine c_block ?_ | refine c_skip ?_ | refine c_exit ?_ | refine c_ret ?_ | refine s_nil ?_ | refine x_then ?_ | refine x_then_exit ?_ | refine x_then_ret ?_ | refine x_block ?_ | refine x_block_ret ?_ | refine x_block_same ?_ | refine x_block_other (by first | rfl | decide) ?_ | refine q_nil ?_ | refine k_nil ?_) | ((with_reducible apply kN); first | refine stP ?_ | refine stI ?_ | refine st1 ?_ | refine stW ?_) | ((with_reducible apply kP (.alloc _)); refine sA (fun b => ?_)) | ((with_reducible apply kP (.box _ _)); first | refine sBA (fun b => ?_) | refine sB (fun b => ?_)) | ((with_reducible apply kP (.makeSlice _ _ _)); refine sMk (fun b => ?_)) | ((with_reducible apply kP _); refine sP ?_) | ((with_reducible apply kP _); refine sX ?_) | ((with_reducible apply kQP); refine qP ?_) | ((with_reducible apply kQP); refine qX ?_) | ((with_reducible apply kC); first | refine cT ?_ | refine cF ?_ | (refine cI (fun h => ?_) (fun h => ?_) <;> (try (exfalso; omega))) | refine cB (fun h => ?_) (fun h => ?_)) | ((with_reducible apply kR); refine cQ ?_))
          exact r_end (t + 1) ht' (by omega) (by repeat' first | trivial | rfl | apply And.intro) SCt
      · obtain rfl : m = t := by omega
        have ks := fn_sortI (B := B) (w0 := w0) (hs := (b1, [.slice oP ps.length cP, .slice oS m cS, iv e]) :: hs) Try.sortI (b := b5) (c := ps.length) (z := []) (natL_len ps.length (rlR (pcG (sdF ps) ps.length) (smL (sdF ps) sm m))) (by omega)
        have kc := fn_cpt (B := B) (w0 := w0) (hs := (b1, [.slice oP ps.length cP, .slice oS m cS, iv e]) :: hs) Try.cptI (b := b5) (c := ps.length) (z := []) (l := srtI (natL ps.length (rlR (pcG (sdF ps) ps.length) (smL (sdF ps) sm m)))) (n := ps.length) (by rw [srtI_len, natL_len]) (by omega) (Nat.le_refl _)
        rw [← List.append_nil (ivs (natL ps.length (rlR (pcG (sdF ps) ps.length) (smL (sdF ps) sm m))))]
        repeat' (first | ((with_reducible apply kF 90); refine s_mut1 (goTOf rfl) rfl (by with_reducible ((repeat (first | exact Take.head | exact Take.one | apply Take.tail | apply Take.app)); done)) (ks) (by first | decide | exact ltd rfl) ?_) | ((with_reducible apply kF 96); refine s_mut1 (goTOf rfl) rfl Take.one kc (by first | decide | exact ltd rfl) ?_) | (with_reducible first | refine c_seq ?_ | refine c_reg ?_ | refine c_region ?_ | refine c_block ?_ | refine c_skip ?_ | refine c_exit ?_ | refine c_ret ?_ | refine s_nil ?_ | refine x_then ?_ | refine x_then_exit ?_ | refine x_then_ret ?_ | refine x_block ?_ | refine x_block_ret ?_ | refine x_block_same ?_ | refine x_block_other (by first | rfl | decide) ?_ | refine q_nil ?_ | refine k_nil ?_) | ((with_reducible apply kN); first | refine stP ?_ | refine stI ?_ | refine st1 ?_ | refine stW ?_) | ((with_reducible apply kP (.alloc _)); refine sA (fun b => ?_)) | ((with_reducible apply kP (.box _ _)); first | refine sBA (fun b => ?_) | refine sB (fun b => ?_)) | ((with_reducible apply kP (.makeSlice _ _ _)); refine sMk (fun b => ?_)) | ((with_reducible apply kP _); refine sP ?_) | ((with_reducible apply kP _); refine sX ?_) | ((with_reducible apply kQP); refine qP ?_) | ((with_reducible apply kQP); refine qX ?_) | ((with_reducible apply kC); first | refine cT ?_ | refine cF ?_ | (refine cI (fun h => ?_) (fun h => ?_) <;> (try (exfalso; omega))) | refine cB (fun h => ?_) (fun h => ?_)) | ((with_reducible apply kR); refine cQ ?_))
        exact e_ret2 (hs' := hs) rfl rfl rfl ⟨rfl, rfl⟩ (.cons _ (.cons _ (.refl _)))
  · have hv' : vdE ps.length (sdF ps) (anF ps) m sm e ≠ 0 := hv
    have hv2 : vdC ps sm m e = vdE ps.length (sdF ps) (anF ps) m sm e := rfl
    rw [if_neg hv, hv2]
    generalize vdE ps.length (sdF ps) (anF ps) m sm e = z at *
    refine fn_enter Try.func71 rfl Try.ntmps71 (by simp) ?_
    repeat' (first | ((with_reducible apply kP (.box 25 _)); refine sBA (fun b1 => ?_)) | ((with_reducible apply kF 18); refine sC 18 (kv _ SBt) ?_) | (with_reducible first | refine c_seq ?_ | refine c_reg ?_ | refine c_region ?_ | refine c_block ?_ | refine c_skip ?_ | refine c_exit ?_ | refine c_ret ?_ | refine s_nil ?_ | refine x_then ?_ | refine x_then_exit ?_ | refine x_then_ret ?_ | refine x_block ?_ | refine x_block_ret ?_ | refine x_block_same ?_ | refine x_block_other (by first | rfl | decide) ?_ | refine q_nil ?_ | refine k_nil ?_) | ((with_reducible apply kN); first | refine stP ?_ | refine stI ?_ | refine st1 ?_ | refine stW ?_) | ((with_reducible apply kP (.alloc _)); refine sA (fun b => ?_)) | ((with_reducible apply kP (.box _ _)); first | refine sBA (fun b => ?_) | refine sB (fun b => ?_)) | ((with_reducible apply kP (.makeSlice _ _ _)); refine sMk (fun b => ?_)) | ((with_reducible apply kP _); refine sP ?_) | ((with_reducible apply kP _); refine sX ?_) | ((with_reducible apply kQP); refine qP ?_) | ((with_reducible apply kQP); refine qX ?_) | ((with_reducible apply kC); first | refine cT ?_ | refine cF ?_ | (refine cI (fun h => ?_) (fun h => ?_) <;> (try (exfalso; omega))) | refine cB (fun h => ?_) (fun h => ?_)) | ((with_reducible apply kR); refine cQ ?_))
    exact e_ret2 (hs' := hs) rfl rfl rfl ⟨rfl, rfl⟩ SCt
set_option maxRecDepth 100000 in
set_option maxHeartbeats 8000000 in
theorem k_Missing (ps : List Pc) (oP oS : Option Addr) (cP m cS : Nat) (sm : List Int) (e : Int) (hn : ps.length ≤ 100) (hsm : sm.length = m * 4) (hm : m ≤ 100) (B : Nat) (w0 : Wd) (hs : HS) (hC : CapM B w0 hs oP oS ps sm) :
    Fn Try.prog 47 #[.agg #[.slice oP ps.length cP, .slice oS m cS, iv e]] B w0 hs (fun v h => v = .tuple #[iv (if vdC ps sm m e = 0 then 360 * euC ps sm m else 0), iv (vdC ps sm m e)] ∧ h = hs) := by
  have k1 := fun hs' (h : hs.Sublist hs') => k_Points ps oP oS cP m cS sm e (by omega) hsm (by omega) B w0 hs' (hC.sub h)
  by_cases hv : vdC ps sm m e = 0
  · have V := vdC_0 hv
    have k1' : ∀ hs' (h : hs.Sublist hs'), Fn Try.prog 21 #[.agg #[.slice oP ps.length cP, .slice oS m cS, iv e]] B w0 hs' (fun v h => ∃ blk, (∃ oa c rs, v = .tuple #[.slice oa rs.length c, iv 0] ∧ rs.map (·.p) = ptsC ps sm m ∧ ∀ F, PrM B w0 (blk ++ F) oa rs) ∧ h = blk ++ hs') := fun hs' h => (k1 hs' h).mono (by
      rintro v h' (⟨h1, _⟩ | ⟨_, x, blk, hx, rfl, rfl⟩)
      · exact absurd hv h1
      · obtain ⟨oa, c, rs, rfl, g1, g2⟩ := hx.m (B := B) (w0 := w0) (hs := [])
        rw [List.append_nil] at g2
        exact ⟨blk, ⟨oa, c, rs, rfl, g1, fun F => g2.sub (List.sublist_append_left _ _)⟩, rfl⟩)
    clear k1
    rw [if_pos hv, hv, ← V.msC]
    have hpl := (ptsC_in V).1
    have hdf : ∀ {i : Nat} {p : Pt}, (ptsC ps sm m)[i]? = some p → -20000 ≤ p.df ∧ p.df ≤ 360 := fun {i p} h => by
      have h0 := List.mem_of_getElem? h
      have hN := V.n48
      unfold ptsC ptsL at h0
      obtain ⟨j, hj, rfl⟩ := List.mem_map.1 h0
      have h2 := asum_in (ag := agF ps) (l := clsL (nC ps) (nxC ps) (muC ps sm m) j) (fun x hx => agF_in V.ok (clsL_mem.1 hx).1)
      have h3 := List.length_filter_le (fun y => decide (rpE (ptE (nC ps) (nxC ps) (muC ps sm m)) y = rpE (ptE (nC ps) (nxC ps) (muC ps sm m)) j)) (List.range (nC ps))
      rw [List.length_range] at h3
      have h4 : (clsL (nC ps) (nxC ps) (muC ps sm m) j).length ≤ 48 := Nat.le_trans h3 hN
      show -20000 ≤ (if innB _ _ _ j = true then (360 : Int) else 180) - asum _ _ ∧ (if innB _ _ _ j = true then (360 : Int) else 180) - asum _ _ ≤ 360
      split <;> omega
    have hsum : ∀ i, i ≤ (ptsC ps sm m).length → -20000 * (i : Int) ≤ dsum ((ptsC ps sm m).take i) ∧ dsum ((ptsC ps sm m).take i) ≤ 360 * (i : Int) := by
      intro i
      induction i with
      | zero => intro _; simp [dsum]
      | succ i ih =>
        intro hi
        have h1 := ih (by omega)
        have h2 : (ptsC ps sm m)[i]? = some (ptsC ps sm m)[i] := List.getElem?_eq_getElem (by omega)
        have h3 := hdf h2
        rw [dsum_take h2]; omega
    generalize ptsC ps sm m = PS at *
    refine fn_enter Try.func47 rfl Try.ntmps47 (by simp) ?_
    repeat' (first | ((with_reducible apply kP (.box 25 _)); refine sBA (fun b1 => ?_)) | ((with_reducible apply kF 21); refine sR 21 (k1' _ SBt) ?_; rintro v8 h8 ⟨blk8, ⟨o8, c8, rs, rfl, g8, m8⟩, rfl⟩) | (with_reducible first | refine c_seq ?_ | refine c_reg ?_ | refine c_region ?_ | refine c_block ?_ | refine c_skip ?_ | refine c_exit ?_ | refine c_ret ?_ | refine s_nil ?_ | refine x_then ?_ | refine x_then_exit ?_ | refine x_then_ret ?_ | refine x_block ?_ | refine x_block_ret ?_ | refine x_block_same ?_ | refine x_block_other (by first | rfl | decide) ?_ | refine q_nil ?_ | refine k_nil ?_) | ((with_reducible apply kN); first | refine stP ?_ | refine stI ?_ | refine st1 ?_ | refine stW ?_) | ((with_reducible apply kP (.alloc _)); refine sA (fun b => ?_)) | ((with_reducible apply kP (.box _ _)); first | refine sBA (fun b => ?_) | refine sB (fun b => ?_)) | ((with_reducible apply kP _); refine sP ?_) | ((with_reducible apply kP _); refine sX ?_) | ((with_reducible apply kC); first | refine cT ?_ | refine cF ?_ | (refine cI (fun h => ?_) (fun h => ?_) <;> (try (exfalso; omega))) | refine cB (fun h => ?_) (fun h => ?_)))
    have m8 := m8 ((b1, [.slice oP ps.length cP, .slice oS m cS, iv e]) :: hs)
    have hrn : rs.length = PS.length := by have := congrArg List.length g8; simpa using this
    refine c_loop (fun i : Nat => [(6, iv (dsum (PS.take i))), (17, .slice o8 rs.length c8), (18, iv rs.length), (19, iv i)]) (fun _ => blk8 ++ ((b1, [.slice oP ps.length cP, .slice oS m cS, iv e]) :: hs)) (fun i => i ≤ rs.length) (fun i => rs.length - i) 0 (Nat.zero_le _) (by repeat' first | trivial | rfl | apply And.intro) (.refl _) ?_
    intro i hi
    by_cases hi' : i < rs.length
    · have hpp : PS[i]? = some (prA rs i).p := by
        rw [← g8, List.getElem?_map, List.getElem?_eq_getElem hi']
        unfold prA
        rw [List.getD_eq_getElem?_getD, List.getElem?_eq_getElem hi']
        rfl
      have hdp := hdf hpp
      have hsi := hsum i (by omega)
      have htk := dsum_take hpp
      have i8 := m8.isS hi'
      have hc8 := fun hs' (h : (blk8 ++ (b1, [.slice oP ps.length cP, .slice oS m cS, iv e]) :: hs).Sublist hs') => m8.c h hi'
      clear hpp hdf hsum
      generalize prA rs i = r at *
      have hld : ∀ hs' (h : (blk8 ++ (b1, [.slice oP ps.length cP, .slice oS m cS, iv e]) :: hs).Sublist hs'), Ld Try.prog B w0 hs' 44 (ea o8 (i * 4)) (.agg #[.slice r.oa r.p.cs.length r.c, .bool r.p.inn, iv r.p.an, iv r.p.df]) := fun hs' h => by
        obtain ⟨q0, q1, q2, q3⟩ := hc8 hs' h
        exact ld_4 (shTOf rfl) (by rw [ea_ea i8]; exact q0) (by rw [ea_ea i8]; exact q1) (by rw [ea_ea i8]; exact q2) (by rw [ea_ea i8]; exact q3)
      repeat' (first | ((with_reducible apply kP (.load 44 _)); refine sP ?_ (o_load rfl (hld _ SBt))) | ((with_reducible apply kDP (.load 44 _)); refine dP ?_ (hX := rfl) (hv := o_load rfl (hld _ SBt))) | ((with_reducible apply kQO (.load 44 _)); refine qP ?_ (o_load rfl (hld _ SBt))) | ((with_reducible apply kP (.alloc 44)); refine sA (fun b6 => ?_)) | ((with_reducible apply kN); refine stW ?_ (hf := flat_cons rfl (flat_cons rfl (flat_cons rfl (flat1 rfl))))) | (with_reducible first | refine c_seq ?_ | refine c_reg ?_ | refine c_region ?_ | refine c_block ?_ | refine c_skip ?_ | refine c_exit ?_ | refine c_ret ?_ | refine s_nil ?_ | refine x_then ?_ | refine x_then_exit ?_ | refine x_then_ret ?_ | refine x_block ?_ | refine x_block_ret ?_ | refine x_block_same ?_ | refine x_block_other (by first | rfl | decide) ?_ | refine q_nil ?_ | refine k_nil ?_) | ((with_reducible apply kN); first | refine stP ?_ | refine stI ?_ | refine st1 ?_ | refine stW ?_) | ((with_reducible apply kP (.alloc _)); refine sA (fun b => ?_)) | ((with_reducible apply kP (.box _ _)); first | refine sBA (fun b => ?_) | refine sB (fun b => ?_)) | ((with_reducible apply kP _); refine sP ?_) | ((with_reducible apply kP _); refine sX ?_) | ((with_reducible apply kC); first | refine cT ?_ | refine cF ?_ | (refine cI (fun h => ?_) (fun h => ?_) <;> (try (exfalso; omega))) | refine cB (fun h => ?_) (fun h => ?_)))
      exact r_end (i + 1) hi' (by omega) (by repeat' first | trivial | rfl | apply And.intro | (rw [htk]; rfl)) SCt
    · obtain rfl : rs.length = i := by omega
      rw [hrn, List.take_length]
      repeat' (first | (with_reducible first | refine c_seq ?_ | refine c_reg ?_ | refine c_region ?_ | refine c_block ?_ | refine c_skip ?_ | refine c_exit ?_ | refine c_ret ?_ | refine s_nil ?_ | refine x_then ?_ | refine x_then_exit ?_ | refine x_then_ret ?_ | refine x_block ?_ | refine x_block_ret ?_ | refine x_block_same ?_ | refine x_block_other (by first | rfl | decide) ?_ | refine q_nil ?_ | refine k_nil ?_) | ((with_reducible apply kN); first | refine stP ?_ | refine stI ?_ | refine st1 ?_ | refine stW ?_) | ((with_reducible apply kP (.alloc _)); refine sA (fun b => ?_)) | ((with_reducible apply kP (.box _ _)); first | refine sBA (fun b => ?_) | refine sB (fun b => ?_)) | ((with_reducible apply kP _); refine sP ?_) | ((with_reducible apply kP _); refine sX ?_) | ((with_reducible apply kC); first | refine cT ?_ | refine cF ?_ | (refine cI (fun h => ?_) (fun h => ?_) <;> (try (exfalso; omega))) | refine cB (fun h => ?_) (fun h => ?_)))
      exact e_ret2 (hs' := hs) rfl rfl rfl ⟨rfl, rfl⟩ (sbA (.cons _ (.refl _)))
  · have k1' : ∀ hs' (h : hs.Sublist hs'), Fn Try.prog 21 #[.agg #[.slice oP ps.length cP, .slice oS m cS, iv e]] B w0 hs' (fun v h => v = .tuple #[.slice none 0 0, iv (vdC ps sm m e)] ∧ h = hs') := fun hs' h => (k1 hs' h).mono (by
      rintro v h' (⟨_, h2, h3⟩ | ⟨h1, _⟩)
      · exact ⟨h2, h3⟩
      · exact absurd h1 hv)
    clear k1
    rw [if_neg hv]
    generalize vdC ps sm m e = z at *
    refine fn_enter Try.func47 rfl Try.ntmps47 (by simp) ?_
    repeat' (first | ((with_reducible apply kP (.box 25 _)); refine sBA (fun b1 => ?_)) | ((with_reducible apply kF 21); refine sC 21 (k1' _ SBt) ?_) | (with_reducible first | refine c_seq ?_ | refine c_reg ?_ | refine c_region ?_ | refine c_block ?_ | refine c_skip ?_ | refine c_exit ?_ | refine c_ret ?_ | refine s_nil ?_ | refine x_then ?_ | refine x_then_exit ?_ | refine x_then_ret ?_ | refine x_block ?_ | refine x_block_ret ?_ | refine x_block_same ?_ | refine x_block_other (by first | rfl | decide) ?_ | refine q_nil ?_ | refine k_nil ?_) | ((with_reducible apply kN); first | refine stP ?_ | refine stI ?_ | refine st1 ?_ | refine stW ?_) | ((with_reducible apply kP (.alloc _)); refine sA (fun b => ?_)) | ((with_reducible apply kP (.box _ _)); first | refine sBA (fun b => ?_) | refine sB (fun b => ?_)) | ((with_reducible apply kP _); refine sP ?_) | ((with_reducible apply kP _); refine sX ?_) | ((with_reducible apply kC); first | refine cT ?_ | refine cF ?_ | (refine cI (fun h => ?_) (fun h => ?_) <;> (try (exfalso; omega))) | refine cB (fun h => ?_) (fun h => ?_)))
    exact e_ret2 (hs' := hs) rfl rfl rfl ⟨rfl, rfl⟩ SCt
set_option maxRecDepth 100000 in
set_option maxHeartbeats 8000000 in
theorem k_Handles (ps : List Pc) (oP oS : Option Addr) (cP m cS : Nat) (sm : List Int) (e : Int) (hn : ps.length ≤ 100) (hsm : sm.length = m * 4) (hm : m ≤ 100) (B : Nat) (w0 : Wd) (hs : HS) (hC : CapM B w0 hs oP oS ps sm) :
    Fn Try.prog 72 #[.agg #[.slice oP ps.length cP, .slice oS m cS, iv e]] B w0 hs (fun v h => v = .tuple #[iv (if vdC ps sm m e = 0 then haC ps sm m else 0), iv (vdC ps sm m e)] ∧ h = hs) := by
  have kp := fun hs' (h : hs.Sublist hs') => k_Parts ps oP oS cP m cS sm e hn hsm hm B w0 hs' (hC.sub h)
  have ke := fun hs' (h : hs.Sublist hs') => k_Euler ps oP oS cP m cS sm e hn hsm hm B w0 hs' (hC.sub h)
  by_cases hv : vdC ps sm m e = 0
  · have V := vdC_0 hv
    have ks := fun hs' (h : hs.Sublist hs') => k_sew ps oP oS cP m cS sm e V.n8 V.n1 hsm hm V.ok V.se B w0 hs' (hC.sub h)
    rw [hv, if_pos rfl] at kp ke
    rw [if_pos hv, hv]
    have hp := paC_in V
    have he := euC_in V hm
    have hl := V.lpn
    have h0 : 0 ≤ 2 * (paC ps sm m : Int) - euC ps sm m - ((lpsC ps sm m).length : Int) := by
      obtain ⟨g, hg⟩ := V.hd
      rw [V.sum hg]; omega
    unfold haC
    generalize hpa : (paC ps sm m : Int) = pa at *
    generalize euC ps sm m = eu at *
    have hpa2 : 0 ≤ pa ∧ pa ≤ 8 := by omega
    refine fn_enter Try.func72 rfl Try.ntmps72 (by simp) ?_
    repeat' (first | ((with_reducible apply kP (.box 25 _)); refine sBA (fun b1 => ?_)) | ((with_reducible apply kF 71); refine sC 71 (kp _ SBt) ?_) | ((with_reducible apply kF 51); refine sC 51 (ke _ SBt) ?_) | ((with_reducible apply kF 61); refine sR 61 (ks _ SBt) ?_; rintro v7 h7 ⟨blk7, ⟨s, k1, k2, k3, rfl, q1, q2, q3, q4, hR, rfl⟩, rfl⟩) | (with_reducible first | refine c_seq ?_ | refine c_reg ?_ | refine c_region ?_ | refine c_block ?_ | refine c_skip ?_ | refine c_exit ?_ | refine c_ret ?_ | refine s_nil ?_ | refine x_then ?_ | refine x_then_exit ?_ | refine x_then_ret ?_ | refine x_block ?_ | refine x_block_ret ?_ | refine x_block_same ?_ | refine x_block_other (by first | rfl | decide) ?_ | refine q_nil ?_ | refine k_nil ?_) | ((with_reducible apply kP (.box _ _)); first | refine sBA (fun b => ?_) | refine sB (fun b => ?_)) | ((with_reducible apply kP _); refine sP ?_) | ((with_reducible apply kP _); refine sX ?_) | ((with_reducible apply kC); first | refine cT ?_ | refine cF ?_ | (refine cI (fun h => ?_) (fun h => ?_) <;> (try (exfalso; omega))) | refine cB (fun h => ?_) (fun h => ?_)))
    subst q1 q2 q3 q4
    have hA := SewR.at (hC.sub (hs' := (b1, [.slice s.oP ps.length cP, .slice s.oS s.nS cS, iv s.e]) :: hs) (.cons _ (.refl _))) hR
    have kl : Fn Try.prog 65 #[.pointer (some ⟨s.b, 0, none⟩)] B w0 _ (fun v h => ∃ blk, (∃ oa c, v = .slice oa (lpsC ps sm s.nS).length c) ∧ h = blk ++ _) := (k_loops s ps _ V.n48 V.net _ _ _ hA).mono (by
      rintro v h ⟨blk, hx, rfl⟩
      obtain ⟨oa, c, rfl⟩ := LrR.v hx
      exact ⟨blk, ⟨oa, c, by rw [List.length_map]; rfl⟩, rfl⟩)
    repeat' (first | ((with_reducible apply kF 65); refine sR 65 (kl) ?_; rintro v8 h8 ⟨blk8, ⟨oa8, c8, rfl⟩, rfl⟩) | (with_reducible first | refine c_seq ?_ | refine c_reg ?_ | refine c_region ?_ | refine c_block ?_ | refine c_skip ?_ | refine c_exit ?_ | refine c_ret ?_ | refine s_nil ?_ | refine x_then ?_ | refine x_then_exit ?_ | refine x_then_ret ?_ | refine x_block ?_ | refine x_block_ret ?_ | refine x_block_same ?_ | refine x_block_other (by first | rfl | decide) ?_ | refine q_nil ?_ | refine k_nil ?_) | ((with_reducible apply kP (.box _ _)); first | refine sBA (fun b => ?_) | refine sB (fun b => ?_)) | ((with_reducible apply kP _); refine sP ?_) | ((with_reducible apply kP _); refine sX ?_) | ((with_reducible apply kC); first | refine cT ?_ | refine cF ?_ | (refine cI (fun h => ?_) (fun h => ?_) <;> (try (exfalso; omega))) | refine cB (fun h => ?_) (fun h => ?_)))
    exact e_ret2 (hs' := hs) rfl rfl rfl ⟨rfl, rfl⟩ (sbA (sbA (.cons _ (.refl _))))
  · rw [if_neg hv] at kp ⊢
    generalize vdC ps sm m e = z at *
    refine fn_enter Try.func72 rfl Try.ntmps72 (by simp) ?_
    repeat' (first | ((with_reducible apply kP (.box 25 _)); refine sBA (fun b1 => ?_)) | ((with_reducible apply kF 71); refine sC 71 (kp _ SBt) ?_) | (with_reducible first | refine c_seq ?_ | refine c_reg ?_ | refine c_region ?_ | refine c_block ?_ | refine c_skip ?_ | refine c_exit ?_ | refine c_ret ?_ | refine s_nil ?_ | refine x_then ?_ | refine x_then_exit ?_ | refine x_then_ret ?_ | refine x_block ?_ | refine x_block_ret ?_ | refine x_block_same ?_ | refine x_block_other (by first | rfl | decide) ?_ | refine q_nil ?_ | refine k_nil ?_) | ((with_reducible apply kP (.box _ _)); first | refine sBA (fun b => ?_) | refine sB (fun b => ?_)) | ((with_reducible apply kP _); refine sP ?_) | ((with_reducible apply kP _); refine sX ?_) | ((with_reducible apply kC); first | refine cT ?_ | refine cF ?_ | (refine cI (fun h => ?_) (fun h => ?_) <;> (try (exfalso; omega))) | refine cB (fun h => ?_) (fun h => ?_)))
    exact e_ret2 (hs' := hs) rfl rfl rfl ⟨rfl, rfl⟩ SCt
/-- The measures. -/
def msV (ps : List Pc) (sm : List Int) (m : Nat) (e : Int) : List Int := [if vdC ps sm m e = 0 then (paC ps sm m : Int) else 0, if vdC ps sm m e = 0 then euC ps sm m else 0, if vdC ps sm m e = 0 then 360 * euC ps sm m else 0, if vdC ps sm m e = 0 then haC ps sm m else 0, vdC ps sm m e]
set_option maxRecDepth 100000 in
set_option maxHeartbeats 8000000 in
theorem k_measure (ps : List Pc) (oP oS : Option Addr) (cP m cS : Nat) (sm : List Int) (e : Int) (hn : ps.length ≤ 100) (hsm : sm.length = m * 4) (hm : m ≤ 100) (B : Nat) (w0 : Wd) (hs : HS) (hC : CapM B w0 hs oP oS ps sm) :
    Fn Try.prog 38 #[.agg #[.slice oP ps.length cP, .slice oS m cS, iv e]] B w0 hs (fun v h => v = .agg (ivs (msV ps sm m e)).toArray ∧ h = hs) := by
  have k1 := fun hs' (h : hs.Sublist hs') => k_Parts ps oP oS cP m cS sm e hn hsm hm B w0 hs' (hC.sub h)
  have k2 := fun hs' (h : hs.Sublist hs') => k_Euler ps oP oS cP m cS sm e hn hsm hm B w0 hs' (hC.sub h)
  have k3 := fun hs' (h : hs.Sublist hs') => k_Missing ps oP oS cP m cS sm e hn hsm hm B w0 hs' (hC.sub h)
  have k4 := fun hs' (h : hs.Sublist hs') => k_Handles ps oP oS cP m cS sm e hn hsm hm B w0 hs' (hC.sub h)
  unfold msV
  generalize (if vdC ps sm m e = 0 then (paC ps sm m : Int) else 0) = pa at *
  generalize (if vdC ps sm m e = 0 then 360 * euC ps sm m else 0) = ms at *
  generalize (if vdC ps sm m e = 0 then euC ps sm m else 0) = eu at *
  generalize (if vdC ps sm m e = 0 then haC ps sm m else 0) = ha at *
  generalize vdC ps sm m e = z at *
  refine fn_enter Try.func38 rfl Try.ntmps38 (by simp) ?_
  repeat' (first | ((with_reducible apply kP (.box 25 _)); refine sBA (fun b1 => ?_)) | ((with_reducible apply kP (.alloc 62)); refine sA (fun b3 => ?_)) | ((with_reducible apply kF 71); refine sC 71 (k1 _ SBt) ?_) | ((with_reducible apply kF 51); refine sC 51 (k2 _ SBt) ?_) | ((with_reducible apply kF 47); refine sC 47 (k3 _ SBt) ?_) | ((with_reducible apply kF 72); refine sC 72 (k4 _ SBt) ?_) | ((with_reducible apply kN); first | refine stC ?_ | refine stW ?_ (hf := flat_cons rfl (flat_cons rfl (flat3 rfl rfl rfl)))) | (with_reducible first | refine c_seq ?_ | refine c_reg ?_ | refine c_region ?_ | refine c_block ?_ | refine c_skip ?_ | refine c_exit ?_ | refine c_ret ?_ | refine s_nil ?_ | refine x_then ?_ | refine x_then_exit ?_ | refine x_then_ret ?_ | refine x_block ?_ | refine x_block_ret ?_ | refine x_block_same ?_ | refine x_block_other (by first | rfl | decide) ?_ | refine q_nil ?_ | refine k_nil ?_) | ((with_reducible apply kG); first | refine gY1 ?_ | refine gN1 ?_ | refine gU1 ?_ | (refine gD1 (fun h => ?_) (fun h => ?_) <;> (try (exfalso; omega))) | refine gB1 (fun h => ?_) (fun h => ?_)) | ((with_reducible apply kN); first | refine stP ?_ | refine stI ?_ | refine st1 ?_ | refine stW ?_) | ((with_reducible apply kP (.alloc _)); refine sA (fun b => ?_)) | ((with_reducible apply kP (.box _ _)); first | refine sBA (fun b => ?_) | refine sB (fun b => ?_)) | ((with_reducible apply kP _); refine sP ?_) | ((with_reducible apply kP _); refine sX ?_) | ((with_reducible apply kC); first | refine cT ?_ | refine cF ?_ | (refine cI (fun h => ?_) (fun h => ?_) <;> (try (exfalso; omega))) | refine cB (fun h => ?_) (fun h => ?_)))
  all_goals first
    | exact e_ret1 (hs' := hs) rfl ⟨_, rfl, ld_whole (shTOf rfl) MDt rfl⟩ ⟨rfl, rfl⟩ SCt
    | (exfalso; omega)
    | trace_state
end Go.Proofs.Ytnbickholedckaa
