/- Dart of the reference. -/
import Derived.Test.YtnbickholedckaaMC58
namespace Go.Proofs.Ytnbickholedckaa
open Go.RowKit
attribute [local irreducible] OpF Ld CellAt Sl Sv pcA usP
set_option maxRecDepth 100000 in
set_option maxHeartbeats 8000000 in
theorem r_Dart (ps : List Pc) (oP oS : Option Addr) (cP m cS : Nat) (sm : List Int) (e x d : Int) (hn : ps.length ≤ 100) (hxx : -9223372036854775808 ≤ x ∧ x ≤ 9223372036854775807) (hsm : sm.length = m * 4) (hm : m ≤ 100) (B : Nat) (w0 : Wd) (hs : HS) (hC : CapM B w0 hs oP oS ps sm) :
    Fn Try.prog 49 #[.agg #[.slice oP ps.length cP, .slice oS m cS, iv e], iv x, iv d] B w0 hs (CeR (dtE ps sm m e x d) (dtQ ps x.toNat d) sm m e hs) := by
  have kv := fun hs' (h : hs.Sublist hs') => r_Validate ps oP oS cP m cS sm e hn hsm hm B w0 hs' (hC.sub h)
  unfold CeR dtE
  by_cases hv : vdC ps sm m e = 0
  · have V := vdC_0 hv
    rw [if_neg (fun h => h hv)]
    have hv' : vdE ps.length (sdF ps) (anF ps) m sm e = 0 := hv
    rw [hv'] at kv
    have hN := V.n48
    have kc := fun hs' (h : hs.Sublist hs') => r_CopyC ps oP oS cP m cS sm e (by omega) (vdC_ok V) hsm (by omega) B w0 hs' (hC.sub h)
    have hP8 := V.n8
    have hcl := fun i (hi : i < ps.length) hs' (h : hs.Sublist hs') => hC.c0 h hi
    by_cases hx : 0 ≤ x ∧ x < (nC ps : Int)
    · rw [if_neg (fun h => h hx)]
      obtain ⟨x, rfl⟩ : ∃ y : Nat, x = (y : Int) := ⟨x.toNat, by omega⟩
      have hx' : x < fsN (sdF ps) ps.length := by have := hx.2; unfold nC at this; omega
      rw [show ((x : Nat) : Int).toNat = x by omega]
      obtain ⟨p, f, r, q, D, hQ, hA1, hA2⟩ := dtX V (show x < nC ps from hx')
      have hi1 := (V.ok p D.hp).2.2.1 r D.hr
      have hi2 := (V.ok p D.hp).2.2.1 q D.hq
      rw [hQ, hA1, hA2]
      have hsd1 : 1 ≤ (pcA ps p).an.getD r 0 ∧ (pcA ps p).an.getD r 0 ≤ 359 := hi1.2
      have hsd2 : 1 ≤ (pcA ps p).an.getD q 0 ∧ (pcA ps p).an.getD q 0 ≤ 359 := hi2.2
      have hxr := D.xr
      have hff := D.hf
      have hkk := D.hk
      have haa := D.ha
      have hpp := D.hp
      have hrr := D.hr
      have hqq := D.hq
      have hDff := D.ff
      have hne : r ≠ q := by rw [D.he]; split <;> omega
      have hq5 : ((r : Int) + 1) % ((pcA ps p).sd.length : Int) = (q : Int) := by
        rw [show (r : Int) + 1 = ((r + 1 : Nat) : Int) by omega, ← Int.natCast_emod, D.he]
        split
        · rename_i h; rw [h, Nat.mod_self]
        · rw [Nat.mod_eq_of_lt (by omega)]
      have gr1 : ∀ z : List Value, (ivs (pcA ps p).an ++ z)[r]? = some (iv ((pcA ps p).an.getD r 0)) := fun z => by
        rw [List.getElem?_append_left (by rw [ivs_length]; omega)]; exact ivs_get (by omega)
      have gq0 : ∀ z : List Value, (ivs (pcA ps p).an ++ z)[q]? = some (iv ((pcA ps p).an.getD q 0)) := fun z => by
        rw [List.getElem?_append_left (by rw [ivs_length]; omega)]; exact ivs_get (by omega)
      have gq1 : ∀ (z : List Value) v, ((ivs (pcA ps p).an ++ z).set r v)[q]? = some (iv ((pcA ps p).an.getD q 0)) := fun z v => by
        rw [List.getElem?_set_ne hne, List.getElem?_append_left (by rw [ivs_length]; omega)]; exact ivs_get (by omega)
      have gl1 : ∀ z : List Value, r < (ivs (pcA ps p).an ++ z).length := fun z => by rw [List.length_append, ivs_length]; omega
      have gl2 : ∀ (z : List Value) v, q < ((ivs (pcA ps p).an ++ z).set r v).length := fun z v => by rw [List.length_set, List.length_append, ivs_length]; omega
      have gg : ∀ (z : List Value) (v w : Int), ((ivs (pcA ps p).an ++ z).set r (iv v)).set q (iv w) = ivs (((pcA ps p).an.set r v).set q w) ++ z := fun z v w => by
        rw [ivs_setz _ (by omega), ivs_setz _ (by rw [List.length_set]; omega)]
      refine fn_enter Try.func49 rfl Try.ntmps49 (by simp) ?_
      repeat' (first | ((with_reducible apply kP (.box 25 _)); refine sBA (fun b2 => ?_)) | ((with_reducible apply kP (.alloc 25)); refine sA (fun b4 => ?_)) | ((with_reducible apply kF 19); refine sC 19 (kv _ SBt) ?_) | ((with_reducible apply kN); refine stW ?_ (hf := flat_cons rfl (flat_cons rfl (flat1 rfl)))) | ((with_reducible apply kF 17); refine sR 17 (kc _ SBt) ?_; rintro v7 h7 ⟨blk7, hcp, rfl⟩; obtain ⟨oP', cP', oS', cS', cb, bb, z, F1, F2, rfl, rfl, iP, hcl', hcp'⟩ := hcp.atA D.hp (by omega); rw [List.append_assoc, List.cons_append]) | (with_reducible first | refine c_seq ?_ | refine c_reg ?_ | refine c_region ?_ | refine c_block ?_ | refine c_skip ?_ | refine c_exit ?_ | refine c_ret ?_ | refine s_nil ?_ | refine x_then ?_ | refine x_then_exit ?_ | refine x_then_ret ?_ | refine x_block ?_ | refine x_block_ret ?_ | refine x_block_same ?_ | refine x_block_other (by first | rfl | decide) ?_ | refine q_nil ?_ | refine k_nil ?_) | ((with_reducible apply kG); first | refine gY1 ?_ | refine gN1 ?_ | refine gU1 ?_ | (refine gD1 (fun h => ?_) (fun h => ?_) <;> (try (exfalso; omega))) | refine gB1 (fun h => ?_) (fun h => ?_)) | ((with_reducible apply kN); first | refine stP ?_ | refine stI ?_ | refine st1 ?_ | refine stW ?_) | ((with_reducible apply kP (.alloc _)); refine sA (fun b => ?_)) | ((with_reducible apply kP (.box _ _)); first | refine sBA (fun b => ?_) | refine sB (fun b => ?_)) | ((with_reducible apply kP _); refine sP ?_) | ((with_reducible apply kP _); refine sX ?_) | ((with_reducible apply kC); first | refine cT ?_ | refine cF ?_ | (refine cI (fun h => ?_) (fun h => ?_) <;> (try (exfalso; omega))) | refine cB (fun h => ?_) (fun h => ?_)))
      rename_i BB6
      refine f_eq (t := 10) rfl (show iv (x : Int) = iv ((x : Int) - (fsN (sdF ps) 0 : Nat)) by rw [show fsN (sdF ps) 0 = 0 from rfl]; congr 1) ?_
      refine c_loop (fun i : Nat => [(2, iv d), (3, .pointer (some ⟨b2, 0, none⟩)), (6, .pointer (some ⟨BB6, 0, none⟩)), (7, iv 0), (9, .pointer (some ⟨b4, 0, none⟩)), (10, iv ((x : Int) - (fsN (sdF ps) i : Nat))), (11, iv i)])
        (fun _ => (b4, [.slice oP' ps.length cP', .slice oS' m cS', iv e]) :: (F1 ++ ((bb, ivs (pcA ps p).an ++ z) :: (F2 ++ ((BB6, [.slice none 0 0, .slice none 0 0, iv 0]) :: (b2, [.slice oP ps.length cP, .slice oS m cS, iv e]) :: hs))))) (fun i => i ≤ p) (fun i => p - i) 0 (Nat.zero_le _) (by repeat' first | trivial | rfl | apply And.intro) (.refl _) ?_
      intro i hi
      have hlt9 : i < ps.length := by omega
      have iO := hC.isS hlt9
      have hm1 := fsN_mono (sd := sdF ps) (p := i) (q := p) hi
      have e2 : fsN (sdF ps) (i + 1) = fsN (sdF ps) i + (pcA ps i).sd.length := rfl
      have hli := (V.ok i hlt9).1
      have hli2 : (sdF ps i).length = (pcA ps i).sd.length := rfl
      by_cases hip : i = p
      · subst hip
        have hj1 : (x : Int) - (fsN (sdF ps) i : Nat) = (r : Int) := by omega
        rw [hj1]
        repeat' (first | ((with_reducible apply kP (.fieldAddr _ _ _)); refine sP ?_ (o_fieldE rfl (by assumption) (foTOf2 rfl rfl) (by with_reducible first | exact bb0 _ | exact bb1 _ | exact bb2 _ _))) | ((with_reducible apply kDP (.fieldAddr _ _ _)); refine dP ?_ (hX := rfl) (hv := o_fieldE rfl (by assumption) (foTOf2 rfl rfl) (by with_reducible first | exact bb0 _ | exact bb1 _ | exact bb2 _ _))) | ((with_reducible apply kQO (.fieldAddr _ _ _)); refine qP ?_ (o_fieldE rfl (by assumption) (foTOf2 rfl rfl) (by with_reducible first | exact bb0 _ | exact bb1 _ | exact bb2 _ _))) | ((with_reducible apply kP (.load 39 (.tmp 34))); refine sP ?_ (o_load rfl (ld_one (shTOf rfl) (hcl _ hlt9 _ SBt)))) | ((with_reducible apply kDP (.load 39 (.tmp 34))); refine dP ?_ (hX := rfl) (hv := o_load rfl (ld_one (shTOf rfl) (hcl _ hlt9 _ SBt)))) | ((with_reducible apply kQO (.load 39 (.tmp 34))); refine qP ?_ (o_load rfl (ld_one (shTOf rfl) (hcl _ hlt9 _ SBt)))) | ((with_reducible apply kP (.load 39 (.tmp 48))); refine sP ?_ (o_load rfl (ld_one (shTOf rfl) (hcl' B w0 _ (.cons _ sbL))))) | ((with_reducible apply kDP (.load 39 (.tmp 48))); refine dP ?_ (hX := rfl) (hv := o_load rfl (ld_one (shTOf rfl) (hcl' B w0 _ (.cons _ sbL))))) | ((with_reducible apply kQO (.load 39 (.tmp 48))); refine qP ?_ (o_load rfl (ld_one (shTOf rfl) (hcl' B w0 _ (.cons _ sbL))))) | ((with_reducible apply kP (.indexAddr 39 (.tmp 66) _)); refine sP ?_ (o_indexB (scTOf rfl) rfl rfl hq5 (aa0 _) (by omega))) | ((with_reducible apply kDP (.indexAddr 39 (.tmp 66) _)); refine dP ?_ (hX := rfl) (hv := o_indexB (scTOf rfl) rfl rfl hq5 (aa0 _) (by omega))) | ((with_reducible apply kQO (.indexAddr 39 (.tmp 66) _)); refine qP ?_ (o_indexB (scTOf rfl) rfl rfl hq5 (aa0 _) (by omega))) | ((with_reducible apply kP (.indexAddr 39 (.tmp 85) _)); refine sP ?_ (o_indexB (scTOf rfl) rfl rfl hq5 (aa0 _) (by omega))) | ((with_reducible apply kDP (.indexAddr 39 (.tmp 85) _)); refine dP ?_ (hX := rfl) (hv := o_indexB (scTOf rfl) rfl rfl hq5 (aa0 _) (by omega))) | ((with_reducible apply kQO (.indexAddr 39 (.tmp 85) _)); refine qP ?_ (o_indexB (scTOf rfl) rfl rfl hq5 (aa0 _) (by omega))) | ((with_reducible apply kP (.load 3 (.tmp 59))); refine sP ?_ (o_load rfl (ld_one (shTOf rfl) (own MMt (gr1 _))))) | ((with_reducible apply kDP (.load 3 (.tmp 59))); refine dP ?_ (hX := rfl) (hv := o_load rfl (ld_one (shTOf rfl) (own MMt (gr1 _))))) | ((with_reducible apply kQO (.load 3 (.tmp 59))); refine qP ?_ (o_load rfl (ld_one (shTOf rfl) (own MMt (gr1 _))))) | ((with_reducible apply kP (.load 3 (.tmp 71))); refine sP ?_ (o_load rfl (ld_one (shTOf rfl) (own MMt (gq0 _))))) | ((with_reducible apply kDP (.load 3 (.tmp 71))); refine dP ?_ (hX := rfl) (hv := o_load rfl (ld_one (shTOf rfl) (own MMt (gq0 _))))) | ((with_reducible apply kQO (.load 3 (.tmp 71))); refine qP ?_ (o_load rfl (ld_one (shTOf rfl) (own MMt (gq0 _))))) | ((with_reducible apply kP (.load 3 (.tmp 80))); refine sP ?_ (o_load rfl (ld_one (shTOf rfl) (own MMt (gr1 _))))) | ((with_reducible apply kDP (.load 3 (.tmp 80))); refine dP ?_ (hX := rfl) (hv := o_load rfl (ld_one (shTOf rfl) (own MMt (gr1 _))))) | ((with_reducible apply kQO (.load 3 (.tmp 80))); refine qP ?_ (o_load rfl (ld_one (shTOf rfl) (own MMt (gr1 _))))) | ((with_reducible apply kP (.load 3 (.tmp 90))); refine sP ?_ (o_load rfl (ld_one (shTOf rfl) (own MMt (gq1 _ _))))) | ((with_reducible apply kDP (.load 3 (.tmp 90))); refine dP ?_ (hX := rfl) (hv := o_load rfl (ld_one (shTOf rfl) (own MMt (gq1 _ _))))) | ((with_reducible apply kQO (.load 3 (.tmp 90))); refine qP ?_ (o_load rfl (ld_one (shTOf rfl) (own MMt (gq1 _ _))))) | ((with_reducible apply kN); refine st1 ?_ (hl := gl1 _)) | ((with_reducible apply kN); refine st1 ?_ (hl := gl2 _ _)) | ((with_reducible apply kN); refine stW ?_ (hf := flat_cons rfl (flat_cons rfl (flat1 rfl)))) | (with_reducible first | refine c_seq ?_ | refine c_reg ?_ | refine c_region ?_ | refine c_block ?_ | refine c_skip ?_ | refine c_exit ?_ | refine c_ret ?_ | refine s_nil ?_ | refine x_then ?_ | refine x_then_exit ?_ | refine x_then_ret ?_ | refine x_block ?_ | refine x_block_ret ?_ | refine x_block_same ?_ | refine x_block_other (by first | rfl | decide) ?_ | refine q_nil ?_ | refine k_nil ?_) | ((with_reducible apply kG); first | refine gY1 ?_ | refine gN1 ?_ | refine gU1 ?_ | (refine gD1 (fun h => ?_) (fun h => ?_) <;> (try (exfalso; omega))) | refine gB1 (fun h => ?_) (fun h => ?_)) | ((with_reducible apply kN); first | refine stP ?_ | refine stI ?_ | refine st1 ?_ | refine stW ?_) | ((with_reducible apply kP (.alloc _)); refine sA (fun b => ?_)) | ((with_reducible apply kP (.box _ _)); first | refine sBA (fun b => ?_) | refine sB (fun b => ?_)) | ((with_reducible apply kP _); refine sP ?_) | ((with_reducible apply kP _); refine sX ?_) | ((with_reducible apply kC); first | refine cT ?_ | refine cF ?_ | (refine cI (fun h => ?_) (fun h => ?_) <;> (try (exfalso; omega))) | refine cB (fun h => ?_) (fun h => ?_)))
        all_goals first
          | (have hg : d < 1 ∨ (pcA ps i).an.getD r 0 - d < 1 ∨ 359 < (pcA ps i).an.getD q 0 + d := (by omega)
             rw [if_pos hg]
             exact e_ret2 (hs' := hs) rfl ⟨_, rfl, ld_whole (shTOf rfl) MDt rfl⟩ rfl (.inl ⟨by decide, rfl, rfl⟩) (.cons _ (sbA (.cons _ (sbA (.cons _ (.cons _ (.refl _))))))))
          | (have hg : ¬ (d < 1 ∨ (pcA ps i).an.getD r 0 - d < 1 ∨ 359 < (pcA ps i).an.getD q 0 + d) := (by omega)
             rw [if_neg hg]
             have hgg : ((ivs (pcA ps i).an ++ z).set r (.int .i64 ((pcA ps i).an.getD r 0 - d))).set q (.int .i64 ((pcA ps i).an.getD q 0 + d)) = ivs (dtA (pcA ps i).an r q d) ++ z := gg z _ _
             rw [hgg]
             refine e_ret2 (hs' := (F1 ++ ((bb, ivs (dtA (pcA ps i).an r q d) ++ z) :: F2)) ++ hs) rfl ⟨_, rfl, ld_whole (shTOf rfl) MDt rfl⟩ rfl (.inr ⟨rfl, _, _, hcp' _ (dtA_len _ _ _ _), rfl, rfl⟩) ?_
             rw [List.append_assoc, List.cons_append]
             exact .cons _ (.append (.refl _) (.cons_cons _ (.append (.refl _) (.cons _ (.cons _ (.refl _)))))))
          | trace_state
      · have hm2 := fsN_mono (sd := sdF ps) (p := i + 1) (q := p) (by omega)
        repeat' (first | ((with_reducible apply kP (.fieldAddr _ _ _)); refine sP ?_ (o_fieldE rfl (by assumption) (foTOf2 rfl rfl) (by with_reducible first | exact bb0 _ | exact bb1 _ | exact bb2 _ _))) | ((with_reducible apply kDP (.fieldAddr _ _ _)); refine dP ?_ (hX := rfl) (hv := o_fieldE rfl (by assumption) (foTOf2 rfl rfl) (by with_reducible first | exact bb0 _ | exact bb1 _ | exact bb2 _ _))) | ((with_reducible apply kQO (.fieldAddr _ _ _)); refine qP ?_ (o_fieldE rfl (by assumption) (foTOf2 rfl rfl) (by with_reducible first | exact bb0 _ | exact bb1 _ | exact bb2 _ _))) | ((with_reducible apply kP (.load 39 (.tmp 34))); refine sP ?_ (o_load rfl (ld_one (shTOf rfl) (hcl _ hlt9 _ SBt)))) | ((with_reducible apply kDP (.load 39 (.tmp 34))); refine dP ?_ (hX := rfl) (hv := o_load rfl (ld_one (shTOf rfl) (hcl _ hlt9 _ SBt)))) | ((with_reducible apply kQO (.load 39 (.tmp 34))); refine qP ?_ (o_load rfl (ld_one (shTOf rfl) (hcl _ hlt9 _ SBt)))) | (with_reducible first | refine c_seq ?_ | refine c_reg ?_ | refine c_region ?_ | refine c_block ?_ | refine c_skip ?_ | refine c_exit ?_ | refine c_ret ?_ | refine s_nil ?_ | refine x_then ?_ | refine x_then_exit ?_ | refine x_then_ret ?_ | refine x_block ?_ | refine x_block_ret ?_ | refine x_block_same ?_ | refine x_block_other (by first | rfl | decide) ?_ | refine q_nil ?_ | refine k_nil ?_) | ((with_reducible apply kG); first | refine gY1 ?_ | refine gN1 ?_ | refine gU1 ?_ | (refine gD1 (fun h => ?_) (fun h => ?_) <;> (try (exfalso; omega))) | refine gB1 (fun h => ?_) (fun h => ?_)) | ((with_reducible apply kN); first | refine stP ?_ | refine stI ?_ | refine st1 ?_ | refine stW ?_) | ((with_reducible apply kP (.alloc _)); refine sA (fun b => ?_)) | ((with_reducible apply kP (.box _ _)); first | refine sBA (fun b => ?_) | refine sB (fun b => ?_)) | ((with_reducible apply kP _); refine sP ?_) | ((with_reducible apply kP _); refine sX ?_) | ((with_reducible apply kC); first | refine cT ?_ | refine cF ?_ | (refine cI (fun h => ?_) (fun h => ?_) <;> (try (exfalso; omega))) | refine cB (fun h => ?_) (fun h => ?_)))
        all_goals try (exfalso; omega)
        refine f_eq (t := 10) rfl (show iv ((x : Int) - (fsN (sdF ps) i : Nat) - ((pcA ps i).sd.length : Nat)) = iv ((x : Int) - (fsN (sdF ps) (i + 1) : Nat)) by rw [e2]; congr 1; omega) ?_
        exact r_end (i + 1) (by omega) (by omega) (by repeat' first | trivial | rfl | apply And.intro) (.refl _)
    · rw [if_pos hx]
      have hx3 : ¬ (0 ≤ x ∧ x < (fsN (sdF ps) ps.length : Int)) := hx
      refine fn_enter Try.func49 rfl Try.ntmps49 (by simp) ?_
      repeat' (first | ((with_reducible apply kP (.box 25 _)); refine sBA (fun b2 => ?_)) | ((with_reducible apply kP (.alloc 25)); refine sA (fun b4 => ?_)) | ((with_reducible apply kF 19); refine sC 19 (kv _ SBt) ?_) | ((with_reducible apply kN); refine stW ?_ (hf := flat_cons rfl (flat_cons rfl (flat1 rfl)))) | ((with_reducible apply kF 17); refine sR 17 (kc _ SBt) ?_; rintro v7 h7 ⟨blk7, hcp, rfl⟩; obtain ⟨q0, oP0, cP0, oS0, cS0, rfl, hq0, hM0⟩ := hcp.x B w0) | (with_reducible first | refine c_seq ?_ | refine c_reg ?_ | refine c_region ?_ | refine c_block ?_ | refine c_skip ?_ | refine c_exit ?_ | refine c_ret ?_ | refine s_nil ?_ | refine x_then ?_ | refine x_then_exit ?_ | refine x_then_ret ?_ | refine x_block ?_ | refine x_block_ret ?_ | refine x_block_same ?_ | refine x_block_other (by first | rfl | decide) ?_ | refine q_nil ?_ | refine k_nil ?_) | ((with_reducible apply kG); first | refine gY1 ?_ | refine gN1 ?_ | refine gU1 ?_ | (refine gD1 (fun h => ?_) (fun h => ?_) <;> (try (exfalso; omega))) | refine gB1 (fun h => ?_) (fun h => ?_)) | ((with_reducible apply kN); first | refine stP ?_ | refine stI ?_ | refine st1 ?_ | refine stW ?_) | ((with_reducible apply kP (.alloc _)); refine sA (fun b => ?_)) | ((with_reducible apply kP (.box _ _)); first | refine sBA (fun b => ?_) | refine sB (fun b => ?_)) | ((with_reducible apply kP _); refine sP ?_) | ((with_reducible apply kP _); refine sX ?_) | ((with_reducible apply kC); first | refine cT ?_ | refine cF ?_ | (refine cI (fun h => ?_) (fun h => ?_) <;> (try (exfalso; omega))) | refine cB (fun h => ?_) (fun h => ?_)))
      rename_i BB6
      refine f_eq (t := 10) rfl (show iv x = iv (x - (fsN (sdF ps) 0 : Nat)) by rw [show fsN (sdF ps) 0 = 0 from rfl]; simp) ?_
      refine c_loop (fun i : Nat => [(2, iv d), (3, .pointer (some ⟨b2, 0, none⟩)), (6, .pointer (some ⟨BB6, 0, none⟩)), (7, iv 0), (9, .pointer (some ⟨b4, 0, none⟩)), (10, iv (x - (fsN (sdF ps) i : Nat))), (11, iv i)])
        (fun _ => (BB6, [.slice none 0 0, .slice none 0 0, iv 0]) :: (b2, [.slice oP ps.length cP, .slice oS m cS, iv e]) :: hs) (fun i => i ≤ ps.length ∧ (0 < i → (fsN (sdF ps) i : Int) ≤ x)) (fun i => ps.length - i) 0 ⟨Nat.zero_le _, fun h => absurd h (Nat.lt_irrefl 0)⟩ (by repeat' first | trivial | rfl | apply And.intro) (.cons _ (sbA (.refl _))) ?_
      rintro i ⟨hi, hix⟩
      by_cases hlt9 : i < ps.length
      · have iO := hC.isS hlt9
        have hm1 := fsN_mono (sd := sdF ps) (p := i + 1) (q := ps.length) (by omega)
        have e2 : fsN (sdF ps) (i + 1) = fsN (sdF ps) i + (pcA ps i).sd.length := rfl
        have e3 : fsN (sdF ps) 0 = 0 := rfl
        have hli := (V.ok i hlt9).1
        have hli2 : (sdF ps i).length = (pcA ps i).sd.length := rfl
        have hix2 : (fsN (sdF ps) i : Int) ≤ x ∨ x < 0 := by
          by_cases h0 : 0 < i
          · exact .inl (hix h0)
          · obtain rfl : i = 0 := by omega
            omega
        have hix3 : x < 0 → i = 0 := fun h => by
          by_cases h0 : 0 < i
          · have := hix h0; omega
          · omega
        have hlow : -9223372036854775808 ≤ x - (fsN (sdF ps) i : Nat) ∧ x - (fsN (sdF ps) i : Nat) ≤ 9223372036854775807 := by
          rcases hix2 with h | h
          · omega
          · have := hix3 h; subst this; rw [e3]; omega
        by_cases hx0 : x < 0
        · obtain rfl := hix3 hx0
          repeat' (first | ((with_reducible apply kP (.fieldAddr _ _ _)); refine sP ?_ (o_fieldE rfl (by assumption) (foTOf2 rfl rfl) (by with_reducible first | exact bb0 _ | exact bb1 _ | exact bb2 _ _))) | ((with_reducible apply kDP (.fieldAddr _ _ _)); refine dP ?_ (hX := rfl) (hv := o_fieldE rfl (by assumption) (foTOf2 rfl rfl) (by with_reducible first | exact bb0 _ | exact bb1 _ | exact bb2 _ _))) | ((with_reducible apply kQO (.fieldAddr _ _ _)); refine qP ?_ (o_fieldE rfl (by assumption) (foTOf2 rfl rfl) (by with_reducible first | exact bb0 _ | exact bb1 _ | exact bb2 _ _))) | ((with_reducible apply kP (.load 39 (.tmp 34))); refine sP ?_ (o_load rfl (ld_one (shTOf rfl) (hcl _ hlt9 _ SBt)))) | ((with_reducible apply kDP (.load 39 (.tmp 34))); refine dP ?_ (hX := rfl) (hv := o_load rfl (ld_one (shTOf rfl) (hcl _ hlt9 _ SBt)))) | ((with_reducible apply kQO (.load 39 (.tmp 34))); refine qP ?_ (o_load rfl (ld_one (shTOf rfl) (hcl _ hlt9 _ SBt)))) | ((with_reducible apply kN); refine stW ?_ (hf := flat_cons rfl (flat_cons rfl (flat1 rfl)))) | (with_reducible first | refine c_seq ?_ | refine c_reg ?_ | refine c_region ?_ | refine c_block ?_ | refine c_skip ?_ | refine c_exit ?_ | refine c_ret ?_ | refine s_nil ?_ | refine x_then ?_ | refine x_then_exit ?_ | refine x_then_ret ?_ | refine x_block ?_ | refine x_block_ret ?_ | refine x_block_same ?_ | refine x_block_other (by first | rfl | decide) ?_ | refine q_nil ?_ | refine k_nil ?_) | ((with_reducible apply kG); first | refine gY1 ?_ | refine gN1 ?_ | refine gU1 ?_ | (refine gD1 (fun h => ?_) (fun h => ?_) <;> (try (exfalso; omega))) | refine gB1 (fun h => ?_) (fun h => ?_)) | ((with_reducible apply kN); first | refine stP ?_ | refine stI ?_ | refine st1 ?_ | refine stW ?_) | ((with_reducible apply kP (.alloc _)); refine sA (fun b => ?_)) | ((with_reducible apply kP (.box _ _)); first | refine sBA (fun b => ?_) | refine sB (fun b => ?_)) | ((with_reducible apply kP _); refine sP ?_) | ((with_reducible apply kP _); refine sX ?_) | ((with_reducible apply kC); first | refine cT ?_ | refine cF ?_ | (refine cI (fun h => ?_) (fun h => ?_) <;> (try (exfalso; omega))) | refine cB (fun h => ?_) (fun h => ?_)))
          all_goals try (exfalso; omega)
          exact e_ret2 (hs' := hs) rfl ⟨_, rfl, ld_whole (shTOf rfl) MDt rfl⟩ rfl (.inl ⟨by decide, rfl, rfl⟩) SCt
        · repeat' (first | ((with_reducible apply kP (.fieldAddr _ _ _)); refine sP ?_ (o_fieldE rfl (by assumption) (foTOf2 rfl rfl) (by with_reducible first | exact bb0 _ | exact bb1 _ | exact bb2 _ _))) | ((with_reducible apply kDP (.fieldAddr _ _ _)); refine dP ?_ (hX := rfl) (hv := o_fieldE rfl (by assumption) (foTOf2 rfl rfl) (by with_reducible first | exact bb0 _ | exact bb1 _ | exact bb2 _ _))) | ((with_reducible apply kQO (.fieldAddr _ _ _)); refine qP ?_ (o_fieldE rfl (by assumption) (foTOf2 rfl rfl) (by with_reducible first | exact bb0 _ | exact bb1 _ | exact bb2 _ _))) | ((with_reducible apply kP (.load 39 (.tmp 34))); refine sP ?_ (o_load rfl (ld_one (shTOf rfl) (hcl _ hlt9 _ SBt)))) | ((with_reducible apply kDP (.load 39 (.tmp 34))); refine dP ?_ (hX := rfl) (hv := o_load rfl (ld_one (shTOf rfl) (hcl _ hlt9 _ SBt)))) | ((with_reducible apply kQO (.load 39 (.tmp 34))); refine qP ?_ (o_load rfl (ld_one (shTOf rfl) (hcl _ hlt9 _ SBt)))) | (with_reducible first | refine c_seq ?_ | refine c_reg ?_ | refine c_region ?_ | refine c_block ?_ | refine c_skip ?_ | refine c_exit ?_ | refine c_ret ?_ | refine s_nil ?_ | refine x_then ?_ | refine x_then_exit ?_ | refine x_then_ret ?_ | refine x_block ?_ | refine x_block_ret ?_ | refine x_block_same ?_ | refine x_block_other (by first | rfl | decide) ?_ | refine q_nil ?_ | refine k_nil ?_) | ((with_reducible apply kG); first | refine gY1 ?_ | refine gN1 ?_ | refine gU1 ?_ | (refine gD1 (fun h => ?_) (fun h => ?_) <;> (try (exfalso; omega))) | refine gB1 (fun h => ?_) (fun h => ?_)) | ((with_reducible apply kN); first | refine stP ?_ | refine stI ?_ | refine st1 ?_ | refine stW ?_) | ((with_reducible apply kP (.alloc _)); refine sA (fun b => ?_)) | ((with_reducible apply kP (.box _ _)); first | refine sBA (fun b => ?_) | refine sB (fun b => ?_)) | ((with_reducible apply kP _); refine sP ?_) | ((with_reducible apply kP _); refine sX ?_) | ((with_reducible apply kC); first | refine cT ?_ | refine cF ?_ | (refine cI (fun h => ?_) (fun h => ?_) <;> (try (exfalso; omega))) | refine cB (fun h => ?_) (fun h => ?_)))
          all_goals try (exfalso; omega)
          refine f_eq (t := 10) rfl (show iv (x - (fsN (sdF ps) i : Nat) - ((pcA ps i).sd.length : Nat)) = iv (x - (fsN (sdF ps) (i + 1) : Nat)) by rw [e2]; congr 1; omega) ?_
          exact r_end (i + 1) ⟨hlt9, fun _ => by omega⟩ (by omega) (by repeat' first | trivial | rfl | apply And.intro) (.refl _)
      · repeat' (first | ((with_reducible apply kN); refine stW ?_ (hf := flat_cons rfl (flat_cons rfl (flat1 rfl)))) | (with_reducible first | refine c_seq ?_ | refine c_reg ?_ | refine c_region ?_ | refine c_block ?_ | refine c_skip ?_ | refine c_exit ?_ | refine c_ret ?_ | refine s_nil ?_ | refine x_then ?_ | refine x_then_exit ?_ | refine x_then_ret ?_ | refine x_block ?_ | refine x_block_ret ?_ | refine x_block_same ?_ | refine x_block_other (by first | rfl | decide) ?_ | refine q_nil ?_ | refine k_nil ?_) | ((with_reducible apply kG); first | refine gY1 ?_ | refine gN1 ?_ | refine gU1 ?_ | (refine gD1 (fun h => ?_) (fun h => ?_) <;> (try (exfalso; omega))) | refine gB1 (fun h => ?_) (fun h => ?_)) | ((with_reducible apply kN); first | refine stP ?_ | refine stI ?_ | refine st1 ?_ | refine stW ?_) | ((with_reducible apply kP (.alloc _)); refine sA (fun b => ?_)) | ((with_reducible apply kP (.box _ _)); first | refine sBA (fun b => ?_) | refine sB (fun b => ?_)) | ((with_reducible apply kP _); refine sP ?_) | ((with_reducible apply kP _); refine sX ?_) | ((with_reducible apply kC); first | refine cT ?_ | refine cF ?_ | (refine cI (fun h => ?_) (fun h => ?_) <;> (try (exfalso; omega))) | refine cB (fun h => ?_) (fun h => ?_)))
        all_goals try (exfalso; omega)
        exact e_ret2 (hs' := hs) rfl ⟨_, rfl, ld_whole (shTOf rfl) MDt rfl⟩ rfl (.inl ⟨by decide, rfl, rfl⟩) SCt
  · rw [if_pos hv]
    have hv' : vdE ps.length (sdF ps) (anF ps) m sm e ≠ 0 := hv
    have hv2 : vdC ps sm m e = vdE ps.length (sdF ps) (anF ps) m sm e := rfl
    rw [hv2]
    generalize vdE ps.length (sdF ps) (anF ps) m sm e = z at *
    refine fn_enter Try.func49 rfl Try.ntmps49 (by simp) ?_
    repeat' (first | ((with_reducible apply kP (.box 25 _)); refine sBA (fun b2 => ?_)) | ((with_reducible apply kP (.alloc 25)); refine sA (fun b4 => ?_)) | ((with_reducible apply kF 19); refine sC 19 (kv _ SBt) ?_) | ((with_reducible apply kN); refine stW ?_ (hf := flat_cons rfl (flat_cons rfl (flat1 rfl)))) | (with_reducible first | refine c_seq ?_ | refine c_reg ?_ | refine c_region ?_ | refine c_block ?_ | refine c_skip ?_ | refine c_exit ?_ | refine c_ret ?_ | refine s_nil ?_ | refine x_then ?_ | refine x_then_exit ?_ | refine x_then_ret ?_ | refine x_block ?_ | refine x_block_ret ?_ | refine x_block_same ?_ | refine x_block_other (by first | rfl | decide) ?_ | refine q_nil ?_ | refine k_nil ?_) | ((with_reducible apply kG); first | refine gY1 ?_ | refine gN1 ?_ | refine gU1 ?_ | (refine gD1 (fun h => ?_) (fun h => ?_) <;> (try (exfalso; omega))) | refine gB1 (fun h => ?_) (fun h => ?_)) | ((with_reducible apply kN); first | refine stP ?_ | refine stI ?_ | refine st1 ?_ | refine stW ?_) | ((with_reducible apply kP (.alloc _)); refine sA (fun b => ?_)) | ((with_reducible apply kP (.box _ _)); first | refine sBA (fun b => ?_) | refine sB (fun b => ?_)) | ((with_reducible apply kP _); refine sP ?_) | ((with_reducible apply kP _); refine sX ?_) | ((with_reducible apply kC); first | refine cT ?_ | refine cF ?_ | (refine cI (fun h => ?_) (fun h => ?_) <;> (try (exfalso; omega))) | refine cB (fun h => ?_) (fun h => ?_)))
    exact e_ret2 (hs' := hs) rfl ⟨_, rfl, ld_whole (shTOf rfl) MDt rfl⟩ rfl (.inl ⟨hv', rfl, rfl⟩) SCt
end Go.Proofs.Ytnbickholedckaa
