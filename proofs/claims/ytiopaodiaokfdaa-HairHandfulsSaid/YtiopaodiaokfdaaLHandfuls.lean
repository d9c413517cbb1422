/- HairHandfuls holds: into which handfuls a bundle is drawn. -/
import Derived.Test.YtiopaodiaokfdaaH29
import Derived.Test.YtiopaodiaokfdaaClose2
namespace Go.Proofs.Ytiopaodiaokfdaa
open Go.RowKit Go.ChangeShapes Go.WideShapes Go.ChangeAt

theorem hf_len (r g : List Int) (n : Int) (j : Nat) : (hfR r g n j).length ≤ 24 ∧ (hfL r g n j).length ≤ 24 := ⟨trm_length _, trm_length _⟩
theorem hfM_to (r g : List Int) (n : Int) : hfM r g n ≤ 200 := by
  unfold hfM
  split
  · rename_i h
    unfold hfE at h
    split at h
    · split at h
      · omega
      · split at h
        · omega
        · omega
    · rename_i hv; exact absurd h hv
  · omega
set_option maxRecDepth 100000 in
set_option maxHeartbeats 8000000 in
theorem l_handfuls (o1 o2 : Option Addr) (c1 c2 : Nat) (r g : List Int) (n : Int) (B : Nat) (w0 : World) (hs : HS) (h1 : Sl B w0 hs o1 r) (h2 : Sl B w0 hs o2 g) :
    Fn Try.prog 11 #[bv o1 o2 r.length g.length c1 c2, iv n] B w0 hs (fun v _ => v = .bool true) := by
  have f1 := fun hs q1 q2 => h_Handfuls o1 o2 c1 c2 r g n B w0 hs q1 q2
  have f2 := fun hs q1 q2 => r_Handfuls o1 o2 c1 c2 r g n B w0 hs q1 q2
  have hl := hf_len r g n
  have hM := hfM_to r g n
  generalize hfR r g n = R at *
  generalize hfL r g n = G at *
  generalize hfM r g n = m at *
  generalize hfE r g n = e at *
  refine fn_enter Try.func11 rfl Try.ntmps11 (by simp) ?_
  repeat' (first | ((with_reducible apply kF 17); refine sC 17 (l_long o1 o2 _ _ c1 c2 B w0 _) ?_) | ((with_reducible apply kF 18); refine sC 18 (l_known B w0 _) ?_) | ((with_reducible apply kF 52); refine sN 52 (f1 _ (h1.sub SBt) (h2.sub SBt)) ?_; rintro u ka ⟨oa, c, cells, Y, X, rfl, hrow, hbc, rfl⟩; rw [List.append_assoc]) | ((with_reducible apply kF 53); refine sN 53 (f2 _ (h1.sub SBt) (h2.sub SBt)) ?_; rintro u kb ⟨ob, d, cells2, Y2, X2, rfl, hrow2, hbc2, rfl⟩; rw [List.append_assoc]) | ((with_reducible apply kF 54); refine sC 54 (r_equalAll oa ob c d m R G (by omega) hl B w0 _ (BA.of hrow hbc SBt SBt) (BA.of hrow2 hbc2 SBt SBt)) ?_) | (with_reducible first | refine c_seq ?_ | refine c_reg ?_ | refine c_region ?_ | refine c_block ?_ | refine c_skip ?_ | refine c_exit ?_ | refine c_ret ?_ | refine s_nil ?_ | refine x_then ?_ | refine x_then_exit ?_ | refine x_then_ret ?_ | refine x_block ?_ | refine x_block_ret ?_ | refine x_block_same ?_ | refine x_block_other (by rfl) ?_ | refine q_nil ?_ | refine k_nil ?_) | ((with_reducible apply kP (.makeFunc _ _ _)); refine sMF ?_) | ((with_reducible apply kG); first | refine gY1 ?_ | refine gN1 ?_ | refine gU1 ?_ | (refine gD1 (fun h => ?_) (fun h => ?_) <;> (try (exfalso; omega))) | refine gB1 (fun h => ?_) (fun h => ?_)) | ((with_reducible apply kN); first | refine stP ?_ | refine stI ?_ | refine st1 ?_ | refine stW ?_) | ((with_reducible apply kP (.alloc _)); refine sA (fun b => ?_)) | ((with_reducible apply kP (.box _ _)); first | refine sBA (fun b => ?_) | refine sB (fun b => ?_)) | ((with_reducible apply kP (.buildSlice _ 1 _)); first | refine sl1A (fun b => ?_) | refine sl1 (fun b => ?_)) | ((with_reducible apply kP (.buildSlice _ 2 _)); refine sl2 (fun b => ?_)) | ((with_reducible apply kP (.buildSlice _ 3 _)); refine sl3 (fun b => ?_)) | ((with_reducible apply kP (.buildSlice _ 4 _)); refine sl4 (fun b => ?_)) | ((with_reducible apply kP (.buildSlice _ 0 _)); refine s_bs0 (scTOf rfl) (zsTOf rfl) (by decide) (fun b => ?_)) | ((with_reducible apply kP (.makeSlice _ _ _)); refine sMk (fun b => ?_)) | ((with_reducible apply kP (.call ⟨.builtin .append, _, _⟩)); refine sAp (fun oa2 c2 blk2 hrow2 => ?_)) | ((with_reducible apply kP _); refine sP ?_) | ((with_reducible apply kP _); refine sX ?_) | ((with_reducible apply kQG); first | refine qY1 ?_ | refine qN1 ?_ | refine qU1 ?_ | (refine qD1 (fun h => ?_) (fun h => ?_) <;> (try (exfalso; omega))) | refine qB1 (fun h => ?_) (fun h => ?_)) | ((with_reducible apply kQP); refine qP ?_) | ((with_reducible apply kQP); refine qX ?_) | ((with_reducible apply kC); first | refine cT ?_ | refine cF ?_ | (refine cI (fun h => ?_) (fun h => ?_) <;> (try (exfalso; omega))) | refine cB (fun h => ?_) (fun h => ?_)) | ((with_reducible apply kR); refine cQ ?_))
  all_goals first
    | exact e_ret1 rfl rfl rfl SCt
    | exact absurd rfl ‹¬ _ = _›
    | (exfalso; omega)
set_option maxRecDepth 100000 in
theorem handfuls_holds_lifted (os : Os) (started : os.Started) (H : Type) (enc : TypeId × Value → H) :
    ReturnsInHanded {} Try.checked os 11 .any (Rows.hairHandfulsSpec.pre6 enc Try.prog Try.f11 Rows.hairHandfulsRow.domain false) (Rows.hairHandfulsSpec.post enc Try.prog Try.f11 false true false false) := by
  refine returnsInHanded_of_change (C := Try.checked) ownK started (by kernel_rfl) Try.func11
    (ChangeSpec.witness6 (enc := enc) (C := Try.checked) false ⟨#[], #[.agg #[.slice none 0 0, .slice none 0 0], .int .i64 0], []⟩ 8 (by kernel_rfl) (by kernel_rfl) (by kernel_rfl) (by kernel_rfl)) ?_
  intro W base args ds gs before hval0 hW hcnd _
  have hval : ∀ (j : Nat) t v, Try.f11.params[j]? = some t → args[j]? = some v → Value.okWide Try.prog W .any base t v := hval0
  have hW' := hW
  obtain ⟨p, q, hA0, hV, rfl, hfz, hnd⟩ := hW
  have hA : DataW.TrodAll enc Try.prog W 0 (fun _ => true) true Try.f11.params.toList args.toList ds p := hA0
  rw [Try.params11] at hA hval
  obtain ⟨v0, v1, d_0, d_1, p_0, p_1, rfl, rfl, rfl, h0, h1⟩ := trodAll_two hA
  obtain ⟨oa0, ob0, c0, d0, r0, g0, rfl, m0, q0, _, _, I0, J0, s0, t0⟩ := arg_bundle (by kernel_rfl) (hval 0 _ v0 rfl rfl) h0
  obtain ⟨z1, rfl, I1⟩ := arg_int (by kernel_rfl) (hval 1 _ v1 rfl rfl) h1
  refine (law_calls (by exact l_handfuls oa0 ob0 c0 d0 r0 g0 z1 _ W [] s0 t0)).mono fun e W' ⟨he, hb⟩ => ⟨.bool true, he, ?_⟩
  exact law_post rfl ⟨⟨by kernel_rfl, of_decide_eq_true (by kernel_rfl)⟩, ⟨by kernel_rfl, of_decide_eq_true (by kernel_rfl)⟩, trivial⟩ rfl hW' ⟨rfl, rfl, rfl⟩ hb
theorem handfuls_holds : Rows.HairHandfulsSaid :=
  OpenClaim.holds_of_wide 11 Try.f11 rfl rfl rfl rfl rfl rfl rfl ⟨rfl, rfl, rfl, rfl, rfl⟩ rfl rfl rfl rfl rfl (by kernel_rfl) Try.func11 (by kernel_rfl)
    (of_decide_eq_true (by kernel_rfl)) (by unfold Func.isWrapper; first | (rw [if_pos (by decide +kernel)]; kernel_rfl) | (rw [if_neg (by decide +kernel)]; exact ⟨rfl, rfl⟩))
    (fun os started H enc _ => handfuls_holds_lifted os started H enc)
#print axioms handfuls_holds
end Go.Proofs.Ytiopaodiaokfdaa
