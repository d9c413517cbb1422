/- KnotZones holds: which zones are valid, their hairs and their knots. -/
import Derived.Test.YtlijcnocahplbaaK18
import Derived.Test.YtlijcnocahplbaaCloseZ
namespace Go.Proofs.Ytlijcnocahplbaa
open Go.RowKit Go.ChangeShapes Go.WideShapes Go.ChangeAt

theorem zhV_tup (R H K p q : Int) : ∃ a b, zhV R H K p q = .tuple #[iv a, iv b] := by
  unfold zhV; split
  · exact ⟨_, _, rfl⟩
  · exact ⟨_, _, rfl⟩
theorem zkV_tup (R H K p q : Int) : ∃ a b, zkV R H K p q = .tuple #[iv a, iv b] := by
  unfold zkV; split
  · exact ⟨_, _, rfl⟩
  · exact ⟨_, _, rfl⟩
set_option maxRecDepth 100000 in
set_option maxHeartbeats 8000000 in
theorem l_zones (R H K p q : Int) (d : Bool) (hp : p ≤ 9223372036854775807) (B : Nat) (w0 : World) (hs : HS) :
    Fn Try.prog 12 #[.agg #[iv R, iv H, iv K, iv p, iv q, .bool d]] B w0 hs (fun v _ => v = .bool true) := by
  have f1 := k_ZoneHairs R H K p q d hp B w0
  have f2 := r_ZoneHairs R H K p q d hp B w0
  have f3 := k_ZoneKnots R H K p q d hp B w0
  have f4 := r_ZoneKnots R H K p q d hp B w0
  have f5 := k_vz R H K p q d hp B w0
  have f6 := r_vz R H K p q d hp B w0
  obtain ⟨a1, a2, e1⟩ := zhV_tup R H K p q
  obtain ⟨b1, b2, e2⟩ := zkV_tup R H K p q
  rw [e1] at f1 f2
  rw [e2] at f3 f4
  generalize zE R H K p q = e at f5 f6
  refine fn_enter Try.func12 rfl Try.ntmps12 (by simp) ?_
  repeat' (first | ((with_reducible apply kF 40); refine sC 40 (f1 _) ?_) | ((with_reducible apply kF 41); refine sC 41 (f2 _) ?_) | ((with_reducible apply kF 42); refine sC 42 (f3 _) ?_) | ((with_reducible apply kF 43); refine sC 43 (f4 _) ?_) | ((with_reducible apply kDF 44); refine dC 44 (fun F => f5 _) ?_) | ((with_reducible apply kDF 45); refine dC 45 (fun F => f6 _) ?_) | ((with_reducible apply kDF 22); refine dC 22 (fun F => l_known B w0 _) ?_) | ((with_reducible apply kF 22); refine sC 22 (l_known B w0 _) ?_) | ((with_reducible apply kRg 5); refine cD [1, 3, 0, 4, 1, 1, 1, 1, 1, 1, 1, 1, 1, 1, 1, 1, 1, 1, 1, 1, 1, 1, 1, 1, 1, 1, 4, 1, 1] ?_) | (with_reducible first | refine c_seq ?_ | refine c_reg ?_ | refine c_region ?_ | refine c_block ?_ | refine c_skip ?_ | refine c_exit ?_ | refine c_ret ?_ | refine s_nil ?_ | refine x_then ?_ | refine x_then_exit ?_ | refine x_then_ret ?_ | refine x_block ?_ | refine x_block_ret ?_ | refine x_block_same ?_ | refine x_block_other (by rfl) ?_ | refine q_nil ?_ | refine k_nil ?_) | ((with_reducible apply kP (.makeFunc _ _ _)); refine sMF ?_) | ((with_reducible apply kG); first | refine gY1 ?_ | refine gN1 ?_ | refine gU1 ?_ | (refine gD1 (fun h => ?_) (fun h => ?_) <;> (try (exfalso; omega))) | refine gB1 (fun h => ?_) (fun h => ?_)) | ((with_reducible apply kN); first | refine stP ?_ | refine stI ?_ | refine st1 ?_ | refine stW ?_) | ((with_reducible apply kP (.alloc _)); refine sA (fun b => ?_)) | ((with_reducible apply kP (.box _ _)); first | refine sBA (fun b => ?_) | refine sB (fun b => ?_)) | ((with_reducible apply kP (.buildSlice _ 1 _)); first | refine sl1A (fun b => ?_) | refine sl1 (fun b => ?_)) | ((with_reducible apply kP (.buildSlice _ 2 _)); refine sl2 (fun b => ?_)) | ((with_reducible apply kP (.buildSlice _ 3 _)); refine sl3 (fun b => ?_)) | ((with_reducible apply kP (.buildSlice _ 4 _)); refine sl4 (fun b => ?_)) | ((with_reducible apply kP (.buildSlice _ 0 _)); refine s_bs0 (scTOf rfl) (zsTOf rfl) (by decide) (fun b => ?_)) | ((with_reducible apply kP (.makeSlice _ _ _)); refine sMk (fun b => ?_)) | ((with_reducible apply kP (.call ⟨.builtin .append, _, _⟩)); refine sAp (fun oa2 c2 blk2 hrow2 => ?_)) | ((with_reducible apply kP _); refine sP ?_) | ((with_reducible apply kP _); refine sX ?_) | ((with_reducible apply kQG); first | refine qY1 ?_ | refine qN1 ?_ | refine qU1 ?_ | (refine qD1 (fun h => ?_) (fun h => ?_) <;> (try (exfalso; omega))) | refine qB1 (fun h => ?_) (fun h => ?_)) | ((with_reducible apply kQP); refine qP ?_) | ((with_reducible apply kQP); refine qX ?_) | ((with_reducible apply kC); first | refine cT ?_ | refine cF ?_ | (refine cI (fun h => ?_) (fun h => ?_) <;> (try (exfalso; omega))) | refine cB (fun h => ?_) (fun h => ?_)) | ((with_reducible apply kR); refine cQ ?_) | ((with_reducible apply kDG); first | refine dY1 ?_ | refine dNo1 ?_ | refine dU1 ?_ | (refine dD1 (fun h => ?_) (fun h => ?_) <;> (try (exfalso; omega))) | refine dB1 (fun h => ?_) (fun h => ?_)) | ((with_reducible apply kDN); first | refine dtI ?_ | refine dt1 ?_ | refine dtW ?_) | ((with_reducible apply kDP (.alloc _)); refine dA (fun b => ?_)) | ((with_reducible apply kDP (.box _ _)); first | refine dBA (fun b => ?_) | refine dB (fun b => ?_)) | ((with_reducible apply kDP (.buildSlice _ 1 _)); first | refine dl1A (fun b => ?_) | refine dl1 (fun b => ?_)) | ((with_reducible apply kDP (.call ⟨.builtin .append, _, _⟩)); first | refine dAp3 (fun oa2 c2 blk2 hrow2 => ?_) (hS := SCt) | refine dAp4 (fun oa2 c2 blk2 hrow2 => ?_)) | ((with_reducible apply kDP _); refine dP ?_) | ((with_reducible apply kDP _); refine dX ?_))
  all_goals first
    | exact e_ret1 rfl rfl rfl SCt
    | exact absurd rfl ‹¬ _ = _›
set_option maxRecDepth 100000 in
theorem zones_holds_lifted (os : Os) (started : os.Started) (H : Type) (enc : TypeId × Value → H) :
    ReturnsInHanded {} Try.checked os 12 .any (Rows.knotZonesSpec.pre6 enc Try.prog Try.f12 Rows.knotZonesRow.domain false) (Rows.knotZonesSpec.post enc Try.prog Try.f12 false true false false) := by
  refine returnsInHanded_of_change (C := Try.checked) ownK started (by kernel_rfl) Try.func12
    (ChangeSpec.witness6 (enc := enc) (C := Try.checked) false ⟨#[], #[.agg #[.int .i64 0, .int .i64 0, .int .i64 0, .int .i64 0, .int .i64 0, .bool false]], []⟩ 8 (by kernel_rfl) (by kernel_rfl) (by kernel_rfl) (by kernel_rfl)) ?_
  intro W base args ds gs before hval0 hW hcnd _
  have hval : ∀ (j : Nat) t v, Try.f12.params[j]? = some t → args[j]? = some v → Value.okWide Try.prog W .any base t v := hval0
  have hW' := hW
  obtain ⟨p, q, hA0, hV, rfl, hfz, hnd⟩ := hW
  have hA : DataW.TrodAll enc Try.prog W 0 (fun _ => true) true Try.f12.params.toList args.toList ds p := hA0
  rw [Try.params12] at hA hval
  obtain ⟨v0, d_0, rfl, rfl, h0⟩ := trodAll_one hA
  obtain ⟨R0, H0, k0, p0, q0, d0, rfl, _, _, _, K0, _⟩ := arg_zone (by kernel_rfl) (hval 0 _ v0 rfl rfl) h0
  refine (law_calls (by exact l_zones _ _ _ _ _ _ K0.2 _ W [])).mono fun e W' ⟨he, hb⟩ => ⟨.bool true, he, ?_⟩
  exact law_post rfl ⟨⟨by kernel_rfl, of_decide_eq_true (by kernel_rfl)⟩, trivial⟩ rfl hW' ⟨rfl, rfl, rfl⟩ hb
theorem zones_holds : Rows.KnotZonesSaid :=
  OpenClaim.holds_of_wide 12 Try.f12 rfl rfl rfl rfl rfl rfl rfl ⟨rfl, rfl, rfl, rfl, rfl⟩ rfl rfl rfl rfl rfl (by kernel_rfl) Try.func12 (by kernel_rfl)
    (of_decide_eq_true (by kernel_rfl)) (by unfold Func.isWrapper; first | (rw [if_pos (by decide +kernel)]; kernel_rfl) | (rw [if_neg (by decide +kernel)]; exact ⟨rfl, rfl⟩))
    (fun os started H enc _ => zones_holds_lifted os started H enc)
#print axioms zones_holds
end Go.Proofs.Ytlijcnocahplbaa
