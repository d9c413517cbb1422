/- KnotRows holds: the hairs of all holes of a row. -/
import Derived.Test.YtlijcnocahplbaaK6
import Derived.Test.YtlijcnocahplbaaCloseK
namespace Go.Proofs.Ytlijcnocahplbaa
open Go.RowKit Go.ChangeShapes Go.WideShapes Go.ChangeAt

def rowV (p q s t a z : Int) : Value := .agg #[iv p, iv q, iv s, iv t, iv a, iv z]
theorem rowL_len (p q s t z : Int) : (rowL p q s t z).length ≤ 10000 := by
  unfold rowL
  split
  · rename_i h
    have := of_decide_eq_true h
    rw [tab_length]; omega
  · simp
set_option maxRecDepth 100000 in
theorem l_rows (p q s t a z : Int) (hp : p ≤ 9223372036854775807) (hs2 : s ≤ 9223372036854775807) (B : Nat) (w0 : World) (hs : HS) :
    Fn Try.prog 3 #[rowV p q s t a z] B w0 hs (fun v _ => v = .bool true) := by
  have hl := rowL_len p q s t z
  refine fn_enter Try.func3 rfl Try.ntmps3 (by simp) ?_
  repeat' (first | ((with_reducible apply kF 19); refine sN 19 (k_Row p q s t z hp hs2 B w0 _) ?_; rintro u blk ⟨oa, c, rfl, hrow⟩) | ((with_reducible apply kF 20); refine sN 20 (r_Row p q s t z hp hs2 B w0 _) ?_; rintro u blk' ⟨ob, d, rfl, hrow'⟩) | ((with_reducible apply kF 21); refine sC 21 (r_same oa ob c d _ _ (by omega) B w0 _ ((Sl.row hrow).sub (by with_reducible first | exact sb0 | exact sb1 | exact sb2 | exact sb3 | exact sb4 | exact sb5 | exact sb6 | exact sb7 | exact sb8 | exact sbL | ((repeat (first | exact sb0 | exact sbL | refine .cons _ ?_ | refine sbA ?_)); done))) ((Sl.row hrow').sub (by with_reducible first | exact sb0 | exact sb1 | exact sb2 | exact sb3 | exact sb4 | exact sb5 | exact sb6 | exact sb7 | exact sb8 | exact sbL | ((repeat (first | exact sb0 | exact sbL | refine .cons _ ?_ | refine sbA ?_)); done)))) ?_) | ((with_reducible apply kF 22); refine sC 22 (l_known B w0 _) ?_) | (with_reducible first | refine c_seq ?_ | refine c_reg ?_ | refine c_region ?_ | refine c_block ?_ | refine c_skip ?_ | refine c_exit ?_ | refine c_ret ?_ | refine s_nil ?_ | refine x_then ?_ | refine x_then_exit ?_ | refine x_then_ret ?_ | refine x_block ?_ | refine x_block_ret ?_ | refine x_block_same ?_ | refine x_block_other (by rfl) ?_ | refine q_nil ?_ | refine k_nil ?_) | ((with_reducible apply kG); first | refine gY1 ?_ | refine gN1 ?_ | refine gU1 ?_ | (refine gD1 (fun h => ?_) (fun h => ?_) <;> (try (exfalso; omega))) | refine gB1 (fun h => ?_) (fun h => ?_)) | ((with_reducible apply kN); first | refine stP ?_ | refine stI ?_ | refine st1 ?_ | refine stW ?_) | ((with_reducible apply kP (.alloc _)); refine sA (fun b => ?_)) | ((with_reducible apply kP (.box _ _)); first | refine sBA (fun b => ?_) | refine sB (fun b => ?_)) | ((with_reducible apply kP (.buildSlice _ 1 _)); first | refine sl1A (fun b => ?_) | refine sl1 (fun b => ?_)) | ((with_reducible apply kP (.buildSlice _ 2 _)); refine sl2 (fun b => ?_)) | ((with_reducible apply kP (.buildSlice _ 3 _)); refine sl3 (fun b => ?_)) | ((with_reducible apply kP (.buildSlice _ 4 _)); refine sl4 (fun b => ?_)) | ((with_reducible apply kP (.makeSlice _ _ _)); refine sMk (fun b => ?_)) | ((with_reducible apply kP (.call ⟨.builtin .append, _, _⟩)); refine sAp (fun oa2 c2 blk2 hrow2 => ?_)) | ((with_reducible apply kP _); refine sP ?_) | ((with_reducible apply kQG); first | refine qY1 ?_ | refine qN1 ?_ | refine qU1 ?_ | (refine qD1 (fun h => ?_) (fun h => ?_) <;> (try (exfalso; omega))) | refine qB1 (fun h => ?_) (fun h => ?_)) | ((with_reducible apply kQP); refine qP ?_) | ((with_reducible apply kC); first | refine cT ?_ | refine cF ?_ | (refine cI (fun h => ?_) (fun h => ?_) <;> (try (exfalso; omega))) | refine cB (fun h => ?_) (fun h => ?_)) | ((with_reducible apply kR); refine cQ ?_))
  all_goals first
    | exact e_ret1 rfl rfl rfl sb0
    | exact absurd rfl ‹¬ _ = _›

set_option maxRecDepth 100000 in
theorem open_row {H : Type} {enc : TypeId × Value → H} {W : World} {base : Nat} {v : Value} {d : DataW H} {pl : List MemPlace} (hv : Value.okWide Try.prog W .any base 25 v) (h : DataW.Trod enc Try.prog W 0 (fun _ => true) true 25 v d pl) :
    ∃ p q s t a z, v = rowV p q s t a z ∧ InI p ∧ InI q ∧ InI s ∧ InI t ∧ InI a ∧ InI z := by
  obtain ⟨fuel, h⟩ := h
  unfold Value.okWide at hv
  rw [Try.underlying25] at hv
  obtain ⟨cs, rfl, _⟩ := hv
  obtain ⟨p, q, s, t, a, z, e, hh⟩ := row_cells h
  refine ⟨p, q, s, t, a, z, ?_, hh⟩
  simp only [Value.cells] at e
  unfold rowV
  rw [← e]
set_option maxRecDepth 100000 in
theorem rows_lifted (os : Os) (started : os.Started) (H : Type) (enc : TypeId × Value → H) :
    ReturnsInHanded {} Try.checked os 3 .any (Rows.knotRowsSpec.pre6 enc Try.prog Try.f3 Rows.knotRowsRow.domain false) (Rows.knotRowsSpec.post enc Try.prog Try.f3 false true false false) := by
  refine returnsInHanded_of_change (C := Try.checked) ownK started (by kernel_rfl) Try.func3
    (ChangeSpec.witness6 (enc := enc) (C := Try.checked) false ⟨#[], #[.agg #[.int .i64 0, .int .i64 0, .int .i64 0, .int .i64 0, .int .i64 0, .int .i64 0]], []⟩ 8 (by kernel_rfl) (by kernel_rfl) (by kernel_rfl) (by kernel_rfl)) ?_
  intro W base args ds gs before hval0 hW hcnd _
  have hval : ∀ (j : Nat) t v, Try.f3.params[j]? = some t → args[j]? = some v → Value.okWide Try.prog W .any base t v := hval0
  have hW' := hW
  obtain ⟨p, q, hA0, hV, rfl, hfz, hnd⟩ := hW
  have hA : DataW.TrodAll enc Try.prog W 0 (fun _ => true) true Try.f3.params.toList args.toList ds p := hA0
  rw [Try.params3] at hA hval
  obtain ⟨v0, d0, rfl, rfl, h0⟩ := trodAll_one hA
  obtain ⟨p1, q1, s1, t1, a1, z1, rfl, i1, _, i3, _⟩ := open_row (hval 0 _ v0 rfl rfl) h0
  refine (law_calls (l_rows p1 q1 s1 t1 a1 z1 i1.2 i3.2 _ W [])).mono fun e W' ⟨he, hb⟩ => ⟨.bool true, he, ?_⟩
  exact law_post rfl ⟨⟨by kernel_rfl, of_decide_eq_true (by kernel_rfl)⟩, trivial⟩ rfl hW' ⟨rfl, rfl, rfl⟩ hb

theorem rows_holds : Rows.KnotRowsSaid :=
  OpenClaim.holds_of_wide 3 Try.f3 rfl rfl rfl rfl rfl rfl rfl ⟨rfl, rfl, rfl, rfl, rfl⟩ rfl rfl rfl rfl rfl (by kernel_rfl) Try.func3 (by kernel_rfl)
    (of_decide_eq_true (by kernel_rfl)) (by unfold Func.isWrapper; first | (rw [if_pos (by decide +kernel)]; kernel_rfl) | (rw [if_neg (by decide +kernel)]; exact ⟨rfl, rfl⟩))
    (fun os started H enc _ => rows_lifted os started H enc)
#print axioms rows_holds
end Go.Proofs.Ytlijcnocahplbaa
