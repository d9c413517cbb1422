/- closeAngles of the program. -/
import Derived.Test.YtnbickholedckaaMC63
import Derived.Test.YtnbickholedckaaMC79
import Derived.Test.YtnbickholedckaaMC53
namespace Go.Proofs.Ytnbickholedckaa
open Go.RowKit
theorem ptl_set {l : List Int} {i s : Nat} (a : Int) : (ptl l i s 0).set s a = ptl l i s a := by
  unfold ptl
  rw [List.set_append_right _ _ (by rw [tab_length]; exact Nat.le_refl _), tab_length, Nat.sub_self]
  rfl
theorem o_sliceH0 {P : Program} {n : NN} {B : Nat} {w0 : Wd} {fr : FR} {hs : HS} {ty t : TypeId} {x hi : Operand} {b : Bool} {k len cap j : Nat} {i : Int} {oa : Option Addr} (ht : sc P t = some (b, k)) (hx : opv fr x = some (.slice oa len cap)) (hl : opv fr hi = some (.int .i64 i)) (hj : i = (j : Int)) (h1 : j ≤ cap) :
    OpF P n B w0 (.slice t x none (some hi) none) ty fr hs (.slice oa j cap) := by
  have := o_sliceH (P := P) (n := n) (B := B) (w0 := w0) (fr := fr) (hs := hs) (ty := ty) ht hx hl hj h1
  rwa [subA_zero] at this
attribute [local irreducible] OpF Ld CellAt Sl Sv pcA usP
set_option maxRecDepth 100000 in
set_option maxHeartbeats 8000000 in
theorem k_closeAngles (oa : Option Addr) (ca cb b : Nat) (sd an : List Int) (w : List Value) (hk : 2 ≤ sd.length ∧ sd.length ≤ 10) (ha : an.length = sd.length) (hcb : sd.length ≤ cb) (hb : ∀ j, j < sd.length - 1 → -100000 ≤ an.getD j 0 ∧ an.getD j 0 ≤ 100000) (B : Nat) (w0 : Wd) (hs : HS) :
    Fn Try.prog 78 #[.agg #[.slice oa sd.length ca, .slice (some ⟨b, 0, none⟩) an.length cb]] B w0 ((b, ivs an ++ w) :: hs) (fun v h => v = .tuple #[] ∧ h = (b, ivs (an.set (sd.length - 1) (180 * ((sd.length : Int) - 2) - sumTo (fun j => an.getD j 0) (sd.length - 1))) ++ w) :: hs) := by
  have gl : ∀ (l : List Int), l.length = sd.length → sd.length - 1 < (ivs l ++ w).length := fun l h => by rw [List.length_append, ivs_length, h]; omega
  have gs : ∀ j, j ≤ sd.length - 1 → -100000 * (j : Int) ≤ sumTo (fun j => an.getD j 0) j ∧ sumTo (fun j => an.getD j 0) j ≤ 100000 * (j : Int) := fun j => by
    induction j with
    | zero => intro _; simp [sumTo]
    | succ j ih =>
      intro h
      have h1 := ih (by omega)
      have h2 := hb j (by omega)
      rw [sumTo_succ]
      omega
  have gset : ∀ (l : List Int) (x : Int), l.length = sd.length → (ivs l ++ w).set (sd.length - 1) (iv x) = ivs (l.set (sd.length - 1) x) ++ w := fun l x h => ivs_setz x (by omega)
  have gg : ∀ (x : Int) j, j < sd.length - 1 → (ivs (an.set (sd.length - 1) x) ++ w)[j]? = some (iv (an.getD j 0)) := fun x j h => by
    rw [List.getElem?_append_left (by rw [ivs_length, List.length_set]; omega), ivs_get (by rw [List.length_set]; omega), getD_set (by omega), if_neg (by omega)]
  have gl2 : ∀ (x : Int), (ivs (an.set (sd.length - 1) x) ++ w)[sd.length - 1]? = some (iv x) := fun x => by
    rw [List.getElem?_append_left (by rw [ivs_length, List.length_set]; omega), ivs_get (by rw [List.length_set]; omega), getD_set (by omega), if_pos rfl]
  have hj1 : (sd.length : Int) - 1 = ((sd.length - 1 : Nat) : Int) := by omega
  refine fn_enter Try.func78 rfl Try.ntmps78 (by simp) ?_
  repeat' (first | ((with_reducible apply kP (.box 41 _)); refine sBA (fun b4 => ?_)) | ((with_reducible apply kN); refine st1 ?_ (hl := gl an ha)) | ((with_reducible apply kP (.slice 39 _ none (some _) none)); refine sP ?_ (o_sliceH0 (scTOf rfl) rfl rfl hj1 (by omega))) | ((with_reducible apply kDP (.slice 39 _ none (some _) none)); refine dP ?_ (hX := rfl) (hv := o_sliceH0 (scTOf rfl) rfl rfl hj1 (by omega))) | ((with_reducible apply kQO (.slice 39 _ none (some _) none)); refine qP ?_ (o_sliceH0 (scTOf rfl) rfl rfl hj1 (by omega))) | (with_reducible first | refine c_seq ?_ | refine c_reg ?_ | refine c_region ?_ | refine c_block ?_ | refine c_skip ?_ | refine c_exit ?_ | refine c_ret ?_ | refine s_nil ?_ | refine x_then ?_ | refine x_then_exit ?_ | refine x_then_ret ?_ | refine x_block ?_ | refine x_block_ret ?_ | refine x_block_same ?_ | refine x_block_other (by first | rfl | decide) ?_ | refine q_nil ?_ | refine k_nil ?_) | ((with_reducible apply kN); first | refine stP ?_ | refine stI ?_ | refine st1 ?_ | refine stW ?_) | ((with_reducible apply kP (.box _ _)); first | refine sBA (fun b => ?_) | refine sB (fun b => ?_)) | ((with_reducible apply kP _); refine sP ?_) | ((with_reducible apply kP _); refine sX ?_) | ((with_reducible apply kC); first | refine cT ?_ | refine cF ?_ | (refine cI (fun h => ?_) (fun h => ?_) <;> (try (exfalso; omega))) | refine cB (fun h => ?_) (fun h => ?_)))
  rw [show (ivs an ++ w).set (sd.length - 1) (.int .i64 (180 * ((sd.length : Int) - 2))) = ivs (an.set (sd.length - 1) (180 * ((sd.length : Int) - 2) - sumTo (fun j => an.getD j 0) 0)) ++ w by rw [show sumTo (fun j => an.getD j 0) 0 = 0 from rfl, Int.sub_zero]; exact gset an _ ha]
  refine c_loop (fun j : Nat => [(1, .pointer (some ⟨b4, 0, none⟩)), (2, iv sd.length), (20, .slice (some ⟨b, 0, none⟩) (sd.length - 1) cb), (21, iv (sd.length - 1 : Nat)), (22, iv j)])
    (fun j => (b4, [.slice oa sd.length ca, .slice (some ⟨b, 0, none⟩) an.length cb]) :: (b, ivs (an.set (sd.length - 1) (180 * ((sd.length : Int) - 2) - sumTo (fun j => an.getD j 0) j)) ++ w) :: hs) (fun j => j ≤ sd.length - 1) (fun j => sd.length - 1 - j) 0 (Nat.zero_le _) (by repeat' first | trivial | rfl | apply And.intro) (.refl _) ?_
  intro j hj
  have hsj := gs j hj
  by_cases hj' : j < sd.length - 1
  · have hbj := hb j hj'
    have ggj := gg (180 * ((sd.length : Int) - 2) - sumTo (fun j => an.getD j 0) j) j hj'
    have gl3 : sd.length - 1 < (ivs (an.set (sd.length - 1) (180 * ((sd.length : Int) - 2) - sumTo (fun j => an.getD j 0) j)) ++ w).length := gl _ (by rw [List.length_set]; exact ha)
    have e5 : ∀ v : Int, (ivs (an.set (sd.length - 1) (180 * ((sd.length : Int) - 2) - sumTo (fun j => an.getD j 0) j)) ++ w).set (sd.length - 1) (.int .i64 v) = ivs (an.set (sd.length - 1) v) ++ w := fun v => by
      have := gset (an.set (sd.length - 1) (180 * ((sd.length : Int) - 2) - sumTo (fun j => an.getD j 0) j)) v (by rw [List.length_set]; exact ha)
      rw [List.set_set] at this
      exact this
    have gl2j := gl2 (180 * ((sd.length : Int) - 2) - sumTo (fun j => an.getD j 0) j)
    have e6 : (180 * ((sd.length : Int) - 2) - sumTo (fun j => an.getD j 0) j) - an.getD j 0 = 180 * ((sd.length : Int) - 2) - sumTo (fun j => an.getD j 0) (j + 1) := by rw [sumTo_succ]; omega
    repeat' (first | ((with_reducible apply kP (.load 3 (.tmp 24))); refine sP ?_ (o_load rfl (ld_one (shTOf rfl) (own MMt ggj)))) | ((with_reducible apply kDP (.load 3 (.tmp 24))); refine dP ?_ (hX := rfl) (hv := o_load rfl (ld_one (shTOf rfl) (own MMt ggj)))) | ((with_reducible apply kQO (.load 3 (.tmp 24))); refine qP ?_ (o_load rfl (ld_one (shTOf rfl) (own MMt ggj)))) | ((with_reducible apply kP (.load 3 (.tmp 30))); refine sP ?_ (o_load rfl (ld_one (shTOf rfl) (own MMt gl2j)))) | ((with_reducible apply kDP (.load 3 (.tmp 30))); refine dP ?_ (hX := rfl) (hv := o_load rfl (ld_one (shTOf rfl) (own MMt gl2j)))) | ((with_reducible apply kQO (.load 3 (.tmp 30))); refine qP ?_ (o_load rfl (ld_one (shTOf rfl) (own MMt gl2j)))) | ((with_reducible apply kN); refine st1 ?_ (hl := gl3)) | (with_reducible first | refine c_seq ?_ | refine c_reg ?_ | refine c_region ?_ | refine c_block ?_ | refine c_skip ?_ | refine c_exit ?_ | refine c_ret ?_ | refine s_nil ?_ | refine x_then ?_ | refine x_then_exit ?_ | refine x_then_ret ?_ | refine x_block ?_ | refine x_block_ret ?_ | refine x_block_same ?_ | refine x_block_other (by first | rfl | decide) ?_ | refine q_nil ?_ | refine k_nil ?_) | ((with_reducible apply kN); first | refine stP ?_ | refine stI ?_ | refine st1 ?_ | refine stW ?_) | ((with_reducible apply kP (.box _ _)); first | refine sBA (fun b => ?_) | refine sB (fun b => ?_)) | ((with_reducible apply kP _); refine sP ?_) | ((with_reducible apply kP _); refine sX ?_) | ((with_reducible apply kC); first | refine cT ?_ | refine cF ?_ | (refine cI (fun h => ?_) (fun h => ?_) <;> (try (exfalso; omega))) | refine cB (fun h => ?_) (fun h => ?_)))
    rw [e5, e6]
    exact r_end (j + 1) hj' (by omega) (by repeat' first | trivial | rfl | apply And.intro) (.refl _)
  · obtain rfl : sd.length - 1 = j := by omega
    repeat' (first | (with_reducible first | refine c_seq ?_ | refine c_reg ?_ | refine c_region ?_ | refine c_block ?_ | refine c_skip ?_ | refine c_exit ?_ | refine c_ret ?_ | refine s_nil ?_ | refine x_then ?_ | refine x_then_exit ?_ | refine x_then_ret ?_ | refine x_block ?_ | refine x_block_ret ?_ | refine x_block_same ?_ | refine x_block_other (by first | rfl | decide) ?_ | refine q_nil ?_ | refine k_nil ?_) | ((with_reducible apply kN); first | refine stP ?_ | refine stI ?_ | refine st1 ?_ | refine stW ?_) | ((with_reducible apply kP (.box _ _)); first | refine sBA (fun b => ?_) | refine sB (fun b => ?_)) | ((with_reducible apply kP _); refine sP ?_) | ((with_reducible apply kP _); refine sX ?_) | ((with_reducible apply kC); first | refine cT ?_ | refine cF ?_ | (refine cI (fun h => ?_) (fun h => ?_) <;> (try (exfalso; omega))) | refine cB (fun h => ?_) (fun h => ?_)))
    exact e_ret0 rfl ⟨rfl, rfl⟩ (.cons _ (.refl _))
end Go.Proofs.Ytnbickholedckaa
