/- Texts of this claim, put together; the parts that it needs. -/
import Derived.Test.YtnbickholedckaaGreatDoorQ6
namespace Go.Proofs.YtnbickholedckaaGreatDoor
open Go.RowKit
/-- A piece, and where its numbers lie. -/
structure Pc where
  oa : Option Addr
  ca : Nat
  sd : List Int
  ob : Option Addr
  cb : Nat
  an : List Int
instance : Inhabited Pc := ⟨⟨none, 0, [], none, 0, []⟩⟩
def pcv (p : Pc) : List Value := [.slice p.oa p.sd.length p.ca, .slice p.ob p.an.length p.cb]
def pcsv : List Pc → List Value
  | [] => []
  | p :: ps => pcv p ++ pcsv ps
theorem pcsv_len : ∀ ps : List Pc, (pcsv ps).length = 2 * ps.length
  | [] => rfl
  | p :: ps => by simp [pcsv, pcv, pcsv_len ps]; omega
theorem pcsv_app : ∀ (ps qs : List Pc), pcsv (ps ++ qs) = pcsv ps ++ pcsv qs
  | [], _ => rfl
  | p :: ps, qs => by simp [pcsv, pcsv_app ps qs]
def pcA (ps : List Pc) (i : Nat) : Pc := ps.getD i default
theorem pcsv_at : ∀ (ps : List Pc) (i : Nat), i < ps.length → (pcsv ps)[2 * i]? = some (.slice (pcA ps i).oa (pcA ps i).sd.length (pcA ps i).ca) ∧ (pcsv ps)[2 * i + 1]? = some (.slice (pcA ps i).ob (pcA ps i).an.length (pcA ps i).cb)
  | [], i, h => by simp at h
  | p :: ps, 0, _ => by simp [pcsv, pcv, pcA]
  | p :: ps, i + 1, h => by
    have := pcsv_at ps i (by simpa using h)
    have e : pcA (p :: ps) (i + 1) = pcA ps i := by simp [pcA]
    rw [e]
    simp only [pcsv, pcv, List.cons_append, List.nil_append]
    rw [show 2 * (i + 1) = 2 * i + 1 + 1 by omega, show 2 * i + 1 + 1 + 1 = (2 * i + 1) + 1 + 1 by omega]
    simpa using this
/-- A cap in memory: its pieces, and its seams. -/
structure CapM (B : Nat) (w0 : Wd) (hs : HS) (oP oS : Option Addr) (ps : List Pc) (sm : List Int) : Prop where
  pcs : Sv B w0 hs oP (pcsv ps)
  sds : ∀ i, i < ps.length → Sl B w0 hs (pcA ps i).oa (pcA ps i).sd
  ans : ∀ i, i < ps.length → Sl B w0 hs (pcA ps i).ob (pcA ps i).an
  sms : Sl B w0 hs oS sm
section
variable {B : Nat} {w0 : Wd} {hs hs' : HS} {oP oS : Option Addr} {ps : List Pc} {sm : List Int}
theorem CapM.sub (h : CapM B w0 hs oP oS ps sm) (hsub : hs.Sublist hs') : CapM B w0 hs' oP oS ps sm :=
  ⟨h.pcs.sub hsub, fun i hi => (h.sds i hi).sub hsub, fun i hi => (h.ans i hi).sub hsub, h.sms.sub hsub⟩
theorem Sv.base {a b : Wd} {oa : Option Addr} {l : List Value} (hle : a.le b) (h : Sv B a hs oa l) : Sv B b hs oa l := fun i hi => ⟨(h i hi).1, fun w hw => (h i hi).2 w (hw.base hle)⟩
theorem CapM.base {a b : Wd} (hle : a.le b) (h : CapM B a hs oP oS ps sm) : CapM B b hs oP oS ps sm :=
  ⟨h.pcs.base hle, fun i hi => (h.sds i hi).base hle, fun i hi => (h.ans i hi).base hle, h.sms.base hle⟩
theorem CapM.isS (h : CapM B w0 hs oP oS ps sm) {i : Nat} (hi : i < ps.length) : oP.isSome = true := (h.pcs (2 * i) (by rw [pcsv_len]; omega)).1
theorem CapM.c0 (h : CapM B w0 hs oP oS ps sm) (hsub : hs.Sublist hs') {i : Nat} (hi : i < ps.length) : CellAt B w0 hs' (ea oP (i * 2)) (.slice (pcA ps i).oa (pcA ps i).sd.length (pcA ps i).ca) := fun w hw => by
  rw [Nat.mul_comm i 2, (h.pcs (2 * i) (by rw [pcsv_len]; omega)).2 w (hw.sub hsub)]; exact (pcsv_at ps i hi).1
theorem CapM.c1 (h : CapM B w0 hs oP oS ps sm) (hsub : hs.Sublist hs') {i : Nat} (hi : i < ps.length) : CellAt B w0 hs' (ea oP (i * 2 + 1)) (.slice (pcA ps i).ob (pcA ps i).an.length (pcA ps i).cb) := fun w hw => by
  rw [Nat.mul_comm i 2, (h.pcs (2 * i + 1) (by rw [pcsv_len]; omega)).2 w (hw.sub hsub)]; exact (pcsv_at ps i hi).2
theorem CapM.ld {P : Program} {t : TypeId} (ht : sh P t = some (true, 2)) (h : CapM B w0 hs oP oS ps sm) (hsub : hs.Sublist hs') {i : Nat} (hi : i < ps.length) : Ld P B w0 hs' t (ea oP (i * 2)) (.agg (pcv (pcA ps i)).toArray) := by
  refine ld_2 ht ?_ ?_
  · rw [ea_ea (h.isS hi)]; exact h.c0 hsub hi
  · rw [ea_ea (h.isS hi)]; exact h.c1 hsub hi
end
set_option maxRecDepth 100000 in
set_option maxHeartbeats 8000000 in
theorem k_within (x lo hi : Int) (B : Nat) (w0 : Wd) (hs : HS) : Fn Tryz.prog 16 #[iv x, iv lo, iv hi] B w0 hs (fun v h => v = .bool (decide (lo ≤ x ∧ x ≤ hi)) ∧ h = hs) := by
  by_cases h : lo ≤ x ∧ x ≤ hi
  · rw [show decide (lo ≤ x ∧ x ≤ hi) = true from decide_eq_true h]
    refine fn_enter Tryz.func16 rfl Tryz.ntmps16 (by simp) ?_
    repeat' (first | (with_reducible first | refine c_seq ?_ | refine c_reg ?_ | refine c_region ?_ | refine c_block ?_ | refine c_skip ?_ | refine c_exit ?_ | refine c_ret ?_ | refine s_nil ?_ | refine x_then ?_ | refine x_then_exit ?_ | refine x_then_ret ?_ | refine x_block ?_ | refine x_block_ret ?_ | refine x_block_same ?_ | refine x_block_other (by first | rfl | decide) ?_ | refine q_nil ?_ | refine k_nil ?_) | ((with_reducible apply kG); first | refine gY1 ?_ | refine gN1 ?_ | refine gU1 ?_ | (refine gD1 (fun h => ?_) (fun h => ?_) <;> (try (exfalso; omega))) | refine gB1 (fun h => ?_) (fun h => ?_)) | ((with_reducible apply kP _); refine sP ?_) | ((with_reducible apply kP _); refine sX ?_) | ((with_reducible apply kC); first | refine cT ?_ | refine cF ?_ | (refine cI (fun h => ?_) (fun h => ?_) <;> (try (exfalso; omega))) | refine cB (fun h => ?_) (fun h => ?_)))
    all_goals first
      | exact e_ret1 rfl rfl ⟨rfl, rfl⟩ SCt
      | (exfalso; omega)
      | (refine e_ret1 rfl rfl ⟨?_, rfl⟩ SCt; simp; omega)
  · rw [show decide (lo ≤ x ∧ x ≤ hi) = false from decide_eq_false h]
    refine fn_enter Tryz.func16 rfl Tryz.ntmps16 (by simp) ?_
    repeat' (first | (with_reducible first | refine c_seq ?_ | refine c_reg ?_ | refine c_region ?_ | refine c_block ?_ | refine c_skip ?_ | refine c_exit ?_ | refine c_ret ?_ | refine s_nil ?_ | refine x_then ?_ | refine x_then_exit ?_ | refine x_then_ret ?_ | refine x_block ?_ | refine x_block_ret ?_ | refine x_block_same ?_ | refine x_block_other (by first | rfl | decide) ?_ | refine q_nil ?_ | refine k_nil ?_) | ((with_reducible apply kG); first | refine gY1 ?_ | refine gN1 ?_ | refine gU1 ?_ | (refine gD1 (fun h => ?_) (fun h => ?_) <;> (try (exfalso; omega))) | refine gB1 (fun h => ?_) (fun h => ?_)) | ((with_reducible apply kP _); refine sP ?_) | ((with_reducible apply kP _); refine sX ?_) | ((with_reducible apply kC); first | refine cT ?_ | refine cF ?_ | (refine cI (fun h => ?_) (fun h => ?_) <;> (try (exfalso; omega))) | refine cB (fun h => ?_) (fun h => ?_)))
    all_goals first
      | exact e_ret1 rfl rfl ⟨rfl, rfl⟩ SCt
      | (exfalso; omega)
      | (refine e_ret1 rfl rfl ⟨?_, rfl⟩ SCt; simp; omega)
/-- Which pieces are valid. -/
def sdOK (sd an : List Int) (i : Nat) : Prop := (1 ≤ sd.getD i 0 ∧ sd.getD i 0 ≤ 200) ∧ 1 ≤ an.getD i 0 ∧ an.getD i 0 ≤ 359
instance (sd an : List Int) (i : Nat) : Decidable (sdOK sd an i) := by unfold sdOK; infer_instance
def pcOK (sd an : List Int) : Prop := (3 ≤ sd.length ∧ sd.length ≤ 6) ∧ an.length = sd.length ∧ (∀ i, i < sd.length → sdOK sd an i) ∧ sumTo (fun i => an.getD i 0) sd.length = 180 * ((sd.length : Int) - 2)
instance (sd an : List Int) : Decidable (pcOK sd an) := by unfold pcOK; infer_instance
theorem sum_in {sd an : List Int} {i : Nat} (h : ∀ j, j < i → sdOK sd an j) (hi : i ≤ 6) : 0 ≤ sumTo (fun i => an.getD i 0) i ∧ sumTo (fun i => an.getD i 0) i ≤ 2154 := by
  have h1 := sumTo_nonneg (F := fun i => an.getD i 0) i (fun j hj => by have := (h j hj).2.1; omega)
  have h2 := sumTo_le (F := fun i => an.getD i 0) (b := 359) i (fun j hj => (h j hj).2.2)
  exact ⟨h1, by omega⟩
set_option maxRecDepth 100000 in
set_option maxHeartbeats 8000000 in
theorem k_validPiece (oa ob : Option Addr) (ca cb : Nat) (sd an : List Int) (B : Nat) (w0 : Wd) (hs : HS) (hA : Sl B w0 hs oa sd) (hB : Sl B w0 hs ob an) :
    Fn Tryz.prog 19 #[.agg #[.slice oa sd.length ca, .slice ob an.length cb]] B w0 hs (fun v h => v = .bool (decide (pcOK sd an)) ∧ h = hs) := by
  have kw := fun x lo hi => k_within x lo hi B w0
  by_cases h1 : 3 ≤ sd.length ∧ sd.length ≤ 6
  · by_cases h2 : an.length = sd.length
    · rw [h2]
      refine fn_enter Tryz.func19 rfl Tryz.ntmps19 (by simp) ?_
      repeat' (first | ((with_reducible apply kF 16); refine sC 16 (kw _ _ _ _) ?_) | (with_reducible first | refine c_seq ?_ | refine c_reg ?_ | refine c_region ?_ | refine c_block ?_ | refine c_skip ?_ | refine c_exit ?_ | refine c_ret ?_ | refine s_nil ?_ | refine x_then ?_ | refine x_then_exit ?_ | refine x_then_ret ?_ | refine x_block ?_ | refine x_block_ret ?_ | refine x_block_same ?_ | refine x_block_other (by first | rfl | decide) ?_ | refine q_nil ?_ | refine k_nil ?_) | ((with_reducible apply kG); first | refine gY1 ?_ | refine gN1 ?_ | refine gU1 ?_ | (refine gD1 (fun h => ?_) (fun h => ?_) <;> (try (exfalso; omega))) | refine gB1 (fun h => ?_) (fun h => ?_)) | ((with_reducible apply kP (.box _ _)); first | refine sBA (fun b => ?_) | refine sB (fun b => ?_)) | ((with_reducible apply kP _); refine sP ?_) | ((with_reducible apply kP _); refine sX ?_) | ((with_reducible apply kC); first | refine cT ?_ | refine cF ?_ | (refine cI (fun h => ?_) (fun h => ?_) <;> (try (exfalso; omega))) | refine cB (fun h => ?_) (fun h => ?_)))
      refine c_loop (fun i : Nat => [(1, .pointer (some ⟨b, 0, none⟩)), (3, iv sd.length), (21, iv sd.length), (4, iv (sumTo (fun i => an.getD i 0) i)), (22, iv i)]) (fun _ => (b, [.slice oa sd.length ca, .slice ob sd.length cb]) :: hs) (fun i => i ≤ sd.length ∧ ∀ j, j < i → sdOK sd an j) (fun i => sd.length - i) 0 ⟨Nat.zero_le _, fun j hj => absurd hj (Nat.not_lt_zero j)⟩ (by repeat' first | trivial | rfl | apply And.intro) (.refl _) ?_
      rintro i ⟨hi, hok⟩
      have hs1 := sum_in hok (by omega)
      by_cases hi' : i < sd.length
      · have hb : decide (pcOK sd an) = true → sdOK sd an i := fun h => (of_decide_eq_true h).2.2.1 i hi'
        have hnx : sdOK sd an i → ∀ j, j < i + 1 → sdOK sd an j := fun h j hj => by
          by_cases e : j = i
          · rw [e]; exact h
          · exact hok j (by omega)
        have hoA : oa.isSome = true := hA.any (i := i) hi'
        have hoB : ob.isSome = true := hB.any (i := i) (by omega)
        have hno : ¬ sdOK sd an i → decide (pcOK sd an) = false := fun h => decide_eq_false fun h' => h (h'.2.2.1 i hi')
        by_cases h3 : 1 ≤ sd.getD i 0 ∧ sd.getD i 0 ≤ 200
        · by_cases h4 : 1 ≤ an.getD i 0 ∧ an.getD i 0 ≤ 359
          · repeat' (first | ((with_reducible apply kP (.load 3 _)); refine sP ?_ (o_load rfl (ld_one (shTOf rfl) (Sl.at (by assumption) SBt (by omega))))) | ((with_reducible apply kDP (.load 3 _)); refine dP ?_ (hX := rfl) (hv := o_load rfl (ld_one (shTOf rfl) (Sl.at (by assumption) SBt (by omega))))) | ((with_reducible apply kQO (.load 3 _)); refine qP ?_ (o_load rfl (ld_one (shTOf rfl) (Sl.at (by assumption) SBt (by omega))))) | ((with_reducible apply kF 16); refine sC 16 (kw _ _ _ _) ?_) | (with_reducible first | refine c_seq ?_ | refine c_reg ?_ | refine c_region ?_ | refine c_block ?_ | refine c_skip ?_ | refine c_exit ?_ | refine c_ret ?_ | refine s_nil ?_ | refine x_then ?_ | refine x_then_exit ?_ | refine x_then_ret ?_ | refine x_block ?_ | refine x_block_ret ?_ | refine x_block_same ?_ | refine x_block_other (by first | rfl | decide) ?_ | refine q_nil ?_ | refine k_nil ?_) | ((with_reducible apply kG); first | refine gY1 ?_ | refine gN1 ?_ | refine gU1 ?_ | (refine gD1 (fun h => ?_) (fun h => ?_) <;> (try (exfalso; omega))) | refine gB1 (fun h => ?_) (fun h => ?_)) | ((with_reducible apply kP (.box _ _)); first | refine sBA (fun b => ?_) | refine sB (fun b => ?_)) | ((with_reducible apply kP _); refine sP ?_) | ((with_reducible apply kP _); refine sX ?_) | ((with_reducible apply kC); first | refine cT ?_ | refine cF ?_ | (refine cI (fun h => ?_) (fun h => ?_) <;> (try (exfalso; omega))) | refine cB (fun h => ?_) (fun h => ?_)))
            exact r_end (i + 1) ⟨hi', hnx ⟨h3, h4⟩⟩ (by omega) (by repeat' first | trivial | rfl | apply And.intro) SCt
          · repeat' (first | ((with_reducible apply kP (.load 3 _)); refine sP ?_ (o_load rfl (ld_one (shTOf rfl) (Sl.at (by assumption) SBt (by omega))))) | ((with_reducible apply kDP (.load 3 _)); refine dP ?_ (hX := rfl) (hv := o_load rfl (ld_one (shTOf rfl) (Sl.at (by assumption) SBt (by omega))))) | ((with_reducible apply kQO (.load 3 _)); refine qP ?_ (o_load rfl (ld_one (shTOf rfl) (Sl.at (by assumption) SBt (by omega))))) | ((with_reducible apply kF 16); refine sC 16 (kw _ _ _ _) ?_) | (with_reducible first | refine c_seq ?_ | refine c_reg ?_ | refine c_region ?_ | refine c_block ?_ | refine c_skip ?_ | refine c_exit ?_ | refine c_ret ?_ | refine s_nil ?_ | refine x_then ?_ | refine x_then_exit ?_ | refine x_then_ret ?_ | refine x_block ?_ | refine x_block_ret ?_ | refine x_block_same ?_ | refine x_block_other (by first | rfl | decide) ?_ | refine q_nil ?_ | refine k_nil ?_) | ((with_reducible apply kG); first | refine gY1 ?_ | refine gN1 ?_ | refine gU1 ?_ | (refine gD1 (fun h => ?_) (fun h => ?_) <;> (try (exfalso; omega))) | refine gB1 (fun h => ?_) (fun h => ?_)) | ((with_reducible apply kP (.box _ _)); first | refine sBA (fun b => ?_) | refine sB (fun b => ?_)) | ((with_reducible apply kP _); refine sP ?_) | ((with_reducible apply kP _); refine sX ?_) | ((with_reducible apply kC); first | refine cT ?_ | refine cF ?_ | (refine cI (fun h => ?_) (fun h => ?_) <;> (try (exfalso; omega))) | refine cB (fun h => ?_) (fun h => ?_)))
            rw [hno (fun h => h4 h.2)]
            exact e_ret1 rfl rfl ⟨rfl, rfl⟩ SCt
        · repeat' (first | ((with_reducible apply kP (.load 3 _)); refine sP ?_ (o_load rfl (ld_one (shTOf rfl) (Sl.at (by assumption) SBt (by omega))))) | ((with_reducible apply kDP (.load 3 _)); refine dP ?_ (hX := rfl) (hv := o_load rfl (ld_one (shTOf rfl) (Sl.at (by assumption) SBt (by omega))))) | ((with_reducible apply kQO (.load 3 _)); refine qP ?_ (o_load rfl (ld_one (shTOf rfl) (Sl.at (by assumption) SBt (by omega))))) | ((with_reducible apply kF 16); refine sC 16 (kw _ _ _ _) ?_) | (with_reducible first | refine c_seq ?_ | refine c_reg ?_ | refine c_region ?_ | refine c_block ?_ | refine c_skip ?_ | refine c_exit ?_ | refine c_ret ?_ | refine s_nil ?_ | refine x_then ?_ | refine x_then_exit ?_ | refine x_then_ret ?_ | refine x_block ?_ | refine x_block_ret ?_ | refine x_block_same ?_ | refine x_block_other (by first | rfl | decide) ?_ | refine q_nil ?_ | refine k_nil ?_) | ((with_reducible apply kG); first | refine gY1 ?_ | refine gN1 ?_ | refine gU1 ?_ | (refine gD1 (fun h => ?_) (fun h => ?_) <;> (try (exfalso; omega))) | refine gB1 (fun h => ?_) (fun h => ?_)) | ((with_reducible apply kP (.box _ _)); first | refine sBA (fun b => ?_) | refine sB (fun b => ?_)) | ((with_reducible apply kP _); refine sP ?_) | ((with_reducible apply kP _); refine sX ?_) | ((with_reducible apply kC); first | refine cT ?_ | refine cF ?_ | (refine cI (fun h => ?_) (fun h => ?_) <;> (try (exfalso; omega))) | refine cB (fun h => ?_) (fun h => ?_)))
          rw [hno (fun h => h3 h.1)]
          exact e_ret1 rfl rfl ⟨rfl, rfl⟩ SCt
      · obtain rfl : sd.length = i := by omega
        repeat' (first | (with_reducible first | refine c_seq ?_ | refine c_reg ?_ | refine c_region ?_ | refine c_block ?_ | refine c_skip ?_ | refine c_exit ?_ | refine c_ret ?_ | refine s_nil ?_ | refine x_then ?_ | refine x_then_exit ?_ | refine x_then_ret ?_ | refine x_block ?_ | refine x_block_ret ?_ | refine x_block_same ?_ | refine x_block_other (by first | rfl | decide) ?_ | refine q_nil ?_ | refine k_nil ?_) | ((with_reducible apply kG); first | refine gY1 ?_ | refine gN1 ?_ | refine gU1 ?_ | (refine gD1 (fun h => ?_) (fun h => ?_) <;> (try (exfalso; omega))) | refine gB1 (fun h => ?_) (fun h => ?_)) | ((with_reducible apply kP (.box _ _)); first | refine sBA (fun b => ?_) | refine sB (fun b => ?_)) | ((with_reducible apply kP _); refine sP ?_) | ((with_reducible apply kP _); refine sX ?_) | ((with_reducible apply kC); first | refine cT ?_ | refine cF ?_ | (refine cI (fun h => ?_) (fun h => ?_) <;> (try (exfalso; omega))) | refine cB (fun h => ?_) (fun h => ?_)))
        refine e_ret1 rfl rfl ⟨congrArg Value.bool ?_, rfl⟩ SCt
        rw [decide_eq_decide]
        exact ⟨fun h => ⟨h1, h2, hok, h⟩, fun h => h.2.2.2⟩
    · rw [show decide (pcOK sd an) = false from decide_eq_false fun h => h2 h.2.1]
      refine fn_enter Tryz.func19 rfl Tryz.ntmps19 (by simp) ?_
      repeat' (first | ((with_reducible apply kF 16); refine sC 16 (kw _ _ _ _) ?_) | (with_reducible first | refine c_seq ?_ | refine c_reg ?_ | refine c_region ?_ | refine c_block ?_ | refine c_skip ?_ | refine c_exit ?_ | refine c_ret ?_ | refine s_nil ?_ | refine x_then ?_ | refine x_then_exit ?_ | refine x_then_ret ?_ | refine x_block ?_ | refine x_block_ret ?_ | refine x_block_same ?_ | refine x_block_other (by first | rfl | decide) ?_ | refine q_nil ?_ | refine k_nil ?_) | ((with_reducible apply kG); first | refine gY1 ?_ | refine gN1 ?_ | refine gU1 ?_ | (refine gD1 (fun h => ?_) (fun h => ?_) <;> (try (exfalso; omega))) | refine gB1 (fun h => ?_) (fun h => ?_)) | ((with_reducible apply kP (.box _ _)); first | refine sBA (fun b => ?_) | refine sB (fun b => ?_)) | ((with_reducible apply kP _); refine sP ?_) | ((with_reducible apply kP _); refine sX ?_) | ((with_reducible apply kC); first | refine cT ?_ | refine cF ?_ | (refine cI (fun h => ?_) (fun h => ?_) <;> (try (exfalso; omega))) | refine cB (fun h => ?_) (fun h => ?_)))
      all_goals first
        | exact e_ret1 rfl rfl ⟨rfl, rfl⟩ SCt
        | (exfalso; omega)
  · rw [show decide (pcOK sd an) = false from decide_eq_false fun h => h1 h.1]
    refine fn_enter Tryz.func19 rfl Tryz.ntmps19 (by simp) ?_
    repeat' (first | ((with_reducible apply kF 16); refine sC 16 (kw _ _ _ _) ?_) | (with_reducible first | refine c_seq ?_ | refine c_reg ?_ | refine c_region ?_ | refine c_block ?_ | refine c_skip ?_ | refine c_exit ?_ | refine c_ret ?_ | refine s_nil ?_ | refine x_then ?_ | refine x_then_exit ?_ | refine x_then_ret ?_ | refine x_block ?_ | refine x_block_ret ?_ | refine x_block_same ?_ | refine x_block_other (by first | rfl | decide) ?_ | refine q_nil ?_ | refine k_nil ?_) | ((with_reducible apply kG); first | refine gY1 ?_ | refine gN1 ?_ | refine gU1 ?_ | (refine gD1 (fun h => ?_) (fun h => ?_) <;> (try (exfalso; omega))) | refine gB1 (fun h => ?_) (fun h => ?_)) | ((with_reducible apply kP (.box _ _)); first | refine sBA (fun b => ?_) | refine sB (fun b => ?_)) | ((with_reducible apply kP _); refine sP ?_) | ((with_reducible apply kP _); refine sX ?_) | ((with_reducible apply kC); first | refine cT ?_ | refine cF ?_ | (refine cI (fun h => ?_) (fun h => ?_) <;> (try (exfalso; omega))) | refine cB (fun h => ?_) (fun h => ?_)))
    exact e_ret1 rfl rfl ⟨rfl, rfl⟩ SCt
end Go.Proofs.YtnbickholedckaaGreatDoor
namespace Go.Proofs.YtnbickholedckaaGreatDoor
open Go.RowKit
theorem mp106 : mpt Tryz.prog 78 = some (true, 2, .bool false) := by kernel_rfl
theorem eq107 : eqt Tryz.prog 80 = some 2 := by kernel_rfl
def sdF (ps : List Pc) (i : Nat) : List Int := (pcA ps i).sd
def anF (ps : List Pc) (i : Nat) : List Int := (pcA ps i).an
theorem o_fieldE {P : Program} {n : NN} {B : Nat} {w0 : Wd} {fr : FR} {hs : HS} {ty s : TypeId} {x : Operand} {f o k i off : Nat} {b : Bool} {oa : Option Addr} (hx : opv fr x = some (.pointer (some (ea oa i)))) (h1 : oa.isSome = true) (hf : fo P s f = some (o, b, k + 1)) (ho : i + o = off) : OpF P n B w0 (.fieldAddr s x f) ty fr hs (.pointer (some (ea oa off))) := by
  rw [← ho, ← ea_ea h1]; exact o_fieldAddr hx hf
set_option maxRecDepth 100000 in
set_option maxHeartbeats 8000000 in
theorem k_lam (p : Pc) (B : Nat) (w0 : Wd) (hs : HS) (hA : Sl B w0 hs p.oa p.sd) (hB : Sl B w0 hs p.ob p.an) : Fn Tryz.prog 18 #[.agg (pcv p).toArray] B w0 hs (fun v h => v = .bool (!decide (pcOK p.sd p.an)) ∧ h = hs) := by
  have kv := fun hs' (h : hs.Sublist hs') => k_validPiece p.oa p.ob p.ca p.cb p.sd p.an B w0 hs' (hA.sub h) (hB.sub h)
  unfold pcv
  refine fn_enter Tryz.func18 rfl Tryz.ntmps18 (by simp) ?_
  repeat' (first | ((with_reducible apply kF 19); refine sC 19 (kv _ SBt) ?_) | (with_reducible first | refine c_seq ?_ | refine c_reg ?_ | refine c_region ?_ | refine c_block ?_ | refine c_skip ?_ | refine c_exit ?_ | refine c_ret ?_ | refine s_nil ?_ | refine x_then ?_ | refine x_then_exit ?_ | refine x_then_ret ?_ | refine x_block ?_ | refine x_block_ret ?_ | refine x_block_same ?_ | refine x_block_other (by first | rfl | decide) ?_ | refine q_nil ?_ | refine k_nil ?_) | ((with_reducible apply kP (.box _ _)); first | refine sBA (fun b => ?_) | refine sB (fun b => ?_)) | ((with_reducible apply kP _); refine sP ?_) | ((with_reducible apply kP _); refine sX ?_) | ((with_reducible apply kC); first | refine cT ?_ | refine cF ?_ | (refine cI (fun h => ?_) (fun h => ?_) <;> (try (exfalso; omega))) | refine cB (fun h => ?_) (fun h => ?_)))
  exact e_ret1 rfl rfl ⟨congrArg Value.bool (by simp), rfl⟩ SCt
/-- All pieces are valid. -/
def allOK (n : Nat) (sd an : Nat → List Int) : Prop := ∀ i, i < n → pcOK (sd i) (an i)
instance (n : Nat) (sd an : Nat → List Int) : Decidable (allOK n sd an) := by unfold allOK; infer_instance
set_option maxRecDepth 100000 in
set_option maxHeartbeats 8000000 in
theorem k_Index (ps : List Pc) (oP oS : Option Addr) (cP : Nat) (sm : List Int) (hn : ps.length ≤ 10000) (B : Nat) (w0 : Wd) (hs : HS) (hC : CapM B w0 hs oP oS ps sm) :
    Fn Tryz.prog 33 #[.slice oP ps.length cP, .func (.func 18) #[] #[]] B w0 hs (fun v h => (∃ z : Int, v = iv z ∧ (0 ≤ z ↔ ¬ allOK ps.length (sdF ps) (anF ps)) ∧ InI z) ∧ h = hs) := by
  refine fn_enter Tryz.func33 rfl Tryz.ntmps33 (by simp) ?_
  repeat' (first | (with_reducible first | refine c_seq ?_ | refine c_reg ?_ | refine c_region ?_ | refine c_block ?_ | refine c_skip ?_ | refine c_exit ?_ | refine c_ret ?_ | refine s_nil ?_ | refine x_then ?_ | refine x_then_exit ?_ | refine x_then_ret ?_ | refine x_block ?_ | refine x_block_ret ?_ | refine x_block_same ?_ | refine x_block_other (by first | rfl | decide) ?_ | refine q_nil ?_ | refine k_nil ?_) | ((with_reducible apply kP _); refine sP ?_) | ((with_reducible apply kP _); refine sX ?_) | ((with_reducible apply kC); first | refine cT ?_ | refine cF ?_ | (refine cI (fun h => ?_) (fun h => ?_) <;> (try (exfalso; omega))) | refine cB (fun h => ?_) (fun h => ?_)))
  refine c_loop (fun i : Nat => [(0, .slice oP ps.length cP), (1, .func (.func 18) #[] #[]), (7, iv ps.length), (8, iv i)]) (fun _ => hs) (fun i => i ≤ ps.length ∧ ∀ j, j < i → pcOK (sdF ps j) (anF ps j)) (fun i => ps.length - i) 0 ⟨Nat.zero_le _, fun j hj => absurd hj (Nat.not_lt_zero j)⟩ (by repeat' first | trivial | rfl | apply And.intro) (.refl _) ?_
  rintro i ⟨hi, hok⟩
  by_cases hi' : i < ps.length
  · have hoP := hC.isS hi'
    have hld := fun hs' (h : hs.Sublist hs') => hC.ld (P := Tryz.prog) (t := 29) (shTOf rfl) h hi'
    have kl := fun hs' (h : hs.Sublist hs') => k_lam (pcA ps i) B w0 hs' ((hC.sds i hi').sub h) ((hC.ans i hi').sub h)
    by_cases hp : pcOK (sdF ps i) (anF ps i)
    · have hp' : decide (pcOK (pcA ps i).sd (pcA ps i).an) = true := decide_eq_true hp
      rw [hp'] at kl
      repeat' (first | ((with_reducible apply kP (.load 29 _)); refine sP ?_ (o_load rfl (hld _ SBt))) | ((with_reducible apply kDP (.load 29 _)); refine dP ?_ (hX := rfl) (hv := o_load rfl (hld _ SBt))) | ((with_reducible apply kQO (.load 29 _)); refine qP ?_ (o_load rfl (hld _ SBt))) | ((with_reducible apply kT 11); refine sF (t := 11) (g := 18) (kl _ SBt) ?_ (goF rfl)) | (with_reducible first | refine c_seq ?_ | refine c_reg ?_ | refine c_region ?_ | refine c_block ?_ | refine c_skip ?_ | refine c_exit ?_ | refine c_ret ?_ | refine s_nil ?_ | refine x_then ?_ | refine x_then_exit ?_ | refine x_then_ret ?_ | refine x_block ?_ | refine x_block_ret ?_ | refine x_block_same ?_ | refine x_block_other (by first | rfl | decide) ?_ | refine q_nil ?_ | refine k_nil ?_) | ((with_reducible apply kP _); refine sP ?_) | ((with_reducible apply kP _); refine sX ?_) | ((with_reducible apply kC); first | refine cT ?_ | refine cF ?_ | (refine cI (fun h => ?_) (fun h => ?_) <;> (try (exfalso; omega))) | refine cB (fun h => ?_) (fun h => ?_)))
      refine r_end (i + 1) ⟨hi', fun j hj => ?_⟩ (by omega) (by repeat' first | trivial | rfl | apply And.intro) SCt
      by_cases e : j = i
      · rw [e]; exact hp
      · exact hok j (by omega)
    · have hp' : decide (pcOK (pcA ps i).sd (pcA ps i).an) = false := decide_eq_false hp
      rw [hp'] at kl
      repeat' (first | ((with_reducible apply kP (.load 29 _)); refine sP ?_ (o_load rfl (hld _ SBt))) | ((with_reducible apply kDP (.load 29 _)); refine dP ?_ (hX := rfl) (hv := o_load rfl (hld _ SBt))) | ((with_reducible apply kQO (.load 29 _)); refine qP ?_ (o_load rfl (hld _ SBt))) | ((with_reducible apply kT 11); refine sF (t := 11) (g := 18) (kl _ SBt) ?_ (goF rfl)) | (with_reducible first | refine c_seq ?_ | refine c_reg ?_ | refine c_region ?_ | refine c_block ?_ | refine c_skip ?_ | refine c_exit ?_ | refine c_ret ?_ | refine s_nil ?_ | refine x_then ?_ | refine x_then_exit ?_ | refine x_then_ret ?_ | refine x_block ?_ | refine x_block_ret ?_ | refine x_block_same ?_ | refine x_block_other (by first | rfl | decide) ?_ | refine q_nil ?_ | refine k_nil ?_) | ((with_reducible apply kP _); refine sP ?_) | ((with_reducible apply kP _); refine sX ?_) | ((with_reducible apply kC); first | refine cT ?_ | refine cF ?_ | (refine cI (fun h => ?_) (fun h => ?_) <;> (try (exfalso; omega))) | refine cB (fun h => ?_) (fun h => ?_)))
      exact e_ret1 rfl rfl ⟨⟨i, rfl, ⟨fun _ h => hp (h i hi'), fun _ => by omega⟩, ⟨by omega, by omega⟩⟩, rfl⟩ SCt
  · obtain rfl : ps.length = i := by omega
    repeat' (first | (with_reducible first | refine c_seq ?_ | refine c_reg ?_ | refine c_region ?_ | refine c_block ?_ | refine c_skip ?_ | refine c_exit ?_ | refine c_ret ?_ | refine s_nil ?_ | refine x_then ?_ | refine x_then_exit ?_ | refine x_then_ret ?_ | refine x_block ?_ | refine x_block_ret ?_ | refine x_block_same ?_ | refine x_block_other (by first | rfl | decide) ?_ | refine q_nil ?_ | refine k_nil ?_) | ((with_reducible apply kP _); refine sP ?_) | ((with_reducible apply kP _); refine sX ?_) | ((with_reducible apply kC); first | refine cT ?_ | refine cF ?_ | (refine cI (fun h => ?_) (fun h => ?_) <;> (try (exfalso; omega))) | refine cB (fun h => ?_) (fun h => ?_)))
    exact e_ret1 rfl rfl ⟨⟨-1, rfl, ⟨fun h => by omega, fun h => absurd hok h⟩, ⟨by omega, by omega⟩⟩, rfl⟩ SCt
set_option maxRecDepth 100000 in
set_option maxHeartbeats 8000000 in
theorem k_Contains (ps : List Pc) (oP oS : Option Addr) (cP : Nat) (sm : List Int) (hn : ps.length ≤ 10000) (B : Nat) (w0 : Wd) (hs : HS) (hC : CapM B w0 hs oP oS ps sm) :
    Fn Tryz.prog 17 #[.slice oP ps.length cP, .func (.func 18) #[] #[]] B w0 hs (fun v h => v = .bool (!decide (allOK ps.length (sdF ps) (anF ps))) ∧ h = hs) := by
  have ki := fun hs' (h : hs.Sublist hs') => k_Index ps oP oS cP sm hn B w0 hs' (hC.sub h)
  refine fn_enter Tryz.func17 rfl Tryz.ntmps17 (by simp) ?_
  repeat' (first | ((with_reducible apply kF 33); refine sR 33 (ki _ SBt) ?_; rintro u h9 ⟨⟨z, rfl, hz, hzI⟩, rfl⟩) | (with_reducible first | refine c_seq ?_ | refine c_reg ?_ | refine c_region ?_ | refine c_block ?_ | refine c_skip ?_ | refine c_exit ?_ | refine c_ret ?_ | refine s_nil ?_ | refine x_then ?_ | refine x_then_exit ?_ | refine x_then_ret ?_ | refine x_block ?_ | refine x_block_ret ?_ | refine x_block_same ?_ | refine x_block_other (by first | rfl | decide) ?_ | refine q_nil ?_ | refine k_nil ?_) | ((with_reducible apply kP _); refine sP ?_) | ((with_reducible apply kP _); refine sX ?_) | ((with_reducible apply kC); first | refine cT ?_ | refine cF ?_ | (refine cI (fun h => ?_) (fun h => ?_) <;> (try (exfalso; omega))) | refine cB (fun h => ?_) (fun h => ?_)))
  refine e_ret1 rfl rfl ⟨congrArg Value.bool ?_, rfl⟩ SCt
  by_cases h : allOK ps.length (sdF ps) (anF ps)
  · rw [decide_eq_true h, decide_eq_false (fun h' => (hz.1 h') h)]; rfl
  · rw [decide_eq_false h, decide_eq_true (hz.2 h)]; rfl
/-- There is such a side. -/
def hsP (n : Nat) (sd : Nat → List Int) (a i : Int) : Prop := (0 ≤ a ∧ a < (n : Int)) ∧ 0 ≤ i ∧ i < ((sd a.toNat).length : Int)
instance (n : Nat) (sd : Nat → List Int) (a i : Int) : Decidable (hsP n sd a i) := by unfold hsP; infer_instance
set_option maxRecDepth 100000 in
set_option maxHeartbeats 8000000 in
theorem k_hasSide (ps : List Pc) (oP oS : Option Addr) (cP nS cS : Nat) (sm : List Int) (e a i : Int) (B : Nat) (w0 : Wd) (hs : HS) (hC : CapM B w0 hs oP oS ps sm) :
    Fn Tryz.prog 34 #[.agg #[.slice oP ps.length cP, .slice oS nS cS, iv e], iv a, iv i] B w0 hs (fun v h => v = .bool (decide (hsP ps.length (sdF ps) a i)) ∧ h = hs) := by
  by_cases h1 : 0 ≤ a ∧ a < (ps.length : Int)
  · have hl : a.toNat < ps.length := by omega
    have hoP := hC.isS hl
    have h0 := fun hs' (h : hs.Sublist hs') => hC.c0 h hl
    by_cases h2 : 0 ≤ i ∧ i < ((sdF ps a.toNat).length : Int)
    · rw [show decide (hsP ps.length (sdF ps) a i) = true from decide_eq_true ⟨h1, h2⟩]
      unfold sdF at h2
      refine fn_enter Tryz.func34 rfl Tryz.ntmps34 (by simp) ?_
      repeat' (first | ((with_reducible apply kP (.fieldAddr _ _ _)); refine sP ?_ (o_fieldE rfl (by assumption) (foTOf2 rfl rfl) (by with_reducible first | exact bb0 _ | exact bb1 _ | exact bb2 _ _))) | ((with_reducible apply kDP (.fieldAddr _ _ _)); refine dP ?_ (hX := rfl) (hv := o_fieldE rfl (by assumption) (foTOf2 rfl rfl) (by with_reducible first | exact bb0 _ | exact bb1 _ | exact bb2 _ _))) | ((with_reducible apply kQO (.fieldAddr _ _ _)); refine qP ?_ (o_fieldE rfl (by assumption) (foTOf2 rfl rfl) (by with_reducible first | exact bb0 _ | exact bb1 _ | exact bb2 _ _))) | ((with_reducible apply kP (.load 27 _)); refine sP ?_ (o_load rfl (ld_one (shTOf rfl) (h0 _ SBt)))) | ((with_reducible apply kDP (.load 27 _)); refine dP ?_ (hX := rfl) (hv := o_load rfl (ld_one (shTOf rfl) (h0 _ SBt)))) | ((with_reducible apply kQO (.load 27 _)); refine qP ?_ (o_load rfl (ld_one (shTOf rfl) (h0 _ SBt)))) | (with_reducible first | refine c_seq ?_ | refine c_reg ?_ | refine c_region ?_ | refine c_block ?_ | refine c_skip ?_ | refine c_exit ?_ | refine c_ret ?_ | refine s_nil ?_ | refine x_then ?_ | refine x_then_exit ?_ | refine x_then_ret ?_ | refine x_block ?_ | refine x_block_ret ?_ | refine x_block_same ?_ | refine x_block_other (by first | rfl | decide) ?_ | refine q_nil ?_ | refine k_nil ?_) | ((with_reducible apply kG); first | refine gY1 ?_ | refine gN1 ?_ | refine gU1 ?_ | (refine gD1 (fun h => ?_) (fun h => ?_) <;> (try (exfalso; omega))) | refine gB1 (fun h => ?_) (fun h => ?_)) | ((with_reducible apply kP (.box _ _)); first | refine sBA (fun b => ?_) | refine sB (fun b => ?_)) | ((with_reducible apply kP _); refine sP ?_) | ((with_reducible apply kP _); refine sX ?_) | ((with_reducible apply kC); first | refine cT ?_ | refine cF ?_ | (refine cI (fun h => ?_) (fun h => ?_) <;> (try (exfalso; omega))) | refine cB (fun h => ?_) (fun h => ?_)))
      all_goals first
        | exact e_ret1 rfl rfl ⟨rfl, rfl⟩ SCt
        | (refine e_ret1 rfl rfl ⟨congrArg Value.bool ?_, rfl⟩ SCt; first | exact decide_eq_true (by omega) | exact decide_eq_false (by omega))
        | (exfalso; omega)
    · rw [show decide (hsP ps.length (sdF ps) a i) = false from decide_eq_false fun h => h2 h.2]
      unfold sdF at h2
      refine fn_enter Tryz.func34 rfl Tryz.ntmps34 (by simp) ?_
      repeat' (first | ((with_reducible apply kP (.fieldAddr _ _ _)); refine sP ?_ (o_fieldE rfl (by assumption) (foTOf2 rfl rfl) (by with_reducible first | exact bb0 _ | exact bb1 _ | exact bb2 _ _))) | ((with_reducible apply kDP (.fieldAddr _ _ _)); refine dP ?_ (hX := rfl) (hv := o_fieldE rfl (by assumption) (foTOf2 rfl rfl) (by with_reducible first | exact bb0 _ | exact bb1 _ | exact bb2 _ _))) | ((with_reducible apply kQO (.fieldAddr _ _ _)); refine qP ?_ (o_fieldE rfl (by assumption) (foTOf2 rfl rfl) (by with_reducible first | exact bb0 _ | exact bb1 _ | exact bb2 _ _))) | ((with_reducible apply kP (.load 27 _)); refine sP ?_ (o_load rfl (ld_one (shTOf rfl) (h0 _ SBt)))) | ((with_reducible apply kDP (.load 27 _)); refine dP ?_ (hX := rfl) (hv := o_load rfl (ld_one (shTOf rfl) (h0 _ SBt)))) | ((with_reducible apply kQO (.load 27 _)); refine qP ?_ (o_load rfl (ld_one (shTOf rfl) (h0 _ SBt)))) | (with_reducible first | refine c_seq ?_ | refine c_reg ?_ | refine c_region ?_ | refine c_block ?_ | refine c_skip ?_ | refine c_exit ?_ | refine c_ret ?_ | refine s_nil ?_ | refine x_then ?_ | refine x_then_exit ?_ | refine x_then_ret ?_ | refine x_block ?_ | refine x_block_ret ?_ | refine x_block_same ?_ | refine x_block_other (by first | rfl | decide) ?_ | refine q_nil ?_ | refine k_nil ?_) | ((with_reducible apply kG); first | refine gY1 ?_ | refine gN1 ?_ | refine gU1 ?_ | (refine gD1 (fun h => ?_) (fun h => ?_) <;> (try (exfalso; omega))) | refine gB1 (fun h => ?_) (fun h => ?_)) | ((with_reducible apply kP (.box _ _)); first | refine sBA (fun b => ?_) | refine sB (fun b => ?_)) | ((with_reducible apply kP _); refine sP ?_) | ((with_reducible apply kP _); refine sX ?_) | ((with_reducible apply kC); first | refine cT ?_ | refine cF ?_ | (refine cI (fun h => ?_) (fun h => ?_) <;> (try (exfalso; omega))) | refine cB (fun h => ?_) (fun h => ?_)))
      all_goals first
        | exact e_ret1 rfl rfl ⟨rfl, rfl⟩ SCt
        | (refine e_ret1 rfl rfl ⟨congrArg Value.bool ?_, rfl⟩ SCt; first | exact decide_eq_true (by omega) | exact decide_eq_false (by omega))
        | (exfalso; omega)
  · rw [show decide (hsP ps.length (sdF ps) a i) = false from decide_eq_false fun h => h1 h.1]
    refine fn_enter Tryz.func34 rfl Tryz.ntmps34 (by simp) ?_
    repeat' (first | (with_reducible first | refine c_seq ?_ | refine c_reg ?_ | refine c_region ?_ | refine c_block ?_ | refine c_skip ?_ | refine c_exit ?_ | refine c_ret ?_ | refine s_nil ?_ | refine x_then ?_ | refine x_then_exit ?_ | refine x_then_ret ?_ | refine x_block ?_ | refine x_block_ret ?_ | refine x_block_same ?_ | refine x_block_other (by first | rfl | decide) ?_ | refine q_nil ?_ | refine k_nil ?_) | ((with_reducible apply kG); first | refine gY1 ?_ | refine gN1 ?_ | refine gU1 ?_ | (refine gD1 (fun h => ?_) (fun h => ?_) <;> (try (exfalso; omega))) | refine gB1 (fun h => ?_) (fun h => ?_)) | ((with_reducible apply kP (.box _ _)); first | refine sBA (fun b => ?_) | refine sB (fun b => ?_)) | ((with_reducible apply kP _); refine sP ?_) | ((with_reducible apply kP _); refine sX ?_) | ((with_reducible apply kC); first | refine cT ?_ | refine cF ?_ | (refine cI (fun h => ?_) (fun h => ?_) <;> (try (exfalso; omega))) | refine cB (fun h => ?_) (fun h => ?_)))
    all_goals first
      | exact e_ret1 rfl rfl ⟨rfl, rfl⟩ SCt
      | (refine e_ret1 rfl rfl ⟨congrArg Value.bool ?_, rfl⟩ SCt; first | exact decide_eq_true (by omega) | exact decide_eq_false (by omega))
      | (exfalso; omega)
end Go.Proofs.YtnbickholedckaaGreatDoor
namespace Go.Proofs.YtnbickholedckaaGreatDoor
open Go.RowKit
def smA (sm : List Int) (k : Nat) : Int := sm.getD (k * 4) 0
def smI (sm : List Int) (k : Nat) : Int := sm.getD (k * 4 + 1) 0
def smB (sm : List Int) (k : Nat) : Int := sm.getD (k * 4 + 2) 0
def smJ (sm : List Int) (k : Nat) : Int := sm.getD (k * 4 + 3) 0
def usP (sm : List Int) (t : Nat) (p q : Int) : Prop := (smA sm t = p ∧ smI sm t = q) ∨ (smB sm t = p ∧ smJ sm t = q)
instance (sm : List Int) (t : Nat) (p q : Int) : Decidable (usP sm t p q) := by unfold usP; infer_instance
/-- A seam before the k-th uses this side. -/
def usD (sm : List Int) (k : Nat) (p q : Int) : Prop := ¬ ∀ t, t < k → ¬ usP sm t p q
instance (sm : List Int) (k : Nat) (p q : Int) : Decidable (usD sm k p q) := by unfold usD; infer_instance
theorem usD_iff {sm : List Int} {k : Nat} {p q : Int} : usD sm k p q ↔ ∃ t, t < k ∧ usP sm t p q := by
  unfold usD
  constructor
  · intro h
    by_cases h2 : ∃ t, t < k ∧ usP sm t p q
    · exact h2
    · exact absurd (fun t ht hu => h2 ⟨t, ht, hu⟩) h
  · rintro ⟨t, ht, hu⟩ h; exact h t ht hu
def lnS (sd : Nat → List Int) (a i : Int) : Int := (sd a.toNat).getD i.toNat 0
/-- The error of the k-th seam. -/
def seE (n : Nat) (sd : Nat → List Int) (sm : List Int) (e : Int) (k : Nat) : Int :=
  if ¬ (hsP n sd (smA sm k) (smI sm k) ∧ hsP n sd (smB sm k) (smJ sm k)) then 5
  else if (smA sm k = smB sm k ∧ smI sm k = smJ sm k) ∨ usD sm k (smA sm k) (smI sm k) ∨ usD sm k (smB sm k) (smJ sm k) then 7
  else if ¬ (-e ≤ lnS sd (smA sm k) (smI sm k) - lnS sd (smB sm k) (smJ sm k) ∧ lnS sd (smA sm k) (smI sm k) - lnS sd (smB sm k) (smJ sm k) ≤ e) then 8 else 0
/-- The first that is not 0. -/
def fstE (f : Nat → Int) : Nat → Int
  | 0 => 0
  | k + 1 => if fstE f k ≠ 0 then fstE f k else f k
theorem fstE_0 {f : Nat → Int} : ∀ {m : Nat}, (∀ t, t < m → f t = 0) → fstE f m = 0
  | 0, _ => rfl
  | m + 1, h => by
    have h1 := fstE_0 (m := m) (fun t ht => h t (by omega))
    simp only [fstE]
    rw [if_neg (by simp [h1])]
    exact h m (by omega)
theorem fstE_at {f : Nat → Int} {k : Nat} (h : ∀ t, t < k → f t = 0) (hk : f k ≠ 0) : ∀ {m : Nat}, k < m → fstE f m = f k
  | 0, hm => by omega
  | m + 1, hm => by
    by_cases e : k = m
    · subst e; simp only [fstE, fstE_0 h, ne_eq, not_true_eq_false, if_false]
    · simp only [fstE, fstE_at h hk (show k < m by omega)]; exact if_pos hk
theorem fstE_iff {f : Nat → Int} : ∀ {m : Nat}, fstE f m = 0 ↔ ∀ t, t < m → f t = 0
  | 0 => ⟨fun _ t ht => by omega, fun _ => rfl⟩
  | m + 1 => by
    constructor
    · intro h
      simp only [fstE] at h
      by_cases h1 : fstE f m = 0
      · rw [if_neg (by simp [h1])] at h
        intro t ht
        by_cases e : t = m
        · rw [e]; exact h
        · exact fstE_iff.1 h1 t (by omega)
      · rw [if_pos h1] at h; exact absurd h h1
    · exact fstE_0
def vdE (n : Nat) (sd an : Nat → List Int) (m : Nat) (sm : List Int) (e : Int) : Int :=
  if ¬ (1 ≤ n ∧ n ≤ 8) then 4 else if ¬ (0 ≤ e ∧ e ≤ 5) ∨ ¬ allOK n sd an then 1 else fstE (seE n sd sm e) m
theorem seE_5 {n : Nat} {sd : Nat → List Int} {sm : List Int} {e : Int} {k : Nat} (h : ¬ (hsP n sd (smA sm k) (smI sm k) ∧ hsP n sd (smB sm k) (smJ sm k))) : seE n sd sm e k = 5 := by unfold seE; exact if_pos h
theorem seE_7 {n : Nat} {sd : Nat → List Int} {sm : List Int} {e : Int} {k : Nat} (h : hsP n sd (smA sm k) (smI sm k) ∧ hsP n sd (smB sm k) (smJ sm k)) (h1 : (smA sm k = smB sm k ∧ smI sm k = smJ sm k) ∨ usD sm k (smA sm k) (smI sm k) ∨ usD sm k (smB sm k) (smJ sm k)) : seE n sd sm e k = 7 := by
  unfold seE; rw [if_neg (by simp only [h, and_self, not_true_eq_false, not_false_eq_true]), if_pos h1]
theorem seE_8 {n : Nat} {sd : Nat → List Int} {sm : List Int} {e : Int} {k : Nat} (h : hsP n sd (smA sm k) (smI sm k) ∧ hsP n sd (smB sm k) (smJ sm k)) (h1 : ¬ ((smA sm k = smB sm k ∧ smI sm k = smJ sm k) ∨ usD sm k (smA sm k) (smI sm k) ∨ usD sm k (smB sm k) (smJ sm k)))
    (h2 : ¬ (-e ≤ lnS sd (smA sm k) (smI sm k) - lnS sd (smB sm k) (smJ sm k) ∧ lnS sd (smA sm k) (smI sm k) - lnS sd (smB sm k) (smJ sm k) ≤ e)) : seE n sd sm e k = 8 := by
  unfold seE; rw [if_neg (by simp only [h, and_self, not_true_eq_false, not_false_eq_true]), if_neg h1, if_pos h2]
theorem seE_0 {n : Nat} {sd : Nat → List Int} {sm : List Int} {e : Int} {k : Nat} (h : hsP n sd (smA sm k) (smI sm k) ∧ hsP n sd (smB sm k) (smJ sm k)) (h1 : ¬ ((smA sm k = smB sm k ∧ smI sm k = smJ sm k) ∨ usD sm k (smA sm k) (smI sm k) ∨ usD sm k (smB sm k) (smJ sm k)))
    (h2 : -e ≤ lnS sd (smA sm k) (smI sm k) - lnS sd (smB sm k) (smJ sm k) ∧ lnS sd (smA sm k) (smI sm k) - lnS sd (smB sm k) (smJ sm k) ≤ e) : seE n sd sm e k = 0 := by
  unfold seE; rw [if_neg (by simp only [h, and_self, not_true_eq_false, not_false_eq_true]), if_neg h1, if_neg (by simp only [h2, and_self, not_true_eq_false, not_false_eq_true])]
/-- What the map of used sides says. -/
def usS (sm : List Int) (k : Nat) (x : List Int) : Prop := ∃ p q, x = [p, q] ∧ usD sm k p q
theorem usS_2 {sm : List Int} {k : Nat} {p q : Int} : usS sm k [p, q] ↔ usD sm k p q := by
  constructor
  · rintro ⟨a, b, h, hu⟩; simp at h; obtain ⟨rfl, rfl⟩ := h; exact hu
  · intro h; exact ⟨p, q, rfl, h⟩
theorem usS_0 (sm : List Int) (x : List Int) : ¬ usS sm 0 x := by
  rintro ⟨p, q, _, h⟩
  obtain ⟨t, ht, _⟩ := usD_iff.1 h; omega
theorem usS_step (sm : List Int) (k : Nat) (y : List Int) : usS sm (k + 1) y ↔ (usS sm k y ∨ y = [smA sm k, smI sm k]) ∨ y = [smB sm k, smJ sm k] := by
  constructor
  · rintro ⟨p, q, rfl, h⟩
    obtain ⟨t, ht, hu⟩ := usD_iff.1 h
    by_cases e : t = k
    · subst e
      rcases hu with ⟨h1, h2⟩ | ⟨h1, h2⟩
      · exact .inl (.inr (by rw [h1, h2]))
      · exact .inr (by rw [h1, h2])
    · exact .inl (.inl ⟨p, q, rfl, usD_iff.2 ⟨t, by omega, hu⟩⟩)
  · rintro ((⟨p, q, rfl, h⟩ | rfl) | rfl)
    · obtain ⟨t, ht, hu⟩ := usD_iff.1 h
      exact ⟨p, q, rfl, usD_iff.2 ⟨t, by omega, hu⟩⟩
    · exact ⟨_, _, rfl, usD_iff.2 ⟨k, by omega, .inl ⟨rfl, rfl⟩⟩⟩
    · exact ⟨_, _, rfl, usD_iff.2 ⟨k, by omega, .inr ⟨rfl, rfl⟩⟩⟩
/-- What is known of a side's length. -/
theorem ln_in {n : Nat} {sd an : Nat → List Int} (h : allOK n sd an) {a i : Int} (hs : hsP n sd a i) : 1 ≤ lnS sd a i ∧ lnS sd a i ≤ 200 := by
  have := (h a.toNat (by have := hs.1; omega)).2.2.1 i.toNat (by have := hs.2; omega)
  exact this.1
theorem ld_seam {P : Program} {B : Nat} {w0 : Wd} {hs hs' : HS} {t : TypeId} {oS : Option Addr} {sm : List Int} {i : Nat} (ht : sh P t = some (true, 4)) (h : Sl B w0 hs oS sm) (hsub : hs.Sublist hs') (hi : i * 4 + 3 < sm.length) :
    Ld P B w0 hs' t (ea oS (i * 4)) (.agg #[iv (smA sm i), iv (smI sm i), iv (smB sm i), iv (smJ sm i)]) := ld_4S ht h hsub hi
attribute [irreducible] smA smI smB smJ
attribute [local irreducible] OpF Ld CellAt Sl Sv pcA
structure VS where
  i : Nat
  L : Mp
set_option maxRecDepth 100000 in
set_option maxHeartbeats 8000000 in
theorem k_validSeams (ps : List Pc) (oP oS : Option Addr) (cP m cS : Nat) (sm : List Int) (e : Int) (hsm : sm.length = m * 4) (hm : m ≤ 10000) (hok : allOK ps.length (sdF ps) (anF ps)) (he : 0 ≤ e ∧ e ≤ 5) (B : Nat) (w0 : Wd) (hs : HS) (hC : CapM B w0 hs oP oS ps sm) :
    Fn Tryz.prog 20 #[.agg #[.slice oP ps.length cP, .slice oS m cS, iv e]] B w0 hs (fun v h => v = iv (fstE (seE ps.length (sdF ps) sm e) m) ∧ h = hs) := by
  refine fn_enter Tryz.func20 rfl Tryz.ntmps20 (by simp) ?_
  repeat' (first | ((with_reducible apply kP (.makeMap _ _)); refine s_makeMap true (by decide) (fun mp => ?_)) | ((with_reducible apply kRg 7); refine cD [1, 1, 1, 1, 1, 0, 0, 0, 0, 0, 2, 2, 3, 4] ?_) | ((with_reducible apply kRg 10); refine cD [1, 1, 0, 0, 5, 5] ?_) | (with_reducible first | refine c_seq ?_ | refine c_reg ?_ | refine c_region ?_ | refine c_block ?_ | refine c_skip ?_ | refine c_exit ?_ | refine c_ret ?_ | refine s_nil ?_ | refine x_then ?_ | refine x_then_exit ?_ | refine x_then_ret ?_ | refine x_block ?_ | refine x_block_ret ?_ | refine x_block_same ?_ | refine x_block_other (by first | rfl | decide) ?_ | refine q_nil ?_ | refine k_nil ?_) | ((with_reducible apply kG); first | refine gY1 ?_ | refine gN1 ?_ | refine gU1 ?_ | (refine gD1 (fun h => ?_) (fun h => ?_) <;> (try (exfalso; omega))) | refine gB1 (fun h => ?_) (fun h => ?_)) | ((with_reducible apply kN); first | refine stP ?_ | refine stI ?_ | refine st1 ?_ | refine stW ?_) | ((with_reducible apply kP (.alloc _)); refine sA (fun b => ?_)) | ((with_reducible apply kP (.box _ _)); first | refine sBA (fun b => ?_) | refine sB (fun b => ?_)) | ((with_reducible apply kP _); refine sP ?_) | ((with_reducible apply kP _); refine sX ?_) | ((with_reducible apply kQP); refine qP ?_) | ((with_reducible apply kQP); refine qX ?_) | ((with_reducible apply kC); first | refine cT ?_ | refine cF ?_ | (refine cI (fun h => ?_) (fun h => ?_) <;> (try (exfalso; omega))) | refine cB (fun h => ?_) (fun h => ?_)) | ((with_reducible apply kR); refine cQ ?_) | ((with_reducible apply kDN); first | refine dtI ?_ | refine dt1 ?_ | refine dtW ?_) | ((with_reducible apply kDP (.alloc _)); refine dA (fun b => ?_)) | ((with_reducible apply kDP _); refine dP ?_) | ((with_reducible apply kDP _); refine dX ?_))
  refine c_loopM (fun t : VS => ⟨w0.w, (mp, mapO true t.L) :: w0.ms⟩) (fun t : VS => [(1, .pointer (some ⟨b, 0, none⟩)), (3, .map (some mp)), (11, .slice oS m cS), (12, iv m), (13, iv t.i)]) (fun _ => (b, [.slice oP ps.length cP, .slice oS m cS, iv e]) :: hs) (fun t => t.i ≤ m ∧ SnM 2 (usS sm t.i) t.L ∧ ∀ k, k < t.i → seE ps.length (sdF ps) sm e k = 0) (fun t => m - t.i) ⟨0, []⟩ ⟨Nat.zero_le _, SnM.nil 2 (usS_0 sm), fun k hk => absurd hk (Nat.not_lt_zero k)⟩ (.refl _) (by repeat' first | trivial | rfl | apply And.intro) (.refl _) ?_
  rintro ⟨i, L⟩ ⟨hi, hS, hz⟩
  dsimp only at hi hS hz ⊢
  have hle : w0.le ⟨w0.w, (mp, mapO true L) :: w0.ms⟩ := ⟨rfl, .cons _ (.refl _)⟩
  have hC' := hC.base hle
  by_cases hi' : i < m
  · have hoS : oS.isSome = true := hC.sms.any (i := i * 4) (by omega)
    have hld : ∀ hs' : HS, hs.Sublist hs' → Ld Tryz.prog B ⟨w0.w, (mp, mapO true L) :: w0.ms⟩ hs' 39 (ea oS (i * 4)) (.agg #[iv (smA sm i), iv (smI sm i), iv (smB sm i), iv (smJ sm i)]) := fun hs' h => ld_seam (shTOf rfl) hC'.sms h (by omega)
    have kh := fun a j hs' (h : hs.Sublist hs') => k_hasSide ps oP oS cP m cS sm e a j B _ hs' (hC'.sub h)
    have hb1 := hS.look [smA sm i, smI sm i] (b := decide (usD sm i (smA sm i) (smI sm i))) (by rw [decide_eq_true_iff]; exact usS_2.symm)
    have hb2 := hS.look [smB sm i, smJ sm i] (b := decide (usD sm i (smB sm i) (smJ sm i))) (by rw [decide_eq_true_iff]; exact usS_2.symm)
    have hend : ∀ z : Int, seE ps.length (sdF ps) sm e i = z → z ≠ 0 → iv z = iv (fstE (seE ps.length (sdF ps) sm e) m) := fun z h1 h2 => by rw [fstE_at hz (by rw [h1]; exact h2) hi', h1]
    by_cases hh : hsP ps.length (sdF ps) (smA sm i) (smI sm i) ∧ hsP ps.length (sdF ps) (smB sm i) (smJ sm i)
    · have q1 := decide_eq_true hh.1
      have q2 := decide_eq_true hh.2
      have kh1 := kh (smA sm i) (smI sm i)
      have kh2 := kh (smB sm i) (smJ sm i)
      rw [q1] at kh1
      rw [q2] at kh2
      have hl1 := ln_in hok hh.1
      have hl2 := ln_in hok hh.2
      have hC2 := hC.base (a := w0) (b := ⟨w0.w, (mp, mapO true (mset (mset L [smA sm i, smI sm i] (.bool true)) [smB sm i, smJ sm i] (.bool true))) :: w0.ms⟩) ⟨rfl, .cons _ (.refl _)⟩
      have hcA := fun hs' (h : hs.Sublist hs') => hC2.c0 h (i := (smA sm i).toNat) (by have := hh.1.1; omega)
      have hcB := fun hs' (h : hs.Sublist hs') => hC2.c0 h (i := (smB sm i).toNat) (by have := hh.2.1; omega)
      have hsA := (hC2.sds (smA sm i).toNat (by have := hh.1.1; omega))
      have hsB := (hC2.sds (smB sm i).toNat (by have := hh.2.1; omega))
      have hoP := hC.isS (i := (smA sm i).toNat) (by have := hh.1.1; omega)
      have hoA : (pcA ps (smA sm i).toNat).oa.isSome = true := hsA.any (i := (smI sm i).toNat) (by have := hh.1.2; unfold sdF at this; omega)
      have hoB : (pcA ps (smB sm i).toNat).oa.isSome = true := hsB.any (i := (smJ sm i).toNat) (by have := hh.2.2; unfold sdF at this; omega)
      have hS1 : SnM 2 (fun y => usS sm i y ∨ y = [smA sm i, smI sm i]) (mset L [smA sm i, smI sm i] (.bool true)) := hS.step rfl (fun y => Iff.rfl)
      have hS2 : SnM 2 (usS sm (i + 1)) (mset (mset L [smA sm i, smI sm i] (.bool true)) [smB sm i, smJ sm i] (.bool true)) := hS1.step rfl (fun y => usS_step sm i y)
      obtain ⟨⟨A0, A1⟩, A2, A3⟩ := hh.1
      obtain ⟨⟨B0, B1⟩, B2, B3⟩ := hh.2
      unfold sdF at A3 B3
      unfold lnS sdF at hl1 hl2
      repeat' (first | ((with_reducible apply kP (.load 39 _)); refine sP ?_ (o_load rfl (hld _ SBt))) | ((with_reducible apply kDP (.load 39 _)); refine dP ?_ (hX := rfl) (hv := o_load rfl (hld _ SBt))) | ((with_reducible apply kQO (.load 39 _)); refine qP ?_ (o_load rfl (hld _ SBt))) | ((with_reducible apply kN); refine stW ?_ (hf := flat_cons rfl (flat3 rfl rfl rfl))) | ((with_reducible apply kF 34); refine sC 34 (kh1 _ SBt) ?_) | ((with_reducible apply kF 34); refine sC 34 (kh2 _ SBt) ?_) | ((with_reducible apply kP (.lookup _ _ _ _)); refine sP ?_ (hb1 ▸ o_lookup (x := [smA sm i, smI sm i]) mp106 rfl rfl (.head _) rfl hS.len)) | ((with_reducible apply kP (.lookup _ _ _ _)); refine sP ?_ (hb2 ▸ o_lookup (x := [smB sm i, smJ sm i]) mp106 rfl rfl (.head _) rfl hS.len)) | ((with_reducible apply kP (.binOp .eql 80 _ _ _)); refine sP ?_ (o_eqlA2 eq107 rfl rfl)) | ((with_reducible apply kDP (.binOp .eql 80 _ _ _)); refine dP ?_ (hX := rfl) (hv := o_eqlA2 eq107 rfl rfl)) | ((with_reducible apply kQO (.binOp .eql 80 _ _ _)); refine qP ?_ (o_eqlA2 eq107 rfl rfl)) | ((with_reducible apply kRg 10); refine cD [6, 6, 6, 6, 7, 7] ?_) | ((with_reducible apply kDP (.move _)); refine k_pure6 0 rfl (fun w1 _ => o_move rfl) (by decide) ?_) | ((with_reducible apply kDP (.load 80 _)); refine k_pure6 0 rfl (fun w1 _ => o_load rfl (ld_whole (shTOf rfl) MMt rfl)) (by decide) ?_) | ((with_reducible apply kDN); refine k_mapUpdate7 (x := [smA sm i, smI sm i]) (v := .bool true) mp106 rfl rfl rfl rfl rfl hS.len (.head _) ?_) | ((with_reducible apply kDN); refine k_mapUpdate7 (x := [smB sm i, smJ sm i]) (v := .bool true) mp106 rfl rfl rfl rfl rfl hS1.len (.head _) ?_) | ((with_reducible apply kP (.load 3 _)); refine sP ?_ (o_load rfl (ld_one (shTOf rfl) (Sl.at (by assumption) SBt (by omega))))) | ((with_reducible apply kDP (.load 3 _)); refine dP ?_ (hX := rfl) (hv := o_load rfl (ld_one (shTOf rfl) (Sl.at (by assumption) SBt (by omega))))) | ((with_reducible apply kQO (.load 3 _)); refine qP ?_ (o_load rfl (ld_one (shTOf rfl) (Sl.at (by assumption) SBt (by omega))))) | ((with_reducible apply kP (.fieldAddr _ _ _)); refine sP ?_ (o_fieldE rfl (by assumption) (foTOf2 rfl rfl) (by with_reducible first | exact bb0 _ | exact bb1 _ | exact bb2 _ _))) | ((with_reducible apply kDP (.fieldAddr _ _ _)); refine dP ?_ (hX := rfl) (hv := o_fieldE rfl (by assumption) (foTOf2 rfl rfl) (by with_reducible first | exact bb0 _ | exact bb1 _ | exact bb2 _ _))) | ((with_reducible apply kQO (.fieldAddr _ _ _)); refine qP ?_ (o_fieldE rfl (by assumption) (foTOf2 rfl rfl) (by with_reducible first | exact bb0 _ | exact bb1 _ | exact bb2 _ _))) | ((with_reducible apply kP (.load 27 _)); refine sP ?_ (o_load rfl (ld_one (shTOf rfl) (hcA _ SBt)))) | ((with_reducible apply kDP (.load 27 _)); refine dP ?_ (hX := rfl) (hv := o_load rfl (ld_one (shTOf rfl) (hcA _ SBt)))) | ((with_reducible apply kQO (.load 27 _)); refine qP ?_ (o_load rfl (ld_one (shTOf rfl) (hcA _ SBt)))) | ((with_reducible apply kP (.load 27 _)); refine sP ?_ (o_load rfl (ld_one (shTOf rfl) (hcB _ SBt)))) | ((with_reducible apply kDP (.load 27 _)); refine dP ?_ (hX := rfl) (hv := o_load rfl (ld_one (shTOf rfl) (hcB _ SBt)))) | ((with_reducible apply kQO (.load 27 _)); refine qP ?_ (o_load rfl (ld_one (shTOf rfl) (hcB _ SBt)))) | ((with_reducible apply kF 16); refine sC 16 (k_within _ _ _ B _ _) ?_) | ((with_reducible apply kRg 7); refine cD [1, 1, 1, 1, 1, 0, 0, 0, 0, 0, 2, 2, 3, 4] ?_) | (with_reducible first | refine c_seq ?_ | refine c_reg ?_ | refine c_region ?_ | refine c_block ?_ | refine c_skip ?_ | refine c_exit ?_ | refine c_ret ?_ | refine s_nil ?_ | refine x_then ?_ | refine x_then_exit ?_ | refine x_then_ret ?_ | refine x_block ?_ | refine x_block_ret ?_ | refine x_block_same ?_ | refine x_block_other (by first | rfl | decide) ?_ | refine q_nil ?_ | refine k_nil ?_) | ((with_reducible apply kG); first | refine gY1 ?_ | refine gN1 ?_ | refine gU1 ?_ | (refine gD1 (fun h => ?_) (fun h => ?_) <;> (try (exfalso; omega))) | refine gB1 (fun h => ?_) (fun h => ?_)) | ((with_reducible apply kN); first | refine stP ?_ | refine stI ?_ | refine st1 ?_ | refine stW ?_) | ((with_reducible apply kP (.alloc _)); refine sA (fun b => ?_)) | ((with_reducible apply kP (.box _ _)); first | refine sBA (fun b => ?_) | refine sB (fun b => ?_)) | ((with_reducible apply kP _); refine sP ?_) | ((with_reducible apply kP _); refine sX ?_) | ((with_reducible apply kQP); refine qP ?_) | ((with_reducible apply kQP); refine qX ?_) | ((with_reducible apply kC); first | refine cT ?_ | refine cF ?_ | (refine cI (fun h => ?_) (fun h => ?_) <;> (try (exfalso; omega))) | refine cB (fun h => ?_) (fun h => ?_)) | ((with_reducible apply kR); refine cQ ?_) | ((with_reducible apply kDN); first | refine dtI ?_ | refine dt1 ?_ | refine dtW ?_) | ((with_reducible apply kDP (.alloc _)); refine dA (fun b => ?_)) | ((with_reducible apply kDP _); refine dP ?_) | ((with_reducible apply kDP _); refine dX ?_))
      all_goals first
        | (refine Sat.base (a := w0) ⟨rfl, .cons _ (.refl _)⟩ (e_ret1 rfl rfl ⟨hend 7 (seE_7 hh (by first | exact .inl (by assumption) | exact .inr (.inl (by assumption)) | exact .inr (.inr (by assumption)))) (by decide), rfl⟩ SCt))
        | (refine Sat.base (a := w0) ⟨rfl, .cons _ (.refl _)⟩ (e_ret1 rfl rfl ⟨hend 8 (seE_8 hh (by rintro (h | h | h) <;> first | exact absurd h (by assumption)) (by assumption)) (by decide), rfl⟩ SCt))
        | skip
      refine r_endM (⟨i + 1, mset (mset L [smA sm i, smI sm i] (.bool true)) [smB sm i, smJ sm i] (.bool true)⟩ : VS) ⟨hi', hS2, fun k hk => ?_⟩ (by dsimp only; omega) (.refl _) (by repeat' first | trivial | rfl | apply And.intro) SCt
      by_cases ek : k = i
      · rw [ek]; exact seE_0 hh (by rintro (h | h | h) <;> first | exact absurd h (by assumption)) (by first | assumption | exact Decidable.not_not.1 (by assumption))
      · exact hz k (by dsimp only at hk; omega)
    · have h5 := hend 5 (seE_5 hh) (by decide)
      have kh1 := kh (smA sm i) (smI sm i)
      have kh2 := kh (smB sm i) (smJ sm i)
      repeat' (first | ((with_reducible apply kP (.load 39 _)); refine sP ?_ (o_load rfl (hld _ SBt))) | ((with_reducible apply kDP (.load 39 _)); refine dP ?_ (hX := rfl) (hv := o_load rfl (hld _ SBt))) | ((with_reducible apply kQO (.load 39 _)); refine qP ?_ (o_load rfl (hld _ SBt))) | ((with_reducible apply kN); refine stW ?_ (hf := flat_cons rfl (flat3 rfl rfl rfl))) | ((with_reducible apply kF 34); refine sC 34 (kh1 _ SBt) ?_) | ((with_reducible apply kF 34); refine sC 34 (kh2 _ SBt) ?_) | ((with_reducible apply kRg 7); refine cD [1, 1, 1, 1, 1, 0, 0, 0, 0, 0, 2, 2, 3, 4] ?_) | ((with_reducible apply kRg 10); refine cD [1, 1, 0, 0, 5, 5] ?_) | (with_reducible first | refine c_seq ?_ | refine c_reg ?_ | refine c_region ?_ | refine c_block ?_ | refine c_skip ?_ | refine c_exit ?_ | refine c_ret ?_ | refine s_nil ?_ | refine x_then ?_ | refine x_then_exit ?_ | refine x_then_ret ?_ | refine x_block ?_ | refine x_block_ret ?_ | refine x_block_same ?_ | refine x_block_other (by first | rfl | decide) ?_ | refine q_nil ?_ | refine k_nil ?_) | ((with_reducible apply kG); first | refine gY1 ?_ | refine gN1 ?_ | refine gU1 ?_ | (refine gD1 (fun h => ?_) (fun h => ?_) <;> (try (exfalso; omega))) | refine gB1 (fun h => ?_) (fun h => ?_)) | ((with_reducible apply kN); first | refine stP ?_ | refine stI ?_ | refine st1 ?_ | refine stW ?_) | ((with_reducible apply kP (.alloc _)); refine sA (fun b => ?_)) | ((with_reducible apply kP (.box _ _)); first | refine sBA (fun b => ?_) | refine sB (fun b => ?_)) | ((with_reducible apply kP _); refine sP ?_) | ((with_reducible apply kP _); refine sX ?_) | ((with_reducible apply kQP); refine qP ?_) | ((with_reducible apply kQP); refine qX ?_) | ((with_reducible apply kC); first | refine cT ?_ | refine cF ?_ | (refine cI (fun h => ?_) (fun h => ?_) <;> (try (exfalso; omega))) | refine cB (fun h => ?_) (fun h => ?_)) | ((with_reducible apply kR); refine cQ ?_) | ((with_reducible apply kDN); first | refine dtI ?_ | refine dt1 ?_ | refine dtW ?_) | ((with_reducible apply kDP (.alloc _)); refine dA (fun b => ?_)) | ((with_reducible apply kDP _); refine dP ?_) | ((with_reducible apply kDP _); refine dX ?_))
      all_goals first
        | exact Sat.base (a := w0) ⟨rfl, .cons _ (.refl _)⟩ (e_ret1 rfl rfl ⟨h5, rfl⟩ SCt)
        | (exfalso; first | exact hh ⟨by assumption, by assumption⟩ | (refine hh ⟨?_, ?_⟩ <;> first | assumption | exact Decidable.not_not.1 (by assumption)))
        | trace_state
  · obtain rfl : m = i := by omega
    repeat' (first | ((with_reducible apply kRg 7); refine cD [1, 1, 1, 1, 1, 0, 0, 0, 0, 0, 2, 2, 3, 4] ?_) | ((with_reducible apply kRg 10); refine cD [1, 1, 0, 0, 5, 5] ?_) | (with_reducible first | refine c_seq ?_ | refine c_reg ?_ | refine c_region ?_ | refine c_block ?_ | refine c_skip ?_ | refine c_exit ?_ | refine c_ret ?_ | refine s_nil ?_ | refine x_then ?_ | refine x_then_exit ?_ | refine x_then_ret ?_ | refine x_block ?_ | refine x_block_ret ?_ | refine x_block_same ?_ | refine x_block_other (by first | rfl | decide) ?_ | refine q_nil ?_ | refine k_nil ?_) | ((with_reducible apply kG); first | refine gY1 ?_ | refine gN1 ?_ | refine gU1 ?_ | (refine gD1 (fun h => ?_) (fun h => ?_) <;> (try (exfalso; omega))) | refine gB1 (fun h => ?_) (fun h => ?_)) | ((with_reducible apply kN); first | refine stP ?_ | refine stI ?_ | refine st1 ?_ | refine stW ?_) | ((with_reducible apply kP (.alloc _)); refine sA (fun b => ?_)) | ((with_reducible apply kP (.box _ _)); first | refine sBA (fun b => ?_) | refine sB (fun b => ?_)) | ((with_reducible apply kP _); refine sP ?_) | ((with_reducible apply kP _); refine sX ?_) | ((with_reducible apply kQP); refine qP ?_) | ((with_reducible apply kQP); refine qX ?_) | ((with_reducible apply kC); first | refine cT ?_ | refine cF ?_ | (refine cI (fun h => ?_) (fun h => ?_) <;> (try (exfalso; omega))) | refine cB (fun h => ?_) (fun h => ?_)) | ((with_reducible apply kR); refine cQ ?_) | ((with_reducible apply kDN); first | refine dtI ?_ | refine dt1 ?_ | refine dtW ?_) | ((with_reducible apply kDP (.alloc _)); refine dA (fun b => ?_)) | ((with_reducible apply kDP _); refine dP ?_) | ((with_reducible apply kDP _); refine dX ?_))
    exact Sat.base (a := w0) hle (e_ret1 rfl rfl ⟨congrArg iv (fstE_0 hz).symm, rfl⟩ SCt)
end Go.Proofs.YtnbickholedckaaGreatDoor
namespace Go.Proofs.YtnbickholedckaaGreatDoor
open Go.RowKit
attribute [local irreducible] OpF Ld CellAt Sl Sv pcA
set_option maxRecDepth 100000 in
set_option maxHeartbeats 8000000 in
theorem k_Validate (ps : List Pc) (oP oS : Option Addr) (cP m cS : Nat) (sm : List Int) (e : Int) (hn : ps.length ≤ 10000) (hsm : sm.length = m * 4) (hm : m ≤ 10000) (B : Nat) (w0 : Wd) (hs : HS) (hC : CapM B w0 hs oP oS ps sm) :
    Fn Tryz.prog 6 #[.agg #[.slice oP ps.length cP, .slice oS m cS, iv e]] B w0 hs (fun v h => v = iv (vdE ps.length (sdF ps) (anF ps) m sm e) ∧ h = hs) := by
  by_cases h1 : 1 ≤ (ps.length : Int) ∧ (ps.length : Int) ≤ 8
  · by_cases h2 : 0 ≤ e ∧ e ≤ 5
    · have kc := fun hs' (h : hs.Sublist hs') => k_Contains ps oP oS cP sm hn B w0 hs' (hC.sub h)
      by_cases h3 : allOK ps.length (sdF ps) (anF ps)
      · have hv : vdE ps.length (sdF ps) (anF ps) m sm e = fstE (seE ps.length (sdF ps) sm e) m := by
          unfold vdE; rw [if_neg (by omega), if_neg (by rintro (h | h); exact h h2; exact h h3)]
        rw [hv]
        have kv := fun hs' (h : hs.Sublist hs') => k_validSeams ps oP oS cP m cS sm e hsm hm h3 h2 B w0 hs' (hC.sub h)
        rw [show decide (allOK ps.length (sdF ps) (anF ps)) = true from decide_eq_true h3] at kc
        refine fn_enter Tryz.func6 rfl Tryz.ntmps6 (by simp) ?_
        repeat' (first | ((with_reducible apply kF 16); refine sC 16 (k_within _ _ _ B w0 _) ?_) | ((with_reducible apply kF 17); refine sC 17 (kc _ SBt) ?_) | ((with_reducible apply kF 20); refine sC 20 (kv _ SBt) ?_) | (with_reducible first | refine c_seq ?_ | refine c_reg ?_ | refine c_region ?_ | refine c_block ?_ | refine c_skip ?_ | refine c_exit ?_ | refine c_ret ?_ | refine s_nil ?_ | refine x_then ?_ | refine x_then_exit ?_ | refine x_then_ret ?_ | refine x_block ?_ | refine x_block_ret ?_ | refine x_block_same ?_ | refine x_block_other (by first | rfl | decide) ?_ | refine q_nil ?_ | refine k_nil ?_) | ((with_reducible apply kG); first | refine gY1 ?_ | refine gN1 ?_ | refine gU1 ?_ | (refine gD1 (fun h => ?_) (fun h => ?_) <;> (try (exfalso; omega))) | refine gB1 (fun h => ?_) (fun h => ?_)) | ((with_reducible apply kP (.box _ _)); first | refine sBA (fun b => ?_) | refine sB (fun b => ?_)) | ((with_reducible apply kP _); refine sP ?_) | ((with_reducible apply kP _); refine sX ?_) | ((with_reducible apply kC); first | refine cT ?_ | refine cF ?_ | (refine cI (fun h => ?_) (fun h => ?_) <;> (try (exfalso; omega))) | refine cB (fun h => ?_) (fun h => ?_)))
        all_goals first
          | exact e_ret1 rfl rfl ⟨rfl, rfl⟩ SCt
          | (exfalso; omega)
      · have hv : vdE ps.length (sdF ps) (anF ps) m sm e = 1 := by unfold vdE; rw [if_neg (by omega), if_pos (.inr h3)]
        rw [hv]
        rw [show decide (allOK ps.length (sdF ps) (anF ps)) = false from decide_eq_false h3] at kc
        refine fn_enter Tryz.func6 rfl Tryz.ntmps6 (by simp) ?_
        repeat' (first | ((with_reducible apply kF 16); refine sC 16 (k_within _ _ _ B w0 _) ?_) | ((with_reducible apply kF 17); refine sC 17 (kc _ SBt) ?_) | (with_reducible first | refine c_seq ?_ | refine c_reg ?_ | refine c_region ?_ | refine c_block ?_ | refine c_skip ?_ | refine c_exit ?_ | refine c_ret ?_ | refine s_nil ?_ | refine x_then ?_ | refine x_then_exit ?_ | refine x_then_ret ?_ | refine x_block ?_ | refine x_block_ret ?_ | refine x_block_same ?_ | refine x_block_other (by first | rfl | decide) ?_ | refine q_nil ?_ | refine k_nil ?_) | ((with_reducible apply kG); first | refine gY1 ?_ | refine gN1 ?_ | refine gU1 ?_ | (refine gD1 (fun h => ?_) (fun h => ?_) <;> (try (exfalso; omega))) | refine gB1 (fun h => ?_) (fun h => ?_)) | ((with_reducible apply kP (.box _ _)); first | refine sBA (fun b => ?_) | refine sB (fun b => ?_)) | ((with_reducible apply kP _); refine sP ?_) | ((with_reducible apply kP _); refine sX ?_) | ((with_reducible apply kC); first | refine cT ?_ | refine cF ?_ | (refine cI (fun h => ?_) (fun h => ?_) <;> (try (exfalso; omega))) | refine cB (fun h => ?_) (fun h => ?_)))
        all_goals first
          | exact e_ret1 rfl rfl ⟨rfl, rfl⟩ SCt
          | (exfalso; omega)
    · have hv : vdE ps.length (sdF ps) (anF ps) m sm e = 1 := by unfold vdE; rw [if_neg (by omega), if_pos (.inl h2)]
      rw [hv]
      refine fn_enter Tryz.func6 rfl Tryz.ntmps6 (by simp) ?_
      repeat' (first | ((with_reducible apply kF 16); refine sC 16 (k_within _ _ _ B w0 _) ?_) | (with_reducible first | refine c_seq ?_ | refine c_reg ?_ | refine c_region ?_ | refine c_block ?_ | refine c_skip ?_ | refine c_exit ?_ | refine c_ret ?_ | refine s_nil ?_ | refine x_then ?_ | refine x_then_exit ?_ | refine x_then_ret ?_ | refine x_block ?_ | refine x_block_ret ?_ | refine x_block_same ?_ | refine x_block_other (by first | rfl | decide) ?_ | refine q_nil ?_ | refine k_nil ?_) | ((with_reducible apply kG); first | refine gY1 ?_ | refine gN1 ?_ | refine gU1 ?_ | (refine gD1 (fun h => ?_) (fun h => ?_) <;> (try (exfalso; omega))) | refine gB1 (fun h => ?_) (fun h => ?_)) | ((with_reducible apply kP (.box _ _)); first | refine sBA (fun b => ?_) | refine sB (fun b => ?_)) | ((with_reducible apply kP _); refine sP ?_) | ((with_reducible apply kP _); refine sX ?_) | ((with_reducible apply kC); first | refine cT ?_ | refine cF ?_ | (refine cI (fun h => ?_) (fun h => ?_) <;> (try (exfalso; omega))) | refine cB (fun h => ?_) (fun h => ?_)))
      all_goals first
        | exact e_ret1 rfl rfl ⟨rfl, rfl⟩ SCt
        | (exfalso; omega)
  · have hv : vdE ps.length (sdF ps) (anF ps) m sm e = 4 := by unfold vdE; rw [if_pos (by omega)]
    rw [hv]
    refine fn_enter Tryz.func6 rfl Tryz.ntmps6 (by simp) ?_
    repeat' (first | ((with_reducible apply kF 16); refine sC 16 (k_within _ _ _ B w0 _) ?_) | (with_reducible first | refine c_seq ?_ | refine c_reg ?_ | refine c_region ?_ | refine c_block ?_ | refine c_skip ?_ | refine c_exit ?_ | refine c_ret ?_ | refine s_nil ?_ | refine x_then ?_ | refine x_then_exit ?_ | refine x_then_ret ?_ | refine x_block ?_ | refine x_block_ret ?_ | refine x_block_same ?_ | refine x_block_other (by first | rfl | decide) ?_ | refine q_nil ?_ | refine k_nil ?_) | ((with_reducible apply kG); first | refine gY1 ?_ | refine gN1 ?_ | refine gU1 ?_ | (refine gD1 (fun h => ?_) (fun h => ?_) <;> (try (exfalso; omega))) | refine gB1 (fun h => ?_) (fun h => ?_)) | ((with_reducible apply kP (.box _ _)); first | refine sBA (fun b => ?_) | refine sB (fun b => ?_)) | ((with_reducible apply kP _); refine sP ?_) | ((with_reducible apply kP _); refine sX ?_) | ((with_reducible apply kC); first | refine cT ?_ | refine cF ?_ | (refine cI (fun h => ?_) (fun h => ?_) <;> (try (exfalso; omega))) | refine cB (fun h => ?_) (fun h => ?_)))
    all_goals first
      | exact e_ret1 rfl rfl ⟨rfl, rfl⟩ SCt
      | (exfalso; omega)
end Go.Proofs.YtnbickholedckaaGreatDoor
namespace Go.Proofs.YtnbickholedckaaGreatDoor
/-- The first side of a piece. -/
def fsN (sd : Nat → List Int) : Nat → Nat
  | 0 => 0
  | p + 1 => fsN sd p + (sd p).length
theorem fsN_mono {sd : Nat → List Int} {p q : Nat} (h : p ≤ q) : fsN sd p ≤ fsN sd q := by
  induction h with
  | refl => exact Nat.le_refl _
  | step _ ih => simp only [fsN]; omega
/-- The piece of a side. -/
def pcG (sd : Nat → List Int) : Nat → Nat → Nat
  | 0, _ => 0
  | p + 1, x => if fsN sd p ≤ x then p else pcG sd p x
theorem pcG_spec {sd : Nat → List Int} : ∀ {P x : Nat}, x < fsN sd P → pcG sd P x < P ∧ fsN sd (pcG sd P x) ≤ x ∧ x < fsN sd (pcG sd P x + 1)
  | 0, x, h => by simp [fsN] at h
  | P + 1, x, h => by
    simp only [pcG]
    split
    · rename_i h1; exact ⟨by omega, h1, h⟩
    · rename_i h1
      obtain ⟨a, b, c⟩ := pcG_spec (sd := sd) (P := P) (x := x) (by omega)
      exact ⟨by omega, b, c⟩
theorem pcG_uniq {sd : Nat → List Int} {P x q : Nat} (h1 : fsN sd q ≤ x) (h2 : x < fsN sd (q + 1)) (hq : q < P) : pcG sd P x = q := by
  have hx : x < fsN sd P := Nat.lt_of_lt_of_le h2 (fsN_mono (by omega))
  obtain ⟨a, b, c⟩ := pcG_spec hx
  rcases Nat.lt_trichotomy (pcG sd P x) q with h | h | h
  · have := fsN_mono (sd := sd) (p := pcG sd P x + 1) (q := q) (by omega); omega
  · exact h
  · have := fsN_mono (sd := sd) (p := q + 1) (q := pcG sd P x) (by omega); omega
/-- The next side of the same piece, and the one before. -/
def nxN (sd : Nat → List Int) (P x : Nat) : Nat := if x + 1 = fsN sd (pcG sd P x + 1) then fsN sd (pcG sd P x) else x + 1
def pvN (sd : Nat → List Int) (P x : Nat) : Nat := if x = fsN sd (pcG sd P x) then fsN sd (pcG sd P x + 1) - 1 else x - 1
section
variable {sd : Nat → List Int} {P : Nat}
theorem nx_pc {x : Nat} (hx : x < fsN sd P) : pcG sd P (nxN sd P x) = pcG sd P x ∧ nxN sd P x < fsN sd P := by
  obtain ⟨a, b, c⟩ := pcG_spec hx
  have hm := fsN_mono (sd := sd) (p := pcG sd P x + 1) (q := P) (by omega)
  unfold nxN
  split
  · exact ⟨pcG_uniq (Nat.le_refl _) (by omega) a, by omega⟩
  · exact ⟨pcG_uniq (by omega) (by omega) a, by omega⟩
theorem pv_pc {x : Nat} (hx : x < fsN sd P) : pcG sd P (pvN sd P x) = pcG sd P x ∧ pvN sd P x < fsN sd P := by
  obtain ⟨a, b, c⟩ := pcG_spec hx
  have hm := fsN_mono (sd := sd) (p := pcG sd P x + 1) (q := P) (by omega)
  unfold pvN
  split
  · exact ⟨pcG_uniq (by omega) (by omega) a, by omega⟩
  · exact ⟨pcG_uniq (by omega) (by omega) a, by omega⟩
theorem cap_net (sd : Nat → List Int) (P : Nat) : NetN (fsN sd P) (nxN sd P) (pvN sd P) id where
  nl := fun i hi => (nx_pc hi).2
  pl := fun i hi => (pv_pc hi).2
  ml := fun i hi => hi
  np := fun i hi => by
    obtain ⟨a, b, c⟩ := pcG_spec hi
    unfold nxN
    rw [(pv_pc hi).1]
    unfold pvN
    split
    · rename_i h; rw [if_pos (by omega)]; exact h.symm
    · rw [if_neg (by omega)]; omega
  pn := fun i hi => by
    obtain ⟨a, b, c⟩ := pcG_spec hi
    unfold pvN
    rw [(nx_pc hi).1]
    unfold nxN
    split
    · rename_i h; rw [if_pos rfl]; omega
    · rw [if_neg (by omega)]; omega
  mm := fun i _ => rfl
theorem cyc_pc {x y : Nat} (hx : x < fsN sd P) (hy : y < fsN sd P) : rpE (orE (fsN sd P) (nxN sd P)) x = rpE (orE (fsN sd P) (nxN sd P)) y ↔ pcG sd P x = pcG sd P y := by
  constructor
  · exact fun h => rpE_congr (pcG sd P) (fun p hp => by
      obtain ⟨h1, h2⟩ := mem_orE.1 hp
      rw [h2, (nx_pc h1).1]) h
  · have key : ∀ r x, x < fsN sd P → x = fsN sd (pcG sd P x) + r → rpE (orE (fsN sd P) (nxN sd P)) x = rpE (orE (fsN sd P) (nxN sd P)) (fsN sd (pcG sd P x)) := by
      intro r
      induction r with
      | zero => intro x _ hr; rw [Nat.add_zero] at hr; exact congrArg _ hr
      | succ r ih =>
        intro x hx hr
        obtain ⟨a, b, c⟩ := pcG_spec hx
        have hp : pcG sd P (x - 1) = pcG sd P x := pcG_uniq (by omega) (by omega) a
        have h1 := ih (x - 1) (by omega) (by rw [hp]; omega)
        rw [hp] at h1
        rw [← h1]
        have h2 := orE_step (f := nxN sd P) (x := x - 1) (n := fsN sd P) (by omega)
        have h3 : nxN sd P (x - 1) = x := by unfold nxN; rw [hp, if_neg (by omega)]; omega
        rw [h3] at h2
        exact h2.symm
    intro h
    obtain ⟨_, b1, _⟩ := pcG_spec hx
    obtain ⟨_, b2, _⟩ := pcG_spec hy
    rw [key (x - fsN sd (pcG sd P x)) x hx (by omega), key (y - fsN sd (pcG sd P y)) y hy (by omega), h]
theorem cap_zero (hk : ∀ p, p < P → 1 ≤ (sd p).length) : HdN (fsN sd P) (nxN sd P) (pcG sd P) P [] 0 :=
  HdN.zero (fun x y hx hy => cyc_pc hx hy) (fun i hi => (pcG_spec hi).1) (fun p hp => by
    have h1 := hk p hp
    have h2 := fsN_mono (sd := sd) (p := p + 1) (q := P) (by omega)
    have h3 : fsN sd (p + 1) = fsN sd p + (sd p).length := rfl
    exact ⟨fsN sd p, by omega, pcG_uniq (Nat.le_refl _) (by omega) hp⟩)
/-- A side by its piece and its place. -/
def adS (sd : Nat → List Int) (a i : Int) : Nat := fsN sd a.toNat + i.toNat
theorem adS_lt {a i : Int} (h : hsP P sd a i) : adS sd a i < fsN sd P ∧ pcG sd P (adS sd a i) = a.toNat ∧ adS sd a i - fsN sd a.toNat = i.toNat := by
  obtain ⟨⟨a0, a1⟩, i0, i1⟩ := h
  have h3 : fsN sd (a.toNat + 1) = fsN sd a.toNat + (sd a.toNat).length := rfl
  have h2 := fsN_mono (sd := sd) (p := a.toNat + 1) (q := P) (by omega)
  unfold adS
  exact ⟨by omega, pcG_uniq (by omega) (by omega) (by omega), by omega⟩
theorem adS_inj {a i b j : Int} (h : hsP P sd a i) (h' : hsP P sd b j) (e : adS sd a i = adS sd b j) : a = b ∧ i = j := by
  obtain ⟨_, p1, q1⟩ := adS_lt h
  obtain ⟨_, p2, q2⟩ := adS_lt h'
  rw [e, p2] at p1
  rw [e, ← p1, q2] at q1
  obtain ⟨⟨a0, a1⟩, i0, i1⟩ := h
  obtain ⟨⟨b0, b1⟩, j0, j1⟩ := h'
  omega
/-- The seams as pairs of sides. -/
def smL (sd : Nat → List Int) (sm : List Int) (m : Nat) : List (Nat × Nat) := (List.range m).map fun t => (adS sd (smA sm t) (smI sm t), adS sd (smB sm t) (smJ sm t))
theorem smL_succ (sd : Nat → List Int) (sm : List Int) (m : Nat) : smL sd sm (m + 1) = smL sd sm m ++ [(adS sd (smA sm m) (smI sm m), adS sd (smB sm m) (smJ sm m))] := by simp [smL, List.range_succ]
theorem smL_len (sd : Nat → List Int) (sm : List Int) (m : Nat) : (smL sd sm m).length = m := by simp [smL]
theorem seE_z {n : Nat} {sd : Nat → List Int} {sm : List Int} {e : Int} {k : Nat} (h : seE n sd sm e k = 0) : (hsP n sd (smA sm k) (smI sm k) ∧ hsP n sd (smB sm k) (smJ sm k)) ∧ ¬ ((smA sm k = smB sm k ∧ smI sm k = smJ sm k) ∨ usD sm k (smA sm k) (smI sm k) ∨ usD sm k (smB sm k) (smJ sm k)) ∧
    (-e ≤ lnS sd (smA sm k) (smI sm k) - lnS sd (smB sm k) (smJ sm k) ∧ lnS sd (smA sm k) (smI sm k) - lnS sd (smB sm k) (smJ sm k) ≤ e) := by
  by_cases h1 : hsP n sd (smA sm k) (smI sm k) ∧ hsP n sd (smB sm k) (smJ sm k)
  · by_cases h2 : (smA sm k = smB sm k ∧ smI sm k = smJ sm k) ∨ usD sm k (smA sm k) (smI sm k) ∨ usD sm k (smB sm k) (smJ sm k)
    · rw [seE_7 h1 h2] at h; cases h
    · by_cases h3 : -e ≤ lnS sd (smA sm k) (smI sm k) - lnS sd (smB sm k) (smJ sm k) ∧ lnS sd (smA sm k) (smI sm k) - lnS sd (smB sm k) (smJ sm k) ≤ e
      · exact ⟨h1, h2, h3⟩
      · rw [seE_8 h1 h2 h3] at h; cases h
  · rw [seE_5 h1] at h; cases h
theorem mu_used {sm : List Int} : ∀ {m x : Nat}, muS (smL sd sm m) x ≠ x → ∃ t, t < m ∧ (x = adS sd (smA sm t) (smI sm t) ∨ x = adS sd (smB sm t) (smJ sm t))
  | 0, x, h => absurd rfl h
  | m + 1, x, h => by
    rw [smL_succ, muS_snoc] at h
    unfold updM at h
    by_cases h1 : x = adS sd (smA sm m) (smI sm m)
    · exact ⟨m, by omega, .inl h1⟩
    · by_cases h2 : x = adS sd (smB sm m) (smJ sm m)
      · exact ⟨m, by omega, .inr h2⟩
      · simp only [h1, h2, if_false] at h
        obtain ⟨t, ht, hh⟩ := mu_used h
        exact ⟨t, by omega, hh⟩
/-- Valid seams join free sides. -/
theorem smL_ok {sm : List Int} {e : Int} : ∀ {m : Nat}, (∀ t, t < m → seE P sd sm e t = 0) → OkS (fsN sd P) (smL sd sm m)
  | 0, _ => .nil
  | m + 1, h => by
    obtain ⟨⟨hA, hB⟩, hn, _⟩ := seE_z (h m (by omega))
    rw [smL_succ]
    have key : ∀ {a i : Int}, hsP P sd a i → ¬ usD sm m a i → muS (smL sd sm m) (adS sd a i) = adS sd a i := by
      intro a i hs hu
      by_cases hf : muS (smL sd sm m) (adS sd a i) = adS sd a i
      · exact hf
      · obtain ⟨t, ht, hh⟩ := mu_used hf
        obtain ⟨⟨tA, tB⟩, _⟩ := seE_z (h t (by omega))
        refine absurd (usD_iff.2 ⟨t, ht, ?_⟩) hu
        rcases hh with hh | hh
        · obtain ⟨e1, e2⟩ := adS_inj hs tA hh; exact .inl ⟨e1.symm, e2.symm⟩
        · obtain ⟨e1, e2⟩ := adS_inj hs tB hh; exact .inr ⟨e1.symm, e2.symm⟩
    refine .snoc (smL_ok fun t ht => h t (by omega)) (adS_lt hA).1 (adS_lt hB).1 (fun e => hn (.inl (adS_inj hA hB e))) (key hA fun hu => hn (.inr (.inl hu))) (key hB fun hu => hn (.inr (.inr hu)))
/-- The partners as numbers; -1 where a side is free. -/
def mtF (mu : Nat → Nat) (x : Nat) : Int := if mu x = x then -1 else (mu x : Int)
theorem mtF_step {S : List (Nat × Nat)} {a b x : Nat} (hne : a ≠ b) : mtF (muS (S ++ [(a, b)])) x = if x = b then (a : Int) else if x = a then (b : Int) else mtF (muS S) x := by
  unfold mtF
  rw [muS_snoc]
  unfold updM
  by_cases h1 : x = a
  · subst h1; simp [hne, Ne.symm hne]
  · by_cases h2 : x = b
    · subst h2; simp [h1, hne]
    · simp [h1, h2]
end
end Go.Proofs.YtnbickholedckaaGreatDoor
namespace Go.Proofs.YtnbickholedckaaGreatDoor
open Go.RowKit
section
variable {n : NN} {B : Nat} {w0 : Wd} {fr : FR} {hs hs' : HS} {ty : TypeId} {K : Act → World → Prop} {ops : Array Oper} {l : List Oper} {d : Nat} {pos : String} {aft : Array Edge} {v : Value} {f : Nat} {fl : List Nat} {S S' : HS}
/-- A cell of an own block is turned; the cells are written out anew. -/
theorem stC {t : TypeId} {x y : Operand} {b o : Nat} {cs cs' : List Value} (h : Sat n B w0 (sl Tryz.prog ops K l) fr hs') (hx : opv fr x = some (.pointer (some ⟨b, o, none⟩)) := by rfl) (hm : (b, cs) ∈ hs := by exact MMt) (hy : opv fr y = some v := by rfl) (hcs : cs.set o v = cs' := by (simp only [List.set_cons_zero, List.set_cons_succ]; rfl)) (hv : v.cells = #[v] := by rfl) (h1 : v.oneCell' = true := by rfl) (ht : getT shT t = some (false, 1) := by rfl)
    (hu : Upd b cs cs' hs hs' := by with_reducible first | exact uu0 | exact uu1 | exact uu2 | exact uu3 | exact uu4 | exact uu5 | exact uu6 | exact uu7 | exact uu8 | ((repeat (first | exact uu0 | apply Upd.tail | apply Upd.app)); done)) (hl : o < cs.length := by (simp only [List.length_cons, List.length_nil]; omega)) :
    Sat n B w0 (sl Tryz.prog ops K (⟨none, .store t x y, ty, pos, aft, none⟩ :: l)) fr hs := s_store1 hx hy hv h1 (shTOf ht) (by rw [hcs]; exact hu) hl h
theorem dtC {t : TypeId} {x y : Operand} {b o : Nat} {cs cs' : List Value} (h : Rk Tryz.prog n B w0 ops K fl l S' fr hs') (hfl : effF f = true := by rfl) (hx : opv fr x = some (.pointer (some ⟨b, o, none⟩)) := by rfl) (hm : (b, cs) ∈ hs := by exact MMt) (hy : opv fr y = some v := by rfl) (hcs : cs.set o v = cs' := by (simp only [List.set_cons_zero, List.set_cons_succ]; rfl)) (hv : v.cells = #[v] := by rfl) (h1 : v.oneCell' = true := by rfl) (ht : getT shT t = some (false, 1) := by rfl)
    (hu : Upd b cs cs' hs hs' := by with_reducible first | exact uu0 | exact uu1 | exact uu2 | exact uu3 | exact uu4 | exact uu5 | exact uu6 | exact uu7 | exact uu8 | ((repeat (first | exact uu0 | apply Upd.tail | apply Upd.app)); done)) (hl : o < cs.length := by (simp only [List.length_cons, List.length_nil]; omega)) (hS : Kp f S hs' S' := by with_reducible first | exact kp4 | exact kp3 (List.nil_sublist _) | exact kp3 SCt) :
    Rk Tryz.prog n B w0 ops K (f :: fl) (⟨none, .store t x y, ty, pos, aft, none⟩ :: l) S fr hs := k_store1 hfl hx hy hv h1 (shTOf ht) (by rw [hcs]; exact hu) hl hS h
/-- A number of an own row that has room is turned. -/
theorem dtZ {t : TypeId} {x y : Operand} {b o : Nat} {m : List Int} {z : List Value} {u : Int} (h : Rk Tryz.prog n B w0 ops K fl l S' fr hs') (hx : opv fr x = some (.pointer (some ⟨b, o, none⟩))) (hm : (b, ivs m ++ z) ∈ hs) (hl : o < m.length) (hfl : effF f = true := by rfl) (hy : opv fr y = some (iv u) := by rfl) (ht : getT shT t = some (false, 1) := by rfl)
    (hu : Upd b (ivs m ++ z) (ivs (m.set o u) ++ z) hs hs' := by with_reducible first | exact uu0 | exact uu1 | exact uu2 | exact uu3 | exact uu4 | exact uu5 | exact uu6 | exact uu7 | exact uu8 | ((repeat (first | exact uu0 | apply Upd.tail | apply Upd.app)); done)) (hS : Kp f S hs' S' := by with_reducible first | exact kp4 | exact kp3 (List.nil_sublist _) | exact kp3 SCt) :
    Rk Tryz.prog n B w0 ops K (f :: fl) (⟨none, .store t x y, ty, pos, aft, none⟩ :: l) S fr hs := by
  refine k_store1 hfl hx hy rfl rfl (shTOf ht) (cs := ivs m ++ z) ?_ (by rw [List.length_append, ivs_length]; omega) hS h
  rw [List.set_append_left _ _ (by rw [ivs_length]; omega), ivs_set]
  exact hu
theorem sat_take {K : Act → World → Prop} {blk rest : HS} (hT : Take blk hs rest) (h : Sat n B w0 K fr (blk ++ rest)) : Sat n B w0 K fr hs := Sat.perm hT h
end
theorem tab_snoc (F : Nat → Int) (i : Nat) : ivs (tab (i + 1) F) = ivs (tab i F) ++ [iv (F i)] := by
  simp [tab, ivs, List.range_succ]
theorem tab_cong {n : Nat} {F G : Nat → Int} (h : ∀ i, i < n → F i = G i) : ivs (tab n F) = ivs (tab n G) := by rw [tab_ext h]
/-- The numbered cap in memory. -/
structure Sw where
  b : Nat
  oP : Option Addr
  cP : Nat
  oS : Option Addr
  nS : Nat
  cS : Nat
  e : Int
  o1 : Option Addr
  c1 : Nat
  o2 : Option Addr
  c2 : Nat
  o3 : Option Addr
  c3 : Nat
def Sw.cells (s : Sw) (P N : Nat) : List Value := [.slice s.oP P s.cP, .slice s.oS s.nS s.cS, iv s.e, .slice s.o1 N s.c1, .slice s.o2 P s.c2, .slice s.o3 N s.c3]
def pcL (sd : Nat → List Int) (P : Nat) : List Int := tab (fsN sd P) fun x => (pcG sd P x : Int)
def fsL (sd : Nat → List Int) (P : Nat) : List Int := tab P fun p => (fsN sd p : Int)
def mtL (sd : Nat → List Int) (P : Nat) (mu : Nat → Nat) : List Int := tab (fsN sd P) (mtF mu)
structure SewAt (B : Nat) (w0 : Wd) (hs : HS) (s : Sw) (ps : List Pc) (mu : Nat → Nat) : Prop where
  me : (s.b, s.cells ps.length (fsN (sdF ps) ps.length)) ∈ hs
  pcs : Sv B w0 hs s.oP (pcsv ps)
  sds : ∀ i, i < ps.length → Sl B w0 hs (pcA ps i).oa (pcA ps i).sd
  ans : ∀ i, i < ps.length → Sl B w0 hs (pcA ps i).ob (pcA ps i).an
  pcl : Sl B w0 hs s.o1 (pcL (sdF ps) ps.length)
  fsl : Sl B w0 hs s.o2 (fsL (sdF ps) ps.length)
  mtl : Sl B w0 hs s.o3 (mtL (sdF ps) ps.length mu)
theorem SewAt.sub {B : Nat} {w0 : Wd} {hs hs' : HS} {s : Sw} {ps : List Pc} {mu : Nat → Nat} (h : SewAt B w0 hs s ps mu) (hsub : hs.Sublist hs') : SewAt B w0 hs' s ps mu :=
  ⟨hsub.subset h.me, h.pcs.sub hsub, fun i hi => (h.sds i hi).sub hsub, fun i hi => (h.ans i hi).sub hsub, h.pcl.sub hsub, h.fsl.sub hsub, h.mtl.sub hsub⟩
theorem SewAt.base {B : Nat} {a b : Wd} {hs : HS} {s : Sw} {ps : List Pc} {mu : Nat → Nat} (hle : a.le b) (h : SewAt B a hs s ps mu) : SewAt B b hs s ps mu :=
  ⟨h.me, h.pcs.base hle, fun i hi => (h.sds i hi).base hle, fun i hi => (h.ans i hi).base hle, h.pcl.base hle, h.fsl.base hle, h.mtl.base hle⟩
/-- What sew hands over: its rows. -/
structure SewR (s : Sw) (sd : Nat → List Int) (P : Nat) (mu : Nat → Nat) (k1 k2 k3 : HS) : Prop where
  r1 : RowOk s.o1 s.c1 1 (ivs (pcL sd P)) k1
  r2 : RowOk s.o2 s.c2 1 (ivs (fsL sd P)) k2
  r3 : RowOk s.o3 s.c3 1 (ivs (mtL sd P mu)) k3
structure SwI where
  i : Nat
  j : Nat
  o1 : Option Addr
  c1 : Nat
  k1 : HS
  o2 : Option Addr
  c2 : Nat
  k2 : HS
  o3 : Option Addr
  c3 : Nat
  k3 : HS
theorem fs_le6 {sd an : Nat → List Int} {n : Nat} (h : allOK n sd an) : ∀ {p : Nat}, p ≤ n → fsN sd p ≤ 6 * p
  | 0, _ => Nat.le_refl _
  | p + 1, hp => by
    have h1 := fs_le6 h (p := p) (by omega)
    have h2 := (h p (by omega)).1.2
    simp only [fsN]; omega
end Go.Proofs.YtnbickholedckaaGreatDoor
