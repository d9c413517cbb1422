/- The reference's parts, Euler number, what is missing, handles. -/
import Derived.Test.YtnbickholedckaaMC46
import Derived.Test.YtnbickholedckaaMC41
namespace Go.Proofs.Ytnbickholedckaa
open Go.RowKit
attribute [local irreducible] OpF Ld CellAt Sl Sv pcA usP
theorem NtR.at0 {B : Nat} {w0 : Wd} {t : Nt} {ps : List Pc} {mu : Nat → Nat} {k1 k2 k3 k4 k5 : HS} (r : NtR t ps mu k1 k2 k3 k4 k5) : NtAt B w0 (k5 ++ (k4 ++ (k3 ++ (k2 ++ k1)))) t ps mu := by
  have := r.at (B := B) (w0 := w0) (hs := [])
  rwa [List.append_nil] at this
set_option maxRecDepth 100000 in
set_option maxHeartbeats 8000000 in
theorem r_parts (t : Nt) (ps : List Pc) (mu : Nat → Nat) (hP : ps.length ≤ 8) (hP1 : 1 ≤ ps.length) (hN : fsN (sdF ps) ps.length ≤ 48) (hN1 : 1 ≤ fsN (sdF ps) ps.length) (hml : ∀ i, i < fsN (sdF ps) ps.length → mu i < fsN (sdF ps) ps.length) (B : Nat) (w0 : Wd) (hs : HS) (hS : NtAt B w0 hs t ps mu) :
    Fn Try.prog 73 #[.agg #[.slice t.o1 (fsN (sdF ps) ps.length) t.c1, .slice t.o2 (fsN (sdF ps) ps.length) t.c2, .slice t.o3 (fsN (sdF ps) ps.length) t.c3, .slice t.o4 (fsN (sdF ps) ps.length) t.c4, .slice t.o5 (fsN (sdF ps) ps.length) t.c5], iv ps.length] B w0 hs (fun v h => v = iv (ccE ps.length (mtE (fsN (sdF ps) ps.length) (pcG (sdF ps) ps.length) mu) : Nat) ∧ h = hs) := by
  have i3 := hS.s3 (x := 0) hN1
  have i5 := hS.s5 (x := 0) hN1
  have hcp := fun y (hy : y < fsN (sdF ps) ps.length) hs' (h : hs.Sublist hs') => hS.pc h hy
  have hcm := fun y (hy : y < fsN (sdF ps) ps.length) hs' (h : hs.Sublist hs') => hS.mt h hy
  have hmt : ∀ {x : Nat}, mu x ≠ x → mtF mu x = (mu x : Int) := fun h => if_neg h
  have hmf : ∀ {x : Nat}, mu x = x → mtF mu x = -1 := fun h => if_pos h
  have hpc := fun y (hy : y < fsN (sdF ps) ps.length) => (pcG_spec hy).1
  generalize fsN (sdF ps) ps.length = n at *
  generalize pcG (sdF ps) ps.length = pc at *
  generalize ps.length = P at *
  have hE : ∀ e ∈ mtE n pc mu, e.1 < P ∧ e.2 < P := fun e he => by
    obtain ⟨a, h1, _, rfl⟩ := mem_mtE.1 he
    exact ⟨hpc a h1, hpc _ (hml a h1)⟩
  refine fn_enter Try.func73 rfl Try.ntmps73 (by simp) ?_
  repeat' (first | ((with_reducible apply kP (.box 86 _)); refine sBA (fun b1 => ?_)) | ((with_reducible apply kRg 15); refine cD [1, 1, 1, 1, 1, 1, 0, 1, 1, 1, 1, 1, 1, 0, 1, 3, 1, 4] ?_) | (with_reducible first | refine c_seq ?_ | refine c_reg ?_ | refine c_region ?_ | refine c_block ?_ | refine c_skip ?_ | refine c_exit ?_ | refine c_ret ?_ | refine s_nil ?_ | refine x_then ?_ | refine x_then_exit ?_ | refine x_then_ret ?_ | refine x_block ?_ | refine x_block_ret ?_ | refine x_block_same ?_ | refine x_block_other (by first | rfl | decide) ?_ | refine q_nil ?_ | refine k_nil ?_) | ((with_reducible apply kP (.box _ _)); first | refine sBA (fun b => ?_) | refine sB (fun b => ?_)) | ((with_reducible apply kP (.buildSlice _ 1 _)); first | refine sl1A (fun b => ?_) | refine sl1 (fun b => ?_)) | ((with_reducible apply kP (.call ⟨.builtin .append, _, _⟩)); refine sAp (fun oa2 c2 blk2 hrow2 => ?_)) | ((with_reducible apply kP _); refine sP ?_) | ((with_reducible apply kP _); refine sX ?_) | ((with_reducible apply kQP); refine qP ?_) | ((with_reducible apply kQP); refine qX ?_) | ((with_reducible apply kC); first | refine cT ?_ | refine cF ?_ | (refine cI (fun h => ?_) (fun h => ?_) <;> (try (exfalso; omega))) | refine cB (fun h => ?_) (fun h => ?_)) | ((with_reducible apply kR); refine cQ ?_) | ((with_reducible apply kDN); first | refine dtI ?_ | refine dt1 ?_ | refine dtW ?_) | ((with_reducible apply kDP _); refine dP ?_) | ((with_reducible apply kDP _); refine dX ?_))
  refine c_loop (fun x : Nat × Option Addr × Nat × HS => [(1, iv P), (2, .pointer (some ⟨b1, 0, none⟩)), (5, .slice x.2.1 x.1 x.2.2.1), (6, iv x.1)]) (fun x => x.2.2.2 ++ ((b1, [.slice t.o1 n t.c1, .slice t.o2 n t.c2, .slice t.o3 n t.c3, .slice t.o4 n t.c4, .slice t.o5 n t.c5]) :: hs))
    (fun x => x.1 ≤ P ∧ RowOk x.2.1 x.2.2.1 1 (ivs (natL x.1 fun x => x)) x.2.2.2) (fun x => P - x.1) (0, none, 0, []) ⟨Nat.zero_le _, RowOk.nil⟩ (by repeat' first | trivial | rfl | apply And.intro) (.refl _) ?_
  rintro ⟨i, oa, c, blk⟩ ⟨hi, hrow⟩
  dsimp only at hi hrow ⊢
  by_cases hi' : i < P
  · have hl : (ivs (natL i fun x => x)).length = i * 1 := by rw [ivs_length, natL_len, Nat.mul_one]
    repeat' (first | ((with_reducible apply kP (.call ⟨.builtin .append, _, _⟩)); refine sAp (fun oa2 c2 blk2 hrow2 => ?_) (hr := hrow) (hk := hl)) | ((with_reducible apply kRg 15); refine cD [1, 1, 1, 1, 1, 1, 0, 1, 1, 1, 1, 1, 1, 0, 1, 3, 1, 4] ?_) | (with_reducible first | refine c_seq ?_ | refine c_reg ?_ | refine c_region ?_ | refine c_block ?_ | refine c_skip ?_ | refine c_exit ?_ | refine c_ret ?_ | refine s_nil ?_ | refine x_then ?_ | refine x_then_exit ?_ | refine x_then_ret ?_ | refine x_block ?_ | refine x_block_ret ?_ | refine x_block_same ?_ | refine x_block_other (by first | rfl | decide) ?_ | refine q_nil ?_ | refine k_nil ?_) | ((with_reducible apply kP (.box _ _)); first | refine sBA (fun b => ?_) | refine sB (fun b => ?_)) | ((with_reducible apply kP (.buildSlice _ 1 _)); first | refine sl1A (fun b => ?_) | refine sl1 (fun b => ?_)) | ((with_reducible apply kP (.call ⟨.builtin .append, _, _⟩)); refine sAp (fun oa2 c2 blk2 hrow2 => ?_)) | ((with_reducible apply kP _); refine sP ?_) | ((with_reducible apply kP _); refine sX ?_) | ((with_reducible apply kQP); refine qP ?_) | ((with_reducible apply kQP); refine qX ?_) | ((with_reducible apply kC); first | refine cT ?_ | refine cF ?_ | (refine cI (fun h => ?_) (fun h => ?_) <;> (try (exfalso; omega))) | refine cB (fun h => ?_) (fun h => ?_)) | ((with_reducible apply kR); refine cQ ?_) | ((with_reducible apply kDN); first | refine dtI ?_ | refine dt1 ?_ | refine dtW ?_) | ((with_reducible apply kDP _); refine dP ?_) | ((with_reducible apply kDP _); refine dX ?_))
    have hr2 : RowOk oa2 c2 1 (ivs (natL (i + 1) fun x => x)) blk2 := by unfold natL; rw [tab_snoc]; exact hrow2
    exact r_end (i + 1, oa2, c2, blk2) ⟨hi', hr2⟩ (by dsimp only; omega) (by repeat' first | trivial | rfl | apply And.intro) SCt
  · obtain rfl : P = i := by omega
    rcases hrow with ⟨_, _, h3, _⟩ | ⟨b3, z3, rfl, rfl, hz3, hc3⟩
    · exfalso
      have := congrArg List.length h3
      rw [ivs_length, natL_len] at this
      simp at this; omega
    rw [List.singleton_append]
    repeat' (first | ((with_reducible apply kRg 15); refine cD [1, 1, 1, 1, 1, 1, 0, 1, 1, 1, 1, 1, 1, 0, 1, 3, 1, 4] ?_) | (with_reducible first | refine c_seq ?_ | refine c_reg ?_ | refine c_region ?_ | refine c_block ?_ | refine c_skip ?_ | refine c_exit ?_ | refine c_ret ?_ | refine s_nil ?_ | refine x_then ?_ | refine x_then_exit ?_ | refine x_then_ret ?_ | refine x_block ?_ | refine x_block_ret ?_ | refine x_block_same ?_ | refine x_block_other (by first | rfl | decide) ?_ | refine q_nil ?_ | refine k_nil ?_) | ((with_reducible apply kP (.box _ _)); first | refine sBA (fun b => ?_) | refine sB (fun b => ?_)) | ((with_reducible apply kP (.buildSlice _ 1 _)); first | refine sl1A (fun b => ?_) | refine sl1 (fun b => ?_)) | ((with_reducible apply kP (.call ⟨.builtin .append, _, _⟩)); refine sAp (fun oa2 c2 blk2 hrow2 => ?_)) | ((with_reducible apply kP _); refine sP ?_) | ((with_reducible apply kP _); refine sX ?_) | ((with_reducible apply kQP); refine qP ?_) | ((with_reducible apply kQP); refine qX ?_) | ((with_reducible apply kC); first | refine cT ?_ | refine cF ?_ | (refine cI (fun h => ?_) (fun h => ?_) <;> (try (exfalso; omega))) | refine cB (fun h => ?_) (fun h => ?_)) | ((with_reducible apply kR); refine cQ ?_) | ((with_reducible apply kDN); first | refine dtI ?_ | refine dt1 ?_ | refine dtW ?_) | ((with_reducible apply kDP _); refine dP ?_) | ((with_reducible apply kDP _); refine dX ?_))
    refine c_loop (fun r : Nat => [(1, iv P), (2, .pointer (some ⟨b1, 0, none⟩)), (5, .slice (some ⟨b3, 0, none⟩) P c), (7, iv r)]) (fun r => (b3, ivs (natL P (lwI (mtE n pc mu) r)) ++ z3) :: (b1, [.slice t.o1 n t.c1, .slice t.o2 n t.c2, .slice t.o3 n t.c3, .slice t.o4 n t.c4, .slice t.o5 n t.c5]) :: hs) (fun r => r ≤ P) (fun r => P - r) 0 (Nat.zero_le _) (by repeat' first | trivial | rfl | apply And.intro) (.refl _) ?_
    intro r hr
    by_cases hr' : r < P
    · have e0 : natL P (lwI (mtE n pc mu) r) = natL P (lwR (mtE 0 pc mu) (lwI (mtE n pc mu) r)) := rfl
      rw [e0]
      repeat' (first | ((with_reducible apply kRg 15); refine cD [1, 1, 1, 1, 1, 1, 0, 1, 1, 1, 1, 1, 1, 0, 1, 3, 1, 4] ?_) | (with_reducible first | refine c_seq ?_ | refine c_reg ?_ | refine c_region ?_ | refine c_block ?_ | refine c_skip ?_ | refine c_exit ?_ | refine c_ret ?_ | refine s_nil ?_ | refine x_then ?_ | refine x_then_exit ?_ | refine x_then_ret ?_ | refine x_block ?_ | refine x_block_ret ?_ | refine x_block_same ?_ | refine x_block_other (by first | rfl | decide) ?_ | refine q_nil ?_ | refine k_nil ?_) | ((with_reducible apply kP (.box _ _)); first | refine sBA (fun b => ?_) | refine sB (fun b => ?_)) | ((with_reducible apply kP (.buildSlice _ 1 _)); first | refine sl1A (fun b => ?_) | refine sl1 (fun b => ?_)) | ((with_reducible apply kP (.call ⟨.builtin .append, _, _⟩)); refine sAp (fun oa2 c2 blk2 hrow2 => ?_)) | ((with_reducible apply kP _); refine sP ?_) | ((with_reducible apply kP _); refine sX ?_) | ((with_reducible apply kQP); refine qP ?_) | ((with_reducible apply kQP); refine qX ?_) | ((with_reducible apply kC); first | refine cT ?_ | refine cF ?_ | (refine cI (fun h => ?_) (fun h => ?_) <;> (try (exfalso; omega))) | refine cB (fun h => ?_) (fun h => ?_)) | ((with_reducible apply kR); refine cQ ?_) | ((with_reducible apply kDN); first | refine dtI ?_ | refine dt1 ?_ | refine dtW ?_) | ((with_reducible apply kDP _); refine dP ?_) | ((with_reducible apply kDP _); refine dX ?_))
      refine c_loop (fun a : Nat => [(1, iv P), (2, .pointer (some ⟨b1, 0, none⟩)), (5, .slice (some ⟨b3, 0, none⟩) P c), (7, iv r), (8, iv a)]) (fun a => (b3, ivs (natL P (lwR (mtE a pc mu) (lwI (mtE n pc mu) r))) ++ z3) :: (b1, [.slice t.o1 n t.c1, .slice t.o2 n t.c2, .slice t.o3 n t.c3, .slice t.o4 n t.c4, .slice t.o5 n t.c5]) :: hs) (fun a => a ≤ n) (fun a => n - a) 0 (Nat.zero_le _) (by repeat' first | trivial | rfl | apply And.intro) (.refl _) ?_
      intro a ha
      by_cases ha' : a < n
      · have hca := hcm a ha'
        by_cases hf : mu a = a
        · rw [hmf hf] at hca
          repeat' (first | ((with_reducible apply kP (.load 3 (.tmp 37))); refine sP ?_ (o_load rfl (ld_one (shTOf rfl) (hca _ SBt)))) | ((with_reducible apply kDP (.load 3 (.tmp 37))); refine dP ?_ (hX := rfl) (hv := o_load rfl (ld_one (shTOf rfl) (hca _ SBt)))) | ((with_reducible apply kQO (.load 3 (.tmp 37))); refine qP ?_ (o_load rfl (ld_one (shTOf rfl) (hca _ SBt)))) | ((with_reducible apply kRg 15); refine cD [1, 1, 1, 1, 1, 1, 0, 1, 1, 1, 1, 1, 1, 0, 1, 3, 1, 4] ?_) | (with_reducible first | refine c_seq ?_ | refine c_reg ?_ | refine c_region ?_ | refine c_block ?_ | refine c_skip ?_ | refine c_exit ?_ | refine c_ret ?_ | refine s_nil ?_ | refine x_then ?_ | refine x_then_exit ?_ | refine x_then_ret ?_ | refine x_block ?_ | refine x_block_ret ?_ | refine x_block_same ?_ | refine x_block_other (by first | rfl | decide) ?_ | refine q_nil ?_ | refine k_nil ?_) | ((with_reducible apply kP (.box _ _)); first | refine sBA (fun b => ?_) | refine sB (fun b => ?_)) | ((with_reducible apply kP (.buildSlice _ 1 _)); first | refine sl1A (fun b => ?_) | refine sl1 (fun b => ?_)) | ((with_reducible apply kP (.call ⟨.builtin .append, _, _⟩)); refine sAp (fun oa2 c2 blk2 hrow2 => ?_)) | ((with_reducible apply kP _); refine sP ?_) | ((with_reducible apply kP _); refine sX ?_) | ((with_reducible apply kQP); refine qP ?_) | ((with_reducible apply kQP); refine qX ?_) | ((with_reducible apply kC); first | refine cT ?_ | refine cF ?_ | (refine cI (fun h => ?_) (fun h => ?_) <;> (try (exfalso; omega))) | refine cB (fun h => ?_) (fun h => ?_)) | ((with_reducible apply kR); refine cQ ?_) | ((with_reducible apply kDN); first | refine dtI ?_ | refine dt1 ?_ | refine dtW ?_) | ((with_reducible apply kDP _); refine dP ?_) | ((with_reducible apply kDP _); refine dX ?_))
          all_goals first
            | exact r_end (a + 1) ha' (by omega) (by repeat' first | trivial | rfl | apply And.intro) (by rw [mtE_succ_no hf]; exact .refl _)
            | (exfalso; omega)
            | trace_state
        · rw [hmt hf] at hca
          have hma := hml a ha'
          have hpa := hcp a ha'
          have hpb := hcp _ hma
          have la := hpc a ha'
          have lb := hpc _ hma
          have hnx : lwR (mtE (a + 1) pc mu) (lwI (mtE n pc mu) r) = lwS (lwR (mtE a pc mu) (lwI (mtE n pc mu) r)) (pc a) (pc (mu a)) := by rw [mtE_succ_yes hf, lwR_snoc]
          generalize lwR (mtE a pc mu) (lwI (mtE n pc mu) r) = F at *
          have hst := natL_lw (n := P) (F := F) (u := pc a) (v := pc (mu a))
          have hmn : min (F (pc a) : Int) (F (pc (mu a)) : Int) = ((min (F (pc a)) (F (pc (mu a))) : Nat) : Int) := by omega
          have hma2 := fun hs' (h : (b3, ivs (natL P F) ++ z3) ∈ hs') => natL_own (B := B) (w0 := w0) (F := F) h la
          have hmb2 := fun hs' (h : (b3, ivs (natL P F) ++ z3) ∈ hs') => natL_own (B := B) (w0 := w0) (F := F) h lb
          have hla : pc a < (natL P F).length := by rw [natL_len]; exact la
          have hlb : ∀ u : Int, pc (mu a) < ((natL P F).set (pc a) u).length := fun u => by rw [List.length_set, natL_len]; exact lb
          repeat' (first | ((with_reducible apply kRg 15); refine cDS [1, 1, 1, 1, 1, 1, 0, 1, 1, 1, 1, 1, 1, 0, 1, 3, 1, 4] [] ?_ (hS := List.nil_sublist _)) | ((with_reducible apply kP (.load 3 (.tmp 37))); refine sP ?_ (o_load rfl (ld_one (shTOf rfl) (hca _ SBt)))) | ((with_reducible apply kDP (.load 3 (.tmp 37))); refine dP ?_ (hX := rfl) (hv := o_load rfl (ld_one (shTOf rfl) (hca _ SBt)))) | ((with_reducible apply kQO (.load 3 (.tmp 37))); refine qP ?_ (o_load rfl (ld_one (shTOf rfl) (hca _ SBt)))) | ((with_reducible apply kP (.load 3 (.tmp 45))); refine sP ?_ (o_load rfl (ld_one (shTOf rfl) (hpa _ SBt)))) | ((with_reducible apply kDP (.load 3 (.tmp 45))); refine dP ?_ (hX := rfl) (hv := o_load rfl (ld_one (shTOf rfl) (hpa _ SBt)))) | ((with_reducible apply kQO (.load 3 (.tmp 45))); refine qP ?_ (o_load rfl (ld_one (shTOf rfl) (hpa _ SBt)))) | ((with_reducible apply kP (.load 3 (.tmp 53))); refine sP ?_ (o_load rfl (ld_one (shTOf rfl) (hpb _ SBt)))) | ((with_reducible apply kDP (.load 3 (.tmp 53))); refine dP ?_ (hX := rfl) (hv := o_load rfl (ld_one (shTOf rfl) (hpb _ SBt)))) | ((with_reducible apply kQO (.load 3 (.tmp 53))); refine qP ?_ (o_load rfl (ld_one (shTOf rfl) (hpb _ SBt)))) | ((with_reducible apply kP (.load 3 (.tmp 62))); refine sP ?_ (o_load rfl (ld_one (shTOf rfl) (hpa _ SBt)))) | ((with_reducible apply kDP (.load 3 (.tmp 62))); refine dP ?_ (hX := rfl) (hv := o_load rfl (ld_one (shTOf rfl) (hpa _ SBt)))) | ((with_reducible apply kQO (.load 3 (.tmp 62))); refine qP ?_ (o_load rfl (ld_one (shTOf rfl) (hpa _ SBt)))) | ((with_reducible apply kP (.load 3 (.tmp 68))); refine sP ?_ (o_load rfl (ld_one (shTOf rfl) (hpb _ SBt)))) | ((with_reducible apply kDP (.load 3 (.tmp 68))); refine dP ?_ (hX := rfl) (hv := o_load rfl (ld_one (shTOf rfl) (hpb _ SBt)))) | ((with_reducible apply kQO (.load 3 (.tmp 68))); refine qP ?_ (o_load rfl (ld_one (shTOf rfl) (hpb _ SBt)))) | ((with_reducible apply kP (.load 3 (.tmp 47))); refine sP ?_ (o_load rfl (ld_one (shTOf rfl) (hma2 _ MMt)))) | ((with_reducible apply kDP (.load 3 (.tmp 47))); refine dP ?_ (hX := rfl) (hv := o_load rfl (ld_one (shTOf rfl) (hma2 _ MMt)))) | ((with_reducible apply kQO (.load 3 (.tmp 47))); refine qP ?_ (o_load rfl (ld_one (shTOf rfl) (hma2 _ MMt)))) | ((with_reducible apply kP (.load 3 (.tmp 55))); refine sP ?_ (o_load rfl (ld_one (shTOf rfl) (hmb2 _ MMt)))) | ((with_reducible apply kDP (.load 3 (.tmp 55))); refine dP ?_ (hX := rfl) (hv := o_load rfl (ld_one (shTOf rfl) (hmb2 _ MMt)))) | ((with_reducible apply kQO (.load 3 (.tmp 55))); refine qP ?_ (o_load rfl (ld_one (shTOf rfl) (hmb2 _ MMt)))) | ((with_reducible apply kDN); refine dtZ ?_ rfl (by exact MMt) hla) | ((with_reducible apply kDN); refine dtZ ?_ rfl (by exact MMt) (hlb _)) | (with_reducible first | refine c_seq ?_ | refine c_reg ?_ | refine c_region ?_ | refine c_block ?_ | refine c_skip ?_ | refine c_exit ?_ | refine c_ret ?_ | refine s_nil ?_ | refine x_then ?_ | refine x_then_exit ?_ | refine x_then_ret ?_ | refine x_block ?_ | refine x_block_ret ?_ | refine x_block_same ?_ | refine x_block_other (by first | rfl | decide) ?_ | refine q_nil ?_ | refine k_nil ?_) | ((with_reducible apply kP (.box _ _)); first | refine sBA (fun b => ?_) | refine sB (fun b => ?_)) | ((with_reducible apply kP (.buildSlice _ 1 _)); first | refine sl1A (fun b => ?_) | refine sl1 (fun b => ?_)) | ((with_reducible apply kP (.call ⟨.builtin .append, _, _⟩)); refine sAp (fun oa2 c2 blk2 hrow2 => ?_)) | ((with_reducible apply kP _); refine sP ?_) | ((with_reducible apply kP _); refine sX ?_) | ((with_reducible apply kQP); refine qP ?_) | ((with_reducible apply kQP); refine qX ?_) | ((with_reducible apply kC); first | refine cT ?_ | refine cF ?_ | (refine cI (fun h => ?_) (fun h => ?_) <;> (try (exfalso; omega))) | refine cB (fun h => ?_) (fun h => ?_)) | ((with_reducible apply kR); refine cQ ?_) | ((with_reducible apply kDN); first | refine dtI ?_ | refine dt1 ?_ | refine dtW ?_) | ((with_reducible apply kDP _); refine dP ?_) | ((with_reducible apply kDP _); refine dX ?_))
          all_goals first
            | (rw [hmn, hst, ← hnx]; exact r_end (a + 1) ha' (by omega) (by repeat' first | trivial | rfl | apply And.intro) (.refl _))
            | (exfalso; omega)
            | trace_state
      · obtain rfl : n = a := by omega
        repeat' (first | ((with_reducible apply kRg 15); refine cD [1, 1, 1, 1, 1, 1, 0, 1, 1, 1, 1, 1, 1, 0, 1, 3, 1, 4] ?_) | (with_reducible first | refine c_seq ?_ | refine c_reg ?_ | refine c_region ?_ | refine c_block ?_ | refine c_skip ?_ | refine c_exit ?_ | refine c_ret ?_ | refine s_nil ?_ | refine x_then ?_ | refine x_then_exit ?_ | refine x_then_ret ?_ | refine x_block ?_ | refine x_block_ret ?_ | refine x_block_same ?_ | refine x_block_other (by first | rfl | decide) ?_ | refine q_nil ?_ | refine k_nil ?_) | ((with_reducible apply kP (.box _ _)); first | refine sBA (fun b => ?_) | refine sB (fun b => ?_)) | ((with_reducible apply kP (.buildSlice _ 1 _)); first | refine sl1A (fun b => ?_) | refine sl1 (fun b => ?_)) | ((with_reducible apply kP (.call ⟨.builtin .append, _, _⟩)); refine sAp (fun oa2 c2 blk2 hrow2 => ?_)) | ((with_reducible apply kP _); refine sP ?_) | ((with_reducible apply kP _); refine sX ?_) | ((with_reducible apply kQP); refine qP ?_) | ((with_reducible apply kQP); refine qX ?_) | ((with_reducible apply kC); first | refine cT ?_ | refine cF ?_ | (refine cI (fun h => ?_) (fun h => ?_) <;> (try (exfalso; omega))) | refine cB (fun h => ?_) (fun h => ?_)) | ((with_reducible apply kR); refine cQ ?_) | ((with_reducible apply kDN); first | refine dtI ?_ | refine dt1 ?_ | refine dtW ?_) | ((with_reducible apply kDP _); refine dP ?_) | ((with_reducible apply kDP _); refine dX ?_))
        exact r_end (r + 1) hr' (by omega) (by repeat' first | trivial | rfl | apply And.intro) (.refl _)
    · obtain rfl : P = r := by omega
      have e1 : natL P (lwI (mtE n pc mu) P) = natL P (rpE (mtE n pc mu)) := natL_cong fun x hx => lwI_done hE hx
      rw [e1]
      repeat' (first | ((with_reducible apply kRg 15); refine cD [1, 1, 1, 1, 1, 1, 0, 1, 1, 1, 1, 1, 1, 0, 1, 3, 1, 4] ?_) | (with_reducible first | refine c_seq ?_ | refine c_reg ?_ | refine c_region ?_ | refine c_block ?_ | refine c_skip ?_ | refine c_exit ?_ | refine c_ret ?_ | refine s_nil ?_ | refine x_then ?_ | refine x_then_exit ?_ | refine x_then_ret ?_ | refine x_block ?_ | refine x_block_ret ?_ | refine x_block_same ?_ | refine x_block_other (by first | rfl | decide) ?_ | refine q_nil ?_ | refine k_nil ?_) | ((with_reducible apply kP (.box _ _)); first | refine sBA (fun b => ?_) | refine sB (fun b => ?_)) | ((with_reducible apply kP (.buildSlice _ 1 _)); first | refine sl1A (fun b => ?_) | refine sl1 (fun b => ?_)) | ((with_reducible apply kP (.call ⟨.builtin .append, _, _⟩)); refine sAp (fun oa2 c2 blk2 hrow2 => ?_)) | ((with_reducible apply kP _); refine sP ?_) | ((with_reducible apply kP _); refine sX ?_) | ((with_reducible apply kQP); refine qP ?_) | ((with_reducible apply kQP); refine qX ?_) | ((with_reducible apply kC); first | refine cT ?_ | refine cF ?_ | (refine cI (fun h => ?_) (fun h => ?_) <;> (try (exfalso; omega))) | refine cB (fun h => ?_) (fun h => ?_)) | ((with_reducible apply kR); refine cQ ?_) | ((with_reducible apply kDN); first | refine dtI ?_ | refine dt1 ?_ | refine dtW ?_) | ((with_reducible apply kDP _); refine dP ?_) | ((with_reducible apply kDP _); refine dX ?_))
      refine c_loop (fun i : Nat => [(1, iv P), (5, .slice (some ⟨b3, 0, none⟩) P c), (11, iv (cnN (fun x => decide (rpE (mtE n pc mu) x = x)) i : Nat)), (12, iv i)]) (fun _ => (b3, ivs (natL P (rpE (mtE n pc mu))) ++ z3) :: (b1, [.slice t.o1 n t.c1, .slice t.o2 n t.c2, .slice t.o3 n t.c3, .slice t.o4 n t.c4, .slice t.o5 n t.c5]) :: hs) (fun i => i ≤ P) (fun i => P - i) 0 (Nat.zero_le _) (by repeat' first | trivial | rfl | apply And.intro) (.refl _) ?_
      intro i hi
      have hcl := cnN_le (fun x => decide (rpE (mtE n pc mu) x = x)) i
      by_cases hi' : i < P
      · have hmi := fun hs' (h : (b3, ivs (natL P (rpE (mtE n pc mu))) ++ z3) ∈ hs') => natL_own (B := B) (w0 := w0) (F := rpE (mtE n pc mu)) h hi'
        have hcs : cnN (fun x => decide (rpE (mtE n pc mu) x = x)) (i + 1) = cnN (fun x => decide (rpE (mtE n pc mu) x = x)) i + (decide (rpE (mtE n pc mu) i = i)).toNat := rfl
        by_cases hf : rpE (mtE n pc mu) i = i
        · rw [decide_eq_true hf] at hcs
          rw [hf] at hmi
          repeat' (first | ((with_reducible apply kP (.load 3 (.tmp 81))); refine sP ?_ (o_load rfl (ld_one (shTOf rfl) (hmi _ MMt)))) | ((with_reducible apply kDP (.load 3 (.tmp 81))); refine dP ?_ (hX := rfl) (hv := o_load rfl (ld_one (shTOf rfl) (hmi _ MMt)))) | ((with_reducible apply kQO (.load 3 (.tmp 81))); refine qP ?_ (o_load rfl (ld_one (shTOf rfl) (hmi _ MMt)))) | ((with_reducible apply kRg 15); refine cD [1, 1, 1, 1, 1, 1, 0, 1, 1, 1, 1, 1, 1, 0, 1, 3, 1, 4] ?_) | (with_reducible first | refine c_seq ?_ | refine c_reg ?_ | refine c_region ?_ | refine c_block ?_ | refine c_skip ?_ | refine c_exit ?_ | refine c_ret ?_ | refine s_nil ?_ | refine x_then ?_ | refine x_then_exit ?_ | refine x_then_ret ?_ | refine x_block ?_ | refine x_block_ret ?_ | refine x_block_same ?_ | refine x_block_other (by first | rfl | decide) ?_ | refine q_nil ?_ | refine k_nil ?_) | ((with_reducible apply kP (.box _ _)); first | refine sBA (fun b => ?_) | refine sB (fun b => ?_)) | ((with_reducible apply kP (.buildSlice _ 1 _)); first | refine sl1A (fun b => ?_) | refine sl1 (fun b => ?_)) | ((with_reducible apply kP (.call ⟨.builtin .append, _, _⟩)); refine sAp (fun oa2 c2 blk2 hrow2 => ?_)) | ((with_reducible apply kP _); refine sP ?_) | ((with_reducible apply kP _); refine sX ?_) | ((with_reducible apply kQP); refine qP ?_) | ((with_reducible apply kQP); refine qX ?_) | ((with_reducible apply kC); first | refine cT ?_ | refine cF ?_ | (refine cI (fun h => ?_) (fun h => ?_) <;> (try (exfalso; omega))) | refine cB (fun h => ?_) (fun h => ?_)) | ((with_reducible apply kR); refine cQ ?_) | ((with_reducible apply kDN); first | refine dtI ?_ | refine dt1 ?_ | refine dtW ?_) | ((with_reducible apply kDP _); refine dP ?_) | ((with_reducible apply kDP _); refine dX ?_))
          all_goals first
            | exact r_end (i + 1) hi' (by omega) (by repeat' first | trivial | rfl | apply And.intro | (rw [hcs]; rfl)) (.refl _)
            | (exfalso; omega)
            | trace_state
        · rw [decide_eq_false hf] at hcs
          repeat' (first | ((with_reducible apply kP (.load 3 (.tmp 81))); refine sP ?_ (o_load rfl (ld_one (shTOf rfl) (hmi _ MMt)))) | ((with_reducible apply kDP (.load 3 (.tmp 81))); refine dP ?_ (hX := rfl) (hv := o_load rfl (ld_one (shTOf rfl) (hmi _ MMt)))) | ((with_reducible apply kQO (.load 3 (.tmp 81))); refine qP ?_ (o_load rfl (ld_one (shTOf rfl) (hmi _ MMt)))) | ((with_reducible apply kRg 15); refine cD [1, 1, 1, 1, 1, 1, 0, 1, 1, 1, 1, 1, 1, 0, 1, 3, 1, 4] ?_) | (with_reducible first | refine c_seq ?_ | refine c_reg ?_ | refine c_region ?_ | refine c_block ?_ | refine c_skip ?_ | refine c_exit ?_ | refine c_ret ?_ | refine s_nil ?_ | refine x_then ?_ | refine x_then_exit ?_ | refine x_then_ret ?_ | refine x_block ?_ | refine x_block_ret ?_ | refine x_block_same ?_ | refine x_block_other (by first | rfl | decide) ?_ | refine q_nil ?_ | refine k_nil ?_) | ((with_reducible apply kP (.box _ _)); first | refine sBA (fun b => ?_) | refine sB (fun b => ?_)) | ((with_reducible apply kP (.buildSlice _ 1 _)); first | refine sl1A (fun b => ?_) | refine sl1 (fun b => ?_)) | ((with_reducible apply kP (.call ⟨.builtin .append, _, _⟩)); refine sAp (fun oa2 c2 blk2 hrow2 => ?_)) | ((with_reducible apply kP _); refine sP ?_) | ((with_reducible apply kP _); refine sX ?_) | ((with_reducible apply kQP); refine qP ?_) | ((with_reducible apply kQP); refine qX ?_) | ((with_reducible apply kC); first | refine cT ?_ | refine cF ?_ | (refine cI (fun h => ?_) (fun h => ?_) <;> (try (exfalso; omega))) | refine cB (fun h => ?_) (fun h => ?_)) | ((with_reducible apply kR); refine cQ ?_) | ((with_reducible apply kDN); first | refine dtI ?_ | refine dt1 ?_ | refine dtW ?_) | ((with_reducible apply kDP _); refine dP ?_) | ((with_reducible apply kDP _); refine dX ?_))
          all_goals first
            | exact r_end (i + 1) hi' (by omega) (by repeat' first | trivial | rfl | apply And.intro | (rw [hcs]; rfl)) (.refl _)
            | (exfalso; omega)
            | trace_state
      · obtain rfl : P = i := by omega
        repeat' (first | ((with_reducible apply kRg 15); refine cD [1, 1, 1, 1, 1, 1, 0, 1, 1, 1, 1, 1, 1, 0, 1, 3, 1, 4] ?_) | (with_reducible first | refine c_seq ?_ | refine c_reg ?_ | refine c_region ?_ | refine c_block ?_ | refine c_skip ?_ | refine c_exit ?_ | refine c_ret ?_ | refine s_nil ?_ | refine x_then ?_ | refine x_then_exit ?_ | refine x_then_ret ?_ | refine x_block ?_ | refine x_block_ret ?_ | refine x_block_same ?_ | refine x_block_other (by first | rfl | decide) ?_ | refine q_nil ?_ | refine k_nil ?_) | ((with_reducible apply kP (.box _ _)); first | refine sBA (fun b => ?_) | refine sB (fun b => ?_)) | ((with_reducible apply kP (.buildSlice _ 1 _)); first | refine sl1A (fun b => ?_) | refine sl1 (fun b => ?_)) | ((with_reducible apply kP (.call ⟨.builtin .append, _, _⟩)); refine sAp (fun oa2 c2 blk2 hrow2 => ?_)) | ((with_reducible apply kP _); refine sP ?_) | ((with_reducible apply kP _); refine sX ?_) | ((with_reducible apply kQP); refine qP ?_) | ((with_reducible apply kQP); refine qX ?_) | ((with_reducible apply kC); first | refine cT ?_ | refine cF ?_ | (refine cI (fun h => ?_) (fun h => ?_) <;> (try (exfalso; omega))) | refine cB (fun h => ?_) (fun h => ?_)) | ((with_reducible apply kR); refine cQ ?_) | ((with_reducible apply kDN); first | refine dtI ?_ | refine dt1 ?_ | refine dtW ?_) | ((with_reducible apply kDP _); refine dP ?_) | ((with_reducible apply kDP _); refine dX ?_))
        exact e_ret1 (hs' := hs) rfl rfl ⟨rfl, rfl⟩ (.cons _ (.cons _ (.refl _)))
theorem r_partsC {ps : List Pc} {sm : List Int} {m : Nat} {e : Int} (V : VdC ps sm m e) (t : Nt) (B : Nat) (w0 : Wd) (hs : HS) (hS : NtAt B w0 hs t ps (muS (smL (sdF ps) sm m))) :
    Fn Try.prog 73 #[.agg #[.slice t.o1 (fsN (sdF ps) ps.length) t.c1, .slice t.o2 (fsN (sdF ps) ps.length) t.c2, .slice t.o3 (fsN (sdF ps) ps.length) t.c3, .slice t.o4 (fsN (sdF ps) ps.length) t.c4, .slice t.o5 (fsN (sdF ps) ps.length) t.c5], iv ps.length] B w0 hs (fun v h => v = iv (paC ps sm m : Nat) ∧ h = hs) := by
  have h := r_parts t ps _ V.n8 V.n1 V.n48 V.n1c V.okS.ml B w0 hs hS
  have e := mtE_cc (P := ps.length) (pc := pcG (sdF ps) ps.length) V.okS
  unfold nC at e
  rw [e] at h
  exact h
set_option maxRecDepth 100000 in
set_option maxHeartbeats 8000000 in
theorem r_Parts (ps : List Pc) (oP oS : Option Addr) (cP m cS : Nat) (sm : List Int) (e : Int) (hn : ps.length ≤ 100) (hsm : sm.length = m * 4) (hm : m ≤ 100) (B : Nat) (w0 : Wd) (hs : HS) (hC : CapM B w0 hs oP oS ps sm) :
    Fn Try.prog 39 #[.agg #[.slice oP ps.length cP, .slice oS m cS, iv e]] B w0 hs (fun v h => v = .tuple #[iv (if vdC ps sm m e = 0 then (paC ps sm m : Int) else 0), iv (vdC ps sm m e)] ∧ h = hs) := by
  have kv := fun hs' (h : hs.Sublist hs') => r_Validate ps oP oS cP m cS sm e hn hsm hm B w0 hs' (hC.sub h)
  by_cases hv : vdC ps sm m e = 0
  · have V := vdC_0 hv
    have ks := fun hs' (h : hs.Sublist hs') => r_open ps oP oS cP m cS sm e V.n8 V.n1 hsm hm V.ok V.se B w0 hs' (hC.sub h)
    have hv' : vdE ps.length (sdF ps) (anF ps) m sm e = 0 := hv
    rw [hv'] at kv
    rw [if_pos hv, hv]
    refine fn_enter Try.func39 rfl Try.ntmps39 (by simp) ?_
    repeat' (first | ((with_reducible apply kP (.box 25 _)); refine sBA (fun b1 => ?_)) | ((with_reducible apply kF 19); refine sC 19 (kv _ SBt) ?_) | ((with_reducible apply kDF 63); (first | refine dN3 63 (fun F => ks _ (sbA SBt)) ?_ | refine dN4 63 (fun F => ks _ (sbA SBt)) ?_); rintro v7 blk7 ⟨t, k1, k2, k3, k4, k5, rfl, hR, rfl⟩; unfold Nt.cells) | ((with_reducible apply kDF 73); refine dC 73 (fun F => r_partsC V t B w0 _ (hR.at0.sub (sbA SBt))) ?_) | ((with_reducible apply kRg 4); refine cD [1, 3, 0, 0, 0, 4, 1, 1] ?_) | (with_reducible first | refine c_seq ?_ | refine c_reg ?_ | refine c_region ?_ | refine c_block ?_ | refine c_skip ?_ | refine c_exit ?_ | refine c_ret ?_ | refine s_nil ?_ | refine x_then ?_ | refine x_then_exit ?_ | refine x_then_ret ?_ | refine x_block ?_ | refine x_block_ret ?_ | refine x_block_same ?_ | refine x_block_other (by first | rfl | decide) ?_ | refine q_nil ?_ | refine k_nil ?_) | ((with_reducible apply kP (.box _ _)); first | refine sBA (fun b => ?_) | refine sB (fun b => ?_)) | ((with_reducible apply kP _); refine sP ?_) | ((with_reducible apply kP _); refine sX ?_) | ((with_reducible apply kC); first | refine cT ?_ | refine cF ?_ | (refine cI (fun h => ?_) (fun h => ?_) <;> (try (exfalso; omega))) | refine cB (fun h => ?_) (fun h => ?_)) | ((with_reducible apply kDP _); refine dP ?_) | ((with_reducible apply kDP _); refine dX ?_))
    exact e_ret2 (hs' := hs) rfl rfl rfl ⟨rfl, rfl⟩ SCt
  · have hv' : vdE ps.length (sdF ps) (anF ps) m sm e ≠ 0 := hv
    have hv2 : vdC ps sm m e = vdE ps.length (sdF ps) (anF ps) m sm e := rfl
    rw [if_neg hv, hv2]
    generalize vdE ps.length (sdF ps) (anF ps) m sm e = z at *
    refine fn_enter Try.func39 rfl Try.ntmps39 (by simp) ?_
    repeat' (first | ((with_reducible apply kP (.box 25 _)); refine sBA (fun b1 => ?_)) | ((with_reducible apply kF 19); refine sC 19 (kv _ SBt) ?_) | ((with_reducible apply kRg 4); refine cD [1, 3, 0, 0, 0, 4, 1, 1] ?_) | (with_reducible first | refine c_seq ?_ | refine c_reg ?_ | refine c_region ?_ | refine c_block ?_ | refine c_skip ?_ | refine c_exit ?_ | refine c_ret ?_ | refine s_nil ?_ | refine x_then ?_ | refine x_then_exit ?_ | refine x_then_ret ?_ | refine x_block ?_ | refine x_block_ret ?_ | refine x_block_same ?_ | refine x_block_other (by first | rfl | decide) ?_ | refine q_nil ?_ | refine k_nil ?_) | ((with_reducible apply kP (.box _ _)); first | refine sBA (fun b => ?_) | refine sB (fun b => ?_)) | ((with_reducible apply kP _); refine sP ?_) | ((with_reducible apply kP _); refine sX ?_) | ((with_reducible apply kC); first | refine cT ?_ | refine cF ?_ | (refine cI (fun h => ?_) (fun h => ?_) <;> (try (exfalso; omega))) | refine cB (fun h => ?_) (fun h => ?_)) | ((with_reducible apply kDP _); refine dP ?_) | ((with_reducible apply kDP _); refine dX ?_))
    exact e_ret2 (hs' := hs) rfl rfl rfl ⟨rfl, rfl⟩ SCt
set_option maxRecDepth 100000 in
set_option maxHeartbeats 8000000 in
theorem r_euler (ps : List Pc) (oP oS : Option Addr) (cP m cS : Nat) (sm : List Int) (e : Int) (V : VdC ps sm m e) (hsm : sm.length = m * 4) (hm : m ≤ 100) (B : Nat) (w0 : Wd) (hs : HS) (hC : CapM B w0 hs oP oS ps sm) :
    Fn Try.prog 74 #[.agg #[.slice oP ps.length cP, .slice oS m cS, iv e]] B w0 hs (fun v h => v = iv (euC ps sm m) ∧ h = hs) := by
  have ks := fun hs' (h : hs.Sublist hs') => r_open ps oP oS cP m cS sm e V.n8 V.n1 hsm hm V.ok V.se B w0 hs' (hC.sub h)
  have hpl := (ptsC_in V).1
  have hN := V.n48
  have hn8 := V.n8
  have hNN : fsN (sdF ps) ps.length ≤ 48 := hN
  have hpl' : (ptsL (fsN (sdF ps) ps.length) (nxN (sdF ps) ps.length) (muC ps sm m) (agF ps) (fsN (sdF ps) ps.length)).length ≤ 48 := hpl
  refine fn_enter Try.func74 rfl Try.ntmps74 (by simp) ?_
  repeat' (first | ((with_reducible apply kP (.box 25 _)); refine sBA (fun b1 => ?_)) | ((with_reducible apply kP (.alloc 86)); refine sA (fun b3 => ?_)) | ((with_reducible apply kN); refine stW ?_ (hf := flat_cons rfl (flat_cons rfl (flat3 rfl rfl rfl)))) | ((with_reducible apply kF 63); refine sR 63 (ks _ SBt) ?_; rintro v7 h7 ⟨blk7, ⟨t, k1, k2, k3, k4, k5, rfl, hR, rfl⟩, rfl⟩; unfold Nt.cells) | ((with_reducible apply kDF 64); (first | refine dN3 64 (fun F => r_points t ps _ V.n48 V.n1c V.ok V.net B w0 _ (hR.at0.sub (sbA SBt))) ?_ | refine dN4 64 (fun F => r_points t ps _ V.n48 V.n1c V.ok V.net B w0 _ (hR.at0.sub (sbA SBt))) ?_); rintro v8 blk8 hP8; obtain ⟨oa8, c8, rfl⟩ := PrR.v hP8) | ((with_reducible apply kRg 2); refine cD [1, 3, 1, 0, 0, 0, 0, 0, 0, 0, 1, 0, 0, 0, 1, 1] ?_) | (with_reducible first | refine c_seq ?_ | refine c_reg ?_ | refine c_region ?_ | refine c_block ?_ | refine c_skip ?_ | refine c_exit ?_ | refine c_ret ?_ | refine s_nil ?_ | refine x_then ?_ | refine x_then_exit ?_ | refine x_then_ret ?_ | refine x_block ?_ | refine x_block_ret ?_ | refine x_block_same ?_ | refine x_block_other (by first | rfl | decide) ?_ | refine q_nil ?_ | refine k_nil ?_) | ((with_reducible apply kN); first | refine stP ?_ | refine stI ?_ | refine st1 ?_ | refine stW ?_) | ((with_reducible apply kP (.alloc _)); refine sA (fun b => ?_)) | ((with_reducible apply kP (.box _ _)); first | refine sBA (fun b => ?_) | refine sB (fun b => ?_)) | ((with_reducible apply kP _); refine sP ?_) | ((with_reducible apply kP _); refine sX ?_) | ((with_reducible apply kC); first | refine cT ?_ | refine cF ?_ | (refine cI (fun h => ?_) (fun h => ?_) <;> (try (exfalso; omega))) | refine cB (fun h => ?_) (fun h => ?_)) | ((with_reducible apply kDP _); refine dP ?_) | ((with_reducible apply kDP _); refine dX ?_))
  exact e_ret1 (hs' := hs) rfl rfl ⟨rfl, rfl⟩ (sbA (.cons _ (sbA (.cons _ (.refl _)))))
set_option maxRecDepth 100000 in
set_option maxHeartbeats 8000000 in
theorem r_handles (ps : List Pc) (oP oS : Option Addr) (cP m cS : Nat) (sm : List Int) (e : Int) (V : VdC ps sm m e) (hsm : sm.length = m * 4) (hm : m ≤ 100) (B : Nat) (w0 : Wd) (hs : HS) (hC : CapM B w0 hs oP oS ps sm) :
    Fn Try.prog 75 #[.agg #[.slice oP ps.length cP, .slice oS m cS, iv e]] B w0 hs (fun v h => v = iv (haC ps sm m) ∧ h = hs) := by
  have ks := fun hs' (h : hs.Sublist hs') => r_open ps oP oS cP m cS sm e V.n8 V.n1 hsm hm V.ok V.se B w0 hs' (hC.sub h)
  have ke := fun hs' (h : hs.Sublist hs') => r_euler ps oP oS cP m cS sm e V hsm hm B w0 hs' (hC.sub h)
  have kp := fun t => r_partsC V t
  have kl : ∀ t hs' (h : NtAt B w0 hs' t ps (muS (smL (sdF ps) sm m))), Fn Try.prog 66 #[.agg #[.slice t.o1 (fsN (sdF ps) ps.length) t.c1, .slice t.o2 (fsN (sdF ps) ps.length) t.c2, .slice t.o3 (fsN (sdF ps) ps.length) t.c3, .slice t.o4 (fsN (sdF ps) ps.length) t.c4, .slice t.o5 (fsN (sdF ps) ps.length) t.c5]] B w0 hs' (fun v h => ∃ blk, (∃ oa c, v = .slice oa (lpsC ps sm m).length c) ∧ h = blk ++ hs') := fun t hs' h => (r_loops t ps _ V.n48 V.n1c V.net B w0 hs' h).mono (by
    rintro v h ⟨blk, hx, rfl⟩
    obtain ⟨oa, c, rfl⟩ := LrR.v hx
    exact ⟨blk, ⟨oa, c, by rw [List.length_map]; rfl⟩, rfl⟩)
  have hp := paC_in V
  have he := euC_in V hm
  have hl := V.lpn
  have hn8 := V.n8
  have h0 : 0 ≤ 2 * (paC ps sm m : Int) - euC ps sm m - ((lpsC ps sm m).length : Int) := by
    obtain ⟨g, hg⟩ := V.hd
    rw [V.sum hg]; omega
  unfold haC
  generalize hpa : (paC ps sm m : Int) = pa at *
  generalize euC ps sm m = eu at *
  have hpa2 : 0 ≤ pa ∧ pa ≤ 8 := by omega
  refine fn_enter Try.func75 rfl Try.ntmps75 (by simp) ?_
  repeat' (first | ((with_reducible apply kP (.box 25 _)); refine sBA (fun b1 => ?_)) | ((with_reducible apply kP (.alloc 86)); refine sA (fun b3 => ?_)) | ((with_reducible apply kN); refine stW ?_ (hf := flat_cons rfl (flat_cons rfl (flat3 rfl rfl rfl)))) | ((with_reducible apply kF 63); refine sR 63 (ks _ SBt) ?_; rintro v7 h7 ⟨blk7, ⟨t, k1, k2, k3, k4, k5, rfl, hR, rfl⟩, rfl⟩; unfold Nt.cells) | ((with_reducible apply kDF 73); refine dC 73 (fun F => kp t B w0 _ (hR.at0.sub (sbA SBt))) ?_) | ((with_reducible apply kDF 74); refine dC 74 (fun F => ke _ (sbA SBt)) ?_) | ((with_reducible apply kDF 66); (first | refine dN3 66 (fun F => kl t _ (hR.at0.sub (sbA SBt))) ?_ | refine dN4 66 (fun F => kl t _ (hR.at0.sub (sbA SBt))) ?_); rintro v8 blk8 ⟨oa8, c8, rfl⟩) | ((with_reducible apply kRg 2); refine cD [1, 1, 1, 1, 3, 0, 0, 3, 0, 0, 3, 1, 1, 1, 1] ?_) | (with_reducible first | refine c_seq ?_ | refine c_reg ?_ | refine c_region ?_ | refine c_block ?_ | refine c_skip ?_ | refine c_exit ?_ | refine c_ret ?_ | refine s_nil ?_ | refine x_then ?_ | refine x_then_exit ?_ | refine x_then_ret ?_ | refine x_block ?_ | refine x_block_ret ?_ | refine x_block_same ?_ | refine x_block_other (by first | rfl | decide) ?_ | refine q_nil ?_ | refine k_nil ?_) | ((with_reducible apply kN); first | refine stP ?_ | refine stI ?_ | refine st1 ?_ | refine stW ?_) | ((with_reducible apply kP (.alloc _)); refine sA (fun b => ?_)) | ((with_reducible apply kP (.box _ _)); first | refine sBA (fun b => ?_) | refine sB (fun b => ?_)) | ((with_reducible apply kP _); refine sP ?_) | ((with_reducible apply kP _); refine sX ?_) | ((with_reducible apply kC); first | refine cT ?_ | refine cF ?_ | (refine cI (fun h => ?_) (fun h => ?_) <;> (try (exfalso; omega))) | refine cB (fun h => ?_) (fun h => ?_)) | ((with_reducible apply kDP _); refine dP ?_) | ((with_reducible apply kDP _); refine dX ?_))
  exact e_ret1 (hs' := hs) rfl rfl ⟨rfl, rfl⟩ (sbA (.cons _ (sbA (.cons _ (.refl _)))))
set_option maxRecDepth 100000 in
set_option maxHeartbeats 8000000 in
theorem r_Euler (ps : List Pc) (oP oS : Option Addr) (cP m cS : Nat) (sm : List Int) (e : Int) (hn : ps.length ≤ 100) (hsm : sm.length = m * 4) (hm : m ≤ 100) (B : Nat) (w0 : Wd) (hs : HS) (hC : CapM B w0 hs oP oS ps sm) :
    Fn Try.prog 40 #[.agg #[.slice oP ps.length cP, .slice oS m cS, iv e]] B w0 hs (fun v h => v = .tuple #[iv (if vdC ps sm m e = 0 then euC ps sm m else 0), iv (vdC ps sm m e)] ∧ h = hs) := by
  have kv := fun hs' (h : hs.Sublist hs') => r_Validate ps oP oS cP m cS sm e hn hsm hm B w0 hs' (hC.sub h)
  by_cases hv : vdC ps sm m e = 0
  · have V := vdC_0 hv
    have ke := fun hs' (h : hs.Sublist hs') => r_euler ps oP oS cP m cS sm e V hsm hm B w0 hs' (hC.sub h)
    have hv' : vdE ps.length (sdF ps) (anF ps) m sm e = 0 := hv
    rw [hv'] at kv
    rw [if_pos hv, hv]
    refine fn_enter Try.func40 rfl Try.ntmps40 (by simp) ?_
    repeat' (first | ((with_reducible apply kP (.box 25 _)); refine sBA (fun b1 => ?_)) | ((with_reducible apply kF 19); refine sC 19 (kv _ SBt) ?_) | ((with_reducible apply kF 74); refine sC 74 (ke _ SBt) ?_) | (with_reducible first | refine c_seq ?_ | refine c_reg ?_ | refine c_region ?_ | refine c_block ?_ | refine c_skip ?_ | refine c_exit ?_ | refine c_ret ?_ | refine s_nil ?_ | refine x_then ?_ | refine x_then_exit ?_ | refine x_then_ret ?_ | refine x_block ?_ | refine x_block_ret ?_ | refine x_block_same ?_ | refine x_block_other (by first | rfl | decide) ?_ | refine q_nil ?_ | refine k_nil ?_) | ((with_reducible apply kP (.box _ _)); first | refine sBA (fun b => ?_) | refine sB (fun b => ?_)) | ((with_reducible apply kP _); refine sP ?_) | ((with_reducible apply kP _); refine sX ?_) | ((with_reducible apply kC); first | refine cT ?_ | refine cF ?_ | (refine cI (fun h => ?_) (fun h => ?_) <;> (try (exfalso; omega))) | refine cB (fun h => ?_) (fun h => ?_)))
    exact e_ret2 (hs' := hs) rfl rfl rfl ⟨rfl, rfl⟩ SCt
  · have hv' : vdE ps.length (sdF ps) (anF ps) m sm e ≠ 0 := hv
    have hv2 : vdC ps sm m e = vdE ps.length (sdF ps) (anF ps) m sm e := rfl
    rw [if_neg hv, hv2]
    generalize vdE ps.length (sdF ps) (anF ps) m sm e = z at *
    refine fn_enter Try.func40 rfl Try.ntmps40 (by simp) ?_
    repeat' (first | ((with_reducible apply kP (.box 25 _)); refine sBA (fun b1 => ?_)) | ((with_reducible apply kF 19); refine sC 19 (kv _ SBt) ?_) | (with_reducible first | refine c_seq ?_ | refine c_reg ?_ | refine c_region ?_ | refine c_block ?_ | refine c_skip ?_ | refine c_exit ?_ | refine c_ret ?_ | refine s_nil ?_ | refine x_then ?_ | refine x_then_exit ?_ | refine x_then_ret ?_ | refine x_block ?_ | refine x_block_ret ?_ | refine x_block_same ?_ | refine x_block_other (by first | rfl | decide) ?_ | refine q_nil ?_ | refine k_nil ?_) | ((with_reducible apply kP (.box _ _)); first | refine sBA (fun b => ?_) | refine sB (fun b => ?_)) | ((with_reducible apply kP _); refine sP ?_) | ((with_reducible apply kP _); refine sX ?_) | ((with_reducible apply kC); first | refine cT ?_ | refine cF ?_ | (refine cI (fun h => ?_) (fun h => ?_) <;> (try (exfalso; omega))) | refine cB (fun h => ?_) (fun h => ?_)))
    exact e_ret2 (hs' := hs) rfl rfl rfl ⟨rfl, rfl⟩ SCt
set_option maxRecDepth 100000 in
set_option maxHeartbeats 8000000 in
theorem r_Handles (ps : List Pc) (oP oS : Option Addr) (cP m cS : Nat) (sm : List Int) (e : Int) (hn : ps.length ≤ 100) (hsm : sm.length = m * 4) (hm : m ≤ 100) (B : Nat) (w0 : Wd) (hs : HS) (hC : CapM B w0 hs oP oS ps sm) :
    Fn Try.prog 42 #[.agg #[.slice oP ps.length cP, .slice oS m cS, iv e]] B w0 hs (fun v h => v = .tuple #[iv (if vdC ps sm m e = 0 then haC ps sm m else 0), iv (vdC ps sm m e)] ∧ h = hs) := by
  have kv := fun hs' (h : hs.Sublist hs') => r_Validate ps oP oS cP m cS sm e hn hsm hm B w0 hs' (hC.sub h)
  by_cases hv : vdC ps sm m e = 0
  · have V := vdC_0 hv
    have ke := fun hs' (h : hs.Sublist hs') => r_handles ps oP oS cP m cS sm e V hsm hm B w0 hs' (hC.sub h)
    have hv' : vdE ps.length (sdF ps) (anF ps) m sm e = 0 := hv
    rw [hv'] at kv
    rw [if_pos hv, hv]
    refine fn_enter Try.func42 rfl Try.ntmps42 (by simp) ?_
    repeat' (first | ((with_reducible apply kP (.box 25 _)); refine sBA (fun b1 => ?_)) | ((with_reducible apply kF 19); refine sC 19 (kv _ SBt) ?_) | ((with_reducible apply kF 75); refine sC 75 (ke _ SBt) ?_) | (with_reducible first | refine c_seq ?_ | refine c_reg ?_ | refine c_region ?_ | refine c_block ?_ | refine c_skip ?_ | refine c_exit ?_ | refine c_ret ?_ | refine s_nil ?_ | refine x_then ?_ | refine x_then_exit ?_ | refine x_then_ret ?_ | refine x_block ?_ | refine x_block_ret ?_ | refine x_block_same ?_ | refine x_block_other (by first | rfl | decide) ?_ | refine q_nil ?_ | refine k_nil ?_) | ((with_reducible apply kP (.box _ _)); first | refine sBA (fun b => ?_) | refine sB (fun b => ?_)) | ((with_reducible apply kP _); refine sP ?_) | ((with_reducible apply kP _); refine sX ?_) | ((with_reducible apply kC); first | refine cT ?_ | refine cF ?_ | (refine cI (fun h => ?_) (fun h => ?_) <;> (try (exfalso; omega))) | refine cB (fun h => ?_) (fun h => ?_)))
    exact e_ret2 (hs' := hs) rfl rfl rfl ⟨rfl, rfl⟩ SCt
  · have hv' : vdE ps.length (sdF ps) (anF ps) m sm e ≠ 0 := hv
    have hv2 : vdC ps sm m e = vdE ps.length (sdF ps) (anF ps) m sm e := rfl
    rw [if_neg hv, hv2]
    generalize vdE ps.length (sdF ps) (anF ps) m sm e = z at *
    refine fn_enter Try.func42 rfl Try.ntmps42 (by simp) ?_
    repeat' (first | ((with_reducible apply kP (.box 25 _)); refine sBA (fun b1 => ?_)) | ((with_reducible apply kF 19); refine sC 19 (kv _ SBt) ?_) | (with_reducible first | refine c_seq ?_ | refine c_reg ?_ | refine c_region ?_ | refine c_block ?_ | refine c_skip ?_ | refine c_exit ?_ | refine c_ret ?_ | refine s_nil ?_ | refine x_then ?_ | refine x_then_exit ?_ | refine x_then_ret ?_ | refine x_block ?_ | refine x_block_ret ?_ | refine x_block_same ?_ | refine x_block_other (by first | rfl | decide) ?_ | refine q_nil ?_ | refine k_nil ?_) | ((with_reducible apply kP (.box _ _)); first | refine sBA (fun b => ?_) | refine sB (fun b => ?_)) | ((with_reducible apply kP _); refine sP ?_) | ((with_reducible apply kP _); refine sX ?_) | ((with_reducible apply kC); first | refine cT ?_ | refine cF ?_ | (refine cI (fun h => ?_) (fun h => ?_) <;> (try (exfalso; omega))) | refine cB (fun h => ?_) (fun h => ?_)))
    exact e_ret2 (hs' := hs) rfl rfl rfl ⟨rfl, rfl⟩ SCt
set_option maxRecDepth 100000 in
set_option maxHeartbeats 8000000 in
theorem r_Missing (ps : List Pc) (oP oS : Option Addr) (cP m cS : Nat) (sm : List Int) (e : Int) (hn : ps.length ≤ 100) (hsm : sm.length = m * 4) (hm : m ≤ 100) (B : Nat) (w0 : Wd) (hs : HS) (hC : CapM B w0 hs oP oS ps sm) :
    Fn Try.prog 41 #[.agg #[.slice oP ps.length cP, .slice oS m cS, iv e]] B w0 hs (fun v h => v = .tuple #[iv (if vdC ps sm m e = 0 then 360 * euC ps sm m else 0), iv (vdC ps sm m e)] ∧ h = hs) := by
  have k1 := fun hs' (h : hs.Sublist hs') => r_Points ps oP oS cP m cS sm e (by omega) hsm (by omega) B w0 hs' (hC.sub h)
  by_cases hv : vdC ps sm m e = 0
  · have V := vdC_0 hv
    have k1' : ∀ hs' (h : hs.Sublist hs'), Fn Try.prog 22 #[.agg #[.slice oP ps.length cP, .slice oS m cS, iv e]] B w0 hs' (fun v h => ∃ blk, (∃ oa c rs, v = .tuple #[.slice oa rs.length c, iv 0] ∧ rs.map (·.p) = ptsC ps sm m ∧ ∀ F, PrM B w0 (blk ++ F) oa rs) ∧ h = blk ++ hs') := fun hs' h => (k1 hs' h).mono (by
      rintro v h' (⟨h1, _⟩ | ⟨_, x, blk, hx, rfl, rfl⟩)
      · exact absurd hv h1
      · obtain ⟨oa, c, rs, rfl, g1, g2⟩ := hx.m (B := B) (w0 := w0) (hs := [])
        rw [List.append_nil] at g2
        exact ⟨blk, ⟨oa, c, rs, rfl, g1, fun F => g2.sub (List.sublist_append_left _ _)⟩, rfl⟩)
    clear k1
    rw [if_pos hv, hv, ← V.msC]
    have hpl := (ptsC_in V).1
    have hdf : ∀ {i : Nat} {p : Pt}, (ptsC ps sm m)[i]? = some p → -20000 ≤ p.df ∧ p.df ≤ 360 := fun {i p} h => by
      have h0 := List.mem_of_getElem? h
      have hN := V.n48
      unfold ptsC ptsL at h0
      obtain ⟨j, hj, rfl⟩ := List.mem_map.1 h0
      have h2 := asum_in (ag := agF ps) (l := clsL (nC ps) (nxC ps) (muC ps sm m) j) (fun x hx => agF_in V.ok (clsL_mem.1 hx).1)
      have h3 := List.length_filter_le (fun y => decide (rpE (ptE (nC ps) (nxC ps) (muC ps sm m)) y = rpE (ptE (nC ps) (nxC ps) (muC ps sm m)) j)) (List.range (nC ps))
      rw [List.length_range] at h3
      have h4 : (clsL (nC ps) (nxC ps) (muC ps sm m) j).length ≤ 48 := Nat.le_trans h3 hN
      show -20000 ≤ (if innB _ _ _ j = true then (360 : Int) else 180) - asum _ _ ∧ (if innB _ _ _ j = true then (360 : Int) else 180) - asum _ _ ≤ 360
      split <;> omega
    have hsum : ∀ i, i ≤ (ptsC ps sm m).length → -20000 * (i : Int) ≤ dsum ((ptsC ps sm m).take i) ∧ dsum ((ptsC ps sm m).take i) ≤ 360 * (i : Int) := by
      intro i
      induction i with
      | zero => intro _; simp [dsum]
      | succ i ih =>
        intro hi
        have h1 := ih (by omega)
        have h2 : (ptsC ps sm m)[i]? = some (ptsC ps sm m)[i] := List.getElem?_eq_getElem (by omega)
        have h3 := hdf h2
        rw [dsum_take h2]; omega
    generalize ptsC ps sm m = PS at *
    refine fn_enter Try.func41 rfl Try.ntmps41 (by simp) ?_
    repeat' (first | ((with_reducible apply kP (.box 25 _)); refine sBA (fun b1 => ?_)) | ((with_reducible apply kF 22); refine sR 22 (k1' _ SBt) ?_; rintro v8 h8 ⟨blk8, ⟨o8, c8, rs, rfl, g8, m8⟩, rfl⟩) | (with_reducible first | refine c_seq ?_ | refine c_reg ?_ | refine c_region ?_ | refine c_block ?_ | refine c_skip ?_ | refine c_exit ?_ | refine c_ret ?_ | refine s_nil ?_ | refine x_then ?_ | refine x_then_exit ?_ | refine x_then_ret ?_ | refine x_block ?_ | refine x_block_ret ?_ | refine x_block_same ?_ | refine x_block_other (by first | rfl | decide) ?_ | refine q_nil ?_ | refine k_nil ?_) | ((with_reducible apply kP (.box _ _)); first | refine sBA (fun b => ?_) | refine sB (fun b => ?_)) | ((with_reducible apply kP _); refine sP ?_) | ((with_reducible apply kP _); refine sX ?_) | ((with_reducible apply kC); first | refine cT ?_ | refine cF ?_ | (refine cI (fun h => ?_) (fun h => ?_) <;> (try (exfalso; omega))) | refine cB (fun h => ?_) (fun h => ?_)))
    have m8 := m8 ((b1, [.slice oP ps.length cP, .slice oS m cS, iv e]) :: hs)
    have hrn : rs.length = PS.length := by have := congrArg List.length g8; simpa using this
    refine c_loop (fun i : Nat => [(4, .slice o8 rs.length c8), (5, iv 0), (6, iv (dsum (PS.take i))), (7, iv i)]) (fun _ => blk8 ++ ((b1, [.slice oP ps.length cP, .slice oS m cS, iv e]) :: hs)) (fun i => i ≤ rs.length) (fun i => rs.length - i) 0 (Nat.zero_le _) (by repeat' first | trivial | rfl | apply And.intro) (.refl _) ?_
    intro i hi
    by_cases hi' : i < rs.length
    · have hpp : PS[i]? = some (prA rs i).p := by
        rw [← g8, List.getElem?_map, List.getElem?_eq_getElem hi']
        unfold prA
        rw [List.getD_eq_getElem?_getD, List.getElem?_eq_getElem hi']
        rfl
      have hdp := hdf hpp
      have hsi := hsum i (by omega)
      have htk := dsum_take hpp
      have i8 := m8.isS hi'
      have hc8 := fun hs' (h : (blk8 ++ (b1, [.slice oP ps.length cP, .slice oS m cS, iv e]) :: hs).Sublist hs') => m8.c h hi'
      clear hpp hdf hsum
      generalize prA rs i = r at *
      repeat' (first | ((with_reducible apply kP (.fieldAddr _ _ _)); refine sP ?_ (o_fieldE rfl (by assumption) (foTOf2 rfl rfl) (by with_reducible first | exact bb0 _ | exact bb1 _ | exact bb2 _ _))) | ((with_reducible apply kDP (.fieldAddr _ _ _)); refine dP ?_ (hX := rfl) (hv := o_fieldE rfl (by assumption) (foTOf2 rfl rfl) (by with_reducible first | exact bb0 _ | exact bb1 _ | exact bb2 _ _))) | ((with_reducible apply kQO (.fieldAddr _ _ _)); refine qP ?_ (o_fieldE rfl (by assumption) (foTOf2 rfl rfl) (by with_reducible first | exact bb0 _ | exact bb1 _ | exact bb2 _ _))) | ((with_reducible apply kP (.load 3 (.tmp 23))); refine sP ?_ (o_load rfl (ld_one (shTOf rfl) (hc8 _ SBt).2.2.2))) | ((with_reducible apply kDP (.load 3 (.tmp 23))); refine dP ?_ (hX := rfl) (hv := o_load rfl (ld_one (shTOf rfl) (hc8 _ SBt).2.2.2))) | ((with_reducible apply kQO (.load 3 (.tmp 23))); refine qP ?_ (o_load rfl (ld_one (shTOf rfl) (hc8 _ SBt).2.2.2))) | (with_reducible first | refine c_seq ?_ | refine c_reg ?_ | refine c_region ?_ | refine c_block ?_ | refine c_skip ?_ | refine c_exit ?_ | refine c_ret ?_ | refine s_nil ?_ | refine x_then ?_ | refine x_then_exit ?_ | refine x_then_ret ?_ | refine x_block ?_ | refine x_block_ret ?_ | refine x_block_same ?_ | refine x_block_other (by first | rfl | decide) ?_ | refine q_nil ?_ | refine k_nil ?_) | ((with_reducible apply kP (.box _ _)); first | refine sBA (fun b => ?_) | refine sB (fun b => ?_)) | ((with_reducible apply kP _); refine sP ?_) | ((with_reducible apply kP _); refine sX ?_) | ((with_reducible apply kC); first | refine cT ?_ | refine cF ?_ | (refine cI (fun h => ?_) (fun h => ?_) <;> (try (exfalso; omega))) | refine cB (fun h => ?_) (fun h => ?_)))
      exact r_end (i + 1) hi' (by omega) (by repeat' first | trivial | rfl | apply And.intro | (rw [htk]; rfl)) SCt
    · obtain rfl : rs.length = i := by omega
      rw [hrn, List.take_length]
      repeat' (first | (with_reducible first | refine c_seq ?_ | refine c_reg ?_ | refine c_region ?_ | refine c_block ?_ | refine c_skip ?_ | refine c_exit ?_ | refine c_ret ?_ | refine s_nil ?_ | refine x_then ?_ | refine x_then_exit ?_ | refine x_then_ret ?_ | refine x_block ?_ | refine x_block_ret ?_ | refine x_block_same ?_ | refine x_block_other (by first | rfl | decide) ?_ | refine q_nil ?_ | refine k_nil ?_) | ((with_reducible apply kP (.box _ _)); first | refine sBA (fun b => ?_) | refine sB (fun b => ?_)) | ((with_reducible apply kP _); refine sP ?_) | ((with_reducible apply kP _); refine sX ?_) | ((with_reducible apply kC); first | refine cT ?_ | refine cF ?_ | (refine cI (fun h => ?_) (fun h => ?_) <;> (try (exfalso; omega))) | refine cB (fun h => ?_) (fun h => ?_)))
      exact e_ret2 (hs' := hs) rfl rfl rfl ⟨rfl, rfl⟩ (sbA (.cons _ (.refl _)))
  · have k1' : ∀ hs' (h : hs.Sublist hs'), Fn Try.prog 22 #[.agg #[.slice oP ps.length cP, .slice oS m cS, iv e]] B w0 hs' (fun v h => v = .tuple #[.slice none 0 0, iv (vdC ps sm m e)] ∧ h = hs') := fun hs' h => (k1 hs' h).mono (by
      rintro v h' (⟨_, h2, h3⟩ | ⟨h1, _⟩)
      · exact ⟨h2, h3⟩
      · exact absurd h1 hv)
    clear k1
    rw [if_neg hv]
    generalize vdC ps sm m e = z at *
    refine fn_enter Try.func41 rfl Try.ntmps41 (by simp) ?_
    repeat' (first | ((with_reducible apply kP (.box 25 _)); refine sBA (fun b1 => ?_)) | ((with_reducible apply kF 22); refine sC 22 (k1' _ SBt) ?_) | (with_reducible first | refine c_seq ?_ | refine c_reg ?_ | refine c_region ?_ | refine c_block ?_ | refine c_skip ?_ | refine c_exit ?_ | refine c_ret ?_ | refine s_nil ?_ | refine x_then ?_ | refine x_then_exit ?_ | refine x_then_ret ?_ | refine x_block ?_ | refine x_block_ret ?_ | refine x_block_same ?_ | refine x_block_other (by first | rfl | decide) ?_ | refine q_nil ?_ | refine k_nil ?_) | ((with_reducible apply kP (.box _ _)); first | refine sBA (fun b => ?_) | refine sB (fun b => ?_)) | ((with_reducible apply kP _); refine sP ?_) | ((with_reducible apply kP _); refine sX ?_) | ((with_reducible apply kC); first | refine cT ?_ | refine cF ?_ | (refine cI (fun h => ?_) (fun h => ?_) <;> (try (exfalso; omega))) | refine cB (fun h => ?_) (fun h => ?_)))
    refine c_loop (fun i : Nat => [(4, .slice none 0 0), (5, iv z), (6, iv 0), (7, iv 0)]) (fun _ => (b1, [.slice oP ps.length cP, .slice oS m cS, iv e]) :: hs) (fun _ => True) (fun _ => 0) 0 trivial (by repeat' first | trivial | rfl | apply And.intro) (.refl _) ?_
    intro i _
    repeat' (first | (with_reducible first | refine c_seq ?_ | refine c_reg ?_ | refine c_region ?_ | refine c_block ?_ | refine c_skip ?_ | refine c_exit ?_ | refine c_ret ?_ | refine s_nil ?_ | refine x_then ?_ | refine x_then_exit ?_ | refine x_then_ret ?_ | refine x_block ?_ | refine x_block_ret ?_ | refine x_block_same ?_ | refine x_block_other (by first | rfl | decide) ?_ | refine q_nil ?_ | refine k_nil ?_) | ((with_reducible apply kP (.box _ _)); first | refine sBA (fun b => ?_) | refine sB (fun b => ?_)) | ((with_reducible apply kP _); refine sP ?_) | ((with_reducible apply kP _); refine sX ?_) | ((with_reducible apply kC); first | refine cT ?_ | refine cF ?_ | (refine cI (fun h => ?_) (fun h => ?_) <;> (try (exfalso; omega))) | refine cB (fun h => ?_) (fun h => ?_)))
    exact e_ret2 (hs' := hs) rfl rfl rfl ⟨rfl, rfl⟩ SCt
end Go.Proofs.Ytnbickholedckaa
