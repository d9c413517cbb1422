/- Texts of this claim, put together; the parts that it needs. -/
import Derived.Test.YtnbickholedckaaGreatDoorQ7
import Derived.Shelf.Sort.Plain
import Derived.Shelf.Slices.CompactI
import Derived.Test.YtnbickholedckaaGreatDoorProg
namespace Go.Proofs.YtnbickholedckaaGreatDoor
open Go.RowKit
attribute [local irreducible] OpF Ld CellAt Sl Sv pcA usP
set_option maxRecDepth 100000 in
set_option maxHeartbeats 8000000 in
theorem k_sew (ps : List Pc) (oP oS : Option Addr) (cP m cS : Nat) (sm : List Int) (e : Int) (hn : ps.length ≤ 8) (hn1 : 1 ≤ ps.length) (hsm : sm.length = m * 4) (hm : m ≤ 10000) (hok : allOK ps.length (sdF ps) (anF ps)) (hse : ∀ t, t < m → seE ps.length (sdF ps) sm e t = 0) (B : Nat) (w0 : Wd) (hs : HS) (hC : CapM B w0 hs oP oS ps sm) :
    Fn Tryz.prog 28 #[.agg #[.slice oP ps.length cP, .slice oS m cS, iv e]] B w0 hs (fun v h => ∃ blk, (∃ s k1 k2 k3, v = .pointer (some ⟨s.b, 0, none⟩) ∧ s.oP = oP ∧ s.oS = oS ∧ s.nS = m ∧ s.e = e ∧ SewR s (sdF ps) ps.length (muS (smL (sdF ps) sm m)) k1 k2 k3 ∧ blk = k3 ++ (k1 ++ (k2 ++ [(s.b, s.cells ps.length (fsN (sdF ps) ps.length))]))) ∧ h = blk ++ hs) := by
  have hN := fs_le6 hok (Nat.le_refl _)
  have hsk : ∀ i, i < ps.length → (pcA ps i).sd.length ≤ 6 ∧ 3 ≤ (pcA ps i).sd.length := fun i hi => by have := (hok i hi).1; unfold sdF at this; omega
  refine fn_enter Tryz.func28 rfl Tryz.ntmps28 (by simp) ?_
  repeat' (first | ((with_reducible apply kP (.box 25 _)); refine sBA (fun b1 => ?_)) | ((with_reducible apply kP (.box 73 _)); refine sBA (fun bs => ?_)) | ((with_reducible apply kRg 5); refine cD [0, 1, 1, 1, 1, 1, 1, 1, 1, 1, 2, 3, 1, 1, 4] ?_) | ((with_reducible apply kRg 16); refine cD [1, 1, 1, 1, 1, 1, 1, 1, 1, 0, 1, 0, 1, 3, 1, 4] ?_) | (with_reducible first | refine c_seq ?_ | refine c_reg ?_ | refine c_region ?_ | refine c_block ?_ | refine c_skip ?_ | refine c_exit ?_ | refine c_ret ?_ | refine s_nil ?_ | refine x_then ?_ | refine x_then_exit ?_ | refine x_then_ret ?_ | refine x_block ?_ | refine x_block_ret ?_ | refine x_block_same ?_ | refine x_block_other (by first | rfl | decide) ?_ | refine q_nil ?_ | refine k_nil ?_) | ((with_reducible apply kN); first | refine stP ?_ | refine stI ?_ | refine st1 ?_ | refine stW ?_) | ((with_reducible apply kP (.alloc _)); refine sA (fun b => ?_)) | ((with_reducible apply kP (.box _ _)); first | refine sBA (fun b => ?_) | refine sB (fun b => ?_)) | ((with_reducible apply kP (.buildSlice _ 1 _)); first | refine sl1A (fun b => ?_) | refine sl1 (fun b => ?_)) | ((with_reducible apply kP (.call ⟨.builtin .append, _, _⟩)); refine sAp (fun oa2 c2 blk2 hrow2 => ?_)) | ((with_reducible apply kP _); refine sP ?_) | ((with_reducible apply kP _); refine sX ?_) | ((with_reducible apply kQP); refine qP ?_) | ((with_reducible apply kQP); refine qX ?_) | ((with_reducible apply kC); first | refine cT ?_ | refine cF ?_ | (refine cI (fun h => ?_) (fun h => ?_) <;> (try (exfalso; omega))) | refine cB (fun h => ?_) (fun h => ?_)) | ((with_reducible apply kR); refine cQ ?_) | ((with_reducible apply kDN); first | refine dtI ?_ | refine dt1 ?_ | refine dtW ?_) | ((with_reducible apply kDP (.buildSlice _ 1 _)); first | refine dl1A (fun b => ?_) | refine dl1 (fun b => ?_)) | ((with_reducible apply kDP (.call ⟨.builtin .append, _, _⟩)); first | refine dAp3 (fun oa2 c2 blk2 hrow2 => ?_) (hS := SCt) | refine dAp4 (fun oa2 c2 blk2 hrow2 => ?_)) | ((with_reducible apply kDP _); refine dP ?_) | ((with_reducible apply kDP _); refine dX ?_))
  refine c_loop (fun t : SwI => [(1, .pointer (some ⟨b1, 0, none⟩)), (3, .pointer (some ⟨bs, 0, none⟩)), (14, .slice oP ps.length cP), (15, iv ps.length), (16, iv t.i)])
    (fun t : SwI => t.k3 ++ (t.k1 ++ (t.k2 ++ ((bs, [.slice oP ps.length cP, .slice oS m cS, iv e, .slice t.o1 (fsN (sdF ps) t.i) t.c1, .slice t.o2 t.i t.c2, .slice t.o3 (fsN (sdF ps) t.i) t.c3]) :: (b1, [.slice oP ps.length cP, .slice oS m cS, iv e]) :: hs))))
    (fun t => t.i ≤ ps.length ∧ RowOk t.o1 t.c1 1 (ivs (tab (fsN (sdF ps) t.i) fun x => (pcG (sdF ps) ps.length x : Int))) t.k1 ∧ RowOk t.o2 t.c2 1 (ivs (tab t.i fun p => (fsN (sdF ps) p : Int))) t.k2 ∧ RowOk t.o3 t.c3 1 (ivs (tab (fsN (sdF ps) t.i) fun _ => -1)) t.k3)
    (fun t => ps.length - t.i) ⟨0, 0, none, 0, [], none, 0, [], none, 0, []⟩ ⟨Nat.zero_le _, RowOk.nil, RowOk.nil, RowOk.nil⟩ (by repeat' first | trivial | rfl | apply And.intro) (.refl _) ?_
  rintro ⟨i, j0, o1, c1, k1, o2, c2, k2, o3, c3, k3⟩ ⟨hi, hr1, hr2, hr3⟩
  dsimp only at hi hr1 hr2 hr3 ⊢
  by_cases hi' : i < ps.length
  · have hoP := hC.isS hi'
    have hki := hsk i hi'
    have hfi := fs_le6 hok (p := i) (by omega)
    have hld := fun hs' (h : hs.Sublist hs') => hC.ld (P := Tryz.prog) (t := 29) (shTOf rfl) h hi'
    unfold pcv at hld
    repeat' (first | ((with_reducible apply kP (.load 29 _)); refine sP ?_ (o_load rfl (hld _ SBt))) | ((with_reducible apply kDP (.load 29 _)); refine dP ?_ (hX := rfl) (hv := o_load rfl (hld _ SBt))) | ((with_reducible apply kQO (.load 29 _)); refine qP ?_ (o_load rfl (hld _ SBt))) | ((with_reducible apply kP (.alloc 29)); refine sA (fun b5 => ?_)) | ((with_reducible apply kRg 5); refine cDS [0, 1, 1, 1, 1, 1, 1, 1, 1, 1, 2, 3, 1, 1, 4] [] ?_ (hS := List.nil_sublist _)) | ((with_reducible apply kDP (.buildSlice _ 1 _)); refine dl1 (fun b6 => ?_)) | ((with_reducible apply kDP (.call ⟨.builtin .append, _, _⟩)); refine dAp3 (fun oa2 c2' blk2 hrow2 => ?_) (hS := List.nil_sublist _)) | ((with_reducible apply kDN); refine dtC ?_) | ((with_reducible apply kRg 16); refine cD [1, 1, 1, 1, 1, 1, 1, 1, 1, 0, 1, 0, 1, 3, 1, 4] ?_) | (with_reducible first | refine c_seq ?_ | refine c_reg ?_ | refine c_region ?_ | refine c_block ?_ | refine c_skip ?_ | refine c_exit ?_ | refine c_ret ?_ | refine s_nil ?_ | refine x_then ?_ | refine x_then_exit ?_ | refine x_then_ret ?_ | refine x_block ?_ | refine x_block_ret ?_ | refine x_block_same ?_ | refine x_block_other (by first | rfl | decide) ?_ | refine q_nil ?_ | refine k_nil ?_) | ((with_reducible apply kN); first | refine stP ?_ | refine stI ?_ | refine st1 ?_ | refine stW ?_) | ((with_reducible apply kP (.alloc _)); refine sA (fun b => ?_)) | ((with_reducible apply kP (.box _ _)); first | refine sBA (fun b => ?_) | refine sB (fun b => ?_)) | ((with_reducible apply kP (.buildSlice _ 1 _)); first | refine sl1A (fun b => ?_) | refine sl1 (fun b => ?_)) | ((with_reducible apply kP (.call ⟨.builtin .append, _, _⟩)); refine sAp (fun oa2 c2 blk2 hrow2 => ?_)) | ((with_reducible apply kP _); refine sP ?_) | ((with_reducible apply kP _); refine sX ?_) | ((with_reducible apply kQP); refine qP ?_) | ((with_reducible apply kQP); refine qX ?_) | ((with_reducible apply kC); first | refine cT ?_ | refine cF ?_ | (refine cI (fun h => ?_) (fun h => ?_) <;> (try (exfalso; omega))) | refine cB (fun h => ?_) (fun h => ?_)) | ((with_reducible apply kR); refine cQ ?_) | ((with_reducible apply kDN); first | refine dtI ?_ | refine dt1 ?_ | refine dtW ?_) | ((with_reducible apply kDP (.buildSlice _ 1 _)); first | refine dl1A (fun b => ?_) | refine dl1 (fun b => ?_)) | ((with_reducible apply kDP (.call ⟨.builtin .append, _, _⟩)); first | refine dAp3 (fun oa2 c2 blk2 hrow2 => ?_) (hS := SCt) | refine dAp4 (fun oa2 c2 blk2 hrow2 => ?_)) | ((with_reducible apply kDP _); refine dP ?_) | ((with_reducible apply kDP _); refine dX ?_))
    have hr2' : RowOk oa2 c2' 1 (ivs (tab (i + 1) fun p => (fsN (sdF ps) p : Int))) blk2 := by rw [tab_snoc]; exact hrow2
    refine sat_take (blk := k1) (by repeat (first | exact Take.head | apply Take.tail | apply Take.app)) ?_
    refine sat_take (blk := k3) (by repeat (first | exact Take.head | apply Take.tail | apply Take.app)) ?_
    refine c_loop (fun t : SwI => [(1, .pointer (some ⟨b1, 0, none⟩)), (3, .pointer (some ⟨bs, 0, none⟩)), (14, .slice oP ps.length cP), (15, iv ps.length), (16, iv i), (4, iv i), (36, .slice (pcA ps i).oa (pcA ps i).sd.length (pcA ps i).ca), (37, iv (pcA ps i).sd.length), (38, iv t.j)])
      (fun t : SwI => t.k3 ++ (t.k1 ++ (blk2 ++ ((b5, [.slice (pcA ps i).oa (pcA ps i).sd.length (pcA ps i).ca, .slice (pcA ps i).ob (pcA ps i).an.length (pcA ps i).cb]) :: (bs, [.slice oP ps.length cP, .slice oS m cS, iv e, .slice t.o1 (fsN (sdF ps) i + t.j) t.c1, .slice oa2 (i + 1) c2', .slice t.o3 (fsN (sdF ps) i + t.j) t.c3]) :: (b1, [.slice oP ps.length cP, .slice oS m cS, iv e]) :: hs))))
      (fun t => t.j ≤ (pcA ps i).sd.length ∧ RowOk t.o1 t.c1 1 (ivs (tab (fsN (sdF ps) i + t.j) fun x => (pcG (sdF ps) ps.length x : Int))) t.k1 ∧ RowOk t.o3 t.c3 1 (ivs (tab (fsN (sdF ps) i + t.j) fun _ => -1)) t.k3)
      (fun t => (pcA ps i).sd.length - t.j) ⟨0, 0, o1, c1, k1, none, 0, [], o3, c3, k3⟩ ⟨Nat.zero_le _, hr1, hr3⟩ (by repeat' first | trivial | rfl | apply And.intro) (.append (.refl _) (.append (.refl _) (.append (.refl _) (.cons _ (.refl _))))) ?_
    rintro ⟨i0, j, o1, c1, k1, _, _, _, o3, c3, k3⟩ ⟨hj, hr1, hr3⟩
    dsimp only at hj hr1 hr3 ⊢
    by_cases hj' : j < (pcA ps i).sd.length
    · have hpi : pcG (sdF ps) ps.length (fsN (sdF ps) i + j) = i := pcG_uniq (by omega) (by show _ < fsN (sdF ps) i + (sdF ps i).length; unfold sdF; omega) hi'
      repeat' (first | ((with_reducible apply kP (.call ⟨.builtin .append, _, _⟩)); refine sAp (fun oa4 c4 blk4 hrow4 => ?_) (hr := hr1)) | ((with_reducible apply kP (.call ⟨.builtin .append, _, _⟩)); refine sAp (fun oa5 c5 blk5 hrow5 => ?_) (hr := hr3)) | ((with_reducible apply kN); refine stC ?_) | ((with_reducible apply kRg 5); refine cD [0, 1, 1, 1, 1, 1, 1, 1, 1, 1, 2, 3, 1, 1, 4] ?_) | ((with_reducible apply kRg 16); refine cD [1, 1, 1, 1, 1, 1, 1, 1, 1, 0, 1, 0, 1, 3, 1, 4] ?_) | (with_reducible first | refine c_seq ?_ | refine c_reg ?_ | refine c_region ?_ | refine c_block ?_ | refine c_skip ?_ | refine c_exit ?_ | refine c_ret ?_ | refine s_nil ?_ | refine x_then ?_ | refine x_then_exit ?_ | refine x_then_ret ?_ | refine x_block ?_ | refine x_block_ret ?_ | refine x_block_same ?_ | refine x_block_other (by first | rfl | decide) ?_ | refine q_nil ?_ | refine k_nil ?_) | ((with_reducible apply kN); first | refine stP ?_ | refine stI ?_ | refine st1 ?_ | refine stW ?_) | ((with_reducible apply kP (.alloc _)); refine sA (fun b => ?_)) | ((with_reducible apply kP (.box _ _)); first | refine sBA (fun b => ?_) | refine sB (fun b => ?_)) | ((with_reducible apply kP (.buildSlice _ 1 _)); first | refine sl1A (fun b => ?_) | refine sl1 (fun b => ?_)) | ((with_reducible apply kP (.call ⟨.builtin .append, _, _⟩)); refine sAp (fun oa2 c2 blk2 hrow2 => ?_)) | ((with_reducible apply kP _); refine sP ?_) | ((with_reducible apply kP _); refine sX ?_) | ((with_reducible apply kQP); refine qP ?_) | ((with_reducible apply kQP); refine qX ?_) | ((with_reducible apply kC); first | refine cT ?_ | refine cF ?_ | (refine cI (fun h => ?_) (fun h => ?_) <;> (try (exfalso; omega))) | refine cB (fun h => ?_) (fun h => ?_)) | ((with_reducible apply kR); refine cQ ?_) | ((with_reducible apply kDN); first | refine dtI ?_ | refine dt1 ?_ | refine dtW ?_) | ((with_reducible apply kDP (.buildSlice _ 1 _)); first | refine dl1A (fun b => ?_) | refine dl1 (fun b => ?_)) | ((with_reducible apply kDP (.call ⟨.builtin .append, _, _⟩)); first | refine dAp3 (fun oa2 c2 blk2 hrow2 => ?_) (hS := SCt) | refine dAp4 (fun oa2 c2 blk2 hrow2 => ?_)) | ((with_reducible apply kDP _); refine dP ?_) | ((with_reducible apply kDP _); refine dX ?_))
      have hr1' : RowOk oa4 c4 1 (ivs (tab (fsN (sdF ps) i + (j + 1)) fun x => (pcG (sdF ps) ps.length x : Int))) blk4 := by rw [← Nat.add_assoc, tab_snoc, hpi]; exact hrow4
      have hr3' : RowOk oa5 c5 1 (ivs (tab (fsN (sdF ps) i + (j + 1)) fun _ => -1)) blk5 := by rw [← Nat.add_assoc, tab_snoc]; exact hrow5
      rw [show fsN (sdF ps) i + j + 1 = fsN (sdF ps) i + (j + 1) from rfl]
      exact r_end (⟨i, j + 1, oa4, c4, blk4, none, 0, [], oa5, c5, blk5⟩ : SwI) ⟨hj', hr1', hr3'⟩ (by dsimp only; omega) (by repeat' first | trivial | rfl | apply And.intro) SCt
    · obtain rfl : (pcA ps i).sd.length = j := by omega
      repeat' (first | ((with_reducible apply kRg 5); refine cD [0, 1, 1, 1, 1, 1, 1, 1, 1, 1, 2, 3, 1, 1, 4] ?_) | ((with_reducible apply kRg 16); refine cD [1, 1, 1, 1, 1, 1, 1, 1, 1, 0, 1, 0, 1, 3, 1, 4] ?_) | (with_reducible first | refine c_seq ?_ | refine c_reg ?_ | refine c_region ?_ | refine c_block ?_ | refine c_skip ?_ | refine c_exit ?_ | refine c_ret ?_ | refine s_nil ?_ | refine x_then ?_ | refine x_then_exit ?_ | refine x_then_ret ?_ | refine x_block ?_ | refine x_block_ret ?_ | refine x_block_same ?_ | refine x_block_other (by first | rfl | decide) ?_ | refine q_nil ?_ | refine k_nil ?_) | ((with_reducible apply kN); first | refine stP ?_ | refine stI ?_ | refine st1 ?_ | refine stW ?_) | ((with_reducible apply kP (.alloc _)); refine sA (fun b => ?_)) | ((with_reducible apply kP (.box _ _)); first | refine sBA (fun b => ?_) | refine sB (fun b => ?_)) | ((with_reducible apply kP (.buildSlice _ 1 _)); first | refine sl1A (fun b => ?_) | refine sl1 (fun b => ?_)) | ((with_reducible apply kP (.call ⟨.builtin .append, _, _⟩)); refine sAp (fun oa2 c2 blk2 hrow2 => ?_)) | ((with_reducible apply kP _); refine sP ?_) | ((with_reducible apply kP _); refine sX ?_) | ((with_reducible apply kQP); refine qP ?_) | ((with_reducible apply kQP); refine qX ?_) | ((with_reducible apply kC); first | refine cT ?_ | refine cF ?_ | (refine cI (fun h => ?_) (fun h => ?_) <;> (try (exfalso; omega))) | refine cB (fun h => ?_) (fun h => ?_)) | ((with_reducible apply kR); refine cQ ?_) | ((with_reducible apply kDN); first | refine dtI ?_ | refine dt1 ?_ | refine dtW ?_) | ((with_reducible apply kDP (.buildSlice _ 1 _)); first | refine dl1A (fun b => ?_) | refine dl1 (fun b => ?_)) | ((with_reducible apply kDP (.call ⟨.builtin .append, _, _⟩)); first | refine dAp3 (fun oa2 c2 blk2 hrow2 => ?_) (hS := SCt) | refine dAp4 (fun oa2 c2 blk2 hrow2 => ?_)) | ((with_reducible apply kDP _); refine dP ?_) | ((with_reducible apply kDP _); refine dX ?_))
      rw [show fsN (sdF ps) i + (pcA ps i).sd.length = fsN (sdF ps) (i + 1) from rfl] at hr1 hr3 ⊢
      exact r_end (⟨i + 1, 0, o1, c1, k1, oa2, c2', blk2, o3, c3, k3⟩ : SwI) ⟨hi', hr1, hr2', hr3⟩ (by dsimp only; omega) (by repeat' first | trivial | rfl | apply And.intro) SCt
  · obtain rfl : ps.length = i := by omega
    have hN1 : 1 ≤ fsN (sdF ps) ps.length := by
      have h1 := fsN_mono (sd := sdF ps) (p := 1) (q := ps.length) (by omega)
      have h2 : fsN (sdF ps) 1 = 0 + (sdF ps 0).length := rfl
      have h3 := hsk 0 (by omega)
      unfold sdF at h2 h1 ⊢
      omega
    rcases hr3 with ⟨_, _, h3, _⟩ | ⟨b3, z3, rfl, rfl, hz3, hc3⟩
    · exfalso
      have := congrArg List.length h3
      rw [ivs_length, tab_length] at this
      simp at this; omega
    have h0 : ivs (tab (fsN (sdF ps) ps.length) fun _ => -1) = ivs (mtL (sdF ps) ps.length (muS (smL (sdF ps) sm 0))) := tab_cong fun x _ => by simp [mtF, smL, muS]
    rw [h0] at hz3 ⊢
    have h00 : [(b3, ivs (mtL (sdF ps) ps.length (muS (smL (sdF ps) sm 0))) ++ z3)] ++ (k1 ++ (k2 ++ (bs, [.slice oP ps.length cP, .slice oS m cS, iv e, .slice o1 (fsN (sdF ps) ps.length) c1, .slice o2 ps.length c2, .slice (some ⟨b3, 0, none⟩) (fsN (sdF ps) ps.length) c3]) :: (b1, [.slice oP ps.length cP, .slice oS m cS, iv e]) :: hs)) = (b3, ivs (mtL (sdF ps) ps.length (muS (smL (sdF ps) sm 0))) ++ z3) :: (k1 ++ (k2 ++ (bs, [.slice oP ps.length cP, .slice oS m cS, iv e, .slice o1 (fsN (sdF ps) ps.length) c1, .slice o2 ps.length c2, .slice (some ⟨b3, 0, none⟩) (fsN (sdF ps) ps.length) c3]) :: (b1, [.slice oP ps.length cP, .slice oS m cS, iv e]) :: hs)) := rfl
    rw [h00]
    repeat' (first | ((with_reducible apply kRg 5); refine cD [0, 1, 1, 1, 1, 1, 1, 1, 1, 1, 2, 3, 1, 1, 4] ?_) | ((with_reducible apply kRg 16); refine cD [1, 1, 1, 1, 1, 1, 1, 1, 1, 0, 1, 0, 1, 3, 1, 4] ?_) | (with_reducible first | refine c_seq ?_ | refine c_reg ?_ | refine c_region ?_ | refine c_block ?_ | refine c_skip ?_ | refine c_exit ?_ | refine c_ret ?_ | refine s_nil ?_ | refine x_then ?_ | refine x_then_exit ?_ | refine x_then_ret ?_ | refine x_block ?_ | refine x_block_ret ?_ | refine x_block_same ?_ | refine x_block_other (by first | rfl | decide) ?_ | refine q_nil ?_ | refine k_nil ?_) | ((with_reducible apply kN); first | refine stP ?_ | refine stI ?_ | refine st1 ?_ | refine stW ?_) | ((with_reducible apply kP (.alloc _)); refine sA (fun b => ?_)) | ((with_reducible apply kP (.box _ _)); first | refine sBA (fun b => ?_) | refine sB (fun b => ?_)) | ((with_reducible apply kP (.buildSlice _ 1 _)); first | refine sl1A (fun b => ?_) | refine sl1 (fun b => ?_)) | ((with_reducible apply kP (.call ⟨.builtin .append, _, _⟩)); refine sAp (fun oa2 c2 blk2 hrow2 => ?_)) | ((with_reducible apply kP _); refine sP ?_) | ((with_reducible apply kP _); refine sX ?_) | ((with_reducible apply kQP); refine qP ?_) | ((with_reducible apply kQP); refine qX ?_) | ((with_reducible apply kC); first | refine cT ?_ | refine cF ?_ | (refine cI (fun h => ?_) (fun h => ?_) <;> (try (exfalso; omega))) | refine cB (fun h => ?_) (fun h => ?_)) | ((with_reducible apply kR); refine cQ ?_) | ((with_reducible apply kDN); first | refine dtI ?_ | refine dt1 ?_ | refine dtW ?_) | ((with_reducible apply kDP (.buildSlice _ 1 _)); first | refine dl1A (fun b => ?_) | refine dl1 (fun b => ?_)) | ((with_reducible apply kDP (.call ⟨.builtin .append, _, _⟩)); first | refine dAp3 (fun oa2 c2 blk2 hrow2 => ?_) (hS := SCt) | refine dAp4 (fun oa2 c2 blk2 hrow2 => ?_)) | ((with_reducible apply kDP _); refine dP ?_) | ((with_reducible apply kDP _); refine dX ?_))
    refine c_loop (fun i : Nat => [(1, .pointer (some ⟨b1, 0, none⟩)), (3, .pointer (some ⟨bs, 0, none⟩)), (62, .slice oS m cS), (63, iv m), (64, iv i)])
      (fun i => (b3, ivs (mtL (sdF ps) ps.length (muS (smL (sdF ps) sm i))) ++ z3) :: (k1 ++ (k2 ++ (bs, [.slice oP ps.length cP, .slice oS m cS, iv e, .slice o1 (fsN (sdF ps) ps.length) c1, .slice o2 ps.length c2, .slice (some ⟨b3, 0, none⟩) (fsN (sdF ps) ps.length) c3]) :: (b1, [.slice oP ps.length cP, .slice oS m cS, iv e]) :: hs)))
      (fun i => i ≤ m) (fun i => m - i) 0 (Nat.zero_le _) (by repeat' first | trivial | rfl | apply And.intro) (.refl _) ?_
    rintro i hi
    have hfl := Sl.row (B := B) (w0 := w0) hr2
    by_cases hi' : i < m
    · obtain ⟨⟨hA, hB⟩, hne, _⟩ := seE_z (hse i hi')
      have hoS : oS.isSome = true := hC.sms.any (i := i * 4) (by omega)
      have hld := fun hs' (h : hs.Sublist hs') => ld_seam (P := Tryz.prog) (t := 39) (shTOf rfl) hC.sms h (i := i) (by omega)
      have hab : adS (sdF ps) (smA sm i) (smI sm i) ≠ adS (sdF ps) (smB sm i) (smJ sm i) := fun e => hne (.inl (adS_inj hA hB e))
      have lA := (adS_lt hA).1
      have lB := (adS_lt hB).1
      obtain ⟨⟨A0, A1⟩, A2, A3⟩ := hA
      obtain ⟨⟨B0, B1⟩, B2, B3⟩ := hB
      have fA : ∀ hs', k2.Sublist hs' → CellAt B w0 hs' (ea o2 (smA sm i).toNat) (iv (fsN (sdF ps) (smA sm i).toNat : Int)) := fun hs' h => by
        have := hfl.at h (i := (smA sm i).toNat) (by rw [tab_length]; omega)
        rwa [tab_getD _ (by omega)] at this
      have fB : ∀ hs', k2.Sublist hs' → CellAt B w0 hs' (ea o2 (smB sm i).toNat) (iv (fsN (sdF ps) (smB sm i).toNat : Int)) := fun hs' h => by
        have := hfl.at h (i := (smB sm i).toNat) (by rw [tab_length]; omega)
        rwa [tab_getD _ (by omega)] at this
      have ho2 : o2.isSome = true := hfl.any (i := (smA sm i).toNat) (by rw [tab_length]; omega)
      have uA : (fsN (sdF ps) (smA sm i).toNat : Int) + smI sm i = (adS (sdF ps) (smA sm i) (smI sm i) : Int) := by unfold adS; omega
      have uB : (fsN (sdF ps) (smB sm i).toNat : Int) + smJ sm i = (adS (sdF ps) (smB sm i) (smJ sm i) : Int) := by unfold adS; omega
      have hM : ((mtL (sdF ps) ps.length (muS (smL (sdF ps) sm i))).set (adS (sdF ps) (smA sm i) (smI sm i)) ((fsN (sdF ps) (smB sm i).toNat : Int) + smJ sm i)).set (adS (sdF ps) (smB sm i) (smJ sm i)) ((fsN (sdF ps) (smA sm i).toNat : Int) + smI sm i) = mtL (sdF ps) ps.length (muS (smL (sdF ps) sm (i + 1))) := by
        rw [uA, uB]
        unfold mtL
        rw [tab_set, tab_set, smL_succ]
        refine tab_ext fun x _ => ?_
        rw [mtF_step hab]
      have hl1 : ∀ u : Int, adS (sdF ps) (smB sm i) (smJ sm i) < ((mtL (sdF ps) ps.length (muS (smL (sdF ps) sm i))).set (adS (sdF ps) (smA sm i) (smI sm i)) u).length := fun u => by unfold mtL; rw [List.length_set, tab_length]; exact lB
      have hl0 : adS (sdF ps) (smA sm i) (smI sm i) < (mtL (sdF ps) ps.length (muS (smL (sdF ps) sm i))).length := by unfold mtL; rw [tab_length]; exact lA
      repeat' (first | ((with_reducible apply kP (.load 39 _)); refine sP ?_ (o_load rfl (hld _ SBt))) | ((with_reducible apply kDP (.load 39 _)); refine dP ?_ (hX := rfl) (hv := o_load rfl (hld _ SBt))) | ((with_reducible apply kQO (.load 39 _)); refine qP ?_ (o_load rfl (hld _ SBt))) | ((with_reducible apply kP (.alloc 39)); refine sA (fun b7 => ?_)) | ((with_reducible apply kN); refine stW ?_ (hf := flat_cons rfl (flat3 rfl rfl rfl))) | ((with_reducible apply kP (.load 3 _)); refine sP ?_ (o_load rfl (ld_one (shTOf rfl) (fA _ SBt)))) | ((with_reducible apply kDP (.load 3 _)); refine dP ?_ (hX := rfl) (hv := o_load rfl (ld_one (shTOf rfl) (fA _ SBt)))) | ((with_reducible apply kQO (.load 3 _)); refine qP ?_ (o_load rfl (ld_one (shTOf rfl) (fA _ SBt)))) | ((with_reducible apply kP (.load 3 _)); refine sP ?_ (o_load rfl (ld_one (shTOf rfl) (fB _ SBt)))) | ((with_reducible apply kDP (.load 3 _)); refine dP ?_ (hX := rfl) (hv := o_load rfl (ld_one (shTOf rfl) (fB _ SBt)))) | ((with_reducible apply kQO (.load 3 _)); refine qP ?_ (o_load rfl (ld_one (shTOf rfl) (fB _ SBt)))) | ((with_reducible apply kRg 16); refine cDS [1, 1, 1, 1, 1, 1, 1, 1, 1, 0, 0, 0, 1, 3, 1, 4] [] ?_ (hS := List.nil_sublist _)) | ((with_reducible apply kP (.indexAddr 27 (.tmp 93) _)); refine sP ?_ (o_indexB (scTOf rfl) rfl rfl uA (aa0 _) lA)) | ((with_reducible apply kDP (.indexAddr 27 (.tmp 93) _)); refine dP ?_ (hX := rfl) (hv := o_indexB (scTOf rfl) rfl rfl uA (aa0 _) lA)) | ((with_reducible apply kQO (.indexAddr 27 (.tmp 93) _)); refine qP ?_ (o_indexB (scTOf rfl) rfl rfl uA (aa0 _) lA)) | ((with_reducible apply kP (.indexAddr 27 (.tmp 98) _)); refine sP ?_ (o_indexB (scTOf rfl) rfl rfl uB (aa0 _) lB)) | ((with_reducible apply kDP (.indexAddr 27 (.tmp 98) _)); refine dP ?_ (hX := rfl) (hv := o_indexB (scTOf rfl) rfl rfl uB (aa0 _) lB)) | ((with_reducible apply kQO (.indexAddr 27 (.tmp 98) _)); refine qP ?_ (o_indexB (scTOf rfl) rfl rfl uB (aa0 _) lB)) | ((with_reducible apply kDN); refine dtZ ?_ rfl (by exact MMt) hl0) | ((with_reducible apply kDN); refine dtZ ?_ rfl (by exact MMt) (hl1 _)) | ((with_reducible apply kRg 5); refine cD [0, 1, 1, 1, 1, 1, 1, 1, 1, 1, 2, 3, 1, 1, 4] ?_) | (with_reducible first | refine c_seq ?_ | refine c_reg ?_ | refine c_region ?_ | refine c_block ?_ | refine c_skip ?_ | refine c_exit ?_ | refine c_ret ?_ | refine s_nil ?_ | refine x_then ?_ | refine x_then_exit ?_ | refine x_then_ret ?_ | refine x_block ?_ | refine x_block_ret ?_ | refine x_block_same ?_ | refine x_block_other (by first | rfl | decide) ?_ | refine q_nil ?_ | refine k_nil ?_) | ((with_reducible apply kN); first | refine stP ?_ | refine stI ?_ | refine st1 ?_ | refine stW ?_) | ((with_reducible apply kP (.alloc _)); refine sA (fun b => ?_)) | ((with_reducible apply kP (.box _ _)); first | refine sBA (fun b => ?_) | refine sB (fun b => ?_)) | ((with_reducible apply kP (.buildSlice _ 1 _)); first | refine sl1A (fun b => ?_) | refine sl1 (fun b => ?_)) | ((with_reducible apply kP (.call ⟨.builtin .append, _, _⟩)); refine sAp (fun oa2 c2 blk2 hrow2 => ?_)) | ((with_reducible apply kP _); refine sP ?_) | ((with_reducible apply kP _); refine sX ?_) | ((with_reducible apply kQP); refine qP ?_) | ((with_reducible apply kQP); refine qX ?_) | ((with_reducible apply kC); first | refine cT ?_ | refine cF ?_ | (refine cI (fun h => ?_) (fun h => ?_) <;> (try (exfalso; omega))) | refine cB (fun h => ?_) (fun h => ?_)) | ((with_reducible apply kR); refine cQ ?_) | ((with_reducible apply kDN); first | refine dtI ?_ | refine dt1 ?_ | refine dtW ?_) | ((with_reducible apply kDP (.buildSlice _ 1 _)); first | refine dl1A (fun b => ?_) | refine dl1 (fun b => ?_)) | ((with_reducible apply kDP (.call ⟨.builtin .append, _, _⟩)); first | refine dAp3 (fun oa2 c2 blk2 hrow2 => ?_) (hS := SCt) | refine dAp4 (fun oa2 c2 blk2 hrow2 => ?_)) | ((with_reducible apply kDP _); refine dP ?_) | ((with_reducible apply kDP _); refine dX ?_))
      rw [hM]
      exact r_end (i + 1) hi' (by omega) (by repeat' first | trivial | rfl | apply And.intro) SCt
    · obtain rfl : m = i := by omega
      repeat' (first | ((with_reducible apply kRg 5); refine cD [0, 1, 1, 1, 1, 1, 1, 1, 1, 1, 2, 3, 1, 1, 4] ?_) | ((with_reducible apply kRg 16); refine cD [1, 1, 1, 1, 1, 1, 1, 1, 1, 0, 1, 0, 1, 3, 1, 4] ?_) | (with_reducible first | refine c_seq ?_ | refine c_reg ?_ | refine c_region ?_ | refine c_block ?_ | refine c_skip ?_ | refine c_exit ?_ | refine c_ret ?_ | refine s_nil ?_ | refine x_then ?_ | refine x_then_exit ?_ | refine x_then_ret ?_ | refine x_block ?_ | refine x_block_ret ?_ | refine x_block_same ?_ | refine x_block_other (by first | rfl | decide) ?_ | refine q_nil ?_ | refine k_nil ?_) | ((with_reducible apply kN); first | refine stP ?_ | refine stI ?_ | refine st1 ?_ | refine stW ?_) | ((with_reducible apply kP (.alloc _)); refine sA (fun b => ?_)) | ((with_reducible apply kP (.box _ _)); first | refine sBA (fun b => ?_) | refine sB (fun b => ?_)) | ((with_reducible apply kP (.buildSlice _ 1 _)); first | refine sl1A (fun b => ?_) | refine sl1 (fun b => ?_)) | ((with_reducible apply kP (.call ⟨.builtin .append, _, _⟩)); refine sAp (fun oa2 c2 blk2 hrow2 => ?_)) | ((with_reducible apply kP _); refine sP ?_) | ((with_reducible apply kP _); refine sX ?_) | ((with_reducible apply kQP); refine qP ?_) | ((with_reducible apply kQP); refine qX ?_) | ((with_reducible apply kC); first | refine cT ?_ | refine cF ?_ | (refine cI (fun h => ?_) (fun h => ?_) <;> (try (exfalso; omega))) | refine cB (fun h => ?_) (fun h => ?_)) | ((with_reducible apply kR); refine cQ ?_) | ((with_reducible apply kDN); first | refine dtI ?_ | refine dt1 ?_ | refine dtW ?_) | ((with_reducible apply kDP (.buildSlice _ 1 _)); first | refine dl1A (fun b => ?_) | refine dl1 (fun b => ?_)) | ((with_reducible apply kDP (.call ⟨.builtin .append, _, _⟩)); first | refine dAp3 (fun oa2 c2 blk2 hrow2 => ?_) (hS := SCt) | refine dAp4 (fun oa2 c2 blk2 hrow2 => ?_)) | ((with_reducible apply kDP _); refine dP ?_) | ((with_reducible apply kDP _); refine dX ?_))
      exact e_ret1 (hs' := ((b3, ivs (mtL (sdF ps) ps.length (muS (smL (sdF ps) sm m))) ++ z3) :: (k1 ++ (k2 ++ ((bs, [.slice oP ps.length cP, .slice oS m cS, iv e, .slice o1 (fsN (sdF ps) ps.length) c1, .slice o2 ps.length c2, .slice (some ⟨b3, 0, none⟩) (fsN (sdF ps) ps.length) c3]) :: hs))))) rfl rfl
        ⟨_, ⟨⟨bs, oP, cP, oS, m, cS, e, o1, c1, o2, c2, some ⟨b3, 0, none⟩, c3⟩, k1, k2, [(b3, ivs (mtL (sdF ps) ps.length (muS (smL (sdF ps) sm m))) ++ z3)], rfl, rfl, rfl, rfl, rfl, ⟨hr1, hr2, .inr ⟨b3, z3, rfl, rfl, by
          rw [List.length_append, ivs_length] at hz3 ⊢
          unfold mtL at hz3 ⊢
          rw [tab_length] at hz3 ⊢
          exact hz3, hc3⟩⟩, rfl⟩, by simp [Sw.cells]⟩ SCt
end Go.Proofs.YtnbickholedckaaGreatDoor
namespace Go.Proofs.YtnbickholedckaaGreatDoor
open Go.RowKit
attribute [local irreducible] OpF Ld CellAt Sl Sv pcA usP
section
variable {B : Nat} {w0 : Wd} {hs : HS} {s : Sw} {ps : List Pc} {mu : Nat → Nat}
theorem SewAt.pc (h : SewAt B w0 hs s ps mu) {hs' : HS} (hsub : hs.Sublist hs') {x : Nat} (hx : x < fsN (sdF ps) ps.length) : CellAt B w0 hs' (ea s.o1 x) (iv (pcG (sdF ps) ps.length x : Nat)) := by
  have := h.pcl.at hsub (i := x) (by unfold pcL; rw [tab_length]; exact hx)
  unfold pcL at this
  rwa [tab_getD _ hx] at this
theorem SewAt.fs (h : SewAt B w0 hs s ps mu) {hs' : HS} (hsub : hs.Sublist hs') {p : Nat} (hp : p < ps.length) : CellAt B w0 hs' (ea s.o2 p) (iv (fsN (sdF ps) p : Nat)) := by
  have := h.fsl.at hsub (i := p) (by unfold fsL; rw [tab_length]; exact hp)
  unfold fsL at this
  rwa [tab_getD _ hp] at this
theorem SewAt.mt (h : SewAt B w0 hs s ps mu) {hs' : HS} (hsub : hs.Sublist hs') {x : Nat} (hx : x < fsN (sdF ps) ps.length) : CellAt B w0 hs' (ea s.o3 x) (iv (mtF mu x)) := by
  have := h.mtl.at hsub (i := x) (by unfold mtL; rw [tab_length]; exact hx)
  unfold mtL at this
  rwa [tab_getD _ hx] at this
theorem SewAt.s1 (h : SewAt B w0 hs s ps mu) {x : Nat} (hx : x < fsN (sdF ps) ps.length) : s.o1.isSome = true := h.pcl.any (i := x) (by unfold pcL; rw [tab_length]; exact hx)
theorem SewAt.s2 (h : SewAt B w0 hs s ps mu) {p : Nat} (hp : p < ps.length) : s.o2.isSome = true := h.fsl.any (i := p) (by unfold fsL; rw [tab_length]; exact hp)
theorem SewAt.s3 (h : SewAt B w0 hs s ps mu) {x : Nat} (hx : x < fsN (sdF ps) ps.length) : s.o3.isSome = true := h.mtl.any (i := x) (by unfold mtL; rw [tab_length]; exact hx)
theorem SewAt.cap (h : SewAt B w0 hs s ps mu) : CapM B w0 hs s.oP none ps [] := ⟨h.pcs, h.sds, h.ans, Sl.nil⟩
theorem SewAt.me' (h : SewAt B w0 hs s ps mu) {hs' : HS} (hsub : hs.Sublist hs') : (s.b, [.slice s.oP ps.length s.cP, .slice s.oS s.nS s.cS, iv s.e, .slice s.o1 (fsN (sdF ps) ps.length) s.c1, .slice s.o2 ps.length s.c2, .slice s.o3 (fsN (sdF ps) ps.length) s.c3]) ∈ hs' := hsub.subset h.me
end
theorem md_next {k r : Nat} (hr : r < k) : (r + 1 + k) % k = if r + 1 = k then 0 else r + 1 := by
  rw [Nat.add_mod_right]
  split
  · rename_i h; rw [h, Nat.mod_self]
  · exact Nat.mod_eq_of_lt (by omega)
theorem md_prev {k r : Nat} (hr : r < k) : (r + k - 1) % k = if r = 0 then k - 1 else r - 1 := by
  split
  · rename_i h; subst h; rw [Nat.zero_add]; exact Nat.mod_eq_of_lt (by omega)
  · rw [show r + k - 1 = r - 1 + k by omega, Nat.add_mod_right]; exact Nat.mod_eq_of_lt (by omega)
/-- What is asked of a side. -/
structure SdX (ps : List Pc) (x : Nat) : Prop where
  lt : x < fsN (sdF ps) ps.length
  p : pcG (sdF ps) ps.length x < ps.length
  lo : fsN (sdF ps) (pcG (sdF ps) ps.length x) ≤ x
  hi : x < fsN (sdF ps) (pcG (sdF ps) ps.length x) + (pcA ps (pcG (sdF ps) ps.length x)).sd.length
theorem sdx {ps : List Pc} {x : Nat} (hx : x < fsN (sdF ps) ps.length) : SdX ps x := by
  obtain ⟨a, b, c⟩ := pcG_spec hx
  exact ⟨hx, a, b, c⟩
set_option maxRecDepth 100000 in
set_option maxHeartbeats 8000000 in
theorem k_turned1 (s : Sw) (ps : List Pc) (mu : Nat → Nat) (x : Nat) (hN : fsN (sdF ps) ps.length ≤ 48) (hx : x < fsN (sdF ps) ps.length) (B : Nat) (w0 : Wd) (hs : HS) (hS : SewAt B w0 hs s ps mu) :
    Fn Tryz.prog 44 #[.pointer (some ⟨s.b, 0, none⟩), iv x, iv 1] B w0 hs (fun v h => v = iv (nxN (sdF ps) ps.length x : Nat) ∧ h = hs) := by
  obtain ⟨_, h1, h2, h3⟩ := sdx hx
  have hp1 := fun hs' (h : hs.Sublist hs') => hS.pc h hx
  have hf1 := fun hs' (h : hs.Sublist hs') => hS.fs h h1
  have hc1 := fun hs' (h : hs.Sublist hs') => hS.cap.c0 h h1
  have hme := fun hs' (h : hs.Sublist hs') => hS.me' h
  have i1 := hS.s1 hx
  have i2 := hS.s2 h1
  have iP := hS.cap.isS h1
  have hv : (fsN (sdF ps) (pcG (sdF ps) ps.length x) : Int) + ((x : Int) - fsN (sdF ps) (pcG (sdF ps) ps.length x) + 1 + (pcA ps (pcG (sdF ps) ps.length x)).sd.length) % (pcA ps (pcG (sdF ps) ps.length x)).sd.length = (nxN (sdF ps) ps.length x : Nat) := by
    have hm := md_next (k := (pcA ps (pcG (sdF ps) ps.length x)).sd.length) (r := x - fsN (sdF ps) (pcG (sdF ps) ps.length x)) (by omega)
    have e1 : (x : Int) - fsN (sdF ps) (pcG (sdF ps) ps.length x) + 1 + (pcA ps (pcG (sdF ps) ps.length x)).sd.length = ((x - fsN (sdF ps) (pcG (sdF ps) ps.length x) + 1 + (pcA ps (pcG (sdF ps) ps.length x)).sd.length : Nat) : Int) := by omega
    rw [e1, ← Int.natCast_emod, hm]
    unfold nxN
    have e2 : fsN (sdF ps) (pcG (sdF ps) ps.length x + 1) = fsN (sdF ps) (pcG (sdF ps) ps.length x) + (pcA ps (pcG (sdF ps) ps.length x)).sd.length := rfl
    rw [e2]
    split <;> split <;> omega
  rw [← hv]
  have hk6 : (pcA ps (pcG (sdF ps) ps.length x)).sd.length ≤ 48 := by
    have := fsN_mono (sd := sdF ps) (p := pcG (sdF ps) ps.length x + 1) (q := ps.length) (by omega)
    have e2 : fsN (sdF ps) (pcG (sdF ps) ps.length x + 1) = fsN (sdF ps) (pcG (sdF ps) ps.length x) + (pcA ps (pcG (sdF ps) ps.length x)).sd.length := rfl
    omega
  have hq1 := Int.emod_nonneg ((x : Int) - fsN (sdF ps) (pcG (sdF ps) ps.length x) + 1 + (pcA ps (pcG (sdF ps) ps.length x)).sd.length) (b := ((pcA ps (pcG (sdF ps) ps.length x)).sd.length : Int)) (by omega)
  have hq2 := Int.emod_lt_of_pos ((x : Int) - fsN (sdF ps) (pcG (sdF ps) ps.length x) + 1 + (pcA ps (pcG (sdF ps) ps.length x)).sd.length) (b := ((pcA ps (pcG (sdF ps) ps.length x)).sd.length : Int)) (by omega)
  clear hv
  generalize pcG (sdF ps) ps.length x = p at *
  generalize fsN (sdF ps) p = f at *
  refine fn_enter Tryz.func44 rfl Tryz.ntmps44 (by simp) ?_
  repeat' (first | ((with_reducible apply kP (.load 27 (.tmp 11))); refine sP ?_ (o_load rfl (ld_one (shTOf rfl) (own (hme _ SBt) rfl)))) | ((with_reducible apply kDP (.load 27 (.tmp 11))); refine dP ?_ (hX := rfl) (hv := o_load rfl (ld_one (shTOf rfl) (own (hme _ SBt) rfl)))) | ((with_reducible apply kQO (.load 27 (.tmp 11))); refine qP ?_ (o_load rfl (ld_one (shTOf rfl) (own (hme _ SBt) rfl)))) | ((with_reducible apply kP (.load 27 (.tmp 28))); refine sP ?_ (o_load rfl (ld_one (shTOf rfl) (own (hme _ SBt) rfl)))) | ((with_reducible apply kDP (.load 27 (.tmp 28))); refine dP ?_ (hX := rfl) (hv := o_load rfl (ld_one (shTOf rfl) (own (hme _ SBt) rfl)))) | ((with_reducible apply kQO (.load 27 (.tmp 28))); refine qP ?_ (o_load rfl (ld_one (shTOf rfl) (own (hme _ SBt) rfl)))) | ((with_reducible apply kP (.load 27 (.tmp 36))); refine sP ?_ (o_load rfl (ld_one (shTOf rfl) (own (hme _ SBt) rfl)))) | ((with_reducible apply kDP (.load 27 (.tmp 36))); refine dP ?_ (hX := rfl) (hv := o_load rfl (ld_one (shTOf rfl) (own (hme _ SBt) rfl)))) | ((with_reducible apply kQO (.load 27 (.tmp 36))); refine qP ?_ (o_load rfl (ld_one (shTOf rfl) (own (hme _ SBt) rfl)))) | ((with_reducible apply kP (.load 22 _)); refine sP ?_ (o_load rfl (ld_one (shTOf rfl) (own (hme _ SBt) rfl)))) | ((with_reducible apply kDP (.load 22 _)); refine dP ?_ (hX := rfl) (hv := o_load rfl (ld_one (shTOf rfl) (own (hme _ SBt) rfl)))) | ((with_reducible apply kQO (.load 22 _)); refine qP ?_ (o_load rfl (ld_one (shTOf rfl) (own (hme _ SBt) rfl)))) | ((with_reducible apply kP (.load 3 (.tmp 14))); refine sP ?_ (o_load rfl (ld_one (shTOf rfl) (hp1 _ SBt)))) | ((with_reducible apply kDP (.load 3 (.tmp 14))); refine dP ?_ (hX := rfl) (hv := o_load rfl (ld_one (shTOf rfl) (hp1 _ SBt)))) | ((with_reducible apply kQO (.load 3 (.tmp 14))); refine qP ?_ (o_load rfl (ld_one (shTOf rfl) (hp1 _ SBt)))) | ((with_reducible apply kP (.load 3 _)); refine sP ?_ (o_load rfl (ld_one (shTOf rfl) (hf1 _ SBt)))) | ((with_reducible apply kDP (.load 3 _)); refine dP ?_ (hX := rfl) (hv := o_load rfl (ld_one (shTOf rfl) (hf1 _ SBt)))) | ((with_reducible apply kQO (.load 3 _)); refine qP ?_ (o_load rfl (ld_one (shTOf rfl) (hf1 _ SBt)))) | ((with_reducible apply kP (.fieldAddr _ _ _)); refine sP ?_ (o_fieldE rfl (by assumption) (foTOf2 rfl rfl) (by with_reducible first | exact bb0 _ | exact bb1 _ | exact bb2 _ _))) | ((with_reducible apply kDP (.fieldAddr _ _ _)); refine dP ?_ (hX := rfl) (hv := o_fieldE rfl (by assumption) (foTOf2 rfl rfl) (by with_reducible first | exact bb0 _ | exact bb1 _ | exact bb2 _ _))) | ((with_reducible apply kQO (.fieldAddr _ _ _)); refine qP ?_ (o_fieldE rfl (by assumption) (foTOf2 rfl rfl) (by with_reducible first | exact bb0 _ | exact bb1 _ | exact bb2 _ _))) | ((with_reducible apply kP (.load 27 (.tmp 23))); refine sP ?_ (o_load rfl (ld_one (shTOf rfl) (hc1 _ SBt)))) | ((with_reducible apply kDP (.load 27 (.tmp 23))); refine dP ?_ (hX := rfl) (hv := o_load rfl (ld_one (shTOf rfl) (hc1 _ SBt)))) | ((with_reducible apply kQO (.load 27 (.tmp 23))); refine qP ?_ (o_load rfl (ld_one (shTOf rfl) (hc1 _ SBt)))) | (with_reducible first | refine c_seq ?_ | refine c_reg ?_ | refine c_region ?_ | refine c_block ?_ | refine c_skip ?_ | refine c_exit ?_ | refine c_ret ?_ | refine s_nil ?_ | refine x_then ?_ | refine x_then_exit ?_ | refine x_then_ret ?_ | refine x_block ?_ | refine x_block_ret ?_ | refine x_block_same ?_ | refine x_block_other (by first | rfl | decide) ?_ | refine q_nil ?_ | refine k_nil ?_) | ((with_reducible apply kP _); refine sP ?_) | ((with_reducible apply kP _); refine sX ?_) | ((with_reducible apply kQP); refine qP ?_) | ((with_reducible apply kQP); refine qX ?_) | ((with_reducible apply kC); first | refine cT ?_ | refine cF ?_ | (refine cI (fun h => ?_) (fun h => ?_) <;> (try (exfalso; omega))) | refine cB (fun h => ?_) (fun h => ?_)) | ((with_reducible apply kR); refine cQ ?_))
  exact e_ret1 rfl rfl ⟨rfl, rfl⟩ SCt
set_option maxRecDepth 100000 in
set_option maxHeartbeats 8000000 in
theorem k_turned2 (s : Sw) (ps : List Pc) (mu : Nat → Nat) (x : Nat) (hN : fsN (sdF ps) ps.length ≤ 48) (hx : x < fsN (sdF ps) ps.length) (B : Nat) (w0 : Wd) (hs : HS) (hS : SewAt B w0 hs s ps mu) :
    Fn Tryz.prog 44 #[.pointer (some ⟨s.b, 0, none⟩), iv x, iv (-1)] B w0 hs (fun v h => v = iv (pvN (sdF ps) ps.length x : Nat) ∧ h = hs) := by
  obtain ⟨_, h1, h2, h3⟩ := sdx hx
  have hp1 := fun hs' (h : hs.Sublist hs') => hS.pc h hx
  have hf1 := fun hs' (h : hs.Sublist hs') => hS.fs h h1
  have hc1 := fun hs' (h : hs.Sublist hs') => hS.cap.c0 h h1
  have hme := fun hs' (h : hs.Sublist hs') => hS.me' h
  have i1 := hS.s1 hx
  have i2 := hS.s2 h1
  have iP := hS.cap.isS h1
  have hv : (fsN (sdF ps) (pcG (sdF ps) ps.length x) : Int) + ((x : Int) - fsN (sdF ps) (pcG (sdF ps) ps.length x) + -1 + (pcA ps (pcG (sdF ps) ps.length x)).sd.length) % (pcA ps (pcG (sdF ps) ps.length x)).sd.length = (pvN (sdF ps) ps.length x : Nat) := by
    have hm := md_prev (k := (pcA ps (pcG (sdF ps) ps.length x)).sd.length) (r := x - fsN (sdF ps) (pcG (sdF ps) ps.length x)) (by omega)
    have e1 : (x : Int) - fsN (sdF ps) (pcG (sdF ps) ps.length x) + -1 + (pcA ps (pcG (sdF ps) ps.length x)).sd.length = ((x - fsN (sdF ps) (pcG (sdF ps) ps.length x) + (pcA ps (pcG (sdF ps) ps.length x)).sd.length - 1 : Nat) : Int) := by omega
    rw [e1, ← Int.natCast_emod, hm]
    unfold pvN
    have e2 : fsN (sdF ps) (pcG (sdF ps) ps.length x + 1) = fsN (sdF ps) (pcG (sdF ps) ps.length x) + (pcA ps (pcG (sdF ps) ps.length x)).sd.length := rfl
    rw [e2]
    split <;> split <;> omega
  rw [← hv]
  have hk6 : (pcA ps (pcG (sdF ps) ps.length x)).sd.length ≤ 48 := by
    have := fsN_mono (sd := sdF ps) (p := pcG (sdF ps) ps.length x + 1) (q := ps.length) (by omega)
    have e2 : fsN (sdF ps) (pcG (sdF ps) ps.length x + 1) = fsN (sdF ps) (pcG (sdF ps) ps.length x) + (pcA ps (pcG (sdF ps) ps.length x)).sd.length := rfl
    omega
  have hq1 := Int.emod_nonneg ((x : Int) - fsN (sdF ps) (pcG (sdF ps) ps.length x) + -1 + (pcA ps (pcG (sdF ps) ps.length x)).sd.length) (b := ((pcA ps (pcG (sdF ps) ps.length x)).sd.length : Int)) (by omega)
  have hq2 := Int.emod_lt_of_pos ((x : Int) - fsN (sdF ps) (pcG (sdF ps) ps.length x) + -1 + (pcA ps (pcG (sdF ps) ps.length x)).sd.length) (b := ((pcA ps (pcG (sdF ps) ps.length x)).sd.length : Int)) (by omega)
  clear hv
  generalize pcG (sdF ps) ps.length x = p at *
  generalize fsN (sdF ps) p = f at *
  refine fn_enter Tryz.func44 rfl Tryz.ntmps44 (by simp) ?_
  repeat' (first | ((with_reducible apply kP (.load 27 (.tmp 11))); refine sP ?_ (o_load rfl (ld_one (shTOf rfl) (own (hme _ SBt) rfl)))) | ((with_reducible apply kDP (.load 27 (.tmp 11))); refine dP ?_ (hX := rfl) (hv := o_load rfl (ld_one (shTOf rfl) (own (hme _ SBt) rfl)))) | ((with_reducible apply kQO (.load 27 (.tmp 11))); refine qP ?_ (o_load rfl (ld_one (shTOf rfl) (own (hme _ SBt) rfl)))) | ((with_reducible apply kP (.load 27 (.tmp 28))); refine sP ?_ (o_load rfl (ld_one (shTOf rfl) (own (hme _ SBt) rfl)))) | ((with_reducible apply kDP (.load 27 (.tmp 28))); refine dP ?_ (hX := rfl) (hv := o_load rfl (ld_one (shTOf rfl) (own (hme _ SBt) rfl)))) | ((with_reducible apply kQO (.load 27 (.tmp 28))); refine qP ?_ (o_load rfl (ld_one (shTOf rfl) (own (hme _ SBt) rfl)))) | ((with_reducible apply kP (.load 27 (.tmp 36))); refine sP ?_ (o_load rfl (ld_one (shTOf rfl) (own (hme _ SBt) rfl)))) | ((with_reducible apply kDP (.load 27 (.tmp 36))); refine dP ?_ (hX := rfl) (hv := o_load rfl (ld_one (shTOf rfl) (own (hme _ SBt) rfl)))) | ((with_reducible apply kQO (.load 27 (.tmp 36))); refine qP ?_ (o_load rfl (ld_one (shTOf rfl) (own (hme _ SBt) rfl)))) | ((with_reducible apply kP (.load 22 _)); refine sP ?_ (o_load rfl (ld_one (shTOf rfl) (own (hme _ SBt) rfl)))) | ((with_reducible apply kDP (.load 22 _)); refine dP ?_ (hX := rfl) (hv := o_load rfl (ld_one (shTOf rfl) (own (hme _ SBt) rfl)))) | ((with_reducible apply kQO (.load 22 _)); refine qP ?_ (o_load rfl (ld_one (shTOf rfl) (own (hme _ SBt) rfl)))) | ((with_reducible apply kP (.load 3 (.tmp 14))); refine sP ?_ (o_load rfl (ld_one (shTOf rfl) (hp1 _ SBt)))) | ((with_reducible apply kDP (.load 3 (.tmp 14))); refine dP ?_ (hX := rfl) (hv := o_load rfl (ld_one (shTOf rfl) (hp1 _ SBt)))) | ((with_reducible apply kQO (.load 3 (.tmp 14))); refine qP ?_ (o_load rfl (ld_one (shTOf rfl) (hp1 _ SBt)))) | ((with_reducible apply kP (.load 3 _)); refine sP ?_ (o_load rfl (ld_one (shTOf rfl) (hf1 _ SBt)))) | ((with_reducible apply kDP (.load 3 _)); refine dP ?_ (hX := rfl) (hv := o_load rfl (ld_one (shTOf rfl) (hf1 _ SBt)))) | ((with_reducible apply kQO (.load 3 _)); refine qP ?_ (o_load rfl (ld_one (shTOf rfl) (hf1 _ SBt)))) | ((with_reducible apply kP (.fieldAddr _ _ _)); refine sP ?_ (o_fieldE rfl (by assumption) (foTOf2 rfl rfl) (by with_reducible first | exact bb0 _ | exact bb1 _ | exact bb2 _ _))) | ((with_reducible apply kDP (.fieldAddr _ _ _)); refine dP ?_ (hX := rfl) (hv := o_fieldE rfl (by assumption) (foTOf2 rfl rfl) (by with_reducible first | exact bb0 _ | exact bb1 _ | exact bb2 _ _))) | ((with_reducible apply kQO (.fieldAddr _ _ _)); refine qP ?_ (o_fieldE rfl (by assumption) (foTOf2 rfl rfl) (by with_reducible first | exact bb0 _ | exact bb1 _ | exact bb2 _ _))) | ((with_reducible apply kP (.load 27 (.tmp 23))); refine sP ?_ (o_load rfl (ld_one (shTOf rfl) (hc1 _ SBt)))) | ((with_reducible apply kDP (.load 27 (.tmp 23))); refine dP ?_ (hX := rfl) (hv := o_load rfl (ld_one (shTOf rfl) (hc1 _ SBt)))) | ((with_reducible apply kQO (.load 27 (.tmp 23))); refine qP ?_ (o_load rfl (ld_one (shTOf rfl) (hc1 _ SBt)))) | (with_reducible first | refine c_seq ?_ | refine c_reg ?_ | refine c_region ?_ | refine c_block ?_ | refine c_skip ?_ | refine c_exit ?_ | refine c_ret ?_ | refine s_nil ?_ | refine x_then ?_ | refine x_then_exit ?_ | refine x_then_ret ?_ | refine x_block ?_ | refine x_block_ret ?_ | refine x_block_same ?_ | refine x_block_other (by first | rfl | decide) ?_ | refine q_nil ?_ | refine k_nil ?_) | ((with_reducible apply kP _); refine sP ?_) | ((with_reducible apply kP _); refine sX ?_) | ((with_reducible apply kQP); refine qP ?_) | ((with_reducible apply kQP); refine qX ?_) | ((with_reducible apply kC); first | refine cT ?_ | refine cF ?_ | (refine cI (fun h => ?_) (fun h => ?_) <;> (try (exfalso; omega))) | refine cB (fun h => ?_) (fun h => ?_)) | ((with_reducible apply kR); refine cQ ?_))
  exact e_ret1 rfl rfl ⟨rfl, rfl⟩ SCt
set_option maxRecDepth 100000 in
set_option maxHeartbeats 8000000 in
theorem k_angle (s : Sw) (ps : List Pc) (mu : Nat → Nat) (x : Nat) (hN : fsN (sdF ps) ps.length ≤ 48) (hx : x < fsN (sdF ps) ps.length) (hl : ∀ i, i < ps.length → (pcA ps i).an.length = (pcA ps i).sd.length) (B : Nat) (w0 : Wd) (hs : HS) (hS : SewAt B w0 hs s ps mu) :
    Fn Tryz.prog 45 #[.pointer (some ⟨s.b, 0, none⟩), iv x] B w0 hs (fun v h => v = iv ((pcA ps (pcG (sdF ps) ps.length x)).an.getD (x - fsN (sdF ps) (pcG (sdF ps) ps.length x)) 0) ∧ h = hs) := by
  obtain ⟨_, h1, h2, h3⟩ := sdx hx
  have hla := hl _ h1
  have hp1 := fun hs' (h : hs.Sublist hs') => hS.pc h hx
  have hf1 := fun hs' (h : hs.Sublist hs') => hS.fs h h1
  have hc1 := fun hs' (h : hs.Sublist hs') => hS.cap.c1 h h1
  have hme := fun hs' (h : hs.Sublist hs') => hS.me' h
  have i1 := hS.s1 hx
  have i2 := hS.s2 h1
  have iP := hS.cap.isS h1
  have hA := hS.ans _ h1
  have iA := hA.any (i := x - fsN (sdF ps) (pcG (sdF ps) ps.length x)) (by omega)
  generalize pcG (sdF ps) ps.length x = p at *
  generalize fsN (sdF ps) p = f at *
  have hj : (x : Int) - f = ((x - f : Nat) : Int) := by omega
  refine fn_enter Tryz.func45 rfl Tryz.ntmps45 (by simp) ?_
  repeat' (first | ((with_reducible apply kP (.load 27 (.tmp 8))); refine sP ?_ (o_load rfl (ld_one (shTOf rfl) (own (hme _ SBt) rfl)))) | ((with_reducible apply kDP (.load 27 (.tmp 8))); refine dP ?_ (hX := rfl) (hv := o_load rfl (ld_one (shTOf rfl) (own (hme _ SBt) rfl)))) | ((with_reducible apply kQO (.load 27 (.tmp 8))); refine qP ?_ (o_load rfl (ld_one (shTOf rfl) (own (hme _ SBt) rfl)))) | ((with_reducible apply kP (.load 27 (.tmp 25))); refine sP ?_ (o_load rfl (ld_one (shTOf rfl) (own (hme _ SBt) rfl)))) | ((with_reducible apply kDP (.load 27 (.tmp 25))); refine dP ?_ (hX := rfl) (hv := o_load rfl (ld_one (shTOf rfl) (own (hme _ SBt) rfl)))) | ((with_reducible apply kQO (.load 27 (.tmp 25))); refine qP ?_ (o_load rfl (ld_one (shTOf rfl) (own (hme _ SBt) rfl)))) | ((with_reducible apply kP (.load 22 _)); refine sP ?_ (o_load rfl (ld_one (shTOf rfl) (own (hme _ SBt) rfl)))) | ((with_reducible apply kDP (.load 22 _)); refine dP ?_ (hX := rfl) (hv := o_load rfl (ld_one (shTOf rfl) (own (hme _ SBt) rfl)))) | ((with_reducible apply kQO (.load 22 _)); refine qP ?_ (o_load rfl (ld_one (shTOf rfl) (own (hme _ SBt) rfl)))) | ((with_reducible apply kP (.load 3 (.tmp 11))); refine sP ?_ (o_load rfl (ld_one (shTOf rfl) (hp1 _ SBt)))) | ((with_reducible apply kDP (.load 3 (.tmp 11))); refine dP ?_ (hX := rfl) (hv := o_load rfl (ld_one (shTOf rfl) (hp1 _ SBt)))) | ((with_reducible apply kQO (.load 3 (.tmp 11))); refine qP ?_ (o_load rfl (ld_one (shTOf rfl) (hp1 _ SBt)))) | ((with_reducible apply kP (.load 3 (.tmp 28))); refine sP ?_ (o_load rfl (ld_one (shTOf rfl) (hf1 _ SBt)))) | ((with_reducible apply kDP (.load 3 (.tmp 28))); refine dP ?_ (hX := rfl) (hv := o_load rfl (ld_one (shTOf rfl) (hf1 _ SBt)))) | ((with_reducible apply kQO (.load 3 (.tmp 28))); refine qP ?_ (o_load rfl (ld_one (shTOf rfl) (hf1 _ SBt)))) | ((with_reducible apply kP (.fieldAddr _ _ _)); refine sP ?_ (o_fieldE rfl (by assumption) (foTOf2 rfl rfl) (by with_reducible first | exact bb0 _ | exact bb1 _ | exact bb2 _ _))) | ((with_reducible apply kDP (.fieldAddr _ _ _)); refine dP ?_ (hX := rfl) (hv := o_fieldE rfl (by assumption) (foTOf2 rfl rfl) (by with_reducible first | exact bb0 _ | exact bb1 _ | exact bb2 _ _))) | ((with_reducible apply kQO (.fieldAddr _ _ _)); refine qP ?_ (o_fieldE rfl (by assumption) (foTOf2 rfl rfl) (by with_reducible first | exact bb0 _ | exact bb1 _ | exact bb2 _ _))) | ((with_reducible apply kP (.load 27 (.tmp 20))); refine sP ?_ (o_load rfl (ld_one (shTOf rfl) (hc1 _ SBt)))) | ((with_reducible apply kDP (.load 27 (.tmp 20))); refine dP ?_ (hX := rfl) (hv := o_load rfl (ld_one (shTOf rfl) (hc1 _ SBt)))) | ((with_reducible apply kQO (.load 27 (.tmp 20))); refine qP ?_ (o_load rfl (ld_one (shTOf rfl) (hc1 _ SBt)))) | ((with_reducible apply kP (.indexAddr 27 (.tmp 21) _)); refine sP ?_ (o_indexS (scTOf rfl) rfl rfl hj (aa0 _) iA (by omega))) | ((with_reducible apply kDP (.indexAddr 27 (.tmp 21) _)); refine dP ?_ (hX := rfl) (hv := o_indexS (scTOf rfl) rfl rfl hj (aa0 _) iA (by omega))) | ((with_reducible apply kQO (.indexAddr 27 (.tmp 21) _)); refine qP ?_ (o_indexS (scTOf rfl) rfl rfl hj (aa0 _) iA (by omega))) | (with_reducible first | refine c_seq ?_ | refine c_reg ?_ | refine c_region ?_ | refine c_block ?_ | refine c_skip ?_ | refine c_exit ?_ | refine c_ret ?_ | refine s_nil ?_ | refine x_then ?_ | refine x_then_exit ?_ | refine x_then_ret ?_ | refine x_block ?_ | refine x_block_ret ?_ | refine x_block_same ?_ | refine x_block_other (by first | rfl | decide) ?_ | refine q_nil ?_ | refine k_nil ?_) | ((with_reducible apply kP _); refine sP ?_) | ((with_reducible apply kP _); refine sX ?_) | ((with_reducible apply kQP); refine qP ?_) | ((with_reducible apply kQP); refine qX ?_) | ((with_reducible apply kC); first | refine cT ?_ | refine cF ?_ | (refine cI (fun h => ?_) (fun h => ?_) <;> (try (exfalso; omega))) | refine cB (fun h => ?_) (fun h => ?_)) | ((with_reducible apply kR); refine cQ ?_))
  exact e_ret1 rfl rfl ⟨rfl, rfl⟩ SCt
end Go.Proofs.YtnbickholedckaaGreatDoor
namespace Go.Proofs.YtnbickholedckaaGreatDoor
open Go.RowKit
attribute [local irreducible] OpF Ld CellAt Sl Sv pcA usP
theorem mp109 : mpt Tryz.prog 103 = some (false, 1, .bool false) := by kernel_rfl
/-- Rows of numbers, each in memory of its own. -/
structure Lr where
  oa : Option Addr
  c : Nat
  l : List Int
  blk : HS
def lrv (rs : List Lr) : List Value := rs.map fun r => .slice r.oa r.l.length r.c
def lrb (rs : List Lr) : HS := rs.foldl (fun acc r => r.blk ++ acc) []
theorem lrb_snoc (rs : List Lr) (r : Lr) : lrb (rs ++ [r]) = r.blk ++ lrb rs := by simp [lrb]
theorem lrv_snoc (rs : List Lr) (r : Lr) : lrv (rs ++ [r]) = lrv rs ++ [.slice r.oa r.l.length r.c] := by simp [lrv]
theorem lrv_len (rs : List Lr) : (lrv rs).length = rs.length := by simp [lrv]
def nats (l : List Nat) : List Int := l.map fun x : Nat => ((x : Nat) : Int)
theorem nats_snoc (l : List Nat) (x : Nat) : ivs (nats (l ++ [x])) = ivs (nats l) ++ [iv (x : Int)] := by simp [nats, ivs]
theorem nats_len (l : List Nat) : (nats l).length = l.length := by simp [nats]
/-- What is handed over: a row of rows. -/
def LrR (ls : List (List Int)) (v : Value) (blk : HS) : Prop := ∃ oa c rs bo, v = .slice oa rs.length c ∧ RowOk oa c 1 (lrv rs) bo ∧ (∀ r ∈ rs, RowOk r.oa r.c 1 (ivs r.l) r.blk) ∧ rs.map (·.l) = ls ∧ blk = bo ++ lrb rs
structure LpI where
  i : Nat
  L : Mp
  oa : Option Addr
  c : Nat
  rs : List Lr
  bo : HS
structure LpJ where
  j : Nat
  L : Mp
  oa : Option Addr
  c : Nat
  k6 : HS
theorem iter_take (f : Nat → Nat) (x j : Nat) : (List.range (j + 1)).map (fun t => itn f t x) = (List.range j).map (fun t => itn f t x) ++ [itn f j x] := by simp [List.range_succ]
set_option maxRecDepth 100000 in
set_option maxHeartbeats 8000000 in
theorem k_loops (s : Sw) (ps : List Pc) (mu : Nat → Nat) (hN : fsN (sdF ps) ps.length ≤ 48) (hNet : NetN (fsN (sdF ps) ps.length) (nxN (sdF ps) ps.length) (pvN (sdF ps) ps.length) mu) (B : Nat) (w0 : Wd) (hs : HS) (hS : SewAt B w0 hs s ps mu) :
    Fn Tryz.prog 32 #[.pointer (some ⟨s.b, 0, none⟩)] B w0 hs (fun v h => ∃ blk, LrR ((lpsL (fsN (sdF ps) ps.length) (nxN (sdF ps) ps.length) mu (fsN (sdF ps) ps.length)).map nats) v blk ∧ h = blk ++ hs) := by
  have hmt : ∀ {x : Nat}, mu x ≠ x → mtF mu x = (mu x : Int) := fun h => if_neg h
  have hmf : ∀ {x : Nat}, mu x = x → mtF mu x = -1 := fun h => if_pos h
  have kt := fun (W : Wd) (hle : w0.le W) x (hx : x < fsN (sdF ps) ps.length) hs' (h : hs.Sublist hs') => k_turned1 s ps mu x hN hx B W hs' ((hS.base hle).sub h)
  have hme := fun hs' (h : hs.Sublist hs') => hS.me' h
  have hcl := fun (W : Wd) (hle : w0.le W) x (hx : x < fsN (sdF ps) ps.length) hs' (h : hs.Sublist hs') => (hS.base hle).mt h hx
  generalize hn : fsN (sdF ps) ps.length = n at *
  generalize hnx : nxN (sdF ps) ps.length = nx at *
  refine fn_enter Tryz.func32 rfl Tryz.ntmps32 (by simp) ?_
  repeat' (first | ((with_reducible apply kP (.makeMap _ _)); refine s_makeMap false (by decide) (fun mp => ?_)) | ((with_reducible apply kP (.load 27 _)); refine sP ?_ (o_load rfl (ld_one (shTOf rfl) (own (hme _ SBt) rfl)))) | ((with_reducible apply kDP (.load 27 _)); refine dP ?_ (hX := rfl) (hv := o_load rfl (ld_one (shTOf rfl) (own (hme _ SBt) rfl)))) | ((with_reducible apply kQO (.load 27 _)); refine qP ?_ (o_load rfl (ld_one (shTOf rfl) (own (hme _ SBt) rfl)))) | (with_reducible first | refine c_seq ?_ | refine c_reg ?_ | refine c_region ?_ | refine c_block ?_ | refine c_skip ?_ | refine c_exit ?_ | refine c_ret ?_ | refine s_nil ?_ | refine x_then ?_ | refine x_then_exit ?_ | refine x_then_ret ?_ | refine x_block ?_ | refine x_block_ret ?_ | refine x_block_same ?_ | refine x_block_other (by first | rfl | decide) ?_ | refine q_nil ?_ | refine k_nil ?_) | ((with_reducible apply kG); first | refine gY1 ?_ | refine gN1 ?_ | refine gU1 ?_ | (refine gD1 (fun h => ?_) (fun h => ?_) <;> (try (exfalso; omega))) | refine gB1 (fun h => ?_) (fun h => ?_)) | ((with_reducible apply kP (.buildSlice _ 1 _)); first | refine sl1A (fun b => ?_) | refine sl1 (fun b => ?_)) | ((with_reducible apply kP (.call ⟨.builtin .append, _, _⟩)); refine sAp (fun oa2 c2 blk2 hrow2 => ?_)) | ((with_reducible apply kP _); refine sP ?_) | ((with_reducible apply kP _); refine sX ?_) | ((with_reducible apply kC); first | refine cT ?_ | refine cF ?_ | (refine cI (fun h => ?_) (fun h => ?_) <;> (try (exfalso; omega))) | refine cB (fun h => ?_) (fun h => ?_)))
  refine c_loopM (fun t : LpI => ⟨w0.w, (mp, mapO false t.L) :: w0.ms⟩) (fun t : LpI => [(0, .pointer (some ⟨s.b, 0, none⟩)), (3, .slice t.oa t.rs.length t.c), (4, .map (some mp)), (13, iv n), (14, iv t.i)]) (fun t => t.bo ++ (lrb t.rs ++ hs))
    (fun t => t.i ≤ n ∧ SnM 1 (fun x => ∃ y : Nat, x = [((y : Nat) : Int)] ∧ seen1 n nx mu t.i y) t.L ∧ RowOk t.oa t.c 1 (lrv t.rs) t.bo ∧ (∀ r ∈ t.rs, RowOk r.oa r.c 1 (ivs r.l) r.blk) ∧ t.rs.map (·.l) = (lpsL n nx mu t.i).map nats ∧ t.rs.length ≤ t.i)
    (fun t => n - t.i) ⟨0, [], none, 0, [], []⟩ ⟨Nat.zero_le _, SnM.nil 1 (fun x => by rintro ⟨y, _, _, _, j, hj, _⟩; exact absurd hj (Nat.not_lt_zero _)), RowOk.nil, fun r hr => (by cases hr), rfl, Nat.le_refl _⟩ (.refl _) (by repeat' first | trivial | rfl | apply And.intro) (.refl _) ?_
  rintro ⟨i, L, oa, c, rs, bo⟩ ⟨hi, hSn, hro, hrr, hrl, hrc⟩
  dsimp only at hi hSn hro hrr hrl hrc ⊢
  have hle : w0.le ⟨w0.w, (mp, mapO false L) :: w0.ms⟩ := ⟨rfl, .cons _ (.refl _)⟩
  by_cases hi' : i < n
  · have i3 := hS.s3 (x := i) (by rw [hn]; exact hi')
    have hci := hcl _ hle i hi'
    have look : ∀ (y : Nat) (S : Nat → Prop) (L : Mp), SnM 1 (fun x => ∃ y : Nat, x = [((y : Nat) : Int)] ∧ S y) L → ∀ b : Bool, (b = true ↔ S y) → lkp L [(y : Int)] (.bool false) = .bool b := fun y S L h b hb => h.look _ (by
      rw [hb]
      constructor
      · exact fun h => ⟨y, rfl, h⟩
      · rintro ⟨z, hz, h⟩
        have : (y : Int) = (z : Int) := by simpa using hz
        rwa [show y = z by omega])
    by_cases hf : mu i = i
    · rw [hmf hf] at hci
      by_cases hfst : fstB n nx mu i = true
      · have hl0 := look i _ L hSn false (by simp only [Bool.false_eq_true, false_iff]; exact (seen1_fst hf hi').1 hfst)
        obtain ⟨p, hp⟩ := hNet.loop hi'
        repeat' (first | ((with_reducible apply kP (.load 27 _)); refine sP ?_ (o_load rfl (ld_one (shTOf rfl) (own (hme _ SBt) rfl)))) | ((with_reducible apply kDP (.load 27 _)); refine dP ?_ (hX := rfl) (hv := o_load rfl (ld_one (shTOf rfl) (own (hme _ SBt) rfl)))) | ((with_reducible apply kQO (.load 27 _)); refine qP ?_ (o_load rfl (ld_one (shTOf rfl) (own (hme _ SBt) rfl)))) | ((with_reducible apply kP (.load 3 _)); refine sP ?_ (o_load rfl (ld_one (shTOf rfl) (hci _ SBt)))) | ((with_reducible apply kDP (.load 3 _)); refine dP ?_ (hX := rfl) (hv := o_load rfl (ld_one (shTOf rfl) (hci _ SBt)))) | ((with_reducible apply kQO (.load 3 _)); refine qP ?_ (o_load rfl (ld_one (shTOf rfl) (hci _ SBt)))) | ((with_reducible apply kP (.lookup _ _ _ _)); refine sP ?_ (hl0 ▸ o_lookup (x := [(i : Int)]) mp109 rfl rfl (.head _) rfl hSn.len)) | (with_reducible first | refine c_seq ?_ | refine c_reg ?_ | refine c_region ?_ | refine c_block ?_ | refine c_skip ?_ | refine c_exit ?_ | refine c_ret ?_ | refine s_nil ?_ | refine x_then ?_ | refine x_then_exit ?_ | refine x_then_ret ?_ | refine x_block ?_ | refine x_block_ret ?_ | refine x_block_same ?_ | refine x_block_other (by first | rfl | decide) ?_ | refine q_nil ?_ | refine k_nil ?_) | ((with_reducible apply kG); first | refine gY1 ?_ | refine gN1 ?_ | refine gU1 ?_ | (refine gD1 (fun h => ?_) (fun h => ?_) <;> (try (exfalso; omega))) | refine gB1 (fun h => ?_) (fun h => ?_)) | ((with_reducible apply kP (.buildSlice _ 1 _)); first | refine sl1A (fun b => ?_) | refine sl1 (fun b => ?_)) | ((with_reducible apply kP (.call ⟨.builtin .append, _, _⟩)); refine sAp (fun oa2 c2 blk2 hrow2 => ?_)) | ((with_reducible apply kP _); refine sP ?_) | ((with_reducible apply kP _); refine sX ?_) | ((with_reducible apply kC); first | refine cT ?_ | refine cF ?_ | (refine cI (fun h => ?_) (fun h => ?_) <;> (try (exfalso; omega))) | refine cB (fun h => ?_) (fun h => ?_)))
        refine c_loopM (fun t : LpJ => ⟨w0.w, (mp, mapO false t.L) :: w0.ms⟩) (fun t : LpJ => [(0, .pointer (some ⟨s.b, 0, none⟩)), (3, .slice oa rs.length c), (4, .map (some mp)), (13, iv n), (14, iv i), (6, .slice t.oa t.j t.c), (7, iv (itn (hpN n nx mu) t.j i : Nat))]) (fun t => t.k6 ++ (bo ++ (lrb rs ++ hs)))
          (fun t => t.j ≤ p ∧ SnM 1 (fun x => ∃ y : Nat, x = [((y : Nat) : Int)] ∧ (seen1 n nx mu i y ∨ ∃ u, u < t.j ∧ itn (hpN n nx mu) u i = y)) t.L ∧ RowOk t.oa t.c 1 (ivs (nats ((List.range t.j).map fun u => itn (hpN n nx mu) u i))) t.k6)
          (fun t => p - t.j) ⟨0, L, none, 0, []⟩ ⟨Nat.zero_le _, ⟨hSn.len, hSn.yes, fun x => by rw [hSn.mem x]; exact ⟨fun ⟨y, e, h⟩ => ⟨y, e, .inl h⟩, fun ⟨y, e, h⟩ => ⟨y, e, h.resolve_right (fun ⟨u, hu, _⟩ => absurd hu (Nat.not_lt_zero _))⟩⟩⟩, RowOk.nil⟩ (.refl _) (by repeat' first | trivial | rfl | apply And.intro) (.refl _) ?_
        rintro ⟨j, L1, oa6, c6, k6⟩ ⟨hj, hSj, hr6⟩
        dsimp only at hj hSj hr6 ⊢
        obtain ⟨hy1, hy2, _⟩ := hNet.hp_it hi' hf j
        by_cases hj' : j < p
        · have hnew := loop_new hNet hf hi' hfst hp hj'
          have hl1 := look _ _ L1 hSj false (by simp only [Bool.false_eq_true, false_iff]; exact hnew)
          have hS2 : SnM 1 (fun x => ∃ y : Nat, x = [((y : Nat) : Int)] ∧ (seen1 n nx mu i y ∨ ∃ u, u < j + 1 ∧ itn (hpN n nx mu) u i = y)) (mset L1 [(itn (hpN n nx mu) j i : Nat)] (.bool true)) := hSj.step rfl (fun x => by
            constructor
            · rintro ⟨y, e, h | ⟨u, hu, h⟩⟩
              · exact .inl ⟨y, e, .inl h⟩
              · by_cases hu' : u = j
                · exact .inr (by rw [e, ← h, hu'])
                · exact .inl ⟨y, e, .inr ⟨u, by omega, h⟩⟩
            · rintro (⟨y, e, h | ⟨u, hu, h⟩⟩ | e)
              · exact ⟨y, e, .inl h⟩
              · exact ⟨y, e, .inr ⟨u, by omega, h⟩⟩
              · exact ⟨_, e, .inr ⟨j, by omega, rfl⟩⟩)
          obtain ⟨k, k1, k2, k3, k4, k5⟩ := hp_steps hNet hy1 hy2
          have hnx1 : itn (hpN n nx mu) (j + 1) i = hpN n nx mu (itn (hpN n nx mu) j i) := rfl
          have htk := iter_take (hpN n nx mu) i j
          rw [← hnx1] at k2
          have hlen : (ivs (nats ((List.range j).map fun u => itn (hpN n nx mu) u i))).length = j * 1 := by rw [ivs_length, nats_len, List.length_map, List.length_range, Nat.mul_one]
          have kt1 := kt ⟨w0.w, (mp, mapO false (mset L1 [(itn (hpN n nx mu) j i : Nat)] (.bool true))) :: w0.ms⟩ ⟨rfl, .cons _ (.refl _)⟩
          have hcl1 := hcl ⟨w0.w, (mp, mapO false (mset L1 [(itn (hpN n nx mu) j i : Nat)] (.bool true))) :: w0.ms⟩ ⟨rfl, .cons _ (.refl _)⟩
          have hjn : p ≤ n := hp.pn
          generalize hyy : itn (hpN n nx mu) j i = y at *
          have kty := kt1 y hy1
          rw [k5] at kty
          repeat' (first | ((with_reducible apply kP (.lookup _ _ _ _)); refine sP ?_ (hl1 ▸ o_lookup (x := [(y : Int)]) mp109 rfl rfl (.head _) rfl hSj.len)) | ((with_reducible apply kN); refine s_mapUpdate (x := [(y : Int)]) (v := .bool true) mp109 rfl rfl rfl rfl hSj.len (.head _) ?_) | ((with_reducible apply kP (.call ⟨.builtin .append, _, _⟩)); refine sAp (fun oa7 c7 k7 hr7 => ?_) (hr := hr6) (hk := hlen)) | ((with_reducible apply kF 44); refine sC 44 (kty _ SBt) ?_) | (with_reducible first | refine c_seq ?_ | refine c_reg ?_ | refine c_region ?_ | refine c_block ?_ | refine c_skip ?_ | refine c_exit ?_ | refine c_ret ?_ | refine s_nil ?_ | refine x_then ?_ | refine x_then_exit ?_ | refine x_then_ret ?_ | refine x_block ?_ | refine x_block_ret ?_ | refine x_block_same ?_ | refine x_block_other (by first | rfl | decide) ?_ | refine q_nil ?_ | refine k_nil ?_) | ((with_reducible apply kG); first | refine gY1 ?_ | refine gN1 ?_ | refine gU1 ?_ | (refine gD1 (fun h => ?_) (fun h => ?_) <;> (try (exfalso; omega))) | refine gB1 (fun h => ?_) (fun h => ?_)) | ((with_reducible apply kP (.buildSlice _ 1 _)); first | refine sl1A (fun b => ?_) | refine sl1 (fun b => ?_)) | ((with_reducible apply kP (.call ⟨.builtin .append, _, _⟩)); refine sAp (fun oa2 c2 blk2 hrow2 => ?_)) | ((with_reducible apply kP _); refine sP ?_) | ((with_reducible apply kP _); refine sX ?_) | ((with_reducible apply kC); first | refine cT ?_ | refine cF ?_ | (refine cI (fun h => ?_) (fun h => ?_) <;> (try (exfalso; omega))) | refine cB (fun h => ?_) (fun h => ?_)))
          refine c_loop (fun q : Nat => [(0, .pointer (some ⟨s.b, 0, none⟩)), (3, .slice oa rs.length c), (4, .map (some mp)), (13, iv n), (14, iv i), (6, .slice oa7 (j + 1) c7), (7, iv (itn (psN nx mu) q y : Nat))]) (fun _ => k7 ++ (bo ++ (lrb rs ++ hs))) (fun q => 1 ≤ q ∧ q ≤ k) (fun q => k - q) 1 ⟨Nat.le_refl _, k1⟩ (by repeat' first | trivial | rfl | apply And.intro) SCt ?_
          rintro q ⟨q1, q2⟩
          have hq3 := hNet.perm.itn_lt hy1 q
          have i3q := hS.s3 (x := i) (by rw [hn]; exact hi')
          have hcq := hcl1 _ hq3
          by_cases hqk : q = k
          · subst hqk
            rw [hmf k3] at hcq
            repeat' (first | ((with_reducible apply kP (.load 27 _)); refine sP ?_ (o_load rfl (ld_one (shTOf rfl) (own (hme _ SBt) rfl)))) | ((with_reducible apply kDP (.load 27 _)); refine dP ?_ (hX := rfl) (hv := o_load rfl (ld_one (shTOf rfl) (own (hme _ SBt) rfl)))) | ((with_reducible apply kQO (.load 27 _)); refine qP ?_ (o_load rfl (ld_one (shTOf rfl) (own (hme _ SBt) rfl)))) | ((with_reducible apply kP (.load 3 _)); refine sP ?_ (o_load rfl (ld_one (shTOf rfl) (hcq _ SBt)))) | ((with_reducible apply kDP (.load 3 _)); refine dP ?_ (hX := rfl) (hv := o_load rfl (ld_one (shTOf rfl) (hcq _ SBt)))) | ((with_reducible apply kQO (.load 3 _)); refine qP ?_ (o_load rfl (ld_one (shTOf rfl) (hcq _ SBt)))) | (with_reducible first | refine c_seq ?_ | refine c_reg ?_ | refine c_region ?_ | refine c_block ?_ | refine c_skip ?_ | refine c_exit ?_ | refine c_ret ?_ | refine s_nil ?_ | refine x_then ?_ | refine x_then_exit ?_ | refine x_then_ret ?_ | refine x_block ?_ | refine x_block_ret ?_ | refine x_block_same ?_ | refine x_block_other (by first | rfl | decide) ?_ | refine q_nil ?_ | refine k_nil ?_) | ((with_reducible apply kG); first | refine gY1 ?_ | refine gN1 ?_ | refine gU1 ?_ | (refine gD1 (fun h => ?_) (fun h => ?_) <;> (try (exfalso; omega))) | refine gB1 (fun h => ?_) (fun h => ?_)) | ((with_reducible apply kP (.buildSlice _ 1 _)); first | refine sl1A (fun b => ?_) | refine sl1 (fun b => ?_)) | ((with_reducible apply kP (.call ⟨.builtin .append, _, _⟩)); refine sAp (fun oa2 c2 blk2 hrow2 => ?_)) | ((with_reducible apply kP _); refine sP ?_) | ((with_reducible apply kP _); refine sX ?_) | ((with_reducible apply kC); first | refine cT ?_ | refine cF ?_ | (refine cI (fun h => ?_) (fun h => ?_) <;> (try (exfalso; omega))) | refine cB (fun h => ?_) (fun h => ?_)))
            rw [← k2]
            have hr7' : RowOk oa7 c7 1 (ivs (nats ((List.range (j + 1)).map fun u => itn (hpN n nx mu) u i))) k7 := by rw [htk, nats_snoc]; exact hr7
            exact r_endM (⟨j + 1, mset L1 [(y : Int)] (.bool true), oa7, c7, k7⟩ : LpJ) ⟨hj', hS2, hr7'⟩ (by dsimp only; omega) (.refl _) (by repeat' first | trivial | rfl | apply And.intro) SCt
          · have hne := k4 q q1 (by omega)
            rw [hmt hne] at hcq
            have ktq := kt1 _ (hNet.ml _ hq3)
            repeat' (first | ((with_reducible apply kP (.load 27 _)); refine sP ?_ (o_load rfl (ld_one (shTOf rfl) (own (hme _ SBt) rfl)))) | ((with_reducible apply kDP (.load 27 _)); refine dP ?_ (hX := rfl) (hv := o_load rfl (ld_one (shTOf rfl) (own (hme _ SBt) rfl)))) | ((with_reducible apply kQO (.load 27 _)); refine qP ?_ (o_load rfl (ld_one (shTOf rfl) (own (hme _ SBt) rfl)))) | ((with_reducible apply kP (.load 3 _)); refine sP ?_ (o_load rfl (ld_one (shTOf rfl) (hcq _ SBt)))) | ((with_reducible apply kDP (.load 3 _)); refine dP ?_ (hX := rfl) (hv := o_load rfl (ld_one (shTOf rfl) (hcq _ SBt)))) | ((with_reducible apply kQO (.load 3 _)); refine qP ?_ (o_load rfl (ld_one (shTOf rfl) (hcq _ SBt)))) | ((with_reducible apply kF 44); refine sC 44 (ktq _ SBt) ?_) | (with_reducible first | refine c_seq ?_ | refine c_reg ?_ | refine c_region ?_ | refine c_block ?_ | refine c_skip ?_ | refine c_exit ?_ | refine c_ret ?_ | refine s_nil ?_ | refine x_then ?_ | refine x_then_exit ?_ | refine x_then_ret ?_ | refine x_block ?_ | refine x_block_ret ?_ | refine x_block_same ?_ | refine x_block_other (by first | rfl | decide) ?_ | refine q_nil ?_ | refine k_nil ?_) | ((with_reducible apply kG); first | refine gY1 ?_ | refine gN1 ?_ | refine gU1 ?_ | (refine gD1 (fun h => ?_) (fun h => ?_) <;> (try (exfalso; omega))) | refine gB1 (fun h => ?_) (fun h => ?_)) | ((with_reducible apply kP (.buildSlice _ 1 _)); first | refine sl1A (fun b => ?_) | refine sl1 (fun b => ?_)) | ((with_reducible apply kP (.call ⟨.builtin .append, _, _⟩)); refine sAp (fun oa2 c2 blk2 hrow2 => ?_)) | ((with_reducible apply kP _); refine sP ?_) | ((with_reducible apply kP _); refine sX ?_) | ((with_reducible apply kC); first | refine cT ?_ | refine cF ?_ | (refine cI (fun h => ?_) (fun h => ?_) <;> (try (exfalso; omega))) | refine cB (fun h => ?_) (fun h => ?_)))
            exact r_end (q + 1) ⟨by omega, by omega⟩ (by omega) (by repeat' first | trivial | rfl | apply And.intro) SCt
        · obtain rfl : p = j := by omega
          have hl1 := look (itn (hpN n nx mu) p i) _ L1 hSj true (by simp only [true_iff]; exact .inr ⟨0, hp.p1, hp.ret.symm⟩)
          have hSi : SnM 1 (fun x => ∃ y : Nat, x = [((y : Nat) : Int)] ∧ seen1 n nx mu (i + 1) y) L1 := ⟨hSj.len, hSj.yes, fun x => by
            rw [hSj.mem x]
            exact ⟨fun ⟨y, e, h⟩ => ⟨y, e, (seen1_yes hNet hf hi' hp y).2 h⟩, fun ⟨y, e, h⟩ => ⟨y, e, (seen1_yes hNet hf hi' hp y).1 h⟩⟩⟩
          have hll := hp.list
          have hln : (nats ((List.range p).map fun u => itn (hpN n nx mu) u i)).length = p := by rw [nats_len, List.length_map, List.length_range]
          have hpn := hp.pn
          repeat' (first | ((with_reducible apply kP (.lookup _ _ _ _)); refine sP ?_ (hl1 ▸ o_lookup (x := [(itn (hpN n nx mu) p i : Int)]) mp109 rfl rfl (.head _) rfl hSj.len)) | ((with_reducible apply kP (.call ⟨.builtin .append, _, _⟩)); refine sAp (fun oa8 c8 k8 hr8 => ?_) (hr := hro) (hk := by rw [lrv_len, Nat.mul_one])) | (with_reducible first | refine c_seq ?_ | refine c_reg ?_ | refine c_region ?_ | refine c_block ?_ | refine c_skip ?_ | refine c_exit ?_ | refine c_ret ?_ | refine s_nil ?_ | refine x_then ?_ | refine x_then_exit ?_ | refine x_then_ret ?_ | refine x_block ?_ | refine x_block_ret ?_ | refine x_block_same ?_ | refine x_block_other (by first | rfl | decide) ?_ | refine q_nil ?_ | refine k_nil ?_) | ((with_reducible apply kG); first | refine gY1 ?_ | refine gN1 ?_ | refine gU1 ?_ | (refine gD1 (fun h => ?_) (fun h => ?_) <;> (try (exfalso; omega))) | refine gB1 (fun h => ?_) (fun h => ?_)) | ((with_reducible apply kP (.buildSlice _ 1 _)); first | refine sl1A (fun b => ?_) | refine sl1 (fun b => ?_)) | ((with_reducible apply kP (.call ⟨.builtin .append, _, _⟩)); refine sAp (fun oa2 c2 blk2 hrow2 => ?_)) | ((with_reducible apply kP _); refine sP ?_) | ((with_reducible apply kP _); refine sX ?_) | ((with_reducible apply kC); first | refine cT ?_ | refine cF ?_ | (refine cI (fun h => ?_) (fun h => ?_) <;> (try (exfalso; omega))) | refine cB (fun h => ?_) (fun h => ?_)))
          have hr8' : RowOk oa8 c8 1 (lrv (rs ++ [⟨oa6, c6, nats ((List.range p).map fun u => itn (hpN n nx mu) u i), k6⟩])) k8 := by rw [lrv_snoc]; dsimp only; rw [hln]; exact hr8
          rw [show rs.length + 1 = (rs ++ [(⟨oa6, c6, nats ((List.range p).map fun u => itn (hpN n nx mu) u i), k6⟩ : Lr)]).length by simp]
          refine r_endM (⟨i + 1, L1, oa8, c8, rs ++ [⟨oa6, c6, nats ((List.range p).map fun u => itn (hpN n nx mu) u i), k6⟩], k8⟩ : LpI) ⟨hi', hSi, hr8', fun r hr => ?_, ?_, by simp; omega⟩ (by dsimp only; omega) (.refl _) (by repeat' first | trivial | rfl | apply And.intro) (by dsimp only; rw [lrb_snoc, List.append_assoc]; exact SCt)
          · rcases List.mem_append.1 hr with hr | hr
            · exact hrr r hr
            · rw [List.mem_singleton] at hr; subst hr; exact hr6
          · dsimp only
            rw [lpsL_yes hfst, List.map_append, List.map_append, hrl, hll]
            rfl
      · have hfs : fstB n nx mu i = false := by simpa using hfst
        have hsn : seen1 n nx mu i i := by
          by_cases h : seen1 n nx mu i i
          · exact h
          · exact absurd ((seen1_fst hf hi').2 h) hfst
        have hl0 := look i _ L hSn true (by simp only [true_iff]; exact hsn)
        have hSi : SnM 1 (fun x => ∃ y : Nat, x = [((y : Nat) : Int)] ∧ seen1 n nx mu (i + 1) y) L := ⟨hSn.len, hSn.yes, fun x => by
          rw [hSn.mem x]
          exact ⟨fun ⟨y, e, h⟩ => ⟨y, e, (seen1_no hfs hi' y).2 h⟩, fun ⟨y, e, h⟩ => ⟨y, e, (seen1_no hfs hi' y).1 h⟩⟩⟩
        repeat' (first | ((with_reducible apply kP (.load 27 _)); refine sP ?_ (o_load rfl (ld_one (shTOf rfl) (own (hme _ SBt) rfl)))) | ((with_reducible apply kDP (.load 27 _)); refine dP ?_ (hX := rfl) (hv := o_load rfl (ld_one (shTOf rfl) (own (hme _ SBt) rfl)))) | ((with_reducible apply kQO (.load 27 _)); refine qP ?_ (o_load rfl (ld_one (shTOf rfl) (own (hme _ SBt) rfl)))) | ((with_reducible apply kP (.load 3 _)); refine sP ?_ (o_load rfl (ld_one (shTOf rfl) (hci _ SBt)))) | ((with_reducible apply kDP (.load 3 _)); refine dP ?_ (hX := rfl) (hv := o_load rfl (ld_one (shTOf rfl) (hci _ SBt)))) | ((with_reducible apply kQO (.load 3 _)); refine qP ?_ (o_load rfl (ld_one (shTOf rfl) (hci _ SBt)))) | ((with_reducible apply kP (.lookup _ _ _ _)); refine sP ?_ (hl0 ▸ o_lookup (x := [(i : Int)]) mp109 rfl rfl (.head _) rfl hSn.len)) | (with_reducible first | refine c_seq ?_ | refine c_reg ?_ | refine c_region ?_ | refine c_block ?_ | refine c_skip ?_ | refine c_exit ?_ | refine c_ret ?_ | refine s_nil ?_ | refine x_then ?_ | refine x_then_exit ?_ | refine x_then_ret ?_ | refine x_block ?_ | refine x_block_ret ?_ | refine x_block_same ?_ | refine x_block_other (by first | rfl | decide) ?_ | refine q_nil ?_ | refine k_nil ?_) | ((with_reducible apply kG); first | refine gY1 ?_ | refine gN1 ?_ | refine gU1 ?_ | (refine gD1 (fun h => ?_) (fun h => ?_) <;> (try (exfalso; omega))) | refine gB1 (fun h => ?_) (fun h => ?_)) | ((with_reducible apply kP (.buildSlice _ 1 _)); first | refine sl1A (fun b => ?_) | refine sl1 (fun b => ?_)) | ((with_reducible apply kP (.call ⟨.builtin .append, _, _⟩)); refine sAp (fun oa2 c2 blk2 hrow2 => ?_)) | ((with_reducible apply kP _); refine sP ?_) | ((with_reducible apply kP _); refine sX ?_) | ((with_reducible apply kC); first | refine cT ?_ | refine cF ?_ | (refine cI (fun h => ?_) (fun h => ?_) <;> (try (exfalso; omega))) | refine cB (fun h => ?_) (fun h => ?_)))
        exact r_endM (⟨i + 1, L, oa, c, rs, bo⟩ : LpI) ⟨hi', hSi, hro, hrr, by dsimp only; rw [lpsL_no hfs]; exact hrl, by dsimp only; omega⟩ (by dsimp only; omega) (.refl _) (by repeat' first | trivial | rfl | apply And.intro) SCt
    · rw [hmt hf] at hci
      have hfs : fstB n nx mu i = false := by unfold fstB; simp [hf]
      have hSi : SnM 1 (fun x => ∃ y : Nat, x = [((y : Nat) : Int)] ∧ seen1 n nx mu (i + 1) y) L := ⟨hSn.len, hSn.yes, fun x => by
        rw [hSn.mem x]
        exact ⟨fun ⟨y, e, h⟩ => ⟨y, e, (seen1_no hfs hi' y).2 h⟩, fun ⟨y, e, h⟩ => ⟨y, e, (seen1_no hfs hi' y).1 h⟩⟩⟩
      repeat' (first | ((with_reducible apply kP (.load 27 _)); refine sP ?_ (o_load rfl (ld_one (shTOf rfl) (own (hme _ SBt) rfl)))) | ((with_reducible apply kDP (.load 27 _)); refine dP ?_ (hX := rfl) (hv := o_load rfl (ld_one (shTOf rfl) (own (hme _ SBt) rfl)))) | ((with_reducible apply kQO (.load 27 _)); refine qP ?_ (o_load rfl (ld_one (shTOf rfl) (own (hme _ SBt) rfl)))) | ((with_reducible apply kP (.load 3 _)); refine sP ?_ (o_load rfl (ld_one (shTOf rfl) (hci _ SBt)))) | ((with_reducible apply kDP (.load 3 _)); refine dP ?_ (hX := rfl) (hv := o_load rfl (ld_one (shTOf rfl) (hci _ SBt)))) | ((with_reducible apply kQO (.load 3 _)); refine qP ?_ (o_load rfl (ld_one (shTOf rfl) (hci _ SBt)))) | (with_reducible first | refine c_seq ?_ | refine c_reg ?_ | refine c_region ?_ | refine c_block ?_ | refine c_skip ?_ | refine c_exit ?_ | refine c_ret ?_ | refine s_nil ?_ | refine x_then ?_ | refine x_then_exit ?_ | refine x_then_ret ?_ | refine x_block ?_ | refine x_block_ret ?_ | refine x_block_same ?_ | refine x_block_other (by first | rfl | decide) ?_ | refine q_nil ?_ | refine k_nil ?_) | ((with_reducible apply kG); first | refine gY1 ?_ | refine gN1 ?_ | refine gU1 ?_ | (refine gD1 (fun h => ?_) (fun h => ?_) <;> (try (exfalso; omega))) | refine gB1 (fun h => ?_) (fun h => ?_)) | ((with_reducible apply kP (.buildSlice _ 1 _)); first | refine sl1A (fun b => ?_) | refine sl1 (fun b => ?_)) | ((with_reducible apply kP (.call ⟨.builtin .append, _, _⟩)); refine sAp (fun oa2 c2 blk2 hrow2 => ?_)) | ((with_reducible apply kP _); refine sP ?_) | ((with_reducible apply kP _); refine sX ?_) | ((with_reducible apply kC); first | refine cT ?_ | refine cF ?_ | (refine cI (fun h => ?_) (fun h => ?_) <;> (try (exfalso; omega))) | refine cB (fun h => ?_) (fun h => ?_)))
      exact r_endM (⟨i + 1, L, oa, c, rs, bo⟩ : LpI) ⟨hi', hSi, hro, hrr, by dsimp only; rw [lpsL_no hfs]; exact hrl, by dsimp only; omega⟩ (by dsimp only; omega) (.refl _) (by repeat' first | trivial | rfl | apply And.intro) SCt
  · obtain rfl : n = i := by omega
    repeat' (first | (with_reducible first | refine c_seq ?_ | refine c_reg ?_ | refine c_region ?_ | refine c_block ?_ | refine c_skip ?_ | refine c_exit ?_ | refine c_ret ?_ | refine s_nil ?_ | refine x_then ?_ | refine x_then_exit ?_ | refine x_then_ret ?_ | refine x_block ?_ | refine x_block_ret ?_ | refine x_block_same ?_ | refine x_block_other (by first | rfl | decide) ?_ | refine q_nil ?_ | refine k_nil ?_) | ((with_reducible apply kG); first | refine gY1 ?_ | refine gN1 ?_ | refine gU1 ?_ | (refine gD1 (fun h => ?_) (fun h => ?_) <;> (try (exfalso; omega))) | refine gB1 (fun h => ?_) (fun h => ?_)) | ((with_reducible apply kP (.buildSlice _ 1 _)); first | refine sl1A (fun b => ?_) | refine sl1 (fun b => ?_)) | ((with_reducible apply kP (.call ⟨.builtin .append, _, _⟩)); refine sAp (fun oa2 c2 blk2 hrow2 => ?_)) | ((with_reducible apply kP _); refine sP ?_) | ((with_reducible apply kP _); refine sX ?_) | ((with_reducible apply kC); first | refine cT ?_ | refine cF ?_ | (refine cI (fun h => ?_) (fun h => ?_) <;> (try (exfalso; omega))) | refine cB (fun h => ?_) (fun h => ?_)))
    exact Sat.base (a := w0) hle (e_ret1 (hs' := bo ++ (lrb rs ++ hs)) rfl rfl ⟨_, ⟨oa, c, rs, bo, rfl, hro, hrr, hrl, rfl⟩, by rw [List.append_assoc]⟩ SCt)
end Go.Proofs.YtnbickholedckaaGreatDoor
namespace Go.Proofs.YtnbickholedckaaGreatDoor
open Go.RowKit
attribute [local irreducible] OpF Ld CellAt Sl Sv pcA usP
set_option maxRecDepth 100000 in
set_option maxHeartbeats 8000000 in
theorem k_around (s : Sw) (c : Nat) (B : Nat) (w0 : Wd) (hs : HS) :
    Fn Tryz.prog 49 #[.pointer (some ⟨s.b, 0, none⟩), iv c] B w0 hs (fun v h => ∃ blk, (∃ b2 b3, v = .func (.func 63) #[] #[.pointer (some ⟨b3, 0, none⟩), .pointer (some ⟨b2, 0, none⟩)] ∧ blk = [(b3, [iv c]), (b2, [.pointer (some ⟨s.b, 0, none⟩)])]) ∧ h = blk ++ hs) := by
  refine fn_enter Tryz.func49 rfl Tryz.ntmps49 (by simp) ?_
  repeat' (first | ((with_reducible apply kP (.box 69 _)); refine sB (fun b2 => ?_)) | ((with_reducible apply kP (.box 3 _)); refine sB (fun b3 => ?_)) | (with_reducible first | refine c_seq ?_ | refine c_reg ?_ | refine c_region ?_ | refine c_block ?_ | refine c_skip ?_ | refine c_exit ?_ | refine c_ret ?_ | refine s_nil ?_ | refine x_then ?_ | refine x_then_exit ?_ | refine x_then_ret ?_ | refine x_block ?_ | refine x_block_ret ?_ | refine x_block_same ?_ | refine x_block_other (by first | rfl | decide) ?_ | refine q_nil ?_ | refine k_nil ?_) | ((with_reducible apply kP (.makeFunc _ _ _)); refine sMF ?_) | ((with_reducible apply kP (.box _ _)); first | refine sBA (fun b => ?_) | refine sB (fun b => ?_)) | ((with_reducible apply kP _); refine sP ?_) | ((with_reducible apply kP _); refine sX ?_) | ((with_reducible apply kC); first | refine cT ?_ | refine cF ?_ | (refine cI (fun h => ?_) (fun h => ?_) <;> (try (exfalso; omega))) | refine cB (fun h => ?_) (fun h => ?_)))
  exact e_ret1 (hs' := (b3, [iv c]) :: (b2, [.pointer (some ⟨s.b, 0, none⟩)]) :: hs) rfl rfl ⟨_, ⟨b2, b3, rfl, rfl⟩, rfl⟩ SCt
theorem wayL_at {nx pv mu : Nat → Nat} {c k m j : Nat} (h : j ≤ k) : ((wayL nx pv mu c k m).map fun x : Nat => iv ((x : Nat) : Int))[j]? = some (iv (itn (psN nx mu) j c : Nat)) := by
  rw [List.getElem?_map]
  unfold wayL
  rw [List.getElem?_append_left (by simp; omega), List.getElem?_map, List.getElem?_range (by omega)]
  rfl
theorem wayL_at2 {nx pv mu : Nat → Nat} {c k m j : Nat} (h : j < m) : ((wayL nx pv mu c k m).map fun x : Nat => iv ((x : Nat) : Int))[k + 1 + j]? = some (iv (itn (qsN pv mu) (j + 1) c : Nat)) := by
  rw [List.getElem?_map]
  unfold wayL
  rw [List.getElem?_append_right (by simp), List.getElem?_map]
  simp only [List.length_map, List.length_range, Nat.add_sub_cancel_left]
  rw [List.getElem?_range h]
  rfl
theorem wayL_len (nx pv mu : Nat → Nat) (c k m : Nat) : (wayL nx pv mu c k m).length = k + 1 + m := by simp [wayL]
set_option maxRecDepth 100000 in
set_option maxHeartbeats 8000000 in
theorem k_iter (s : Sw) (ps : List Pc) (mu : Nat → Nat) (hN : fsN (sdF ps) ps.length ≤ 48) (hNet : NetN (fsN (sdF ps) ps.length) (nxN (sdF ps) ps.length) (pvN (sdF ps) ps.length) mu) (c : Nat) (hc : c < fsN (sdF ps) ps.length) (k m : Nat) (cl : Bool)
    (hw : WayN (fsN (sdF ps) ps.length) (nxN (sdF ps) ps.length) (pvN (sdF ps) ps.length) mu c k m cl) (B b2 b3 : Nat) :
    IterC Tryz.prog 63 [.pointer (some ⟨b3, 0, none⟩), .pointer (some ⟨b2, 0, none⟩)] B ((wayL (nxN (sdF ps) ps.length) (pvN (sdF ps) ps.length) mu c k m).map fun x : Nat => iv ((x : Nat) : Int))
      (fun W h => SewAt B W h s ps mu ∧ (b3, [iv c]) ∈ h ∧ (b2, [.pointer (some ⟨s.b, 0, none⟩)]) ∈ h) := by
  intro ι W H C ly hRD hY i0 w1 h0 hw1
  rw [List.length_map, wayL_len]
  have hmt : ∀ {x : Nat}, mu x ≠ x → mtF mu x = (mu x : Int) := fun h => if_neg h
  have hmf : ∀ {x : Nat}, mu x = x → mtF mu x = -1 := fun h => if_pos h
  have kt1 := fun (W : Wd) (h : HS) (hS : SewAt B W h s ps mu) x (hx : x < fsN (sdF ps) ps.length) hs' (hsub : h.Sublist hs') => k_turned1 s ps mu x hN hx B W hs' (hS.sub hsub)
  have kt2 := fun (W : Wd) (h : HS) (hS : SewAt B W h s ps mu) x (hx : x < fsN (sdF ps) ps.length) hs' (hsub : h.Sublist hs') => k_turned2 s ps mu x hN hx B W hs' (hS.sub hsub)
  have hat := fun j (h : j ≤ k) => wayL_at (nx := nxN (sdF ps) ps.length) (pv := pvN (sdF ps) ps.length) (mu := mu) (c := c) (m := m) h
  have hat2 := fun j (h : j < m) => wayL_at2 (nx := nxN (sdF ps) ps.length) (pv := pvN (sdF ps) ps.length) (mu := mu) (c := c) (k := k) h
  generalize hxs : ((wayL (nxN (sdF ps) ps.length) (pvN (sdF ps) ps.length) mu c k m).map fun x : Nat => iv ((x : Nat) : Int)) = xs at *
  have hql := hNet.qit hc
  have hpl := hNet.perm.itn_lt hc
  have hkn := hw.kn
  generalize hn : fsN (sdF ps) ps.length = n at *
  generalize hnx : nxN (sdF ps) ps.length = nx at *
  generalize hpv : pvN (sdF ps) ps.length = pv at *
  obtain ⟨hS0, hm30, hm20⟩ := hRD 0 i0 h0
  refine calls_enterG Tryz.func63 rfl Tryz.ntmps63 (by simp) (hw1) ?_
  repeat' (first | (with_reducible first | refine g_seq ?_ | refine g_block ?_ | refine g_skip ?_ | refine g_exit ?_ | refine g_ret ?_ | refine si_nil ?_) | ((with_reducible apply kGD 3); refine g_drawn [1, 1, 1, 1, 1, 1, 1, 1, 4, 1] _ (List.Sublist.refl _) mixed (by kernel_rfl) (by rfl) ?_) | ((with_reducible apply kGD 5); refine g_drawn [0, 0, 0, 0, 1, 1, 3, 1, 1, 1] _ (List.Sublist.refl _) mixed (by kernel_rfl) (by rfl) ?_) | ((with_reducible apply kGD 7); refine g_drawn [0, 0, 0, 0, 1, 1, 3, 1, 1, 1] _ (List.Sublist.refl _) mixed (by kernel_rfl) (by rfl) ?_) | ((with_reducible apply gCI); first | refine gT ?_ | refine gF ?_ | (refine gI (fun h => ?_) (fun h => ?_) <;> (try (exfalso; omega))) | refine gBB (fun h => ?_) (fun h => ?_)) | ((with_reducible apply gRI); refine g_quiet mixed (by kernel_rfl) (by rfl) ?_) | (refine g_region ?_) | ((with_reducible apply kYo _); refine si_one rfl ?_) | ((with_reducible apply kP (.load 3 (.tmp 1))); refine sP ?_ (o_load rfl (ld_one (shTOf rfl) (own hm30 rfl)))) | ((with_reducible apply kRg 3); refine cD [1, 1, 1, 1, 1, 1, 1, 1, 4, 1] ?_) | ((with_reducible apply kRg 5); refine cD [0, 0, 0, 0, 1, 1, 3, 1, 1, 1] ?_) | ((with_reducible apply kRg 7); refine cD [0, 0, 0, 0, 1, 1, 3, 1, 1, 1] ?_) | (with_reducible first | refine c_seq ?_ | refine c_reg ?_ | refine c_region ?_ | refine c_block ?_ | refine c_skip ?_ | refine c_exit ?_ | refine c_ret ?_ | refine s_nil ?_ | refine x_then ?_ | refine x_then_exit ?_ | refine x_then_ret ?_ | refine x_block ?_ | refine x_block_ret ?_ | refine x_block_same ?_ | refine x_block_other (by first | rfl | decide) ?_ | refine q_nil ?_ | refine k_nil ?_) | ((with_reducible apply kP _); refine sP ?_) | ((with_reducible apply kP _); refine sX ?_) | ((with_reducible apply kC); first | refine cT ?_ | refine cF ?_ | (refine cI (fun h => ?_) (fun h => ?_) <;> (try (exfalso; omega))) | refine cB (fun h => ?_) (fun h => ?_)) | ((with_reducible apply kDP _); refine dP ?_) | ((with_reducible apply kDP _); refine dX ?_))
  refine g_loop (ι := Nat × ι) (fun _ => []) (fun t => W t.2) (fun t => [(0, .func (.yield ly) #[] #[]), (1, .pointer (some ⟨b3, 0, none⟩)), (2, .pointer (some ⟨b2, 0, none⟩)), (4, iv (itn (psN nx mu) t.1 c : Nat))]) (fun t => H t.2) (fun t => t.1 ≤ k ∧ C t.1 t.2) (fun t => k - t.1) (0, i0) ⟨Nat.zero_le _, h0⟩ rfl (.refl _) (by repeat' first | trivial | rfl | apply And.intro) (.refl _) ?_
  rintro ⟨j, i⟩ ⟨hj, hCj⟩
  dsimp only at hj hCj ⊢
  repeat' (first | ((with_reducible apply kGR 1); refine g_regY ?_) | ((with_reducible apply kYc 7); refine si_yield (W := W) (H := H) (C := C (j + 1)) rfl rfl (by decide) (hY j i _ (hat j hj) hCj) (fun i2 hC2 => ?_)) | (with_reducible first | refine g_seq ?_ | refine g_block ?_ | refine g_skip ?_ | refine g_exit ?_ | refine g_ret ?_ | refine si_nil ?_) | ((with_reducible apply kGD 3); refine g_drawn [1, 1, 1, 1, 1, 1, 1, 1, 4, 1] _ (List.Sublist.refl _) mixed (by kernel_rfl) (by rfl) ?_) | ((with_reducible apply kGD 5); refine g_drawn [0, 0, 0, 0, 1, 1, 3, 1, 1, 1] _ (List.Sublist.refl _) mixed (by kernel_rfl) (by rfl) ?_) | ((with_reducible apply kGD 7); refine g_drawn [0, 0, 0, 0, 1, 1, 3, 1, 1, 1] _ (List.Sublist.refl _) mixed (by kernel_rfl) (by rfl) ?_) | ((with_reducible apply gCI); first | refine gT ?_ | refine gF ?_ | (refine gI (fun h => ?_) (fun h => ?_) <;> (try (exfalso; omega))) | refine gBB (fun h => ?_) (fun h => ?_)) | ((with_reducible apply gRI); refine g_quiet mixed (by kernel_rfl) (by rfl) ?_) | (refine g_region ?_) | ((with_reducible apply kYo _); refine si_one rfl ?_) | ((with_reducible apply kRg 3); refine cD [1, 1, 1, 1, 1, 1, 1, 1, 4, 1] ?_) | ((with_reducible apply kRg 5); refine cD [0, 0, 0, 0, 1, 1, 3, 1, 1, 1] ?_) | ((with_reducible apply kRg 7); refine cD [0, 0, 0, 0, 1, 1, 3, 1, 1, 1] ?_) | (with_reducible first | refine c_seq ?_ | refine c_reg ?_ | refine c_region ?_ | refine c_block ?_ | refine c_skip ?_ | refine c_exit ?_ | refine c_ret ?_ | refine s_nil ?_ | refine x_then ?_ | refine x_then_exit ?_ | refine x_then_ret ?_ | refine x_block ?_ | refine x_block_ret ?_ | refine x_block_same ?_ | refine x_block_other (by first | rfl | decide) ?_ | refine q_nil ?_ | refine k_nil ?_) | ((with_reducible apply kP _); refine sP ?_) | ((with_reducible apply kP _); refine sX ?_) | ((with_reducible apply kC); first | refine cT ?_ | refine cF ?_ | (refine cI (fun h => ?_) (fun h => ?_) <;> (try (exfalso; omega))) | refine cB (fun h => ?_) (fun h => ?_)) | ((with_reducible apply kDP _); refine dP ?_) | ((with_reducible apply kDP _); refine dX ?_))
  obtain ⟨hS, hm3, hm2⟩ := hRD (j + 1) i2 hC2
  have hme := hS.me' (.refl _)
  rw [hn] at hme
  have hFj := hpl j
  have i3 := hS.s3 (x := itn (psN nx mu) j c) (by rw [hn]; exact hFj)
  have hcj := hS.mt (.refl _) (x := itn (psN nx mu) j c) (by rw [hn]; exact hFj)
  by_cases hf : mu (itn (psN nx mu) j c) = itn (psN nx mu) j c
  · -- a free side: back to the first corner
    have hjk : j = k := by
      by_cases h : j < k
      · exact absurd hf (hw.fw j h).1
      · omega
    have hcl : cl = false := by
      cases cl with
      | false => rfl
      | true => exact absurd (hjk ▸ hf) (hw.en rfl).1
    subst hjk
    rw [hmf hf] at hcj
    have kp := kt2 (W i2) (H i2) hS c hc
    have hpc := hNet.pl c hc
    have hcp := hS.mt (.refl _) (x := pv c) (by rw [hn]; exact hpc)
    repeat' (first | ((with_reducible apply kP (.load 69 _)); refine sP ?_ (o_load rfl (ld_one (shTOf rfl) (own hm2 rfl)))) | ((with_reducible apply kDP (.load 69 _)); refine dP ?_ (hX := rfl) (hv := o_load rfl (ld_one (shTOf rfl) (own hm2 rfl)))) | ((with_reducible apply kQO (.load 69 _)); refine qP ?_ (o_load rfl (ld_one (shTOf rfl) (own hm2 rfl)))) | ((with_reducible apply kP (.load 27 _)); refine sP ?_ (o_load rfl (ld_one (shTOf rfl) (own hme rfl)))) | ((with_reducible apply kDP (.load 27 _)); refine dP ?_ (hX := rfl) (hv := o_load rfl (ld_one (shTOf rfl) (own hme rfl)))) | ((with_reducible apply kQO (.load 27 _)); refine qP ?_ (o_load rfl (ld_one (shTOf rfl) (own hme rfl)))) | ((with_reducible apply kP (.load 3 (.tmp 16))); refine sP ?_ (o_load rfl (ld_one (shTOf rfl) hcj))) | ((with_reducible apply kDP (.load 3 (.tmp 16))); refine dP ?_ (hX := rfl) (hv := o_load rfl (ld_one (shTOf rfl) hcj))) | ((with_reducible apply kQO (.load 3 (.tmp 16))); refine qP ?_ (o_load rfl (ld_one (shTOf rfl) hcj))) | ((with_reducible apply kP (.load 3 (.tmp 1))); refine sP ?_ (o_load rfl (ld_one (shTOf rfl) (own hm3 rfl)))) | ((with_reducible apply kDP (.load 3 (.tmp 1))); refine dP ?_ (hX := rfl) (hv := o_load rfl (ld_one (shTOf rfl) (own hm3 rfl)))) | ((with_reducible apply kQO (.load 3 (.tmp 1))); refine qP ?_ (o_load rfl (ld_one (shTOf rfl) (own hm3 rfl)))) | ((with_reducible apply kDF 44); refine dC 44 (fun F => kp _ (sbA (.refl _))) ?_) | ((with_reducible apply kP (.load 3 (.tmp 38))); refine sP ?_ (o_load rfl (ld_one (shTOf rfl) hcp))) | ((with_reducible apply kDP (.load 3 (.tmp 38))); refine dP ?_ (hX := rfl) (hv := o_load rfl (ld_one (shTOf rfl) hcp))) | ((with_reducible apply kQO (.load 3 (.tmp 38))); refine qP ?_ (o_load rfl (ld_one (shTOf rfl) hcp))) | (with_reducible first | refine g_seq ?_ | refine g_block ?_ | refine g_skip ?_ | refine g_exit ?_ | refine g_ret ?_ | refine si_nil ?_) | ((with_reducible apply kGD 3); refine g_drawn [1, 1, 1, 1, 1, 1, 1, 1, 4, 1] _ (List.Sublist.refl _) mixed (by kernel_rfl) (by rfl) ?_) | ((with_reducible apply kGD 5); refine g_drawn [0, 0, 0, 0, 1, 1, 3, 1, 1, 1] _ (List.Sublist.refl _) mixed (by kernel_rfl) (by rfl) ?_) | ((with_reducible apply kGD 7); refine g_drawn [0, 0, 0, 0, 1, 1, 3, 1, 1, 1] _ (List.Sublist.refl _) mixed (by kernel_rfl) (by rfl) ?_) | ((with_reducible apply gCI); first | refine gT ?_ | refine gF ?_ | (refine gI (fun h => ?_) (fun h => ?_) <;> (try (exfalso; omega))) | refine gBB (fun h => ?_) (fun h => ?_)) | ((with_reducible apply gRI); refine g_quiet mixed (by kernel_rfl) (by rfl) ?_) | (refine g_region ?_) | ((with_reducible apply kYo _); refine si_one rfl ?_) | ((with_reducible apply kRg 3); refine cD [1, 1, 1, 1, 1, 1, 1, 1, 4, 1] ?_) | ((with_reducible apply kRg 5); refine cD [0, 0, 0, 0, 1, 1, 3, 1, 1, 1] ?_) | ((with_reducible apply kRg 7); refine cD [0, 0, 0, 0, 1, 1, 3, 1, 1, 1] ?_) | (with_reducible first | refine c_seq ?_ | refine c_reg ?_ | refine c_region ?_ | refine c_block ?_ | refine c_skip ?_ | refine c_exit ?_ | refine c_ret ?_ | refine s_nil ?_ | refine x_then ?_ | refine x_then_exit ?_ | refine x_then_ret ?_ | refine x_block ?_ | refine x_block_ret ?_ | refine x_block_same ?_ | refine x_block_other (by first | rfl | decide) ?_ | refine q_nil ?_ | refine k_nil ?_) | ((with_reducible apply kP _); refine sP ?_) | ((with_reducible apply kP _); refine sX ?_) | ((with_reducible apply kC); first | refine cT ?_ | refine cF ?_ | (refine cI (fun h => ?_) (fun h => ?_) <;> (try (exfalso; omega))) | refine cB (fun h => ?_) (fun h => ?_)) | ((with_reducible apply kDP _); refine dP ?_) | ((with_reducible apply kDP _); refine dX ?_))
    refine g_loop (ι := Nat × ι) (fun _ => []) (fun t => W t.2) (fun t => [(0, .func (.yield ly) #[] #[]), (1, .pointer (some ⟨b3, 0, none⟩)), (2, .pointer (some ⟨b2, 0, none⟩)), (5, iv (mtF mu (pv (itn (qsN pv mu) t.1 c))))]) (fun t => H t.2) (fun t => t.1 ≤ m ∧ C (j + 1 + t.1) t.2) (fun t => m - t.1) (0, i2) ⟨Nat.zero_le _, hC2⟩ rfl (.refl _) (by repeat' first | trivial | rfl | apply And.intro) (.refl _) ?_
    rintro ⟨q, i⟩ ⟨hq, hCq⟩
    dsimp only at hq hCq ⊢
    by_cases hqm : q = m
    · subst hqm
      rw [hmf (hw.be hcl)]
      repeat' (first | (with_reducible first | refine g_seq ?_ | refine g_block ?_ | refine g_skip ?_ | refine g_exit ?_ | refine g_ret ?_ | refine si_nil ?_) | ((with_reducible apply kGD 3); refine g_drawn [1, 1, 1, 1, 1, 1, 1, 1, 4, 1] _ (List.Sublist.refl _) mixed (by kernel_rfl) (by rfl) ?_) | ((with_reducible apply kGD 5); refine g_drawn [0, 0, 0, 0, 1, 1, 3, 1, 1, 1] _ (List.Sublist.refl _) mixed (by kernel_rfl) (by rfl) ?_) | ((with_reducible apply kGD 7); refine g_drawn [0, 0, 0, 0, 1, 1, 3, 1, 1, 1] _ (List.Sublist.refl _) mixed (by kernel_rfl) (by rfl) ?_) | ((with_reducible apply gCI); first | refine gT ?_ | refine gF ?_ | (refine gI (fun h => ?_) (fun h => ?_) <;> (try (exfalso; omega))) | refine gBB (fun h => ?_) (fun h => ?_)) | ((with_reducible apply gRI); refine g_quiet mixed (by kernel_rfl) (by rfl) ?_) | (refine g_region ?_) | ((with_reducible apply kYo _); refine si_one rfl ?_) | ((with_reducible apply kRg 3); refine cD [1, 1, 1, 1, 1, 1, 1, 1, 4, 1] ?_) | ((with_reducible apply kRg 5); refine cD [0, 0, 0, 0, 1, 1, 3, 1, 1, 1] ?_) | ((with_reducible apply kRg 7); refine cD [0, 0, 0, 0, 1, 1, 3, 1, 1, 1] ?_) | (with_reducible first | refine c_seq ?_ | refine c_reg ?_ | refine c_region ?_ | refine c_block ?_ | refine c_skip ?_ | refine c_exit ?_ | refine c_ret ?_ | refine s_nil ?_ | refine x_then ?_ | refine x_then_exit ?_ | refine x_then_ret ?_ | refine x_block ?_ | refine x_block_ret ?_ | refine x_block_same ?_ | refine x_block_other (by first | rfl | decide) ?_ | refine q_nil ?_ | refine k_nil ?_) | ((with_reducible apply kP _); refine sP ?_) | ((with_reducible apply kP _); refine sX ?_) | ((with_reducible apply kC); first | refine cT ?_ | refine cF ?_ | (refine cI (fun h => ?_) (fun h => ?_) <;> (try (exfalso; omega))) | refine cB (fun h => ?_) (fun h => ?_)) | ((with_reducible apply kDP _); refine dP ?_) | ((with_reducible apply kDP _); refine dX ?_))
      first | exact e_retY rfl (fun w hw' => ⟨⟨_, rfl⟩, i, hCq, hw'⟩) | exact e_retYn rfl (fun w hw' => ⟨⟨_, rfl⟩, i, hCq, hw'⟩) | trace_state
    · have hql' := hql q
      have hne := hw.bw q (by omega)
      have hG : mu (pv (itn (qsN pv mu) q c)) = itn (qsN pv mu) (q + 1) c := rfl
      have hx2 := hat2 q (by omega)
      have hG2 := hql (q + 1)
      rw [hmt hne, hG]
      generalize hg : itn (qsN pv mu) (q + 1) c = g at *
      repeat' (first | ((with_reducible apply kGR 8); refine g_regY ?_) | ((with_reducible apply kYc 51); refine si_yield (W := W) (H := H) (C := C (j + 1 + q + 1)) rfl rfl (by decide) (hY (j + 1 + q) i _ hx2 hCq) (fun i4 hC4 => ?_)) | (with_reducible first | refine g_seq ?_ | refine g_block ?_ | refine g_skip ?_ | refine g_exit ?_ | refine g_ret ?_ | refine si_nil ?_) | ((with_reducible apply kGD 3); refine g_drawn [1, 1, 1, 1, 1, 1, 1, 1, 4, 1] _ (List.Sublist.refl _) mixed (by kernel_rfl) (by rfl) ?_) | ((with_reducible apply kGD 5); refine g_drawn [0, 0, 0, 0, 1, 1, 3, 1, 1, 1] _ (List.Sublist.refl _) mixed (by kernel_rfl) (by rfl) ?_) | ((with_reducible apply kGD 7); refine g_drawn [0, 0, 0, 0, 1, 1, 3, 1, 1, 1] _ (List.Sublist.refl _) mixed (by kernel_rfl) (by rfl) ?_) | ((with_reducible apply gCI); first | refine gT ?_ | refine gF ?_ | (refine gI (fun h => ?_) (fun h => ?_) <;> (try (exfalso; omega))) | refine gBB (fun h => ?_) (fun h => ?_)) | ((with_reducible apply gRI); refine g_quiet mixed (by kernel_rfl) (by rfl) ?_) | (refine g_region ?_) | ((with_reducible apply kYo _); refine si_one rfl ?_) | ((with_reducible apply kRg 3); refine cD [1, 1, 1, 1, 1, 1, 1, 1, 4, 1] ?_) | ((with_reducible apply kRg 5); refine cD [0, 0, 0, 0, 1, 1, 3, 1, 1, 1] ?_) | ((with_reducible apply kRg 7); refine cD [0, 0, 0, 0, 1, 1, 3, 1, 1, 1] ?_) | (with_reducible first | refine c_seq ?_ | refine c_reg ?_ | refine c_region ?_ | refine c_block ?_ | refine c_skip ?_ | refine c_exit ?_ | refine c_ret ?_ | refine s_nil ?_ | refine x_then ?_ | refine x_then_exit ?_ | refine x_then_ret ?_ | refine x_block ?_ | refine x_block_ret ?_ | refine x_block_same ?_ | refine x_block_other (by first | rfl | decide) ?_ | refine q_nil ?_ | refine k_nil ?_) | ((with_reducible apply kP _); refine sP ?_) | ((with_reducible apply kP _); refine sX ?_) | ((with_reducible apply kC); first | refine cT ?_ | refine cF ?_ | (refine cI (fun h => ?_) (fun h => ?_) <;> (try (exfalso; omega))) | refine cB (fun h => ?_) (fun h => ?_)) | ((with_reducible apply kDP _); refine dP ?_) | ((with_reducible apply kDP _); refine dX ?_))
      clear hme hm2 hm3 hS
      obtain ⟨hS, hm3, hm2⟩ := hRD _ i4 hC4
      have hme := hS.me' (.refl _)
      rw [hn] at hme
      have kp := kt2 (W i4) (H i4) hS g hG2
      have hpc := hNet.pl g hG2
      have hcp := hS.mt (.refl _) (x := pv g) (by rw [hn]; exact hpc)
      repeat' (first | ((with_reducible apply kP (.load 69 _)); refine sP ?_ (o_load rfl (ld_one (shTOf rfl) (own hm2 rfl)))) | ((with_reducible apply kDP (.load 69 _)); refine dP ?_ (hX := rfl) (hv := o_load rfl (ld_one (shTOf rfl) (own hm2 rfl)))) | ((with_reducible apply kQO (.load 69 _)); refine qP ?_ (o_load rfl (ld_one (shTOf rfl) (own hm2 rfl)))) | ((with_reducible apply kP (.load 27 _)); refine sP ?_ (o_load rfl (ld_one (shTOf rfl) (own hme rfl)))) | ((with_reducible apply kDP (.load 27 _)); refine dP ?_ (hX := rfl) (hv := o_load rfl (ld_one (shTOf rfl) (own hme rfl)))) | ((with_reducible apply kQO (.load 27 _)); refine qP ?_ (o_load rfl (ld_one (shTOf rfl) (own hme rfl)))) | ((with_reducible apply kDF 44); refine dC 44 (fun F => kp _ (sbA (.refl _))) ?_) | ((with_reducible apply kP (.load 3 (.tmp 49))); refine sP ?_ (o_load rfl (ld_one (shTOf rfl) hcp))) | ((with_reducible apply kDP (.load 3 (.tmp 49))); refine dP ?_ (hX := rfl) (hv := o_load rfl (ld_one (shTOf rfl) hcp))) | ((with_reducible apply kQO (.load 3 (.tmp 49))); refine qP ?_ (o_load rfl (ld_one (shTOf rfl) hcp))) | (with_reducible first | refine g_seq ?_ | refine g_block ?_ | refine g_skip ?_ | refine g_exit ?_ | refine g_ret ?_ | refine si_nil ?_) | ((with_reducible apply kGD 3); refine g_drawn [1, 1, 1, 1, 1, 1, 1, 1, 4, 1] _ (List.Sublist.refl _) mixed (by kernel_rfl) (by rfl) ?_) | ((with_reducible apply kGD 5); refine g_drawn [0, 0, 0, 0, 1, 1, 3, 1, 1, 1] _ (List.Sublist.refl _) mixed (by kernel_rfl) (by rfl) ?_) | ((with_reducible apply kGD 7); refine g_drawn [0, 0, 0, 0, 1, 1, 3, 1, 1, 1] _ (List.Sublist.refl _) mixed (by kernel_rfl) (by rfl) ?_) | ((with_reducible apply gCI); first | refine gT ?_ | refine gF ?_ | (refine gI (fun h => ?_) (fun h => ?_) <;> (try (exfalso; omega))) | refine gBB (fun h => ?_) (fun h => ?_)) | ((with_reducible apply gRI); refine g_quiet mixed (by kernel_rfl) (by rfl) ?_) | (refine g_region ?_) | ((with_reducible apply kYo _); refine si_one rfl ?_) | ((with_reducible apply kRg 3); refine cD [1, 1, 1, 1, 1, 1, 1, 1, 4, 1] ?_) | ((with_reducible apply kRg 5); refine cD [0, 0, 0, 0, 1, 1, 3, 1, 1, 1] ?_) | ((with_reducible apply kRg 7); refine cD [0, 0, 0, 0, 1, 1, 3, 1, 1, 1] ?_) | (with_reducible first | refine c_seq ?_ | refine c_reg ?_ | refine c_region ?_ | refine c_block ?_ | refine c_skip ?_ | refine c_exit ?_ | refine c_ret ?_ | refine s_nil ?_ | refine x_then ?_ | refine x_then_exit ?_ | refine x_then_ret ?_ | refine x_block ?_ | refine x_block_ret ?_ | refine x_block_same ?_ | refine x_block_other (by first | rfl | decide) ?_ | refine q_nil ?_ | refine k_nil ?_) | ((with_reducible apply kP _); refine sP ?_) | ((with_reducible apply kP _); refine sX ?_) | ((with_reducible apply kC); first | refine cT ?_ | refine cF ?_ | (refine cI (fun h => ?_) (fun h => ?_) <;> (try (exfalso; omega))) | refine cB (fun h => ?_) (fun h => ?_)) | ((with_reducible apply kDP _); refine dP ?_) | ((with_reducible apply kDP _); refine dX ?_))
      rw [← hg]
      exact g_end (q + 1, i4) ⟨by dsimp only; omega, hC4⟩ (by dsimp only; omega) rfl (.refl _) (by repeat' first | trivial | rfl | apply And.intro) (.refl _)
  · have hnb : nx (mu (itn (psN nx mu) j c)) = itn (psN nx mu) (j + 1) c := rfl
    rw [hmt hf] at hcj
    have kp := kt1 (W i2) (H i2) hS _ (hNet.ml _ hFj)
    rw [hnb] at kp
    by_cases hjk : j < k
    · have hnc := (hw.fw j hjk).2
      generalize hg : itn (psN nx mu) (j + 1) c = g at *
      repeat' (first | ((with_reducible apply kP (.load 69 _)); refine sP ?_ (o_load rfl (ld_one (shTOf rfl) (own hm2 rfl)))) | ((with_reducible apply kDP (.load 69 _)); refine dP ?_ (hX := rfl) (hv := o_load rfl (ld_one (shTOf rfl) (own hm2 rfl)))) | ((with_reducible apply kQO (.load 69 _)); refine qP ?_ (o_load rfl (ld_one (shTOf rfl) (own hm2 rfl)))) | ((with_reducible apply kP (.load 27 _)); refine sP ?_ (o_load rfl (ld_one (shTOf rfl) (own hme rfl)))) | ((with_reducible apply kDP (.load 27 _)); refine dP ?_ (hX := rfl) (hv := o_load rfl (ld_one (shTOf rfl) (own hme rfl)))) | ((with_reducible apply kQO (.load 27 _)); refine qP ?_ (o_load rfl (ld_one (shTOf rfl) (own hme rfl)))) | ((with_reducible apply kP (.load 3 (.tmp 16))); refine sP ?_ (o_load rfl (ld_one (shTOf rfl) hcj))) | ((with_reducible apply kDP (.load 3 (.tmp 16))); refine dP ?_ (hX := rfl) (hv := o_load rfl (ld_one (shTOf rfl) hcj))) | ((with_reducible apply kQO (.load 3 (.tmp 16))); refine qP ?_ (o_load rfl (ld_one (shTOf rfl) hcj))) | ((with_reducible apply kP (.load 3 (.tmp 25))); refine sP ?_ (o_load rfl (ld_one (shTOf rfl) hcj))) | ((with_reducible apply kDP (.load 3 (.tmp 25))); refine dP ?_ (hX := rfl) (hv := o_load rfl (ld_one (shTOf rfl) hcj))) | ((with_reducible apply kQO (.load 3 (.tmp 25))); refine qP ?_ (o_load rfl (ld_one (shTOf rfl) hcj))) | ((with_reducible apply kP (.load 3 (.tmp 1))); refine sP ?_ (o_load rfl (ld_one (shTOf rfl) (own hm3 rfl)))) | ((with_reducible apply kDP (.load 3 (.tmp 1))); refine dP ?_ (hX := rfl) (hv := o_load rfl (ld_one (shTOf rfl) (own hm3 rfl)))) | ((with_reducible apply kQO (.load 3 (.tmp 1))); refine qP ?_ (o_load rfl (ld_one (shTOf rfl) (own hm3 rfl)))) | ((with_reducible apply kDF 44); refine dC 44 (fun F => kp _ (sbA (.refl _))) ?_) | (with_reducible first | refine g_seq ?_ | refine g_block ?_ | refine g_skip ?_ | refine g_exit ?_ | refine g_ret ?_ | refine si_nil ?_) | ((with_reducible apply kGD 3); refine g_drawn [1, 1, 1, 1, 1, 1, 1, 1, 4, 1] _ (List.Sublist.refl _) mixed (by kernel_rfl) (by rfl) ?_) | ((with_reducible apply kGD 5); refine g_drawn [0, 0, 0, 0, 1, 1, 3, 1, 1, 1] _ (List.Sublist.refl _) mixed (by kernel_rfl) (by rfl) ?_) | ((with_reducible apply kGD 7); refine g_drawn [0, 0, 0, 0, 1, 1, 3, 1, 1, 1] _ (List.Sublist.refl _) mixed (by kernel_rfl) (by rfl) ?_) | ((with_reducible apply gCI); first | refine gT ?_ | refine gF ?_ | (refine gI (fun h => ?_) (fun h => ?_) <;> (try (exfalso; omega))) | refine gBB (fun h => ?_) (fun h => ?_)) | ((with_reducible apply gRI); refine g_quiet mixed (by kernel_rfl) (by rfl) ?_) | (refine g_region ?_) | ((with_reducible apply kYo _); refine si_one rfl ?_) | ((with_reducible apply kRg 3); refine cD [1, 1, 1, 1, 1, 1, 1, 1, 4, 1] ?_) | ((with_reducible apply kRg 5); refine cD [0, 0, 0, 0, 1, 1, 3, 1, 1, 1] ?_) | ((with_reducible apply kRg 7); refine cD [0, 0, 0, 0, 1, 1, 3, 1, 1, 1] ?_) | (with_reducible first | refine c_seq ?_ | refine c_reg ?_ | refine c_region ?_ | refine c_block ?_ | refine c_skip ?_ | refine c_exit ?_ | refine c_ret ?_ | refine s_nil ?_ | refine x_then ?_ | refine x_then_exit ?_ | refine x_then_ret ?_ | refine x_block ?_ | refine x_block_ret ?_ | refine x_block_same ?_ | refine x_block_other (by first | rfl | decide) ?_ | refine q_nil ?_ | refine k_nil ?_) | ((with_reducible apply kP _); refine sP ?_) | ((with_reducible apply kP _); refine sX ?_) | ((with_reducible apply kC); first | refine cT ?_ | refine cF ?_ | (refine cI (fun h => ?_) (fun h => ?_) <;> (try (exfalso; omega))) | refine cB (fun h => ?_) (fun h => ?_)) | ((with_reducible apply kDP _); refine dP ?_) | ((with_reducible apply kDP _); refine dX ?_))
      rw [← hg]
      exact g_end (j + 1, i2) ⟨hjk, hC2⟩ (by dsimp only; omega) rfl (.refl _) (by repeat' first | trivial | rfl | apply And.intro) (.refl _)
    · have hjk' : j = k := by omega
      subst hjk'
      have hcl : cl = true := by
        cases cl with
        | true => rfl
        | false => exact absurd (hw.op rfl) hf
      have hnc := (hw.en hcl).2
      have hm0 := hw.b0 hcl
      rw [hnc] at kp
      repeat' (first | ((with_reducible apply kP (.load 69 _)); refine sP ?_ (o_load rfl (ld_one (shTOf rfl) (own hm2 rfl)))) | ((with_reducible apply kDP (.load 69 _)); refine dP ?_ (hX := rfl) (hv := o_load rfl (ld_one (shTOf rfl) (own hm2 rfl)))) | ((with_reducible apply kQO (.load 69 _)); refine qP ?_ (o_load rfl (ld_one (shTOf rfl) (own hm2 rfl)))) | ((with_reducible apply kP (.load 27 _)); refine sP ?_ (o_load rfl (ld_one (shTOf rfl) (own hme rfl)))) | ((with_reducible apply kDP (.load 27 _)); refine dP ?_ (hX := rfl) (hv := o_load rfl (ld_one (shTOf rfl) (own hme rfl)))) | ((with_reducible apply kQO (.load 27 _)); refine qP ?_ (o_load rfl (ld_one (shTOf rfl) (own hme rfl)))) | ((with_reducible apply kP (.load 3 (.tmp 16))); refine sP ?_ (o_load rfl (ld_one (shTOf rfl) hcj))) | ((with_reducible apply kDP (.load 3 (.tmp 16))); refine dP ?_ (hX := rfl) (hv := o_load rfl (ld_one (shTOf rfl) hcj))) | ((with_reducible apply kQO (.load 3 (.tmp 16))); refine qP ?_ (o_load rfl (ld_one (shTOf rfl) hcj))) | ((with_reducible apply kP (.load 3 (.tmp 25))); refine sP ?_ (o_load rfl (ld_one (shTOf rfl) hcj))) | ((with_reducible apply kDP (.load 3 (.tmp 25))); refine dP ?_ (hX := rfl) (hv := o_load rfl (ld_one (shTOf rfl) hcj))) | ((with_reducible apply kQO (.load 3 (.tmp 25))); refine qP ?_ (o_load rfl (ld_one (shTOf rfl) hcj))) | ((with_reducible apply kP (.load 3 (.tmp 1))); refine sP ?_ (o_load rfl (ld_one (shTOf rfl) (own hm3 rfl)))) | ((with_reducible apply kDP (.load 3 (.tmp 1))); refine dP ?_ (hX := rfl) (hv := o_load rfl (ld_one (shTOf rfl) (own hm3 rfl)))) | ((with_reducible apply kQO (.load 3 (.tmp 1))); refine qP ?_ (o_load rfl (ld_one (shTOf rfl) (own hm3 rfl)))) | ((with_reducible apply kDF 44); refine dC 44 (fun F => kp _ (sbA (.refl _))) ?_) | (with_reducible first | refine g_seq ?_ | refine g_block ?_ | refine g_skip ?_ | refine g_exit ?_ | refine g_ret ?_ | refine si_nil ?_) | ((with_reducible apply kGD 3); refine g_drawn [1, 1, 1, 1, 1, 1, 1, 1, 4, 1] _ (List.Sublist.refl _) mixed (by kernel_rfl) (by rfl) ?_) | ((with_reducible apply kGD 5); refine g_drawn [0, 0, 0, 0, 1, 1, 3, 1, 1, 1] _ (List.Sublist.refl _) mixed (by kernel_rfl) (by rfl) ?_) | ((with_reducible apply kGD 7); refine g_drawn [0, 0, 0, 0, 1, 1, 3, 1, 1, 1] _ (List.Sublist.refl _) mixed (by kernel_rfl) (by rfl) ?_) | ((with_reducible apply gCI); first | refine gT ?_ | refine gF ?_ | (refine gI (fun h => ?_) (fun h => ?_) <;> (try (exfalso; omega))) | refine gBB (fun h => ?_) (fun h => ?_)) | ((with_reducible apply gRI); refine g_quiet mixed (by kernel_rfl) (by rfl) ?_) | (refine g_region ?_) | ((with_reducible apply kYo _); refine si_one rfl ?_) | ((with_reducible apply kRg 3); refine cD [1, 1, 1, 1, 1, 1, 1, 1, 4, 1] ?_) | ((with_reducible apply kRg 5); refine cD [0, 0, 0, 0, 1, 1, 3, 1, 1, 1] ?_) | ((with_reducible apply kRg 7); refine cD [0, 0, 0, 0, 1, 1, 3, 1, 1, 1] ?_) | (with_reducible first | refine c_seq ?_ | refine c_reg ?_ | refine c_region ?_ | refine c_block ?_ | refine c_skip ?_ | refine c_exit ?_ | refine c_ret ?_ | refine s_nil ?_ | refine x_then ?_ | refine x_then_exit ?_ | refine x_then_ret ?_ | refine x_block ?_ | refine x_block_ret ?_ | refine x_block_same ?_ | refine x_block_other (by first | rfl | decide) ?_ | refine q_nil ?_ | refine k_nil ?_) | ((with_reducible apply kP _); refine sP ?_) | ((with_reducible apply kP _); refine sX ?_) | ((with_reducible apply kC); first | refine cT ?_ | refine cF ?_ | (refine cI (fun h => ?_) (fun h => ?_) <;> (try (exfalso; omega))) | refine cB (fun h => ?_) (fun h => ?_)) | ((with_reducible apply kDP _); refine dP ?_) | ((with_reducible apply kDP _); refine dX ?_))
      all_goals first
        | exact e_retY rfl (fun w hw' => ⟨⟨_, rfl⟩, i2, by rw [hm0]; exact hC2, hw'⟩)
        | (exfalso; omega)
        | trace_state
end Go.Proofs.YtnbickholedckaaGreatDoor
namespace Go.Proofs
open Go.Shelf
def Tryz.sortI_ren : Go.Shelf.Ren := ⟨fun | 189 => 30 | 125 => 51 | 257 => 50 | 128 => 73 | 129 => 74 | 294 => 64 | 295 => 65 | 296 => 66 | 297 => 67 | 298 => 68 | 299 => 69 | 216 => 70 | 300 => 71 | 301 => 72 | 328 => 86 | 329 => 87 | 330 => 88 | 331 => 89 | 332 => 90 | 215 => 91 | 343 => 105 | n => n, fun | 28 => 27 | 3 => 3 | 46 => 64 | 0 => 0 | 51 => 129 | 53 => 131 | 4 => 4 | 183 => 121 | 182 => 120 | 131 => 126 | 5 => 5 | 9 => 9 | 218 => 142 | 222 => 146 | 228 => 164 | 229 => 102 | n => n, fun | n => n⟩
theorem Tryz.sortI : Go.Proofs.Lays.n189 Tryz.prog Tryz.sortI_ren := {
  mixed := by kernel_rfl
  f125 := Tryz.func51.trans (congrArg some (by kernel_rfl))
  f128 := Tryz.func73.trans (congrArg some (by kernel_rfl))
  f129 := Tryz.func74.trans (congrArg some (by kernel_rfl))
  f189 := Tryz.func30.trans (congrArg some (by kernel_rfl))
  f215 := Tryz.func91.trans (congrArg some (by kernel_rfl))
  f216 := Tryz.func70.trans (congrArg some (by kernel_rfl))
  f257 := Tryz.func50.trans (congrArg some (by kernel_rfl))
  f294 := Tryz.func64.trans (congrArg some (by kernel_rfl))
  f295 := Tryz.func65.trans (congrArg some (by kernel_rfl))
  f296 := Tryz.func66.trans (congrArg some (by kernel_rfl))
  f297 := Tryz.func67.trans (congrArg some (by kernel_rfl))
  f298 := Tryz.func68.trans (congrArg some (by kernel_rfl))
  f299 := Tryz.func69.trans (congrArg some (by kernel_rfl))
  f300 := Tryz.func71.trans (congrArg some (by kernel_rfl))
  f301 := Tryz.func72.trans (congrArg some (by kernel_rfl))
  f328 := Tryz.func86.trans (congrArg some (by kernel_rfl))
  f329 := Tryz.func87.trans (congrArg some (by kernel_rfl))
  f330 := Tryz.func88.trans (congrArg some (by kernel_rfl))
  f331 := Tryz.func89.trans (congrArg some (by kernel_rfl))
  f332 := Tryz.func90.trans (congrArg some (by kernel_rfl))
  f343 := Tryz.func105.trans (congrArg some (by kernel_rfl))
  t0 := Tryz.underlying0
  a0 := Tryz.isAgg0
  z0 := Tryz.sizeOf0
  v0 := Tryz.zeroValue0
  t3 := Tryz.underlying3
  a3 := Tryz.isAgg3
  z3 := Tryz.sizeOf3
  v3 := Tryz.zeroValue3
  t4 := Tryz.underlying4
  a4 := Tryz.isAgg4
  z4 := Tryz.sizeOf4
  v4 := Tryz.zeroValue4
  t5 := Tryz.underlying5
  a5 := Tryz.isAgg5
  z5 := Tryz.sizeOf5
  v5 := Tryz.zeroValue5
  t9 := Tryz.underlying9
  a9 := Tryz.isAgg9
  z9 := Tryz.sizeOf9
  v9 := Tryz.zeroValue9
  t28 := Tryz.underlying27
  a28 := Tryz.isAgg27
  z28 := Tryz.sizeOf27
  v28 := Tryz.zeroValue27
  t46 := Tryz.underlying64
  a46 := Tryz.isAgg64
  z46 := Tryz.sizeOf64
  v46 := Tryz.zeroValue64
  t51 := Tryz.underlying129
  a51 := Tryz.isAgg129
  z51 := Tryz.sizeOf129
  v51 := Tryz.zeroValue129
  t53 := Tryz.underlying131
  a53 := Tryz.isAgg131
  z53 := Tryz.sizeOf131
  v53 := Tryz.zeroValue131
  t131 := Tryz.underlying126
  a131 := Tryz.isAgg126
  z131 := Tryz.sizeOf126
  v131 := Tryz.zeroValue126
  t182 := Tryz.underlying120
  a182 := Tryz.isAgg120
  z182 := Tryz.sizeOf120
  v182 := Tryz.zeroValue120
  t183 := Tryz.underlying121
  a183 := Tryz.isAgg121
  z183 := Tryz.sizeOf121
  v183 := Tryz.zeroValue121
  t218 := Tryz.underlying142
  a218 := Tryz.isAgg142
  z218 := Tryz.sizeOf142
  v218 := Tryz.zeroValue142
  t222 := Tryz.underlying146
  a222 := Tryz.isAgg146
  z222 := Tryz.sizeOf146
  v222 := Tryz.zeroValue146
  t228 := Tryz.underlying164
  a228 := Tryz.isAgg164
  z228 := Tryz.sizeOf164
  v228 := Tryz.zeroValue164
  t229 := Tryz.underlying102
  a229 := Tryz.isAgg102
  z229 := Tryz.sizeOf102
  v229 := Tryz.zeroValue102 }
def Tryz.cptI_ren : Go.Shelf.Ren := ⟨fun | 20 => 31 | n => n, fun | 22 => 27 | 3 => 3 | 4 => 4 | 0 => 0 | n => n, fun | n => n⟩
theorem Tryz.cptI : Go.Proofs.Lays2.n20 Tryz.prog Tryz.cptI_ren := {
  mixed := by kernel_rfl
  f20 := Tryz.func31.trans (congrArg some (by kernel_rfl))
  t0 := Tryz.underlying0
  a0 := Tryz.isAgg0
  z0 := Tryz.sizeOf0
  v0 := Tryz.zeroValue0
  t3 := Tryz.underlying3
  a3 := Tryz.isAgg3
  z3 := Tryz.sizeOf3
  v3 := Tryz.zeroValue3
  t4 := Tryz.underlying4
  a4 := Tryz.isAgg4
  z4 := Tryz.sizeOf4
  v4 := Tryz.zeroValue4
  t22 := Tryz.underlying27
  a22 := Tryz.isAgg27
  z22 := Tryz.sizeOf27
  v22 := Tryz.zeroValue27
  i3 := by kernel_rfl }
end Go.Proofs
