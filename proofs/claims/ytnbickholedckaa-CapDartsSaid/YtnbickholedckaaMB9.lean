/- The reference's net of a cap, in memory: open. -/
import Derived.Test.YtnbickholedckaaMB4
import Derived.Test.YtnbickholedckaaMB1
namespace Go.Proofs.Ytnbickholedckaa
open Go.RowKit
attribute [local irreducible] OpF Ld CellAt Sl Sv pcA usP
def lnF (ps : List Pc) (x : Nat) : Int := (pcA ps (pcG (sdF ps) ps.length x)).sd.getD (x - fsN (sdF ps) (pcG (sdF ps) ps.length x)) 0
def anG (ps : List Pc) (x : Nat) : Int := (pcA ps (pcG (sdF ps) ps.length x)).an.getD (x - fsN (sdF ps) (pcG (sdF ps) ps.length x)) 0
/-- The net in memory. -/
structure Nt where
  o1 : Option Addr
  c1 : Nat
  o2 : Option Addr
  c2 : Nat
  o3 : Option Addr
  c3 : Nat
  o4 : Option Addr
  c4 : Nat
  o5 : Option Addr
  c5 : Nat
def Nt.cells (t : Nt) (N : Nat) : List Value := [.slice t.o1 N t.c1, .slice t.o2 N t.c2, .slice t.o3 N t.c3, .slice t.o4 N t.c4, .slice t.o5 N t.c5]
def lnL (ps : List Pc) : List Int := tab (fsN (sdF ps) ps.length) (lnF ps)
def anL (ps : List Pc) : List Int := tab (fsN (sdF ps) ps.length) (anG ps)
def nxL (ps : List Pc) : List Int := tab (fsN (sdF ps) ps.length) fun x => (nxN (sdF ps) ps.length x : Nat)
structure NtR (t : Nt) (ps : List Pc) (mu : Nat → Nat) (k1 k2 k3 k4 k5 : HS) : Prop where
  r1 : RowOk t.o1 t.c1 1 (ivs (lnL ps)) k1
  r2 : RowOk t.o2 t.c2 1 (ivs (anL ps)) k2
  r3 : RowOk t.o3 t.c3 1 (ivs (pcL (sdF ps) ps.length)) k3
  r4 : RowOk t.o4 t.c4 1 (ivs (nxL ps)) k4
  r5 : RowOk t.o5 t.c5 1 (ivs (mtL (sdF ps) ps.length mu)) k5
structure NtAt (B : Nat) (w0 : Wd) (hs : HS) (t : Nt) (ps : List Pc) (mu : Nat → Nat) : Prop where
  lnl : Sl B w0 hs t.o1 (lnL ps)
  anl : Sl B w0 hs t.o2 (anL ps)
  pcl : Sl B w0 hs t.o3 (pcL (sdF ps) ps.length)
  nxl : Sl B w0 hs t.o4 (nxL ps)
  mtl : Sl B w0 hs t.o5 (mtL (sdF ps) ps.length mu)
theorem NtAt.sub {B : Nat} {w0 : Wd} {hs hs' : HS} {t : Nt} {ps : List Pc} {mu : Nat → Nat} (h : NtAt B w0 hs t ps mu) (hsub : hs.Sublist hs') : NtAt B w0 hs' t ps mu :=
  ⟨h.lnl.sub hsub, h.anl.sub hsub, h.pcl.sub hsub, h.nxl.sub hsub, h.mtl.sub hsub⟩
theorem NtR.at {B : Nat} {w0 : Wd} {hs : HS} {t : Nt} {ps : List Pc} {mu : Nat → Nat} {k1 k2 k3 k4 k5 : HS} (r : NtR t ps mu k1 k2 k3 k4 k5) : NtAt B w0 ((k5 ++ (k4 ++ (k3 ++ (k2 ++ k1)))) ++ hs) t ps mu := by
  have s : (k5 ++ (k4 ++ (k3 ++ (k2 ++ k1)))).Sublist ((k5 ++ (k4 ++ (k3 ++ (k2 ++ k1)))) ++ hs) := List.sublist_append_left _ _
  exact ⟨(Sl.row r.r1).sub (List.Sublist.trans (sbA (sbA (sbA (List.sublist_append_right _ _)))) s), (Sl.row r.r2).sub (List.Sublist.trans (sbA (sbA (sbA (List.sublist_append_left _ _)))) s),
    (Sl.row r.r3).sub (List.Sublist.trans (sbA (sbA (List.sublist_append_left _ _))) s), (Sl.row r.r4).sub (List.Sublist.trans (sbA (List.sublist_append_left _ _)) s), (Sl.row r.r5).sub (List.Sublist.trans (List.sublist_append_left _ _) s)⟩
structure NtI where
  i : Nat
  j : Nat
  o1 : Option Addr
  c1 : Nat
  k1 : HS
  o2 : Option Addr
  c2 : Nat
  k2 : HS
  o3 : Option Addr
  c3 : Nat
  k3 : HS
  o4 : Option Addr
  c4 : Nat
  k4 : HS
  o5 : Option Addr
  c5 : Nat
  k5 : HS
  o6 : Option Addr
  c6 : Nat
  k6 : HS
set_option maxRecDepth 100000 in
set_option maxHeartbeats 8000000 in
theorem r_open (ps : List Pc) (oP oS : Option Addr) (cP m cS : Nat) (sm : List Int) (e : Int) (hn : ps.length ≤ 8) (hn1 : 1 ≤ ps.length) (hsm : sm.length = m * 4) (hm : m ≤ 100) (hok : allOK ps.length (sdF ps) (anF ps)) (hse : ∀ t, t < m → seE ps.length (sdF ps) sm e t = 0) (B : Nat) (w0 : Wd) (hs : HS) (hC : CapM B w0 hs oP oS ps sm) :
    Fn Try.prog 63 #[.agg #[.slice oP ps.length cP, .slice oS m cS, iv e]] B w0 hs (fun v h => ∃ blk, (∃ t k1 k2 k3 k4 k5, v = .agg (Nt.cells t (fsN (sdF ps) ps.length)).toArray ∧ NtR t ps (muS (smL (sdF ps) sm m)) k1 k2 k3 k4 k5 ∧ blk = (k5 ++ (k4 ++ (k3 ++ (k2 ++ k1))))) ∧ h = blk ++ hs) := by
  have hN := fs_le6 hok (Nat.le_refl _)
  have hsk : ∀ i, i < ps.length → ((pcA ps i).sd.length ≤ 6 ∧ 3 ≤ (pcA ps i).sd.length) ∧ (pcA ps i).an.length = (pcA ps i).sd.length := fun i hi => by
    have h1 := (hok i hi).1
    have h2 := (hok i hi).2.1
    unfold sdF at h1 h2
    unfold anF at h2
    exact ⟨⟨h1.2, h1.1⟩, h2⟩
  refine fn_enter Try.func63 rfl Try.ntmps63 (by simp) ?_
  repeat' (first | ((with_reducible apply kP (.box 25 _)); refine sBA (fun b1 => ?_)) | ((with_reducible apply kP (.alloc 86)); refine sA (fun b3 => ?_)) | ((with_reducible apply kRg 12); refine cD [1, 1, 1, 1, 1, 1, 1, 2, 3, 0, 0, 0, 0, 0, 0, 0, 2, 3, 0, 4, 1, 4] ?_) | ((with_reducible apply kRg 13); refine cD [1, 1, 1, 2, 3, 0, 0, 2, 3, 0, 4, 1, 4] ?_) | ((with_reducible apply kRg 14); refine cD [1, 1, 1, 1, 1, 1, 1, 1, 1, 1, 2, 4, 1, 4] ?_) | ((with_reducible apply kRg 20); refine cD [1, 1, 1, 0, 0, 0, 1, 0, 1, 3, 1, 4] ?_) | (with_reducible first | refine c_seq ?_ | refine c_reg ?_ | refine c_region ?_ | refine c_block ?_ | refine c_skip ?_ | refine c_exit ?_ | refine c_ret ?_ | refine s_nil ?_ | refine x_then ?_ | refine x_then_exit ?_ | refine x_then_ret ?_ | refine x_block ?_ | refine x_block_ret ?_ | refine x_block_same ?_ | refine x_block_other (by first | rfl | decide) ?_ | refine q_nil ?_ | refine k_nil ?_) | ((with_reducible apply kN); first | refine stP ?_ | refine stI ?_ | refine st1 ?_ | refine stW ?_) | ((with_reducible apply kP (.alloc _)); refine sA (fun b => ?_)) | ((with_reducible apply kP (.box _ _)); first | refine sBA (fun b => ?_) | refine sB (fun b => ?_)) | ((with_reducible apply kP (.buildSlice _ 1 _)); first | refine sl1A (fun b => ?_) | refine sl1 (fun b => ?_)) | ((with_reducible apply kP (.call ⟨.builtin .append, _, _⟩)); refine sAp (fun oa2 c2 blk2 hrow2 => ?_)) | ((with_reducible apply kP _); refine sP ?_) | ((with_reducible apply kP _); refine sX ?_) | ((with_reducible apply kQP); refine qP ?_) | ((with_reducible apply kQP); refine qX ?_) | ((with_reducible apply kC); first | refine cT ?_ | refine cF ?_ | (refine cI (fun h => ?_) (fun h => ?_) <;> (try (exfalso; omega))) | refine cB (fun h => ?_) (fun h => ?_)) | ((with_reducible apply kR); refine cQ ?_) | ((with_reducible apply kDN); first | refine dtI ?_ | refine dt1 ?_ | refine dtW ?_) | ((with_reducible apply kDP (.buildSlice _ 1 _)); first | refine dl1A (fun b => ?_) | refine dl1 (fun b => ?_)) | ((with_reducible apply kDP (.call ⟨.builtin .append, _, _⟩)); first | refine dAp3 (fun oa2 c2 blk2 hrow2 => ?_) (hS := SCt) | refine dAp4 (fun oa2 c2 blk2 hrow2 => ?_)) | ((with_reducible apply kDP _); refine dP ?_) | ((with_reducible apply kDP _); refine dX ?_))
  rename_i b2
  refine c_loop (fun t : NtI => [(1, .pointer (some ⟨b1, 0, none⟩)), (2, .pointer (some ⟨b2, 0, none⟩)), (3, .pointer (some ⟨b3, 0, none⟩)), (4, .slice t.o6 t.i t.c6), (5, iv t.i)])
    (fun t : NtI => t.k4 ++ (t.k5 ++ (t.k3 ++ (t.k2 ++ (t.k1 ++ (t.k6 ++ ((b3, [.slice t.o1 (fsN (sdF ps) t.i) t.c1, .slice t.o2 (fsN (sdF ps) t.i) t.c2, .slice t.o3 (fsN (sdF ps) t.i) t.c3, .slice t.o4 (fsN (sdF ps) t.i) t.c4, .slice t.o5 (fsN (sdF ps) t.i) t.c5]) :: (b2, [.slice none 0 0, .slice none 0 0, .slice none 0 0, .slice none 0 0, .slice none 0 0]) :: (b1, [.slice oP ps.length cP, .slice oS m cS, iv e]) :: hs)))))))
    (fun t => t.i ≤ ps.length ∧ RowOk t.o1 t.c1 1 (ivs (tab (fsN (sdF ps) t.i) (lnF ps))) t.k1 ∧ RowOk t.o2 t.c2 1 (ivs (tab (fsN (sdF ps) t.i) (anG ps))) t.k2 ∧ RowOk t.o3 t.c3 1 (ivs (tab (fsN (sdF ps) t.i) fun x => (pcG (sdF ps) ps.length x : Int))) t.k3
      ∧ RowOk t.o4 t.c4 1 (ivs (tab (fsN (sdF ps) t.i) fun x => (nxN (sdF ps) ps.length x : Nat))) t.k4 ∧ RowOk t.o5 t.c5 1 (ivs (tab (fsN (sdF ps) t.i) fun _ => -1)) t.k5 ∧ RowOk t.o6 t.c6 1 (ivs (tab t.i fun p => (fsN (sdF ps) p : Int))) t.k6)
    (fun t => ps.length - t.i) ⟨0, 0, none, 0, [], none, 0, [], none, 0, [], none, 0, [], none, 0, [], none, 0, []⟩ ⟨Nat.zero_le _, RowOk.nil, RowOk.nil, RowOk.nil, RowOk.nil, RowOk.nil, RowOk.nil⟩ (by repeat' first | trivial | rfl | apply And.intro) (.refl _) ?_
  rintro ⟨i, j0, o1, c1, k1, o2, c2, k2, o3, c3, k3, o4, c4, k4, o5, c5, k5, o6, c6, k6⟩ ⟨hi, hr1, hr2, hr3, hr4, hr5, hr6⟩
  dsimp only at hi hr1 hr2 hr3 hr4 hr5 hr6 ⊢
  by_cases hi' : i < ps.length
  · have hoP := hC.isS hi'
    obtain ⟨hki, hka⟩ := hsk i hi'
    have hfi := fs_le6 hok (p := i) (by omega)
    have hld := fun hs' (h : hs.Sublist hs') => hC.ld (P := Try.prog) (t := 41) (shTOf rfl) h hi'
    unfold pcv at hld
    repeat' (first | ((with_reducible apply kP (.load 41 _)); refine sP ?_ (o_load rfl (hld _ SBt))) | ((with_reducible apply kDP (.load 41 _)); refine dP ?_ (hX := rfl) (hv := o_load rfl (hld _ SBt))) | ((with_reducible apply kQO (.load 41 _)); refine qP ?_ (o_load rfl (hld _ SBt))) | ((with_reducible apply kP (.alloc 41)); refine sA (fun b6 => ?_)) | ((with_reducible apply kP (.call ⟨.builtin .append, _, _⟩)); refine sAp (fun oa6 c6' blk6 hrow6 => ?_) (hr := hr6)) | ((with_reducible apply kRg 12); refine cD [1, 1, 1, 1, 1, 1, 1, 2, 3, 0, 0, 0, 0, 0, 0, 0, 2, 3, 0, 4, 1, 4] ?_) | ((with_reducible apply kRg 13); refine cD [1, 1, 1, 2, 3, 0, 0, 2, 3, 0, 4, 1, 4] ?_) | ((with_reducible apply kRg 14); refine cD [1, 1, 1, 1, 1, 1, 1, 1, 1, 1, 2, 4, 1, 4] ?_) | ((with_reducible apply kRg 20); refine cD [1, 1, 1, 0, 0, 0, 1, 0, 1, 3, 1, 4] ?_) | (with_reducible first | refine c_seq ?_ | refine c_reg ?_ | refine c_region ?_ | refine c_block ?_ | refine c_skip ?_ | refine c_exit ?_ | refine c_ret ?_ | refine s_nil ?_ | refine x_then ?_ | refine x_then_exit ?_ | refine x_then_ret ?_ | refine x_block ?_ | refine x_block_ret ?_ | refine x_block_same ?_ | refine x_block_other (by first | rfl | decide) ?_ | refine q_nil ?_ | refine k_nil ?_) | ((with_reducible apply kN); first | refine stP ?_ | refine stI ?_ | refine st1 ?_ | refine stW ?_) | ((with_reducible apply kP (.alloc _)); refine sA (fun b => ?_)) | ((with_reducible apply kP (.box _ _)); first | refine sBA (fun b => ?_) | refine sB (fun b => ?_)) | ((with_reducible apply kP (.buildSlice _ 1 _)); first | refine sl1A (fun b => ?_) | refine sl1 (fun b => ?_)) | ((with_reducible apply kP (.call ⟨.builtin .append, _, _⟩)); refine sAp (fun oa2 c2 blk2 hrow2 => ?_)) | ((with_reducible apply kP _); refine sP ?_) | ((with_reducible apply kP _); refine sX ?_) | ((with_reducible apply kQP); refine qP ?_) | ((with_reducible apply kQP); refine qX ?_) | ((with_reducible apply kC); first | refine cT ?_ | refine cF ?_ | (refine cI (fun h => ?_) (fun h => ?_) <;> (try (exfalso; omega))) | refine cB (fun h => ?_) (fun h => ?_)) | ((with_reducible apply kR); refine cQ ?_) | ((with_reducible apply kDN); first | refine dtI ?_ | refine dt1 ?_ | refine dtW ?_) | ((with_reducible apply kDP (.buildSlice _ 1 _)); first | refine dl1A (fun b => ?_) | refine dl1 (fun b => ?_)) | ((with_reducible apply kDP (.call ⟨.builtin .append, _, _⟩)); first | refine dAp3 (fun oa2 c2 blk2 hrow2 => ?_) (hS := SCt) | refine dAp4 (fun oa2 c2 blk2 hrow2 => ?_)) | ((with_reducible apply kDP _); refine dP ?_) | ((with_reducible apply kDP _); refine dX ?_))
    have hr6' : RowOk oa6 c6' 1 (ivs (tab (i + 1) fun p => (fsN (sdF ps) p : Int))) blk6 := by rw [tab_snoc]; exact hrow6
    refine sat_take (blk := k1) (by repeat (first | exact Take.head | apply Take.tail | apply Take.app)) ?_
    refine sat_take (blk := k2) (by repeat (first | exact Take.head | apply Take.tail | apply Take.app)) ?_
    refine sat_take (blk := k3) (by repeat (first | exact Take.head | apply Take.tail | apply Take.app)) ?_
    refine sat_take (blk := k5) (by repeat (first | exact Take.head | apply Take.tail | apply Take.app)) ?_
    refine sat_take (blk := k4) (by repeat (first | exact Take.head | apply Take.tail | apply Take.app)) ?_
    clear hr6 hrow6
    refine c_loop (fun t : NtI => [(1, .pointer (some ⟨b1, 0, none⟩)), (2, .pointer (some ⟨b2, 0, none⟩)), (3, .pointer (some ⟨b3, 0, none⟩)), (4, .slice oa6 (i + 1) c6'), (5, iv i), (6, .pointer (some ⟨b6, 0, none⟩)), (7, iv (fsN (sdF ps) i : Nat)), (8, iv t.j)])
      (fun t : NtI => t.k4 ++ (t.k5 ++ (t.k3 ++ (t.k2 ++ (t.k1 ++ (blk6 ++ ((b6, [.slice (pcA ps i).oa (pcA ps i).sd.length (pcA ps i).ca, .slice (pcA ps i).ob (pcA ps i).an.length (pcA ps i).cb]) :: (b3, [.slice t.o1 (fsN (sdF ps) i + t.j) t.c1, .slice t.o2 (fsN (sdF ps) i + t.j) t.c2, .slice t.o3 (fsN (sdF ps) i + t.j) t.c3, .slice t.o4 (fsN (sdF ps) i + t.j) t.c4, .slice t.o5 (fsN (sdF ps) i + t.j) t.c5]) :: (b2, [.slice none 0 0, .slice none 0 0, .slice none 0 0, .slice none 0 0, .slice none 0 0]) :: (b1, [.slice oP ps.length cP, .slice oS m cS, iv e]) :: hs)))))))
      (fun t => t.j ≤ (pcA ps i).sd.length ∧ RowOk t.o1 t.c1 1 (ivs (tab (fsN (sdF ps) i + t.j) (lnF ps))) t.k1 ∧ RowOk t.o2 t.c2 1 (ivs (tab (fsN (sdF ps) i + t.j) (anG ps))) t.k2 ∧ RowOk t.o3 t.c3 1 (ivs (tab (fsN (sdF ps) i + t.j) fun x => (pcG (sdF ps) ps.length x : Int))) t.k3
        ∧ RowOk t.o4 t.c4 1 (ivs (tab (fsN (sdF ps) i + t.j) fun x => (nxN (sdF ps) ps.length x : Nat))) t.k4 ∧ RowOk t.o5 t.c5 1 (ivs (tab (fsN (sdF ps) i + t.j) fun _ => -1)) t.k5)
      (fun t => (pcA ps i).sd.length - t.j) ⟨0, 0, o1, c1, k1, o2, c2, k2, o3, c3, k3, o4, c4, k4, o5, c5, k5, none, 0, []⟩ ⟨Nat.zero_le _, hr1, hr2, hr3, hr4, hr5⟩ (by repeat' first | trivial | rfl | apply And.intro) (.append (.refl _) (.append (.refl _) (.append (.refl _) (.append (.refl _) (.append (.refl _) (.append (.refl _) (.cons _ (.refl _)))))))) ?_
    clear hr1 hr2 hr3 hr4 hr5
    rintro ⟨i0, j, o1, c1, k1, o2, c2, k2, o3, c3, k3, o4, c4, k4, o5, c5, k5, _, _, _⟩ ⟨hj, hr1, hr2, hr3, hr4, hr5⟩
    dsimp only at hj hr1 hr2 hr3 hr4 hr5 ⊢
    by_cases hj' : j < (pcA ps i).sd.length
    · have hfs1 : fsN (sdF ps) (i + 1) = fsN (sdF ps) i + (pcA ps i).sd.length := rfl
      have hpi : pcG (sdF ps) ps.length (fsN (sdF ps) i + j) = i := pcG_uniq (by omega) (by omega) hi'
      have hln : lnF ps (fsN (sdF ps) i + j) = (pcA ps i).sd.getD j 0 := by unfold lnF; rw [hpi, Nat.add_sub_cancel_left]
      have han : anG ps (fsN (sdF ps) i + j) = (pcA ps i).an.getD j 0 := by unfold anG; rw [hpi, Nat.add_sub_cancel_left]
      have hnx : ((nxN (sdF ps) ps.length (fsN (sdF ps) i + j) : Nat) : Int) = (fsN (sdF ps) i : Int) + ((j : Int) + 1) % ((pcA ps i).sd.length : Int) := by
        unfold nxN
        rw [hpi, hfs1]
        by_cases hc : j + 1 = (pcA ps i).sd.length
        · rw [if_pos (by omega), show ((j : Int) + 1) = ((pcA ps i).sd.length : Int) by omega, Int.emod_self]; omega
        · rw [if_neg (by omega), Int.emod_eq_of_lt (by omega) (by omega)]; omega
      have hq1 := Int.emod_nonneg ((j : Int) + 1) (b := ((pcA ps i).sd.length : Int)) (by omega)
      have hq2 := Int.emod_lt_of_pos ((j : Int) + 1) (b := ((pcA ps i).sd.length : Int)) (by omega)
      have l1 := fun hs' (h : hs.Sublist hs') => (hC.sds i hi').at h hj'
      have l2 := fun hs' (h : hs.Sublist hs') => (hC.ans i hi').at h (i := j) (by omega)
      have i1 := (hC.sds i hi').any hj'
      have i2 := (hC.ans i hi').any (i := j) (by omega)
      repeat' (first | ((with_reducible apply kRg 12); refine cDS [1, 1, 1, 1, 1, 1, 1, 2, 3, 0, 0, 0, 0, 0, 0, 0, 2, 3, 0, 4, 1, 4] ((b6, [.slice (pcA ps i).oa (pcA ps i).sd.length (pcA ps i).ca, .slice (pcA ps i).ob (pcA ps i).an.length (pcA ps i).cb]) :: (b3, [.slice o1 (fsN (sdF ps) i + j) c1, .slice o2 (fsN (sdF ps) i + j) c2, .slice o3 (fsN (sdF ps) i + j) c3, .slice o4 (fsN (sdF ps) i + j) c4, .slice o5 (fsN (sdF ps) i + j) c5]) :: (b2, [.slice none 0 0, .slice none 0 0, .slice none 0 0, .slice none 0 0, .slice none 0 0]) :: (b1, [.slice oP ps.length cP, .slice oS m cS, iv e]) :: hs) ?_) | ((with_reducible apply kP (.load 3 (.tmp 44))); refine sP ?_ (o_load rfl (ld_one (shTOf rfl) (l1 _ SBt)))) | ((with_reducible apply kDP (.load 3 (.tmp 44))); refine dP ?_ (hX := rfl) (hv := o_load rfl (ld_one (shTOf rfl) (l1 _ SBt)))) | ((with_reducible apply kQO (.load 3 (.tmp 44))); refine qP ?_ (o_load rfl (ld_one (shTOf rfl) (l1 _ SBt)))) | ((with_reducible apply kP (.load 3 (.tmp 53))); refine sP ?_ (o_load rfl (ld_one (shTOf rfl) (l2 _ SBt)))) | ((with_reducible apply kDP (.load 3 (.tmp 53))); refine dP ?_ (hX := rfl) (hv := o_load rfl (ld_one (shTOf rfl) (l2 _ SBt)))) | ((with_reducible apply kQO (.load 3 (.tmp 53))); refine qP ?_ (o_load rfl (ld_one (shTOf rfl) (l2 _ SBt)))) | ((with_reducible apply kDP (.call ⟨.builtin .append, _, _⟩)); refine dAp3 (fun p1 d1 q1 hw1 => ?_) (hr := hr1)) | ((with_reducible apply kDP (.call ⟨.builtin .append, _, _⟩)); refine dAp3 (fun p2 d2 q2 hw2 => ?_) (hr := hr2)) | ((with_reducible apply kRg 13); refine cDS [1, 1, 1, 2, 3, 0, 0, 2, 3, 0, 4, 1, 4] ((b6, [.slice (pcA ps i).oa (pcA ps i).sd.length (pcA ps i).ca, .slice (pcA ps i).ob (pcA ps i).an.length (pcA ps i).cb]) :: (b3, [.slice p1 (fsN (sdF ps) i + j + 1) d1, .slice p2 (fsN (sdF ps) i + j + 1) d2, .slice o3 (fsN (sdF ps) i + j) c3, .slice o4 (fsN (sdF ps) i + j) c4, .slice o5 (fsN (sdF ps) i + j) c5]) :: (b2, [.slice none 0 0, .slice none 0 0, .slice none 0 0, .slice none 0 0, .slice none 0 0]) :: (b1, [.slice oP ps.length cP, .slice oS m cS, iv e]) :: hs) ?_) | ((with_reducible apply kDP (.call ⟨.builtin .append, _, _⟩)); refine dAp3 (fun p3 d3 q3 hw3 => ?_) (hr := hr3)) | ((with_reducible apply kDP (.call ⟨.builtin .append, _, _⟩)); refine dAp3 (fun p5 d5 q5 hw5 => ?_) (hr := hr5)) | ((with_reducible apply kDP (.call ⟨.builtin .append, _, _⟩)); refine dAp4 (fun p4 d4 q4 hw4 => ?_) (hr := hr4)) | ((with_reducible apply kDN); refine dtC ?_) | ((with_reducible apply kRg 14); refine cD [1, 1, 1, 1, 1, 1, 1, 1, 1, 1, 2, 4, 1, 4] ?_) | ((with_reducible apply kRg 20); refine cD [1, 1, 1, 0, 0, 0, 1, 0, 1, 3, 1, 4] ?_) | (with_reducible first | refine c_seq ?_ | refine c_reg ?_ | refine c_region ?_ | refine c_block ?_ | refine c_skip ?_ | refine c_exit ?_ | refine c_ret ?_ | refine s_nil ?_ | refine x_then ?_ | refine x_then_exit ?_ | refine x_then_ret ?_ | refine x_block ?_ | refine x_block_ret ?_ | refine x_block_same ?_ | refine x_block_other (by first | rfl | decide) ?_ | refine q_nil ?_ | refine k_nil ?_) | ((with_reducible apply kN); first | refine stP ?_ | refine stI ?_ | refine st1 ?_ | refine stW ?_) | ((with_reducible apply kP (.alloc _)); refine sA (fun b => ?_)) | ((with_reducible apply kP (.box _ _)); first | refine sBA (fun b => ?_) | refine sB (fun b => ?_)) | ((with_reducible apply kP (.buildSlice _ 1 _)); first | refine sl1A (fun b => ?_) | refine sl1 (fun b => ?_)) | ((with_reducible apply kP (.call ⟨.builtin .append, _, _⟩)); refine sAp (fun oa2 c2 blk2 hrow2 => ?_)) | ((with_reducible apply kP _); refine sP ?_) | ((with_reducible apply kP _); refine sX ?_) | ((with_reducible apply kQP); refine qP ?_) | ((with_reducible apply kQP); refine qX ?_) | ((with_reducible apply kC); first | refine cT ?_ | refine cF ?_ | (refine cI (fun h => ?_) (fun h => ?_) <;> (try (exfalso; omega))) | refine cB (fun h => ?_) (fun h => ?_)) | ((with_reducible apply kR); refine cQ ?_) | ((with_reducible apply kDN); first | refine dtI ?_ | refine dt1 ?_ | refine dtW ?_) | ((with_reducible apply kDP (.buildSlice _ 1 _)); first | refine dl1A (fun b => ?_) | refine dl1 (fun b => ?_)) | ((with_reducible apply kDP (.call ⟨.builtin .append, _, _⟩)); first | refine dAp3 (fun oa2 c2 blk2 hrow2 => ?_) (hS := SCt) | refine dAp4 (fun oa2 c2 blk2 hrow2 => ?_)) | ((with_reducible apply kDP _); refine dP ?_) | ((with_reducible apply kDP _); refine dX ?_))
      rw [← hln] at hw1
      rw [← han] at hw2
      have hw3' : RowOk p3 d3 1 (ivs (tab (fsN (sdF ps) i + j) fun x => (pcG (sdF ps) ps.length x : Int)) ++ [iv (pcG (sdF ps) ps.length (fsN (sdF ps) i + j) : Nat)]) q3 := by rw [hpi]; exact hw3
      have hw4' : RowOk p4 d4 1 (ivs (tab (fsN (sdF ps) i + j) fun x => (nxN (sdF ps) ps.length x : Nat)) ++ [iv (nxN (sdF ps) ps.length (fsN (sdF ps) i + j) : Nat)]) q4 := by rw [hnx]; exact hw4
      rw [← tab_snoc (lnF ps), Nat.add_assoc] at hw1
      rw [← tab_snoc (anG ps), Nat.add_assoc] at hw2
      rw [← tab_snoc (fun x => (pcG (sdF ps) ps.length x : Int)), Nat.add_assoc] at hw3'
      rw [← tab_snoc (fun x => ((nxN (sdF ps) ps.length x : Nat) : Int)), Nat.add_assoc] at hw4'
      have hw5' : RowOk p5 d5 1 (ivs (tab (fsN (sdF ps) i + (j + 1)) fun _ => -1)) q5 := by rw [← Nat.add_assoc, tab_snoc]; exact hw5
      rw [show fsN (sdF ps) i + j + 1 = fsN (sdF ps) i + (j + 1) from rfl]
      exact r_end (⟨i, j + 1, p1, d1, q1, p2, d2, q2, p3, d3, q3, p4, d4, q4, p5, d5, q5, none, 0, []⟩ : NtI) ⟨hj', hw1, hw2, hw3', hw4', hw5'⟩ (by dsimp only; omega) (by repeat' first | trivial | rfl | apply And.intro) SCt
    · obtain rfl : (pcA ps i).sd.length = j := by omega
      repeat' (first | ((with_reducible apply kRg 12); refine cD [1, 1, 1, 1, 1, 1, 1, 2, 3, 0, 0, 0, 0, 0, 0, 0, 2, 3, 0, 4, 1, 4] ?_) | ((with_reducible apply kRg 13); refine cD [1, 1, 1, 2, 3, 0, 0, 2, 3, 0, 4, 1, 4] ?_) | ((with_reducible apply kRg 14); refine cD [1, 1, 1, 1, 1, 1, 1, 1, 1, 1, 2, 4, 1, 4] ?_) | ((with_reducible apply kRg 20); refine cD [1, 1, 1, 0, 0, 0, 1, 0, 1, 3, 1, 4] ?_) | (with_reducible first | refine c_seq ?_ | refine c_reg ?_ | refine c_region ?_ | refine c_block ?_ | refine c_skip ?_ | refine c_exit ?_ | refine c_ret ?_ | refine s_nil ?_ | refine x_then ?_ | refine x_then_exit ?_ | refine x_then_ret ?_ | refine x_block ?_ | refine x_block_ret ?_ | refine x_block_same ?_ | refine x_block_other (by first | rfl | decide) ?_ | refine q_nil ?_ | refine k_nil ?_) | ((with_reducible apply kN); first | refine stP ?_ | refine stI ?_ | refine st1 ?_ | refine stW ?_) | ((with_reducible apply kP (.alloc _)); refine sA (fun b => ?_)) | ((with_reducible apply kP (.box _ _)); first | refine sBA (fun b => ?_) | refine sB (fun b => ?_)) | ((with_reducible apply kP (.buildSlice _ 1 _)); first | refine sl1A (fun b => ?_) | refine sl1 (fun b => ?_)) | ((with_reducible apply kP (.call ⟨.builtin .append, _, _⟩)); refine sAp (fun oa2 c2 blk2 hrow2 => ?_)) | ((with_reducible apply kP _); refine sP ?_) | ((with_reducible apply kP _); refine sX ?_) | ((with_reducible apply kQP); refine qP ?_) | ((with_reducible apply kQP); refine qX ?_) | ((with_reducible apply kC); first | refine cT ?_ | refine cF ?_ | (refine cI (fun h => ?_) (fun h => ?_) <;> (try (exfalso; omega))) | refine cB (fun h => ?_) (fun h => ?_)) | ((with_reducible apply kR); refine cQ ?_) | ((with_reducible apply kDN); first | refine dtI ?_ | refine dt1 ?_ | refine dtW ?_) | ((with_reducible apply kDP (.buildSlice _ 1 _)); first | refine dl1A (fun b => ?_) | refine dl1 (fun b => ?_)) | ((with_reducible apply kDP (.call ⟨.builtin .append, _, _⟩)); first | refine dAp3 (fun oa2 c2 blk2 hrow2 => ?_) (hS := SCt) | refine dAp4 (fun oa2 c2 blk2 hrow2 => ?_)) | ((with_reducible apply kDP _); refine dP ?_) | ((with_reducible apply kDP _); refine dX ?_))
      rw [show fsN (sdF ps) i + (pcA ps i).sd.length = fsN (sdF ps) (i + 1) from rfl] at hr1 hr2 hr3 hr4 hr5 ⊢
      exact r_end (⟨i + 1, 0, o1, c1, k1, o2, c2, k2, o3, c3, k3, o4, c4, k4, o5, c5, k5, oa6, c6', blk6⟩ : NtI) ⟨hi', hr1, hr2, hr3, hr4, hr5, hr6'⟩ (by dsimp only; omega) (by repeat' first | trivial | rfl | apply And.intro) SCt
  · obtain rfl : ps.length = i := by omega
    have hN1 : 1 ≤ fsN (sdF ps) ps.length := by
      have h1 := fsN_mono (sd := sdF ps) (p := 1) (q := ps.length) (by omega)
      have h2 : fsN (sdF ps) 1 = 0 + (sdF ps 0).length := rfl
      have h3 := hsk 0 (by omega)
      unfold sdF at h2 h1 ⊢
      omega
    rcases hr5 with ⟨_, _, h3, _⟩ | ⟨b5, z5, rfl, rfl, hz5, hc5⟩
    · exfalso
      have := congrArg List.length h3
      rw [ivs_length, tab_length] at this
      simp at this; omega
    have h0 : ivs (tab (fsN (sdF ps) ps.length) fun _ => -1) = ivs (mtL (sdF ps) ps.length (muS (smL (sdF ps) sm 0))) := tab_cong fun x _ => by simp [mtF, smL, muS]
    rw [h0] at hz5 ⊢
    refine sat_take (blk := [(b5, ivs (mtL (sdF ps) ps.length (muS (smL (sdF ps) sm 0))) ++ z5)]) (by repeat (first | exact Take.head | apply Take.tail | apply Take.app)) ?_
    rw [List.singleton_append]
    repeat' (first | ((with_reducible apply kRg 12); refine cD [1, 1, 1, 1, 1, 1, 1, 2, 3, 0, 0, 0, 0, 0, 0, 0, 2, 3, 0, 4, 1, 4] ?_) | ((with_reducible apply kRg 13); refine cD [1, 1, 1, 2, 3, 0, 0, 2, 3, 0, 4, 1, 4] ?_) | ((with_reducible apply kRg 14); refine cD [1, 1, 1, 1, 1, 1, 1, 1, 1, 1, 2, 4, 1, 4] ?_) | ((with_reducible apply kRg 20); refine cD [1, 1, 1, 0, 0, 0, 1, 0, 1, 3, 1, 4] ?_) | (with_reducible first | refine c_seq ?_ | refine c_reg ?_ | refine c_region ?_ | refine c_block ?_ | refine c_skip ?_ | refine c_exit ?_ | refine c_ret ?_ | refine s_nil ?_ | refine x_then ?_ | refine x_then_exit ?_ | refine x_then_ret ?_ | refine x_block ?_ | refine x_block_ret ?_ | refine x_block_same ?_ | refine x_block_other (by first | rfl | decide) ?_ | refine q_nil ?_ | refine k_nil ?_) | ((with_reducible apply kN); first | refine stP ?_ | refine stI ?_ | refine st1 ?_ | refine stW ?_) | ((with_reducible apply kP (.alloc _)); refine sA (fun b => ?_)) | ((with_reducible apply kP (.box _ _)); first | refine sBA (fun b => ?_) | refine sB (fun b => ?_)) | ((with_reducible apply kP (.buildSlice _ 1 _)); first | refine sl1A (fun b => ?_) | refine sl1 (fun b => ?_)) | ((with_reducible apply kP (.call ⟨.builtin .append, _, _⟩)); refine sAp (fun oa2 c2 blk2 hrow2 => ?_)) | ((with_reducible apply kP _); refine sP ?_) | ((with_reducible apply kP _); refine sX ?_) | ((with_reducible apply kQP); refine qP ?_) | ((with_reducible apply kQP); refine qX ?_) | ((with_reducible apply kC); first | refine cT ?_ | refine cF ?_ | (refine cI (fun h => ?_) (fun h => ?_) <;> (try (exfalso; omega))) | refine cB (fun h => ?_) (fun h => ?_)) | ((with_reducible apply kR); refine cQ ?_) | ((with_reducible apply kDN); first | refine dtI ?_ | refine dt1 ?_ | refine dtW ?_) | ((with_reducible apply kDP (.buildSlice _ 1 _)); first | refine dl1A (fun b => ?_) | refine dl1 (fun b => ?_)) | ((with_reducible apply kDP (.call ⟨.builtin .append, _, _⟩)); first | refine dAp3 (fun oa2 c2 blk2 hrow2 => ?_) (hS := SCt) | refine dAp4 (fun oa2 c2 blk2 hrow2 => ?_)) | ((with_reducible apply kDP _); refine dP ?_) | ((with_reducible apply kDP _); refine dX ?_))
    refine c_loop (fun i : Nat => [(1, .pointer (some ⟨b1, 0, none⟩)), (2, .pointer (some ⟨b2, 0, none⟩)), (3, .pointer (some ⟨b3, 0, none⟩)), (4, .slice o6 ps.length c6), (9, iv i)])
      (fun i => (b5, ivs (mtL (sdF ps) ps.length (muS (smL (sdF ps) sm i))) ++ z5) :: (k4 ++ (k3 ++ (k2 ++ (k1 ++ (k6 ++ ((b3, [.slice o1 (fsN (sdF ps) ps.length) c1, .slice o2 (fsN (sdF ps) ps.length) c2, .slice o3 (fsN (sdF ps) ps.length) c3, .slice o4 (fsN (sdF ps) ps.length) c4, .slice (some ⟨b5, 0, none⟩) (fsN (sdF ps) ps.length) c5]) :: (b2, [.slice none 0 0, .slice none 0 0, .slice none 0 0, .slice none 0 0, .slice none 0 0]) :: (b1, [.slice oP ps.length cP, .slice oS m cS, iv e]) :: hs)))))))
      (fun i : Nat => i ≤ m) (fun i => m - i) 0 (Nat.zero_le _) (by repeat' first | trivial | rfl | apply And.intro) (.refl _) ?_
    rintro i hi
    have hfl := Sl.row (B := B) (w0 := w0) hr6
    by_cases hi' : i < m
    · obtain ⟨⟨hA, hB⟩, hne, _⟩ := seE_z (hse i hi')
      have hoS : oS.isSome = true := hC.sms.any (i := i * 4) (by omega)
      have hld := fun hs' (h : hs.Sublist hs') => ld_seam (P := Try.prog) (t := 56) (shTOf rfl) hC.sms h (i := i) (by omega)
      have hab : adS (sdF ps) (smA sm i) (smI sm i) ≠ adS (sdF ps) (smB sm i) (smJ sm i) := fun e => hne (.inl (adS_inj hA hB e))
      have lA := (adS_lt hA).1
      have lB := (adS_lt hB).1
      obtain ⟨⟨A0, A1⟩, A2, A3⟩ := hA
      obtain ⟨⟨B0, B1⟩, B2, B3⟩ := hB
      have fA : ∀ hs', k6.Sublist hs' → CellAt B w0 hs' (ea o6 (smA sm i).toNat) (iv (fsN (sdF ps) (smA sm i).toNat : Int)) := fun hs' h => by
        have := hfl.at h (i := (smA sm i).toNat) (by rw [tab_length]; omega)
        rwa [tab_getD _ (by omega)] at this
      have fB : ∀ hs', k6.Sublist hs' → CellAt B w0 hs' (ea o6 (smB sm i).toNat) (iv (fsN (sdF ps) (smB sm i).toNat : Int)) := fun hs' h => by
        have := hfl.at h (i := (smB sm i).toNat) (by rw [tab_length]; omega)
        rwa [tab_getD _ (by omega)] at this
      have ho2 : o6.isSome = true := hfl.any (i := (smA sm i).toNat) (by rw [tab_length]; omega)
      have uA : (fsN (sdF ps) (smA sm i).toNat : Int) + smI sm i = (adS (sdF ps) (smA sm i) (smI sm i) : Int) := by unfold adS; omega
      have uB : (fsN (sdF ps) (smB sm i).toNat : Int) + smJ sm i = (adS (sdF ps) (smB sm i) (smJ sm i) : Int) := by unfold adS; omega
      have hM : ((mtL (sdF ps) ps.length (muS (smL (sdF ps) sm i))).set (adS (sdF ps) (smA sm i) (smI sm i)) ((fsN (sdF ps) (smB sm i).toNat : Int) + smJ sm i)).set (adS (sdF ps) (smB sm i) (smJ sm i)) ((fsN (sdF ps) (smA sm i).toNat : Int) + smI sm i) = mtL (sdF ps) ps.length (muS (smL (sdF ps) sm (i + 1))) := by
        rw [uA, uB]
        unfold mtL
        rw [tab_set, tab_set, smL_succ]
        refine tab_ext fun x _ => ?_
        rw [mtF_step hab]
      have hl1 : ∀ u : Int, adS (sdF ps) (smB sm i) (smJ sm i) < ((mtL (sdF ps) ps.length (muS (smL (sdF ps) sm i))).set (adS (sdF ps) (smA sm i) (smI sm i)) u).length := fun u => by unfold mtL; rw [List.length_set, tab_length]; exact lB
      have hl0 : adS (sdF ps) (smA sm i) (smI sm i) < (mtL (sdF ps) ps.length (muS (smL (sdF ps) sm i))).length := by unfold mtL; rw [tab_length]; exact lA
      repeat' (first | ((with_reducible apply kP (.load 56 _)); refine sP ?_ (o_load rfl (hld _ SBt))) | ((with_reducible apply kDP (.load 56 _)); refine dP ?_ (hX := rfl) (hv := o_load rfl (hld _ SBt))) | ((with_reducible apply kQO (.load 56 _)); refine qP ?_ (o_load rfl (hld _ SBt))) | ((with_reducible apply kP (.alloc 56)); refine sA (fun b7 => ?_)) | ((with_reducible apply kN); refine stW ?_ (hf := flat_cons rfl (flat3 rfl rfl rfl))) | ((with_reducible apply kP (.load 3 (.tmp 98))); refine sP ?_ (o_load rfl (ld_one (shTOf rfl) (fA _ SBt)))) | ((with_reducible apply kDP (.load 3 (.tmp 98))); refine dP ?_ (hX := rfl) (hv := o_load rfl (ld_one (shTOf rfl) (fA _ SBt)))) | ((with_reducible apply kQO (.load 3 (.tmp 98))); refine qP ?_ (o_load rfl (ld_one (shTOf rfl) (fA _ SBt)))) | ((with_reducible apply kP (.load 3 (.tmp 106))); refine sP ?_ (o_load rfl (ld_one (shTOf rfl) (fB _ SBt)))) | ((with_reducible apply kDP (.load 3 (.tmp 106))); refine dP ?_ (hX := rfl) (hv := o_load rfl (ld_one (shTOf rfl) (fB _ SBt)))) | ((with_reducible apply kQO (.load 3 (.tmp 106))); refine qP ?_ (o_load rfl (ld_one (shTOf rfl) (fB _ SBt)))) | ((with_reducible apply kRg 20); refine cDS [1, 1, 1, 0, 0, 0, 1, 0, 1, 3, 1, 4] [(b3, [.slice o1 (fsN (sdF ps) ps.length) c1, .slice o2 (fsN (sdF ps) ps.length) c2, .slice o3 (fsN (sdF ps) ps.length) c3, .slice o4 (fsN (sdF ps) ps.length) c4, .slice (some ⟨b5, 0, none⟩) (fsN (sdF ps) ps.length) c5])] ?_ (hS := .cons _ (.cons _ (sbA (sbA (sbA (sbA (sbA (.cons_cons _ (List.nil_sublist _)))))))))) | ((with_reducible apply kP (.indexAddr 39 (.tmp 112) _)); refine sP ?_ (o_indexB (scTOf rfl) rfl rfl uA (aa0 _) lA)) | ((with_reducible apply kDP (.indexAddr 39 (.tmp 112) _)); refine dP ?_ (hX := rfl) (hv := o_indexB (scTOf rfl) rfl rfl uA (aa0 _) lA)) | ((with_reducible apply kQO (.indexAddr 39 (.tmp 112) _)); refine qP ?_ (o_indexB (scTOf rfl) rfl rfl uA (aa0 _) lA)) | ((with_reducible apply kP (.indexAddr 39 (.tmp 115) _)); refine sP ?_ (o_indexB (scTOf rfl) rfl rfl uB (aa0 _) lB)) | ((with_reducible apply kDP (.indexAddr 39 (.tmp 115) _)); refine dP ?_ (hX := rfl) (hv := o_indexB (scTOf rfl) rfl rfl uB (aa0 _) lB)) | ((with_reducible apply kQO (.indexAddr 39 (.tmp 115) _)); refine qP ?_ (o_indexB (scTOf rfl) rfl rfl uB (aa0 _) lB)) | ((with_reducible apply kDN); refine dtZ ?_ rfl (by exact MMt) hl0 (hS := kp3 (.cons _ (.cons _ (sbA (sbA (sbA (sbA (sbA (.cons_cons _ (List.nil_sublist _))))))))))) | ((with_reducible apply kDN); refine dtZ ?_ rfl (by exact MMt) (hl1 _)) | ((with_reducible apply kRg 12); refine cD [1, 1, 1, 1, 1, 1, 1, 2, 3, 0, 0, 0, 0, 0, 0, 0, 2, 3, 0, 4, 1, 4] ?_) | ((with_reducible apply kRg 13); refine cD [1, 1, 1, 2, 3, 0, 0, 2, 3, 0, 4, 1, 4] ?_) | ((with_reducible apply kRg 14); refine cD [1, 1, 1, 1, 1, 1, 1, 1, 1, 1, 2, 4, 1, 4] ?_) | (with_reducible first | refine c_seq ?_ | refine c_reg ?_ | refine c_region ?_ | refine c_block ?_ | refine c_skip ?_ | refine c_exit ?_ | refine c_ret ?_ | refine s_nil ?_ | refine x_then ?_ | refine x_then_exit ?_ | refine x_then_ret ?_ | refine x_block ?_ | refine x_block_ret ?_ | refine x_block_same ?_ | refine x_block_other (by first | rfl | decide) ?_ | refine q_nil ?_ | refine k_nil ?_) | ((with_reducible apply kN); first | refine stP ?_ | refine stI ?_ | refine st1 ?_ | refine stW ?_) | ((with_reducible apply kP (.alloc _)); refine sA (fun b => ?_)) | ((with_reducible apply kP (.box _ _)); first | refine sBA (fun b => ?_) | refine sB (fun b => ?_)) | ((with_reducible apply kP (.buildSlice _ 1 _)); first | refine sl1A (fun b => ?_) | refine sl1 (fun b => ?_)) | ((with_reducible apply kP (.call ⟨.builtin .append, _, _⟩)); refine sAp (fun oa2 c2 blk2 hrow2 => ?_)) | ((with_reducible apply kP _); refine sP ?_) | ((with_reducible apply kP _); refine sX ?_) | ((with_reducible apply kQP); refine qP ?_) | ((with_reducible apply kQP); refine qX ?_) | ((with_reducible apply kC); first | refine cT ?_ | refine cF ?_ | (refine cI (fun h => ?_) (fun h => ?_) <;> (try (exfalso; omega))) | refine cB (fun h => ?_) (fun h => ?_)) | ((with_reducible apply kR); refine cQ ?_) | ((with_reducible apply kDN); first | refine dtI ?_ | refine dt1 ?_ | refine dtW ?_) | ((with_reducible apply kDP (.buildSlice _ 1 _)); first | refine dl1A (fun b => ?_) | refine dl1 (fun b => ?_)) | ((with_reducible apply kDP (.call ⟨.builtin .append, _, _⟩)); first | refine dAp3 (fun oa2 c2 blk2 hrow2 => ?_) (hS := SCt) | refine dAp4 (fun oa2 c2 blk2 hrow2 => ?_)) | ((with_reducible apply kDP _); refine dP ?_) | ((with_reducible apply kDP _); refine dX ?_))
      rw [hM]
      exact r_end (i + 1) hi' (by omega) (by repeat' first | trivial | rfl | apply And.intro) SCt
    · obtain rfl : m = i := by omega
      repeat' (first | ((with_reducible apply kN); refine stW ?_ (hf := flat_cons rfl (flat_cons rfl (flat3 rfl rfl rfl)))) | ((with_reducible apply kRg 12); refine cD [1, 1, 1, 1, 1, 1, 1, 2, 3, 0, 0, 0, 0, 0, 0, 0, 2, 3, 0, 4, 1, 4] ?_) | ((with_reducible apply kRg 13); refine cD [1, 1, 1, 2, 3, 0, 0, 2, 3, 0, 4, 1, 4] ?_) | ((with_reducible apply kRg 14); refine cD [1, 1, 1, 1, 1, 1, 1, 1, 1, 1, 2, 4, 1, 4] ?_) | ((with_reducible apply kRg 20); refine cD [1, 1, 1, 0, 0, 0, 1, 0, 1, 3, 1, 4] ?_) | (with_reducible first | refine c_seq ?_ | refine c_reg ?_ | refine c_region ?_ | refine c_block ?_ | refine c_skip ?_ | refine c_exit ?_ | refine c_ret ?_ | refine s_nil ?_ | refine x_then ?_ | refine x_then_exit ?_ | refine x_then_ret ?_ | refine x_block ?_ | refine x_block_ret ?_ | refine x_block_same ?_ | refine x_block_other (by first | rfl | decide) ?_ | refine q_nil ?_ | refine k_nil ?_) | ((with_reducible apply kN); first | refine stP ?_ | refine stI ?_ | refine st1 ?_ | refine stW ?_) | ((with_reducible apply kP (.alloc _)); refine sA (fun b => ?_)) | ((with_reducible apply kP (.box _ _)); first | refine sBA (fun b => ?_) | refine sB (fun b => ?_)) | ((with_reducible apply kP (.buildSlice _ 1 _)); first | refine sl1A (fun b => ?_) | refine sl1 (fun b => ?_)) | ((with_reducible apply kP (.call ⟨.builtin .append, _, _⟩)); refine sAp (fun oa2 c2 blk2 hrow2 => ?_)) | ((with_reducible apply kP _); refine sP ?_) | ((with_reducible apply kP _); refine sX ?_) | ((with_reducible apply kQP); refine qP ?_) | ((with_reducible apply kQP); refine qX ?_) | ((with_reducible apply kC); first | refine cT ?_ | refine cF ?_ | (refine cI (fun h => ?_) (fun h => ?_) <;> (try (exfalso; omega))) | refine cB (fun h => ?_) (fun h => ?_)) | ((with_reducible apply kR); refine cQ ?_) | ((with_reducible apply kDN); first | refine dtI ?_ | refine dt1 ?_ | refine dtW ?_) | ((with_reducible apply kDP (.buildSlice _ 1 _)); first | refine dl1A (fun b => ?_) | refine dl1 (fun b => ?_)) | ((with_reducible apply kDP (.call ⟨.builtin .append, _, _⟩)); first | refine dAp3 (fun oa2 c2 blk2 hrow2 => ?_) (hS := SCt) | refine dAp4 (fun oa2 c2 blk2 hrow2 => ?_)) | ((with_reducible apply kDP _); refine dP ?_) | ((with_reducible apply kDP _); refine dX ?_))
      refine e_ret1 (hs' := (b5, ivs (mtL (sdF ps) ps.length (muS (smL (sdF ps) sm m))) ++ z5) :: (k4 ++ (k3 ++ (k2 ++ (k1 ++ hs))))) rfl ⟨_, rfl, ld_whole (shTOf rfl) MDt rfl⟩
        ⟨_, ⟨⟨o1, c1, o2, c2, o3, c3, o4, c4, some ⟨b5, 0, none⟩, c5⟩, k1, k2, k3, k4, [(b5, ivs (mtL (sdF ps) ps.length (muS (smL (sdF ps) sm m))) ++ z5)], rfl, ⟨hr1, hr2, hr3, hr4, .inr ⟨b5, z5, rfl, rfl, ?_, hc5⟩⟩, rfl⟩, by simp⟩ SCt
      rw [List.length_append, ivs_length] at hz5 ⊢
      unfold mtL at hz5 ⊢
      rw [tab_length] at hz5 ⊢
      exact hz5
end Go.Proofs.Ytnbickholedckaa

namespace Go.Proofs.Ytnbickholedckaa
open Go.RowKit
attribute [local irreducible] OpF Ld CellAt Sl Sv pcA usP
section
variable {B : Nat} {w0 : Wd} {hs : HS} {t : Nt} {ps : List Pc} {mu : Nat → Nat}
theorem NtAt.ln (h : NtAt B w0 hs t ps mu) {hs' : HS} (hsub : hs.Sublist hs') {x : Nat} (hx : x < fsN (sdF ps) ps.length) : CellAt B w0 hs' (ea t.o1 x) (iv (lnF ps x)) := by
  have := h.lnl.at hsub (i := x) (by unfold lnL; rw [tab_length]; exact hx)
  unfold lnL at this
  rwa [tab_getD _ hx] at this
theorem NtAt.an (h : NtAt B w0 hs t ps mu) {hs' : HS} (hsub : hs.Sublist hs') {x : Nat} (hx : x < fsN (sdF ps) ps.length) : CellAt B w0 hs' (ea t.o2 x) (iv (anG ps x)) := by
  have := h.anl.at hsub (i := x) (by unfold anL; rw [tab_length]; exact hx)
  unfold anL at this
  rwa [tab_getD _ hx] at this
theorem NtAt.pc (h : NtAt B w0 hs t ps mu) {hs' : HS} (hsub : hs.Sublist hs') {x : Nat} (hx : x < fsN (sdF ps) ps.length) : CellAt B w0 hs' (ea t.o3 x) (iv (pcG (sdF ps) ps.length x : Nat)) := by
  have := h.pcl.at hsub (i := x) (by unfold pcL; rw [tab_length]; exact hx)
  unfold pcL at this
  rwa [tab_getD _ hx] at this
theorem NtAt.nx (h : NtAt B w0 hs t ps mu) {hs' : HS} (hsub : hs.Sublist hs') {x : Nat} (hx : x < fsN (sdF ps) ps.length) : CellAt B w0 hs' (ea t.o4 x) (iv (nxN (sdF ps) ps.length x : Nat)) := by
  have := h.nxl.at hsub (i := x) (by unfold nxL; rw [tab_length]; exact hx)
  unfold nxL at this
  rwa [tab_getD _ hx] at this
theorem NtAt.mt (h : NtAt B w0 hs t ps mu) {hs' : HS} (hsub : hs.Sublist hs') {x : Nat} (hx : x < fsN (sdF ps) ps.length) : CellAt B w0 hs' (ea t.o5 x) (iv (mtF mu x)) := by
  have := h.mtl.at hsub (i := x) (by unfold mtL; rw [tab_length]; exact hx)
  unfold mtL at this
  rwa [tab_getD _ hx] at this
theorem NtAt.s1 (h : NtAt B w0 hs t ps mu) {x : Nat} (hx : x < fsN (sdF ps) ps.length) : t.o1.isSome = true := h.lnl.any (i := x) (by unfold lnL; rw [tab_length]; exact hx)
theorem NtAt.s2 (h : NtAt B w0 hs t ps mu) {x : Nat} (hx : x < fsN (sdF ps) ps.length) : t.o2.isSome = true := h.anl.any (i := x) (by unfold anL; rw [tab_length]; exact hx)
theorem NtAt.s3 (h : NtAt B w0 hs t ps mu) {x : Nat} (hx : x < fsN (sdF ps) ps.length) : t.o3.isSome = true := h.pcl.any (i := x) (by unfold pcL; rw [tab_length]; exact hx)
theorem NtAt.s4 (h : NtAt B w0 hs t ps mu) {x : Nat} (hx : x < fsN (sdF ps) ps.length) : t.o4.isSome = true := h.nxl.any (i := x) (by unfold nxL; rw [tab_length]; exact hx)
theorem NtAt.s5 (h : NtAt B w0 hs t ps mu) {x : Nat} (hx : x < fsN (sdF ps) ps.length) : t.o5.isSome = true := h.mtl.any (i := x) (by unfold mtL; rw [tab_length]; exact hx)
end
section
variable {n : NN} {B : Nat} {w0 : Wd} {fr : FR} {hs hs' : HS} {ty : TypeId} {K : Act → World → Prop} {ops : Array Oper} {l : List Oper} {d : Nat} {pos : String} {aft : Array Edge}
/-- A number of an own row that has room is turned. -/
theorem stZ {t : TypeId} {x y : Operand} {b o : Nat} {m : List Int} {z : List Value} {u : Int} (h : Sat n B w0 (sl Try.prog ops K l) fr hs') (hx : opv fr x = some (.pointer (some ⟨b, o, none⟩))) (hl : o < m.length) (hy : opv fr y = some (iv u) := by rfl) (ht : getT shT t = some (false, 1) := by rfl)
    (hu : Upd b (ivs m ++ z) (ivs (m.set o u) ++ z) hs hs' := by with_reducible first | exact uu0 | exact uu1 | exact uu2 | exact uu3 | exact uu4 | exact uu5 | exact uu6 | exact uu7 | exact uu8 | ((repeat (first | exact uu0 | apply Upd.tail | apply Upd.app)); done)) :
    Sat n B w0 (sl Try.prog ops K (⟨none, .store t x y, ty, pos, aft, none⟩ :: l)) fr hs := by
  refine s_store1 hx hy rfl rfl (shTOf ht) (cs := ivs m ++ z) ?_ (by rw [List.length_append, ivs_length]; omega) h
  rw [List.set_append_left _ _ (by rw [ivs_length]; omega), ivs_set]
  exact hu
end
theorem NetN.nxp {n : Nat} {nx pv mu : Nat → Nat} (h : NetN n nx pv mu) : PmN n nx := ⟨h.nl, fun i j hi hj e => by rw [← h.pn i hi, e, h.pn j hj]⟩
set_option maxRecDepth 100000 in
set_option maxHeartbeats 8000000 in
theorem r_previous (t : Nt) (ps : List Pc) (mu : Nat → Nat) (hN : fsN (sdF ps) ps.length ≤ 48) (hNet : NetN (fsN (sdF ps) ps.length) (nxN (sdF ps) ps.length) (pvN (sdF ps) ps.length) mu) (x : Nat) (hx : x < fsN (sdF ps) ps.length) (B : Nat) (w0 : Wd) (hs : HS) (hS : NtAt B w0 hs t ps mu) :
    Fn Try.prog 92 #[.agg #[.slice t.o1 (fsN (sdF ps) ps.length) t.c1, .slice t.o2 (fsN (sdF ps) ps.length) t.c2, .slice t.o3 (fsN (sdF ps) ps.length) t.c3, .slice t.o4 (fsN (sdF ps) ps.length) t.c4, .slice t.o5 (fsN (sdF ps) ps.length) t.c5], iv x] B w0 hs (fun v h => v = iv (pvN (sdF ps) ps.length x : Nat) ∧ h = hs) := by
  obtain ⟨k, k1, k2, k3, k4⟩ := hNet.nxp.ret1 hx
  have hpv : pvN (sdF ps) ps.length x = itn (nxN (sdF ps) ps.length) (k - 1) x := hNet.nxp.inj _ _ (hNet.pl x hx) (hNet.nxp.itn_lt hx _) (by
    rw [hNet.np x hx]
    show x = itn (nxN (sdF ps) ps.length) (k - 1 + 1) x
    rw [show k - 1 + 1 = k by omega, k3])
  have i4 := hS.s4 hx
  have hc := fun y (hy : y < fsN (sdF ps) ps.length) hs' (h : hs.Sublist hs') => hS.nx h hy
  have hlt := fun j => hNet.nxp.itn_lt hx j
  rw [hpv]
  generalize fsN (sdF ps) ps.length = n at *
  generalize nxN (sdF ps) ps.length = nx at *
  refine fn_enter Try.func92 rfl Try.ntmps92 (by simp) ?_
  repeat' (first | ((with_reducible apply kP (.box 86 _)); refine sBA (fun b1 => ?_)) | (with_reducible first | refine c_seq ?_ | refine c_reg ?_ | refine c_region ?_ | refine c_block ?_ | refine c_skip ?_ | refine c_exit ?_ | refine c_ret ?_ | refine s_nil ?_ | refine x_then ?_ | refine x_then_exit ?_ | refine x_then_ret ?_ | refine x_block ?_ | refine x_block_ret ?_ | refine x_block_same ?_ | refine x_block_other (by first | rfl | decide) ?_ | refine q_nil ?_ | refine k_nil ?_) | ((with_reducible apply kP (.box _ _)); first | refine sBA (fun b => ?_) | refine sB (fun b => ?_)) | ((with_reducible apply kP _); refine sP ?_) | ((with_reducible apply kP _); refine sX ?_) | ((with_reducible apply kC); first | refine cT ?_ | refine cF ?_ | (refine cI (fun h => ?_) (fun h => ?_) <;> (try (exfalso; omega))) | refine cB (fun h => ?_) (fun h => ?_)))
  refine c_loop (fun j : Nat => [(1, iv x), (2, .pointer (some ⟨b1, 0, none⟩)), (5, iv (itn nx j x : Nat))]) (fun _ => (b1, [.slice t.o1 n t.c1, .slice t.o2 n t.c2, .slice t.o3 n t.c3, .slice t.o4 n t.c4, .slice t.o5 n t.c5]) :: hs) (fun j => j ≤ k - 1) (fun j => k - 1 - j) 0 (Nat.zero_le _) (by repeat' first | trivial | rfl | apply And.intro) (.refl _) ?_
  intro j hj
  have hy := hlt j
  have hcy := hc _ hy
  have hnx : nx (itn nx j x) = itn nx (j + 1) x := rfl
  rw [hnx] at hcy
  by_cases hjk : j = k - 1
  · subst hjk
    rw [show k - 1 + 1 = k by omega, k3] at hcy
    repeat' (first | ((with_reducible apply kP (.load 3 _)); refine sP ?_ (o_load rfl (ld_one (shTOf rfl) (hcy _ SBt)))) | ((with_reducible apply kDP (.load 3 _)); refine dP ?_ (hX := rfl) (hv := o_load rfl (ld_one (shTOf rfl) (hcy _ SBt)))) | ((with_reducible apply kQO (.load 3 _)); refine qP ?_ (o_load rfl (ld_one (shTOf rfl) (hcy _ SBt)))) | (with_reducible first | refine c_seq ?_ | refine c_reg ?_ | refine c_region ?_ | refine c_block ?_ | refine c_skip ?_ | refine c_exit ?_ | refine c_ret ?_ | refine s_nil ?_ | refine x_then ?_ | refine x_then_exit ?_ | refine x_then_ret ?_ | refine x_block ?_ | refine x_block_ret ?_ | refine x_block_same ?_ | refine x_block_other (by first | rfl | decide) ?_ | refine q_nil ?_ | refine k_nil ?_) | ((with_reducible apply kP (.box _ _)); first | refine sBA (fun b => ?_) | refine sB (fun b => ?_)) | ((with_reducible apply kP _); refine sP ?_) | ((with_reducible apply kP _); refine sX ?_) | ((with_reducible apply kC); first | refine cT ?_ | refine cF ?_ | (refine cI (fun h => ?_) (fun h => ?_) <;> (try (exfalso; omega))) | refine cB (fun h => ?_) (fun h => ?_)))
    all_goals first
      | exact e_ret1 rfl rfl ⟨rfl, rfl⟩ SCt
      | (exfalso; simp_all; done)
      | trace_state
  · have hne := k4 (j + 1) (by omega) (by omega)
    generalize itn nx (j + 1) x = y' at *
    repeat' (first | ((with_reducible apply kP (.load 3 _)); refine sP ?_ (o_load rfl (ld_one (shTOf rfl) (hcy _ SBt)))) | ((with_reducible apply kDP (.load 3 _)); refine dP ?_ (hX := rfl) (hv := o_load rfl (ld_one (shTOf rfl) (hcy _ SBt)))) | ((with_reducible apply kQO (.load 3 _)); refine qP ?_ (o_load rfl (ld_one (shTOf rfl) (hcy _ SBt)))) | (with_reducible first | refine c_seq ?_ | refine c_reg ?_ | refine c_region ?_ | refine c_block ?_ | refine c_skip ?_ | refine c_exit ?_ | refine c_ret ?_ | refine s_nil ?_ | refine x_then ?_ | refine x_then_exit ?_ | refine x_then_ret ?_ | refine x_block ?_ | refine x_block_ret ?_ | refine x_block_same ?_ | refine x_block_other (by first | rfl | decide) ?_ | refine q_nil ?_ | refine k_nil ?_) | ((with_reducible apply kP (.box _ _)); first | refine sBA (fun b => ?_) | refine sB (fun b => ?_)) | ((with_reducible apply kP _); refine sP ?_) | ((with_reducible apply kP _); refine sX ?_) | ((with_reducible apply kC); first | refine cT ?_ | refine cF ?_ | (refine cI (fun h => ?_) (fun h => ?_) <;> (try (exfalso; omega))) | refine cB (fun h => ?_) (fun h => ?_)))
    all_goals first
      | exact r_end (j + 1) (by omega) (by omega) (by subst hnx; exact (by repeat' first | trivial | rfl | apply And.intro)) SCt
      | (exfalso; omega)
      | trace_state
/-- Which rounds the lowering goes through. -/
structure MtI where
  F : Nat → Nat
  again : Bool
structure MtJ where
  a : Nat
  F : Nat → Nat
  again : Bool
def natL (n : Nat) (F : Nat → Nat) : List Int := tab n fun x => ((F x : Nat) : Int)
theorem natL_at {n : Nat} {F : Nat → Nat} {x : Nat} (h : x < n) : (natL n F).getD x 0 = (F x : Int) := tab_getD _ h
theorem natL_len (n : Nat) (F : Nat → Nat) : (natL n F).length = n := tab_length _ _
theorem natL_lw {n : Nat} {F : Nat → Nat} {u v : Nat} : ((natL n F).set u (min (F u) (F v) : Nat)).set v (min (F u) (F v) : Nat) = natL n (lwS F u v) := by
  unfold natL
  rw [tab_set, tab_set]
  refine tab_ext fun x _ => ?_
  unfold lwS
  by_cases h1 : x = v
  · rw [if_pos h1, if_pos h1]
  · rw [if_neg h1, if_neg h1]
    by_cases h2 : x = u
    · rw [if_pos h2, if_pos h2]
    · rw [if_neg h2, if_neg h2]
theorem natL_own {B : Nat} {w0 : Wd} {hs : HS} {b n : Nat} {F : Nat → Nat} {z : List Value} {x : Nat} (h : (b, ivs (natL n F) ++ z) ∈ hs) (hx : x < n) : CellAt B w0 hs ⟨b, x, none⟩ (iv (F x : Int)) := by
  refine own h ?_
  rw [List.getElem?_append_left (by rw [ivs_length, natL_len]; exact hx), ivs_get (by rw [natL_len]; exact hx), natL_at hx]
set_option maxRecDepth 100000 in
set_option maxHeartbeats 8000000 in
theorem r_meets (t : Nt) (ps : List Pc) (mu : Nat → Nat) (hN : fsN (sdF ps) ps.length ≤ 48) (hN1 : 1 ≤ fsN (sdF ps) ps.length) (hNet : NetN (fsN (sdF ps) ps.length) (nxN (sdF ps) ps.length) (pvN (sdF ps) ps.length) mu) (B : Nat) (w0 : Wd) (hs : HS) (hS : NtAt B w0 hs t ps mu) :
    Fn Try.prog 91 #[.agg #[.slice t.o1 (fsN (sdF ps) ps.length) t.c1, .slice t.o2 (fsN (sdF ps) ps.length) t.c2, .slice t.o3 (fsN (sdF ps) ps.length) t.c3, .slice t.o4 (fsN (sdF ps) ps.length) t.c4, .slice t.o5 (fsN (sdF ps) ps.length) t.c5]] B w0 hs (fun v h => ∃ blk, (∃ oa c, v = .slice oa (fsN (sdF ps) ps.length) c ∧ RowOk oa c 1 (ivs (natL (fsN (sdF ps) ps.length) (rpE (ptE (fsN (sdF ps) ps.length) (nxN (sdF ps) ps.length) mu)))) blk) ∧ h = blk ++ hs) := by
  have i4 := hS.s4 (x := 0) hN1
  have i5 := hS.s5 (x := 0) hN1
  have hcn := fun y (hy : y < fsN (sdF ps) ps.length) hs' (h : hs.Sublist hs') => hS.nx h hy
  have hcm := fun y (hy : y < fsN (sdF ps) ps.length) hs' (h : hs.Sublist hs') => hS.mt h hy
  have hmt : ∀ {x : Nat}, mu x ≠ x → mtF mu x = (mu x : Int) := fun h => if_neg h
  have hmf : ∀ {x : Nat}, mu x = x → mtF mu x = -1 := fun h => if_pos h
  generalize fsN (sdF ps) ps.length = n at *
  generalize nxN (sdF ps) ps.length = nx at *
  refine fn_enter Try.func91 rfl Try.ntmps91 (by simp) ?_
  repeat' (first | ((with_reducible apply kP (.box 86 _)); refine sBA (fun b1 => ?_)) | (with_reducible first | refine c_seq ?_ | refine c_reg ?_ | refine c_region ?_ | refine c_block ?_ | refine c_skip ?_ | refine c_exit ?_ | refine c_ret ?_ | refine s_nil ?_ | refine x_then ?_ | refine x_then_exit ?_ | refine x_then_ret ?_ | refine x_block ?_ | refine x_block_ret ?_ | refine x_block_same ?_ | refine x_block_other (by first | rfl | decide) ?_ | refine q_nil ?_ | refine k_nil ?_) | ((with_reducible apply kN); first | refine stP ?_ | refine stI ?_ | refine st1 ?_ | refine stW ?_) | ((with_reducible apply kP (.box _ _)); first | refine sBA (fun b => ?_) | refine sB (fun b => ?_)) | ((with_reducible apply kP (.buildSlice _ 1 _)); first | refine sl1A (fun b => ?_) | refine sl1 (fun b => ?_)) | ((with_reducible apply kP (.call ⟨.builtin .append, _, _⟩)); refine sAp (fun oa2 c2 blk2 hrow2 => ?_)) | ((with_reducible apply kP _); refine sP ?_) | ((with_reducible apply kP _); refine sX ?_) | ((with_reducible apply kQP); refine qP ?_) | ((with_reducible apply kQP); refine qX ?_) | ((with_reducible apply kC); first | refine cT ?_ | refine cF ?_ | (refine cI (fun h => ?_) (fun h => ?_) <;> (try (exfalso; omega))) | refine cB (fun h => ?_) (fun h => ?_)) | ((with_reducible apply kR); refine cQ ?_))
  refine c_loop (fun x : Nat × Option Addr × Nat × HS => [(1, .pointer (some ⟨b1, 0, none⟩)), (3, .slice x.2.1 x.1 x.2.2.1), (4, iv x.1)]) (fun x => x.2.2.2 ++ ((b1, [.slice t.o1 n t.c1, .slice t.o2 n t.c2, .slice t.o3 n t.c3, .slice t.o4 n t.c4, .slice t.o5 n t.c5]) :: hs))
    (fun x => x.1 ≤ n ∧ RowOk x.2.1 x.2.2.1 1 (ivs (natL x.1 fun x => x)) x.2.2.2) (fun x => n - x.1) (0, none, 0, []) ⟨Nat.zero_le _, RowOk.nil⟩ (by repeat' first | trivial | rfl | apply And.intro) (.refl _) ?_
  rintro ⟨i, oa, c, blk⟩ ⟨hi, hrow⟩
  dsimp only at hi hrow ⊢
  by_cases hi' : i < n
  · have hl : (ivs (natL i fun x => x)).length = i * 1 := by rw [ivs_length, natL_len, Nat.mul_one]
    repeat' (first | ((with_reducible apply kP (.call ⟨.builtin .append, _, _⟩)); refine sAp (fun oa2 c2 blk2 hrow2 => ?_) (hr := hrow) (hk := hl)) | (with_reducible first | refine c_seq ?_ | refine c_reg ?_ | refine c_region ?_ | refine c_block ?_ | refine c_skip ?_ | refine c_exit ?_ | refine c_ret ?_ | refine s_nil ?_ | refine x_then ?_ | refine x_then_exit ?_ | refine x_then_ret ?_ | refine x_block ?_ | refine x_block_ret ?_ | refine x_block_same ?_ | refine x_block_other (by first | rfl | decide) ?_ | refine q_nil ?_ | refine k_nil ?_) | ((with_reducible apply kN); first | refine stP ?_ | refine stI ?_ | refine st1 ?_ | refine stW ?_) | ((with_reducible apply kP (.box _ _)); first | refine sBA (fun b => ?_) | refine sB (fun b => ?_)) | ((with_reducible apply kP (.buildSlice _ 1 _)); first | refine sl1A (fun b => ?_) | refine sl1 (fun b => ?_)) | ((with_reducible apply kP (.call ⟨.builtin .append, _, _⟩)); refine sAp (fun oa2 c2 blk2 hrow2 => ?_)) | ((with_reducible apply kP _); refine sP ?_) | ((with_reducible apply kP _); refine sX ?_) | ((with_reducible apply kQP); refine qP ?_) | ((with_reducible apply kQP); refine qX ?_) | ((with_reducible apply kC); first | refine cT ?_ | refine cF ?_ | (refine cI (fun h => ?_) (fun h => ?_) <;> (try (exfalso; omega))) | refine cB (fun h => ?_) (fun h => ?_)) | ((with_reducible apply kR); refine cQ ?_))
    have hr2 : RowOk oa2 c2 1 (ivs (natL (i + 1) fun x => x)) blk2 := by unfold natL; rw [tab_snoc]; exact hrow2
    exact r_end (i + 1, oa2, c2, blk2) ⟨hi', hr2⟩ (by dsimp only; omega) (by repeat' first | trivial | rfl | apply And.intro) SCt
  · obtain rfl : n = i := by omega
    rcases hrow with ⟨_, _, h3, _⟩ | ⟨b3, z3, rfl, rfl, hz3, hc3⟩
    · exfalso
      have := congrArg List.length h3
      rw [ivs_length, natL_len] at this
      simp at this; omega
    rw [List.singleton_append]
    repeat' (first | (with_reducible first | refine c_seq ?_ | refine c_reg ?_ | refine c_region ?_ | refine c_block ?_ | refine c_skip ?_ | refine c_exit ?_ | refine c_ret ?_ | refine s_nil ?_ | refine x_then ?_ | refine x_then_exit ?_ | refine x_then_ret ?_ | refine x_block ?_ | refine x_block_ret ?_ | refine x_block_same ?_ | refine x_block_other (by first | rfl | decide) ?_ | refine q_nil ?_ | refine k_nil ?_) | ((with_reducible apply kN); first | refine stP ?_ | refine stI ?_ | refine st1 ?_ | refine stW ?_) | ((with_reducible apply kP (.box _ _)); first | refine sBA (fun b => ?_) | refine sB (fun b => ?_)) | ((with_reducible apply kP (.buildSlice _ 1 _)); first | refine sl1A (fun b => ?_) | refine sl1 (fun b => ?_)) | ((with_reducible apply kP (.call ⟨.builtin .append, _, _⟩)); refine sAp (fun oa2 c2 blk2 hrow2 => ?_)) | ((with_reducible apply kP _); refine sP ?_) | ((with_reducible apply kP _); refine sX ?_) | ((with_reducible apply kQP); refine qP ?_) | ((with_reducible apply kQP); refine qX ?_) | ((with_reducible apply kC); first | refine cT ?_ | refine cF ?_ | (refine cI (fun h => ?_) (fun h => ?_) <;> (try (exfalso; omega))) | refine cB (fun h => ?_) (fun h => ?_)) | ((with_reducible apply kR); refine cQ ?_))
    refine c_loop (fun x : MtI => [(1, .pointer (some ⟨b1, 0, none⟩)), (3, .slice (some ⟨b3, 0, none⟩) n c), (5, .bool x.again)]) (fun x => (b3, ivs (natL n x.F) ++ z3) :: (b1, [.slice t.o1 n t.c1, .slice t.o2 n t.c2, .slice t.o3 n t.c3, .slice t.o4 n t.c4, .slice t.o5 n t.c5]) :: hs)
      (fun x => Lw n (ptE n nx mu) x.F ∧ (x.again = false → ∀ p ∈ ptE n nx mu, x.F p.1 = x.F p.2)) (fun x => if x.again then sumN x.F n + 1 else 0) ⟨fun x => x, true⟩ ⟨Lw.id _ _, fun h => by cases h⟩ (by repeat' first | trivial | rfl | apply And.intro) (.refl _) ?_
    rintro ⟨F0, again⟩ ⟨hLw, hdone⟩
    dsimp only at hLw hdone ⊢
    cases again with
    | false =>
      have he : natL n F0 = natL n (rpE (ptE n nx mu)) := tab_ext fun x hx => by rw [hLw.done (hdone rfl) hx]
      rw [he]
      repeat' (first | (with_reducible first | refine c_seq ?_ | refine c_reg ?_ | refine c_region ?_ | refine c_block ?_ | refine c_skip ?_ | refine c_exit ?_ | refine c_ret ?_ | refine s_nil ?_ | refine x_then ?_ | refine x_then_exit ?_ | refine x_then_ret ?_ | refine x_block ?_ | refine x_block_ret ?_ | refine x_block_same ?_ | refine x_block_other (by first | rfl | decide) ?_ | refine q_nil ?_ | refine k_nil ?_) | ((with_reducible apply kN); first | refine stP ?_ | refine stI ?_ | refine st1 ?_ | refine stW ?_) | ((with_reducible apply kP (.box _ _)); first | refine sBA (fun b => ?_) | refine sB (fun b => ?_)) | ((with_reducible apply kP (.buildSlice _ 1 _)); first | refine sl1A (fun b => ?_) | refine sl1 (fun b => ?_)) | ((with_reducible apply kP (.call ⟨.builtin .append, _, _⟩)); refine sAp (fun oa2 c2 blk2 hrow2 => ?_)) | ((with_reducible apply kP _); refine sP ?_) | ((with_reducible apply kP _); refine sX ?_) | ((with_reducible apply kQP); refine qP ?_) | ((with_reducible apply kQP); refine qX ?_) | ((with_reducible apply kC); first | refine cT ?_ | refine cF ?_ | (refine cI (fun h => ?_) (fun h => ?_) <;> (try (exfalso; omega))) | refine cB (fun h => ?_) (fun h => ?_)) | ((with_reducible apply kR); refine cQ ?_))
      exact e_ret1 (hs' := (b3, ivs (natL n (rpE (ptE n nx mu))) ++ z3) :: hs) rfl rfl ⟨[(b3, ivs (natL n (rpE (ptE n nx mu))) ++ z3)], ⟨_, c, rfl, .inr ⟨b3, z3, rfl, rfl, by
        rw [List.length_append, ivs_length, natL_len] at hz3 ⊢; exact hz3, hc3⟩⟩, rfl⟩ SCt
    | true =>
      repeat' (first | (with_reducible first | refine c_seq ?_ | refine c_reg ?_ | refine c_region ?_ | refine c_block ?_ | refine c_skip ?_ | refine c_exit ?_ | refine c_ret ?_ | refine s_nil ?_ | refine x_then ?_ | refine x_then_exit ?_ | refine x_then_ret ?_ | refine x_block ?_ | refine x_block_ret ?_ | refine x_block_same ?_ | refine x_block_other (by first | rfl | decide) ?_ | refine q_nil ?_ | refine k_nil ?_) | ((with_reducible apply kN); first | refine stP ?_ | refine stI ?_ | refine st1 ?_ | refine stW ?_) | ((with_reducible apply kP (.box _ _)); first | refine sBA (fun b => ?_) | refine sB (fun b => ?_)) | ((with_reducible apply kP (.buildSlice _ 1 _)); first | refine sl1A (fun b => ?_) | refine sl1 (fun b => ?_)) | ((with_reducible apply kP (.call ⟨.builtin .append, _, _⟩)); refine sAp (fun oa2 c2 blk2 hrow2 => ?_)) | ((with_reducible apply kP _); refine sP ?_) | ((with_reducible apply kP _); refine sX ?_) | ((with_reducible apply kQP); refine qP ?_) | ((with_reducible apply kQP); refine qX ?_) | ((with_reducible apply kC); first | refine cT ?_ | refine cF ?_ | (refine cI (fun h => ?_) (fun h => ?_) <;> (try (exfalso; omega))) | refine cB (fun h => ?_) (fun h => ?_)) | ((with_reducible apply kR); refine cQ ?_))
      refine c_loop (fun x : MtJ => [(1, .pointer (some ⟨b1, 0, none⟩)), (3, .slice (some ⟨b3, 0, none⟩) n c), (5, .bool x.again), (6, iv x.a)]) (fun x => (b3, ivs (natL n x.F) ++ z3) :: (b1, [.slice t.o1 n t.c1, .slice t.o2 n t.c2, .slice t.o3 n t.c3, .slice t.o4 n t.c4, .slice t.o5 n t.c5]) :: hs)
        (fun x => x.a ≤ n ∧ Lw n (ptE n nx mu) x.F ∧ sumN x.F n ≤ sumN F0 n ∧ (x.again = false → ∀ a, a < x.a → mu a ≠ a → x.F a = x.F (psN nx mu a)) ∧ (x.again = true → sumN x.F n < sumN F0 n)) (fun x => n - x.a) ⟨0, F0, false⟩ ⟨Nat.zero_le _, hLw, Nat.le_refl _, fun _ a ha => absurd ha (Nat.not_lt_zero _), fun h => by cases h⟩ (by repeat' first | trivial | rfl | apply And.intro) (.refl _) ?_
      rintro ⟨a, F, again⟩ ⟨ha, hLF, hsm, hag, hat⟩
      dsimp only at ha hLF hsm hag hat ⊢
      by_cases ha' : a < n
      · have hca := hcm a ha'
        have hmo := fun hs' (h : (b3, ivs (natL n F) ++ z3) ∈ hs') x (hx : x < n) => natL_own (B := B) (w0 := w0) (F := F) h hx
        by_cases hf : mu a = a
        · rw [hmf hf] at hca
          repeat' (first | ((with_reducible apply kP (.load 3 _)); refine sP ?_ (o_load rfl (ld_one (shTOf rfl) (hca _ SBt)))) | ((with_reducible apply kDP (.load 3 _)); refine dP ?_ (hX := rfl) (hv := o_load rfl (ld_one (shTOf rfl) (hca _ SBt)))) | ((with_reducible apply kQO (.load 3 _)); refine qP ?_ (o_load rfl (ld_one (shTOf rfl) (hca _ SBt)))) | (with_reducible first | refine c_seq ?_ | refine c_reg ?_ | refine c_region ?_ | refine c_block ?_ | refine c_skip ?_ | refine c_exit ?_ | refine c_ret ?_ | refine s_nil ?_ | refine x_then ?_ | refine x_then_exit ?_ | refine x_then_ret ?_ | refine x_block ?_ | refine x_block_ret ?_ | refine x_block_same ?_ | refine x_block_other (by first | rfl | decide) ?_ | refine q_nil ?_ | refine k_nil ?_) | ((with_reducible apply kN); first | refine stP ?_ | refine stI ?_ | refine st1 ?_ | refine stW ?_) | ((with_reducible apply kP (.box _ _)); first | refine sBA (fun b => ?_) | refine sB (fun b => ?_)) | ((with_reducible apply kP (.buildSlice _ 1 _)); first | refine sl1A (fun b => ?_) | refine sl1 (fun b => ?_)) | ((with_reducible apply kP (.call ⟨.builtin .append, _, _⟩)); refine sAp (fun oa2 c2 blk2 hrow2 => ?_)) | ((with_reducible apply kP _); refine sP ?_) | ((with_reducible apply kP _); refine sX ?_) | ((with_reducible apply kQP); refine qP ?_) | ((with_reducible apply kQP); refine qX ?_) | ((with_reducible apply kC); first | refine cT ?_ | refine cF ?_ | (refine cI (fun h => ?_) (fun h => ?_) <;> (try (exfalso; omega))) | refine cB (fun h => ?_) (fun h => ?_)) | ((with_reducible apply kR); refine cQ ?_))
          all_goals first
            | exact r_end (⟨a + 1, F, again⟩ : MtJ) ⟨ha', hLF, hsm, fun h x hx hm => by
                by_cases e : x = a
                · subst e; exact absurd hf hm
                · exact hag h x (by have hx2 : x < a + 1 := hx; omega) hm, hat⟩ (by dsimp only; omega) (by repeat' first | trivial | rfl | apply And.intro) SCt
            | (exfalso; omega)
            | trace_state
        · rw [hmt hf] at hca
          have hma := hNet.ml a ha'
          have hcx := hcn (mu a) hma
          have hps : nx (mu a) = psN nx mu a := rfl
          rw [hps] at hcx
          have hpl := hNet.perm.mp a ha'
          have hed : rpE (ptE n nx mu) a = rpE (ptE n nx mu) (psN nx mu a) := rpE_edge (mem_ptE.2 ⟨ha', hf, rfl⟩)
          generalize hb : psN nx mu a = b at *
          have hla : a < (natL n F).length := by rw [natL_len]; exact ha'
          have hlb : ∀ u : Int, b < ((natL n F).set a u).length := fun u => by rw [List.length_set, natL_len]; exact hpl
          by_cases he : F a = F b
          · repeat' (first | ((with_reducible apply kP (.load 3 (.tmp 30))); refine sP ?_ (o_load rfl (ld_one (shTOf rfl) (hca _ SBt)))) | ((with_reducible apply kDP (.load 3 (.tmp 30))); refine dP ?_ (hX := rfl) (hv := o_load rfl (ld_one (shTOf rfl) (hca _ SBt)))) | ((with_reducible apply kQO (.load 3 (.tmp 30))); refine qP ?_ (o_load rfl (ld_one (shTOf rfl) (hca _ SBt)))) | ((with_reducible apply kP (.load 3 (.tmp 38))); refine sP ?_ (o_load rfl (ld_one (shTOf rfl) (hca _ SBt)))) | ((with_reducible apply kDP (.load 3 (.tmp 38))); refine dP ?_ (hX := rfl) (hv := o_load rfl (ld_one (shTOf rfl) (hca _ SBt)))) | ((with_reducible apply kQO (.load 3 (.tmp 38))); refine qP ?_ (o_load rfl (ld_one (shTOf rfl) (hca _ SBt)))) | ((with_reducible apply kP (.load 3 (.tmp 40))); refine sP ?_ (o_load rfl (ld_one (shTOf rfl) (hcx _ SBt)))) | ((with_reducible apply kDP (.load 3 (.tmp 40))); refine dP ?_ (hX := rfl) (hv := o_load rfl (ld_one (shTOf rfl) (hcx _ SBt)))) | ((with_reducible apply kQO (.load 3 (.tmp 40))); refine qP ?_ (o_load rfl (ld_one (shTOf rfl) (hcx _ SBt)))) | ((with_reducible apply kP (.load 3 (.tmp 44))); refine sP ?_ (o_load rfl (ld_one (shTOf rfl) (hmo _ MMt a ha')))) | ((with_reducible apply kDP (.load 3 (.tmp 44))); refine dP ?_ (hX := rfl) (hv := o_load rfl (ld_one (shTOf rfl) (hmo _ MMt a ha')))) | ((with_reducible apply kQO (.load 3 (.tmp 44))); refine qP ?_ (o_load rfl (ld_one (shTOf rfl) (hmo _ MMt a ha')))) | ((with_reducible apply kP (.load 3 (.tmp 48))); refine sP ?_ (o_load rfl (ld_one (shTOf rfl) (hmo _ MMt b hpl)))) | ((with_reducible apply kDP (.load 3 (.tmp 48))); refine dP ?_ (hX := rfl) (hv := o_load rfl (ld_one (shTOf rfl) (hmo _ MMt b hpl)))) | ((with_reducible apply kQO (.load 3 (.tmp 48))); refine qP ?_ (o_load rfl (ld_one (shTOf rfl) (hmo _ MMt b hpl)))) | (with_reducible first | refine c_seq ?_ | refine c_reg ?_ | refine c_region ?_ | refine c_block ?_ | refine c_skip ?_ | refine c_exit ?_ | refine c_ret ?_ | refine s_nil ?_ | refine x_then ?_ | refine x_then_exit ?_ | refine x_then_ret ?_ | refine x_block ?_ | refine x_block_ret ?_ | refine x_block_same ?_ | refine x_block_other (by first | rfl | decide) ?_ | refine q_nil ?_ | refine k_nil ?_) | ((with_reducible apply kN); first | refine stP ?_ | refine stI ?_ | refine st1 ?_ | refine stW ?_) | ((with_reducible apply kP (.box _ _)); first | refine sBA (fun b => ?_) | refine sB (fun b => ?_)) | ((with_reducible apply kP (.buildSlice _ 1 _)); first | refine sl1A (fun b => ?_) | refine sl1 (fun b => ?_)) | ((with_reducible apply kP (.call ⟨.builtin .append, _, _⟩)); refine sAp (fun oa2 c2 blk2 hrow2 => ?_)) | ((with_reducible apply kP _); refine sP ?_) | ((with_reducible apply kP _); refine sX ?_) | ((with_reducible apply kQP); refine qP ?_) | ((with_reducible apply kQP); refine qX ?_) | ((with_reducible apply kC); first | refine cT ?_ | refine cF ?_ | (refine cI (fun h => ?_) (fun h => ?_) <;> (try (exfalso; omega))) | refine cB (fun h => ?_) (fun h => ?_)) | ((with_reducible apply kR); refine cQ ?_))
            all_goals first
              | exact r_end (⟨a + 1, F, again⟩ : MtJ) ⟨ha', hLF, hsm, fun h x hx hm => by
                  by_cases e : x = a
                  · subst e; rw [hb]; exact he
                  · exact hag h x (by have hx2 : x < a + 1 := hx; omega) hm, hat⟩ (by dsimp only; omega) (by repeat' first | trivial | rfl | apply And.intro) SCt
              | (exfalso; omega)
              | trace_state
          · have hmn : min (F a : Int) (F b : Int) = ((min (F a) (F b) : Nat) : Int) := by omega
            have hst := natL_lw (n := n) (F := F) (u := a) (v := b)
            have hs1 := lwS_sum ha' hpl he
            have hL1 := hLF.step ha' hpl hed
            repeat' (first | ((with_reducible apply kP (.load 3 (.tmp 30))); refine sP ?_ (o_load rfl (ld_one (shTOf rfl) (hca _ SBt)))) | ((with_reducible apply kDP (.load 3 (.tmp 30))); refine dP ?_ (hX := rfl) (hv := o_load rfl (ld_one (shTOf rfl) (hca _ SBt)))) | ((with_reducible apply kQO (.load 3 (.tmp 30))); refine qP ?_ (o_load rfl (ld_one (shTOf rfl) (hca _ SBt)))) | ((with_reducible apply kP (.load 3 (.tmp 38))); refine sP ?_ (o_load rfl (ld_one (shTOf rfl) (hca _ SBt)))) | ((with_reducible apply kDP (.load 3 (.tmp 38))); refine dP ?_ (hX := rfl) (hv := o_load rfl (ld_one (shTOf rfl) (hca _ SBt)))) | ((with_reducible apply kQO (.load 3 (.tmp 38))); refine qP ?_ (o_load rfl (ld_one (shTOf rfl) (hca _ SBt)))) | ((with_reducible apply kP (.load 3 (.tmp 40))); refine sP ?_ (o_load rfl (ld_one (shTOf rfl) (hcx _ SBt)))) | ((with_reducible apply kDP (.load 3 (.tmp 40))); refine dP ?_ (hX := rfl) (hv := o_load rfl (ld_one (shTOf rfl) (hcx _ SBt)))) | ((with_reducible apply kQO (.load 3 (.tmp 40))); refine qP ?_ (o_load rfl (ld_one (shTOf rfl) (hcx _ SBt)))) | ((with_reducible apply kP (.load 3 (.tmp 44))); refine sP ?_ (o_load rfl (ld_one (shTOf rfl) (hmo _ MMt a ha')))) | ((with_reducible apply kDP (.load 3 (.tmp 44))); refine dP ?_ (hX := rfl) (hv := o_load rfl (ld_one (shTOf rfl) (hmo _ MMt a ha')))) | ((with_reducible apply kQO (.load 3 (.tmp 44))); refine qP ?_ (o_load rfl (ld_one (shTOf rfl) (hmo _ MMt a ha')))) | ((with_reducible apply kP (.load 3 (.tmp 48))); refine sP ?_ (o_load rfl (ld_one (shTOf rfl) (hmo _ MMt b hpl)))) | ((with_reducible apply kDP (.load 3 (.tmp 48))); refine dP ?_ (hX := rfl) (hv := o_load rfl (ld_one (shTOf rfl) (hmo _ MMt b hpl)))) | ((with_reducible apply kQO (.load 3 (.tmp 48))); refine qP ?_ (o_load rfl (ld_one (shTOf rfl) (hmo _ MMt b hpl)))) | ((with_reducible apply kP (.load 3 (.tmp 53))); refine sP ?_ (o_load rfl (ld_one (shTOf rfl) (hmo _ MMt a ha')))) | ((with_reducible apply kDP (.load 3 (.tmp 53))); refine dP ?_ (hX := rfl) (hv := o_load rfl (ld_one (shTOf rfl) (hmo _ MMt a ha')))) | ((with_reducible apply kQO (.load 3 (.tmp 53))); refine qP ?_ (o_load rfl (ld_one (shTOf rfl) (hmo _ MMt a ha')))) | ((with_reducible apply kP (.load 3 (.tmp 57))); refine sP ?_ (o_load rfl (ld_one (shTOf rfl) (hmo _ MMt b hpl)))) | ((with_reducible apply kDP (.load 3 (.tmp 57))); refine dP ?_ (hX := rfl) (hv := o_load rfl (ld_one (shTOf rfl) (hmo _ MMt b hpl)))) | ((with_reducible apply kQO (.load 3 (.tmp 57))); refine qP ?_ (o_load rfl (ld_one (shTOf rfl) (hmo _ MMt b hpl)))) | ((with_reducible apply kN); refine stZ ?_ rfl hla) | ((with_reducible apply kN); refine stZ ?_ rfl (hlb _)) | (with_reducible first | refine c_seq ?_ | refine c_reg ?_ | refine c_region ?_ | refine c_block ?_ | refine c_skip ?_ | refine c_exit ?_ | refine c_ret ?_ | refine s_nil ?_ | refine x_then ?_ | refine x_then_exit ?_ | refine x_then_ret ?_ | refine x_block ?_ | refine x_block_ret ?_ | refine x_block_same ?_ | refine x_block_other (by first | rfl | decide) ?_ | refine q_nil ?_ | refine k_nil ?_) | ((with_reducible apply kN); first | refine stP ?_ | refine stI ?_ | refine st1 ?_ | refine stW ?_) | ((with_reducible apply kP (.box _ _)); first | refine sBA (fun b => ?_) | refine sB (fun b => ?_)) | ((with_reducible apply kP (.buildSlice _ 1 _)); first | refine sl1A (fun b => ?_) | refine sl1 (fun b => ?_)) | ((with_reducible apply kP (.call ⟨.builtin .append, _, _⟩)); refine sAp (fun oa2 c2 blk2 hrow2 => ?_)) | ((with_reducible apply kP _); refine sP ?_) | ((with_reducible apply kP _); refine sX ?_) | ((with_reducible apply kQP); refine qP ?_) | ((with_reducible apply kQP); refine qX ?_) | ((with_reducible apply kC); first | refine cT ?_ | refine cF ?_ | (refine cI (fun h => ?_) (fun h => ?_) <;> (try (exfalso; omega))) | refine cB (fun h => ?_) (fun h => ?_)) | ((with_reducible apply kR); refine cQ ?_))
            · rw [hmn, hst]
              exact r_end (⟨a + 1, lwS F a b, true⟩ : MtJ) ⟨ha', hL1, Nat.le_of_lt (Nat.lt_of_lt_of_le hs1 hsm), fun h => (by cases h), fun _ => Nat.lt_of_lt_of_le hs1 hsm⟩ (by dsimp only; omega) (by repeat' first | trivial | rfl | apply And.intro) SCt
            all_goals exfalso; omega
      · obtain rfl : n = a := by omega
        repeat' (first | (with_reducible first | refine c_seq ?_ | refine c_reg ?_ | refine c_region ?_ | refine c_block ?_ | refine c_skip ?_ | refine c_exit ?_ | refine c_ret ?_ | refine s_nil ?_ | refine x_then ?_ | refine x_then_exit ?_ | refine x_then_ret ?_ | refine x_block ?_ | refine x_block_ret ?_ | refine x_block_same ?_ | refine x_block_other (by first | rfl | decide) ?_ | refine q_nil ?_ | refine k_nil ?_) | ((with_reducible apply kN); first | refine stP ?_ | refine stI ?_ | refine st1 ?_ | refine stW ?_) | ((with_reducible apply kP (.box _ _)); first | refine sBA (fun b => ?_) | refine sB (fun b => ?_)) | ((with_reducible apply kP (.buildSlice _ 1 _)); first | refine sl1A (fun b => ?_) | refine sl1 (fun b => ?_)) | ((with_reducible apply kP (.call ⟨.builtin .append, _, _⟩)); refine sAp (fun oa2 c2 blk2 hrow2 => ?_)) | ((with_reducible apply kP _); refine sP ?_) | ((with_reducible apply kP _); refine sX ?_) | ((with_reducible apply kQP); refine qP ?_) | ((with_reducible apply kQP); refine qX ?_) | ((with_reducible apply kC); first | refine cT ?_ | refine cF ?_ | (refine cI (fun h => ?_) (fun h => ?_) <;> (try (exfalso; omega))) | refine cB (fun h => ?_) (fun h => ?_)) | ((with_reducible apply kR); refine cQ ?_))
        refine r_end (⟨F, again⟩ : MtI) ⟨hLF, fun h p hp => ?_⟩ ?_ (by repeat' first | trivial | rfl | apply And.intro) SCt
        · obtain ⟨h1, h2, h3⟩ := mem_ptE.1 hp
          rw [h3]; exact hag h p.1 h1 h2
        · dsimp only
          cases again with
          | false => simp
          | true => have := hat rfl; simp; omega
end Go.Proofs.Ytnbickholedckaa
