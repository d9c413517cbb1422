/- The points: the program's walk. -/
import Derived.Test.YtmblgbcipniecaaGreatDoorMB5
import Derived.Test.YtmblgbcipniecaaGreatDoorMC20
import Derived.Test.YtmblgbcipniecaaGreatDoorMB1
import Derived.Test.YtmblgbcipniecaaGreatDoorMA3
import Derived.Test.YtmblgbcipniecaaGreatDoorMB2
namespace Go.Proofs.YtmblgbcipniecaaGreatDoor
open Go.RowKit
attribute [local irreducible] OpF Ld CellAt Sl Sv pcA usP

theorem UpdM.app {m : Nat} {o o' : Obj} {ms ms' : List (Nat × Obj)} (h : UpdM m o o' ms ms') : ∀ l : List (Nat × Obj), UpdM m o o' (l ++ ms) (l ++ ms')
  | [] => h
  | p :: l => .tail p (UpdM.app h l)
theorem z109 : zc Tryz.prog 82 = some #[.map none] := by kernel_rfl
theorem sh109 : sh Tryz.prog 82 = some (false, 1) := by kernel_rfl
theorem sh82' : sh Tryz.prog 57 = some (false, 1) := by kernel_rfl
theorem le_tr {a b c : Wd} (h : a.le b) (h' : b.le c) : a.le c := ⟨h'.1.trans h.1, h.2.trans h'.2⟩
def mks (Ds : List Nat) (ms : List (Nat × Obj)) : List (Nat × Obj) := (Ds.map fun D => (D, Obj.deferred (some []))) ++ ms
theorem mks_sub (Ds : List Nat) (ms : List (Nat × Obj)) : ms.Sublist (mks Ds ms) := List.sublist_append_right _ _
/-- The points in memory. -/
structure Pr where
  oa : Option Addr
  c : Nat
  p : Pt
  blk : HS
def prv (rs : List Pr) : List Value := rs.flatMap fun r => [.slice r.oa r.p.cs.length r.c, .bool r.p.inn, iv r.p.an, iv r.p.df]
def prb (rs : List Pr) : HS := rs.foldl (fun acc r => r.blk ++ acc) []
theorem prb_snoc (rs : List Pr) (r : Pr) : prb (rs ++ [r]) = r.blk ++ prb rs := by simp [prb]
theorem prv_snoc (rs : List Pr) (r : Pr) : prv (rs ++ [r]) = prv rs ++ [.slice r.oa r.p.cs.length r.c, .bool r.p.inn, iv r.p.an, iv r.p.df] := by simp [prv]
theorem prv_len (rs : List Pr) : (prv rs).length = rs.length * 4 := by
  induction rs with
  | nil => rfl
  | cons r rs ih => simp only [prv, List.flatMap_cons, List.length_append, List.length_cons, List.length_nil] at ih ⊢; omega
def PrR (pts : List Pt) (v : Value) (blk : HS) : Prop := ∃ oa c rs bo, v = .slice oa rs.length c ∧ RowOk oa c 4 (prv rs) bo ∧ (∀ r ∈ rs, RowOk r.oa r.c 1 (ivs (nats r.p.cs)) r.blk) ∧ rs.map (·.p) = pts ∧ blk = bo ++ prb rs
structure PnI where
  i : Nat
  Ds : List Nat
  L : Mp
  oa : Option Addr
  c : Nat
  rs : List Pr
  bo : HS
structure PnJ where
  k : Nat
  L : Mp
  oa : Option Addr
  c : Nat
  k6 : HS
section
variable {n : NN} {B : Nat} {w1 : Wd} {fr : FR} {hs : HS}
theorem e_round {ι : Type} {C : ι → Prop} {V : ι → Wd} {H : ι → HS} (j : ι) (hC : C j) (hb : (V j).le w1) (hH : (H j).Sublist hs) : Sat n B w1 (onlyN (fun _ w => ∃ j, C j ∧ Hp B (V j) w (H j)) .normal) fr hs :=
  sat_mk fun _ _ _ hw => ⟨j, hC, (hw.sub hH).base hb⟩
theorem e_asg {F : FR} {V : Wd} {H : HS} (h : SubL F fr) (hb : V.le w1) (hH : H.Sublist hs) : Sat n B w1 (onlyN (fun a w => Fr n a F ∧ Hp B V w H) .normal) fr hs :=
  sat_mk fun _ _ ha hw => ⟨ha.sub h.sub, (hw.sub hH).base hb⟩
end
theorem o_lssF {P : Program} {n : NN} {B : Nat} {w0 : Wd} {fr : FR} {hs : HS} {ty t t' : TypeId} {x y : Operand} {a b : Int} (hx : opv fr x = some (iv a)) (hy : opv fr y = some (iv b)) (h : ¬ a < b) : OpF P n B w0 (.binOp .lss t x y t') ty fr hs (.bool false) := by
  have := o_lss (P := P) (n := n) (B := B) (w0 := w0) (hs := hs) (ty := ty) (t := t) (t' := t') hx hy
  rwa [decide_eq_false h] at this
def agF (ps : List Pc) (x : Nat) : Int := (pcA ps (pcG (sdF ps) ps.length x)).an.getD (x - fsN (sdF ps) (pcG (sdF ps) ps.length x)) 0
theorem agF_in {ps : List Pc} (hA : allOK ps.length (sdF ps) (anF ps)) {x : Nat} (hx : x < fsN (sdF ps) ps.length) : 0 ≤ agF ps x ∧ agF ps x ≤ 359 := by
  obtain ⟨_, h1, h2, h3⟩ := sdx hx
  have e : (sdF ps (pcG (sdF ps) ps.length x)).length = (pcA ps (pcG (sdF ps) ps.length x)).sd.length := rfl
  have := ((hA _ h1).2.2.1 (x - fsN (sdF ps) (pcG (sdF ps) ps.length x)) (by omega)).2
  unfold anF at this
  unfold agF
  omega
theorem nats_take {l : List Nat} {j x : Nat} (h : l[j]? = some x) : ivs (nats (l.take (j + 1))) = ivs (nats (l.take j)) ++ [iv (x : Int)] := by rw [take_snoc h, nats_snoc]
theorem asum_take (ag : Nat → Int) {l : List Nat} {j x : Nat} (h : l[j]? = some x) : asum ag (l.take (j + 1)) = asum ag (l.take j) + ag x := by rw [take_snoc h, asum_app]; simp [asum]
set_option maxRecDepth 100000 in
set_option maxHeartbeats 8000000 in
theorem k_points (s : Sw) (ps : List Pc) (mu : Nat → Nat) (hN : fsN (sdF ps) ps.length ≤ 48) (hA : allOK ps.length (sdF ps) (anF ps)) (hNet : NetN (fsN (sdF ps) ps.length) (nxN (sdF ps) ps.length) (pvN (sdF ps) ps.length) mu) (B : Nat) (w0 : Wd) (hs : HS) (hS : SewAt B w0 hs s ps mu) :
    Fn Tryz.prog 23 #[.pointer (some ⟨s.b, 0, none⟩)] B w0 hs (fun v h => ∃ blk, PrR (ptsL (fsN (sdF ps) ps.length) (nxN (sdF ps) ps.length) mu (agF ps) (fsN (sdF ps) ps.length)) v blk ∧ h = blk ++ hs) := by
  have hmt : ∀ {x : Nat}, mu x ≠ x → mtF mu x = (mu x : Int) := fun h => if_neg h
  have hmf : ∀ {x : Nat}, mu x = x → mtF mu x = -1 := fun h => if_pos h
  have hll : ∀ i, i < ps.length → (pcA ps i).an.length = (pcA ps i).sd.length := fun i hi => (hA i hi).2.1
  have kt := fun (W : Wd) (hle : w0.le W) x (hx : x < fsN (sdF ps) ps.length) hs' (h : hs.Sublist hs') => k_turned2 s ps mu x hN hx B W hs' ((hS.base hle).sub h)
  have ka : ∀ (W : Wd) (hle : w0.le W) x (hx : x < fsN (sdF ps) ps.length) hs' (h : hs.Sublist hs'), Fn Tryz.prog 43 #[.pointer (some ⟨s.b, 0, none⟩), iv x] B W hs' (fun v h => v = iv (agF ps x) ∧ h = hs') := fun W hle x hx hs' h => k_angle s ps mu x hN hx hll B W hs' ((hS.base hle).sub h)
  have hme := fun hs' (h : hs.Sublist hs') => hS.me' h
  have hcl := fun (W : Wd) (hle : w0.le W) x (hx : x < fsN (sdF ps) ps.length) hs' (h : hs.Sublist hs') => (hS.base hle).mt h hx
  have hag := fun x (hx : x < fsN (sdF ps) ps.length) => agF_in hA hx
  have kit := fun c (hc : c < fsN (sdF ps) ps.length) k m cl hw b2 b3 => k_iter s ps mu hN hNet c hc k m cl hw B b2 b3
  have hs3 := fun x (hx : x < fsN (sdF ps) ps.length) => hS.s3 hx
  generalize agF ps = ag at *
  generalize hn : fsN (sdF ps) ps.length = n at *
  generalize hnx : nxN (sdF ps) ps.length = nx at *
  generalize hpv : pvN (sdF ps) ps.length = pv at *
  refine fn_enterG Tryz.func23 rfl Tryz.ntmps23 (by simp) ?_
  repeat' (first | ((with_reducible apply kP (.box 57 _)); refine sB (fun b1 => ?_)) | ((with_reducible apply kP (.alloc 82)); refine s_alloc (z := [.map none]) z109 (by first | decide | exact ltd rfl) (fun b4 => ?_)) | ((with_reducible apply kN); refine s_store1 rfl rfl rfl rfl sh109 (.head _) (Nat.zero_lt_succ _) ?_) | ((with_reducible apply kP (.makeMap _ _)); refine s_makeMap false (by first | decide | exact ltd rfl) (fun mp => ?_)) | ((with_reducible apply kP (.load 35 _)); refine sP ?_ (o_load rfl (ld_one (shTOf rfl) (own (hme _ SBt) rfl)))) | ((with_reducible apply kDP (.load 35 _)); refine dP ?_ (hX := rfl) (hv := o_load rfl (ld_one (shTOf rfl) (own (hme _ SBt) rfl)))) | ((with_reducible apply kQO (.load 35 _)); refine qP ?_ (o_load rfl (ld_one (shTOf rfl) (own (hme _ SBt) rfl)))) | (with_reducible first | refine g_seq ?_ | refine g_block ?_ | refine g_skip ?_ | refine g_exit ?_ | refine g_ret ?_ | refine si_nil ?_) | ((with_reducible apply kGD 12); refine g_drawn [0, 0, 1, 1, 3, 1, 1, 4] _ (List.Sublist.refl _) mixed (by kernel_rfl) (by rfl) ?_) | ((with_reducible apply kGD 13); refine g_drawn [1, 1, 1, 1, 1, 1, 1, 1, 1, 0, 0, 0, 0, 1, 1, 3, 1, 1, 1, 1] _ (List.Sublist.refl _) mixed (by kernel_rfl) (by rfl) ?_) | ((with_reducible apply gCI); first | refine gT ?_ | refine gF ?_ | (refine gI (fun h => ?_) (fun h => ?_) <;> (try (exfalso; omega))) | refine gBB (fun h => ?_) (fun h => ?_)) | ((with_reducible apply gRI); refine g_quiet mixed (by kernel_rfl) (by rfl) ?_) | (refine g_region ?_) | ((with_reducible apply kYo _); refine si_one rfl ?_) | ((with_reducible apply kRg 12); refine cD [0, 0, 1, 1, 3, 1, 1, 4] ?_) | ((with_reducible apply kRg 13); refine cD [1, 1, 1, 1, 1, 1, 1, 1, 1, 0, 0, 0, 0, 1, 1, 3, 1, 1, 1, 1] ?_) | (with_reducible first | refine c_seq ?_ | refine c_reg ?_ | refine c_region ?_ | refine c_block ?_ | refine c_skip ?_ | refine c_exit ?_ | refine c_ret ?_ | refine s_nil ?_ | refine x_then ?_ | refine x_then_exit ?_ | refine x_then_ret ?_ | refine x_block ?_ | refine x_block_ret ?_ | refine x_block_same ?_ | refine x_block_other (by first | rfl | decide) ?_ | refine q_nil ?_ | refine k_nil ?_) | ((with_reducible apply kN); first | refine stP ?_ | refine stI ?_ | refine st1 ?_ | refine stW ?_) | ((with_reducible apply kP (.alloc _)); refine sA (fun b => ?_)) | ((with_reducible apply kP (.box _ _)); first | refine sBA (fun b => ?_) | refine sB (fun b => ?_)) | ((with_reducible apply kP (.buildSlice _ 1 _)); first | refine sl1A (fun b => ?_) | refine sl1 (fun b => ?_)) | ((with_reducible apply kP (.call ⟨.builtin .append, _, _⟩)); refine sAp (fun oa2 c2 blk2 hrow2 => ?_)) | ((with_reducible apply kP _); refine sP ?_) | ((with_reducible apply kP _); refine sX ?_) | ((with_reducible apply kC); first | refine cT ?_ | refine cF ?_ | (refine cI (fun h => ?_) (fun h => ?_) <;> (try (exfalso; omega))) | refine cB (fun h => ?_) (fun h => ?_)) | ((with_reducible apply kDG); first | refine dY1 ?_ | refine dNo1 ?_ | refine dU1 ?_ | (refine dD1 (fun h => ?_) (fun h => ?_) <;> (try (exfalso; omega))) | refine dB1 (fun h => ?_) (fun h => ?_)) | ((with_reducible apply kDN); first | refine dtI ?_ | refine dt1 ?_ | refine dtW ?_) | ((with_reducible apply kDP _); refine dP ?_) | ((with_reducible apply kDP _); refine dX ?_))
  refine g_loop (fun t : PnI => t.Ds.map mkD) (fun t : PnI => ⟨w0.w, mks t.Ds ((mp, mapO false t.L) :: w0.ms)⟩) (fun t : PnI => [(1, .pointer (some ⟨b1, 0, none⟩)), (3, .slice t.oa t.rs.length t.c), (4, .pointer (some ⟨b4, 0, none⟩)), (13, iv n), (14, iv t.i)]) (fun t => t.bo ++ (prb t.rs ++ ((b4, [.map (some mp)]) :: (b1, [.pointer (some ⟨s.b, 0, none⟩)]) :: hs)))
    (fun t => t.i ≤ n ∧ SnM 1 (fun x => ∃ y : Nat, x = [((y : Nat) : Int)] ∧ seen2 n nx mu t.i y) t.L ∧ RowOk t.oa t.c 4 (prv t.rs) t.bo ∧ (∀ r ∈ t.rs, RowOk r.oa r.c 1 (ivs (nats r.p.cs)) r.blk) ∧ t.rs.map (·.p) = ptsL n nx mu ag t.i ∧ t.rs.length ≤ t.i)
    (fun t => n - t.i) ⟨0, [], [], none, 0, [], []⟩ ⟨Nat.zero_le _, SnM.nil 1 (fun x => by rintro ⟨y, _, _, j, hj, _⟩; exact absurd hj (Nat.not_lt_zero _)), RowOk.nil, fun r hr => (by cases hr), rfl, Nat.le_refl _⟩ rfl (.refl _) (by repeat' first | trivial | rfl | apply And.intro) (.refl _) ?_
  rintro ⟨i, Ds, L, oa, c, rs, bo⟩ ⟨hi, hSn, hro, hrr, hrl, hrc⟩
  dsimp only at hi hSn hro hrr hrl hrc ⊢
  have hle : ∀ (Ds : List Nat) (L : Mp), w0.le ⟨w0.w, mks Ds ((mp, mapO false L) :: w0.ms)⟩ := fun Ds L => ⟨rfl, (List.Sublist.cons _ (.refl _)).trans (mks_sub _ _)⟩
  by_cases hi' : i < n
  · have look : ∀ (y : Nat) (S : Nat → Prop) (L : Mp), SnM 1 (fun x => ∃ y : Nat, x = [((y : Nat) : Int)] ∧ S y) L → ∀ b : Bool, (b = true ↔ S y) → lkp L [(y : Int)] (.bool false) = .bool b := fun y S L h b hb => h.look _ (by
      rw [hb]
      constructor
      · exact fun h => ⟨y, rfl, h⟩
      · rintro ⟨z, hz, h⟩
        have : (y : Int) = (z : Int) := by simpa using hz
        rwa [show y = z by omega])
    have hmem : (mp, mapO false L) ∈ mks Ds ((mp, mapO false L) :: w0.ms) := (mks_sub _ _).subset (.head _)
    by_cases hfst : ptF n nx mu i = true
    · have hl0 := look i _ L hSn false (by simp only [Bool.false_eq_true, false_iff]; exact (seen2_fst hi').1 hfst)
      obtain ⟨k, m, cl, hw⟩ := hNet.way hi'
      have kr := fun W hs' => k_around s i B W hs'
      repeat' (first | ((with_reducible apply kP (.load 82 _)); refine sP ?_ (o_load rfl (ld_one sh109 (own MMt rfl)))) | ((with_reducible apply kDP (.load 82 _)); refine dP ?_ (hX := rfl) (hv := o_load rfl (ld_one sh109 (own MMt rfl)))) | ((with_reducible apply kQO (.load 82 _)); refine qP ?_ (o_load rfl (ld_one sh109 (own MMt rfl)))) | ((with_reducible apply kP (.lookup _ _ _ _)); refine sP ?_ (hl0 ▸ o_lookup (x := [(i : Int)]) mp109 rfl rfl hmem rfl hSn.len)) | ((with_reducible apply kP (.load 57 _)); refine sP ?_ (o_load rfl (ld_one (shTOf rfl) (own MMt rfl)))) | ((with_reducible apply kDP (.load 57 _)); refine dP ?_ (hX := rfl) (hv := o_load rfl (ld_one (shTOf rfl) (own MMt rfl)))) | ((with_reducible apply kQO (.load 57 _)); refine qP ?_ (o_load rfl (ld_one (shTOf rfl) (own MMt rfl)))) | ((with_reducible apply kP (.build 84 _)); refine sP ?_ (o_build (out := [.slice none 0 0, .bool true, iv 0, iv 0]) rfl (zcTOf rfl) (plTOf rfl) rfl)) | ((with_reducible apply kDP (.build 84 _)); refine dP ?_ (hX := rfl) (hv := o_build (out := [.slice none 0 0, .bool true, iv 0, iv 0]) rfl (zcTOf rfl) (plTOf rfl) rfl)) | ((with_reducible apply kQO (.build 84 _)); refine qP ?_ (o_build (out := [.slice none 0 0, .bool true, iv 0, iv 0]) rfl (zcTOf rfl) (plTOf rfl) rfl)) | ((with_reducible apply kP (.alloc 84)); refine sA (fun b6 => ?_)) | ((with_reducible apply kN); refine stW ?_ (hf := flat_cons rfl (flat_cons rfl (flat_cons rfl (flat1 rfl))))) | ((with_reducible apply kF 42); refine sR 42 (kr _ _) ?_; rintro v7 h7 ⟨blk7, ⟨b2, b3, rfl, rfl⟩, rfl⟩) | (with_reducible first | refine g_seq ?_ | refine g_block ?_ | refine g_skip ?_ | refine g_exit ?_ | refine g_ret ?_ | refine si_nil ?_) | ((with_reducible apply kGD 12); refine g_drawn [0, 0, 1, 1, 3, 1, 1, 4] _ (List.Sublist.refl _) mixed (by kernel_rfl) (by rfl) ?_) | ((with_reducible apply kGD 13); refine g_drawn [1, 1, 1, 1, 1, 1, 1, 1, 1, 0, 0, 0, 0, 1, 1, 3, 1, 1, 1, 1] _ (List.Sublist.refl _) mixed (by kernel_rfl) (by rfl) ?_) | ((with_reducible apply gCI); first | refine gT ?_ | refine gF ?_ | (refine gI (fun h => ?_) (fun h => ?_) <;> (try (exfalso; omega))) | refine gBB (fun h => ?_) (fun h => ?_)) | ((with_reducible apply gRI); refine g_quiet mixed (by kernel_rfl) (by rfl) ?_) | (refine g_region ?_) | ((with_reducible apply kYo _); refine si_one rfl ?_) | ((with_reducible apply kRg 12); refine cD [0, 0, 1, 1, 3, 1, 1, 4] ?_) | ((with_reducible apply kRg 13); refine cD [1, 1, 1, 1, 1, 1, 1, 1, 1, 0, 0, 0, 0, 1, 1, 3, 1, 1, 1, 1] ?_) | (with_reducible first | refine c_seq ?_ | refine c_reg ?_ | refine c_region ?_ | refine c_block ?_ | refine c_skip ?_ | refine c_exit ?_ | refine c_ret ?_ | refine s_nil ?_ | refine x_then ?_ | refine x_then_exit ?_ | refine x_then_ret ?_ | refine x_block ?_ | refine x_block_ret ?_ | refine x_block_same ?_ | refine x_block_other (by first | rfl | decide) ?_ | refine q_nil ?_ | refine k_nil ?_) | ((with_reducible apply kN); first | refine stP ?_ | refine stI ?_ | refine st1 ?_ | refine stW ?_) | ((with_reducible apply kP (.alloc _)); refine sA (fun b => ?_)) | ((with_reducible apply kP (.box _ _)); first | refine sBA (fun b => ?_) | refine sB (fun b => ?_)) | ((with_reducible apply kP (.buildSlice _ 1 _)); first | refine sl1A (fun b => ?_) | refine sl1 (fun b => ?_)) | ((with_reducible apply kP (.call ⟨.builtin .append, _, _⟩)); refine sAp (fun oa2 c2 blk2 hrow2 => ?_)) | ((with_reducible apply kP _); refine sP ?_) | ((with_reducible apply kP _); refine sX ?_) | ((with_reducible apply kC); first | refine cT ?_ | refine cF ?_ | (refine cI (fun h => ?_) (fun h => ?_) <;> (try (exfalso; omega))) | refine cB (fun h => ?_) (fun h => ?_)) | ((with_reducible apply kDG); first | refine dY1 ?_ | refine dNo1 ?_ | refine dU1 ?_ | (refine dD1 (fun h => ?_) (fun h => ?_) <;> (try (exfalso; omega))) | refine dB1 (fun h => ?_) (fun h => ?_)) | ((with_reducible apply kDN); first | refine dtI ?_ | refine dt1 ?_ | refine dtW ?_) | ((with_reducible apply kDP _); refine dP ?_) | ((with_reducible apply kDP _); refine dX ?_))
      dsimp only [List.cons_append, List.nil_append]
      have hlt := fun x (hx : x ∈ wayL nx pv mu i k m) => hw.lt hNet hi' hx
      have hlen := hw.len hNet hi'
      have hseen := fun y => seen2_yes hw hNet hi' y
      have hit := kit i hi' k m cl hw b2 b3
      have hcls := hw.cls hNet hi'
      have hsrt := fun l => hw.sorted (l := l) hNet hi'
      have hinn := hw.inn hNet hi'
      have hasm := hw.asum (ag := ag) hNet hi'
      have h0x : i ∈ wayL nx pv mu i k m := mem_wayL.2 (.inl ⟨0, Nat.zero_le _, rfl⟩)
      generalize hxs : wayL nx pv mu i k m = xs at *
      have hin := asum_in (ag := ag) (l := xs) (fun x hx => hag x (hlt x hx))
      refine g_range rfl (goF rfl) hit (by first | decide | exact ltd rfl) (fun t : PnJ => ⟨w0.w, mks Ds ((mp, mapO false t.L) :: w0.ms)⟩)
        (fun t : PnJ => t.k6 ++ ((b3, [iv i]) :: (b2, [.pointer (some ⟨s.b, 0, none⟩)]) :: (b6, [.slice t.oa t.k t.c, .bool (innT pv mu (xs.take t.k)), iv (asum ag (xs.take t.k)), iv 0]) :: (bo ++ (prb rs ++ ((b4, [.map (some mp)]) :: (b1, [.pointer (some ⟨s.b, 0, none⟩)]) :: hs)))))
        (fun j t => t.k = j ∧ j ≤ xs.length ∧ SnM 1 (fun x => ∃ y : Nat, x = [((y : Nat) : Int)] ∧ (seen2 n nx mu i y ∨ y ∈ xs.take j)) t.L ∧ RowOk t.oa t.c 1 (ivs (nats (xs.take j))) t.k6)
        (fun v => [(7, v), (1, .pointer (some ⟨b1, 0, none⟩)), (4, .pointer (some ⟨b4, 0, none⟩)), (6, .pointer (some ⟨b6, 0, none⟩))])
        ⟨0, L, none, 0, []⟩ ⟨rfl, Nat.zero_le _, ⟨hSn.len, hSn.yes, fun x => by rw [hSn.mem x]; exact ⟨fun ⟨y, e, h⟩ => ⟨y, e, .inl h⟩, fun ⟨y, e, h⟩ => ⟨y, e, h.resolve_right (by simp)⟩⟩⟩, by dsimp only; rw [List.take_zero]; exact RowOk.nil⟩ (.refl _) (by dsimp only; rw [List.take_zero]; exact List.Sublist.refl _) ?_ ?_ ?_ ?_
      · rintro j ⟨j', L1, oa1, c1, k6⟩ _ W' hW'
        exact ⟨(hS.base (le_tr (hle Ds L1) hW')).sub SBt, MMt, MMt⟩
      · intro j t v hv hC l D o
        repeat' (first | (with_reducible first | refine g_seq ?_ | refine g_block ?_ | refine g_skip ?_ | refine g_exit ?_ | refine g_ret ?_ | refine si_nil ?_) | ((with_reducible apply kGD 12); refine g_drawn [0, 0, 1, 1, 3, 1, 1, 4] _ (List.Sublist.refl _) mixed (by kernel_rfl) (by rfl) ?_) | ((with_reducible apply kGD 13); refine g_drawn [1, 1, 1, 1, 1, 1, 1, 1, 1, 0, 0, 0, 0, 1, 1, 3, 1, 1, 1, 1] _ (List.Sublist.refl _) mixed (by kernel_rfl) (by rfl) ?_) | ((with_reducible apply gCI); first | refine gT ?_ | refine gF ?_ | (refine gI (fun h => ?_) (fun h => ?_) <;> (try (exfalso; omega))) | refine gBB (fun h => ?_) (fun h => ?_)) | ((with_reducible apply gRI); refine g_quiet mixed (by kernel_rfl) (by rfl) ?_) | (refine g_region ?_) | ((with_reducible apply kYo _); refine si_one rfl ?_) | ((with_reducible apply kRg 12); refine cD [0, 0, 1, 1, 3, 1, 1, 4] ?_) | ((with_reducible apply kRg 13); refine cD [1, 1, 1, 1, 1, 1, 1, 1, 1, 0, 0, 0, 0, 1, 1, 3, 1, 1, 1, 1] ?_) | (with_reducible first | refine c_seq ?_ | refine c_reg ?_ | refine c_region ?_ | refine c_block ?_ | refine c_skip ?_ | refine c_exit ?_ | refine c_ret ?_ | refine s_nil ?_ | refine x_then ?_ | refine x_then_exit ?_ | refine x_then_ret ?_ | refine x_block ?_ | refine x_block_ret ?_ | refine x_block_same ?_ | refine x_block_other (by first | rfl | decide) ?_ | refine q_nil ?_ | refine k_nil ?_) | ((with_reducible apply kN); first | refine stP ?_ | refine stI ?_ | refine st1 ?_ | refine stW ?_) | ((with_reducible apply kP (.alloc _)); refine sA (fun b => ?_)) | ((with_reducible apply kP (.box _ _)); first | refine sBA (fun b => ?_) | refine sB (fun b => ?_)) | ((with_reducible apply kP (.buildSlice _ 1 _)); first | refine sl1A (fun b => ?_) | refine sl1 (fun b => ?_)) | ((with_reducible apply kP (.call ⟨.builtin .append, _, _⟩)); refine sAp (fun oa2 c2 blk2 hrow2 => ?_)) | ((with_reducible apply kP _); refine sP ?_) | ((with_reducible apply kP _); refine sX ?_) | ((with_reducible apply kC); first | refine cT ?_ | refine cF ?_ | (refine cI (fun h => ?_) (fun h => ?_) <;> (try (exfalso; omega))) | refine cB (fun h => ?_) (fun h => ?_)) | ((with_reducible apply kDG); first | refine dY1 ?_ | refine dNo1 ?_ | refine dU1 ?_ | (refine dD1 (fun h => ?_) (fun h => ?_) <;> (try (exfalso; omega))) | refine dB1 (fun h => ?_) (fun h => ?_)) | ((with_reducible apply kDN); first | refine dtI ?_ | refine dt1 ?_ | refine dtW ?_) | ((with_reducible apply kDP _); refine dP ?_) | ((with_reducible apply kDP _); refine dX ?_))
        exact e_asg (by repeat' first | trivial | rfl | apply And.intro) (.refl _) (.refl _)
      · rintro j ⟨j', L1, oa1, c1, k6⟩ v hv ⟨rfl, hj, hSj, hr6⟩ l D o
        dsimp only at hj hSj hr6 ⊢
        obtain ⟨x, hx, rfl⟩ : ∃ x, xs[j']? = some x ∧ v = iv ((x : Nat) : Int) := by
          rw [List.getElem?_map] at hv
          cases hx : xs[j']? with
          | none => rw [hx] at hv; cases hv
          | some x => rw [hx] at hv; exact ⟨x, rfl, by simpa using hv.symm⟩
        have hjl : j' < xs.length := (List.getElem?_eq_some_iff.1 hx).1
        have hxm := List.mem_of_getElem? hx
        have hxn := hlt x hxm
        have hpn := hNet.pl x hxn
        have hl6 : (ivs (nats (xs.take j'))).length = j' * 1 := by rw [ivs_length, nats_len, List.length_take]; omega
        have hagx := hag x hxn
        have hsum := asum_in (ag := ag) (l := xs.take j') (fun y hy => hag y (hlt y (List.mem_of_mem_take hy)))
        rw [List.length_take, Nat.min_eq_left hj] at hsum
        have hS2 : SnM 1 (fun z => ∃ y : Nat, z = [((y : Nat) : Int)] ∧ (seen2 n nx mu i y ∨ y ∈ xs.take (j' + 1))) (mset L1 [(x : Int)] (.bool true)) := hSj.step rfl (fun z => by
          rw [take_snoc hx]
          constructor
          · rintro ⟨y, e, h | h⟩
            · exact .inl ⟨y, e, .inl h⟩
            · rcases List.mem_append.1 h with h | h
              · exact .inl ⟨y, e, .inr h⟩
              · rw [List.mem_singleton] at h; exact .inr (by rw [e, h])
          · rintro (⟨y, e, h | h⟩ | e)
            · exact ⟨y, e, .inl h⟩
            · exact ⟨y, e, .inr (List.mem_append_left _ h)⟩
            · exact ⟨_, e, .inr (List.mem_append_right _ (List.mem_singleton.2 rfl))⟩)
        have htk := nats_take hx
        have hat := asum_take ag hx
        have hit' := innT_snoc pv mu (xs.take j') x
        rw [← take_snoc hx] at hit'
        have hlw : ∀ L, w0.le ⟨w0.w, (l, o) :: (D, .deferred (some [])) :: mks Ds ((mp, mapO false L) :: w0.ms)⟩ := fun L => ⟨rfl, .cons _ (.cons _ (hle Ds L).2)⟩
        have hup : ∀ L L', UpdM mp (mapO false L) (mapO false L') ((l, o) :: (D, .deferred (some [])) :: mks Ds ((mp, mapO false L) :: w0.ms)) ((l, o) :: (D, .deferred (some [])) :: mks Ds ((mp, mapO false L') :: w0.ms)) := fun L L' => .tail _ (.tail _ (UpdM.app (.head _) _))
        have i3 := hs3 x hxn
        have ktx := fun hs' h => kt _ (hlw (mset L1 [(x : Int)] (.bool true))) x hxn hs' h
        have kax := fun hs' h => ka _ (hlw (mset L1 [(x : Int)] (.bool true))) x hxn hs' h
        have hcx := fun hs' h => hcl _ (hlw (mset L1 [(x : Int)] (.bool true))) x hxn hs' h
        have hcp := fun hs' h => hcl _ (hlw (mset L1 [(x : Int)] (.bool true))) _ hpn hs' h
        generalize innT pv mu (xs.take j') = inn at *
        generalize asum ag (xs.take j') = sm at *
        by_cases hf : mu x = x
        · have hiv : innT pv mu (xs.take (j' + 1)) = false := by rw [hit']; simp [hf]
          rw [hmf hf] at hcx
          rw [hiv] at hit'
          clear hcp kr kit hseen hsrt hcls hinn hasm hlt hag hs3 kt ka hcl look hle hll hw hNet hmt hmf hlw hro hrr hrl
          repeat' (first | ((with_reducible apply kP (.load 82 _)); refine sP ?_ (o_load rfl (ld_one sh109 (own MMt rfl)))) | ((with_reducible apply kDP (.load 82 _)); refine dP ?_ (hX := rfl) (hv := o_load rfl (ld_one sh109 (own MMt rfl)))) | ((with_reducible apply kQO (.load 82 _)); refine qP ?_ (o_load rfl (ld_one sh109 (own MMt rfl)))) | ((with_reducible apply kN); refine s_mapUpdate (x := [(x : Int)]) (v := .bool true) mp109 rfl rfl rfl rfl hSj.len (hup _ _) ?_) | ((with_reducible apply kP (.call ⟨.builtin .append, _, _⟩)); refine sAp (fun oa7 c7 k7 hr7 => ?_) (hr := hr6) (hk := hl6)) | ((with_reducible apply kN); refine stC ?_) | ((with_reducible apply kP (.load 57 _)); refine sP ?_ (o_load rfl (ld_one (shTOf rfl) (own MMt rfl)))) | ((with_reducible apply kDP (.load 57 _)); refine dP ?_ (hX := rfl) (hv := o_load rfl (ld_one (shTOf rfl) (own MMt rfl)))) | ((with_reducible apply kQO (.load 57 _)); refine qP ?_ (o_load rfl (ld_one (shTOf rfl) (own MMt rfl)))) | ((with_reducible apply kP (.load 35 (.tmp 42))); refine sP ?_ (o_load rfl (ld_one (shTOf rfl) (own (hme _ SBt) rfl)))) | ((with_reducible apply kDP (.load 35 (.tmp 42))); refine dP ?_ (hX := rfl) (hv := o_load rfl (ld_one (shTOf rfl) (own (hme _ SBt) rfl)))) | ((with_reducible apply kQO (.load 35 (.tmp 42))); refine qP ?_ (o_load rfl (ld_one (shTOf rfl) (own (hme _ SBt) rfl)))) | ((with_reducible apply kP (.load 35 (.tmp 51))); refine sP ?_ (o_load rfl (ld_one (shTOf rfl) (own (hme _ SBt) rfl)))) | ((with_reducible apply kDP (.load 35 (.tmp 51))); refine dP ?_ (hX := rfl) (hv := o_load rfl (ld_one (shTOf rfl) (own (hme _ SBt) rfl)))) | ((with_reducible apply kQO (.load 35 (.tmp 51))); refine qP ?_ (o_load rfl (ld_one (shTOf rfl) (own (hme _ SBt) rfl)))) | ((with_reducible apply kP (.load 35 (.tmp 27))); refine sP ?_ (o_load rfl (ld_one (shTOf rfl) (own MMt rfl)))) | ((with_reducible apply kDP (.load 35 (.tmp 27))); refine dP ?_ (hX := rfl) (hv := o_load rfl (ld_one (shTOf rfl) (own MMt rfl)))) | ((with_reducible apply kQO (.load 35 (.tmp 27))); refine qP ?_ (o_load rfl (ld_one (shTOf rfl) (own MMt rfl)))) | ((with_reducible apply kP (.load 3 (.tmp 33))); refine sP ?_ (o_load rfl (ld_one (shTOf rfl) (own MMt rfl)))) | ((with_reducible apply kDP (.load 3 (.tmp 33))); refine dP ?_ (hX := rfl) (hv := o_load rfl (ld_one (shTOf rfl) (own MMt rfl)))) | ((with_reducible apply kQO (.load 3 (.tmp 33))); refine qP ?_ (o_load rfl (ld_one (shTOf rfl) (own MMt rfl)))) | ((with_reducible apply kP (.load 3 (.tmp 45))); refine sP ?_ (o_load rfl (ld_one (shTOf rfl) (hcx _ SBt)))) | ((with_reducible apply kDP (.load 3 (.tmp 45))); refine dP ?_ (hX := rfl) (hv := o_load rfl (ld_one (shTOf rfl) (hcx _ SBt)))) | ((with_reducible apply kQO (.load 3 (.tmp 45))); refine qP ?_ (o_load rfl (ld_one (shTOf rfl) (hcx _ SBt)))) | ((with_reducible apply kDF 43); refine dC 43 (fun F => kax _ SBt) ?_) | ((with_reducible apply kDF 44); refine dC 44 (fun F => ktx _ SBt) ?_) | ((with_reducible apply kDN); refine dtC ?_) | (with_reducible first | refine g_seq ?_ | refine g_block ?_ | refine g_skip ?_ | refine g_exit ?_ | refine g_ret ?_ | refine si_nil ?_) | ((with_reducible apply kGD 12); refine g_drawn [0, 0, 1, 1, 3, 1, 1, 4] _ (List.Sublist.refl _) mixed (by kernel_rfl) (by rfl) ?_) | ((with_reducible apply kGD 13); refine g_drawn [1, 1, 1, 1, 1, 1, 1, 1, 1, 0, 0, 0, 0, 1, 1, 3, 1, 1, 1, 1] _ (List.Sublist.refl _) mixed (by kernel_rfl) (by rfl) ?_) | ((with_reducible apply gCI); first | refine gT ?_ | refine gF ?_ | (refine gI (fun h => ?_) (fun h => ?_) <;> (try (exfalso; omega))) | refine gBB (fun h => ?_) (fun h => ?_)) | ((with_reducible apply gRI); refine g_quiet mixed (by kernel_rfl) (by rfl) ?_) | (refine g_region ?_) | ((with_reducible apply kYo _); refine si_one rfl ?_) | ((with_reducible apply kRg 12); refine cD [0, 0, 1, 1, 3, 1, 1, 4] ?_) | ((with_reducible apply kRg 13); refine cD [1, 1, 1, 1, 1, 1, 1, 1, 1, 0, 0, 0, 0, 1, 1, 3, 1, 1, 1, 1] ?_) | (with_reducible first | refine c_seq ?_ | refine c_reg ?_ | refine c_region ?_ | refine c_block ?_ | refine c_skip ?_ | refine c_exit ?_ | refine c_ret ?_ | refine s_nil ?_ | refine x_then ?_ | refine x_then_exit ?_ | refine x_then_ret ?_ | refine x_block ?_ | refine x_block_ret ?_ | refine x_block_same ?_ | refine x_block_other (by first | rfl | decide) ?_ | refine q_nil ?_ | refine k_nil ?_) | ((with_reducible apply kN); first | refine stP ?_ | refine stI ?_ | refine st1 ?_ | refine stW ?_) | ((with_reducible apply kP (.alloc _)); refine sA (fun b => ?_)) | ((with_reducible apply kP (.box _ _)); first | refine sBA (fun b => ?_) | refine sB (fun b => ?_)) | ((with_reducible apply kP (.buildSlice _ 1 _)); first | refine sl1A (fun b => ?_) | refine sl1 (fun b => ?_)) | ((with_reducible apply kP (.call ⟨.builtin .append, _, _⟩)); refine sAp (fun oa2 c2 blk2 hrow2 => ?_)) | ((with_reducible apply kP _); refine sP ?_) | ((with_reducible apply kP _); refine sX ?_) | ((with_reducible apply kC); first | refine cT ?_ | refine cF ?_ | (refine cI (fun h => ?_) (fun h => ?_) <;> (try (exfalso; omega))) | refine cB (fun h => ?_) (fun h => ?_)) | ((with_reducible apply kDG); first | refine dY1 ?_ | refine dNo1 ?_ | refine dU1 ?_ | (refine dD1 (fun h => ?_) (fun h => ?_) <;> (try (exfalso; omega))) | refine dB1 (fun h => ?_) (fun h => ?_)) | ((with_reducible apply kDN); first | refine dtI ?_ | refine dt1 ?_ | refine dtW ?_) | ((with_reducible apply kDP _); refine dP ?_) | ((with_reducible apply kDP _); refine dX ?_))
          have hr7' : RowOk oa7 c7 1 (ivs (nats (xs.take (j' + 1)))) k7 := by rw [htk]; exact hr7
          first
            | exact e_round (⟨j' + 1, mset L1 [(x : Int)] (.bool true), oa7, c7, k7⟩ : PnJ) ⟨rfl, hjl, hS2, hr7'⟩ (.refl _) (by dsimp only; rw [hat, hiv]; exact .append (.refl _) (.cons _ (.refl _)))
            | trace_state
        · rw [hmt hf] at hcx
          by_cases hg : mu (pv x) = pv x
          · have hiv : innT pv mu (xs.take (j' + 1)) = false := by rw [hit']; simp [hg]
            rw [hmf hg] at hcp
            clear kr kit hseen hsrt hcls hinn hasm hlt hag hs3 kt ka hcl look hle hll hw hNet hmt hmf hlw hro hrr hrl
            repeat' (first | ((with_reducible apply kP (.load 82 _)); refine sP ?_ (o_load rfl (ld_one sh109 (own MMt rfl)))) | ((with_reducible apply kDP (.load 82 _)); refine dP ?_ (hX := rfl) (hv := o_load rfl (ld_one sh109 (own MMt rfl)))) | ((with_reducible apply kQO (.load 82 _)); refine qP ?_ (o_load rfl (ld_one sh109 (own MMt rfl)))) | ((with_reducible apply kN); refine s_mapUpdate (x := [(x : Int)]) (v := .bool true) mp109 rfl rfl rfl rfl hSj.len (hup _ _) ?_) | ((with_reducible apply kP (.call ⟨.builtin .append, _, _⟩)); refine sAp (fun oa7 c7 k7 hr7 => ?_) (hr := hr6) (hk := hl6)) | ((with_reducible apply kN); refine stC ?_) | ((with_reducible apply kP (.load 57 _)); refine sP ?_ (o_load rfl (ld_one (shTOf rfl) (own MMt rfl)))) | ((with_reducible apply kDP (.load 57 _)); refine dP ?_ (hX := rfl) (hv := o_load rfl (ld_one (shTOf rfl) (own MMt rfl)))) | ((with_reducible apply kQO (.load 57 _)); refine qP ?_ (o_load rfl (ld_one (shTOf rfl) (own MMt rfl)))) | ((with_reducible apply kP (.load 35 (.tmp 42))); refine sP ?_ (o_load rfl (ld_one (shTOf rfl) (own (hme _ SBt) rfl)))) | ((with_reducible apply kDP (.load 35 (.tmp 42))); refine dP ?_ (hX := rfl) (hv := o_load rfl (ld_one (shTOf rfl) (own (hme _ SBt) rfl)))) | ((with_reducible apply kQO (.load 35 (.tmp 42))); refine qP ?_ (o_load rfl (ld_one (shTOf rfl) (own (hme _ SBt) rfl)))) | ((with_reducible apply kP (.load 35 (.tmp 51))); refine sP ?_ (o_load rfl (ld_one (shTOf rfl) (own (hme _ SBt) rfl)))) | ((with_reducible apply kDP (.load 35 (.tmp 51))); refine dP ?_ (hX := rfl) (hv := o_load rfl (ld_one (shTOf rfl) (own (hme _ SBt) rfl)))) | ((with_reducible apply kQO (.load 35 (.tmp 51))); refine qP ?_ (o_load rfl (ld_one (shTOf rfl) (own (hme _ SBt) rfl)))) | ((with_reducible apply kP (.load 35 (.tmp 27))); refine sP ?_ (o_load rfl (ld_one (shTOf rfl) (own MMt rfl)))) | ((with_reducible apply kDP (.load 35 (.tmp 27))); refine dP ?_ (hX := rfl) (hv := o_load rfl (ld_one (shTOf rfl) (own MMt rfl)))) | ((with_reducible apply kQO (.load 35 (.tmp 27))); refine qP ?_ (o_load rfl (ld_one (shTOf rfl) (own MMt rfl)))) | ((with_reducible apply kP (.load 3 (.tmp 33))); refine sP ?_ (o_load rfl (ld_one (shTOf rfl) (own MMt rfl)))) | ((with_reducible apply kDP (.load 3 (.tmp 33))); refine dP ?_ (hX := rfl) (hv := o_load rfl (ld_one (shTOf rfl) (own MMt rfl)))) | ((with_reducible apply kQO (.load 3 (.tmp 33))); refine qP ?_ (o_load rfl (ld_one (shTOf rfl) (own MMt rfl)))) | ((with_reducible apply kP (.load 3 (.tmp 45))); refine sP ?_ (o_load rfl (ld_one (shTOf rfl) (hcx _ SBt)))) | ((with_reducible apply kDP (.load 3 (.tmp 45))); refine dP ?_ (hX := rfl) (hv := o_load rfl (ld_one (shTOf rfl) (hcx _ SBt)))) | ((with_reducible apply kQO (.load 3 (.tmp 45))); refine qP ?_ (o_load rfl (ld_one (shTOf rfl) (hcx _ SBt)))) | ((with_reducible apply kP (.binOp .lss _ (.tmp 46) _ _)); refine sP ?_ (o_lssF rfl rfl (by omega))) | ((with_reducible apply kDP (.binOp .lss _ (.tmp 46) _ _)); refine dP ?_ (hX := rfl) (hv := o_lssF rfl rfl (by omega))) | ((with_reducible apply kQO (.binOp .lss _ (.tmp 46) _ _)); refine qP ?_ (o_lssF rfl rfl (by omega))) | ((with_reducible apply kP (.load 3 (.tmp 56))); refine sP ?_ (o_load rfl (ld_one (shTOf rfl) (hcp _ SBt)))) | ((with_reducible apply kDP (.load 3 (.tmp 56))); refine dP ?_ (hX := rfl) (hv := o_load rfl (ld_one (shTOf rfl) (hcp _ SBt)))) | ((with_reducible apply kQO (.load 3 (.tmp 56))); refine qP ?_ (o_load rfl (ld_one (shTOf rfl) (hcp _ SBt)))) | ((with_reducible apply kDF 43); refine dC 43 (fun F => kax _ SBt) ?_) | ((with_reducible apply kDF 44); refine dC 44 (fun F => ktx _ SBt) ?_) | ((with_reducible apply kDN); refine dtC ?_) | (with_reducible first | refine g_seq ?_ | refine g_block ?_ | refine g_skip ?_ | refine g_exit ?_ | refine g_ret ?_ | refine si_nil ?_) | ((with_reducible apply kGD 12); refine g_drawn [0, 0, 1, 1, 3, 1, 1, 4] _ (List.Sublist.refl _) mixed (by kernel_rfl) (by rfl) ?_) | ((with_reducible apply kGD 13); refine g_drawn [1, 1, 1, 1, 1, 1, 1, 1, 1, 0, 0, 0, 0, 1, 1, 3, 1, 1, 1, 1] _ (List.Sublist.refl _) mixed (by kernel_rfl) (by rfl) ?_) | ((with_reducible apply gCI); first | refine gT ?_ | refine gF ?_ | (refine gI (fun h => ?_) (fun h => ?_) <;> (try (exfalso; omega))) | refine gBB (fun h => ?_) (fun h => ?_)) | ((with_reducible apply gRI); refine g_quiet mixed (by kernel_rfl) (by rfl) ?_) | (refine g_region ?_) | ((with_reducible apply kYo _); refine si_one rfl ?_) | ((with_reducible apply kRg 12); refine cD [0, 0, 1, 1, 3, 1, 1, 4] ?_) | ((with_reducible apply kRg 13); refine cD [1, 1, 1, 1, 1, 1, 1, 1, 1, 0, 0, 0, 0, 1, 1, 3, 1, 1, 1, 1] ?_) | (with_reducible first | refine c_seq ?_ | refine c_reg ?_ | refine c_region ?_ | refine c_block ?_ | refine c_skip ?_ | refine c_exit ?_ | refine c_ret ?_ | refine s_nil ?_ | refine x_then ?_ | refine x_then_exit ?_ | refine x_then_ret ?_ | refine x_block ?_ | refine x_block_ret ?_ | refine x_block_same ?_ | refine x_block_other (by first | rfl | decide) ?_ | refine q_nil ?_ | refine k_nil ?_) | ((with_reducible apply kN); first | refine stP ?_ | refine stI ?_ | refine st1 ?_ | refine stW ?_) | ((with_reducible apply kP (.alloc _)); refine sA (fun b => ?_)) | ((with_reducible apply kP (.box _ _)); first | refine sBA (fun b => ?_) | refine sB (fun b => ?_)) | ((with_reducible apply kP (.buildSlice _ 1 _)); first | refine sl1A (fun b => ?_) | refine sl1 (fun b => ?_)) | ((with_reducible apply kP (.call ⟨.builtin .append, _, _⟩)); refine sAp (fun oa2 c2 blk2 hrow2 => ?_)) | ((with_reducible apply kP _); refine sP ?_) | ((with_reducible apply kP _); refine sX ?_) | ((with_reducible apply kC); first | refine cT ?_ | refine cF ?_ | (refine cI (fun h => ?_) (fun h => ?_) <;> (try (exfalso; omega))) | refine cB (fun h => ?_) (fun h => ?_)) | ((with_reducible apply kDG); first | refine dY1 ?_ | refine dNo1 ?_ | refine dU1 ?_ | (refine dD1 (fun h => ?_) (fun h => ?_) <;> (try (exfalso; omega))) | refine dB1 (fun h => ?_) (fun h => ?_)) | ((with_reducible apply kDN); first | refine dtI ?_ | refine dt1 ?_ | refine dtW ?_) | ((with_reducible apply kDP _); refine dP ?_) | ((with_reducible apply kDP _); refine dX ?_))
            have hr7' : RowOk oa7 c7 1 (ivs (nats (xs.take (j' + 1)))) k7 := by rw [htk]; exact hr7
            first
              | exact e_round (⟨j' + 1, mset L1 [(x : Int)] (.bool true), oa7, c7, k7⟩ : PnJ) ⟨rfl, hjl, hS2, hr7'⟩ (.refl _) (by dsimp only; rw [hat, hiv]; exact .append (.refl _) (.cons _ (.refl _)))
              | trace_state
          · have hiv : innT pv mu (xs.take (j' + 1)) = inn := by rw [hit']; simp [hf, hg]
            rw [hmt hg] at hcp
            clear kr kit hseen hsrt hcls hinn hasm hlt hag hs3 kt ka hcl look hle hll hw hNet hmt hmf hlw hro hrr hrl
            repeat' (first | ((with_reducible apply kP (.load 82 _)); refine sP ?_ (o_load rfl (ld_one sh109 (own MMt rfl)))) | ((with_reducible apply kDP (.load 82 _)); refine dP ?_ (hX := rfl) (hv := o_load rfl (ld_one sh109 (own MMt rfl)))) | ((with_reducible apply kQO (.load 82 _)); refine qP ?_ (o_load rfl (ld_one sh109 (own MMt rfl)))) | ((with_reducible apply kN); refine s_mapUpdate (x := [(x : Int)]) (v := .bool true) mp109 rfl rfl rfl rfl hSj.len (hup _ _) ?_) | ((with_reducible apply kP (.call ⟨.builtin .append, _, _⟩)); refine sAp (fun oa7 c7 k7 hr7 => ?_) (hr := hr6) (hk := hl6)) | ((with_reducible apply kN); refine stC ?_) | ((with_reducible apply kP (.load 57 _)); refine sP ?_ (o_load rfl (ld_one (shTOf rfl) (own MMt rfl)))) | ((with_reducible apply kDP (.load 57 _)); refine dP ?_ (hX := rfl) (hv := o_load rfl (ld_one (shTOf rfl) (own MMt rfl)))) | ((with_reducible apply kQO (.load 57 _)); refine qP ?_ (o_load rfl (ld_one (shTOf rfl) (own MMt rfl)))) | ((with_reducible apply kP (.load 35 (.tmp 42))); refine sP ?_ (o_load rfl (ld_one (shTOf rfl) (own (hme _ SBt) rfl)))) | ((with_reducible apply kDP (.load 35 (.tmp 42))); refine dP ?_ (hX := rfl) (hv := o_load rfl (ld_one (shTOf rfl) (own (hme _ SBt) rfl)))) | ((with_reducible apply kQO (.load 35 (.tmp 42))); refine qP ?_ (o_load rfl (ld_one (shTOf rfl) (own (hme _ SBt) rfl)))) | ((with_reducible apply kP (.load 35 (.tmp 51))); refine sP ?_ (o_load rfl (ld_one (shTOf rfl) (own (hme _ SBt) rfl)))) | ((with_reducible apply kDP (.load 35 (.tmp 51))); refine dP ?_ (hX := rfl) (hv := o_load rfl (ld_one (shTOf rfl) (own (hme _ SBt) rfl)))) | ((with_reducible apply kQO (.load 35 (.tmp 51))); refine qP ?_ (o_load rfl (ld_one (shTOf rfl) (own (hme _ SBt) rfl)))) | ((with_reducible apply kP (.load 35 (.tmp 27))); refine sP ?_ (o_load rfl (ld_one (shTOf rfl) (own MMt rfl)))) | ((with_reducible apply kDP (.load 35 (.tmp 27))); refine dP ?_ (hX := rfl) (hv := o_load rfl (ld_one (shTOf rfl) (own MMt rfl)))) | ((with_reducible apply kQO (.load 35 (.tmp 27))); refine qP ?_ (o_load rfl (ld_one (shTOf rfl) (own MMt rfl)))) | ((with_reducible apply kP (.load 3 (.tmp 33))); refine sP ?_ (o_load rfl (ld_one (shTOf rfl) (own MMt rfl)))) | ((with_reducible apply kDP (.load 3 (.tmp 33))); refine dP ?_ (hX := rfl) (hv := o_load rfl (ld_one (shTOf rfl) (own MMt rfl)))) | ((with_reducible apply kQO (.load 3 (.tmp 33))); refine qP ?_ (o_load rfl (ld_one (shTOf rfl) (own MMt rfl)))) | ((with_reducible apply kP (.load 3 (.tmp 45))); refine sP ?_ (o_load rfl (ld_one (shTOf rfl) (hcx _ SBt)))) | ((with_reducible apply kDP (.load 3 (.tmp 45))); refine dP ?_ (hX := rfl) (hv := o_load rfl (ld_one (shTOf rfl) (hcx _ SBt)))) | ((with_reducible apply kQO (.load 3 (.tmp 45))); refine qP ?_ (o_load rfl (ld_one (shTOf rfl) (hcx _ SBt)))) | ((with_reducible apply kP (.binOp .lss _ (.tmp 46) _ _)); refine sP ?_ (o_lssF rfl rfl (by omega))) | ((with_reducible apply kDP (.binOp .lss _ (.tmp 46) _ _)); refine dP ?_ (hX := rfl) (hv := o_lssF rfl rfl (by omega))) | ((with_reducible apply kQO (.binOp .lss _ (.tmp 46) _ _)); refine qP ?_ (o_lssF rfl rfl (by omega))) | ((with_reducible apply kP (.binOp .lss _ (.tmp 57) _ _)); refine sP ?_ (o_lssF rfl rfl (by omega))) | ((with_reducible apply kDP (.binOp .lss _ (.tmp 57) _ _)); refine dP ?_ (hX := rfl) (hv := o_lssF rfl rfl (by omega))) | ((with_reducible apply kQO (.binOp .lss _ (.tmp 57) _ _)); refine qP ?_ (o_lssF rfl rfl (by omega))) | ((with_reducible apply kP (.load 3 (.tmp 56))); refine sP ?_ (o_load rfl (ld_one (shTOf rfl) (hcp _ SBt)))) | ((with_reducible apply kDP (.load 3 (.tmp 56))); refine dP ?_ (hX := rfl) (hv := o_load rfl (ld_one (shTOf rfl) (hcp _ SBt)))) | ((with_reducible apply kQO (.load 3 (.tmp 56))); refine qP ?_ (o_load rfl (ld_one (shTOf rfl) (hcp _ SBt)))) | ((with_reducible apply kDF 43); refine dC 43 (fun F => kax _ SBt) ?_) | ((with_reducible apply kDF 44); refine dC 44 (fun F => ktx _ SBt) ?_) | ((with_reducible apply kDN); refine dtC ?_) | (with_reducible first | refine g_seq ?_ | refine g_block ?_ | refine g_skip ?_ | refine g_exit ?_ | refine g_ret ?_ | refine si_nil ?_) | ((with_reducible apply kGD 12); refine g_drawn [0, 0, 1, 1, 3, 1, 1, 4] _ (List.Sublist.refl _) mixed (by kernel_rfl) (by rfl) ?_) | ((with_reducible apply kGD 13); refine g_drawn [1, 1, 1, 1, 1, 1, 1, 1, 1, 0, 0, 0, 0, 1, 1, 3, 1, 1, 1, 1] _ (List.Sublist.refl _) mixed (by kernel_rfl) (by rfl) ?_) | ((with_reducible apply gCI); first | refine gT ?_ | refine gF ?_ | (refine gI (fun h => ?_) (fun h => ?_) <;> (try (exfalso; omega))) | refine gBB (fun h => ?_) (fun h => ?_)) | ((with_reducible apply gRI); refine g_quiet mixed (by kernel_rfl) (by rfl) ?_) | (refine g_region ?_) | ((with_reducible apply kYo _); refine si_one rfl ?_) | ((with_reducible apply kRg 12); refine cD [0, 0, 1, 1, 3, 1, 1, 4] ?_) | ((with_reducible apply kRg 13); refine cD [1, 1, 1, 1, 1, 1, 1, 1, 1, 0, 0, 0, 0, 1, 1, 3, 1, 1, 1, 1] ?_) | (with_reducible first | refine c_seq ?_ | refine c_reg ?_ | refine c_region ?_ | refine c_block ?_ | refine c_skip ?_ | refine c_exit ?_ | refine c_ret ?_ | refine s_nil ?_ | refine x_then ?_ | refine x_then_exit ?_ | refine x_then_ret ?_ | refine x_block ?_ | refine x_block_ret ?_ | refine x_block_same ?_ | refine x_block_other (by first | rfl | decide) ?_ | refine q_nil ?_ | refine k_nil ?_) | ((with_reducible apply kN); first | refine stP ?_ | refine stI ?_ | refine st1 ?_ | refine stW ?_) | ((with_reducible apply kP (.alloc _)); refine sA (fun b => ?_)) | ((with_reducible apply kP (.box _ _)); first | refine sBA (fun b => ?_) | refine sB (fun b => ?_)) | ((with_reducible apply kP (.buildSlice _ 1 _)); first | refine sl1A (fun b => ?_) | refine sl1 (fun b => ?_)) | ((with_reducible apply kP (.call ⟨.builtin .append, _, _⟩)); refine sAp (fun oa2 c2 blk2 hrow2 => ?_)) | ((with_reducible apply kP _); refine sP ?_) | ((with_reducible apply kP _); refine sX ?_) | ((with_reducible apply kC); first | refine cT ?_ | refine cF ?_ | (refine cI (fun h => ?_) (fun h => ?_) <;> (try (exfalso; omega))) | refine cB (fun h => ?_) (fun h => ?_)) | ((with_reducible apply kDG); first | refine dY1 ?_ | refine dNo1 ?_ | refine dU1 ?_ | (refine dD1 (fun h => ?_) (fun h => ?_) <;> (try (exfalso; omega))) | refine dB1 (fun h => ?_) (fun h => ?_)) | ((with_reducible apply kDN); first | refine dtI ?_ | refine dt1 ?_ | refine dtW ?_) | ((with_reducible apply kDP _); refine dP ?_) | ((with_reducible apply kDP _); refine dX ?_))
            have hr7' : RowOk oa7 c7 1 (ivs (nats (xs.take (j' + 1)))) k7 := by rw [htk]; exact hr7
            first
              | exact e_round (⟨j' + 1, mset L1 [(x : Int)] (.bool true), oa7, c7, k7⟩ : PnJ) ⟨rfl, hjl, hS2, hr7'⟩ (.refl _) (by dsimp only; rw [hat, hiv]; exact .append (.refl _) (.cons _ (.refl _)))
              | trace_state
      · rintro ⟨j', L1, oa1, c1, k6⟩ ⟨hj', hj, hSj, hr6⟩ D
        dsimp only at hj' hj hSj hr6 ⊢
        rw [List.length_map] at hj' hj hSj hr6
        rw [List.take_length] at hSj hr6
        subst hj'
        rw [List.take_length, hinn, hasm]
        rw [hasm] at hin
        rcases hr6 with ⟨_, _, h3, _⟩ | ⟨b7, z7, rfl, rfl, hz7, hc7⟩
        · exfalso
          have := congrArg List.length h3
          rw [ivs_length, nats_len] at this
          have h4 : xs.length = 0 := this
          rw [List.length_eq_zero_iff.1 h4] at h0x
          cases h0x
        have hsr : srtI (nats xs) = nats (clsL n nx mu i) := hsrt _ (List.mergeSort_perm _ _) (srtI_ord _)
        have hln : (clsL n nx mu i).length = xs.length := hcls.length_eq.symm
        have ks : ∀ (W : Wd) hs', Fn Tryz.prog 45 #[.slice (some ⟨b7, 0, none⟩) xs.length c1] B W ((b7, ivs (nats xs) ++ z7) :: hs') (fun v h => v = .tuple #[] ∧ h = (b7, ivs (nats (clsL n nx mu i)) ++ z7) :: hs') := fun W hs' => by
          rw [← hsr]; exact fn_sortI Tryz.sortI (nats_len xs) (by omega)
        have hS2 : SnM 1 (fun x => ∃ y : Nat, x = [((y : Nat) : Int)] ∧ seen2 n nx mu (i + 1) y) L1 := ⟨hSj.len, hSj.yes, fun x => by
          rw [hSj.mem x]
          exact ⟨fun ⟨y, e, h⟩ => ⟨y, e, (hseen y).2 h⟩, fun ⟨y, e, h⟩ => ⟨y, e, (hseen y).1 h⟩⟩⟩
        have hpl := prv_len rs
        have hsn := fun r => prv_snoc rs r
        have hbn := fun r => prb_snoc rs r
        have hpy := ptsL_yes (n := n) (nx := nx) (mu := mu) (ag := ag) hfst
        have hpt : ptO n nx mu ag i = ⟨clsL n nx mu i, innB n nx mu i, asum ag (clsL n nx mu i), (if innB n nx mu i then 360 else 180) - asum ag (clsL n nx mu i)⟩ := rfl
        have hrow : RowOk (some ⟨b7, 0, none⟩) c1 1 (ivs (nats (clsL n nx mu i))) [(b7, ivs (nats (clsL n nx mu i)) ++ z7)] := .inr ⟨b7, z7, rfl, rfl, by rw [List.length_append, ivs_length, nats_len] at hz7 ⊢; omega, hc7⟩
        clear kr kit hseen hsrt hcls hinn hasm hlt hag hs3 kt ka hcl look hw hNet hmt hmf hll hit hmem hl0 hSj
        generalize asum ag (clsL n nx mu i) = sm at *
        cases hb : innB n nx mu i
        all_goals
          rw [hb] at hpt
          simp only [Bool.false_eq_true, ↓reduceIte] at hpt
          repeat' (first | ((with_reducible apply kP (.load 35 (.tmp 61))); refine sP ?_ (o_load rfl (ld_one (shTOf rfl) (own MMt rfl)))) | ((with_reducible apply kDP (.load 35 (.tmp 61))); refine dP ?_ (hX := rfl) (hv := o_load rfl (ld_one (shTOf rfl) (own MMt rfl)))) | ((with_reducible apply kQO (.load 35 (.tmp 61))); refine qP ?_ (o_load rfl (ld_one (shTOf rfl) (own MMt rfl)))) | ((with_reducible apply kP (.load 3 (.tmp 64))); refine sP ?_ (o_load rfl (ld_one (shTOf rfl) (own MMt rfl)))) | ((with_reducible apply kDP (.load 3 (.tmp 64))); refine dP ?_ (hX := rfl) (hv := o_load rfl (ld_one (shTOf rfl) (own MMt rfl)))) | ((with_reducible apply kQO (.load 3 (.tmp 64))); refine qP ?_ (o_load rfl (ld_one (shTOf rfl) (own MMt rfl)))) | ((with_reducible apply kP (.load 3 (.tmp 70))); refine sP ?_ (o_load rfl (ld_one (shTOf rfl) (own MMt rfl)))) | ((with_reducible apply kDP (.load 3 (.tmp 70))); refine dP ?_ (hX := rfl) (hv := o_load rfl (ld_one (shTOf rfl) (own MMt rfl)))) | ((with_reducible apply kQO (.load 3 (.tmp 70))); refine qP ?_ (o_load rfl (ld_one (shTOf rfl) (own MMt rfl)))) | ((with_reducible apply kP (.load 4 (.tmp 68))); refine sP ?_ (o_load rfl (ld_one (shTOf rfl) (own MMt rfl)))) | ((with_reducible apply kDP (.load 4 (.tmp 68))); refine dP ?_ (hX := rfl) (hv := o_load rfl (ld_one (shTOf rfl) (own MMt rfl)))) | ((with_reducible apply kQO (.load 4 (.tmp 68))); refine qP ?_ (o_load rfl (ld_one (shTOf rfl) (own MMt rfl)))) | ((with_reducible apply kF 45); refine s_mut1 (goTOf rfl) rfl (by with_reducible ((repeat (first | exact Take.head | exact Take.one | apply Take.tail | apply Take.app)); done)) (ks _ _) (by first | decide | exact ltd rfl) ?_) | ((with_reducible apply kN); refine stC ?_) | ((with_reducible apply kP (.call ⟨.builtin .append, _, _⟩)); refine sAp (fun oa8 c8 k8 hr8 => ?_) (hr := hro) (hk := hpl) (hf := flat_cons rfl (flat_cons rfl (flat_cons rfl (flat1 rfl))))) | (with_reducible first | refine g_seq ?_ | refine g_block ?_ | refine g_skip ?_ | refine g_exit ?_ | refine g_ret ?_ | refine si_nil ?_) | ((with_reducible apply kGD 12); refine g_drawn [0, 0, 1, 1, 3, 1, 1, 4] _ (List.Sublist.refl _) mixed (by kernel_rfl) (by rfl) ?_) | ((with_reducible apply kGD 13); refine g_drawn [1, 1, 1, 1, 1, 1, 1, 1, 1, 0, 0, 0, 0, 1, 1, 3, 1, 1, 1, 1] _ (List.Sublist.refl _) mixed (by kernel_rfl) (by rfl) ?_) | ((with_reducible apply gCI); first | refine gT ?_ | refine gF ?_ | (refine gI (fun h => ?_) (fun h => ?_) <;> (try (exfalso; omega))) | refine gBB (fun h => ?_) (fun h => ?_)) | ((with_reducible apply gRI); refine g_quiet mixed (by kernel_rfl) (by rfl) ?_) | (refine g_region ?_) | ((with_reducible apply kYo _); refine si_one rfl ?_) | ((with_reducible apply kRg 12); refine cD [0, 0, 1, 1, 3, 1, 1, 4] ?_) | ((with_reducible apply kRg 13); refine cD [1, 1, 1, 1, 1, 1, 1, 1, 1, 0, 0, 0, 0, 1, 1, 3, 1, 1, 1, 1] ?_) | (with_reducible first | refine c_seq ?_ | refine c_reg ?_ | refine c_region ?_ | refine c_block ?_ | refine c_skip ?_ | refine c_exit ?_ | refine c_ret ?_ | refine s_nil ?_ | refine x_then ?_ | refine x_then_exit ?_ | refine x_then_ret ?_ | refine x_block ?_ | refine x_block_ret ?_ | refine x_block_same ?_ | refine x_block_other (by first | rfl | decide) ?_ | refine q_nil ?_ | refine k_nil ?_) | ((with_reducible apply kN); first | refine stP ?_ | refine stI ?_ | refine st1 ?_ | refine stW ?_) | ((with_reducible apply kP (.alloc _)); refine sA (fun b => ?_)) | ((with_reducible apply kP (.box _ _)); first | refine sBA (fun b => ?_) | refine sB (fun b => ?_)) | ((with_reducible apply kP (.buildSlice _ 1 _)); first | refine sl1A (fun b => ?_) | refine sl1 (fun b => ?_)) | ((with_reducible apply kP (.call ⟨.builtin .append, _, _⟩)); refine sAp (fun oa2 c2 blk2 hrow2 => ?_)) | ((with_reducible apply kP _); refine sP ?_) | ((with_reducible apply kP _); refine sX ?_) | ((with_reducible apply kC); first | refine cT ?_ | refine cF ?_ | (refine cI (fun h => ?_) (fun h => ?_) <;> (try (exfalso; omega))) | refine cB (fun h => ?_) (fun h => ?_)) | ((with_reducible apply kDG); first | refine dY1 ?_ | refine dNo1 ?_ | refine dU1 ?_ | (refine dD1 (fun h => ?_) (fun h => ?_) <;> (try (exfalso; omega))) | refine dB1 (fun h => ?_) (fun h => ?_)) | ((with_reducible apply kDN); first | refine dtI ?_ | refine dt1 ?_ | refine dtW ?_) | ((with_reducible apply kDP _); refine dP ?_) | ((with_reducible apply kDP _); refine dX ?_))
          have hr8' : RowOk oa8 c8 4 (prv (rs ++ [(⟨some ⟨b7, 0, none⟩, c1, ptO n nx mu ag i, [(b7, ivs (nats (clsL n nx mu i)) ++ z7)]⟩ : Pr)])) k8 := by
            rw [hsn, hpt]; dsimp only; rw [hln]; exact hr8
          rw [show rs.length + 1 = (rs ++ [(⟨some ⟨b7, 0, none⟩, c1, ptO n nx mu ag i, [(b7, ivs (nats (clsL n nx mu i)) ++ z7)]⟩ : Pr)]).length by simp]
          refine g_end (⟨i + 1, D :: Ds, L1, oa8, c8, rs ++ [(⟨some ⟨b7, 0, none⟩, c1, ptO n nx mu ag i, [(b7, ivs (nats (clsL n nx mu i)) ++ z7)]⟩ : Pr)], k8⟩ : PnI) ⟨hi', hS2, hr8', fun r hr => ?_, ?_, by simp; omega⟩ (by dsimp only; omega) rfl (.refl _) (by repeat' first | trivial | rfl | apply And.intro) (by dsimp only; rw [hbn]; exact .append (.refl _) (.cons _ (.cons_cons _ (.cons _ (.cons _ (.cons _ (.refl _)))))))
          · rcases List.mem_append.1 hr with hr | hr
            · exact hrr r hr
            · rw [List.mem_singleton] at hr; subst hr; exact hrow
          · dsimp only
            rw [hpy, List.map_append, hrl]
            rfl
    · have hfs : ptF n nx mu i = false := by simpa using hfst
      have hsn : seen2 n nx mu i i := by
        by_cases h : seen2 n nx mu i i
        · exact h
        · exact absurd ((seen2_fst hi').2 h) hfst
      have hl0 := look i _ L hSn true (by simp only [true_iff]; exact hsn)
      have hSi : SnM 1 (fun x => ∃ y : Nat, x = [((y : Nat) : Int)] ∧ seen2 n nx mu (i + 1) y) L := ⟨hSn.len, hSn.yes, fun x => by
        rw [hSn.mem x]
        exact ⟨fun ⟨y, e, h⟩ => ⟨y, e, (seen2_no hfs hi' y).2 h⟩, fun ⟨y, e, h⟩ => ⟨y, e, (seen2_no hfs hi' y).1 h⟩⟩⟩
      repeat' (first | ((with_reducible apply kP (.load 82 _)); refine sP ?_ (o_load rfl (ld_one sh109 (own MMt rfl)))) | ((with_reducible apply kDP (.load 82 _)); refine dP ?_ (hX := rfl) (hv := o_load rfl (ld_one sh109 (own MMt rfl)))) | ((with_reducible apply kQO (.load 82 _)); refine qP ?_ (o_load rfl (ld_one sh109 (own MMt rfl)))) | ((with_reducible apply kP (.lookup _ _ _ _)); refine sP ?_ (hl0 ▸ o_lookup (x := [(i : Int)]) mp109 rfl rfl hmem rfl hSn.len)) | (with_reducible first | refine g_seq ?_ | refine g_block ?_ | refine g_skip ?_ | refine g_exit ?_ | refine g_ret ?_ | refine si_nil ?_) | ((with_reducible apply kGD 12); refine g_drawn [0, 0, 1, 1, 3, 1, 1, 4] _ (List.Sublist.refl _) mixed (by kernel_rfl) (by rfl) ?_) | ((with_reducible apply kGD 13); refine g_drawn [1, 1, 1, 1, 1, 1, 1, 1, 1, 0, 0, 0, 0, 1, 1, 3, 1, 1, 1, 1] _ (List.Sublist.refl _) mixed (by kernel_rfl) (by rfl) ?_) | ((with_reducible apply gCI); first | refine gT ?_ | refine gF ?_ | (refine gI (fun h => ?_) (fun h => ?_) <;> (try (exfalso; omega))) | refine gBB (fun h => ?_) (fun h => ?_)) | ((with_reducible apply gRI); refine g_quiet mixed (by kernel_rfl) (by rfl) ?_) | (refine g_region ?_) | ((with_reducible apply kYo _); refine si_one rfl ?_) | ((with_reducible apply kRg 12); refine cD [0, 0, 1, 1, 3, 1, 1, 4] ?_) | ((with_reducible apply kRg 13); refine cD [1, 1, 1, 1, 1, 1, 1, 1, 1, 0, 0, 0, 0, 1, 1, 3, 1, 1, 1, 1] ?_) | (with_reducible first | refine c_seq ?_ | refine c_reg ?_ | refine c_region ?_ | refine c_block ?_ | refine c_skip ?_ | refine c_exit ?_ | refine c_ret ?_ | refine s_nil ?_ | refine x_then ?_ | refine x_then_exit ?_ | refine x_then_ret ?_ | refine x_block ?_ | refine x_block_ret ?_ | refine x_block_same ?_ | refine x_block_other (by first | rfl | decide) ?_ | refine q_nil ?_ | refine k_nil ?_) | ((with_reducible apply kN); first | refine stP ?_ | refine stI ?_ | refine st1 ?_ | refine stW ?_) | ((with_reducible apply kP (.alloc _)); refine sA (fun b => ?_)) | ((with_reducible apply kP (.box _ _)); first | refine sBA (fun b => ?_) | refine sB (fun b => ?_)) | ((with_reducible apply kP (.buildSlice _ 1 _)); first | refine sl1A (fun b => ?_) | refine sl1 (fun b => ?_)) | ((with_reducible apply kP (.call ⟨.builtin .append, _, _⟩)); refine sAp (fun oa2 c2 blk2 hrow2 => ?_)) | ((with_reducible apply kP _); refine sP ?_) | ((with_reducible apply kP _); refine sX ?_) | ((with_reducible apply kC); first | refine cT ?_ | refine cF ?_ | (refine cI (fun h => ?_) (fun h => ?_) <;> (try (exfalso; omega))) | refine cB (fun h => ?_) (fun h => ?_)) | ((with_reducible apply kDG); first | refine dY1 ?_ | refine dNo1 ?_ | refine dU1 ?_ | (refine dD1 (fun h => ?_) (fun h => ?_) <;> (try (exfalso; omega))) | refine dB1 (fun h => ?_) (fun h => ?_)) | ((with_reducible apply kDN); first | refine dtI ?_ | refine dt1 ?_ | refine dtW ?_) | ((with_reducible apply kDP _); refine dP ?_) | ((with_reducible apply kDP _); refine dX ?_))
      exact g_end (⟨i + 1, Ds, L, oa, c, rs, bo⟩ : PnI) ⟨hi', hSi, hro, hrr, by dsimp only; rw [ptsL_no hfs]; exact hrl, by dsimp only; omega⟩ (by dsimp only; omega) rfl (.refl _) (by repeat' first | trivial | rfl | apply And.intro) SCt
  · obtain rfl : n = i := by omega
    repeat' (first | (with_reducible first | refine g_seq ?_ | refine g_block ?_ | refine g_skip ?_ | refine g_exit ?_ | refine g_ret ?_ | refine si_nil ?_) | ((with_reducible apply kGD 12); refine g_drawn [0, 0, 1, 1, 3, 1, 1, 4] _ (List.Sublist.refl _) mixed (by kernel_rfl) (by rfl) ?_) | ((with_reducible apply kGD 13); refine g_drawn [1, 1, 1, 1, 1, 1, 1, 1, 1, 0, 0, 0, 0, 1, 1, 3, 1, 1, 1, 1] _ (List.Sublist.refl _) mixed (by kernel_rfl) (by rfl) ?_) | ((with_reducible apply gCI); first | refine gT ?_ | refine gF ?_ | (refine gI (fun h => ?_) (fun h => ?_) <;> (try (exfalso; omega))) | refine gBB (fun h => ?_) (fun h => ?_)) | ((with_reducible apply gRI); refine g_quiet mixed (by kernel_rfl) (by rfl) ?_) | (refine g_region ?_) | ((with_reducible apply kYo _); refine si_one rfl ?_) | ((with_reducible apply kRg 12); refine cD [0, 0, 1, 1, 3, 1, 1, 4] ?_) | ((with_reducible apply kRg 13); refine cD [1, 1, 1, 1, 1, 1, 1, 1, 1, 0, 0, 0, 0, 1, 1, 3, 1, 1, 1, 1] ?_) | (with_reducible first | refine c_seq ?_ | refine c_reg ?_ | refine c_region ?_ | refine c_block ?_ | refine c_skip ?_ | refine c_exit ?_ | refine c_ret ?_ | refine s_nil ?_ | refine x_then ?_ | refine x_then_exit ?_ | refine x_then_ret ?_ | refine x_block ?_ | refine x_block_ret ?_ | refine x_block_same ?_ | refine x_block_other (by first | rfl | decide) ?_ | refine q_nil ?_ | refine k_nil ?_) | ((with_reducible apply kN); first | refine stP ?_ | refine stI ?_ | refine st1 ?_ | refine stW ?_) | ((with_reducible apply kP (.alloc _)); refine sA (fun b => ?_)) | ((with_reducible apply kP (.box _ _)); first | refine sBA (fun b => ?_) | refine sB (fun b => ?_)) | ((with_reducible apply kP (.buildSlice _ 1 _)); first | refine sl1A (fun b => ?_) | refine sl1 (fun b => ?_)) | ((with_reducible apply kP (.call ⟨.builtin .append, _, _⟩)); refine sAp (fun oa2 c2 blk2 hrow2 => ?_)) | ((with_reducible apply kP _); refine sP ?_) | ((with_reducible apply kP _); refine sX ?_) | ((with_reducible apply kC); first | refine cT ?_ | refine cF ?_ | (refine cI (fun h => ?_) (fun h => ?_) <;> (try (exfalso; omega))) | refine cB (fun h => ?_) (fun h => ?_)) | ((with_reducible apply kDG); first | refine dY1 ?_ | refine dNo1 ?_ | refine dU1 ?_ | (refine dD1 (fun h => ?_) (fun h => ?_) <;> (try (exfalso; omega))) | refine dB1 (fun h => ?_) (fun h => ?_)) | ((with_reducible apply kDN); first | refine dtI ?_ | refine dt1 ?_ | refine dtW ?_) | ((with_reducible apply kDP _); refine dP ?_) | ((with_reducible apply kDP _); refine dX ?_))
    exact e_retG1 (Ds := Ds) (ms := (mp, mapO false L) :: w0.ms) (hs' := bo ++ (prb rs ++ hs)) rfl rfl (.cons _ (.refl _)) rfl rfl ⟨_, ⟨oa, c, rs, bo, rfl, hro, hrr, hrl, rfl⟩, by rw [List.append_assoc]⟩ SCt
end Go.Proofs.YtmblgbcipniecaaGreatDoor

namespace Go.Proofs.YtmblgbcipniecaaGreatDoor
open Go.RowKit
attribute [local irreducible] OpF Ld CellAt Sl Sv pcA usP

def nC (ps : List Pc) : Nat := fsN (sdF ps) ps.length
def nxC (ps : List Pc) : Nat → Nat := nxN (sdF ps) ps.length
def pvC (ps : List Pc) : Nat → Nat := pvN (sdF ps) ps.length
def muC (ps : List Pc) (sm : List Int) (m : Nat) : Nat → Nat := muS (smL (sdF ps) sm m)
def vdC (ps : List Pc) (sm : List Int) (m : Nat) (e : Int) : Int := vdE ps.length (sdF ps) (anF ps) m sm e
structure VdC (ps : List Pc) (sm : List Int) (m : Nat) (e : Int) : Prop where
  n1 : 1 ≤ ps.length
  n8 : ps.length ≤ 8
  e0 : 0 ≤ e ∧ e ≤ 5
  ok : allOK ps.length (sdF ps) (anF ps)
  se : ∀ t, t < m → seE ps.length (sdF ps) sm e t = 0
theorem vdC_0 {ps : List Pc} {sm : List Int} {m : Nat} {e : Int} (h : vdC ps sm m e = 0) : VdC ps sm m e := by
  unfold vdC vdE at h
  by_cases h1 : 1 ≤ ps.length ∧ ps.length ≤ 8
  · rw [if_neg (by simp only [h1, and_self, not_true_eq_false, not_false_eq_true])] at h
    by_cases h2 : 0 ≤ e ∧ e ≤ 5
    · by_cases h3 : allOK ps.length (sdF ps) (anF ps)
      · rw [if_neg (by simp only [h2, h3, and_self, not_true_eq_false, or_self, not_false_eq_true])] at h
        exact ⟨h1.1, h1.2, h2, h3, fstE_iff.1 h⟩
      · rw [if_pos (.inr h3)] at h; cases h
    · rw [if_pos (.inl h2)] at h; cases h
  · rw [if_pos h1] at h; cases h
section
variable {ps : List Pc} {sm : List Int} {m : Nat} {e : Int}
theorem VdC.n48 (h : VdC ps sm m e) : nC ps ≤ 48 := by
  have h1 := fs_le6 h.ok (Nat.le_refl _)
  have h2 := h.n8
  unfold nC
  omega
theorem VdC.okS (h : VdC ps sm m e) : OkS (nC ps) (smL (sdF ps) sm m) := smL_ok h.se
theorem VdC.net (h : VdC ps sm m e) : NetN (nC ps) (nxC ps) (pvC ps) (muC ps sm m) := h.okS.net (cap_net (sdF ps) ps.length)
end
theorem SewR.at {B : Nat} {w0 : Wd} {hs : HS} {s : Sw} {ps : List Pc} {sm : List Int} {mu : Nat → Nat} {k1 k2 k3 : HS} (hC : CapM B w0 hs s.oP s.oS ps sm) (r : SewR s (sdF ps) ps.length mu k1 k2 k3) :
    SewAt B w0 (k3 ++ (k1 ++ (k2 ++ [(s.b, s.cells ps.length (fsN (sdF ps) ps.length))])) ++ hs) s ps mu := by
  have h0 : hs.Sublist (k3 ++ (k1 ++ (k2 ++ [(s.b, s.cells ps.length (fsN (sdF ps) ps.length))])) ++ hs) := List.sublist_append_right _ _
  refine ⟨by simp, hC.pcs.sub h0, fun i hi => (hC.sds i hi).sub h0, fun i hi => (hC.ans i hi).sub h0, ?_, ?_, ?_⟩
  · exact (Sl.row r.r1).sub (((List.sublist_append_left _ _).trans (List.sublist_append_right _ _)).trans (List.sublist_append_left _ _))
  · exact (Sl.row r.r2).sub ((((List.sublist_append_left _ _).trans (List.sublist_append_right _ _)).trans (List.sublist_append_right _ _)).trans (List.sublist_append_left _ _))
  · exact (Sl.row r.r3).sub ((List.sublist_append_left _ _).trans (List.sublist_append_left _ _))

def capv (ps : List Pc) (oP oS : Option Addr) (cP m cS : Nat) (e : Int) : Value := .agg #[.slice oP ps.length cP, .slice oS m cS, iv e]
def ptsC (ps : List Pc) (sm : List Int) (m : Nat) : List Pt := ptsL (nC ps) (nxC ps) (muC ps sm m) (agF ps) (nC ps)
def lpsC (ps : List Pc) (sm : List Int) (m : Nat) : List (List Nat) := lpsL (nC ps) (nxC ps) (muC ps sm m) (nC ps)
set_option maxRecDepth 100000 in
set_option maxHeartbeats 8000000 in
theorem k_Loops (ps : List Pc) (oP oS : Option Addr) (cP m cS : Nat) (sm : List Int) (e : Int) (hn : ps.length ≤ 10000) (hsm : sm.length = m * 4) (hm : m ≤ 10000) (B : Nat) (w0 : Wd) (hs : HS) (hC : CapM B w0 hs oP oS ps sm) :
    Fn Tryz.prog 12 #[.agg #[.slice oP ps.length cP, .slice oS m cS, iv e]] B w0 hs (fun v h => (vdC ps sm m e ≠ 0 ∧ v = .tuple #[.slice none 0 0, iv (vdC ps sm m e)] ∧ h = hs) ∨ (vdC ps sm m e = 0 ∧ ∃ x blk, LrR ((lpsC ps sm m).map nats) x blk ∧ v = .tuple #[x, iv 0] ∧ h = blk ++ hs)) := by
  have kv := fun hs' (h : hs.Sublist hs') => k_Validate ps oP oS cP m cS sm e hn hsm hm B w0 hs' (hC.sub h)
  by_cases hv : vdC ps sm m e = 0
  · have V := vdC_0 hv
    have ks := fun hs' (h : hs.Sublist hs') => k_sew ps oP oS cP m cS sm e V.n8 V.n1 hsm hm V.ok V.se B w0 hs' (hC.sub h)
    have hv' : vdE ps.length (sdF ps) (anF ps) m sm e = 0 := hv
    rw [hv'] at kv
    refine fn_enter Tryz.func12 rfl Tryz.ntmps12 (by simp) ?_
    repeat' (first | ((with_reducible apply kP (.box 25 _)); refine sBA (fun b1 => ?_)) | ((with_reducible apply kF 13); refine sC 13 (kv _ SBt) ?_) | ((with_reducible apply kF 22); refine sR 22 (ks _ SBt) ?_; rintro v7 h7 ⟨blk7, ⟨s, k1, k2, k3, rfl, q1, q2, q3, q4, hR, rfl⟩, rfl⟩) | (with_reducible first | refine c_seq ?_ | refine c_reg ?_ | refine c_region ?_ | refine c_block ?_ | refine c_skip ?_ | refine c_exit ?_ | refine c_ret ?_ | refine s_nil ?_ | refine x_then ?_ | refine x_then_exit ?_ | refine x_then_ret ?_ | refine x_block ?_ | refine x_block_ret ?_ | refine x_block_same ?_ | refine x_block_other (by first | rfl | decide) ?_ | refine q_nil ?_ | refine k_nil ?_) | ((with_reducible apply kP (.box _ _)); first | refine sBA (fun b => ?_) | refine sB (fun b => ?_)) | ((with_reducible apply kP _); refine sP ?_) | ((with_reducible apply kP _); refine sX ?_) | ((with_reducible apply kC); first | refine cT ?_ | refine cF ?_ | (refine cI (fun h => ?_) (fun h => ?_) <;> (try (exfalso; omega))) | refine cB (fun h => ?_) (fun h => ?_)))
    subst q1 q2 q3 q4
    have hA := SewR.at (hC.sub (hs' := (b1, [.slice s.oP ps.length cP, .slice s.oS s.nS cS, iv s.e]) :: hs) (.cons _ (.refl _))) hR
    have kp := k_loops s ps _ V.n48 V.net _ _ _ hA
    repeat' (first | ((with_reducible apply kF 24); refine sR 24 (kp) ?_; rintro v8 h8 ⟨blk8, hP8, rfl⟩) | (with_reducible first | refine c_seq ?_ | refine c_reg ?_ | refine c_region ?_ | refine c_block ?_ | refine c_skip ?_ | refine c_exit ?_ | refine c_ret ?_ | refine s_nil ?_ | refine x_then ?_ | refine x_then_exit ?_ | refine x_then_ret ?_ | refine x_block ?_ | refine x_block_ret ?_ | refine x_block_same ?_ | refine x_block_other (by first | rfl | decide) ?_ | refine q_nil ?_ | refine k_nil ?_) | ((with_reducible apply kP (.box _ _)); first | refine sBA (fun b => ?_) | refine sB (fun b => ?_)) | ((with_reducible apply kP _); refine sP ?_) | ((with_reducible apply kP _); refine sX ?_) | ((with_reducible apply kC); first | refine cT ?_ | refine cF ?_ | (refine cI (fun h => ?_) (fun h => ?_) <;> (try (exfalso; omega))) | refine cB (fun h => ?_) (fun h => ?_)))
    exact e_ret2 (hs' := blk8 ++ hs) rfl rfl rfl (.inr ⟨hv, _, blk8, hP8, rfl, rfl⟩) (.append (.refl _) (List.sublist_append_of_sublist_right (.cons _ (.refl _))))
  · have hv' : vdE ps.length (sdF ps) (anF ps) m sm e ≠ 0 := hv
    have hv2 : vdC ps sm m e = vdE ps.length (sdF ps) (anF ps) m sm e := rfl
    rw [hv2]
    generalize vdE ps.length (sdF ps) (anF ps) m sm e = z at *
    refine fn_enter Tryz.func12 rfl Tryz.ntmps12 (by simp) ?_
    repeat' (first | ((with_reducible apply kP (.box 25 _)); refine sBA (fun b1 => ?_)) | ((with_reducible apply kF 13); refine sC 13 (kv _ SBt) ?_) | (with_reducible first | refine c_seq ?_ | refine c_reg ?_ | refine c_region ?_ | refine c_block ?_ | refine c_skip ?_ | refine c_exit ?_ | refine c_ret ?_ | refine s_nil ?_ | refine x_then ?_ | refine x_then_exit ?_ | refine x_then_ret ?_ | refine x_block ?_ | refine x_block_ret ?_ | refine x_block_same ?_ | refine x_block_other (by first | rfl | decide) ?_ | refine q_nil ?_ | refine k_nil ?_) | ((with_reducible apply kP (.box _ _)); first | refine sBA (fun b => ?_) | refine sB (fun b => ?_)) | ((with_reducible apply kP _); refine sP ?_) | ((with_reducible apply kP _); refine sX ?_) | ((with_reducible apply kC); first | refine cT ?_ | refine cF ?_ | (refine cI (fun h => ?_) (fun h => ?_) <;> (try (exfalso; omega))) | refine cB (fun h => ?_) (fun h => ?_)))
    exact e_ret2 (hs' := hs) rfl rfl rfl (.inl ⟨hv', rfl, rfl⟩) SCt
/-- The Euler number. -/
def euC (ps : List Pc) (sm : List Int) (m : Nat) : Int := (ptsC ps sm m).length - ((nC ps : Int) - m) + ps.length
theorem PrR.v {pts : List Pt} {v : Value} {blk : HS} (h : PrR pts v blk) : ∃ oa c, v = .slice oa pts.length c := by
  obtain ⟨oa, c, rs, bo, rfl, _, _, rfl, _⟩ := h
  exact ⟨oa, c, by rw [List.length_map]⟩
theorem LrR.v {ls : List (List Int)} {v : Value} {blk : HS} (h : LrR ls v blk) : ∃ oa c, v = .slice oa ls.length c := by
  obtain ⟨oa, c, rs, bo, rfl, _, _, rfl, _⟩ := h
  exact ⟨oa, c, by rw [List.length_map]⟩
set_option maxRecDepth 100000 in
set_option maxHeartbeats 8000000 in
theorem k_Euler (ps : List Pc) (oP oS : Option Addr) (cP m cS : Nat) (sm : List Int) (e : Int) (hn : ps.length ≤ 10000) (hsm : sm.length = m * 4) (hm : m ≤ 10000) (B : Nat) (w0 : Wd) (hs : HS) (hC : CapM B w0 hs oP oS ps sm) :
    Fn Tryz.prog 11 #[.agg #[.slice oP ps.length cP, .slice oS m cS, iv e]] B w0 hs (fun v h => v = .tuple #[iv (if vdC ps sm m e = 0 then euC ps sm m else 0), iv (vdC ps sm m e)] ∧ h = hs) := by
  have kv := fun hs' (h : hs.Sublist hs') => k_Validate ps oP oS cP m cS sm e hn hsm hm B w0 hs' (hC.sub h)
  by_cases hv : vdC ps sm m e = 0
  · have V := vdC_0 hv
    have ks := fun hs' (h : hs.Sublist hs') => k_sew ps oP oS cP m cS sm e V.n8 V.n1 hsm hm V.ok V.se B w0 hs' (hC.sub h)
    have hv' : vdE ps.length (sdF ps) (anF ps) m sm e = 0 := hv
    rw [hv'] at kv
    rw [if_pos hv, hv]
    have hpl : (ptsC ps sm m).length ≤ 48 := by
      unfold ptsC
      rw [ptsL_len]
      unfold ccE
      rw [← cnN_filter]
      have := List.length_filter_le (fun i => decide (rpE (ptE (nC ps) (nxC ps) (muC ps sm m)) i = i)) (List.range (nC ps))
      have h2 := V.n48
      rw [List.length_range] at this
      omega
    have hnn : fsN (sdF ps) ps.length ≤ 48 := V.n48
    have hn8 := V.n8
    have hpl' : (ptsL (fsN (sdF ps) ps.length) (nxN (sdF ps) ps.length) (muC ps sm m) (agF ps) (fsN (sdF ps) ps.length)).length ≤ 48 := hpl
    refine fn_enter Tryz.func11 rfl Tryz.ntmps11 (by simp) ?_
    repeat' (first | ((with_reducible apply kP (.box 25 _)); refine sBA (fun b1 => ?_)) | ((with_reducible apply kF 13); refine sC 13 (kv _ SBt) ?_) | ((with_reducible apply kF 22); refine sR 22 (ks _ SBt) ?_; rintro v7 h7 ⟨blk7, ⟨s, k1, k2, k3, rfl, q1, q2, q3, q4, hR, rfl⟩, rfl⟩) | ((with_reducible apply kRg 5); refine cD [1, 3, 1, 0, 0, 0, 0, 0, 0, 0, 0, 0, 1, 0, 0, 0, 1, 1, 1] ?_) | (with_reducible first | refine c_seq ?_ | refine c_reg ?_ | refine c_region ?_ | refine c_block ?_ | refine c_skip ?_ | refine c_exit ?_ | refine c_ret ?_ | refine s_nil ?_ | refine x_then ?_ | refine x_then_exit ?_ | refine x_then_ret ?_ | refine x_block ?_ | refine x_block_ret ?_ | refine x_block_same ?_ | refine x_block_other (by first | rfl | decide) ?_ | refine q_nil ?_ | refine k_nil ?_) | ((with_reducible apply kP (.box _ _)); first | refine sBA (fun b => ?_) | refine sB (fun b => ?_)) | ((with_reducible apply kP _); refine sP ?_) | ((with_reducible apply kP _); refine sX ?_) | ((with_reducible apply kC); first | refine cT ?_ | refine cF ?_ | (refine cI (fun h => ?_) (fun h => ?_) <;> (try (exfalso; omega))) | refine cB (fun h => ?_) (fun h => ?_)) | ((with_reducible apply kDP _); refine dP ?_) | ((with_reducible apply kDP _); refine dX ?_))
    subst q1 q2 q3 q4
    have hA := SewR.at (hC.sub (hs' := (b1, [.slice s.oP ps.length cP, .slice s.oS s.nS cS, iv s.e]) :: hs) (.cons _ (.refl _))) hR
    have kp := fun hs' (h : List.Sublist _ hs') => k_points s ps _ V.n48 V.ok V.net B w0 hs' (hA.sub h)
    have hme := fun hs' (h : List.Sublist _ hs') => hA.me' (hs' := hs') h
    repeat' (first | ((with_reducible apply kDF 23); (first | refine dN3 23 (fun F => kp _ SBt) ?_ | refine dN4 23 (fun F => kp _ SBt) ?_); rintro v8 blk8 hP8; obtain ⟨oa8, c8, rfl⟩ := PrR.v hP8) | ((with_reducible apply kP (.load 35 _)); refine sP ?_ (o_load rfl (ld_one (shTOf rfl) (own (hme _ SBt) rfl)))) | ((with_reducible apply kDP (.load 35 _)); refine dP ?_ (hX := rfl) (hv := o_load rfl (ld_one (shTOf rfl) (own (hme _ SBt) rfl)))) | ((with_reducible apply kQO (.load 35 _)); refine qP ?_ (o_load rfl (ld_one (shTOf rfl) (own (hme _ SBt) rfl)))) | ((with_reducible apply kRg 5); refine cD [1, 3, 1, 0, 0, 0, 0, 0, 0, 0, 0, 0, 1, 0, 0, 0, 1, 1, 1] ?_) | (with_reducible first | refine c_seq ?_ | refine c_reg ?_ | refine c_region ?_ | refine c_block ?_ | refine c_skip ?_ | refine c_exit ?_ | refine c_ret ?_ | refine s_nil ?_ | refine x_then ?_ | refine x_then_exit ?_ | refine x_then_ret ?_ | refine x_block ?_ | refine x_block_ret ?_ | refine x_block_same ?_ | refine x_block_other (by first | rfl | decide) ?_ | refine q_nil ?_ | refine k_nil ?_) | ((with_reducible apply kP (.box _ _)); first | refine sBA (fun b => ?_) | refine sB (fun b => ?_)) | ((with_reducible apply kP _); refine sP ?_) | ((with_reducible apply kP _); refine sX ?_) | ((with_reducible apply kC); first | refine cT ?_ | refine cF ?_ | (refine cI (fun h => ?_) (fun h => ?_) <;> (try (exfalso; omega))) | refine cB (fun h => ?_) (fun h => ?_)) | ((with_reducible apply kDP _); refine dP ?_) | ((with_reducible apply kDP _); refine dX ?_))
    exact e_ret2 (hs' := hs) rfl rfl rfl ⟨rfl, rfl⟩ (List.sublist_append_of_sublist_right (List.sublist_append_of_sublist_right (.cons _ (.refl _))))
  · have hv' : vdE ps.length (sdF ps) (anF ps) m sm e ≠ 0 := hv
    have hv2 : vdC ps sm m e = vdE ps.length (sdF ps) (anF ps) m sm e := rfl
    rw [if_neg hv, hv2]
    generalize vdE ps.length (sdF ps) (anF ps) m sm e = z at *
    refine fn_enter Tryz.func11 rfl Tryz.ntmps11 (by simp) ?_
    repeat' (first | ((with_reducible apply kP (.box 25 _)); refine sBA (fun b1 => ?_)) | ((with_reducible apply kF 13); refine sC 13 (kv _ SBt) ?_) | ((with_reducible apply kRg 5); refine cD [1, 3, 1, 0, 0, 0, 0, 0, 0, 0, 0, 0, 1, 0, 0, 0, 1, 1, 1] ?_) | (with_reducible first | refine c_seq ?_ | refine c_reg ?_ | refine c_region ?_ | refine c_block ?_ | refine c_skip ?_ | refine c_exit ?_ | refine c_ret ?_ | refine s_nil ?_ | refine x_then ?_ | refine x_then_exit ?_ | refine x_then_ret ?_ | refine x_block ?_ | refine x_block_ret ?_ | refine x_block_same ?_ | refine x_block_other (by first | rfl | decide) ?_ | refine q_nil ?_ | refine k_nil ?_) | ((with_reducible apply kP (.box _ _)); first | refine sBA (fun b => ?_) | refine sB (fun b => ?_)) | ((with_reducible apply kP _); refine sP ?_) | ((with_reducible apply kP _); refine sX ?_) | ((with_reducible apply kC); first | refine cT ?_ | refine cF ?_ | (refine cI (fun h => ?_) (fun h => ?_) <;> (try (exfalso; omega))) | refine cB (fun h => ?_) (fun h => ?_)) | ((with_reducible apply kDP _); refine dP ?_) | ((with_reducible apply kDP _); refine dX ?_))
    exact e_ret2 (hs' := hs) rfl rfl rfl ⟨rfl, rfl⟩ SCt
end Go.Proofs.YtmblgbcipniecaaGreatDoor

namespace Go.Proofs.YtmblgbcipniecaaGreatDoor
open Go.RowKit
attribute [local irreducible] OpF Ld CellAt
def pcK (b c : Nat) : Pc := ⟨some ⟨b, 0, none⟩, 4, [9, 9, 9, 9], some ⟨c, 0, none⟩, 4, [90, 90, 90, 90]⟩
theorem vdK (b c : Nat) : vdC [pcK b c] [0, 0, 0, 2] 1 0 = 0 := by kernel_rfl
theorem euK (b c : Nat) : euC [pcK b c] [0, 0, 0, 2] 1 = 0 := by kernel_rfl
theorem lpK (b c : Nat) : (lpsC [pcK b c] [0, 0, 0, 2] 1).length = 2 := by kernel_rfl
theorem Sv.own1 {B : Nat} {w0 : Wd} {hs : HS} {b : Nat} {l : List Value} (hm : (b, l) ∈ hs) : Sv B w0 hs (some ⟨b, 0, none⟩) l := fun i hi => ⟨rfl, fun w hw => by rw [ea_own, hw.cell hm, Nat.zero_add]⟩
theorem capK {B : Nat} {w0 : Wd} {hs : HS} {b2 b3 b4 b5 : Nat} (h2 : (b2, ivs [9, 9, 9, 9]) ∈ hs) (h3 : (b3, ivs [90, 90, 90, 90]) ∈ hs) (h4 : (b4, pcsv [pcK b2 b3]) ∈ hs) (h5 : (b5, ivs [0, 0, 0, 2]) ∈ hs) : CapM B w0 hs (some ⟨b4, 0, none⟩) (some ⟨b5, 0, none⟩) [pcK b2 b3] [0, 0, 0, 2] :=
  ⟨Sv.own1 h4, fun i hi => by
    obtain rfl : i = 0 := by simp at hi; omega
    exact Sl.own h2, fun i hi => by
    obtain rfl : i = 0 := by simp at hi; omega
    exact Sl.own h3, Sl.own h5⟩
attribute [local irreducible] Sl Sv pcA usP vdC euC lpsC
set_option maxRecDepth 100000 in
set_option maxHeartbeats 8000000 in
theorem k_known (B : Nat) (w0 : Wd) (hs : HS) : Fn Tryz.prog 5 #[] B w0 hs (fun v h => v = .bool true ∧ h = hs) := by
  refine fn_enter Tryz.func5 rfl Tryz.ntmps5 (by simp) ?_
  repeat' (first | ((with_reducible apply kP (.buildSlice 22 1 _)); refine sl1A (fun b4 => ?_)) | ((with_reducible apply kP (.buildSlice 23 1 _)); refine sl1A (fun b5 => ?_)) | ((with_reducible apply kP (.alloc 25)); refine sA (fun b1 => ?_)) | ((with_reducible apply kF 51); skip; fail) | ((with_reducible apply kP (.build 39 _)); refine sP ?_ (o_build (out := [iv 0, iv 0, iv 0, iv 2]) rfl (zcTOf rfl) (plTOf rfl) rfl)) | ((with_reducible apply kDP (.build 39 _)); refine dP ?_ (hX := rfl) (hv := o_build (out := [iv 0, iv 0, iv 0, iv 2]) rfl (zcTOf rfl) (plTOf rfl) rfl)) | ((with_reducible apply kQO (.build 39 _)); refine qP ?_ (o_build (out := [iv 0, iv 0, iv 0, iv 2]) rfl (zcTOf rfl) (plTOf rfl) rfl)) | ((with_reducible apply kP (.build 25 _)); refine sP ?_ (o_build (out := [.slice (some ⟨b4, 0, none⟩) 1 1, .slice (some ⟨b5, 0, none⟩) 1 1, iv 0]) rfl (zcTOf rfl) (plTOf rfl) rfl)) | ((with_reducible apply kDP (.build 25 _)); refine dP ?_ (hX := rfl) (hv := o_build (out := [.slice (some ⟨b4, 0, none⟩) 1 1, .slice (some ⟨b5, 0, none⟩) 1 1, iv 0]) rfl (zcTOf rfl) (plTOf rfl) rfl)) | ((with_reducible apply kQO (.build 25 _)); refine qP ?_ (o_build (out := [.slice (some ⟨b4, 0, none⟩) 1 1, .slice (some ⟨b5, 0, none⟩) 1 1, iv 0]) rfl (zcTOf rfl) (plTOf rfl) rfl)) | ((with_reducible apply kN); refine stW ?_ (hf := flat_cons rfl (flat_cons rfl (flat1 rfl)))) | (with_reducible first | refine c_seq ?_ | refine c_reg ?_ | refine c_region ?_ | refine c_block ?_ | refine c_skip ?_ | refine c_exit ?_ | refine c_ret ?_ | refine s_nil ?_ | refine x_then ?_ | refine x_then_exit ?_ | refine x_then_ret ?_ | refine x_block ?_ | refine x_block_ret ?_ | refine x_block_same ?_ | refine x_block_other (by first | rfl | decide) ?_ | refine q_nil ?_ | refine k_nil ?_) | ((with_reducible apply kG); first | refine gY1 ?_ | refine gN1 ?_ | refine gU1 ?_ | (refine gD1 (fun h => ?_) (fun h => ?_) <;> (try (exfalso; omega))) | refine gB1 (fun h => ?_) (fun h => ?_)) | ((with_reducible apply kN); first | refine stP ?_ | refine stI ?_ | refine st1 ?_ | refine stW ?_) | ((with_reducible apply kP (.alloc _)); refine sA (fun b => ?_)) | ((with_reducible apply kP (.buildSlice _ 1 _)); first | refine sl1A (fun b => ?_) | refine sl1 (fun b => ?_)) | ((with_reducible apply kP (.buildSlice _ 4 _)); refine sl4 (fun b => ?_)) | ((with_reducible apply kP _); refine sP ?_) | ((with_reducible apply kP _); refine sX ?_) | ((with_reducible apply kC); first | refine cT ?_ | refine cF ?_ | (refine cI (fun h => ?_) (fun h => ?_) <;> (try (exfalso; omega))) | refine cB (fun h => ?_) (fun h => ?_)))
  rename_i b2
  have hE := fun hs' (h : CapM B w0 hs' (some ⟨b4, 0, none⟩) (some ⟨b5, 0, none⟩) [pcK b2 b] [0, 0, 0, 2]) => k_Euler [pcK b2 b] (some ⟨b4, 0, none⟩) (some ⟨b5, 0, none⟩) 1 1 1 [0, 0, 0, 2] 0 (by show 1 ≤ 10000; decide) rfl (by decide) B w0 hs' h
  have hL := fun hs' (h : CapM B w0 hs' (some ⟨b4, 0, none⟩) (some ⟨b5, 0, none⟩) [pcK b2 b] [0, 0, 0, 2]) => k_Loops [pcK b2 b] (some ⟨b4, 0, none⟩) (some ⟨b5, 0, none⟩) 1 1 1 [0, 0, 0, 2] 0 (by show 1 ≤ 10000; decide) rfl (by decide) B w0 hs' h
  rw [vdK, if_pos rfl, euK] at hE
  have hL2 : ∀ hs' (h : CapM B w0 hs' (some ⟨b4, 0, none⟩) (some ⟨b5, 0, none⟩) [pcK b2 b] [0, 0, 0, 2]), Fn Tryz.prog 12 #[.agg #[.slice (some ⟨b4, 0, none⟩) 1 1, .slice (some ⟨b5, 0, none⟩) 1 1, iv 0]] B w0 hs' (fun v h => ∃ blk, (∃ oa c, v = .tuple #[.slice oa 2 c, iv 0]) ∧ h = blk ++ hs') := fun hs' h => (hL hs' h).mono (by
    rintro v h' (⟨h1, _⟩ | ⟨_, x, blk, hx, rfl, rfl⟩)
    · exact absurd (vdK _ _) h1
    · obtain ⟨oa, c, rfl⟩ := LrR.v hx
      rw [List.length_map, lpK]
      exact ⟨blk, ⟨oa, c, rfl⟩, rfl⟩)
  repeat' (first | ((with_reducible apply kF 11); refine sC 11 (hE _ (capK (.tail _ (.tail _ (.tail _ (.tail _ (.head _))))) (.tail _ (.tail _ (.tail _ (.head _)))) (.tail _ (.tail _ (.head _))) (.tail _ (.head _)))) ?_) | ((with_reducible apply kF 12); refine sR 12 (hL2 _ (capK (.tail _ (.tail _ (.tail _ (.tail _ (.head _))))) (.tail _ (.tail _ (.tail _ (.head _)))) (.tail _ (.tail _ (.head _))) (.tail _ (.head _)))) ?_; rintro v7 h7 ⟨blk7, ⟨oa7, c7, rfl⟩, rfl⟩) | (with_reducible first | refine c_seq ?_ | refine c_reg ?_ | refine c_region ?_ | refine c_block ?_ | refine c_skip ?_ | refine c_exit ?_ | refine c_ret ?_ | refine s_nil ?_ | refine x_then ?_ | refine x_then_exit ?_ | refine x_then_ret ?_ | refine x_block ?_ | refine x_block_ret ?_ | refine x_block_same ?_ | refine x_block_other (by first | rfl | decide) ?_ | refine q_nil ?_ | refine k_nil ?_) | ((with_reducible apply kG); first | refine gY1 ?_ | refine gN1 ?_ | refine gU1 ?_ | (refine gD1 (fun h => ?_) (fun h => ?_) <;> (try (exfalso; omega))) | refine gB1 (fun h => ?_) (fun h => ?_)) | ((with_reducible apply kN); first | refine stP ?_ | refine stI ?_ | refine st1 ?_ | refine stW ?_) | ((with_reducible apply kP (.alloc _)); refine sA (fun b => ?_)) | ((with_reducible apply kP (.buildSlice _ 1 _)); first | refine sl1A (fun b => ?_) | refine sl1 (fun b => ?_)) | ((with_reducible apply kP (.buildSlice _ 4 _)); refine sl4 (fun b => ?_)) | ((with_reducible apply kP _); refine sP ?_) | ((with_reducible apply kP _); refine sX ?_) | ((with_reducible apply kC); first | refine cT ?_ | refine cF ?_ | (refine cI (fun h => ?_) (fun h => ?_) <;> (try (exfalso; omega))) | refine cB (fun h => ?_) (fun h => ?_)))
  exact e_ret1 (hs' := hs) rfl rfl ⟨rfl, rfl⟩ (List.sublist_append_of_sublist_right (.cons _ (.cons _ (.cons _ (.cons _ (.cons _ (.refl _)))))))
end Go.Proofs.YtmblgbcipniecaaGreatDoor
