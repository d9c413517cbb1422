/- One want is served. -/
import Derived.Test.YtphobgibcpmgdaaMD6
namespace Go.Proofs.Ytphobgibcpmgdaa
open Go.RowKit

theorem Fn.perm {P : Program} {g B : Nat} {w0 : Wd} {args : Array Value} {hs hs' : HS} {R R' : Value → HS → Prop} (h : Fn P g args B w0 hs R) (p : hs'.Perm hs) (hR : ∀ u x, R u x → ∃ y, x.Perm y ∧ R' u y) : Fn P g args B w0 hs' R' := fn_mk fun w hw => by
  refine (fn_el h w (hw.perm p)).mono ?_
  rintro e w' ⟨v, x, rfl, hx, hw'⟩
  obtain ⟨y, hp, hy⟩ := hR v x hx
  exact ⟨v, y, rfl, hy, hw'.perm hp⟩
/-- Where a table lies, as fill keeps it. -/
structure TQ where
  N : Nat
  M : Nat
  lz : List Int
  wz : List Int
  pT : Nat
  pS : Nat
  pL : Nat
  cL : Nat
  cW : Nat
  oaL : Option Addr
  oaW : Option Addr
  pr : Nat → Nat
  oaG : Option Addr
  cG : Nat
  Y : HS
abbrev TQ.st (q : TQ) (mkv : Value) : List Value := [.slice q.oaL q.N q.cL, .slice q.oaW q.M q.cW, .slice q.oaG q.M q.cG, .slice (some ⟨q.pS, 0, none⟩) q.N q.N, .slice (some ⟨q.pL, 0, none⟩) q.M q.M, mkv]
abbrev TB (q : TQ) (lk : Nat → Int) (mkv : Value) (t : FS) (hs : HS) : HS :=
  (q.pT, q.st mkv) :: (q.pL, ivs (tab q.M lk)) :: (q.pS, ivs (tab q.N t.s)) :: (q.Y ++ (rws q.N q.pr t.g q.M ++ hs))
def srv (N M : Nat) (nr : Nat → Nat → Bool) (w : Nat) (n : Int) (t : FS) : Int × FS := srch N M nr M w n ⟨t.g, t.s, fun _ => false⟩
theorem spn_ne {N M : Nat} {pr : Nat → Nat} (h : 0 < M) : spn N pr M ≠ [] := by
  unfold spn
  intro e
  have := congrArg List.length e
  simp at this
  omega
theorem pm_to {c7 pM c3 pT pL pS pG : Nat × List Value} {r : HS} : (c7 :: pM :: c3 :: pT :: pL :: pS :: ([pG] ++ r)).Perm (c3 :: c7 :: pT :: pM :: pS :: pL :: pG :: r) := by
  show (c7 :: pM :: c3 :: pT :: pL :: pS :: pG :: r).Perm (c3 :: c7 :: pT :: pM :: pS :: pL :: pG :: r)
  refine .trans (.cons _ (.swap _ _ _)) ?_
  refine .trans (.swap _ _ _) ?_
  refine .cons _ (.cons _ ?_)
  refine .trans (.swap _ _ _) ?_
  exact .cons _ (.cons _ (.swap _ _ _))
theorem pm_of {c7 pM c3 pT pL pS pG : Nat × List Value} {r : HS} : (c3 :: c7 :: pT :: pM :: pS :: pL :: pG :: r).Perm (c3 :: c7 :: pM :: pT :: pL :: pS :: ([pG] ++ r)) := by
  show (c3 :: c7 :: pT :: pM :: pS :: pL :: pG :: r).Perm (c3 :: c7 :: pM :: pT :: pL :: pS :: pG :: r)
  refine .cons _ (.cons _ ?_)
  refine .trans (.swap _ _ _) ?_
  exact .cons _ (.cons _ (.swap _ _ _))
set_option maxRecDepth 100000 in
set_option maxHeartbeats 8000000 in
theorem k_serve (q : TQ) (lk : Nat → Int) (mkv : Value) (hmk : mkv.cells = #[mkv]) (hN : q.N ≤ 6) (hM : q.M ≤ 6) (hl : q.lz.length = q.N * 4) (hwz : q.wz.length = q.M * 5) (hY : RowOk q.oaG q.cG 1 (spn q.N q.pr q.M) q.Y) (w : Nat) (n : Int) (t : FS) (hw : w < q.M) (hok : t.Ok q.N q.M) (hbd : t.Bd q.N q.M) (hn : 0 < n) (hn2 : n ≤ 1000) (B : Nat) (w0 : Wd) (hs : HS) (hL : Sl B w0 hs q.oaL q.lz) (hW : Sl B w0 hs q.oaW q.wz) :
    Fn Try.prog 67 #[pt q.pT, iv w, iv n] B w0 (TB q lk mkv t hs) (fun v h => ∃ pM, v = iv (srv q.N q.M (nrF q.lz q.wz) w n t).1 ∧ h = (pM, bvs q.M (srv q.N q.M (nrF q.lz q.wz) w n t).2.md) :: TB q lk (.slice (some ⟨pM, 0, none⟩) q.M q.M) (srv q.N q.M (nrF q.lz q.wz) w n t).2 hs) := by
  obtain ⟨N, M, lz, wz, pT, pS, pL, cL, cW, oaL, oaW, pr, oaG, cG, Y⟩ := q
  dsimp only at *
  rcases hY with ⟨_, _, h, _⟩ | ⟨pG, gz, rfl, rfl, _, _⟩
  · exact absurd h (spn_ne (by omega))
  have key := fun c3 c7 pM => k_srch ⟨N, M, lz, wz, lk, c3, c7, pT, pM, pS, pL, pG, cL, cW, cG, oaL, oaW, pr, gz⟩ hN hM hl hwz M w n ⟨t.g, t.s, fun _ => false⟩ hw rfl (unm_max _ _) hok hbd hn hn2 B w0 hs hL hW
  simp only [TB, TQ.st]
  refine fn_enter Try.func67 rfl Try.ntmps67 (by simp) ?_
  repeat' (first | ((with_reducible apply kDP (.makeSlice _ _ _)); refine dMkZ (fun b => ?_); rw [bvs_false]) | ((with_reducible apply kRg 1); refine cD [1, 1, 1, 1, 1, 1, 2, 1, 1, 4] ?_) | (with_reducible first | refine c_seq ?_ | refine c_reg ?_ | refine c_region ?_ | refine c_block ?_ | refine c_skip ?_ | refine c_exit ?_ | refine c_ret ?_ | refine s_nil ?_ | refine x_then ?_ | refine x_then_exit ?_ | refine x_then_ret ?_ | refine x_block ?_ | refine x_block_ret ?_ | refine x_block_same ?_ | refine x_block_other (by rfl) ?_ | refine q_nil ?_ | refine k_nil ?_) | ((with_reducible apply kP (.makeFunc _ _ _)); refine sMF ?_) | ((with_reducible apply kG); first | refine gY1 ?_ | refine gN1 ?_ | refine gU1 ?_ | (refine gD1 (fun h => ?_) (fun h => ?_) <;> (try (exfalso; omega))) | refine gB1 (fun h => ?_) (fun h => ?_)) | ((with_reducible apply kN); first | refine stP ?_ | refine stI ?_ | refine st1 ?_ | refine stW ?_) | ((with_reducible apply kP (.alloc _)); refine sA (fun b => ?_)) | ((with_reducible apply kP (.box _ _)); first | refine sBA (fun b => ?_) | refine sB (fun b => ?_)) | ((with_reducible apply kP (.buildSlice _ 1 _)); first | refine sl1A (fun b => ?_) | refine sl1 (fun b => ?_)) | ((with_reducible apply kP (.buildSlice _ 2 _)); refine sl2 (fun b => ?_)) | ((with_reducible apply kP (.buildSlice _ 3 _)); refine sl3 (fun b => ?_)) | ((with_reducible apply kP (.buildSlice _ 4 _)); refine sl4 (fun b => ?_)) | ((with_reducible apply kP (.buildSlice _ 0 _)); refine s_bs0 (scTOf rfl) (zsTOf rfl) (by decide) (fun b => ?_)) | ((with_reducible apply kP (.makeSlice _ _ _)); refine sMk (fun b => ?_)) | ((with_reducible apply kP (.call ⟨.builtin .append, _, _⟩)); refine sAp (fun oa2 c2 blk2 hrow2 => ?_)) | ((with_reducible apply kP _); refine sP ?_) | ((with_reducible apply kP _); refine sX ?_) | ((with_reducible apply kQG); first | refine qY1 ?_ | refine qN1 ?_ | refine qU1 ?_ | (refine qD1 (fun h => ?_) (fun h => ?_) <;> (try (exfalso; omega))) | refine qB1 (fun h => ?_) (fun h => ?_)) | ((with_reducible apply kQP); refine qP ?_) | ((with_reducible apply kQP); refine qX ?_) | ((with_reducible apply kC); first | refine cT ?_ | refine cF ?_ | (refine cI (fun h => ?_) (fun h => ?_) <;> (try (exfalso; omega))) | refine cB (fun h => ?_) (fun h => ?_)) | ((with_reducible apply kR); refine cQ ?_) | ((with_reducible apply kDG); first | refine dY1 ?_ | refine dNo1 ?_ | refine dU1 ?_ | (refine dD1 (fun h => ?_) (fun h => ?_) <;> (try (exfalso; omega))) | refine dB1 (fun h => ?_) (fun h => ?_)) | ((with_reducible apply kDN); first | refine dtI ?_ | refine dt1 ?_ | refine dtW ?_) | ((with_reducible apply kDP (.alloc _)); refine dA (fun b => ?_)) | ((with_reducible apply kDP (.box _ _)); first | refine dBA (fun b => ?_) | refine dB (fun b => ?_)) | ((with_reducible apply kDP (.buildSlice _ 1 _)); first | refine dl1A (fun b => ?_) | refine dl1 (fun b => ?_)) | ((with_reducible apply kDP (.call ⟨.builtin .append, _, _⟩)); first | refine dAp3 (fun oa2 c2 blk2 hrow2 => ?_) (hS := SCt) | refine dAp4 (fun oa2 c2 blk2 hrow2 => ?_)) | ((with_reducible apply kDP _); refine dP ?_) | ((with_reducible apply kDP _); refine dX ?_))
  rename_i c3 pM
  refine sFG (g := 81) (R := fun u h => u = iv (srv N M (nrF lz wz) w n t).1 ∧ h = (c3, [pt pT]) :: (b, [.func (.func 81) #[] #[pt c3, pt b]]) :: (pM, bvs M (srv N M (nrF lz wz) w n t).2.md) :: TB ⟨N, M, lz, wz, pT, pS, pL, cL, cW, oaL, oaW, pr, some ⟨pG, 0, none⟩, cG, [(pG, spn N pr M ++ gz)]⟩ lk (.slice (some ⟨pM, 0, none⟩) M M) (srv N M (nrF lz wz) w n t).2 hs) (Fn.perm (key c3 b pM) pm_to (by
    rintro u x ⟨rfl, rfl⟩
    exact ⟨_, pm_of, rfl, rfl⟩)) ?_ (goF rfl)
  rintro u h' ⟨rfl, rfl⟩
  repeat' (first | ((with_reducible apply kRg 1); refine cD [1, 1, 1, 1, 1, 1, 2, 1, 1, 4] ?_) | (with_reducible first | refine c_seq ?_ | refine c_reg ?_ | refine c_region ?_ | refine c_block ?_ | refine c_skip ?_ | refine c_exit ?_ | refine c_ret ?_ | refine s_nil ?_ | refine x_then ?_ | refine x_then_exit ?_ | refine x_then_ret ?_ | refine x_block ?_ | refine x_block_ret ?_ | refine x_block_same ?_ | refine x_block_other (by rfl) ?_ | refine q_nil ?_ | refine k_nil ?_) | ((with_reducible apply kP (.makeFunc _ _ _)); refine sMF ?_) | ((with_reducible apply kG); first | refine gY1 ?_ | refine gN1 ?_ | refine gU1 ?_ | (refine gD1 (fun h => ?_) (fun h => ?_) <;> (try (exfalso; omega))) | refine gB1 (fun h => ?_) (fun h => ?_)) | ((with_reducible apply kN); first | refine stP ?_ | refine stI ?_ | refine st1 ?_ | refine stW ?_) | ((with_reducible apply kP (.alloc _)); refine sA (fun b => ?_)) | ((with_reducible apply kP (.box _ _)); first | refine sBA (fun b => ?_) | refine sB (fun b => ?_)) | ((with_reducible apply kP (.buildSlice _ 1 _)); first | refine sl1A (fun b => ?_) | refine sl1 (fun b => ?_)) | ((with_reducible apply kP (.buildSlice _ 2 _)); refine sl2 (fun b => ?_)) | ((with_reducible apply kP (.buildSlice _ 3 _)); refine sl3 (fun b => ?_)) | ((with_reducible apply kP (.buildSlice _ 4 _)); refine sl4 (fun b => ?_)) | ((with_reducible apply kP (.buildSlice _ 0 _)); refine s_bs0 (scTOf rfl) (zsTOf rfl) (by decide) (fun b => ?_)) | ((with_reducible apply kP (.makeSlice _ _ _)); refine sMk (fun b => ?_)) | ((with_reducible apply kP (.call ⟨.builtin .append, _, _⟩)); refine sAp (fun oa2 c2 blk2 hrow2 => ?_)) | ((with_reducible apply kP _); refine sP ?_) | ((with_reducible apply kP _); refine sX ?_) | ((with_reducible apply kQG); first | refine qY1 ?_ | refine qN1 ?_ | refine qU1 ?_ | (refine qD1 (fun h => ?_) (fun h => ?_) <;> (try (exfalso; omega))) | refine qB1 (fun h => ?_) (fun h => ?_)) | ((with_reducible apply kQP); refine qP ?_) | ((with_reducible apply kQP); refine qX ?_) | ((with_reducible apply kC); first | refine cT ?_ | refine cF ?_ | (refine cI (fun h => ?_) (fun h => ?_) <;> (try (exfalso; omega))) | refine cB (fun h => ?_) (fun h => ?_)) | ((with_reducible apply kR); refine cQ ?_) | ((with_reducible apply kDG); first | refine dY1 ?_ | refine dNo1 ?_ | refine dU1 ?_ | (refine dD1 (fun h => ?_) (fun h => ?_) <;> (try (exfalso; omega))) | refine dB1 (fun h => ?_) (fun h => ?_)) | ((with_reducible apply kDN); first | refine dtI ?_ | refine dt1 ?_ | refine dtW ?_) | ((with_reducible apply kDP (.alloc _)); refine dA (fun b => ?_)) | ((with_reducible apply kDP (.box _ _)); first | refine dBA (fun b => ?_) | refine dB (fun b => ?_)) | ((with_reducible apply kDP (.buildSlice _ 1 _)); first | refine dl1A (fun b => ?_) | refine dl1 (fun b => ?_)) | ((with_reducible apply kDP (.call ⟨.builtin .append, _, _⟩)); first | refine dAp3 (fun oa2 c2 blk2 hrow2 => ?_) (hS := SCt) | refine dAp4 (fun oa2 c2 blk2 hrow2 => ?_)) | ((with_reducible apply kDP _); refine dP ?_) | ((with_reducible apply kDP _); refine dX ?_))
  exact e_ret1 rfl rfl ⟨pM, rfl, rfl⟩ (.cons _ (.cons _ (.refl _)))
end Go.Proofs.Ytphobgibcpmgdaa
