/- HairHandfulsFall holds: handfuls, mixed, are the bundle, and their means never rise. -/
import Derived.Test.YtiopaodiaokfdaaH30
import Derived.Test.YtiopaodiaokfdaaClose2
namespace Go.Proofs.Ytiopaodiaokfdaa
open Go.RowKit Go.ChangeShapes Go.WideShapes Go.ChangeAt

theorem Ld_sub {B : Nat} {w0 : World} {hs hs' : HS} {t : TypeId} {ad : Addr} {v : Value} (h : Ld Try.prog B w0 hs t ad v) (hsub : hs.Sublist hs') : Ld Try.prog B w0 hs' t ad v := fun w hw => h w (hw.sub hsub)
theorem gz_dvdE {p q : Int} (hp : 0 ≤ p) (hq : 1 ≤ q) : gz p q ∣ p ∧ gz p q ∣ q := by
  obtain ⟨a, rfl⟩ := Int.eq_ofNat_of_zero_le hp
  obtain ⟨m, rfl⟩ := Int.eq_ofNat_of_zero_le (show 0 ≤ q by omega)
  unfold gz
  rw [Int.toNat_natCast, Int.toNat_natCast]
  exact ⟨Int.natCast_dvd_natCast.2 (Nat.gcd_dvd_left _ _), Int.natCast_dvd_natCast.2 (Nat.gcd_dvd_right _ _)⟩
theorem frac_le {a m b n : Int} (ha : 0 ≤ a) (hm : 1 ≤ m) (hb : 0 ≤ b) (hn : 1 ≤ n) (h : b * m ≤ a * n) : b / gz b n * (m / gz a m) ≤ a / gz a m * (n / gz b n) := by
  have ga := gz_pos (p := a) (q := m) hm
  have gb := gz_pos (p := b) (q := n) hn
  obtain ⟨da, dm⟩ := gz_dvdE ha hm
  obtain ⟨db, dn⟩ := gz_dvdE hb hn
  have e := mean_sign (g := gz a m) (h := gz b n) (by omega) (by omega) dm da db dn
  have hk := Int.mul_pos (show 0 < gz a m by omega) (show 0 < gz b n by omega)
  by_cases hd : b / gz b n * (m / gz a m) ≤ a / gz a m * (n / gz b n)
  · exact hd
  · have := Int.mul_pos hk (show 0 < b / gz b n * (m / gz a m) - a / gz a m * (n / gz b n) by omega)
    have e2 : gz a m * gz b n * (a / gz a m * (n / gz b n) - b / gz b n * (m / gz a m)) = - (gz a m * gz b n * (b / gz b n * (m / gz a m) - a / gz a m * (n / gz b n))) := by rw [← Int.mul_neg]; congr 1; omega
    omega
structure FS where
  i : Nat
  o1 : Option Addr
  o2 : Option Addr
  c1 : Nat
  c2 : Nat
  X : HS
set_option maxRecDepth 100000 in
set_option maxHeartbeats 8000000 in
theorem l_fall (o1 o2 : Option Addr) (c1 c2 : Nat) (r g : List Int) (n : Int) (B : Nat) (w0 : World) (hs : HS) (h1 : Sl B w0 hs o1 r) (h2 : Sl B w0 hs o2 g) :
    Fn Try.prog 15 #[bv o1 o2 r.length g.length c1 c2, iv n] B w0 hs (fun v _ => v = .bool true) := by
  have f1 := fun hs q1 q2 => h_Handfuls o1 o2 c1 c2 r g n B w0 hs q1 q2
  refine fn_enter Try.func15 rfl Try.ntmps15 (by simp) ?_
  by_cases hE : hfE r g n = 0
  rotate_left
  · rw [show hfM r g n = 0 from if_neg hE] at f1
    generalize hfE r g n = e at *
    repeat' (first | ((with_reducible apply kF 17); refine sC 17 (l_long o1 o2 _ _ c1 c2 B w0 _) ?_) | ((with_reducible apply kF 18); refine sC 18 (l_known B w0 _) ?_) | ((with_reducible apply kF 52); refine sN 52 (f1 _ (h1.sub SBt) (h2.sub SBt)) ?_; rintro u ka ⟨oa, c, cells, Y, X, rfl, hrow, hbc, rfl⟩; rw [List.append_assoc]) | ((with_reducible apply kRg 10); refine cD [1, 1, 1, 1, 1, 3, 1, 1, 0, 2, 3, 1] ?_) | (with_reducible first | refine c_seq ?_ | refine c_reg ?_ | refine c_region ?_ | refine c_block ?_ | refine c_skip ?_ | refine c_exit ?_ | refine c_ret ?_ | refine s_nil ?_ | refine x_then ?_ | refine x_then_exit ?_ | refine x_then_ret ?_ | refine x_block ?_ | refine x_block_ret ?_ | refine x_block_same ?_ | refine x_block_other (by rfl) ?_ | refine q_nil ?_ | refine k_nil ?_) | ((with_reducible apply kP (.makeFunc _ _ _)); refine sMF ?_) | ((with_reducible apply kG); first | refine gY1 ?_ | refine gN1 ?_ | refine gU1 ?_ | (refine gD1 (fun h => ?_) (fun h => ?_) <;> (try (exfalso; omega))) | refine gB1 (fun h => ?_) (fun h => ?_)) | ((with_reducible apply kN); first | refine stP ?_ | refine stI ?_ | refine st1 ?_ | refine stW ?_) | ((with_reducible apply kP (.alloc _)); refine sA (fun b => ?_)) | ((with_reducible apply kP (.box _ _)); first | refine sBA (fun b => ?_) | refine sB (fun b => ?_)) | ((with_reducible apply kP (.buildSlice _ 1 _)); first | refine sl1A (fun b => ?_) | refine sl1 (fun b => ?_)) | ((with_reducible apply kP (.buildSlice _ 2 _)); refine sl2 (fun b => ?_)) | ((with_reducible apply kP (.buildSlice _ 3 _)); refine sl3 (fun b => ?_)) | ((with_reducible apply kP (.buildSlice _ 4 _)); refine sl4 (fun b => ?_)) | ((with_reducible apply kP (.buildSlice _ 0 _)); refine s_bs0 (scTOf rfl) (zsTOf rfl) (by decide) (fun b => ?_)) | ((with_reducible apply kP (.makeSlice _ _ _)); refine sMk (fun b => ?_)) | ((with_reducible apply kP (.call ⟨.builtin .append, _, _⟩)); refine sAp (fun oa2 c2 blk2 hrow2 => ?_)) | ((with_reducible apply kP _); refine sP ?_) | ((with_reducible apply kP _); refine sX ?_) | ((with_reducible apply kQG); first | refine qY1 ?_ | refine qN1 ?_ | refine qU1 ?_ | (refine qD1 (fun h => ?_) (fun h => ?_) <;> (try (exfalso; omega))) | refine qB1 (fun h => ?_) (fun h => ?_)) | ((with_reducible apply kQP); refine qP ?_) | ((with_reducible apply kQP); refine qX ?_) | ((with_reducible apply kC); first | refine cT ?_ | refine cF ?_ | (refine cI (fun h => ?_) (fun h => ?_) <;> (try (exfalso; omega))) | refine cB (fun h => ?_) (fun h => ?_)) | ((with_reducible apply kR); refine cQ ?_) | ((with_reducible apply kDG); first | refine dY1 ?_ | refine dNo1 ?_ | refine dU1 ?_ | (refine dD1 (fun h => ?_) (fun h => ?_) <;> (try (exfalso; omega))) | refine dB1 (fun h => ?_) (fun h => ?_)) | ((with_reducible apply kDN); first | refine dtI ?_ | refine dt1 ?_ | refine dtW ?_) | ((with_reducible apply kDP (.alloc _)); refine dA (fun b => ?_)) | ((with_reducible apply kDP (.box _ _)); first | refine dBA (fun b => ?_) | refine dB (fun b => ?_)) | ((with_reducible apply kDP (.buildSlice _ 1 _)); first | refine dl1A (fun b => ?_) | refine dl1 (fun b => ?_)) | ((with_reducible apply kDP (.call ⟨.builtin .append, _, _⟩)); first | refine dAp3 (fun oa2 c2 blk2 hrow2 => ?_) (hS := SCt) | refine dAp4 (fun oa2 c2 blk2 hrow2 => ?_)) | ((with_reducible apply kDP _); refine dP ?_) | ((with_reducible apply kDP _); refine dX ?_))
    all_goals first
      | exact e_ret1 rfl rfl rfl SCt
      | exact absurd rfl ‹¬ _ = _›
      | (exfalso; omega)
  have hv : vErr r g = 0 := by
    by_cases hv : vErr r g = 0
    · exact hv
    · unfold hfE at hE; rw [if_neg hv] at hE; exact absurd hE hv
  have hn : 1 ≤ n := by
    by_cases hn : n < 1
    · unfold hfE at hE; rw [if_pos hv, if_pos hn] at hE; omega
    · omega
  have hC : hfC (cn r) (cn g) n ≤ 200 := by
    by_cases h : 200 < hfC (cn r) (cn g) n
    · unfold hfE at hE; rw [if_pos hv, if_neg (by omega), if_pos h] at hE; omega
    · omega
  rw [show hfM r g n = hfC (cn r) (cn g) n from if_pos hE, hE] at f1
  obtain ⟨hr, hg, q3, q4, q5, q6⟩ := vErr_zero hv
  have k1 := okh_cn q3 q5; have k2 := okh_cn q4 q6
  have hcb := cnt_to (cn r) (cn g) 1 (okh_okf k1) (okh_okf k2) 25 (by omega)
  have hcb2 : cnt (cn r) (cn g) 1 = sumTo (fun i => if 1 ≤ i ∧ (1 : Int) ≤ i then cn r i + cn g i else 0) 25 := rfl
  rw [← hcb2] at hcb
  have hcnt := fun i : Nat => hfC_lt (f := cn r) (g := cn g) (n := n) hn (by omega) i
  have hleft := fun i : Nat => hf_left k1 k2 hn i
  have hNv : ∀ i : Nat, i < hfC (cn r) (cn g) n → 1 ≤ hfN (cn r) (cn g) n i ∧ hfN (cn r) (cn g) n i ≤ n ∧ (i + 1 < hfC (cn r) (cn g) n → hfN (cn r) (cn g) n i = n) := fun i hi => by
    have a := (hcnt i).1 hi
    have b := hleft i
    have e4 : ((i + 1 : Nat) : Int) * n = i * n + n := by rw [show ((i + 1 : Nat) : Int) = (i : Int) + 1 by omega, Int.add_mul, Int.one_mul]
    unfold hfN
    refine ⟨by omega, by omega, fun h => ?_⟩
    have c := (hcnt (i + 1)).1 h
    omega
  have hend : cnt (leF r g (hfD r g n (hfC (cn r) (cn g) n))) (leG r g (hfD r g n (hfC (cn r) (cn g) n))) 1 = 0 := by
    have a := hleft (hfC (cn r) (cn g) n)
    have b := hcnt (hfC (cn r) (cn g) n)
    rw [hfS_le hv hn] at a
    have a' : cnt (leF r g (hfD r g n (hfC (cn r) (cn g) n))) (leG r g (hfD r g n (hfC (cn r) (cn g) n))) 1 = max 0 (cnt (cn r) (cn g) 1 - (hfC (cn r) (cn g) n) * n) := a
    omega
  obtain ⟨hs1, hs2⟩ := dr_all hv (hfD_to hv hn (hfC (cn r) (cn g) n)) hend
  have hmx := fun i => hf_mix (r := r) (g := g) hv hn i
  have hok := fun i => hf_okR (r := r) (g := g) hv hn i
  have hfl := fun i => hf_fall (r := r) (g := g) hv hn i
  have hz1 : trm (drF r g (hfD r g n 0)) = [] := (dr_zero hv).1
  have hz2 : trm (drG r g (hfD r g n 0)) = [] := (dr_zero hv).2
  have hinc : ∀ i, 0 ≤ inc (cn (hfR r g n i)) (cn (hfL r g n i)) ∧ inc (cn (hfR r g n i)) (cn (hfL r g n i)) ≤ 12500000000 := fun i => by
    obtain ⟨_, _, x3, x4, x5, x6⟩ := vErr_zero (hok i).1
    exact inc_to _ _ (okf_cn x3 x5) (okf_cn x4 x6) 25 (by omega)
  have hct : ∀ i, cnt (cn (hfR r g n i)) (cn (hfL r g n i)) 1 ≤ 500000000 := fun i => by
    obtain ⟨_, _, x3, x4, x5, x6⟩ := vErr_zero (hok i).1
    exact (cnt_to _ _ 1 (okf_cn x3 x5) (okf_cn x4 x6) 25 (by omega)).2
  generalize hfC (cn r) (cn g) n = m at *
  generalize hA : (fun i => trm (drF r g (hfD r g n i))) = A at *
  generalize hB' : (fun i => trm (drG r g (hfD r g n i))) = A' at *
  have hAi : ∀ i, trm (drF r g (hfD r g n i)) = A i := fun i => congrFun hA i
  have hBi : ∀ i, trm (drG r g (hfD r g n i)) = A' i := fun i => congrFun hB' i
  simp only [hAi, hBi] at hs1 hs2 hmx hz1 hz2
  generalize hfR r g n = R at *
  generalize hfL r g n = G at *
  generalize hfN (cn r) (cn g) n = N at *
  clear hcnt hleft hend hAi hBi hA hB' hcb hcb2
  repeat' (first | ((with_reducible apply kF 17); refine sC 17 (l_long o1 o2 _ _ c1 c2 B w0 _) ?_) | ((with_reducible apply kF 18); refine sC 18 (l_known B w0 _) ?_) | ((with_reducible apply kF 52); refine sN 52 (f1 _ (h1.sub SBt) (h2.sub SBt)) ?_; rintro u ka ⟨oa, c, cells, Y, X, rfl, hrow, hbc, rfl⟩; rw [List.append_assoc]) | ((with_reducible apply kRg 10); refine cD [1, 1, 1, 1, 1, 3, 1, 1, 0, 2, 3, 1] ?_) | (with_reducible first | refine c_seq ?_ | refine c_reg ?_ | refine c_region ?_ | refine c_block ?_ | refine c_skip ?_ | refine c_exit ?_ | refine c_ret ?_ | refine s_nil ?_ | refine x_then ?_ | refine x_then_exit ?_ | refine x_then_ret ?_ | refine x_block ?_ | refine x_block_ret ?_ | refine x_block_same ?_ | refine x_block_other (by rfl) ?_ | refine q_nil ?_ | refine k_nil ?_) | ((with_reducible apply kP (.makeFunc _ _ _)); refine sMF ?_) | ((with_reducible apply kG); first | refine gY1 ?_ | refine gN1 ?_ | refine gU1 ?_ | (refine gD1 (fun h => ?_) (fun h => ?_) <;> (try (exfalso; omega))) | refine gB1 (fun h => ?_) (fun h => ?_)) | ((with_reducible apply kN); first | refine stP ?_ | refine stI ?_ | refine st1 ?_ | refine stW ?_) | ((with_reducible apply kP (.alloc _)); refine sA (fun b => ?_)) | ((with_reducible apply kP (.box _ _)); first | refine sBA (fun b => ?_) | refine sB (fun b => ?_)) | ((with_reducible apply kP (.buildSlice _ 1 _)); first | refine sl1A (fun b => ?_) | refine sl1 (fun b => ?_)) | ((with_reducible apply kP (.buildSlice _ 2 _)); refine sl2 (fun b => ?_)) | ((with_reducible apply kP (.buildSlice _ 3 _)); refine sl3 (fun b => ?_)) | ((with_reducible apply kP (.buildSlice _ 4 _)); refine sl4 (fun b => ?_)) | ((with_reducible apply kP (.buildSlice _ 0 _)); refine s_bs0 (scTOf rfl) (zsTOf rfl) (by decide) (fun b => ?_)) | ((with_reducible apply kP (.makeSlice _ _ _)); refine sMk (fun b => ?_)) | ((with_reducible apply kP (.call ⟨.builtin .append, _, _⟩)); refine sAp (fun oa2 c2 blk2 hrow2 => ?_)) | ((with_reducible apply kP _); refine sP ?_) | ((with_reducible apply kP _); refine sX ?_) | ((with_reducible apply kQG); first | refine qY1 ?_ | refine qN1 ?_ | refine qU1 ?_ | (refine qD1 (fun h => ?_) (fun h => ?_) <;> (try (exfalso; omega))) | refine qB1 (fun h => ?_) (fun h => ?_)) | ((with_reducible apply kQP); refine qP ?_) | ((with_reducible apply kQP); refine qX ?_) | ((with_reducible apply kC); first | refine cT ?_ | refine cF ?_ | (refine cI (fun h => ?_) (fun h => ?_) <;> (try (exfalso; omega))) | refine cB (fun h => ?_) (fun h => ?_)) | ((with_reducible apply kR); refine cQ ?_) | ((with_reducible apply kDG); first | refine dY1 ?_ | refine dNo1 ?_ | refine dU1 ?_ | (refine dD1 (fun h => ?_) (fun h => ?_) <;> (try (exfalso; omega))) | refine dB1 (fun h => ?_) (fun h => ?_)) | ((with_reducible apply kDN); first | refine dtI ?_ | refine dt1 ?_ | refine dtW ?_) | ((with_reducible apply kDP (.alloc _)); refine dA (fun b => ?_)) | ((with_reducible apply kDP (.box _ _)); first | refine dBA (fun b => ?_) | refine dB (fun b => ?_)) | ((with_reducible apply kDP (.buildSlice _ 1 _)); first | refine dl1A (fun b => ?_) | refine dl1 (fun b => ?_)) | ((with_reducible apply kDP (.call ⟨.builtin .append, _, _⟩)); first | refine dAp3 (fun oa2 c2 blk2 hrow2 => ?_) (hS := SCt) | refine dAp4 (fun oa2 c2 blk2 hrow2 => ?_)) | ((with_reducible apply kDP _); refine dP ?_) | ((with_reducible apply kDP _); refine dX ?_))
  all_goals try exact e_ret1 rfl rfl rfl SCt
  all_goals try exact absurd rfl ‹¬ _ = _›
  all_goals try (exfalso; omega)
  rename_i b2
  refine c_loop (fun s : FS => [(1, iv n), (2, .pointer (some ⟨b2, 0, none⟩)), (5, .slice oa m c), (7, .pointer (some ⟨b, 0, none⟩)), (8, iv s.i)])
    (fun s => s.X ++ (b, [.slice s.o1 (A s.i).length s.c1, .slice s.o2 (A' s.i).length s.c2]) :: (Y ++ (X ++ (b2, [.slice o1 r.length c1, .slice o2 g.length c2]) :: hs)))
    (fun s => s.i ≤ m ∧ Sl B w0 s.X s.o1 (A s.i) ∧ Sl B w0 s.X s.o2 (A' s.i)) (fun s => m - s.i) ⟨0, none, none, 0, 0, []⟩ ⟨by simp only; omega, by simp only [hz1]; exact .nil, by simp only [hz2]; exact .nil⟩ ⟨rfl, rfl, rfl, rfl, rfl, trivial⟩ (by simp only [hz1, hz2]; exact .refl _) ?_
  rintro ⟨i, a1, a2, ca1, ca2, Xa⟩ ⟨hi, hS1, hS2⟩
  simp only at hi hS1 hS2 ⊢
  have hba := BA.of (B := B) (w0 := w0) (hs := Y ++ (X ++ (b2, [.slice o1 r.length c1, .slice o2 g.length c2]) :: hs)) hrow hbc sbL (sbA sbL)
  have hX1 : Sl B w0 (Xa ++ (b, [.slice a1 (A i).length ca1, .slice a2 (A' i).length ca2]) :: (Y ++ (X ++ (b2, [.slice o1 r.length c1, .slice o2 g.length c2]) :: hs))) a1 (A i) := hS1.sub sbL
  have hX2 : Sl B w0 (Xa ++ (b, [.slice a1 (A i).length ca1, .slice a2 (A' i).length ca2]) :: (Y ++ (X ++ (b2, [.slice o1 r.length c1, .slice o2 g.length c2]) :: hs))) a2 (A' i) := hS2.sub sbL
  have hb1 : Sl B w0 (Xa ++ (b, [.slice a1 (A i).length ca1, .slice a2 (A' i).length ca2]) :: (Y ++ (X ++ (b2, [.slice o1 r.length c1, .slice o2 g.length c2]) :: hs))) o1 r := h1.sub (sbA (.cons _ (sbA (sbA (.cons _ (.refl _))))))
  have hb2 : Sl B w0 (Xa ++ (b, [.slice a1 (A i).length ca1, .slice a2 (A' i).length ca2]) :: (Y ++ (X ++ (b2, [.slice o1 r.length c1, .slice o2 g.length c2]) :: hs))) o2 g := h2.sub (sbA (.cons _ (sbA (sbA (.cons _ (.refl _))))))
  by_cases hi' : i < m
  · obtain ⟨g1, p1, p2, d1, d2, la, sa1, sa2⟩ := hba i hi'
    have la := la 24 (shTOf rfl)
    have la' := Ld_sub la (hs' := Xa ++ (b, [.slice a1 (A i).length ca1, .slice a2 (A' i).length ca2]) :: (Y ++ (X ++ (b2, [.slice o1 r.length c1, .slice o2 g.length c2]) :: hs))) (sbA (.cons _ (.refl _)))
    obtain ⟨m1, m2, m3⟩ := hmx i
    obtain ⟨v1, v2⟩ := hok i
    obtain ⟨n1, n2, n3⟩ := hNv i hi'
    have f5 := fun hs q1 q2 q3 q4 => h_Mix a1 a2 p1 p2 ca1 ca2 d1 d2 (A i) (A' i) (R i) (G i) B w0 hs q1 q2 q3 q4
    rw [m1, m2, m3] at f5
    have f6 := fun hs q1 q2 => h_countB p1 p2 d1 d2 (R i) (G i) B w0 hs q1 q2
    unfold aboveR at f6
    rw [v1, if_pos rfl, v2] at f6
    rcases i with _ | i
    · repeat' (first | ((with_reducible apply kDF 42); (first | refine dN3 42 (fun F => f5 _ (hX1.sub SBt) (hX2.sub SBt) (sa1.sub SBt) (sa2.sub SBt)) ?_ | refine dN4 42 (fun F => f5 _ (hX1.sub SBt) (hX2.sub SBt) (sa1.sub SBt) (sa2.sub SBt)) ?_); rintro u kx hN; obtain ⟨x1, x2, cx1, cx2, rfl, hx1, hx2, _⟩ := hN.use) | ((with_reducible apply kP (.load 24 _)); refine sP ?_ (o_load rfl (Ld_sub la SBt))) | ((with_reducible apply kF 19); refine sC 19 (f6 _ (sa1.sub SBt) (sa2.sub SBt)) ?_) | ((with_reducible apply kRg 10); refine cD [1, 1, 1, 1, 1, 3, 1, 1, 0, 2, 3, 1] ?_) | (with_reducible first | refine c_seq ?_ | refine c_reg ?_ | refine c_region ?_ | refine c_block ?_ | refine c_skip ?_ | refine c_exit ?_ | refine c_ret ?_ | refine s_nil ?_ | refine x_then ?_ | refine x_then_exit ?_ | refine x_then_ret ?_ | refine x_block ?_ | refine x_block_ret ?_ | refine x_block_same ?_ | refine x_block_other (by rfl) ?_ | refine q_nil ?_ | refine k_nil ?_) | ((with_reducible apply kP (.makeFunc _ _ _)); refine sMF ?_) | ((with_reducible apply kG); first | refine gY1 ?_ | refine gN1 ?_ | refine gU1 ?_ | (refine gD1 (fun h => ?_) (fun h => ?_) <;> (try (exfalso; omega))) | refine gB1 (fun h => ?_) (fun h => ?_)) | ((with_reducible apply kN); first | refine stP ?_ | refine stI ?_ | refine st1 ?_ | refine stW ?_) | ((with_reducible apply kP (.alloc _)); refine sA (fun b => ?_)) | ((with_reducible apply kP (.box _ _)); first | refine sBA (fun b => ?_) | refine sB (fun b => ?_)) | ((with_reducible apply kP (.buildSlice _ 1 _)); first | refine sl1A (fun b => ?_) | refine sl1 (fun b => ?_)) | ((with_reducible apply kP (.buildSlice _ 2 _)); refine sl2 (fun b => ?_)) | ((with_reducible apply kP (.buildSlice _ 3 _)); refine sl3 (fun b => ?_)) | ((with_reducible apply kP (.buildSlice _ 4 _)); refine sl4 (fun b => ?_)) | ((with_reducible apply kP (.buildSlice _ 0 _)); refine s_bs0 (scTOf rfl) (zsTOf rfl) (by decide) (fun b => ?_)) | ((with_reducible apply kP (.makeSlice _ _ _)); refine sMk (fun b => ?_)) | ((with_reducible apply kP (.call ⟨.builtin .append, _, _⟩)); refine sAp (fun oa2 c2 blk2 hrow2 => ?_)) | ((with_reducible apply kP _); refine sP ?_) | ((with_reducible apply kP _); refine sX ?_) | ((with_reducible apply kQG); first | refine qY1 ?_ | refine qN1 ?_ | refine qU1 ?_ | (refine qD1 (fun h => ?_) (fun h => ?_) <;> (try (exfalso; omega))) | refine qB1 (fun h => ?_) (fun h => ?_)) | ((with_reducible apply kQP); refine qP ?_) | ((with_reducible apply kQP); refine qX ?_) | ((with_reducible apply kC); first | refine cT ?_ | refine cF ?_ | (refine cI (fun h => ?_) (fun h => ?_) <;> (try (exfalso; omega))) | refine cB (fun h => ?_) (fun h => ?_)) | ((with_reducible apply kR); refine cQ ?_) | ((with_reducible apply kDG); first | refine dY1 ?_ | refine dNo1 ?_ | refine dU1 ?_ | (refine dD1 (fun h => ?_) (fun h => ?_) <;> (try (exfalso; omega))) | refine dB1 (fun h => ?_) (fun h => ?_)) | ((with_reducible apply kDN); first | refine dtI ?_ | refine dt1 ?_ | refine dtW ?_) | ((with_reducible apply kDP (.alloc _)); refine dA (fun b => ?_)) | ((with_reducible apply kDP (.box _ _)); first | refine dBA (fun b => ?_) | refine dB (fun b => ?_)) | ((with_reducible apply kDP (.buildSlice _ 1 _)); first | refine dl1A (fun b => ?_) | refine dl1 (fun b => ?_)) | ((with_reducible apply kDP (.call ⟨.builtin .append, _, _⟩)); first | refine dAp3 (fun oa2 c2 blk2 hrow2 => ?_) (hS := SCt) | refine dAp4 (fun oa2 c2 blk2 hrow2 => ?_)) | ((with_reducible apply kDP _); refine dP ?_) | ((with_reducible apply kDP _); refine dX ?_))
      all_goals try (exfalso; omega)
      all_goals exact r_end ⟨0 + 1, x1, x2, cx1, cx2, kx⟩ ⟨by simp only; omega, hx1 B w0, hx2 B w0⟩ (by simp only; omega) ⟨rfl, rfl, rfl, rfl, rfl, trivial⟩ (.cons _ (.append (.refl _) (sbA (.refl _))))
    · obtain ⟨g2, u1, u2, e1, e2, lb, sb1', sb2'⟩ := hba i (by omega)
      have lb := lb 24 (shTOf rfl)
      obtain ⟨y1, y2⟩ := hok i
      obtain ⟨z1, z2, z3⟩ := hNv i (by omega)
      have hF := hfl i
      have c1' := hct i; have c2' := hct (i + 1)
      have j1 := hinc i; have j2 := hinc (i + 1)
      have fx := fun hs q1 q2 => h_Mean u1 u2 e1 e2 (R i) (G i) B w0 hs q1 q2
      have fy := fun hs q1 q2 => h_Mean p1 p2 d1 d2 (R (i + 1)) (G (i + 1)) B w0 hs q1 q2
      rw [v2] at hF c2'
      rw [y2] at hF c1'
      unfold ptV at fx fy
      rw [if_pos y1, y2, if_neg (by omega)] at fx
      rw [if_pos v1, v2, if_neg (by omega)] at fy
      have fr := frac_le j1.1 z1 j2.1 n1 hF
      generalize inc (cn (R i)) (cn (G i)) = ia at *
      generalize inc (cn (R (i + 1))) (cn (G (i + 1))) = ib at *
      have ga := gz_pos (p := ia) (q := N i) z1
      have gb := gz_pos (p := ib) (q := N (i + 1)) n1
      have w1 : 0 ≤ ia / gz ia (N i) ∧ ia / gz ia (N i) ≤ 12500000000 := ⟨Int.ediv_nonneg (by omega) (by omega), by have := Int.ediv_le_self (a := ia) (gz ia (N i)) (by omega); omega⟩
      have w2 : 0 ≤ N i / gz ia (N i) ∧ N i / gz ia (N i) ≤ 500000000 := ⟨Int.ediv_nonneg (by omega) (by omega), by have := Int.ediv_le_self (a := N i) (gz ia (N i)) (by omega); omega⟩
      have w3 : 0 ≤ ib / gz ib (N (i + 1)) ∧ ib / gz ib (N (i + 1)) ≤ 12500000000 := ⟨Int.ediv_nonneg (by omega) (by omega), by have := Int.ediv_le_self (a := ib) (gz ib (N (i + 1))) (by omega); omega⟩
      have w4 : 0 ≤ N (i + 1) / gz ib (N (i + 1)) ∧ N (i + 1) / gz ib (N (i + 1)) ≤ 500000000 := ⟨Int.ediv_nonneg (by omega) (by omega), by have := Int.ediv_le_self (a := N (i + 1)) (gz ib (N (i + 1))) (by omega); omega⟩
      have w5 := mul_to w1.1 w1.2 w4.1 w4.2
      have w6 := mul_to w3.1 w3.2 w2.1 w2.2
      have ei : ((i + 1 : Nat) : Int) - 1 = (i : Int) := by omega
      repeat' (first | ((with_reducible apply kDF 42); (first | refine dN3 42 (fun F => f5 _ (hX1.sub SBt) (hX2.sub SBt) (sa1.sub SBt) (sa2.sub SBt)) ?_ | refine dN4 42 (fun F => f5 _ (hX1.sub SBt) (hX2.sub SBt) (sa1.sub SBt) (sa2.sub SBt)) ?_); rintro u kx hN; obtain ⟨x1, x2, cx1, cx2, rfl, hx1, hx2, _⟩ := hN.use) | (with_reducible refine f_eq (t := 92) (v := Value.int .i64 (((i + 1 : Nat) : Int) - 1)) rfl (congrArg iv ei) ?_) | ((with_reducible apply kP (.load 24 _)); refine sP ?_ (o_load rfl (Ld_sub la SBt))) | ((with_reducible apply kP (.load 24 _)); refine sP ?_ (o_load rfl (Ld_sub lb SBt))) | ((with_reducible apply kF 19); refine sC 19 (f6 _ (sa1.sub SBt) (sa2.sub SBt)) ?_) | ((with_reducible apply kF 38); refine sC 38 (fx _ (sb1'.sub SBt) (sb2'.sub SBt)) ?_) | ((with_reducible apply kF 38); refine sC 38 (fy _ (sa1.sub SBt) (sa2.sub SBt)) ?_) | ((with_reducible apply kRg 10); refine cD [1, 1, 1, 1, 1, 3, 1, 1, 0, 2, 3, 1] ?_) | (with_reducible first | refine c_seq ?_ | refine c_reg ?_ | refine c_region ?_ | refine c_block ?_ | refine c_skip ?_ | refine c_exit ?_ | refine c_ret ?_ | refine s_nil ?_ | refine x_then ?_ | refine x_then_exit ?_ | refine x_then_ret ?_ | refine x_block ?_ | refine x_block_ret ?_ | refine x_block_same ?_ | refine x_block_other (by rfl) ?_ | refine q_nil ?_ | refine k_nil ?_) | ((with_reducible apply kP (.makeFunc _ _ _)); refine sMF ?_) | ((with_reducible apply kG); first | refine gY1 ?_ | refine gN1 ?_ | refine gU1 ?_ | (refine gD1 (fun h => ?_) (fun h => ?_) <;> (try (exfalso; omega))) | refine gB1 (fun h => ?_) (fun h => ?_)) | ((with_reducible apply kN); first | refine stP ?_ | refine stI ?_ | refine st1 ?_ | refine stW ?_) | ((with_reducible apply kP (.alloc _)); refine sA (fun b => ?_)) | ((with_reducible apply kP (.box _ _)); first | refine sBA (fun b => ?_) | refine sB (fun b => ?_)) | ((with_reducible apply kP (.buildSlice _ 1 _)); first | refine sl1A (fun b => ?_) | refine sl1 (fun b => ?_)) | ((with_reducible apply kP (.buildSlice _ 2 _)); refine sl2 (fun b => ?_)) | ((with_reducible apply kP (.buildSlice _ 3 _)); refine sl3 (fun b => ?_)) | ((with_reducible apply kP (.buildSlice _ 4 _)); refine sl4 (fun b => ?_)) | ((with_reducible apply kP (.buildSlice _ 0 _)); refine s_bs0 (scTOf rfl) (zsTOf rfl) (by decide) (fun b => ?_)) | ((with_reducible apply kP (.makeSlice _ _ _)); refine sMk (fun b => ?_)) | ((with_reducible apply kP (.call ⟨.builtin .append, _, _⟩)); refine sAp (fun oa2 c2 blk2 hrow2 => ?_)) | ((with_reducible apply kP _); refine sP ?_) | ((with_reducible apply kP _); refine sX ?_) | ((with_reducible apply kQG); first | refine qY1 ?_ | refine qN1 ?_ | refine qU1 ?_ | (refine qD1 (fun h => ?_) (fun h => ?_) <;> (try (exfalso; omega))) | refine qB1 (fun h => ?_) (fun h => ?_)) | ((with_reducible apply kQP); refine qP ?_) | ((with_reducible apply kQP); refine qX ?_) | ((with_reducible apply kC); first | refine cT ?_ | refine cF ?_ | (refine cI (fun h => ?_) (fun h => ?_) <;> (try (exfalso; omega))) | refine cB (fun h => ?_) (fun h => ?_)) | ((with_reducible apply kR); refine cQ ?_) | ((with_reducible apply kDG); first | refine dY1 ?_ | refine dNo1 ?_ | refine dU1 ?_ | (refine dD1 (fun h => ?_) (fun h => ?_) <;> (try (exfalso; omega))) | refine dB1 (fun h => ?_) (fun h => ?_)) | ((with_reducible apply kDN); first | refine dtI ?_ | refine dt1 ?_ | refine dtW ?_) | ((with_reducible apply kDP (.alloc _)); refine dA (fun b => ?_)) | ((with_reducible apply kDP (.box _ _)); first | refine dBA (fun b => ?_) | refine dB (fun b => ?_)) | ((with_reducible apply kDP (.buildSlice _ 1 _)); first | refine dl1A (fun b => ?_) | refine dl1 (fun b => ?_)) | ((with_reducible apply kDP (.call ⟨.builtin .append, _, _⟩)); first | refine dAp3 (fun oa2 c2 blk2 hrow2 => ?_) (hS := SCt) | refine dAp4 (fun oa2 c2 blk2 hrow2 => ?_)) | ((with_reducible apply kDP _); refine dP ?_) | ((with_reducible apply kDP _); refine dX ?_))
      all_goals try (exfalso; omega)
      all_goals exact r_end ⟨i + 1 + 1, x1, x2, cx1, cx2, kx⟩ ⟨by simp only; omega, hx1 B w0, hx2 B w0⟩ (by simp only; omega) ⟨rfl, rfl, rfl, rfl, rfl, trivial⟩ (.cons _ (.cons _ (.cons _ (.append (.refl _) (sbA (.refl _))))))
  · obtain rfl : i = m := by omega
    have f7 := fun hs q1 q2 q3 q4 => h_Same a1 a2 o1 o2 ca1 ca2 c1 c2 (A i) (A' i) r g B w0 hs q1 q2 q3 q4
    rw [hs1, hs2] at f7
    repeat' (first | ((with_reducible apply kF 44); refine sC 44 (f7 _ (hX1.sub SBt) (hX2.sub SBt) (hb1.sub SBt) (hb2.sub SBt)) ?_) | ((with_reducible apply kF 18); refine sC 18 (l_known B w0 _) ?_) | ((with_reducible apply kRg 10); refine cD [1, 1, 1, 1, 1, 3, 1, 1, 0, 2, 3, 1] ?_) | (with_reducible first | refine c_seq ?_ | refine c_reg ?_ | refine c_region ?_ | refine c_block ?_ | refine c_skip ?_ | refine c_exit ?_ | refine c_ret ?_ | refine s_nil ?_ | refine x_then ?_ | refine x_then_exit ?_ | refine x_then_ret ?_ | refine x_block ?_ | refine x_block_ret ?_ | refine x_block_same ?_ | refine x_block_other (by rfl) ?_ | refine q_nil ?_ | refine k_nil ?_) | ((with_reducible apply kP (.makeFunc _ _ _)); refine sMF ?_) | ((with_reducible apply kG); first | refine gY1 ?_ | refine gN1 ?_ | refine gU1 ?_ | (refine gD1 (fun h => ?_) (fun h => ?_) <;> (try (exfalso; omega))) | refine gB1 (fun h => ?_) (fun h => ?_)) | ((with_reducible apply kN); first | refine stP ?_ | refine stI ?_ | refine st1 ?_ | refine stW ?_) | ((with_reducible apply kP (.alloc _)); refine sA (fun b => ?_)) | ((with_reducible apply kP (.box _ _)); first | refine sBA (fun b => ?_) | refine sB (fun b => ?_)) | ((with_reducible apply kP (.buildSlice _ 1 _)); first | refine sl1A (fun b => ?_) | refine sl1 (fun b => ?_)) | ((with_reducible apply kP (.buildSlice _ 2 _)); refine sl2 (fun b => ?_)) | ((with_reducible apply kP (.buildSlice _ 3 _)); refine sl3 (fun b => ?_)) | ((with_reducible apply kP (.buildSlice _ 4 _)); refine sl4 (fun b => ?_)) | ((with_reducible apply kP (.buildSlice _ 0 _)); refine s_bs0 (scTOf rfl) (zsTOf rfl) (by decide) (fun b => ?_)) | ((with_reducible apply kP (.makeSlice _ _ _)); refine sMk (fun b => ?_)) | ((with_reducible apply kP (.call ⟨.builtin .append, _, _⟩)); refine sAp (fun oa2 c2 blk2 hrow2 => ?_)) | ((with_reducible apply kP _); refine sP ?_) | ((with_reducible apply kP _); refine sX ?_) | ((with_reducible apply kQG); first | refine qY1 ?_ | refine qN1 ?_ | refine qU1 ?_ | (refine qD1 (fun h => ?_) (fun h => ?_) <;> (try (exfalso; omega))) | refine qB1 (fun h => ?_) (fun h => ?_)) | ((with_reducible apply kQP); refine qP ?_) | ((with_reducible apply kQP); refine qX ?_) | ((with_reducible apply kC); first | refine cT ?_ | refine cF ?_ | (refine cI (fun h => ?_) (fun h => ?_) <;> (try (exfalso; omega))) | refine cB (fun h => ?_) (fun h => ?_)) | ((with_reducible apply kR); refine cQ ?_) | ((with_reducible apply kDG); first | refine dY1 ?_ | refine dNo1 ?_ | refine dU1 ?_ | (refine dD1 (fun h => ?_) (fun h => ?_) <;> (try (exfalso; omega))) | refine dB1 (fun h => ?_) (fun h => ?_)) | ((with_reducible apply kDN); first | refine dtI ?_ | refine dt1 ?_ | refine dtW ?_) | ((with_reducible apply kDP (.alloc _)); refine dA (fun b => ?_)) | ((with_reducible apply kDP (.box _ _)); first | refine dBA (fun b => ?_) | refine dB (fun b => ?_)) | ((with_reducible apply kDP (.buildSlice _ 1 _)); first | refine dl1A (fun b => ?_) | refine dl1 (fun b => ?_)) | ((with_reducible apply kDP (.call ⟨.builtin .append, _, _⟩)); first | refine dAp3 (fun oa2 c2 blk2 hrow2 => ?_) (hS := SCt) | refine dAp4 (fun oa2 c2 blk2 hrow2 => ?_)) | ((with_reducible apply kDP _); refine dP ?_) | ((with_reducible apply kDP _); refine dX ?_))
    all_goals first
      | exact e_ret1 rfl rfl rfl SCt
      | exact absurd rfl ‹¬ _ = _›
      | (exfalso; omega)
set_option maxRecDepth 100000 in
theorem handfulsFall_holds_lifted (os : Os) (started : os.Started) (H : Type) (enc : TypeId × Value → H) :
    ReturnsInHanded {} Try.checked os 15 .any (Rows.hairHandfulsFallSpec.pre6 enc Try.prog Try.f15 Rows.hairHandfulsFallRow.domain false) (Rows.hairHandfulsFallSpec.post enc Try.prog Try.f15 false true false false) := by
  refine returnsInHanded_of_change (C := Try.checked) ownK started (by kernel_rfl) Try.func15
    (ChangeSpec.witness6 (enc := enc) (C := Try.checked) false ⟨#[], #[.agg #[.slice none 0 0, .slice none 0 0], .int .i64 0], []⟩ 8 (by kernel_rfl) (by kernel_rfl) (by kernel_rfl) (by kernel_rfl)) ?_
  intro W base args ds gs before hval0 hW hcnd _
  have hval : ∀ (j : Nat) t v, Try.f15.params[j]? = some t → args[j]? = some v → Value.okWide Try.prog W .any base t v := hval0
  have hW' := hW
  obtain ⟨p, q, hA0, hV, rfl, hfz, hnd⟩ := hW
  have hA : DataW.TrodAll enc Try.prog W 0 (fun _ => true) true Try.f15.params.toList args.toList ds p := hA0
  rw [Try.params15] at hA hval
  obtain ⟨v0, v1, d_0, d_1, p_0, p_1, rfl, rfl, rfl, h0, h1⟩ := trodAll_two hA
  obtain ⟨oa0, ob0, c0, d0, r0, g0, rfl, m0, q0, _, _, I0, J0, s0, t0⟩ := arg_bundle (by kernel_rfl) (hval 0 _ v0 rfl rfl) h0
  obtain ⟨z1, rfl, I1⟩ := arg_int (by kernel_rfl) (hval 1 _ v1 rfl rfl) h1
  refine (law_calls (by exact l_fall oa0 ob0 c0 d0 r0 g0 z1 _ W [] s0 t0)).mono fun e W' ⟨he, hb⟩ => ⟨.bool true, he, ?_⟩
  exact law_post rfl ⟨⟨by kernel_rfl, of_decide_eq_true (by kernel_rfl)⟩, ⟨by kernel_rfl, of_decide_eq_true (by kernel_rfl)⟩, trivial⟩ rfl hW' ⟨rfl, rfl, rfl⟩ hb
theorem handfulsFall_holds : Rows.HairHandfulsFallSaid :=
  OpenClaim.holds_of_wide 15 Try.f15 rfl rfl rfl rfl rfl rfl rfl ⟨rfl, rfl, rfl, rfl, rfl⟩ rfl rfl rfl rfl rfl (by kernel_rfl) Try.func15 (by kernel_rfl)
    (of_decide_eq_true (by kernel_rfl)) (by unfold Func.isWrapper; first | (rw [if_pos (by decide +kernel)]; kernel_rfl) | (rw [if_neg (by decide +kernel)]; exact ⟨rfl, rfl⟩))
    (fun os started H enc _ => handfulsFall_holds_lifted os started H enc)
#print axioms handfulsFall_holds
end Go.Proofs.Ytiopaodiaokfdaa
