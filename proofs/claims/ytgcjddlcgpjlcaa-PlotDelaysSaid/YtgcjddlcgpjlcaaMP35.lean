/- A play copied; a play without one of its wearings: plain. -/
import Derived.Test.YtgcjddlcgpjlcaaMP30
namespace Go.Proofs.Ytgcjddlcgpjlcaa
open Go.RowKit

section
variable {P : Program} {n B : Nat} {w0 : Wd} {fr : FR} {hs hs' S : HS} {ty : TypeId} {K : Act → World → Prop} {ops : Array Oper} {l : List Oper} {d f : Nat} {fl : List Nat} {pos : String} {aft : Array Edge} {v : Value}
theorem Sl.tailK {oa : Option Addr} {l : List Int} (h : Sl B w0 hs oa l) {c lo k m : Nat} (hl : l.length = m * k) (h1 : lo ≤ m) (h3 : m ≤ c) : Sl B w0 hs (subA oa c lo k) (l.drop (lo * k)) := fun i hi' => by
  have hi2 : lo * k + i < l.length := by simp at hi'; omega
  obtain ⟨g1, g2⟩ := h (lo * k + i) hi2
  have e1 : (l.drop (lo * k)).getD i 0 = l.getD (lo * k + i) 0 := by
    simp only [List.getD]
    rw [List.getElem?_drop]
  rw [e1]
  unfold subA
  have hlt : lo ≠ m := fun e => by subst e; omega
  rw [if_neg (by omega)]
  cases oa with
  | none => cases g1
  | some a =>
    refine ⟨rfl, fun w hw => ?_⟩
    have := g2 w hw
    rw [Option.map_some, ea_add]
    exact this
theorem k_appS {t : TypeId} {size bytes k m c c' : Nat} {oa os : Option Addr} {xs news : List Value} {blk rest : HS} {x y : Operand} (hfl : effF f = true) (hap : ap P t = some (size, bytes)) (hx : opv fr x = some (.slice oa k c)) (hy : opv fr y = some (.slice os m c')) (hT : Take blk hs rest)
    (hr : RowOk oa c size xs blk) (hk : xs.length = k * size) (hm : Sv B w0 hs os news) (hl : news.length = m * size) (hf : Flat news) (hb : k + m ≤ 1000000) (hby : bytes ≤ 1000000) (hn : d < n)
    (h : ∀ oa2 c2 blk2, RowOk oa2 c2 size (xs ++ news) blk2 → ∃ S', Kp f S (blk2 ++ rest) S' ∧ Rk P n B w0 ops K fl l S' ((d, .slice oa2 (k + m) c2) :: fr) (blk2 ++ rest)) :
    Rk P n B w0 ops K (f :: fl) (⟨some d, .call ⟨.builtin .append, #[x, y], #[t, t]⟩, ty, pos, aft, none⟩ :: l) S fr hs := by
  refine k_eff (R := fun u h => ∃ oa2 c2 blk2, u = .slice oa2 (k + m) c2 ∧ RowOk oa2 c2 size (xs ++ news) blk2 ∧ h = blk2 ++ rest) hfl rfl (fun a ha F w hw => ?_) ?_
  · obtain ⟨oa2, c2, blk2, w2, h1, h2, h3⟩ := run_appS (P := P) (t' := ty) (pos := pos) (aft := aft) (dst := some d) (rest := F ++ rest) hap ha hx hy hw hT.app hr hk (hm.sub (sbA sb0)) hl hf hb hby
    rw [h1]
    refine ⟨blk2 ++ rest, ⟨oa2, c2, blk2, rfl, h2, rfl⟩, h3.perm ?_⟩
    rw [← List.append_assoc, ← List.append_assoc]
    exact List.perm_append_comm.append_right rest
  · rintro a ha u h' ⟨oa2, c2, blk2, rfl, h2, rfl⟩
    obtain ⟨S', hk', hr'⟩ := h oa2 c2 blk2 h2
    unfold Rk at hr'
    exact ⟨S', hk', hr' _ (ha.put hn _)⟩
end
set_option maxRecDepth 100000 in
set_option maxHeartbeats 8000000 in
theorem r_Copy (n c : Nat) (R C : Int) (l : List Int) (oa : Option Addr) (hl : l.length = n * 4) (hn : n ≤ 1000) (B : Nat) (w0 : Wd) (hs : HS) (hL : Sl B w0 hs oa l) :
    Fn Try.prog 22 #[.agg #[.slice oa n c, iv R, iv C]] B w0 hs (fun u h => ∃ blk, (∃ oa2 c2, u = .agg #[.slice oa2 n c2, iv R, iv C] ∧ RowOk oa2 c2 4 (ivs l) blk) ∧ h = blk ++ hs) := by
  refine fn_enter Try.func22 rfl Try.ntmps22 (by simp) ?_
  repeat' (first | ((with_reducible apply kP (.call ⟨.builtin .append, _, _⟩)); refine s_appZ (apTOf rfl) rfl rfl (by with_reducible ((repeat (first | exact Take.head | exact Take.one | exact Take.nil | apply Take.tail | apply Take.app)); done)) (RowOk.new (n := 0) (xs := []) rfl (by decide)) (Sl.sv (hL.sub SBt)) (by first | rfl | (rw [ivs_length]; omega) | (simp only [ivs_length, List.length_take]; omega)) (flat_iv _) (by first | assumption | omega) (by decide) (by decide) (fun oa2 c2 blk2 hrow2 => ?_)) | ((with_reducible apply kN); refine stW ?_ (hf := flat_cons rfl (flat2 rfl rfl))) | (with_reducible first | refine c_seq ?_ | refine c_reg ?_ | refine c_region ?_ | refine c_block ?_ | refine c_skip ?_ | refine c_exit ?_ | refine c_ret ?_ | refine s_nil ?_ | refine x_then ?_ | refine x_then_exit ?_ | refine x_then_ret ?_ | refine x_block ?_ | refine x_block_ret ?_ | refine x_block_same ?_ | refine x_block_other (by rfl) ?_ | refine q_nil ?_ | refine k_nil ?_) | ((with_reducible apply kP (.makeFunc _ _ _)); refine sMF ?_) | ((with_reducible apply kG); first | refine gY1 ?_ | refine gN1 ?_ | refine gU1 ?_ | (refine gD1 (fun h => ?_) (fun h => ?_) <;> (try (exfalso; omega))) | refine gB1 (fun h => ?_) (fun h => ?_)) | ((with_reducible apply kN); first | refine stP ?_ | refine stI ?_ | refine st1 ?_ | refine stW ?_) | ((with_reducible apply kP (.alloc _)); refine sA (fun b => ?_)) | ((with_reducible apply kP (.box _ _)); first | refine sBA (fun b => ?_) | refine sB (fun b => ?_)) | ((with_reducible apply kP (.buildSlice _ 1 _)); first | refine sl1A (fun b => ?_) | refine sl1 (fun b => ?_)) | ((with_reducible apply kP (.buildSlice _ 2 _)); refine sl2 (fun b => ?_)) | ((with_reducible apply kP (.buildSlice _ 3 _)); refine sl3 (fun b => ?_)) | ((with_reducible apply kP (.buildSlice _ 4 _)); refine sl4 (fun b => ?_)) | ((with_reducible apply kP (.buildSlice _ 0 _)); refine s_bs0 (scTOf rfl) (zsTOf rfl) (by decide) (fun b => ?_)) | ((with_reducible apply kP (.makeSlice _ _ _)); refine sMk (fun b => ?_)) | ((with_reducible apply kP (.call ⟨.builtin .append, _, _⟩)); refine sAp (fun oa2 c2 blk2 hrow2 => ?_)) | ((with_reducible apply kP _); refine sP ?_) | ((with_reducible apply kP _); refine sX ?_) | ((with_reducible apply kQG); first | refine qY1 ?_ | refine qN1 ?_ | refine qU1 ?_ | (refine qD1 (fun h => ?_) (fun h => ?_) <;> (try (exfalso; omega))) | refine qB1 (fun h => ?_) (fun h => ?_)) | ((with_reducible apply kQP); refine qP ?_) | ((with_reducible apply kQP); refine qX ?_) | ((with_reducible apply kC); first | refine cT ?_ | refine cF ?_ | (refine cI (fun h => ?_) (fun h => ?_) <;> (try (exfalso; omega))) | refine cB (fun h => ?_) (fun h => ?_)) | ((with_reducible apply kR); refine cQ ?_))
  exact e_ret1 rfl ⟨_, rfl, ld_whole (shTOf rfl) MDt rfl⟩ ⟨blk2, ⟨oa2, c2, rfl, hrow2⟩, rfl⟩ SCt
/-! ### Without one wearing -/
def dl (l : List Int) (i : Nat) : List Int := l.take (i * 4) ++ l.drop ((i + 1) * 4)
def sk (i j : Nat) : Nat := if j < i then j else j + 1
theorem dl_len {l : List Int} {n i : Nat} (hl : l.length = n * 4) (hi : i < n) : (dl l i).length = (n - 1) * 4 := by
  unfold dl; rw [List.length_append, List.length_take, List.length_drop]; omega
theorem dl_get {l : List Int} {n i j q : Nat} (hl : l.length = n * 4) (hi : i < n) (hj : j < n - 1) (hq : q < 4) : (dl l i).getD (j * 4 + q) 0 = l.getD (sk i j * 4 + q) 0 := by
  have ht : (l.take (i * 4)).length = i * 4 := by rw [List.length_take]; omega
  unfold dl sk
  by_cases h : j < i
  · rw [if_pos h, gD_l (by omega)]
    simp only [List.getD]
    rw [List.getElem?_take, if_pos (by omega)]
  · rw [if_neg h, gD_r (by omega), ht]
    simp only [List.getD]
    rw [List.getElem?_drop]
    congr 2
    omega
theorem dl_A {l : List Int} {n i j : Nat} (hl : l.length = n * 4) (hi : i < n) (hj : j < n - 1) : wA (dl l i) j = wA l (sk i j) ∧ wZ (dl l i) j = wZ l (sk i j) ∧ wF (dl l i) j = wF l (sk i j) ∧ wT (dl l i) j = wT l (sk i j) :=
  ⟨dl_get (q := 0) hl hi hj (by omega), dl_get (q := 1) hl hi hj (by omega), dl_get (q := 2) hl hi hj (by omega), dl_get (q := 3) hl hi hj (by omega)⟩
theorem sk_lt {i j k : Nat} (h : j < k) : sk i j < sk i k := by unfold sk; split <;> split <;> omega
theorem sk_to {n i j : Nat} (hi : i < n) (hj : j < n - 1) : sk i j < n ∧ sk i j ≠ i := by unfold sk; split <;> omega
theorem sk_inj {i j k : Nat} (h : sk i j = sk i k) : j = k := by unfold sk at h; split at h <;> split at h <;> omega
theorem dl_vp {l : List Int} {n i : Nat} {R C : Int} (hl : l.length = n * 4) (hi : i < n) (hV : VP n R C l) : vpE (n - 1) R C (dl l i) = 0 := by
  refine vp_ok (by have := hV.le; omega) hV.nums (fun j hj => ?_) (fun j hj k hk => ?_)
  · obtain ⟨e1, e2, e3, e4⟩ := dl_A hl hi hj
    have := hV.w _ (sk_to hi hj).1
    unfold okw at *
    rw [e1, e2, e3, e4]; exact this
  · obtain ⟨e1, e2, e3, e4⟩ := dl_A hl hi hj
    obtain ⟨g1, g2, g3, g4⟩ := dl_A hl hi (show k < n - 1 by omega)
    have := hV.no _ (sk_to hi hj).1 _ (sk_lt hk)
    unfold ovl nr at *
    rw [e1, e3, e4, g1, g3, g4]; exact this
theorem dl_inC {l : List Int} {n i j : Nat} {R z t : Int} (hl : l.length = n * 4) (hi : i < n) (hj : j < n - 1) : inC (dl l i) R z t j = inC l R z t (sk i j) := by
  obtain ⟨e1, e2, e3, e4⟩ := dl_A hl hi hj
  unfold inC; rw [e2, e3, e4]
theorem dl_le {l : List Int} {n i : Nat} {R z t : Int} (hl : l.length = n * 4) (hi : i < n) : crw (dl l i) R (n - 1) z t ≤ crw l R n z t := by
  unfold crw
  rw [cnt_eq, ← List.length_map (f := sk i)]
  refine cnt_ge (nodup_map (List.nodup_range.filter _) fun x _ y _ h => sk_inj h) fun x hx => ?_
  obtain ⟨j, hj, rfl⟩ := List.mem_map.1 hx
  obtain ⟨h1, h2⟩ := List.mem_filter.1 hj
  have h1 := List.mem_range.1 h1
  exact ⟨(sk_to hi h1).1, by rw [← dl_inC hl hi h1]; exact h2⟩
def us (i x : Nat) : Nat := if x < i then x else x - 1
theorem dl_ge {l : List Int} {n i : Nat} {R z t : Int} (hl : l.length = n * 4) (hi : i < n) : crw l R n z t ≤ crw (dl l i) R (n - 1) z t + (if wZ l i = z then 1 else 0) := by
  let s' := ((List.range n).filter (inC l R z t)).filter (fun x => decide (x ≠ i))
  have hs' : ∀ x, x ∈ s' ↔ (x < n ∧ inC l R z t x = true) ∧ x ≠ i := fun x => by
    simp only [s', List.mem_filter, List.mem_range, decide_eq_true_eq]
  have h1 : (s'.map (us i)).length ≤ crw (dl l i) R (n - 1) z t := by
    refine cnt_ge (nodup_map ((List.nodup_range.filter _).filter _) fun x hx y hy h => ?_) fun x hx => ?_
    · have hx := (hs' x).1 hx
      have hy := (hs' y).1 hy
      unfold us at h
      split at h <;> split at h <;> omega
    · obtain ⟨y, hy, rfl⟩ := List.mem_map.1 hx
      obtain ⟨⟨g1, g2⟩, g3⟩ := (hs' y).1 hy
      have hlt : us i y < n - 1 := by unfold us; split <;> omega
      have hsk : sk i (us i y) = y := by
        unfold sk us
        repeat' split
        all_goals omega
      exact ⟨hlt, by rw [dl_inC hl hi hlt, hsk]; exact g2⟩
  rw [List.length_map] at h1
  have h0 : ((List.range n).filter (inC l R z t)).Nodup := List.nodup_range.filter _
  unfold crw at h1 ⊢
  rw [cnt_eq (inC l R z t)]
  by_cases hz : wZ l i = z
  · rw [if_pos hz]
    have := nodup_sub h0 (l := i :: s') fun x hx => by
      by_cases e : x = i
      · subst e; exact .head _
      · exact .tail _ ((hs' x).2 ⟨⟨List.mem_range.1 (List.mem_filter.1 hx).1, (List.mem_filter.1 hx).2⟩, e⟩)
    simp only [List.length_cons] at this
    omega
  · rw [if_neg hz]
    have := nodup_sub h0 (l := s') fun x hx => by
      have hc := (List.mem_filter.1 hx).2
      refine (hs' x).2 ⟨⟨List.mem_range.1 (List.mem_filter.1 hx).1, hc⟩, fun e => ?_⟩
      subst e
      exact hz (inC_to.1 hc).1
    omega
theorem hot1 {x : Int} : ∀ K, sumTo (fun k => if x = (k : Int) then 1 else 0) K ≤ 1 := fun K => by
  have key : ∀ K, sumTo (fun k => if x = (k : Int) then (1 : Int) else 0) K = if 0 ≤ x ∧ x < K then 1 else 0 := by
    intro K
    induction K with
    | zero => rw [if_neg (by omega)]; rfl
    | succ K ih =>
      rw [sumTo_succ, ih]
      by_cases h : x = (K : Int)
      · rw [if_neg (by omega), if_pos h, if_pos (by omega)]; rfl
      · rw [if_neg h]
        by_cases h2 : 0 ≤ x ∧ x < K
        · rw [if_pos h2, if_pos (by omega)]; rfl
        · rw [if_neg h2, if_neg (by omega)]; rfl
  rw [key]; split <;> omega
theorem fewer {l : List Int} {n i : Nat} {R C : Int} (hl : l.length = n * 4) (hi : i < n) (hv : vpE n R C l = 0) : vpE (n - 1) R C (dl l i) = 0 ∧ lsV (n - 1) R C (dl l i) ≤ lsV n R C l ∧ lsV n R C l ≤ lsV (n - 1) R C (dl l i) + 1 := by
  have hV := vp_to hv
  have hv2 := dl_vp hl hi hV
  refine ⟨hv2, ?_⟩
  rw [lsV, lsV, if_pos hv, if_pos hv2, msum_sum, msum_sum]
  constructor
  · refine sum_leP 100 fun k _ => ?_
    have : most (dl l i) R (n - 1) (k : Int) ≤ most l R n (k : Int) := most_le fun j hj _ => Nat.le_trans (dl_le hl hi) crw_le_most
    omega
  · have h1 : sumTo (fun k => ((most l R n (k : Int) : Nat) : Int)) 100 ≤ sumTo (fun k => ((most (dl l i) R (n - 1) (k : Int) : Nat) : Int) + (if wZ l i = (k : Int) then 1 else 0)) 100 := sum_leP 100 fun k _ => by
      have : most l R n (k : Int) ≤ most (dl l i) R (n - 1) (k : Int) + (if wZ l i = (k : Int) then 1 else 0) := most_le fun j hj _ => by
        have h3 := dl_ge (R := R) (z := (k : Int)) (t := wF l j) hl hi
        have h4 : crw (dl l i) R (n - 1) (k : Int) (wF l j) ≤ most (dl l i) R (n - 1) (k : Int) := crw_le_most
        omega
      split at this
      · rename_i h; rw [if_pos h]; omega
      · rename_i h; rw [if_neg h]; omega
    rw [sumTo_add] at h1
    have := hot1 (x := wZ l i) 100
    omega
end Go.Proofs.Ytgcjddlcgpjlcaa
