/- The text of a bundle, plain. -/
import Derived.Test.YtmblgbcipniecaaDoorMX1
import Derived.Test.YtmblgbcipniecaaDoorMX4
namespace Go.Proofs.YtmblgbcipniecaaDoor
open Go.RowKit
def sHair : List UInt8 := [104, 97, 105, 114]
def sWrong : List UInt8 := [119, 114, 111, 110, 103]
/-- Numbers, each with a blank in front. -/
def nmT (l : List Int) : List UInt8 := (l.map fun x => 32 :: Go.Lib.itoa x).flatten
theorem nmT_snoc (l : List Int) (x : Int) : nmT (l ++ [x]) = nmT l ++ (32 :: Go.Lib.itoa x) := by
  unfold nmT
  rw [List.map_append, List.flatten_append]
  simp
theorem nmT_take {l : List Int} {i : Nat} (h : i < l.length) : nmT (l.take (i + 1)) = nmT (l.take i) ++ (32 :: Go.Lib.itoa (l.getD i 0)) := by
  rw [List.take_succ_eq_append_getElem h, nmT_snoc]
  congr 3
  rw [List.getD_eq_getElem?_getD, List.getElem?_eq_getElem h]
  rfl
/-- The words of a bundle's text. -/
def wdF (R G : List Int) : List (List UInt8) := sHair :: (R.map Go.Lib.itoa ++ sWrong :: G.map Go.Lib.itoa)
def fmtT (R G : List Int) : List UInt8 := sHair ++ nmT R ++ (32 :: sWrong) ++ nmT G
theorem join_fmt (R G : List Int) : Go.Lib.join (wdF R G) [32] = fmtT R G := by
  unfold wdF fmtT nmT
  rw [Go.Lib.join_cons]
  unfold Go.Lib.joinTail
  simp [List.append_assoc, Function.comp_def]
/-- Counts as a bundle has them. -/
def NumOk (l : List Int) : Prop := ∀ x ∈ l, 0 ≤ x ∧ x ≤ 1000000
theorem itoa_ok {x : Int} (h : 0 ≤ x ∧ x ≤ 1000000) : (32 : UInt8) ∉ Go.Lib.itoa x ∧ Go.Lib.itoa x ≠ sWrong ∧ Go.Lib.atoiAll (Go.Lib.itoa x) = .ok x ∧ (Go.Lib.itoa x).length ≤ 7 := by
  obtain ⟨u, rfl⟩ : ∃ u : Nat, x = (u : Int) := ⟨x.toNat, by omega⟩
  rw [itoa_nat]
  have hd := dec_dig u
  refine ⟨fun hm => ?_, fun e => ?_, atoi_dec (by omega), dec_len 6 u (by omega)⟩
  · have := hd _ hm
    exact absurd this (by decide)
  · have := hd 119 (by rw [e]; decide)
    exact absurd this (by decide)
theorem nmT_len {l : List Int} (h : NumOk l) : (nmT l).length ≤ 8 * l.length := by
  induction l with
  | nil => simp [nmT]
  | cons x l ih =>
    have h1 := ih (fun y hy => h y (.tail _ hy))
    have h2 := (itoa_ok (h x (.head _))).2.2.2
    have e : nmT (x :: l) = (32 :: Go.Lib.itoa x) ++ nmT l := by unfold nmT; simp
    rw [e, List.length_append, List.length_cons, List.length_cons]
    omega
theorem fmtT_len {R G : List Int} (hR : NumOk R) (hG : NumOk G) (h1 : R.length ≤ 24) (h2 : G.length ≤ 24) : (fmtT R G).length ≤ 400 := by
  have a := nmT_len hR
  have b := nmT_len hG
  unfold fmtT sHair sWrong
  simp only [List.length_append, List.length_cons, List.length_nil]
  omega
theorem wds_fmt {R G : List Int} (hR : NumOk R) (hG : NumOk G) : wds 32 (fmtT R G) = wdF R G := by
  rw [← join_fmt]
  refine wds_join (by unfold wdF; simp) fun w hw => ?_
  unfold wdF at hw
  rcases List.mem_cons.1 hw with rfl | hw
  · decide
  · rcases List.mem_append.1 hw with hw | hw
    · obtain ⟨x, hx, rfl⟩ := List.mem_map.1 hw
      exact (itoa_ok (hR x hx)).1
    · rcases List.mem_cons.1 hw with rfl | hw
      · decide
      · obtain ⟨x, hx, rfl⟩ := List.mem_map.1 hw
        exact (itoa_ok (hG x hx)).1
/-! ### What a text says, as the program reads it -/
def psP : List (List UInt8) → Bool → List Int → List Int → Option (List Int × List Int)
  | [], _, R, G => some (R, G)
  | w :: ws, b, R, G =>
    if w = sWrong then psP ws true R G
    else match Go.Lib.atoiAll w with
      | .ok x => if b then psP ws b R (G ++ [x]) else psP ws b (R ++ [x]) G
      | _ => none
/-- As the reference reads it; Nr: the number of a word. -/
def psR (Nr : List UInt8 → Int) : List (List UInt8) → Bool → List Int → List Int → List Int × List Int
  | [], _, R, G => (R, G)
  | w :: ws, b, R, G => if w = sWrong ∧ b = false then psR Nr ws true R G else if b then psR Nr ws b R (G ++ [Nr w]) else psR Nr ws b (R ++ [Nr w]) G
theorem psP_nums {l : List Int} (h : NumOk l) (ws : List (List UInt8)) (b : Bool) (R G : List Int) : psP (l.map Go.Lib.itoa ++ ws) b R G = if b then psP ws b R (G ++ l) else psP ws b (R ++ l) G := by
  induction l generalizing R G with
  | nil => cases b <;> simp
  | cons x l ih =>
    obtain ⟨h1, h2, h3, _⟩ := itoa_ok (h x (.head _))
    have ih' := ih (fun y hy => h y (.tail _ hy))
    simp only [List.map_cons, List.cons_append, psP]
    rw [if_neg h2, h3]
    cases b
    · simp only [Bool.false_eq_true, if_false]
      rw [ih']
      simp
    · simp only [if_true]
      rw [ih']
      simp
theorem psR_nums {Nr : List UInt8 → Int} (hN : ∀ x : Int, 0 ≤ x ∧ x ≤ 1000000 → Nr (Go.Lib.itoa x) = x) {l : List Int} (h : NumOk l) (ws : List (List UInt8)) (b : Bool) (R G : List Int) : psR Nr (l.map Go.Lib.itoa ++ ws) b R G = if b then psR Nr ws b R (G ++ l) else psR Nr ws b (R ++ l) G := by
  induction l generalizing R G with
  | nil => cases b <;> simp
  | cons x l ih =>
    obtain ⟨h1, h2, _, _⟩ := itoa_ok (h x (.head _))
    have ih' := ih (fun y hy => h y (.tail _ hy))
    simp only [List.map_cons, List.cons_append, psR]
    rw [if_neg (fun e => h2 e.1), hN x (h x (.head _))]
    cases b
    · simp only [Bool.false_eq_true, if_false]
      rw [ih']
      simp
    · simp only [if_true]
      rw [ih']
      simp
theorem psP_fmt {R G : List Int} (hR : NumOk R) (hG : NumOk G) : psP (wdF R G).tail false [] [] = some (R, G) := by
  have h2 := psP_nums hG [] true R []
  rw [List.append_nil] at h2
  show psP (R.map Go.Lib.itoa ++ sWrong :: G.map Go.Lib.itoa) false [] [] = _
  rw [psP_nums hR]
  simp only [Bool.false_eq_true, if_false, psP, if_true, List.nil_append]
  rw [h2]
  simp [psP]
theorem psR_fmt {Nr : List UInt8 → Int} (hN : ∀ x : Int, 0 ≤ x ∧ x ≤ 1000000 → Nr (Go.Lib.itoa x) = x) {R G : List Int} (hR : NumOk R) (hG : NumOk G) : psR Nr (wdF R G).tail false [] [] = (R, G) := by
  have h2 := psR_nums hN hG [] true R []
  rw [List.append_nil] at h2
  show psR Nr (R.map Go.Lib.itoa ++ sWrong :: G.map Go.Lib.itoa) false [] [] = _
  rw [psR_nums hN hR]
  simp only [Bool.false_eq_true, if_false, psR, and_self, if_true, List.nil_append]
  rw [h2]
  simp [psR]
/-! ### Bundles -/
theorem numOk_of {l : List Int} (h1 : negA l = false) (h2 : bigA l = false) : NumOk l := fun x hx => by
  obtain ⟨i, hi, rfl⟩ := List.getElem_of_mem hx
  have a := negA_no h1 (i := i)
  have b := bigA_no h2 (i := i)
  rw [List.getD_eq_getElem?_getD, List.getElem?_eq_getElem hi] at a b
  exact ⟨a, b⟩
theorem trm_congr {f g : Nat → Int} (h : ∀ i, 1 ≤ i → i < 25 → f i = g i) : trm f = trm g := by
  have hl : ∀ n, n ≤ 24 → lst f n = lst g n := fun n => by
    induction n with
    | zero => intro _; rfl
    | succ n ih =>
      intro hn
      unfold lst
      rw [h (n + 1) (by omega) (by omega), ih (by omega)]
  unfold trm
  rw [hl 24 (Nat.le_refl _)]
  refine tab_ext fun i hi => ?_
  have := lst_le g 24
  exact h (i + 1) (by omega) (by omega)
theorem cn_trm2 (f : Nat → Int) {i : Nat} (h1 : 1 ≤ i) (hi : i < 25) : cn (trm f) i = f i := by
  unfold cn
  rw [if_neg (by omega)]
  unfold trm
  by_cases h : i - 1 < lst f 24
  · rw [tab_getD _ h, show i - 1 + 1 = i by omega]
  · rw [List.getD_eq_getElem?_getD, List.getElem?_eq_none (by rw [tab_length]; omega)]
    exact (lst_zero f 24 i (by omega) (by omega)).symm
structure TrOk (r g : List Int) : Prop where
  v : vErr (trR r g) (trG r g) = 0
  nR : NumOk (trR r g)
  nG : NumOk (trG r g)
  tR : trR (trR r g) (trG r g) = trR r g
  tG : trG (trR r g) (trG r g) = trG r g
theorem trOk {r g : List Int} (h : vErr r g = 0) : TrOk r g := by
  obtain ⟨_, _, n1, n2, b1, b2⟩ := vErr_zero h
  have e1 : trR r g = trm (cn r) := by unfold trR; rw [if_pos h]
  have e2 : trG r g = trm (cn g) := by unfold trG; rw [if_pos h]
  have hv := vErr_trm (okf_cn n1 b1) (okf_cn n2 b2)
  rw [bigF_cn b1, bigF_cn b2] at hv
  have hv0 : vErr (trR r g) (trG r g) = 0 := by rw [e1, e2, hv]; rfl
  obtain ⟨_, _, m1, m2, c1, c2⟩ := vErr_zero hv0
  refine ⟨hv0, numOk_of m1 c1, numOk_of m2 c2, ?_, ?_⟩
  · rw [show trR (trR r g) (trG r g) = trm (cn (trR r g)) by rw [trR, if_pos hv0], e1]
    exact trm_congr fun i h1 h2 => cn_trm2 _ h1 h2
  · rw [show trG (trR r g) (trG r g) = trm (cn (trG r g)) by rw [trG, if_pos hv0], e2]
    exact trm_congr fun i h1 h2 => cn_trm2 _ h1 h2
/-- What a text is that of: the program's answer. -/
def pbP (t : List UInt8) : List Int × List Int × Int :=
  if 4000 < t.length then ([], [], 4) else
  match psP (wds 32 t).tail false [] [] with
  | none => ([], [], 3)
  | some (R, G) => if vErr R G = 0 ∧ fmtT (trR R G) (trG R G) = t then (R, G, 0) else ([], [], 3)
/-- The reference's answer. -/
def pbR (Nr : List UInt8 → Int) (t : List UInt8) : List Int × List Int × Int :=
  if 4000 < t.length then ([], [], 4) else
  if vErr (psR Nr (wds 32 t).tail false [] []).1 (psR Nr (wds 32 t).tail false [] []).2 = 0 ∧ fmtT (trR (psR Nr (wds 32 t).tail false [] []).1 (psR Nr (wds 32 t).tail false [] []).2) (trG (psR Nr (wds 32 t).tail false [] []).1 (psR Nr (wds 32 t).tail false [] []).2) = t
  then (trR (psR Nr (wds 32 t).tail false [] []).1 (psR Nr (wds 32 t).tail false [] []).2, trG (psR Nr (wds 32 t).tail false [] []).1 (psR Nr (wds 32 t).tail false [] []).2, 0) else ([], [], 3)
/-- A text of a bundle is read back. -/
theorem pbP_fmt {r g : List Int} (h : vErr r g = 0) : pbP (fmtT (trR r g) (trG r g)) = (trR r g, trG r g, 0) := by
  have T := trOk h
  have hl := fmtT_len T.nR T.nG (trR_len r g) (trG_len r g)
  unfold pbP
  rw [if_neg (by omega), wds_fmt T.nR T.nG, psP_fmt T.nR T.nG]
  dsimp only
  rw [T.tR, T.tG, if_pos ⟨T.v, rfl⟩]
theorem pbR_fmt {Nr : List UInt8 → Int} (hN : ∀ x : Int, 0 ≤ x ∧ x ≤ 1000000 → Nr (Go.Lib.itoa x) = x) {r g : List Int} (h : vErr r g = 0) : pbR Nr (fmtT (trR r g) (trG r g)) = (trR r g, trG r g, 0) := by
  have T := trOk h
  have hl := fmtT_len T.nR T.nG (trR_len r g) (trG_len r g)
  unfold pbR
  rw [if_neg (by omega), wds_fmt T.nR T.nG, psR_fmt hN T.nR T.nG]
  dsimp only
  rw [T.tR, T.tG, if_pos ⟨T.v, rfl⟩]
theorem pb_eq {Nr : List UInt8 → Int} (hN : ∀ x : Int, 0 ≤ x ∧ x ≤ 1000000 → Nr (Go.Lib.itoa x) = x) (t : List UInt8) : pbP t = pbR Nr t := by
  by_cases h0 : 4000 < t.length
  · unfold pbP pbR
    rw [if_pos h0, if_pos h0]
  · by_cases h1 : ∃ r g, vErr r g = 0 ∧ fmtT (trR r g) (trG r g) = t
    · obtain ⟨r, g, hv, rfl⟩ := h1
      rw [pbP_fmt hv, pbR_fmt hN hv]
    · have hn : ∀ r g, ¬ (vErr r g = 0 ∧ fmtT (trR r g) (trG r g) = t) := fun r g h => h1 ⟨r, g, h⟩
      unfold pbP pbR
      rw [if_neg h0, if_neg h0, if_neg (hn _ _)]
      split
      · rfl
      · rw [if_neg (hn _ _)]
end Go.Proofs.YtmblgbcipniecaaDoor
