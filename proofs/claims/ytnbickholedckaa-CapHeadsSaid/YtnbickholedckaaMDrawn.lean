/- Regions that draw their order and write memory: one walk in the text's order serves every order. Nothing here speaks of one program. -/
import Derived.Test.YtnbickholedckaaMEng
namespace Go.Proofs.Ytnbickholedckaa
open Go.RowKit

def vOf (b : Bool) (xs : List Int) : Value := if b then .agg (ivs xs).toArray else iv (xs.getD 0 0)
/-- An entry: the key's numbers, the value, and when it came. -/
abbrev Ent := List Int × Value × Nat
def mEn (b : Bool) (p : Ent) : MapEntry := { key := vOf b p.1, val := p.2.1, born := p.2.2 }
def mOb (b : Bool) (es : List Ent) (ck : Nat) : Obj := .map (es.map (mEn b)).toArray ck
/-- The entries of a map: each has come at its own place. -/
abbrev Mp := List (List Int × Value)
def ents (L : Mp) : List Ent := L.zipIdx.map fun p => (p.1.1, p.1.2, p.2)
def mapO (b : Bool) (L : Mp) : Obj := mOb b (ents L) L.length
/-- The place of a key. -/
def plc (x : List Int) : Mp → Nat → Option Nat
  | [], _ => none
  | p :: L, i => if x = p.1 then some i else plc x L (i + 1)
/-- One object's state is turned. -/
inductive UpdM (m : Nat) (o o' : Obj) : List (Nat × Obj) → List (Nat × Obj) → Prop
  | head (ms : List (Nat × Obj)) : UpdM m o o' ((m, o) :: ms) ((m, o') :: ms)
  | tail (p : Nat × Obj) {ms ms' : List (Nat × Obj)} (h : UpdM m o o' ms ms') : UpdM m o o' (p :: ms) (p :: ms')
/-- What was known of maps, and then some keys came in with zeros. -/
inductive Ext0 (k : Nat) (a : Wd) : Wd → Prop
  | refl : Ext0 k a a
  | any {c : Wd} {ms' : List (Nat × Obj)} (hk : k = 0) (h : Ext0 k a c) : Ext0 k a ⟨c.w, ms'⟩
  | step {c : Wd} {m : Nat} {L : Mp} {x : List Int} {ms' : List (Nat × Obj)} (h : Ext0 k a c) (hu : UpdM m (mapO (!(k == 1)) L) (mapO (!(k == 1)) (L ++ [(x, iv 0)])) c.ms ms') (hp : plc x L 0 = none) (hx : x.length = k) (hL : ∀ p ∈ L, p.1.length = k) : Ext0 k a ⟨c.w, ms'⟩
theorem Ext0.trans {k : Nat} {a b c : Wd} (h1 : Ext0 k a b) (h2 : Ext0 k b c) : Ext0 k a c := by
  induction h2 with
  | refl => exact h1
  | step _ hu hp hx hL ih => exact .step ih hu hp hx hL
  | any hk _ ih => exact .any hk ih
/-- Effects of which the text's order alone is followed, or that keep what stands by. -/
def effF : Nat → Bool
  | 3 | 4 | 5 => true
  | _ => false

section
variable (P : Program) (B : Nat) (w0 : Wd)
/-- What an operation's run leads to, without panic. -/
def vres (V : Value → World → Prop) : Result Next → Prop
  | .ok (.value v) w' => V v w'
  | .ok .skip w' => V undef w'
  | .ok (.enter f args) w' => Calls P f args w' (fun e w'' => ∃ v, e = .returned v ∧ V v w'')
  | _ => False
/-- Memory of this kind there is. -/
def In (hs : HS) : Prop := ∃ w, Hp B w0 w hs
end
/-- The one memory holds all that the other holds. -/
def SubP (S hs : HS) : Prop := ∃ h, h.Perm hs ∧ S.Sublist h

section
variable {P : Program} {B : Nat} {w0 : Wd}
theorem vres_mono {V V' : Value → World → Prop} {r : Result Next} (h : ∀ v w, V v w → V' v w) (hr : vres P V r) : vres P V' r := by
  cases r with
  | ok x w' =>
    cases x <;> simp only [vres] at hr ⊢
    case value v => exact h _ _ hr
    case skip => exact h _ _ hr
    case enter f args => exact hr.mono fun e w'' ⟨v, he, hv⟩ => ⟨v, he, h _ _ hv⟩
  | halt x w' => simp only [vres] at hr
theorem vres_ex {V : Value → World → Prop} {r : Result Next} (hr : vres P V r) : ∃ v w', V v w' := by
  cases r with
  | ok x w' =>
    cases x <;> simp only [vres] at hr
    case value v => exact ⟨_, _, hr⟩
    case skip => exact ⟨_, _, hr⟩
    case enter f args =>
      obtain ⟨e, w'', fr, ⟨v, _, hv⟩, _⟩ := hr []
      exact ⟨v, w'', hv⟩
  | halt x w' => simp only [vres] at hr
theorem vres_wp {o : Oper} {a : Act} {w : World} {V : Value → World → Prop} {N : Act → World → Prop} {Q : Exit → Act → World → Prop} (hr : vres P V ((execOp a.eval o).run P w)) (h : ∀ v w', V v w' → N (a.put o.dst v) w') : o.wp P a w N Q := by
  unfold Oper.wp
  generalize (execOp a.eval o).run P w = r at hr
  cases r with
  | ok x w' =>
    cases x <;> simp only [vres] at hr <;> simp only [Oper.upon]
    case value v => exact h _ _ hr
    case skip => exact h _ _ hr
    case enter f args => exact hr.mono fun e w'' ⟨v, he, hv⟩ => by subst he; exact h _ _ hv
  | halt x w' => simp only [vres] at hr

theorem SubP.refl (hs : HS) : SubP hs hs := ⟨hs, .refl _, List.Sublist.refl _⟩
theorem SubP.of {S hs : HS} (h : S.Sublist hs) : SubP S hs := ⟨hs, .refl _, h⟩
theorem SubP.cons {S hs : HS} (p : Nat × List Value) (h : SubP S hs) : SubP S (p :: hs) := let ⟨x, h1, h2⟩ := h; ⟨p :: x, h1.cons p, h2.cons p⟩
theorem SubP.perm {S hs hs' : HS} (h : SubP S hs) (hp : hs.Perm hs') : SubP S hs' := let ⟨x, h1, h2⟩ := h; ⟨x, h1.trans hp, h2⟩
theorem Hp.subP {S hs : HS} {w : World} (h : Hp B w0 w hs) (hp : SubP S hs) : Hp B w0 w S := let ⟨_, h1, h2⟩ := hp; (h.perm h1.symm).sub h2
theorem In.perm {hs hs' : HS} (h : In B w0 hs) (hp : hs.Perm hs') : In B w0 hs' := let ⟨w, hw⟩ := h; ⟨w, hw.perm hp⟩
theorem In.sub {hs hs' : HS} (h : In B w0 hs) (hp : hs'.Sublist hs) : In B w0 hs' := let ⟨w, hw⟩ := h; ⟨w, hw.sub hp⟩
end

/-- A new block's address: a variable's, or a row's of k. -/
def newv (k : Option Nat) (b : Nat) : Value := match k with | none => .pointer (some ⟨b, 0, none⟩) | some n => .slice (some ⟨b, 0, none⟩) n n

section
variable (P : Program) (B : Nat) (w0 : Wd)
/-- One operation: 0 yields a value that hangs on S alone, 1 one that hangs on memory as it is; 2 makes a block; 3 turns memory but leaves S; the rest turn memory where all else waits. -/
def st (g : Bool) (r : Sem Next) (f : Nat) (S hs : HS) (X : Value → Wd → HS → HS → Prop) : Prop :=
  if g then
    match f with
    | 0 => ∃ v, (∀ w, Hp B w0 w S → r.run P w = .ok (.value v) w) ∧ X v w0 S hs
    | 1 => ∃ v, (∀ w, Hp B w0 w hs → r.run P w = .ok (.value v) w) ∧ X v w0 S hs
    | 2 => ∃ c e k, (∀ w, r.run P w = .ok (.value (newv k w.heap.size)) (w.alloc (.cells c e))) ∧ ∀ b, In B w0 ((b, c.toList) :: hs) → X (newv k b) w0 S ((b, c.toList) :: hs)
    | 3 => ∃ R : Value → HS → Prop, (∀ F w, Hp B w0 w (F ++ hs) → vres P (fun v w' => ∃ h, R v h ∧ Hp B w0 w' (F ++ h)) (r.run P w)) ∧ ∀ v h, R v h → In B w0 h → SubP S h ∧ X v w0 S h
    | 5 => ∃ R : Value → Wd → HS → Prop, (∀ F w, Hp B w0 w (F ++ hs) → vres P (fun v w' => ∃ w1 h, R v w1 h ∧ Hp B w1 w' (F ++ h)) (r.run P w)) ∧ ∀ v w1 h, R v w1 h → In B w1 h → X v w1 h h
    | 4 => ∃ R : Value → HS → Prop, (∀ F w, Hp B w0 w (F ++ hs) → vres P (fun v w' => ∃ h, R v h ∧ Hp B w0 w' (F ++ h)) (r.run P w)) ∧ ∀ v h, R v h → In B w0 h → X v w0 h h
    | q + 6 => if q % 2 = 0 then ∃ v, (∀ w1 w, Ext0 (q / 2) w0 w1 → Hp B w1 w hs → r.run P w = .ok (.value v) w) ∧ X v w0 S hs
      else ∃ R : Value → Wd → Prop, (∀ F w, Hp B w0 w (F ++ hs) → vres P (fun v w' => ∃ w1, R v w1 ∧ Hp B w1 w' (F ++ hs)) (r.run P w)) ∧ ∀ v w1, R v w1 → In B w1 hs → Ext0 (q / 2) w0 w1 ∧ X v w1 S hs
  else X undef w0 S hs
end
section
variable {P : Program} {B : Nat} {w0 : Wd}
theorem st_mono {g : Bool} {r : Sem Next} {f : Nat} {S hs : HS} {X X' : Value → Wd → HS → HS → Prop} (hin : In B w0 hs) (hsub : SubP S hs) (h : ∀ v w1 S' h', In B w1 h' → SubP S' h' → X v w1 S' h' → X' v w1 S' h') (hr : st P B w0 g r f S hs X) : st P B w0 g r f S hs X' := by
  unfold st at hr ⊢
  split
  · rename_i hg
    rw [if_pos hg] at hr
    split at hr
    · obtain ⟨v, h1, h2⟩ := hr; exact ⟨v, h1, h _ _ _ _ hin hsub h2⟩
    · obtain ⟨v, h1, h2⟩ := hr; exact ⟨v, h1, h _ _ _ _ hin hsub h2⟩
    · obtain ⟨c, e, k, h1, h2⟩ := hr; exact ⟨c, e, k, h1, fun b hb => h _ _ _ _ hb (hsub.cons _) (h2 b hb)⟩
    · obtain ⟨R, h1, h2⟩ := hr; exact ⟨R, h1, fun v x hx hxi => ⟨(h2 v x hx hxi).1, h _ _ _ _ hxi (h2 v x hx hxi).1 (h2 v x hx hxi).2⟩⟩
    · obtain ⟨R, h1, h2⟩ := hr; exact ⟨R, h1, fun v w1 x hx hxi => h _ _ _ _ hxi (SubP.refl _) (h2 v w1 x hx hxi)⟩
    · obtain ⟨R, h1, h2⟩ := hr; exact ⟨R, h1, fun v x hx hxi => h _ _ _ _ hxi (SubP.refl _) (h2 v x hx hxi)⟩
    · split
      · rename_i hq; rw [if_pos hq] at hr; obtain ⟨v, h1, h2⟩ := hr; exact ⟨v, h1, h _ _ _ _ hin hsub h2⟩
      · rename_i hq; rw [if_neg hq] at hr; obtain ⟨R, h1, h2⟩ := hr; exact ⟨R, h1, fun v w1 hx hxi => ⟨(h2 v w1 hx hxi).1, h _ _ _ _ hxi hsub (h2 v w1 hx hxi).2⟩⟩
  · rename_i hg
    rw [if_neg hg] at hr
    exact h _ _ _ _ hin hsub hr
/-- Memory in another order. -/
theorem st_perm {g : Bool} {r : Sem Next} {f : Nat} {S hs hs' : HS} {X : Value → Wd → HS → HS → Prop} (hp : hs.Perm hs') (hX : ∀ v w1 S' h h', h.Perm h' → X v w1 S' h → X v w1 S' h') (hr : st P B w0 g r f S hs X) : st P B w0 g r f S hs' X := by
  unfold st at hr ⊢
  split
  · rename_i hg
    rw [if_pos hg] at hr
    split at hr
    · obtain ⟨v, h1, h2⟩ := hr; exact ⟨v, h1, hX _ _ _ _ _ hp h2⟩
    · obtain ⟨v, h1, h2⟩ := hr; exact ⟨v, fun w hw => h1 w (hw.perm hp.symm), hX _ _ _ _ _ hp h2⟩
    · obtain ⟨c, e, k, h1, h2⟩ := hr; exact ⟨c, e, k, h1, fun b hb => hX _ _ _ _ _ (hp.cons _) (h2 b (hb.perm (hp.cons _).symm))⟩
    · obtain ⟨R, h1, h2⟩ := hr; exact ⟨R, fun F w hw => h1 F w (hw.perm (hp.append_left F).symm), fun v x hx hxi => h2 v x hx hxi⟩
    · obtain ⟨R, h1, h2⟩ := hr; exact ⟨R, fun F w hw => h1 F w (hw.perm (hp.append_left F).symm), fun v w1 x hx hxi => h2 v w1 x hx hxi⟩
    · obtain ⟨R, h1, h2⟩ := hr; exact ⟨R, fun F w hw => h1 F w (hw.perm (hp.append_left F).symm), fun v x hx hxi => h2 v x hx hxi⟩
    · split
      · rename_i hq; rw [if_pos hq] at hr; obtain ⟨v, h1, h2⟩ := hr; exact ⟨v, fun w1 w he hw => h1 w1 w he (hw.perm hp.symm), hX _ _ _ _ _ hp h2⟩
      · rename_i hq; rw [if_neg hq] at hr; obtain ⟨R, h1, h2⟩ := hr; exact ⟨R, fun F w hw => vres_mono (fun v w' ⟨w1, hx, hw'⟩ => ⟨w1, hx, hw'.perm (hp.append_left F)⟩) (h1 F w (hw.perm (hp.append_left F).symm)), fun v w1 hx hxi => ⟨(h2 v w1 hx (hxi.perm hp.symm)).1, hX _ _ _ _ _ hp (h2 v w1 hx (hxi.perm hp.symm)).2⟩⟩
  · rename_i hg
    rw [if_neg hg] at hr
    exact hX _ _ _ _ _ hp hr

/-- What may be taken ahead of what stands before it. -/
def swapOk (fy fx : Nat) : Bool :=
  match fy, fx with
  | 0, 0 | 0, 1 | 0, 2 | 0, 3 | 1, 0 | 1, 1 | 1, 2 | 2, 0 | 2, 2 | 3, 0 | 3, 2 => true
  | 0, q + 6 | 1, q + 6 | q + 6, 0 | q + 6, 1 => q % 2 == 0
  | y + 6, x + 6 => y % 2 == 0 && (x % 2 == 0 || x == y + 1)
  | _, _ => false

theorem newv_inj {k k' : Option Nat} {b : Nat} (h : newv k b = newv k' b) : k = k' := by
  cases k <;> cases k' <;> simp [newv] at h ⊢
  exact h

theorem alloc_inj {w : World} {c c' : Array Value} {e e' : TypeId} (h : w.alloc (.cells c e) = w.alloc (.cells c' e')) : c = c' ∧ e = e' := by
  have h1 : (w.alloc (.cells c e)).heap[w.heap.size]? = (w.alloc (.cells c' e')).heap[w.heap.size]? := by rw [h]
  rw [heap_alloc_new, heap_alloc_new] at h1
  simpa using h1

theorem st_swap {gy gx : Bool} {ry rx : Sem Next} {fy fx : Nat} {S hs : HS} {Z : Value → Value → Wd → HS → HS → Prop} (hok : swapOk fy fx = true) (hin : In B w0 hs) (hsub : SubP S hs)
    (hZ : ∀ v u w1 S' h h', h.Perm h' → Z v u w1 S' h → Z v u w1 S' h')
    (h : st P B w0 gy ry fy S hs (fun v w1 S1 h1 => st P B w1 gx rx fx S1 h1 (fun u w2 S2 h2 => Z v u w2 S2 h2))) :
    st P B w0 gx rx fx S hs (fun u w1 S1 h1 => st P B w1 gy ry fy S1 h1 (fun v w2 S2 h2 => Z v u w2 S2 h2)) := by
  obtain ⟨w1, hw1⟩ := hin
  cases gy with
  | false =>
    simp only [st, Bool.false_eq_true, if_false] at h ⊢
    exact h
  | true =>
  cases gx with
  | false =>
    simp only [st, Bool.false_eq_true, if_false] at h ⊢
    exact h
  | true =>
  simp only [st, if_true] at h ⊢
  have hwS := hw1.subP hsub
  match fy, fx, hok with
  | 0, 0, _ => obtain ⟨v, h1, u, h2, h3⟩ := h; exact ⟨u, h2, v, h1, h3⟩
  | 0, 1, _ => obtain ⟨v, h1, u, h2, h3⟩ := h; exact ⟨u, h2, v, h1, h3⟩
  | 1, 0, _ => obtain ⟨v, h1, u, h2, h3⟩ := h; exact ⟨u, h2, v, h1, h3⟩
  | 1, 1, _ => obtain ⟨v, h1, u, h2, h3⟩ := h; exact ⟨u, h2, v, h1, h3⟩
  | 0, q + 6, hq =>
    have hq' : q % 2 = 0 := by simpa [swapOk] using hq
    simp only [st, if_true, if_pos hq'] at h ⊢
    obtain ⟨v, h1, u, h2, h3⟩ := h; exact ⟨u, h2, v, h1, h3⟩
  | 1, q + 6, hq =>
    have hq' : q % 2 = 0 := by simpa [swapOk] using hq
    simp only [st, if_true, if_pos hq'] at h ⊢
    obtain ⟨v, h1, u, h2, h3⟩ := h; exact ⟨u, h2, v, h1, h3⟩
  | q + 6, 0, hq =>
    have hq' : q % 2 = 0 := by simpa [swapOk] using hq
    simp only [st, if_true, if_pos hq'] at h ⊢
    obtain ⟨v, h1, u, h2, h3⟩ := h; exact ⟨u, h2, v, h1, h3⟩
  | q + 6, 1, hq =>
    have hq' : q % 2 = 0 := by simpa [swapOk] using hq
    simp only [st, if_true, if_pos hq'] at h ⊢
    obtain ⟨v, h1, u, h2, h3⟩ := h; exact ⟨u, h2, v, h1, h3⟩
  | y + 6, x + 6, hq =>
    have hq' : y % 2 = 0 ∧ (x % 2 = 0 ∨ x = y + 1) := by simpa [swapOk] using hq
    rcases hq' with ⟨hy, hx | hx⟩
    · simp only [st, if_true, if_pos hy, if_pos hx] at h ⊢
      obtain ⟨v, h1, u, h2, h3⟩ := h; exact ⟨u, h2, v, h1, h3⟩
    · subst hx
      have hx : ¬ (y + 1) % 2 = 0 := by omega
      have he2 : (y + 1) / 2 = y / 2 := by omega
      simp only [st, if_true, if_pos hy, if_neg hx, he2] at h ⊢
      obtain ⟨v, h1, R, h2, h3⟩ := h
      exact ⟨R, h2, fun u w1 hR hi => ⟨(h3 u w1 hR hi).1, v, fun w2 w he hw => h1 w2 w ((h3 u w1 hR hi).1.trans he) hw, (h3 u w1 hR hi).2⟩⟩
  | 0, 2, _ => obtain ⟨v, h1, c, e, k, h2, h3⟩ := h; exact ⟨c, e, k, h2, fun b hb => ⟨v, h1, h3 b hb⟩⟩
  | 1, 2, _ => obtain ⟨v, h1, c, e, k, h2, h3⟩ := h; exact ⟨c, e, k, h2, fun b hb => ⟨v, fun w hw => h1 w (hw.sub (List.sublist_cons_self _ _)), h3 b hb⟩⟩
  | 0, 3, _ => obtain ⟨v, h1, R, h2, h3⟩ := h; exact ⟨R, h2, fun u x hx hxi => ⟨(h3 u x hx hxi).1, v, h1, (h3 u x hx hxi).2⟩⟩
  | 2, 0, _ =>
    obtain ⟨c, e, k, h1, h2⟩ := h
    have hfr := hw1.fresh c e
    obtain ⟨u, h3, h4⟩ := h2 _ ⟨_, hfr⟩
    refine ⟨u, h3, c, e, k, h1, fun b hb => ?_⟩
    obtain ⟨u', h5, h6⟩ := h2 b hb
    have e1 := h3 w1 hwS
    rw [h5 w1 hwS] at e1
    simp only [Result.ok.injEq, Next.value.injEq, and_true] at e1
    rw [← e1]; exact h6
  | 2, 2, _ =>
    obtain ⟨c, e, k, h1, h2⟩ := h
    obtain ⟨c', e', k', h3, h4⟩ := h2 _ ⟨_, hw1.fresh c e⟩
    refine ⟨c', e', k', h3, fun b' hb' => ⟨c, e, k, h1, fun b hb => ?_⟩⟩
    have hp : ((b, c.toList) :: (b', c'.toList) :: hs).Perm ((b', c'.toList) :: (b, c.toList) :: hs) := .swap _ _ _
    obtain ⟨c2, e2, k2, h5, h6⟩ := h2 b (hb.sub (.cons_cons _ (List.sublist_cons_self _ _)))
    have e1 := h3 w1
    rw [h5 w1] at e1
    simp only [Result.ok.injEq, Next.value.injEq] at e1
    obtain ⟨e3, e4⟩ := e1
    have e5 := newv_inj e3
    obtain ⟨e6, e7⟩ := alloc_inj e4
    subst e5 e6 e7
    exact hZ _ _ _ _ _ _ hp.symm (h6 b' (hb.perm hp))
  | 3, 0, _ =>
    obtain ⟨R, h1, h2⟩ := h
    obtain ⟨v0, w', x0, hx0, hw0⟩ := vres_ex (h1 [] w1 hw1)
    obtain ⟨_, u, h3, h4⟩ := h2 v0 x0 hx0 ⟨w', hw0⟩
    refine ⟨u, h3, R, h1, fun v x hx hxi => ?_⟩
    obtain ⟨h7, u', h5, h6⟩ := h2 v x hx hxi
    have e1 := h3 w1 hwS
    rw [h5 w1 hwS] at e1
    simp only [Result.ok.injEq, Next.value.injEq, and_true] at e1
    rw [← e1]; exact ⟨h7, h6⟩
  | 3, 2, _ =>
    obtain ⟨R, h1, h2⟩ := h
    obtain ⟨v0, w', x0, hx0, hw0⟩ := vres_ex (h1 [] w1 hw1)
    obtain ⟨_, c, e, k, h3, h4⟩ := h2 v0 x0 hx0 ⟨w', hw0⟩
    refine ⟨c, e, k, h3, fun b hb => ⟨fun v h => ∃ x, R v x ∧ h = (b, c.toList) :: x, fun F w hw => ?_, ?_⟩⟩
    · have h5 := h1 (F ++ [(b, c.toList)]) w (by simpa using hw)
      exact vres_mono (fun v w2 ⟨x, hx, hw2⟩ => ⟨_, ⟨x, hx, rfl⟩, by simpa using hw2⟩) h5
    · rintro v h ⟨x, hx, rfl⟩ hxi
      obtain ⟨h7, c2, e2, k2, h5, h6⟩ := h2 v x hx (hxi.sub (List.sublist_cons_self _ _))
      have e1 := h3 w1
      rw [h5 w1] at e1
      simp only [Result.ok.injEq, Next.value.injEq] at e1
      obtain ⟨e3, e4⟩ := e1
      have e5 := newv_inj e3
      obtain ⟨e6, e7⟩ := alloc_inj e4
      subst e5 e6 e7
      exact ⟨h7.cons _, h6 b hxi⟩
end

/-! ### The pending operations, in the text's order -/
def lk : List Nat → Nat → Nat
  | [], _ => 0
  | x :: _, 0 => x
  | _ :: l, i + 1 => lk l i
section
variable (P : Program) (B : Nat) (ops : Array Oper) (fl : List Nat) (K : Act → World → Prop)
def rkI : Wd → List Nat → HS → Act → HS → Prop
  | w0, [], _, a, hs => ∀ w, Hp B w0 w hs → K a w
  | w0, i :: π, S, a, hs => match ops[i]? with
    | none => rkI w0 π S a hs
    | some o => st P B w0 (Region.wanted o (yielded ops a.tmps)) (execOp a.eval o) (lk fl i) S hs (fun v w1 S' h' => rkI w1 π S' (a.put o.dst v) h')
end
section
variable {P : Program} {B : Nat} {w0 : Wd} {ops : Array Oper} {fl : List Nat} {K : Act → World → Prop} {Q : Exit → Act → World → Prop}
theorem rkI_perm : ∀ (w0 : Wd) (π : List Nat) (S : HS) (a : Act) (hs hs' : HS), hs.Perm hs' → rkI P B ops fl K w0 π S a hs → rkI P B ops fl K w0 π S a hs'
  | w0, [], S, a, hs, hs', hp, h => fun w hw => h w (hw.perm hp.symm)
  | w0, i :: π, S, a, hs, hs', hp, h => by
    unfold rkI at h ⊢
    split
    · rename_i ho
      simp only [ho] at h
      exact rkI_perm w0 π S a hs hs' hp h
    · rename_i o ho
      simp only [ho] at h
      exact st_perm hp (fun v w1 S' x x' hx => rkI_perm w1 π S' _ x x' hx) h
theorem rkI_swap {y x : Nat} {oy ox : Oper} {π : List Nat} {S hs : HS} {a : Act} (hy : ops[y]? = some oy) (hx : ops[x]? = some ox) (hap : oy.apart ops ox = true)
    (hsy : ∀ cs b, oy.op ≠ .select cs b) (hsx : ∀ cs b, ox.op ≠ .select cs b) (hok : swapOk (lk fl y) (lk fl x) = true) (hin : In B w0 hs) (hsub : SubP S hs)
    (h : rkI P B ops fl K w0 (y :: x :: π) S a hs) : rkI P B ops fl K w0 (x :: y :: π) S a hs := by
  obtain ⟨h1, h2, h3⟩ := Oper.apart_spec hap
  simp only [rkI, hy, hx] at h ⊢
  have e1 : ∀ v, execOp (a.put oy.dst v).eval ox = execOp a.eval ox := fun v => execOp_put ox hsx a oy.dst v h1
  have e2 : ∀ v, Region.wanted ox (yielded ops (a.put oy.dst v).tmps) = Region.wanted ox (yielded ops a.tmps) := fun v => wanted_put ox a oy.dst v h1
  have e3 : ∀ v, execOp (a.put ox.dst v).eval oy = execOp a.eval oy := fun v => execOp_put oy hsy a ox.dst v h3
  have e4 : ∀ v, Region.wanted oy (yielded ops (a.put ox.dst v).tmps) = Region.wanted oy (yielded ops a.tmps) := fun v => wanted_put oy a ox.dst v h3
  simp only [e1, e2] at h
  simp only [e3, e4]
  have h5 := st_swap (Z := fun v u w1 S' h' => rkI P B ops fl K w1 π S' ((a.put oy.dst v).put ox.dst u) h') hok hin hsub (fun v u w1 S' x x' hx => rkI_perm w1 π S' _ x x' hx) h
  refine st_mono hin hsub (fun u w1 S1 k1 hi1 hs1 hh => st_mono hi1 hs1 (fun v w2 S2 k2 _ _ hh2 => ?_) hh) h5
  rw [← Act.put_comm a v u h2]
  exact hh2
theorem rkI_front {x : Nat} {ox : Oper} (hx : ops[x]? = some ox) (hsel : ∀ (j : Nat) (o : Oper) cs b, ops[j]? = some o → o.op ≠ .select cs b) : ∀ (w0 : Wd) (π1 π2 : List Nat) (S hs : HS) (a : Act), In B w0 hs → SubP S hs →
    (∀ y ∈ π1, ∃ oy, ops[y]? = some oy ∧ oy.apart ops ox = true ∧ swapOk (lk fl y) (lk fl x) = true) → rkI P B ops fl K w0 (π1 ++ x :: π2) S a hs → rkI P B ops fl K w0 (x :: (π1 ++ π2)) S a hs
  | _, [], _, _, _, _, _, _, _, h => h
  | w0, y :: π1, π2, S, hs, a, hin, hsub, hall, h => by
    obtain ⟨oy, hy, hap, hok⟩ := hall y (.head _)
    refine rkI_swap hy hx hap (fun cs b => hsel y oy cs b hy) (fun cs b => hsel x ox cs b hx) hok hin hsub ?_
    have h' : rkI P B ops fl K w0 (y :: (π1 ++ x :: π2)) S a hs := h
    show rkI P B ops fl K w0 (y :: (x :: (π1 ++ π2))) S a hs
    unfold rkI at h' ⊢
    simp only [hy] at h' ⊢
    exact st_mono hin hsub (fun v w1 S' k hi hs' hh => rkI_front hx hsel w1 π1 π2 S' k _ hi hs' (fun z hz => hall z (.tail _ hz)) hh) h'
theorem rkI_exec {x : Nat} {ox : Oper} (hx : ops[x]? = some ox) {π : List Nat} {S hs : HS} {a : Act} {w : World} (hw : Hp B w0 w hs) (hsub : SubP S hs) (h : rkI P B ops fl K w0 (x :: π) S a hs) :
    wpOp P ops Q x (fun a' w' => ∃ w1 S' h', Hp B w1 w' h' ∧ SubP S' h' ∧ rkI P B ops fl K w1 π S' a' h') a w := by
  unfold rkI at h
  unfold wpOp
  simp only [hx] at h ⊢
  unfold st at h
  split
  · rename_i hg
    rw [if_pos hg] at h
    left
    split at h
    · obtain ⟨v, h1, h2⟩ := h
      unfold Oper.wp
      rw [h1 w (hw.subP hsub)]
      exact ⟨w0, S, hs, hw, hsub, h2⟩
    · obtain ⟨v, h1, h2⟩ := h
      unfold Oper.wp
      rw [h1 w hw]
      exact ⟨w0, S, hs, hw, hsub, h2⟩
    · obtain ⟨c, e, k, h1, h2⟩ := h
      unfold Oper.wp
      rw [h1 w]
      have hfr := hw.fresh c e
      exact ⟨w0, S, _, hfr, hsub.cons _, h2 _ ⟨_, hfr⟩⟩
    · obtain ⟨R, h1, h2⟩ := h
      refine vres_wp (h1 [] w hw) ?_
      rintro v w' ⟨k, hk, hwk⟩
      obtain ⟨h3, h4⟩ := h2 v k hk ⟨w', hwk⟩
      exact ⟨w0, S, k, hwk, h3, h4⟩
    · obtain ⟨R, h1, h2⟩ := h
      refine vres_wp (h1 [] w hw) ?_
      rintro v w' ⟨w1, k, hk, hwk⟩
      exact ⟨w1, k, k, hwk, SubP.refl _, h2 v w1 k hk ⟨w', hwk⟩⟩
    · obtain ⟨R, h1, h2⟩ := h
      refine vres_wp (h1 [] w hw) ?_
      rintro v w' ⟨k, hk, hwk⟩
      exact ⟨w0, k, k, hwk, SubP.refl _, h2 v k hk ⟨w', hwk⟩⟩
    · split at h
      · obtain ⟨v, h1, h2⟩ := h
        unfold Oper.wp
        rw [h1 w0 w .refl hw]
        exact ⟨w0, S, hs, hw, hsub, h2⟩
      · obtain ⟨R, h1, h2⟩ := h
        refine vres_wp (h1 [] w hw) ?_
        rintro v w' ⟨w1, hk, hwk⟩
        exact ⟨w1, S, hs, hwk, hsub, (h2 v w1 hk ⟨w', hwk⟩).2⟩
  · rename_i hg
    rw [if_neg hg] at h
    exact ⟨w0, S, hs, hw, hsub, h⟩

/-! ### Which operation waits for which -/
inductive Rch (ops : Array Oper) : Nat → Nat → Prop
  | one {j : Nat} {o : Oper} {e : Edge} (h : ops[j]? = some o) (he : e ∈ o.after) (hb : Region.binds .any e = true) : Rch ops j e.on
  | more {j i : Nat} {o : Oper} {e : Edge} (h : ops[j]? = some o) (he : e ∈ o.after) (hb : Region.binds .any e = true) (hr : Rch ops e.on i) : Rch ops j i
def msk (acc : List Nat) : List Edge → Nat
  | [] => 0
  | e :: l => if Region.binds .any e then (1 <<< e.on) ||| lk acc e.on ||| msk acc l else msk acc l
def ancGo : List Oper → List Nat → List Nat
  | [], acc => acc
  | o :: l, acc => ancGo l (acc ++ [msk acc o.after.toList])
theorem msk_spec (acc : List Nat) (i : Nat) : ∀ l : List Edge, (msk acc l).testBit i = true → ∃ e ∈ l, Region.binds .any e = true ∧ (e.on = i ∨ (lk acc e.on).testBit i = true)
  | [], h => by simp [msk] at h
  | e :: l, h => by
    unfold msk at h
    split at h
    · rename_i hb
      simp only [Nat.testBit_or, Bool.or_eq_true] at h
      rcases h with (h | h) | h
      · refine ⟨e, .head _, hb, .inl ?_⟩
        rw [Nat.one_shiftLeft, Nat.testBit_two_pow] at h
        simpa using h
      · exact ⟨e, .head _, hb, .inr h⟩
      · obtain ⟨e', h1, h2⟩ := msk_spec acc i l h; exact ⟨e', .tail _ h1, h2⟩
    · obtain ⟨e', h1, h2⟩ := msk_spec acc i l h; exact ⟨e', .tail _ h1, h2⟩
theorem lk_append_left : ∀ (l m : List Nat) (i : Nat), i < l.length → lk (l ++ m) i = lk l i
  | x :: l, m, 0, _ => rfl
  | x :: l, m, i + 1, h => lk_append_left l m i (by simpa using h)
theorem lk_append_last : ∀ (l : List Nat) (x : Nat), lk (l ++ [x]) l.length = x
  | [], _ => rfl
  | y :: l, x => lk_append_last l x
theorem lk_out : ∀ (l : List Nat) (i : Nat), l.length ≤ i → lk l i = 0
  | [], _, _ => rfl
  | x :: l, 0, h => by simp at h
  | x :: l, i + 1, h => lk_out l i (by simpa using h)
theorem ancGo_spec : ∀ (l : List Oper) (acc : List Nat) (k : Nat), acc.length = k → (∀ j, l[j]? = ops[k + j]?) → (∀ j i, (lk acc j).testBit i = true → Rch ops j i) → ∀ j i, (lk (ancGo l acc) j).testBit i = true → Rch ops j i
  | [], acc, _, _, _, h => h
  | o :: l, acc, k, hk, hl, h => by
    refine ancGo_spec l _ (k + 1) (by simp [hk]) (fun j => by have := hl (j + 1); simpa [Nat.add_assoc, Nat.add_comm 1 j] using this) ?_
    intro j i hb
    rcases Nat.lt_trichotomy j acc.length with hj | hj | hj
    · rw [lk_append_left _ _ _ hj] at hb; exact h j i hb
    · subst hj
      rw [lk_append_last] at hb
      have ho : ops[acc.length]? = some o := by have := hl 0; simp at this; rw [hk]; exact this.symm
      obtain ⟨e, h1, h2, h3⟩ := msk_spec acc i _ hb
      rcases h3 with h3 | h3
      · subst h3; exact .one ho (by simpa using h1) h2
      · exact .more ho (by simpa using h1) h2 (h _ _ h3)
    · rw [lk_out _ _ (by simp; omega)] at hb
      simp at hb
/-- The sets that are listed in some order. -/
def Shut (ops : Array Oper) (listed : Array Bool) : Prop := ∀ j oj, ops[j]? = some oj → listed.getD j false = true → ∀ e ∈ oj.after, Region.binds .any e = true → listed.getD e.on false = true
theorem Rch.listed {listed : Array Bool} (hs : Shut ops listed) {j i : Nat} (h : Rch ops j i) (hj : ∀ o, ops[j]? = some o → ∀ e ∈ o.after, Region.binds .any e = true → listed.getD e.on false = true) : listed.getD i false = true := by
  induction h with
  | one h he hb => exact hj _ h _ he hb
  | more h he hb hr ih => exact ih (fun o ho e' he' hb' => hs _ o ho (hj _ h _ he hb) e' he' hb')

/-- What the text of a region is looked over for, once. -/
def allI (p : Nat → Oper → Bool) : Nat → List Oper → Bool
  | _, [] => true
  | k, o :: l => p k o && allI p (k + 1) l
theorem allI_spec {p : Nat → Oper → Bool} : ∀ (l : List Oper) (k : Nat), allI p k l = true → ∀ (j : Nat) (o : Oper), l[j]? = some o → p (k + j) o = true
  | [], _, _, j, o, ho => by simp at ho
  | x :: l, k, h, j, o, ho => by
    simp only [allI, Bool.and_eq_true] at h
    cases j with
    | zero => simp at ho; subst ho; exact h.1
    | succ j => have := allI_spec l (k + 1) h.2 j o (by simpa using ho); rwa [show k + (j + 1) = k + 1 + j by omega]
def chk (l : List Oper) (fl : List Nat) : Bool :=
  Region.noSelect l.toArray && (let an := ancGo l []
  allI (fun j oj => oj.after.toList.all (fun e => !Region.binds .any e || Nat.blt e.on j) && allI (fun i oi => Nat.ble j i || (lk an j).testBit i || (oi.apart l.toArray oj && swapOk (lk fl i) (lk fl j))) 0 l) 0 l)

theorem wpAny_rk {l : List Oper} (hsel : ∀ (j : Nat) (o : Oper) cs b, l.toArray[j]? = some o → o.op ≠ .select cs b)
    (htopo : ∀ j oj, l[j]? = some oj → ∀ e ∈ oj.after, Region.binds .any e = true → e.on < j)
    (hpair : ∀ i j oi oj, l[i]? = some oi → l[j]? = some oj → i < j → Rch l.toArray j i ∨ (oi.apart l.toArray oj = true ∧ swapOk (lk fl i) (lk fl j) = true)) :
    ∀ (fuel : Nat) (w0 : Wd) (listed : Array Bool) (π : List Nat) (S hs : HS) (a : Act) (w : World), Hp B w0 w hs → SubP S hs → rkI P B l.toArray fl (Q .normal) w0 π S a hs →
    (∀ i, i ∈ π ↔ i < l.length ∧ listed.getD i true = false) → π.Pairwise (· < ·) → Shut l.toArray listed → listed.size = l.length → π.length ≤ fuel → wpAny P .any l.toArray Q fuel listed a w := by
  have hop : ∀ (j : Nat), l.toArray[j]? = l[j]? := fun j => by simp
  have key : ∀ (listed : Array Bool) (i : Nat) (π : List Nat), (∀ i, i ∈ π ↔ i < l.length ∧ listed.getD i true = false) → i ∈ Region.ready .any l.toArray listed → i ∈ π := by
    intro listed i π hπ hi
    obtain ⟨h1, o, h2, _⟩ := mem_ready.1 hi
    rw [hop] at h2
    exact (hπ i).2 ⟨(List.getElem?_eq_some_iff.1 h2).1, h1⟩
  have done : ∀ (w0 : Wd) (listed : Array Bool) (π : List Nat) (S hs : HS) (a : Act) (w : World), Hp B w0 w hs → rkI P B l.toArray fl (Q .normal) w0 π S a hs → (∀ i, i ∈ π ↔ i < l.length ∧ listed.getD i true = false) → π.Pairwise (· < ·) → listed.size = l.length → Region.ready .any l.toArray listed = [] → Q .normal a w := by
    intro w0 listed π S hs a w hw h hπ hsort hsz hr
    cases π with
    | nil => exact h w hw
    | cons i π =>
      exfalso
      obtain ⟨h1, h2⟩ := (hπ i).1 (.head _)
      have hi : i ∈ Region.ready .any l.toArray listed := by
        refine mem_ready.2 ⟨h2, l[i], by simp [h1], fun e he hb => ?_⟩
        have h3 := htopo i l[i] (by simp [h1]) e he hb
        have h4 : e.on < listed.size := by omega
        by_cases h5 : listed.getD e.on true = false
        · have h6 := (hπ e.on).2 ⟨by omega, h5⟩
          rcases List.mem_cons.1 h6 with h6 | h6
          · omega
          · have := (List.pairwise_cons.1 hsort).1 _ h6; omega
        · simpa [h4] using h5
      rw [hr] at hi; cases hi
  intro fuel
  induction fuel with
  | zero =>
    intro w0 listed π S hs a w hw hsub h hπ hsort hshut hsz hlen
    have : π = [] := List.eq_nil_of_length_eq_zero (by omega)
    subst this
    have hr : Region.ready .any l.toArray listed = [] := by
      cases hr : Region.ready .any l.toArray listed with
      | nil => rfl
      | cons i r => have := key listed i [] hπ (by rw [hr]; exact .head _); cases this
    exact ⟨hr, h w hw⟩
  | succ fuel ih =>
    intro w0 listed π S hs a w hw hsub h hπ hsort hshut hsz hlen
    refine ⟨fun hr => done w0 listed π S hs a w hw h hπ hsort hsz hr, fun i hi => ?_⟩
    have hmem := key listed i π hπ hi
    obtain ⟨π1, π2, rfl⟩ := List.append_of_mem hmem
    obtain ⟨h1, oi, hoi, h2⟩ := mem_ready.1 hi
    have hsort' := List.pairwise_append.1 hsort
    have hmv := rkI_front (P := P) (B := B) (fl := fl) (K := Q .normal) hoi hsel w0 π1 π2 S hs a ⟨w, hw⟩ hsub (fun y hy => by
      have hyi : y < i := hsort'.2.2 y hy i (.head _)
      obtain ⟨h3, h4⟩ := (hπ y).1 (List.mem_append_left _ hy)
      refine ⟨l[y], by simp [h3], ?_⟩
      rcases hpair y i l[y] oi (by simp [h3]) (by rw [← hop]; exact hoi) hyi with h5 | h5
      · exfalso
        have := h5.listed hshut (fun o ho e he hb => by rw [hoi] at ho; cases ho; exact h2 e he hb)
        simp [hsz, h3] at this h4
        rw [h4] at this; cases this
      · exact h5) h
    refine wpOp_mono ?_ (rkI_exec hoi hw hsub hmv)
    rintro a' w' ⟨w1, S', h', hw', hsub', hrk⟩
    have hil : i < l.length := by rw [hop] at hoi; exact (List.getElem?_eq_some_iff.1 hoi).1
    refine ih w1 _ (π1 ++ π2) S' h' a' w' hw' hsub' hrk ?_ ?_ ?_ (by simp [hsz]) (by simp at hlen ⊢; omega)
    · intro j
      by_cases hji : i = j
      · subst hji
        constructor
        · intro hj
          exfalso
          rcases List.mem_append.1 hj with hj | hj
          · have := hsort'.2.2 i hj i (.head _); omega
          · have := (List.pairwise_cons.1 hsort'.2.1).1 i hj; omega
        · rintro ⟨_, hj⟩
          simp [hsz, hil] at hj
      · rw [getD_set_ne true hji, ← hπ j]
        simp [List.mem_append, Ne.symm hji]
    · exact List.pairwise_append.2 ⟨hsort'.1, (List.pairwise_cons.1 hsort'.2.1).2, fun x hx y hy => hsort'.2.2 x hx y (.tail _ hy)⟩
    · intro j oj hj hl' e he hb
      by_cases hji : i = j
      · subst hji
        rw [hoi] at hj; cases hj
        exact getD_set_true (h2 e he hb)
      · rw [getD_set_ne false hji] at hl'
        exact getD_set_true (hshut j oj hj hl' e he hb)
end
end Go.Proofs.Ytnbickholedckaa
