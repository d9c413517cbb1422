/- Ranges over a function whose iterator keeps a variable of its own that it writes. -/
import Derived.Test.YtmblgbcipniecaaGreatDoorMA2
namespace Go.Proofs.YtmblgbcipniecaaGreatDoor
open Go.RowKit
/-- What yields all of xs, one after another; its block bs holds at first x0, and what it writes there. -/
def IterU (P : Program) (g : Nat) (cap : List Value) (B : Nat) (xs : List Value) (RD : Wd → HS → Prop) (bs : Nat) (x0 : Value) : Prop :=
  ∀ (ι : Type) (W : ι → Wd) (H : ι → HS) (C : Value → Nat → ι → Prop) (l : Nat), (∀ y k i, C y k i → (bs, [y]) ∈ H i ∧ RD (W i) (H i)) →
    (∀ y k i, C y k i → ∀ y', ∃ i', C y' k i' ∧ W i' = W i ∧ Upd bs [y] [y'] (H i) (H i')) →
    (∀ y k i x, xs[k]? = some x → C y k i → ∀ w, Hp B (W i) w (H i) → ∃ fn tmps assign body, (Instr.yield l #[x]).run P w = .ok (.round l fn tmps assign body) w ∧
      RoundIn Fence.wide 0 P l fn tmps assign body w (fun e w' => e = .returned (.bool true) ∧ ∃ j, C y (k + 1) j ∧ Hp B (W j) w' (H j))) →
    ∀ i w, C x0 0 i → Hp B (W i) w (H i) → Calls P g ((.func (.yield l) #[] #[] :: cap).toArray) w (fun e w' => (∃ v, e = .returned v) ∧ ∃ y j, C y xs.length j ∧ Hp B (W j) w' (H j))
section
variable {P : Program} {n : NN} {B : Nat} {w0 : Wd} {fr fr' : FR} {hs hs' : HS} {K K' : Act → World → Prop} {Q Q' : Exit → Act → World → Prop} {ro : Option Nat}
theorem g_rangeU {p g : Nat} {f : Operand} {cap xs : List Value} {assign body : Code} {RD : Wd → HS → Prop} (hf : opv fr f = some (.func (.func g) #[] cap.toArray)) (hg : isGo P g = true) {bs : Nat} {x0 : Value} (hit : IterU P g cap B xs RD bs x0) (hp : p < n.n)
    {ι : Type} (W : ι → Wd) (H : ι → HS) (C : Value → Nat → ι → Prop) (F1 : Value → FR) (i0 : ι) (h0 : C x0 0 i0) (hb : (W i0).le w0) (hH : (H i0).Sublist hs)
    (hRD : ∀ y k i, C y k i → (bs, [y]) ∈ H i ∧ ∀ W', (W i).le W' → RD W' (H i)) (hU : ∀ y k i, C y k i → ∀ y', ∃ i', C y' k i' ∧ W i' = W i ∧ Upd bs [y] [y'] (H i) (H i'))
    (hassign : ∀ y k i x, xs[k]? = some x → C y k i → ∀ l D o, Sat ⟨n.n, []⟩ B ⟨(W i).w, (l, o) :: (D, .deferred (some [])) :: (W i).ms⟩ (assign.wpIn (rF (some l)) 0 P (onlyN fun a w => Fr ⟨n.n, []⟩ a (F1 x) ∧ Hp B ⟨(W i).w, (l, o) :: (D, .deferred (some [])) :: (W i).ms⟩ w (H i))) ((p, x) :: fr) (H i))
    (hbody : ∀ y k i x, xs[k]? = some x → C y k i → ∀ l D o, Sat ⟨n.n, []⟩ B ⟨(W i).w, (l, o) :: (D, .deferred (some [])) :: (W i).ms⟩ (body.wpIn (rF (some l)) 0 P (onlyN fun _ w => ∃ j, C y (k + 1) j ∧ Hp B ⟨(W j).w, (l, o) :: (D, .deferred (some [])) :: (W j).ms⟩ w (H j))) (F1 x) (H i))
    (done : ∀ y j, C y xs.length j → ∀ D, Sat ⟨n.n, mkD D :: n.ds⟩ B ⟨(W j).w, (D, .deferred (some [])) :: (W j).ms⟩ (Q .normal) fr (H j)) :
    Sat n B w0 ((Code.rangeFunc f #[p] assign body).wpIn (rF none) 0 P Q) fr hs := sat_mk fun a w ha hw => by
  refine wpIn_rangeFunc fun fn hfn => ?_
  obtain ⟨rec, hrec⟩ : ∃ rec : LoopState → Loop, rec = fun st => { state := st, pending := none, fn, tmps := a.tmps, params := #[p], assign, body, defers := w.heap.size } := ⟨_, rfl⟩
  have hw0 : Hp B (W i0) w (H i0) := (hw.sub hH).base hb
  have hw1 := (hw0.newObj (o := .deferred (some [])) rfl).newObj (o := .loop (rec .ready)) rfl
  rw [World.size_alloc] at hw1
  obtain ⟨W1, hW1⟩ : ∃ W1, (w.alloc (.deferred (some []))).alloc (.loop (rec .ready)) = W1 := ⟨_, rfl⟩
  rw [hW1] at hw1
  refine ⟨w.heap.size + 1, [mkD w.heap.size], W1, { target := .fn (.func g) cap.toArray, args := #[.func (.yield (w.heap.size + 1)) #[] #[]] }, W1, g, (.func (.yield (w.heap.size + 1)) #[] #[] :: cap).toArray, W1, by rw [← hW1, hrec]; exact run_enterLoop_outer _ _ _ _ _, ?_, fun _ _ => trivial, ?_, rF_dep, rF_calls _ ?_⟩
  · simp only [resolve, ha.opv hf]
    simp [go_sem]
  · simp [invoke, go_sem, run_callFn hg]
  · have hback : ∀ (j : ι) (w' : World) (o o' : Obj) (h : HS), notCells o' = true → Hp B ⟨(W j).w, (w.heap.size + 1, o) :: (w.heap.size, .deferred (some [])) :: (W j).ms⟩ w' h →
        w'.heap[w.heap.size + 1]? = some o ∧ Hp B ⟨(W j).w, (w.heap.size + 1, o') :: (w.heap.size, .deferred (some [])) :: (W j).ms⟩ (w'.putObj (w.heap.size + 1) o') h := fun j w' o o' h hn hh =>
      ⟨(hh.obj _ (.head _)).2.1, hh.setObj (w0 := ⟨(W j).w, (w.heap.size + 1, o) :: (w.heap.size, .deferred (some [])) :: (W j).ms⟩) (.head _) hn⟩
    refine (hit ι (fun i => ⟨(W i).w, (w.heap.size + 1, .loop (rec .ready)) :: (w.heap.size, .deferred (some [])) :: (W i).ms⟩) H C (w.heap.size + 1) (fun y k i hc => ⟨(hRD y k i hc).1, (hRD y k i hc).2 _ ⟨rfl, .cons _ (.cons _ (List.Sublist.refl _))⟩⟩) (fun y k i hc y' => by obtain ⟨i', h1, h2, h3⟩ := hU y k i hc y'; exact ⟨i', h1, by simp only [h2], h3⟩) ?_ i0 _ h0 hw1).mono ?_
    · intro y k i x hx hc w2 hw2
      obtain ⟨hl2, hw3⟩ := hback i w2 _ (.loop { rec .ready with state := .busy }) _ rfl hw2
      have hy := run_yield (P := P) (args := #[x]) hl2 (by rw [hrec]; rfl)
      refine ⟨_, _, _, _, hy, ?_⟩
      have hF : Fr ⟨n.n, []⟩ ⟨(((rec .ready).params.zip #[x]).foldl (fun tmps (t, a) => tmps.setIfInBounds t a) (rec .ready).tmps), []⟩ ((p, x) :: fr) := by
        have h1 : Fr ⟨n.n, []⟩ ⟨a.tmps, []⟩ fr := ⟨ha.size, rfl, ha.get⟩
        have h2 := h1.put (d := p) hp x
        rw [hrec]
        simpa [Act.put] using h2
      refine roundIn_of_wpIn (F := Fence.wide) trivial ?_
      have hA := sat_el (hassign y k i x hx hc (w.heap.size + 1) w.heap.size (.loop (rec .ready))) _ w2 hF hw2
      have hrb : (rec .ready).body = body ∧ (rec .ready).assign = assign := by rw [hrec]; exact ⟨rfl, rfl⟩
      rw [hrb.1, hrb.2]
      refine wpIn_mono hA (fun e a1 w4 h4 => ?_)
      cases e with
      | normal =>
        obtain ⟨hF1, hw4⟩ := h4
        obtain ⟨hl4, hw5⟩ := hback i w4 _ (.loop { rec .ready with state := .busy }) _ rfl hw4
        refine ⟨_, run_beginRound hl4 (by rw [hrec]), ?_⟩
        refine wpIn_mono (sat_el (hbody y k i x hx hc (w.heap.size + 1) w.heap.size _) _ _ hF1 hw5) (fun e a2 w6 h6 => ?_)
        cases e with
        | normal =>
          obtain ⟨j, hcj, hw6⟩ := h6
          obtain ⟨hl6, hw7⟩ := hback j w6 _ (.loop { rec .ready with state := .ready, pending := none }) _ rfl hw6
          refine ⟨_, _, run_endRound none hl6, rfl, j, hcj, ?_⟩
          have : ({ ({ rec .ready with state := .busy } : Loop) with state := if (none : Option Code).isNone then .ready else .done, pending := none } : Loop) = rec .ready := by rw [hrec]; rfl
          rw [this]
          have h8 : ({ rec .ready with state := .ready, pending := none } : Loop) = rec .ready := by rw [hrec]
          rw [h8] at hw7
          exact hw7
        | exit id => exact h6.elim
        | goto t => exact h6.elim
        | ret => exact h6.elim
        | panic ch => exact h6.elim
        | outgrown => exact h6.elim
      | exit id => exact h4.elim
      | goto t => exact h4.elim
      | ret => exact h4.elim
      | panic ch => exact h4.elim
      | outgrown => exact h4.elim
    · rintro e w2 ⟨⟨v, rfl⟩, y, j, hcj, hw2⟩
      obtain ⟨hl2, hw3⟩ := hback j w2 _ (.loop { rec .ready with state := .exhausted }) _ rfl hw2
      refine ⟨none, w2.putObj (w.heap.size + 1) (.loop { rec .ready with state := .exhausted }), ?_, ?_⟩
      · have := run_endLoop (P := P) hl2 (by rw [hrec]; simp)
        rw [this]
        congr 1
        rw [hrec]
      · refine sat_el (done y j hcj w.heap.size) _ _ ⟨ha.size, ?_, ha.get⟩ (by refine Hp.base ?_ hw3; exact ⟨rfl, .cons _ (List.Sublist.refl _)⟩)
        show [mkD w.heap.size] ++ a.defers = _
        rw [ha.defers]; rfl
end
end Go.Proofs.YtmblgbcipniecaaGreatDoor
