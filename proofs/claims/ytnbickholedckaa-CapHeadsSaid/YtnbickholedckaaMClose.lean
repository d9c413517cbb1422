/- From a contract to the given statement: how arguments are opened, and how a law's post is met when memory is only added to. -/
import Derived.Test.YtnbickholedckaaMWalk
import Derived.ProofKit
import Derived.OpenShut
namespace Go.Proofs.Ytnbickholedckaa
open Go.RowKit Go.ChangeShapes Go.WideShapes Go.ChangeAt

theorem ownK : ownKnob Try.prog.godebug = none := by kernel_rfl
theorem laidK : laidOutB Try.prog = true := by kernel_rfl
/-- What a law's function is asked: its arguments' types can be read. -/
def Readable (ts : List TypeId) : Prop := AllZ (fun t => Try.prog.readableRec t = true ∧ t < Try.prog.types.size) ts

theorem below_trodAll {H : Type} {enc : TypeId × Value → H} {W W' : World} (hb : Below W.heap.size W W') : ∀ (ts : List TypeId) (vs : List Value) (ds : List (DataW H)) (ps : List MemPlace), Readable ts →
    DataW.TrodAll enc Try.prog W 0 (fun _ => true) true ts vs ds ps → (∀ x ∈ ps, x.block < W.heap.size) → DataW.TrodAll enc Try.prog W' 0 (fun b => decide (b < W.heap.size)) true ts vs ds ps
  | [], vs, ds, ps, _, h, _ => by
    obtain ⟨rfl, rfl, rfl⟩ := trodAll_nil h
    exact rfl
  | t :: ts, vs, ds, ps, hr, h, hlt => by
    obtain ⟨v, vs', d, ds', p, q, rfl, rfl, rfl, h1, h2⟩ := trodAll_cons h
    exact ⟨p, q, Below.trod laidK hr.1.1 hr.1.2 h1 hb (fun x hx => hlt x (List.mem_append.2 (.inl hx))), below_trodAll hb ts vs' ds' q hr.2 h2 (fun x hx => hlt x (List.mem_append.2 (.inr hx))), rfl⟩

/-- The law has returned true, and memory was only added to. -/
theorem law_post {H : Type} {enc : TypeId × Value → H} {f : Func} {s : ChangeSpec} {W W' : World} {args : Array Value} {ds gs : List (DataW H)} {before : List MemPlace} (hvars : s.vars = []) (hts : Readable f.params.toList) (hrt : f.resultTypes = #[4])
    (hW : DataW.Whole enc Try.prog f.params.toList s.vars false W args.toList ds gs before) (hfn : (s.fn H ds).results = [.lit (.bool true)] ∧ (s.fn H ds).args = ds ∧ (s.fn H ds).vars = []) (hb : Below W.heap.size W W') :
    s.post enc Try.prog f false true false false W args (.bool true) W' := by
  have hlt := hW.lt
  have hW0 := hW
  obtain ⟨p, q, hA, hV, hpq, hfz, hnd⟩ := hW
  rw [hvars] at hV
  obtain ⟨rfl, rfl⟩ := trodVars_none hV
  rw [List.append_nil] at hpq
  subst hpq
  refine ⟨ds, [], before, [], before, [], hW0, ?_, ?_, ?_, hb.frame _, fun h => by cases h⟩
  · rw [List.append_nil, hfn.1, hrt]
    exact trodAll_mk1 (shut_bool Try.underlying4 true)
  · rw [List.append_nil, hfn.2.1]
    exact below_trodAll hb _ _ _ _ hts hA hlt
  · rw [List.append_nil, hfn.2.2, hvars]
    exact rfl

/-- The contract of a law, as the row wants it. -/
theorem law_calls {f : Nat} {args : List Value} {W : World} (h : Fn Try.prog f args.toArray W.heap.size ⟨W, []⟩ [] (fun v _ => v = .bool true)) : Calls Try.prog f args.toArray W fun e W' => e = .returned (.bool true) ∧ Below W.heap.size W W' :=
  ((fn_el h) W (Hp.refl W)).mono fun _ _ ⟨_, _, he, hv, hw⟩ => ⟨by rw [he, hv], hw.below⟩

theorem sl_some {W : World} {a : Addr} {l : List Int} (h : ∀ i, i < l.length → W.cell? (a.add i) = some (.int .i64 (l.getD i 0))) : Sl W.heap.size ⟨W, []⟩ [] (some a) l := fun i hi => ⟨rfl, fun w hw => by
  have h1 := h i hi
  have h2 := World.block_lt_of_cell? W _ h1
  rw [ea_some, hw.below.cell h2]; exact h1⟩
/-- A slice of numbers, opened. -/
theorem open_sl {H : Type} {enc : TypeId × Value → H} {W : World} {t : TypeId} {fuel : Nat} {cs : List Value} {x : DataW H × List MemPlace} (ht : Try.prog.underlying t = some (.slice 3)) (h : DataW.trod enc Try.prog W 0 (fun _ => true) true fuel t cs = some x) :
    ∃ (oa : Option Addr) (c : Nat) (l : List Int), cs = [.slice oa l.length c] ∧ Sl W.heap.size ⟨W, []⟩ [] oa l ∧ l.length ≤ maxLen ∧ ∀ y ∈ l, InI y := by
  rcases open_ints ht Try.underlying3 (by kernel_rfl) h with ⟨rfl, _⟩ | ⟨a, len, cap, zs, rfl, _, hl, hm, hlen, _, hc, hw⟩
  · exact ⟨none, 0, [], rfl, fun i hi => by simp at hi, by simp [maxLen], fun y hy => by cases hy⟩
  · simp only [if_true] at hlen
    refine ⟨some a, cap, zs.take len, by simp [hlen, hl], sl_some (fun i hi => ?_), by simp; omega, fun y hy => ?_⟩
    · simp only [List.length_take] at hi
      rw [hc i (by omega)]
      simp [List.getD, show i < len by omega]
    · have := bounds_i64 (hw y (List.mem_of_mem_take hy))
      exact ⟨by omega, by omega⟩
theorem wf_in {x : Int} (h : (Lit.int .i64 x).wf = true) : InI x := by
  simp only [Lit.wf, Bool.and_eq_true, decide_eq_true_eq] at h
  exact ⟨by have := h.1; rw [show IntKind.i64.min = -9223372036854775808 from by decide] at this; exact this, by have := h.2; rw [show IntKind.i64.max = 9223372036854775807 from by decide] at this; exact this⟩
end Go.Proofs.Ytnbickholedckaa
