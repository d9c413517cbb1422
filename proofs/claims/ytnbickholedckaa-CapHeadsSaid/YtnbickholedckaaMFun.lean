/- Function values: making them and calling them. -/
import Derived.Test.YtnbickholedckaaMStep
namespace Go.Proofs.Ytnbickholedckaa
open Go.RowKit
section
variable {P : Program} {n : NN} {B : Nat} {w0 : Wd} {fr fr' : FR} {hs hs' S S' X : HS} {ty : TypeId} {K : Act → World → Prop} {Ka : Act → Prop}
  {ops : Array Oper} {l : List Oper} {d f : Nat} {fl : List Nat} {pos : String} {aft : Array Edge} {v : Value}
theorem run_callF {x : Operand} {g : Nat} {xs : List Operand} {vs fs cs us : List Value} {ts : Array TypeId} {a : Act} (hf : isGo P g = true) (ha : Fr n a fr) (hx : opv fr x = some (.func (.func g) fs.toArray cs.toArray)) (hv : argv fr xs = some vs) (hu : fs ++ vs ++ cs = us) (o : Option Nat) (w : World) :
    (execOp a.eval ⟨o, .call { callee := .value x, args := xs.toArray, argTypes := ts }, ty, pos, aft, none⟩).run P w = .ok (.enter g us.toArray) w := by
  unfold isGo at hf
  split at hf
  · rename_i fn hfn
    simp only [Bool.and_eq_true, Bool.not_eq_true'] at hf
    obtain ⟨h1, h2⟩ := hf
    have h3 : ¬ fn.body = none := by intro hb; simp [hb] at h1
    have h2' : ¬ fn.name = "runtime.NumGoroutine" := by simpa using h2
    have h4 := argv_map ha xs vs hv
    have h5 : (xs.toArray.map a.eval) = vs.toArray := by rw [← h4]; simp
    have h6 : a.eval x = .func (.func g) fs.toArray cs.toArray := ha.opv hx
    have h7 : fs.toArray ++ vs.toArray ++ cs.toArray = us.toArray := by rw [← hu]; simp
    simp only [execOp, resolve, h5, h6, Deferred.ofValue, Sem.run_bind, Sem.run_pure, Result.andThen_ok, invoke, callFunc, h7]
    simp [hfn, h2', h3]
  · cases hf
theorem s_callF {x : Operand} {g : Nat} {xs : List Operand} {vs fs cs us : List Value} {ts : Array TypeId} {R : Value → HS → Prop} (hf : isGo P g = true) (hx : opv fr x = some (.func (.func g) fs.toArray cs.toArray)) (hv : argv fr xs = some vs) (hu : fs ++ vs ++ cs = us) (hc : Fn P g us.toArray B w0 hs R) (hn : d < n.n)
    (h : ∀ v hs', R v hs' → Sat n B w0 (sl P ops K l) ((d, v) :: fr) hs') :
    Sat n B w0 (sl P ops K (⟨some d, .call { callee := .value x, args := xs.toArray, argTypes := ts }, ty, pos, aft, none⟩ :: l)) fr hs := by
  unfold Sat at h ⊢
  unfold Fn at hc
  intro a w ha hw
  refine sl_step rfl ?_
  unfold Oper.wp
  rw [run_callF hf ha hx hv hu (some d) w]
  refine (hc w hw).mono ?_
  rintro e w' ⟨v, hs', rfl, hr, hw'⟩
  exact h v hs' hr _ _ (ha.put hn v) hw'
theorem o_mkF {g : _root_.Go.Fn} {xs ys : List Operand} {fs cs : List Value} (hx : argv fr xs = some fs) (hy : argv fr ys = some cs) : OpF P n B w0 (.makeFunc g xs.toArray ys.toArray) ty fr hs (.func g fs.toArray cs.toArray) := fun a w ha _ => by
  have h1 : (xs.toArray.map a.eval) = fs.toArray := by rw [← argv_map ha xs fs hx]; simp
  have h2 : (ys.toArray.map a.eval) = cs.toArray := by rw [← argv_map ha ys cs hy]; simp
  simp [ex, execOp, Instr.makeFunc, h1, h2]
end
section
variable {n : NN} {B : Nat} {w0 : Wd} {fr fr' : FR} {hs hs' S S' X : HS} {ty : TypeId} {K : Act → World → Prop} {Ka : Act → Prop}
  {ops : Array Oper} {l : List Oper} {d f : Nat} {fl : List Nat} {pos : String} {aft : Array Edge} {v : Value}
theorem sMF {g : _root_.Go.Fn} {xs ys : List Operand} {fs cs : List Value} (h : Sat n B w0 (sl Try.prog ops K l) ((d, .func g fs.toArray cs.toArray) :: fr) hs) (hx : argv fr xs = some fs := by rfl) (hy : argv fr ys = some cs := by rfl) (hn : d < n.n := by first | decide | exact ltd rfl) :
    Sat n B w0 (sl Try.prog ops K (⟨some d, .makeFunc g xs.toArray ys.toArray, ty, pos, aft, none⟩ :: l)) fr hs := s_pure (o_mkF hx hy) hn h
theorem kT (t : Nat) {xs : Array Operand} {ts : Array TypeId} (h : Sat n B w0 (sl Try.prog ops K (⟨some d, .call ⟨.value (.tmp t), xs, ts⟩, ty, pos, aft, none⟩ :: l)) fr hs) : Sat n B w0 (sl Try.prog ops K (⟨some d, .call ⟨.value (.tmp t), xs, ts⟩, ty, pos, aft, none⟩ :: l)) fr hs := h
/-- A call of a function value that leaves memory alike. -/
theorem sF {t g : Nat} {xs : List Operand} {vs fs cs us : List Value} {ts : Array TypeId} (hc : Fn Try.prog g us.toArray B w0 hs (fun u h => u = v ∧ h = hs)) (h : Sat n B w0 (sl Try.prog ops K l) ((d, v) :: fr) hs) (hg : isGo Try.prog g = true) (hx : get fr t = some (.func (.func g) fs.toArray cs.toArray) := by rfl) (hv : argv fr xs = some vs := by rfl) (hu : fs ++ vs ++ cs = us := by rfl) (hn : d < n.n := by first | decide | exact ltd rfl) :
    Sat n B w0 (sl Try.prog ops K (⟨some d, .call ⟨.value (.tmp t), xs.toArray, ts⟩, ty, pos, aft, none⟩ :: l)) fr hs := s_callF hg (x := .tmp t) hx hv hu hc hn (by rintro u hs' ⟨rfl, rfl⟩; exact h)
theorem goF {f : Nat} (h : getT goT f = some ()) : isGo Try.prog f = true := goTOf h
end
end Go.Proofs.Ytnbickholedckaa
