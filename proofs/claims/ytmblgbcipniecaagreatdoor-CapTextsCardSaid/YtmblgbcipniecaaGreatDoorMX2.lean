/- Strings: a string as the list of its bytes; what the operations on strings and bytes yield. -/
import Derived.Laws.Concat
import Derived.Test.YtmblgbcipniecaaGreatDoorMA2
namespace Go.Proofs.YtmblgbcipniecaaGreatDoor
open Go.RowKit
/-- The string of these bytes. -/
def sv (l : List UInt8) : Value := .string ⟨l.toArray⟩
def svs (ls : List (List UInt8)) : List Value := ls.map sv
theorem svs_length (ls : List (List UInt8)) : (svs ls).length = ls.length := by unfold svs; rw [List.length_map]
theorem svs_snoc (ls : List (List UInt8)) (x : List UInt8) : svs ls ++ [sv x] = svs (ls ++ [x]) := by unfold svs; rw [List.map_append]; rfl
theorem svs_get {ls : List (List UInt8)} {i : Nat} (h : i < ls.length) : (svs ls)[i]? = some (sv (ls.getD i [])) := by
  unfold svs
  rw [List.getElem?_map, List.getElem?_eq_getElem h, List.getD_eq_getElem?_getD, List.getElem?_eq_getElem h]
  rfl
theorem flat_sv (ls : List (List UInt8)) : Flat (svs ls) := fun v hv => by
  unfold svs at hv
  rw [List.mem_map] at hv
  obtain ⟨_, _, rfl⟩ := hv
  rfl
theorem mk_data (s : ByteArray) : (⟨s.data.toList.toArray⟩ : ByteArray) = s := by
  cases s; simp
theorem sv_data (s : ByteArray) : sv s.data.toList = .string s := by unfold sv; rw [mk_data]
theorem sv_inj {a b : List UInt8} (h : sv a = sv b) : a = b := by
  unfold sv at h
  simpa using h
theorem ba_toList (l : List UInt8) : (⟨l.toArray⟩ : ByteArray).toList = l := by
  rw [ByteArray.toList_eq]
theorem ba_size (l : List UInt8) : (⟨l.toArray⟩ : ByteArray).size = l.length := by simp [ByteArray.size]
theorem ba_get {a : List UInt8} {jn : Nat} (h1 : jn < a.length) : (⟨a.toArray⟩ : ByteArray)[jn]? = some (a.getD jn 0) := by
  rw [getElem?_pos (⟨a.toArray⟩ : ByteArray) jn (by rw [ba_size]; exact h1)]
  rw [List.getD_eq_getElem?_getD, List.getElem?_eq_getElem h1]
  rfl
section
variable {P : Program} {n : NN} {B : Nat} {w0 : Wd} {fr : FR} {hs : HS} {ty : TypeId}
theorem ex_bins {op : BinOp} {t t' : TypeId} {x y : Operand} {a b : ByteArray} {v : Value} (hx : opv fr x = some (.string a)) (hy : opv fr y = some (.string b)) (hv : ∀ w, (binOp op t (.string a) (.string b)).run P w = .ok v w) :
    OpF P n B w0 (.binOp op t x y t') ty fr hs v := fun ac w ha _ => by
  simp only [ex, execOp, ha.opv hx, ha.opv hy, Sem.run_bind, hv]
  have : (eqGuard op t x y (.string a) (.string b)).run P w = .ok () w := by unfold eqGuard; cases op <;> rfl
  simp [this]
theorem o_sEql {t t' : TypeId} {x y : Operand} {a b : List UInt8} (hx : opv fr x = some (sv a)) (hy : opv fr y = some (sv b)) : OpF P n B w0 (.binOp .eql t x y t') ty fr hs (.bool (decide (a = b))) :=
  ex_bins hx hy fun w => by
    simp only [binOp_string_eql, ba_toList, Sem.run_pure]
    congr 2
    by_cases h : a = b <;> simp [h]
theorem o_sNeq {t t' : TypeId} {x y : Operand} {a b : List UInt8} (hx : opv fr x = some (sv a)) (hy : opv fr y = some (sv b)) : OpF P n B w0 (.binOp .neq t x y t') ty fr hs (.bool (decide (a ≠ b))) :=
  ex_bins hx hy fun w => by
    simp only [binOp_string_neq, ba_toList, Sem.run_pure]
    congr 2
    by_cases h : a = b <;> simp [h]
theorem o_sAdd {t t' : TypeId} {x y : Operand} {a b : List UInt8} (hx : opv fr x = some (sv a)) (hy : opv fr y = some (sv b)) (h : a.length + b.length ≤ 1000000000) : OpF P n B w0 (.binOp .add t x y t') ty fr hs (sv (a ++ b)) :=
  ex_bins hx hy fun w => by
    rw [binOp_string_add]
    refine (run_string_add_sum (P := P) (w := w) ⟨a.toArray⟩ ⟨b.toArray⟩ (by rw [ba_size, ba_size]; omega)).trans ?_
    congr 2
theorem o_sLen {t : TypeId} {x : Operand} {a : List UInt8} (ht : P.underlying t = some .string) (hx : opv fr x = some (sv a)) : OpF P n B w0 (.call { callee := .builtin .len, args := #[x], argTypes := #[t] }) ty fr hs (.int .i64 a.length) := fun ac w ha _ => by
  unfold sv at hx
  simp [ex, execOp, resolve, invoke, builtin, Builtin.len_, ha.opv hx, underlying, ht, goInt, ba_size, -ByteArray.size_data]
theorem o_sIdx {t : TypeId} {x i : Operand} {a : List UInt8} {j : Int} {jn : Nat} (ht : P.underlying t = some .string) (hx : opv fr x = some (sv a)) (hi : opv fr i = some (.int .i64 j)) (hj : j = (jn : Int)) (h1 : jn < a.length) : OpF P n B w0 (.index t x i) ty fr hs (.int .u8 ((a.getD jn 0).toNat : Nat)) := fun ac w ha _ => by
  subst hj
  unfold sv at hx
  have e := ba_get h1
  simp [ex, execOp, Instr.index, asIntOf, ha.opv hx, ha.opv hi, underlying, ht, e]
theorem ba_extract (a : List UInt8) (l h : Nat) : (⟨a.toArray⟩ : ByteArray).extract l h = ⟨((a.drop l).take (h - l)).toArray⟩ := by
  apply ByteArray.ext
  simp [ByteArray.data_extract]
theorem o_sSub {t : TypeId} {x lo hi : Operand} {a : List UInt8} {j j2 : Nat} {i i2 : Int} (ht : P.underlying t = some .string) (hx : opv fr x = some (sv a)) (hl : opv fr lo = some (.int .i64 i)) (hh : opv fr hi = some (.int .i64 i2)) (hj : i = (j : Int)) (hj2 : i2 = (j2 : Int)) (h1 : j ≤ j2) (h2 : j2 ≤ a.length) :
    OpF P n B w0 (.slice t x (some lo) (some hi) none) ty fr hs (sv ((a.drop j).take (j2 - j))) := fun ac w ha _ => by
  unfold sv at hx
  have hb : (Instr.sliceBounds false a.length a.length (some (.int .i64 i)) (some (.int .i64 i2)) none).run P w = .ok (j, j2, a.length) w := by
    simp [Instr.sliceBounds, run_slb _ hj h1, run_slb _ hj2 h2]
  simp [ex, execOp, Instr.sliceAt, Instr.slice, ha.opv hx, ha.opv hl, ha.opv hh, underlying, ht, ba_size, hb, ba_extract, sv, -ByteArray.size_data]
theorem o_sSubL {t : TypeId} {x lo : Operand} {a : List UInt8} {j : Nat} {i : Int} (ht : P.underlying t = some .string) (hx : opv fr x = some (sv a)) (hl : opv fr lo = some (.int .i64 i)) (hj : i = (j : Int)) (h1 : j ≤ a.length) :
    OpF P n B w0 (.slice t x (some lo) none none) ty fr hs (sv (a.drop j)) := fun ac w ha _ => by
  unfold sv at hx
  have hb : (Instr.sliceBounds false a.length a.length (some (.int .i64 i)) none none).run P w = .ok (j, a.length, a.length) w := by
    simp [Instr.sliceBounds, run_slb _ hj h1]
  simp [ex, execOp, Instr.sliceAt, Instr.slice, ha.opv hx, ha.opv hl, underlying, ht, ba_size, hb, ba_extract, sv, -ByteArray.size_data]
  rw [List.take_of_length_le (by simp)]
/-! ### Bytes -/
theorem o_bLss {t t' : TypeId} {x y : Operand} {k : IntKind} {m l : Int} (hx : opv fr x = some (.int k m)) (hy : opv fr y = some (.int k l)) : OpF P n B w0 (.binOp .lss t x y t') ty fr hs (.bool (decide (m < l))) := ex_bin hx hy fun w => by simp [binOp, Op.intCmp]
theorem o_bGtr {t t' : TypeId} {x y : Operand} {k : IntKind} {m l : Int} (hx : opv fr x = some (.int k m)) (hy : opv fr y = some (.int k l)) : OpF P n B w0 (.binOp .gtr t x y t') ty fr hs (.bool (decide (l < m))) := ex_bin hx hy fun w => by simp [binOp, Op.intCmp]
theorem o_bEql {t t' : TypeId} {x y : Operand} {k : IntKind} {m l : Int} (hx : opv fr x = some (.int k m)) (hy : opv fr y = some (.int k l)) : OpF P n B w0 (.binOp .eql t x y t') ty fr hs (.bool (decide (m = l))) := ex_bin hx hy fun w => by simp [binOp, Op.intCmp]; rfl
theorem o_bSub {t t' : TypeId} {x y : Operand} {m l : Int} (hx : opv fr x = some (.int .u8 m)) (hy : opv fr y = some (.int .u8 l)) (h : 0 ≤ m - l ∧ m - l < 256) : OpF P n B w0 (.binOp .sub t x y t') ty fr hs (.int .u8 (m - l)) :=
  ex_bin hx hy fun w => by
    have : IntKind.u8.wrap (m - l) = m - l := by simp [IntKind.wrap, IntKind.signed, IntKind.bits]; omega
    simp [binOp, Op.intArith, this]
theorem o_bConv {src dst : TypeId} {x : Operand} {m : Int} {u : TypeDesc} (hx : opv fr x = some (.int .u8 m)) (h1 : P.underlying src = some u) (h2 : P.underlying dst = some (.int .i64)) (h : 0 ≤ m ∧ m < 256) : OpF P n B w0 (.convert src dst x) ty fr hs (.int .i64 m) := fun a w ha _ => by
  simp only [ex, execOp, ha.opv hx]
  have e : IntKind.i64.wrap m = m := wrap_in ⟨by omega, by omega⟩
  cases u <;> simp [convert, underlying, h1, h2, Conv.intToInt, e]
end
end Go.Proofs.YtmblgbcipniecaaGreatDoor
