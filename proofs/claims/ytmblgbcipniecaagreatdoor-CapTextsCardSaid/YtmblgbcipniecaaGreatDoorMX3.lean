/- The library's functions on strings, as the walk meets them. -/
import Derived.Lib.AppendIntMem
import Derived.Lib.AtoiErrMem
import Derived.Test.YtmblgbcipniecaaGreatDoorMX30
import Derived.Test.YtmblgbcipniecaaGreatDoorMX2
import Derived.Test.YtmblgbcipniecaaGreatDoorMX4
import Derived.Test.YtmblgbcipniecaaGreatDoorMX31
namespace Go.Proofs.YtmblgbcipniecaaGreatDoor
open Go.RowKit Go.Shelf
theorem Hp.of_below {B : Nat} {w0 : Wd} {w w' : World} {hs : HS} (hw : Hp B w0 w hs) (hb : Below w.heap.size w w') : Hp B w0 w' hs := by
  have lt : ∀ {k : Nat} {o : Obj}, w.heap[k]? = some o → k < w.heap.size := fun h => (Array.getElem?_eq_some_iff.1 h).1
  refine ⟨hw.below.trans (hb.mono hw.big), Nat.le_trans hw.big hb.size, fun p hp => ?_, hw.nodup, fun p hp => ?_, hw.ond⟩
  · obtain ⟨h1, e, h2⟩ := hw.mem p hp
    exact ⟨h1, e, by rw [hb.block p.1 (lt h2)]; exact h2⟩
  · obtain ⟨h1, h2, h3⟩ := hw.obj p hp
    exact ⟨h1, by rw [hb.block p.1 (lt h2)]; exact h2, h3⟩
/-- What is known of the variables of the library. -/
structure TxW (B : Nat) (w0 : Wd) : Prop where
  nB : gMax < B ∧ gSyn < B ∧ gRan < B ∧ gPow < B
  tab : Go.Lib.TabIs Tryz.prog w0.w "internal/strconv.uint64pow10" .u64 Go.Lib.pow10Tab
  ml : ∃ m, w0.w.cell? ⟨gMax, 0, none⟩ = some (.int .i64 m)
  sy : ∃ te pe, w0.w.cell? ⟨gSyn, 0, none⟩ = some (.iface te pe)
  ra : ∃ te pe, w0.w.cell? ⟨gRan, 0, none⟩ = some (.iface te pe)
theorem Hp.cellB {B : Nat} {w0 : Wd} {w : World} {hs : HS} (hw : Hp B w0 w hs) {g : Nat} {v : Value} (hg : g < B) (h : w0.w.cell? ⟨g, 0, none⟩ = some v) : w.cell? ⟨g, 0, none⟩ = some v := (hw.below.cell (p := ⟨g, 0, none⟩) hg).trans h
theorem Hp.tabB {B : Nat} {w0 : Wd} {w : World} {hs : HS} (hw : Hp B w0 w hs) (hT : TxW B w0) : Go.Lib.TabIs Tryz.prog w "internal/strconv.uint64pow10" .u64 Go.Lib.pow10Tab := by
  have h := hT.tab
  unfold Go.Lib.TabIs World.var? at h ⊢
  rw [gPow_named] at h ⊢
  simp only [Option.bind_some] at h ⊢
  rw [hw.below.block gPow hT.nB.2.2.2]
  exact h
section
variable {B : Nat} {w0 : Wd}
theorem x_Itoa (hT : TxW B w0) (m : Int) (h : InI m) (hs : HS) : Fn Tryz.prog 32 #[iv m] B w0 hs (fun v h => v = sv (Go.Lib.itoa m) ∧ h = hs) := fn_mk fun w hw => by
  refine (Any.strconv_Itoa Tryz.laysM171 m h.1 h.2 w (hw.tabB hT)).mono ?_
  rintro e w' ⟨rfl, k, os, rfl⟩
  exact ⟨_, _, rfl, ⟨rfl, rfl⟩, hw.of_below (Go.Lib.below_grow _ _ (Nat.le_refl _) _ _)⟩
theorem x_Split (hT : TxW B w0) (l : List UInt8) (c : UInt8) (hl : l.length ≤ 1000000) (hs : HS) : Fn Tryz.prog 39 #[sv l, sv [c]] B w0 hs (fun v h => ∃ blk, (∃ oa k, RowOk oa k 1 (svs (wds c l)) blk ∧ v = .slice oa (wds c l).length k) ∧ h = blk ++ hs) := fn_mk fun w hw => by
  obtain ⟨m, hm⟩ := hT.ml
  have h := Any.strings_Split { Tryz.laysM146 with } Tryz.laysM146.i9 ⟨l.toArray⟩ ⟨#[c]⟩ m w (by rw [ba_size]; omega) (hw.cellB hT.nB.1 hm) (by simp [ByteArray.size])
  rw [split_wds, count_wds] at h
  refine h.mono ?_
  rintro e w' ⟨rfl, rfl⟩
  have hlen := wds_len c l
  refine ⟨_, _, rfl, ⟨[(w.heap.size, svs (wds c l))], ⟨_, _, RowOk.new (by rw [svs_length, Nat.mul_one]) (by unfold maxLen; omega), rfl⟩, rfl⟩, ?_⟩
  exact hw.fresh (svs (wds c l)).toArray (Tryz.laysM146_ren.t 9)
theorem x_Atoi (hT : TxW B w0) (l : List UInt8) (hl : l.length ≤ 1000000) (hs : HS) : Fn Tryz.prog 40 #[sv l] B w0 hs (fun v h => ((∃ m, Go.Lib.atoiAll l = .ok m ∧ v = .tuple #[iv m, .nilIface]) ∨ ((∀ m, Go.Lib.atoiAll l ≠ .ok m) ∧ ∃ x t p, v = .tuple #[iv x, .iface t p])) ∧ h = hs) := fn_mk fun w hw => by
  have e : (⟨l.toArray⟩ : ByteArray).data.toList = l := by simp
  have hsz : (⟨l.toArray⟩ : ByteArray).size = l.length := ba_size l
  cases hA : Go.Lib.atoiAll l
  · rename_i m
    refine (Any.strconv_Atoi_ok Tryz.laysC172 ⟨l.toArray⟩ (by omega) m (by rw [e]; exact hA) w).mono ?_
    rintro e' w' ⟨rfl, hw'⟩
    refine ⟨_, _, rfl, ⟨.inl ⟨m, rfl, rfl⟩, rfl⟩, ?_⟩
    rcases hw' with rfl | ⟨t, rfl⟩
    · exact hw
    · exact hw.of_below (Go.Lib.bytesWorld_below _ _ _)
  · obtain ⟨te, pe, hv⟩ := hT.sy
    refine (Any.strconv_Atoi_syntax Tryz.laysC172 ⟨l.toArray⟩ (by omega) (by rw [e]; exact hA) _ w (hw.cellB hT.nB.2.1 hv) (.inr ⟨te, pe, rfl⟩)).mono ?_
    rintro e' w' ⟨N, rfl, _, _, hb⟩
    exact ⟨_, _, rfl, ⟨.inr ⟨fun m h => (by cases h), 0, _, _, rfl⟩, rfl⟩, hw.of_below hb⟩
  · obtain ⟨te, pe, hv⟩ := hT.ra
    refine (Any.strconv_Atoi_range Tryz.laysC172 ⟨l.toArray⟩ (by omega) (by rw [e]; exact hA) _ w (hw.cellB hT.nB.2.2.1 hv) (.inr ⟨te, pe, rfl⟩)).mono ?_
    rintro e' w' ⟨N, rfl, _, _, hb⟩
    exact ⟨_, _, rfl, ⟨.inr ⟨fun m h => (by cases h), _, _, _, rfl⟩, rfl⟩, hw.of_below hb⟩
end
end Go.Proofs.YtmblgbcipniecaaGreatDoor
