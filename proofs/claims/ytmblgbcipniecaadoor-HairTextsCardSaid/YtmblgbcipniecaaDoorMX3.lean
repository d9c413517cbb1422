/- The library's functions on strings, as the walk meets them. -/
import Derived.Lib.AppendIntMem
import Derived.Lib.AtoiErrMem
import Derived.Test.YtmblgbcipniecaaDoorMX30
import Derived.Test.YtmblgbcipniecaaDoorMX2
import Derived.Test.YtmblgbcipniecaaDoorMX4
import Derived.Test.YtmblgbcipniecaaDoorMX31
namespace Go.Proofs.YtmblgbcipniecaaDoor
open Go.RowKit Go.Shelf
theorem Hp.of_below {B : Nat} {w0 : Wd} {w w' : World} {hs : HS} (hw : Hp B w0 w hs) (hb : Below w.heap.size w w') : Hp B w0 w' hs := by
  have lt : ∀ {k : Nat} {o : Obj}, w.heap[k]? = some o → k < w.heap.size := fun h => (Array.getElem?_eq_some_iff.1 h).1
  refine ⟨hw.below.trans (hb.mono hw.big), Nat.le_trans hw.big hb.size, fun p hp => ?_, hw.nodup, fun p hp => ?_, hw.ond⟩
  · obtain ⟨h1, e, h2⟩ := hw.mem p hp
    exact ⟨h1, e, by rw [hb.block p.1 (lt h2)]; exact h2⟩
  · obtain ⟨h1, h2, h3⟩ := hw.obj p hp
    exact ⟨h1, by rw [hb.block p.1 (lt h2)]; exact h2, h3⟩
/-- What is known of the variables of the library. -/
structure TxW (B : Nat) (w0 : Wd) : Prop where
  nB : gMax < B ∧ gSyn < B ∧ gRan < B ∧ gPow < B
  tab : Go.Lib.TabIs Tryd.prog w0.w "internal/strconv.uint64pow10" .u64 Go.Lib.pow10Tab
  ml : ∃ m, w0.w.cell? ⟨gMax, 0, none⟩ = some (.int .i64 m)
  sy : ∃ te pe, w0.w.cell? ⟨gSyn, 0, none⟩ = some (.iface te pe)
  ra : ∃ te pe, w0.w.cell? ⟨gRan, 0, none⟩ = some (.iface te pe)
theorem Hp.cellB {B : Nat} {w0 : Wd} {w : World} {hs : HS} (hw : Hp B w0 w hs) {g : Nat} {v : Value} (hg : g < B) (h : w0.w.cell? ⟨g, 0, none⟩ = some v) : w.cell? ⟨g, 0, none⟩ = some v := (hw.below.cell (p := ⟨g, 0, none⟩) hg).trans h
theorem Hp.tabB {B : Nat} {w0 : Wd} {w : World} {hs : HS} (hw : Hp B w0 w hs) (hT : TxW B w0) : Go.Lib.TabIs Tryd.prog w "internal/strconv.uint64pow10" .u64 Go.Lib.pow10Tab := by
  have h := hT.tab
  unfold Go.Lib.TabIs World.var? at h ⊢
  rw [gPow_named] at h ⊢
  simp only [Option.bind_some] at h ⊢
  rw [hw.below.block gPow hT.nB.2.2.2]
  exact h
section
variable {B : Nat} {w0 : Wd}
theorem x_Itoa (hT : TxW B w0) (m : Int) (h : InI m) (hs : HS) : Fn Tryd.prog 15 #[iv m] B w0 hs (fun v h => v = sv (Go.Lib.itoa m) ∧ h = hs) := fn_mk fun w hw => by
  refine (Any.strconv_Itoa Tryd.laysM171 m h.1 h.2 w (hw.tabB hT)).mono ?_
  rintro e w' ⟨rfl, k, os, rfl⟩
  exact ⟨_, _, rfl, ⟨rfl, rfl⟩, hw.of_below (Go.Lib.below_grow _ _ (Nat.le_refl _) _ _)⟩
theorem x_Join (oa : Option Addr) (c : Nat) (ls : List (List UInt8)) (sep : List UInt8) (blk hs : HS) (hr : RowOk oa c 1 (svs ls) blk) (hsub : blk.Sublist hs) (hl : (Go.Lib.join ls sep).length ≤ 140737488355328) (hn : ls.length ≤ 140737488355328) :
    Fn Tryd.prog 16 #[.slice oa ls.length c, sv sep] B w0 hs (fun v h => v = sv (Go.Lib.join ls sep) ∧ h = hs) := fn_mk fun w hw => by
  have e : ∀ x : List UInt8, (⟨x.toArray⟩ : ByteArray).data.toList = x := fun x => by simp
  have e2 : (ls.map fun l => (⟨l.toArray⟩ : ByteArray)).map (·.data.toList) = ls := by
    rw [List.map_map]
    exact (List.map_congr_left fun l _ => e l).trans (List.map_id _)
  rcases hr with ⟨_, _, h3, _⟩ | ⟨b, z, rfl, rfl, hz, _⟩
  · have : ls = [] := by unfold svs at h3; simpa using h3
    subst this
    refine (Any.strings_Join_none Tryd.lays156 Tryd.Builder_Extra_156 oa c ⟨sep.toArray⟩ w).mono ?_
    rintro e w' ⟨rfl, rfl⟩
    exact ⟨_, _, rfl, ⟨rfl, rfl⟩, hw⟩
  · have hm := hsub.subset (List.mem_singleton.2 rfl)
    obtain ⟨_, _, hb⟩ := hw.mem _ hm
    have hbk := (Array.getElem?_eq_some_iff.1 hb).1
    have hcl : ls.length ≤ c := by rw [List.length_append, svs_length] at hz; omega
    have h := Any.strings_Join Tryd.lays156 Tryd.Builder_Extra_156 b 0 c (ls.map fun l => (⟨l.toArray⟩ : ByteArray)) ⟨sep.toArray⟩ w (fun j x hj => by
      rw [Nat.zero_add, hw.cell hm j]
      rw [List.getElem?_map, Option.map_eq_some_iff] at hj
      obtain ⟨a, h1, h2⟩ := hj
      have hjl := (List.getElem?_eq_some_iff.1 h1).1
      rw [List.getElem?_append_left (by rw [svs_length]; exact hjl)]
      unfold svs
      rw [List.getElem?_map, h1, ← h2]
      rfl) hbk (by rw [List.length_map]; exact hn) (by rw [List.length_map]; exact hcl) (by rw [e2, e]; exact hl)
    rw [List.length_map, e2, e] at h
    refine h.mono ?_
    rintro e w' ⟨rfl, hbl⟩
    exact ⟨_, _, rfl, ⟨rfl, rfl⟩, hw.of_below hbl⟩
theorem x_Split (hT : TxW B w0) (l : List UInt8) (c : UInt8) (hl : l.length ≤ 1000000) (hs : HS) : Fn Tryd.prog 19 #[sv l, sv [c]] B w0 hs (fun v h => ∃ blk, (∃ oa k, RowOk oa k 1 (svs (wds c l)) blk ∧ v = .slice oa (wds c l).length k) ∧ h = blk ++ hs) := fn_mk fun w hw => by
  obtain ⟨m, hm⟩ := hT.ml
  have h := Any.strings_Split { Tryd.laysM146 with } Tryd.laysM146.i9 ⟨l.toArray⟩ ⟨#[c]⟩ m w (by rw [ba_size]; omega) (hw.cellB hT.nB.1 hm) (by simp [ByteArray.size])
  rw [split_wds, count_wds] at h
  refine h.mono ?_
  rintro e w' ⟨rfl, rfl⟩
  have hlen := wds_len c l
  refine ⟨_, _, rfl, ⟨[(w.heap.size, svs (wds c l))], ⟨_, _, RowOk.new (by rw [svs_length, Nat.mul_one]) (by unfold maxLen; omega), rfl⟩, rfl⟩, ?_⟩
  exact hw.fresh (svs (wds c l)).toArray (Tryd.laysM146_ren.t 9)
theorem x_Atoi (hT : TxW B w0) (l : List UInt8) (hl : l.length ≤ 1000000) (hs : HS) : Fn Tryd.prog 20 #[sv l] B w0 hs (fun v h => ((∃ m, Go.Lib.atoiAll l = .ok m ∧ v = .tuple #[iv m, .nilIface]) ∨ ((∀ m, Go.Lib.atoiAll l ≠ .ok m) ∧ ∃ x t p, v = .tuple #[iv x, .iface t p])) ∧ h = hs) := fn_mk fun w hw => by
  have e : (⟨l.toArray⟩ : ByteArray).data.toList = l := by simp
  have hsz : (⟨l.toArray⟩ : ByteArray).size = l.length := ba_size l
  cases hA : Go.Lib.atoiAll l
  · rename_i m
    refine (Any.strconv_Atoi_ok Tryd.laysC172 ⟨l.toArray⟩ (by omega) m (by rw [e]; exact hA) w).mono ?_
    rintro e' w' ⟨rfl, hw'⟩
    refine ⟨_, _, rfl, ⟨.inl ⟨m, rfl, rfl⟩, rfl⟩, ?_⟩
    rcases hw' with rfl | ⟨t, rfl⟩
    · exact hw
    · exact hw.of_below (Go.Lib.bytesWorld_below _ _ _)
  · obtain ⟨te, pe, hv⟩ := hT.sy
    refine (Any.strconv_Atoi_syntax Tryd.laysC172 ⟨l.toArray⟩ (by omega) (by rw [e]; exact hA) _ w (hw.cellB hT.nB.2.1 hv) (.inr ⟨te, pe, rfl⟩)).mono ?_
    rintro e' w' ⟨N, rfl, _, _, hb⟩
    exact ⟨_, _, rfl, ⟨.inr ⟨fun m h => (by cases h), 0, _, _, rfl⟩, rfl⟩, hw.of_below hb⟩
  · obtain ⟨te, pe, hv⟩ := hT.ra
    refine (Any.strconv_Atoi_range Tryd.laysC172 ⟨l.toArray⟩ (by omega) (by rw [e]; exact hA) _ w (hw.cellB hT.nB.2.2.1 hv) (.inr ⟨te, pe, rfl⟩)).mono ?_
    rintro e' w' ⟨N, rfl, _, _, hb⟩
    exact ⟨_, _, rfl, ⟨.inr ⟨fun m h => (by cases h), _, _, _, rfl⟩, rfl⟩, hw.of_below hb⟩
end
end Go.Proofs.YtmblgbcipniecaaDoor
