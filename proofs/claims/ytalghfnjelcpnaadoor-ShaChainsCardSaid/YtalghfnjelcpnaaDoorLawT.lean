/- What the row of ShaChains asks: a slice of blocks, opened. No conditions. -/
import Derived.Test.YtalghfnjelcpnaaDoorLawR
import Derived.Test.YtalghfnjelcpnaaDoorShC7
import Derived.Deep.Slices
namespace Go.Proofs.YtalghfnjelcpnaaDoor
open Go.ChangeShapes Go.WideShapes Go.ChangeAt Go.RowKit Go.Proofs.YtalghfnjelcpnaaDoorW.PrintWords
theorem cells30 : Tryd.prog.cellsOf 30 = 64 := by kernel_rfl
theorem block_open {H : Type} {enc : TypeId × Value → H} {w : World} {fuel : Nat} {ad : Addr} {cs : List Value} {x : DataW H × List MemPlace} (hc : w.cells? 0 ad 64 = some cs)
    (hf : DataW.trod enc Tryd.prog w 0 (fun _ => true) true fuel 30 cs = some x) : ∃ zs : List Int, zs.length = 64 ∧ ∀ j v, (zs.map (Value.int .u8))[j]? = some v → w.cell? (ad.add j) = some v := by
  obtain ⟨_, hl, hcell⟩ := World.cells?_some hc
  obtain ⟨zs, hz, hzl, _⟩ := open_ints_arr (xs := cs.toArray) arr30 Tryd.underlying5 (by simpa using hl) (by simpa [Value.cells] using hf)
  have hz' : cs = zs.map (Value.int .u8) := by simpa using congrArg Array.toList hz
  subst hz'
  refine ⟨zs, hzl, fun j v hv => ?_⟩
  have hj : j < zs.length := by
    have := (List.getElem?_eq_some_iff.1 hv).1
    simpa using this
  rw [hcell j (by omega), hv]
theorem blocks_open {H : Type} {enc : TypeId × Value → H} {w : World} {fuel : Nat} {a : Option Addr} {len cap : Nat} {x : DataW H × List MemPlace}
    (hf : DataW.trod enc Tryd.prog w 0 (fun _ => true) true fuel 41 (Value.slice a len cap).cells.toList = some x) : ∃ ps : List (List Int), len = ps.length ∧ BlkC w a ps ∧ ps.length ≤ cap := by
  rcases Go.Deep.open_slice Tryd.underlying41 hf with ⟨hcs, _⟩ | ⟨ad, l, c, m, n, D, Pl, hcs, hb, hl, hm, hmm, hx, hall⟩
  · simp [Value.cells] at hcs
    obtain ⟨rfl, rfl, rfl⟩ := hcs
    exact ⟨[], rfl, ⟨(fun p hp => by cases hp), (fun h => absurd h (by decide))⟩, Nat.le_refl _⟩
  · simp [Value.cells] at hcs
    obtain ⟨rfl, rfl, rfl⟩ := hcs
    have hmm' : m = cap := by rw [hmm]; rfl
    subst hmm'
    obtain ⟨Z, hZ⟩ := Go.Deep.choose_lt (n := len) (α := List Int) (p := fun i zs => zs.length = 64 ∧ ∀ j v, (zs.map (Value.int .u8))[j]? = some v → w.cell? ((ad.add (i * 64)).add j) = some v) (fun i hi => by
      obtain ⟨cs', h1, h2⟩ := hall i (by omega)
      rw [cells30] at h1
      exact block_open h1 h2)
    have e : ((List.range len).map Z).length = len := by simp
    refine ⟨(List.range len).map Z, e.symm, ⟨fun p hp => ?_, fun h => ?_⟩, by rw [e]; exact hl⟩
    · obtain ⟨i, hi, rfl⟩ := List.mem_map.1 hp
      exact (hZ i (List.mem_range.1 hi)).1
    · rw [e] at h
      obtain ⟨l0, c0⟩ := hZ 0 h
      have hlt : 0 < (Z 0).length := by omega
      have h0 := c0 0 (.int .u8 (Z 0)[0]) (by simp [hlt])
      have e0 : (ad.add (0 * 64)).add 0 = ad := by simp [Addr.add]
      rw [e0] at h0
      have hsp := World.cell?_spot h0
      obtain ⟨b, o, s⟩ := ad
      cases hsp
      refine ⟨b, o, rfl, World.block_lt_of_cell? w _ h0, fun k hk j v hv => ?_⟩
      rw [e] at hk
      have hg : ((List.range len).map Z).getD k [] = Z k := by simp [List.getD_eq_getElem?_getD, hk]
      rw [hg] at hv
      have := (hZ k hk).2 j v hv
      rw [Addr.add_mid, Addr.add_mid] at this
      exact this
end Go.Proofs.YtalghfnjelcpnaaDoor
