/- What the laws' rows share, more: a slice of bytes, opened. No conditions. -/
import Derived.Test.YtalghfnjelcpnaaDoorLawO
namespace Go.Proofs.YtalghfnjelcpnaaDoor
open Go.ChangeShapes Go.WideShapes Go.ChangeAt Go.RowKit Go.Proofs.YtalghfnjelcpnaaDoorW.PrintWords

theorem bytes_open {H : Type} {enc : TypeId × Value → H} {w : World} {fuel : Nat} {a : Option Addr} {len cap : Nat} {x : DataW H × List MemPlace}
    (hf : DataW.trod enc Tryd.prog w 0 (fun _ => true) true fuel 22 (Value.slice a len cap).cells.toList = some x) :
    ∃ l : List Int, len = l.length ∧ Kd.C (Kd.int .u8) w a l.length l ∧ l.length ≤ cap ∧ l.length ≤ maxLen ∧ ∀ n ∈ l, (Lit.int .u8 n).wf = true := by
  have h : ∃ zs, (a = none ∧ len = 0 ∧ cap = 0 ∧ zs = []) ∨
      ∃ x, a = some x ∧ len ≤ cap ∧ cap ≤ maxLen ∧ zs.length = cap ∧ (∀ i, i < zs.length → w.cell? (x.add i) = some (.int .u8 (zs.getD i 0))) ∧ ∀ n ∈ zs, (Lit.int .u8 n).wf = true := by
    rcases open_ints Tryd.underlying22 Tryd.underlying5 (by kernel_rfl) hf with ⟨hcs, _⟩ | ⟨x, l, c, zs, hcs, _, hl, hm, hz, _, hcell, hwz⟩
    · simp [Value.cells] at hcs
      obtain ⟨rfl, rfl, rfl⟩ := hcs
      exact ⟨[], .inl ⟨rfl, rfl, rfl, rfl⟩⟩
    · simp [Value.cells] at hcs
      obtain ⟨rfl, rfl, rfl⟩ := hcs
      exact ⟨zs, .inr ⟨_, rfl, hl, hm, by simpa using hz, hcell, hwz⟩⟩
  obtain ⟨zs, h⟩ := h
  obtain ⟨l, e, hr, hm, hw, hc⟩ := ReadsInt.ofRowC h
  exact ⟨l, e, Kd.C_of_reads (d := (0 : Int)) (h1 := fun _ => rfl) hr, hc, hm, hw⟩
end Go.Proofs.YtalghfnjelcpnaaDoor
