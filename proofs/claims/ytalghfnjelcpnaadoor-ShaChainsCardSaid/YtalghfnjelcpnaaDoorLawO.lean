/- What the laws' rows share: a world that holds the table; a slice of slices of bytes, opened. No conditions. -/
import Derived.Test.YtalghfnjelcpnaaDoorRows
import Derived.Test.YtalghfnjelcpnaaDoorXw
import Derived.WalkKit
import Derived.ProofKit
import Derived.OpenShut
import Derived.Deep.Matrix
namespace Go.Proofs.YtalghfnjelcpnaaDoor
open Go.ChangeShapes Go.WideShapes Go.ChangeAt Go.RowKit Go.Proofs.YtalghfnjelcpnaaDoorW.PrintWords

theorem rows_C {w : World} {a : Addr} {len cap : Nat} {A : Nat → Option Addr} {L C : Nat → Nat} {Z : Nat → List Int} (hl : len ≤ cap) (hm : cap ≤ maxLen)
    (h : ∀ r, r < cap → w.cell? (a.add r) = some (.slice (A r) (L r) (C r)) ∧ L r ≤ C r ∧ C r ≤ maxLen ∧ (Z r).length = C r ∧ (∀ n ∈ Z r, (Lit.int .u8 n).wf = true) ∧ (A r = none → C r = 0) ∧
        ∀ a', A r = some a' → 0 ≤ a'.block ∧ ∀ c, c < C r → w.cell? (a'.add c) = some (.int .u8 ((Z r).getD c 0))) :
    Kd.C (Kd.slice 5 (Kd.int .u8)) w (some a) len ((List.range len).map fun r => (Z r).take (L r)) := by
  refine ⟨by simp, Nat.le_trans hl hm, fun _ => ⟨a, rfl, fun j p hj => ?_⟩⟩
  have hj1 : j < len := by
    have := (List.getElem?_eq_some_iff.1 hj).1
    simpa using this
  obtain ⟨hc, hLC, hCm, hZ, _, hn, hA⟩ := h j (by omega)
  have hp : (Z j).take (L j) = p := by
    have := (List.getElem?_eq_some_iff.1 hj).2
    simpa using this
  have hpl : p.length = L j := by rw [← hp]; simp; omega
  refine ⟨[.slice (A j) (L j) (C j)], rfl, ⟨A j, C j, by rw [hpl], by omega, rfl, by unfold maxLen at hCm; omega, fun h0 => ?_⟩, fun i u hu => ?_⟩
  · cases hAj : A j with
    | none => have := hn hAj; omega
    | some a' =>
      refine ⟨a', rfl, fun i q hq => ⟨[.int .u8 q], rfl, rfl, fun m u hu => ?_⟩⟩
      have hi : i < p.length := (List.getElem?_eq_some_iff.1 hq).1
      match m with
      | 0 =>
        obtain rfl : Value.int .u8 q = u := by simpa using hu
        have hcell := (hA a' hAj).2 i (by omega)
        have hqq : (Z j).getD i 0 = q := by
          rw [List.getD_eq_getElem?_getD]
          rw [← hp, List.getElem?_take] at hq
          rw [if_pos (by omega)] at hq
          rw [hq]; rfl
        rw [hqq] at hcell
        simpa [Kd.int, Kd.scalar] using hcell
      | m + 1 => simp at hu
  · match i with
    | 0 =>
      obtain rfl : Value.slice (A j) (L j) (C j) = u := by simpa using hu
      simpa [Kd.slice] using hc
    | i + 1 => simp at hu
theorem rows_open {H : Type} {enc : TypeId × Value → H} {w : World} {fuel : Nat} {a : Option Addr} {len cap : Nat} {x : DataW H × List MemPlace}
    (hf : DataW.trod enc Tryd.prog w 0 (fun _ => true) true fuel 39 (Value.slice a len cap).cells.toList = some x) :
    ∃ l : List (List Int), len = l.length ∧ Kd.C (Kd.slice 5 (Kd.int .u8)) w a l.length l ∧ l.length ≤ cap ∧ l.length ≤ maxLen ∧ ∀ p ∈ l, p.length ≤ maxLen ∧ ∀ n ∈ p, (Lit.int .u8 n).wf = true := by
  rcases Go.Deep.open_int_rows Tryd.underlying39 Tryd.underlying22 Tryd.underlying5 (by kernel_rfl) (by kernel_rfl) hf with ⟨hcs, _⟩ | ⟨a1, len1, cap1, A, L, C, Z, hcs, _, hl, hm, _, h⟩
  · simp [Value.cells] at hcs
    obtain ⟨rfl, rfl, rfl⟩ := hcs
    exact ⟨[], rfl, Kd.C_nil _ _, Nat.le_refl _, Nat.zero_le _, fun p hp => by cases hp⟩
  · simp [Value.cells] at hcs
    obtain ⟨rfl, rfl, rfl⟩ := hcs
    have e : ((List.range len).map fun r => (Z r).take (L r)).length = len := by simp
    refine ⟨(List.range len).map fun r => (Z r).take (L r), e.symm, ?_, by rw [e]; exact hl, by rw [e]; exact Nat.le_trans hl hm, fun p hp => ?_⟩
    · rw [e]; exact rows_C hl hm h
    · obtain ⟨r, hr, rfl⟩ := List.mem_map.1 hp
      obtain ⟨_, hLC, hCm, hZ, hw, _⟩ := h r (by have := List.mem_range.1 hr; omega)
      exact ⟨by simp; omega, fun n hn => hw n (List.mem_of_mem_take hn)⟩
/-- A world that holds the table: what its initialiser lays. -/
noncomputable def laidWorld (os : Os) : World :=
  { World.holding Tryd.prog os ⟨#[], #[], []⟩ with heap := (World.holding Tryd.prog os ⟨#[], #[], []⟩).heap.modify 0 fun
      | .cells _ t frozen => .cells (([1116352408, 1899447441, 3049323471, 3921009573, 961987163, 1508970993, 2453635748, 2870763221, 3624381080, 310598401, 607225278, 1426881987, 1925078388, 2162078206, 2614888103, 3248222580, 3835390401, 4022224774, 264347078, 604807628, 770255983, 1249150122, 1555081692, 1996064986, 2554220882, 2821834349, 2952996808, 3210313671, 3336571891, 3584528711, 113926993, 338241895, 666307205, 773529912, 1294757372, 1396182291, 1695183700, 1986661051, 2177026350, 2456956037, 2730485921, 2820302411, 3259730800, 3345764771, 3516065817, 3600352804, 4094571909, 275423344, 430227734, 506948616, 659060556, 883997877, 958139571, 1322822218, 1537002063, 1747873779, 1955562222, 2024104815, 2227730452, 2361852424, 2428436474, 2756734187, 3204031479, 3329325298] : List Int).map (Value.int .u32)).toArray t frozen
      | o => o }
theorem own : ownKnob Tryd.prog.godebug = none := by kernel_rfl
theorem laidOut : laidOutB Tryd.prog = true := by kernel_rfl
end Go.Proofs.YtalghfnjelcpnaaDoor
