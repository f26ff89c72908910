/- What the laws' rows share: a world that holds the table; a slice of slices of bytes, opened. No conditions. What the laws' rows share, more: a slice of bytes, opened. No conditions. What the rows' list gives: the table's cells hold its 64 numbers. No conditions. What the laws' rows share, more: an array of numbers, opened. No conditions. What the laws' rows share, more: a slice of bytes as a field, opened. No conditions. -/
import Derived.Test.YtalghfnjelcpnaaDoorRows
import Derived.Test.YtalghfnjelcpnaaDoorXw
import Derived.WalkKit
import Derived.ProofKit
import Derived.OpenShut
import Derived.Deep.Matrix
import Derived.Test.YtalghfnjelcpnaaDoorSa
import Derived.Lib.LaidTab
import Derived.WideKeyArr2
import Derived.Lib.SmallJoins
namespace Go.Proofs.YtalghfnjelcpnaaDoor
open Go.ChangeShapes Go.WideShapes Go.ChangeAt Go.RowKit Go.Proofs.YtalghfnjelcpnaaDoorW.PrintWords

theorem rows_C {w : World} {a : Addr} {len cap : Nat} {A : Nat → Option Addr} {L C : Nat → Nat} {Z : Nat → List Int} (hl : len ≤ cap) (hm : cap ≤ maxLen)
    (h : ∀ r, r < cap → w.cell? (a.add r) = some (.slice (A r) (L r) (C r)) ∧ L r ≤ C r ∧ C r ≤ maxLen ∧ (Z r).length = C r ∧ (∀ n ∈ Z r, (Lit.int .u8 n).wf = true) ∧ (A r = none → C r = 0) ∧
        ∀ a', A r = some a' → 0 ≤ a'.block ∧ ∀ c, c < C r → w.cell? (a'.add c) = some (.int .u8 ((Z r).getD c 0))) :
    Kd.C (Kd.slice 5 (Kd.int .u8)) w (some a) len ((List.range len).map fun r => (Z r).take (L r)) := by
  refine ⟨by simp, Nat.le_trans hl hm, fun _ => ⟨a, rfl, fun j p hj => ?_⟩⟩
  have hj1 : j < len := by
    have := (List.getElem?_eq_some_iff.1 hj).1
    simpa using this
  obtain ⟨hc, hLC, hCm, hZ, _, hn, hA⟩ := h j (by omega)
  have hp : (Z j).take (L j) = p := by
    have := (List.getElem?_eq_some_iff.1 hj).2
    simpa using this
  have hpl : p.length = L j := by rw [← hp]; simp; omega
  refine ⟨[.slice (A j) (L j) (C j)], rfl, ⟨A j, C j, by rw [hpl], by omega, rfl, by unfold maxLen at hCm; omega, fun h0 => ?_⟩, fun i u hu => ?_⟩
  · cases hAj : A j with
    | none => have := hn hAj; omega
    | some a' =>
      refine ⟨a', rfl, fun i q hq => ⟨[.int .u8 q], rfl, rfl, fun m u hu => ?_⟩⟩
      have hi : i < p.length := (List.getElem?_eq_some_iff.1 hq).1
      match m with
      | 0 =>
        obtain rfl : Value.int .u8 q = u := by simpa using hu
        have hcell := (hA a' hAj).2 i (by omega)
        have hqq : (Z j).getD i 0 = q := by
          rw [List.getD_eq_getElem?_getD]
          rw [← hp, List.getElem?_take] at hq
          rw [if_pos (by omega)] at hq
          rw [hq]; rfl
        rw [hqq] at hcell
        simpa [Kd.int, Kd.scalar] using hcell
      | m + 1 => simp at hu
  · match i with
    | 0 =>
      obtain rfl : Value.slice (A j) (L j) (C j) = u := by simpa using hu
      simpa [Kd.slice] using hc
    | i + 1 => simp at hu
theorem rows_open {H : Type} {enc : TypeId × Value → H} {w : World} {fuel : Nat} {a : Option Addr} {len cap : Nat} {x : DataW H × List MemPlace}
    (hf : DataW.trod enc Tryd.prog w 0 (fun _ => true) true fuel 39 (Value.slice a len cap).cells.toList = some x) :
    ∃ l : List (List Int), len = l.length ∧ Kd.C (Kd.slice 5 (Kd.int .u8)) w a l.length l ∧ l.length ≤ cap ∧ l.length ≤ maxLen ∧ ∀ p ∈ l, p.length ≤ maxLen ∧ ∀ n ∈ p, (Lit.int .u8 n).wf = true := by
  rcases Go.Deep.open_int_rows Tryd.underlying39 Tryd.underlying22 Tryd.underlying5 (by kernel_rfl) (by kernel_rfl) hf with ⟨hcs, _⟩ | ⟨a1, len1, cap1, A, L, C, Z, hcs, _, hl, hm, _, h⟩
  · simp [Value.cells] at hcs
    obtain ⟨rfl, rfl, rfl⟩ := hcs
    exact ⟨[], rfl, Kd.C_nil _ _, Nat.le_refl _, Nat.zero_le _, fun p hp => by cases hp⟩
  · simp [Value.cells] at hcs
    obtain ⟨rfl, rfl, rfl⟩ := hcs
    have e : ((List.range len).map fun r => (Z r).take (L r)).length = len := by simp
    refine ⟨(List.range len).map fun r => (Z r).take (L r), e.symm, ?_, by rw [e]; exact hl, by rw [e]; exact Nat.le_trans hl hm, fun p hp => ?_⟩
    · rw [e]; exact rows_C hl hm h
    · obtain ⟨r, hr, rfl⟩ := List.mem_map.1 hp
      obtain ⟨_, hLC, hCm, hZ, hw, _⟩ := h r (by have := List.mem_range.1 hr; omega)
      exact ⟨by simp; omega, fun n hn => hw n (List.mem_of_mem_take hn)⟩
/-- A world that holds the table: what its initialiser lays. -/
noncomputable def laidWorld (os : Os) : World :=
  { World.holding Tryd.prog os ⟨#[], #[], []⟩ with heap := (World.holding Tryd.prog os ⟨#[], #[], []⟩).heap.modify 0 fun
      | .cells _ t frozen => .cells (([1116352408, 1899447441, 3049323471, 3921009573, 961987163, 1508970993, 2453635748, 2870763221, 3624381080, 310598401, 607225278, 1426881987, 1925078388, 2162078206, 2614888103, 3248222580, 3835390401, 4022224774, 264347078, 604807628, 770255983, 1249150122, 1555081692, 1996064986, 2554220882, 2821834349, 2952996808, 3210313671, 3336571891, 3584528711, 113926993, 338241895, 666307205, 773529912, 1294757372, 1396182291, 1695183700, 1986661051, 2177026350, 2456956037, 2730485921, 2820302411, 3259730800, 3345764771, 3516065817, 3600352804, 4094571909, 275423344, 430227734, 506948616, 659060556, 883997877, 958139571, 1322822218, 1537002063, 1747873779, 1955562222, 2024104815, 2227730452, 2361852424, 2428436474, 2756734187, 3204031479, 3329325298] : List Int).map (Value.int .u32)).toArray t frozen
      | o => o }
theorem own : ownKnob Tryd.prog.godebug = none := by kernel_rfl
theorem laidOut : laidOutB Tryd.prog = true := by kernel_rfl
end Go.Proofs.YtalghfnjelcpnaaDoor
namespace Go.Proofs.YtalghfnjelcpnaaDoor
open Go.ChangeShapes Go.WideShapes Go.ChangeAt Go.RowKit Go.Proofs.YtalghfnjelcpnaaDoorW.PrintWords

theorem bytes_open {H : Type} {enc : TypeId × Value → H} {w : World} {fuel : Nat} {a : Option Addr} {len cap : Nat} {x : DataW H × List MemPlace}
    (hf : DataW.trod enc Tryd.prog w 0 (fun _ => true) true fuel 22 (Value.slice a len cap).cells.toList = some x) :
    ∃ l : List Int, len = l.length ∧ Kd.C (Kd.int .u8) w a l.length l ∧ l.length ≤ cap ∧ l.length ≤ maxLen ∧ ∀ n ∈ l, (Lit.int .u8 n).wf = true := by
  have h : ∃ zs, (a = none ∧ len = 0 ∧ cap = 0 ∧ zs = []) ∨
      ∃ x, a = some x ∧ len ≤ cap ∧ cap ≤ maxLen ∧ zs.length = cap ∧ (∀ i, i < zs.length → w.cell? (x.add i) = some (.int .u8 (zs.getD i 0))) ∧ ∀ n ∈ zs, (Lit.int .u8 n).wf = true := by
    rcases open_ints Tryd.underlying22 Tryd.underlying5 (by kernel_rfl) hf with ⟨hcs, _⟩ | ⟨x, l, c, zs, hcs, _, hl, hm, hz, _, hcell, hwz⟩
    · simp [Value.cells] at hcs
      obtain ⟨rfl, rfl, rfl⟩ := hcs
      exact ⟨[], .inl ⟨rfl, rfl, rfl, rfl⟩⟩
    · simp [Value.cells] at hcs
      obtain ⟨rfl, rfl, rfl⟩ := hcs
      exact ⟨zs, .inr ⟨_, rfl, hl, hm, by simpa using hz, hcell, hwz⟩⟩
  obtain ⟨zs, h⟩ := h
  obtain ⟨l, e, hr, hm, hw, hc⟩ := ReadsInt.ofRowC h
  exact ⟨l, e, Kd.C_of_reads (d := (0 : Int)) (h1 := fun _ => rfl) hr, hc, hm, hw⟩
end Go.Proofs.YtalghfnjelcpnaaDoor
namespace Go.Proofs.YtalghfnjelcpnaaDoor
open Go.RowKit
theorem gTab : Tryd.prog.globalNamed "incognito/sha.rounds" = some 0 := by kernel_rfl
theorem gTabType : (Tryd.prog.globals[0]?).map (·.type) = some 84 := by kernel_rfl
theorem cells84 : Tryd.prog.cellsOf 84 = 64 := by kernel_rfl
theorem cells28 : Tryd.prog.cellsOf 28 = 1 := by kernel_rfl
theorem rounds_of_laid {W : World} (h : laidMetH Tryd.prog Rows.shaPadsRow.laid W) : Rounds W := by
  have t : Lib.TabIs Tryd.prog W "incognito/sha.rounds" .u32 rs := Lib.tabIs_of_head (rest := []) gTab gTabType Tryd.underlying84 Tryd.underlying28 cells28 cells84 h
  intro i hi
  exact t.cell gTab i hi
end Go.Proofs.YtalghfnjelcpnaaDoor
namespace Go.Proofs.YtalghfnjelcpnaaDoor
open Go.ChangeShapes Go.WideShapes Go.ChangeAt Go.RowKit Go.WideMaps

section
variable {H : Type} {enc : TypeId × Value → H} {P : Program} {k e : TypeId} {n : Nat} {q : IntKind} {W : World} {base : Nat} {sp : Nat → Bool} {held : Bool}
theorem mapM_ints (he : P.underlying e = some (.int q)) {m : Nat} {cs : List Value} : ∀ (L : List Nat) (xs : List (DataW H × List MemPlace)),
    L.mapM (fun i => DataW.trod enc P W base sp held m e ((cs.drop (i * 1)).take 1)) = some xs →
    ∀ i ∈ L, ∃ a : Int, (cs.drop i).take 1 = [.int q a] ∧ (Lit.int q a).wf = true
  | [], xs, h => fun i hi => by cases hi
  | i :: L, xs, h => by
    rw [List.mapM_cons] at h
    simp only [bind, Option.bind_eq_some_iff, pure, Option.some.injEq] at h
    obtain ⟨y, hy, ys, hys, rfl⟩ := h
    obtain ⟨a, ea, _, wa⟩ := DataW.trod_int he hy
    rw [Nat.mul_one] at ea
    intro j hj
    rcases List.mem_cons.1 hj with rfl | hj
    · exact ⟨a, ea, wa⟩
    · exact mapM_ints he L ys hys j hj
theorem ints_of (cs : List Value) (q : IntKind) (n : Nat) (hn : cs.length = n) (h : ∀ i ∈ List.range n, ∃ a : Int, (cs.drop i).take 1 = [.int q a] ∧ (Lit.int q a).wf = true) :
    ∃ zs : List Int, cs = zs.map (Value.int q) ∧ zs.length = n ∧ ∀ z ∈ zs, (Lit.int q z).wf = true := by
  induction cs generalizing n with
  | nil => exact ⟨[], rfl, hn, fun z hz => by cases hz⟩
  | cons c r ih =>
    cases n with
    | zero => cases hn
    | succ n =>
      obtain ⟨a, ha, wa⟩ := h 0 (by simp)
      obtain rfl : c = .int q a := by simpa using ha
      obtain ⟨zs, hz, hl, hw⟩ := ih n (by simpa using hn) (fun i hi => by
        have h2 := h (i + 1) (by have := List.mem_range.1 hi; simp; omega)
        simpa using h2)
      refine ⟨a :: zs, by rw [hz]; rfl, by simp [hl], fun z hz => ?_⟩
      rcases List.mem_cons.1 hz with rfl | hz
      · exact wa
      · exact hw z hz
theorem open_ints_arr (A : ArrKey P k e n) (he : P.underlying e = some (.int q)) {xs : Array Value} (hn : xs.size = n) {fuel : Nat} {x : DataW H × List MemPlace} (hf : DataW.trod enc P W base sp held fuel k (Value.agg xs).cells.toList = some x) :
    ∃ zs : List Int, xs = (zs.map (Value.int q)).toArray ∧ zs.length = n ∧ ∀ z ∈ zs, (Lit.int q z).wf = true := by
  cases fuel with
  | zero => simp [DataW.trod] at hf
  | succ m =>
    rw [DataW.trod_step] at hf
    unfold DataW.trodStep at hf
    simp only [A.hu, Value.cells] at hf
    rw [if_pos (by rw [A.size]; simpa using hn)] at hf
    simp only [Option.map_eq_some_iff] at hf
    obtain ⟨ys, hy, e1⟩ := hf
    rw [A.one] at hy
    obtain ⟨zs, hz, hl, hw⟩ := ints_of xs.toList q n (by simpa using hn) (mapM_ints he _ ys hy)
    exact ⟨zs, by rw [← hz], hl, hw⟩
end
/-- Arrays of noughts. -/
def w29 : Value := .agg ((List.replicate 8 0).map (Value.int .u32)).toArray
def w30 : Value := .agg ((List.replicate 64 0).map (Value.int .u8)).toArray
def d29 {H : Type} : DataW H := .agg ((List.replicate 8 0).map fun z => .lit (.int .u32 z))
def d30 {H : Type} : DataW H := .agg ((List.replicate 64 0).map fun z => .lit (.int .u8 z))
theorem arr29 : ArrKey Tryd.prog 29 28 8 := ⟨Tryd.underlying29, by kernel_rfl, by kernel_rfl, by kernel_rfl⟩
theorem arr30 : ArrKey Tryd.prog 30 5 64 := ⟨Tryd.underlying30, by kernel_rfl, by kernel_rfl, by kernel_rfl⟩
end Go.Proofs.YtalghfnjelcpnaaDoor
namespace Go.Proofs.YtalghfnjelcpnaaDoor
open Go.ChangeShapes Go.WideShapes Go.ChangeAt Go.RowKit Go.Proofs.YtalghfnjelcpnaaDoorW.PrintWords
theorem bytes_open1 {H : Type} {enc : TypeId × Value → H} {w : World} {fuel : Nat} {v : Value} {x : DataW H × List MemPlace} (hf : DataW.trod enc Tryd.prog w 0 (fun _ => true) true fuel 22 [v] = some x) :
    ∃ (a : Option Addr) (l : List Int) (cap : Nat), v = .slice a l.length cap ∧ Kd.C (Kd.int .u8) w a l.length l ∧ l.length ≤ cap ∧ l.length ≤ maxLen ∧ ∀ n ∈ l, (Lit.int .u8 n).wf = true := by
  obtain ⟨a, len, cap, rfl⟩ : ∃ a len cap, v = .slice a len cap := by
    rcases open_ints Tryd.underlying22 Tryd.underlying5 (by kernel_rfl) hf with ⟨hcs, _⟩ | ⟨x, l, c, zs, hcs, _⟩
    · exact ⟨_, _, _, by simpa using hcs⟩
    · exact ⟨_, _, _, by simpa using hcs⟩
  obtain ⟨l, rfl, h1, h2, h3, h4⟩ := bytes_open (a := a) (len := len) (cap := cap) hf
  exact ⟨a, l, cap, rfl, h1, h2, h3, h4⟩
end Go.Proofs.YtalghfnjelcpnaaDoor
