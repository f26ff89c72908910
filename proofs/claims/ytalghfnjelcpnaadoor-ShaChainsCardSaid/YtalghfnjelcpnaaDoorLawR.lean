/- What the laws' rows share, more: an array of numbers, opened. No conditions. -/
import Derived.Test.YtalghfnjelcpnaaDoorLawP
import Derived.WideKeyArr2
namespace Go.Proofs.YtalghfnjelcpnaaDoor
open Go.ChangeShapes Go.WideShapes Go.ChangeAt Go.RowKit Go.WideMaps

section
variable {H : Type} {enc : TypeId × Value → H} {P : Program} {k e : TypeId} {n : Nat} {q : IntKind} {W : World} {base : Nat} {sp : Nat → Bool} {held : Bool}
theorem mapM_ints (he : P.underlying e = some (.int q)) {m : Nat} {cs : List Value} : ∀ (L : List Nat) (xs : List (DataW H × List MemPlace)),
    L.mapM (fun i => DataW.trod enc P W base sp held m e ((cs.drop (i * 1)).take 1)) = some xs →
    ∀ i ∈ L, ∃ a : Int, (cs.drop i).take 1 = [.int q a] ∧ (Lit.int q a).wf = true
  | [], xs, h => fun i hi => by cases hi
  | i :: L, xs, h => by
    rw [List.mapM_cons] at h
    simp only [bind, Option.bind_eq_some_iff, pure, Option.some.injEq] at h
    obtain ⟨y, hy, ys, hys, rfl⟩ := h
    obtain ⟨a, ea, _, wa⟩ := DataW.trod_int he hy
    rw [Nat.mul_one] at ea
    intro j hj
    rcases List.mem_cons.1 hj with rfl | hj
    · exact ⟨a, ea, wa⟩
    · exact mapM_ints he L ys hys j hj
theorem ints_of (cs : List Value) (q : IntKind) (n : Nat) (hn : cs.length = n) (h : ∀ i ∈ List.range n, ∃ a : Int, (cs.drop i).take 1 = [.int q a] ∧ (Lit.int q a).wf = true) :
    ∃ zs : List Int, cs = zs.map (Value.int q) ∧ zs.length = n ∧ ∀ z ∈ zs, (Lit.int q z).wf = true := by
  induction cs generalizing n with
  | nil => exact ⟨[], rfl, hn, fun z hz => by cases hz⟩
  | cons c r ih =>
    cases n with
    | zero => cases hn
    | succ n =>
      obtain ⟨a, ha, wa⟩ := h 0 (by simp)
      obtain rfl : c = .int q a := by simpa using ha
      obtain ⟨zs, hz, hl, hw⟩ := ih n (by simpa using hn) (fun i hi => by
        have h2 := h (i + 1) (by have := List.mem_range.1 hi; simp; omega)
        simpa using h2)
      refine ⟨a :: zs, by rw [hz]; rfl, by simp [hl], fun z hz => ?_⟩
      rcases List.mem_cons.1 hz with rfl | hz
      · exact wa
      · exact hw z hz
theorem open_ints_arr (A : ArrKey P k e n) (he : P.underlying e = some (.int q)) {xs : Array Value} (hn : xs.size = n) {fuel : Nat} {x : DataW H × List MemPlace} (hf : DataW.trod enc P W base sp held fuel k (Value.agg xs).cells.toList = some x) :
    ∃ zs : List Int, xs = (zs.map (Value.int q)).toArray ∧ zs.length = n ∧ ∀ z ∈ zs, (Lit.int q z).wf = true := by
  cases fuel with
  | zero => simp [DataW.trod] at hf
  | succ m =>
    rw [DataW.trod_step] at hf
    unfold DataW.trodStep at hf
    simp only [A.hu, Value.cells] at hf
    rw [if_pos (by rw [A.size]; simpa using hn)] at hf
    simp only [Option.map_eq_some_iff] at hf
    obtain ⟨ys, hy, e1⟩ := hf
    rw [A.one] at hy
    obtain ⟨zs, hz, hl, hw⟩ := ints_of xs.toList q n (by simpa using hn) (mapM_ints he _ ys hy)
    exact ⟨zs, by rw [← hz], hl, hw⟩
end
/-- Arrays of noughts. -/
def w29 : Value := .agg ((List.replicate 8 0).map (Value.int .u32)).toArray
def w30 : Value := .agg ((List.replicate 64 0).map (Value.int .u8)).toArray
def d29 {H : Type} : DataW H := .agg ((List.replicate 8 0).map fun z => .lit (.int .u32 z))
def d30 {H : Type} : DataW H := .agg ((List.replicate 64 0).map fun z => .lit (.int .u8 z))
theorem arr29 : ArrKey Tryd.prog 29 28 8 := ⟨Tryd.underlying29, by kernel_rfl, by kernel_rfl, by kernel_rfl⟩
theorem arr30 : ArrKey Tryd.prog 30 5 64 := ⟨Tryd.underlying30, by kernel_rfl, by kernel_rfl, by kernel_rfl⟩
end Go.Proofs.YtalghfnjelcpnaaDoor
