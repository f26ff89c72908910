/- Words of 32 bits and numbers of 64: bit by bit the same; a word turned. No conditions. -/
import Derived.Test.YtalghfnjelcpnaaDoorSa
import Derived.Test.YtalghfnjelcpnaaDoorTr1
import Derived.Laws.BitsLemmas
namespace Go.Proofs.YtalghfnjelcpnaaDoor
open Go.RowKit Go.Proofs.YtalghfnjelcpnaaDoorW.PrintWords Go.Proofs.YtalghfnjelcpnaaDoorW.PrintMore

/-- A word. -/
def W32 (x : Int) : Prop := 0 ≤ x ∧ x < 4294967296
theorem u32w (n : Int) (h0 : 0 ≤ n) (h1 : n < 2 ^ 32) : IntKind.u32.wrap n = n := by show n % 4294967296 = n; exact Int.emod_eq_of_lt h0 h1
theorem u64w (n : Int) (h0 : 0 ≤ n) (h1 : n < 2 ^ 32) : IntKind.u64.wrap n = n := by show n % 18446744073709551616 = n; exact Int.emod_eq_of_lt h0 (Int.lt_trans h1 (by decide))
theorem bits_xor_nat (k : IntKind) (j : Nat) (hj : j ≤ k.bits) (hk : ∀ n : Int, 0 ≤ n → n < 2 ^ j → k.wrap n = n) (a b : Nat) (ha : a < 2 ^ j) (hb : b < 2 ^ j) : Go.bits .xor k a b = ((a ^^^ b : Nat) : Int) := by
  have hp : 2 ^ j ≤ 2 ^ k.bits := Nat.pow_le_pow_right (by decide) hj
  have ha' : a % 2 ^ k.bits = a := Nat.mod_eq_of_lt (Nat.lt_of_lt_of_le ha hp)
  have hb' : b % 2 ^ k.bits = b := Nat.mod_eq_of_lt (Nat.lt_of_lt_of_le hb hp)
  have cast : ∀ n : Nat, n < 2 ^ j → ((n : Nat) : Int) < 2 ^ j := fun n h => by exact_mod_cast h
  simp only [Go.bits, BitVec.ofInt_natCast, BitVec.toNat_xor, BitVec.toNat_ofNat, ha', hb']
  exact hk _ (Int.natCast_nonneg _) (cast _ (Nat.xor_lt_two_pow ha hb))
theorem w32_nat {x : Int} (h : W32 x) : ∃ a : Nat, x = a ∧ a < 2 ^ 32 := ⟨x.toNat, by have := h.1; omega, by have := h.1; have := h.2; omega⟩
theorem and64 {a b : Int} (ha : W32 a) (hb : W32 b) : Go.bits .and .u64 a b = Go.bits .and .u32 a b ∧ W32 (Go.bits .and .u32 a b) := by
  obtain ⟨x, rfl, hx⟩ := w32_nat ha
  obtain ⟨y, rfl, hy⟩ := w32_nat hb
  rw [(bits_nat .u64 32 (by decide) u64w x y hx hy).1, (bits_nat .u32 32 (by decide) u32w x y hx hy).1]
  have := Nat.and_lt_two_pow x hy
  exact ⟨rfl, by unfold W32; omega⟩
theorem or64 {a b : Int} (ha : W32 a) (hb : W32 b) : Go.bits .or .u64 a b = Go.bits .or .u32 b a ∧ W32 (Go.bits .or .u32 b a) := by
  obtain ⟨x, rfl, hx⟩ := w32_nat ha
  obtain ⟨y, rfl, hy⟩ := w32_nat hb
  rw [(bits_nat .u64 32 (by decide) u64w x y hx hy).2, (bits_nat .u32 32 (by decide) u32w y x hy hx).2, Nat.or_comm]
  have := Nat.or_lt_two_pow hy hx
  exact ⟨rfl, by unfold W32; omega⟩
theorem xor64 {a b : Int} (ha : W32 a) (hb : W32 b) : Go.bits .xor .u64 a b = Go.bits .xor .u32 a b ∧ W32 (Go.bits .xor .u32 a b) := by
  obtain ⟨x, rfl, hx⟩ := w32_nat ha
  obtain ⟨y, rfl, hy⟩ := w32_nat hb
  rw [bits_xor_nat .u64 32 (by decide) u64w x y hx hy, bits_xor_nat .u32 32 (by decide) u32w x y hx hy]
  have := Nat.xor_lt_two_pow hx hy
  exact ⟨rfl, by unfold W32; omega⟩
theorem not32 {a : Int} (ha : W32 a) : Go.bits .xor .u32 (if IntKind.u32.signed = true then -1 else IntKind.u32.max) a = 4294967295 - a ∧ W32 (4294967295 - a) := by
  obtain ⟨x, rfl, hx⟩ := w32_nat ha
  have e : (if IntKind.u32.signed = true then (-1 : Int) else IntKind.u32.max) = ((4294967295 : Nat) : Int) := by decide
  rw [e, bits_xor_nat .u32 32 (by decide) u32w 4294967295 x (by decide) hx]
  have h1 : 4294967295 ^^^ x = 4294967295 - x := by
    have h := congrArg BitVec.toNat (BitVec.allOnes_xor (x := BitVec.ofNat 32 x))
    simp only [BitVec.toNat_xor, BitVec.toNat_allOnes, BitVec.toNat_not, BitVec.toNat_ofNat, Nat.mod_eq_of_lt hx] at h
    exact h
  rw [h1]
  exact ⟨by omega, by unfold W32; omega⟩
theorem tn_w (x : Int) (n : Nat) (hx : W32 x) (h0 : 0 < n) (h1 : n < 32) : W32 (tn x n) ∧ Tr.incognitoref03_turned.f x n = some (tn x n) := by
  have hq : W32 (x / 2 ^ n) := ⟨Int.ediv_nonneg hx.1 (Int.le_of_lt (Int.pow_pos (by decide))), Int.lt_of_le_of_lt (Int.ediv_le_self _ hx.1) hx.2⟩
  have hy0 : 0 ≤ x * 2 ^ (32 - n) := Int.mul_nonneg hx.1 (Int.le_of_lt (Int.pow_pos (by decide)))
  have hm : W32 (IntKind.u32.wrap (x * 2 ^ (32 - n))) := by
    show W32 (x * 2 ^ (32 - n) % 4294967296)
    generalize x * 2 ^ (32 - n) = y
    unfold W32
    omega
  have ho := or64 hq hm
  refine ⟨ho.2, ?_⟩
  unfold Tr.incognitoref03_turned.f
  have e1 : IntKind.u64.wrap (32 - (n : Int)) = ((32 - n : Nat) : Int) := by
    rw [show (32 : Int) - n = ((32 - n : Nat) : Int) by omega]
    exact u64w _ (by omega) (by have : 32 - n < 32 := by omega
                                exact Int.lt_trans (show ((32 - n : Nat) : Int) < 32 by omega) (by decide))
  rw [if_pos (by omega), e1, if_pos (by omega)]
  have s1 : shl .u64 x ((32 - n : Nat) : Int) = IntKind.u64.wrap (x * 2 ^ (32 - n)) := by
    have := shl_small (k := .u64) (x := x) (y := ((32 - n : Nat) : Int)) rfl
    exact (this (by show ((32 - n : Nat) : Int) ≤ 64; omega)).symm
  have s2 : shr .u64 x (n : Int) = x / 2 ^ n := by
    have := shr_small (k := .u64) (x := x) (y := (n : Int)) rfl
    exact (this (by show (n : Int) ≤ 64; omega)).symm
  have e2 : Int.tmod (IntKind.u64.wrap (x * 2 ^ (32 - n))) 4294967296 = IntKind.u32.wrap (x * 2 ^ (32 - n)) := by
    show Int.tmod (x * 2 ^ (32 - n) % 18446744073709551616) 4294967296 = x * 2 ^ (32 - n) % 4294967296
    generalize x * 2 ^ (32 - n) = y at hy0
    rw [Int.tmod_eq_emod_of_nonneg (by omega)]
    omega
  rw [s1, s2, e2, ho.1]
  rfl
theorem turned_any (x : Int) (n : Nat) (hx : W32 x) (h0 : 0 < n) (h1 : n < 32) (w : World) : Calls Tryd.prog 58 #[.int .u64 x, .int .u64 n] w fun e w' => e = .returned (.int .u64 (tn x n)) ∧ w' = w :=
  (Tr.incognitoref03_turned.calls x n _ w (tn_w x n hx h0 h1).2).mono fun _ _ h => ⟨h.1, h.2.symm⟩
theorem right_any (x : Int) (a b : Nat) (hx : W32 x) (h0 : 0 < a) (h1 : a < 32) (h2 : 0 < b) (h3 : b < 32) (w : World) : Calls Tryd.prog 56 #[.int .u64 x, .int .u64 a, .int .u64 b] w fun e w' => e = .returned (.int .u64 (Go.bits .xor .u32 (tn x a) (tn x b))) ∧ w' = w := by
  have ea := tn_w x a hx h0 h1
  have eb := tn_w x b hx h2 h3
  refine (Tr.incognitoref03_right.calls x a b _ w ?_).mono fun _ _ h => ⟨h.1, h.2.symm⟩
  unfold Tr.incognitoref03_right.f
  rw [ea.2, eb.2, ← (xor64 ea.1 eb.1).1]
  rfl
end Go.Proofs.YtalghfnjelcpnaaDoor
