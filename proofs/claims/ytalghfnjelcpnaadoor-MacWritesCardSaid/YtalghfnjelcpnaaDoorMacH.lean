/- mac.Same: what the call returns. No conditions but the bytes' bounds. -/
import Derived.Test.YtalghfnjelcpnaaDoorMa
import Derived.Laws.BitsLemmas
namespace Go.Proofs.YtalghfnjelcpnaaDoor
set_option linter.unusedVariables false
set_option linter.unusedSimpArgs false
open Go.RowKit Go.Proofs.YtalghfnjelcpnaaDoorW.PrintWords Go.Proofs.YtalghfnjelcpnaaDoor.Db

/-- What is unlike in the first k bytes. -/
def oq (l m : List Int) : Nat → Int
  | 0 => 0
  | k + 1 => Go.bits .or .u8 (oq l m k) (Go.bits .xor .u8 (l.getD k 0) (m.getD k 0))
theorem b8_getD {l : List Int} (h : B8s l) (k : Nat) : 0 ≤ l.getD k 0 ∧ l.getD k 0 < 256 := by
  have := h.at k
  exact ⟨this.1, by have := this.2; omega⟩
theorem xor_nil (b c : Nat) : b ^^^ c = 0 ↔ b = c := by
  constructor
  · intro h
    apply Nat.eq_of_testBit_eq
    intro i
    have := congrArg (fun x => x.testBit i) h
    simpa using this
  · rintro rfl
    exact Nat.xor_self b
theorem oq_step {x y z : Int} (hx : 0 ≤ x ∧ x < 256) (hy : 0 ≤ y ∧ y < 256) (hz : 0 ≤ z ∧ z < 256) :
    (0 ≤ Go.bits .or .u8 x (Go.bits .xor .u8 y z) ∧ Go.bits .or .u8 x (Go.bits .xor .u8 y z) < 256) ∧ (Go.bits .or .u8 x (Go.bits .xor .u8 y z) = 0 ↔ x = 0 ∧ y = z) := by
  obtain ⟨a, rfl, ha⟩ : ∃ a : Nat, x = a ∧ a < 2 ^ 8 := ⟨x.toNat, by omega, by omega⟩
  obtain ⟨b, rfl, hb⟩ : ∃ a : Nat, y = a ∧ a < 2 ^ 8 := ⟨y.toNat, by omega, by omega⟩
  obtain ⟨c, rfl, hc⟩ : ∃ a : Nat, z = a ∧ a < 2 ^ 8 := ⟨z.toNat, by omega, by omega⟩
  have hbc := Nat.xor_lt_two_pow hb hc
  rw [bits_xor_nat .u8 8 (by decide) wraps_u8 b c hb hc, (bits_nat .u8 8 (by decide) wraps_u8 a (b ^^^ c) ha hbc).2]
  have h1 := Nat.or_lt_two_pow ha hbc
  refine ⟨⟨by omega, by omega⟩, ?_⟩
  have h2 : a ||| (b ^^^ c) = 0 ↔ a = 0 ∧ b = c := by
    rw [Nat.or_eq_zero_iff, xor_nil]
  omega
theorem oq_b {l m : List Int} (hl : B8s l) (hm : B8s m) : ∀ k, (0 ≤ oq l m k ∧ oq l m k < 256) ∧ (oq l m k = 0 ↔ ∀ j, j < k → l.getD j 0 = m.getD j 0)
  | 0 => ⟨⟨by simp [oq], by simp [oq]⟩, by simp [oq]⟩
  | k + 1 => by
    have ih := oq_b hl hm k
    have h := oq_step ih.1 (b8_getD hl k) (b8_getD hm k)
    refine ⟨h.1, ?_⟩
    show Go.bits .or .u8 (oq l m k) (Go.bits .xor .u8 (l.getD k 0) (m.getD k 0)) = 0 ↔ _
    rw [h.2, ih.2]
    constructor
    · intro hh j hj
      rcases Nat.lt_or_ge j k with h1 | h1
      · exact hh.1 j h1
      · obtain rfl : j = k := by omega
        exact hh.2
    · intro hh
      exact ⟨fun j hj => hh j (by omega), hh k (by omega)⟩
theorem oq_all {l m : List Int} (hl : B8s l) (hm : B8s m) (h : l.length = m.length) : decide ([oq l m l.length] = [0]) = decide (l = m) := by
  apply decide_eq_decide.2
  rw [List.cons.injEq, (oq_b hl hm _).2]
  constructor
  · rintro ⟨hh, _⟩
    exact (getD_ext l m l.length rfl h.symm).1 fun i hi => hh i (List.mem_range.1 hi)
  · rintro rfl
    exact ⟨fun _ _ => rfl, rfl⟩
theorem eql98 (xs ys : List Int) (hx : xs.length = 1) (hy : ys.length = 1) (w : World) : (binOp .eql 98 (AV .u8 xs) (AV .u8 ys)).run Tryd.prog w = .ok (.bool (decide (xs = ys))) w :=
  binop_eql_av Tryd.underlying98 info5e.choose_spec (by kernel_rfl) Tryd.underlying5 xs ys hx hy w
theorem guard98 (o : BinOp) (x y : Operand) (xs ys : List Int) (w : World) : (eqGuard o 98 x y (AV .u8 xs) (AV .u8 ys)).run Tryd.prog w = .ok () w :=
  run_eqGuard_agg w o 98 x y _ _ (by kernel_rfl)
set_option maxHeartbeats 4000000 in
set_option maxRecDepth 100000 in
theorem mSame_any (A B : Option Addr) (ca cb : Nat) (l m : List Int) (w : World) (hl8 : B8s l) (hm8 : B8s m) (hA : Kd.C (Kd.int .u8) w A l.length l) (hB : Kd.C (Kd.int .u8) w B m.length m) :
    Calls Tryd.prog 45 #[.slice A l.length ca, .slice B m.length cb] w fun e w' => e = .returned (.bool (decide (l = m))) ∧ Below w.heap.size w w' := by
  obtain ⟨r, hr⟩ : ∃ r, decide (l = m) = r := ⟨_, rfl⟩
  rw [hr]
  have Hr := Aside0.mk hr
  have HA := Aside0.mk hA
  have HB := Aside0.mk hB
  have Hll := Aside0.mk hA.2.1
  by_cases hne : l.length = m.length
  · have d0 : ((l.length : Int) != m.length) = false := by simp; omega
    have Ho := Aside0.mk (oq_all hl8 hm8 hne)
    have Hne := Aside0.mk hne
    clear hr hA hB hl8 hm8 hne
    go_enter Tryd.func45, Tryd.ntmps45
    go_wp2
    have hX0 : Arr ((w.alloc (.cells ((List.replicate 1 0).map (Value.int .u8)).toArray 98)).alloc (.cells ((List.replicate 1 0).map (Value.int .u8)).toArray 98)) w.heap.size .u8 98 [oq l m 0] := (Arr.new_at (k := .u8) (T := 98) (xs := List.replicate 1 0) (w := w) rfl rfl).alloc _
    have hN0 : Arr ((w.alloc (.cells ((List.replicate 1 0).map (Value.int .u8)).toArray 98)).alloc (.cells ((List.replicate 1 0).map (Value.int .u8)).toArray 98)) (w.heap.size + 1) .u8 98 [0] := Arr.new_at (k := .u8) (T := 98) (xs := List.replicate 1 0) (World.size_alloc _ _) rfl
    have hB0 := two_al w (.cells ((List.replicate 1 0).map (Value.int .u8)).toArray 98) (.cells ((List.replicate 1 0).map (Value.int .u8)).toArray 98)
    go_loopw [15] (fun i wr => ∃ k : Nat, k ≤ l.length ∧ i = .int .i64 k ∧ Arr wr w.heap.size .u8 98 [oq l m k] ∧ Arr wr (w.heap.size + 1) .u8 98 [0] ∧ Below w.heap.size w wr)
      (fun i _ => l.length - (intOf i).toNat)
    case atStart => exact ⟨0, by omega, rfl, hX0, hN0, hB0⟩
    case round =>
      clear hX0 hN0 hB0
      obtain ⟨k, hk, rfl, hX, hN, hB⟩ := hrel
      by_cases hlt : k < l.length
      · obtain ⟨b1, o1, rfl, hb1, hc1⟩ := row_cells HA.out k hlt
        obtain ⟨b2, o2, rfl, hb2, hc2⟩ := row_cells HB.out k (by rw [← Hne.out]; exact hlt)
        obtain ⟨x, hx⟩ : ∃ x, oq l m k = x := ⟨_, rfl⟩
        obtain ⟨y, hy⟩ : ∃ x, l.getD k 0 = x := ⟨_, rfl⟩
        obtain ⟨z, hz⟩ : ∃ x, m.getD k 0 = x := ⟨_, rfl⟩
        have Hq := Aside0.mk (show oq l m (k + 1) = Go.bits .or .u8 x (Go.bits .xor .u8 y z) by rw [← hx, ← hy, ← hz]; rfl)
        rw [hx] at hX
        rw [hy] at hc1
        rw [hz] at hc2
        have k1 := (hB.cell (p := ⟨b1, o1 + k, none⟩) hb1).trans hc1
        have k2 := (hB.cell (p := ⟨b2, o2 + k, none⟩) hb2).trans hc2
        have k0 : wr.cell? ⟨w.heap.size, 0, none⟩ = some (.int .u8 x) := hX.cell (i := 0) Nat.one_pos
        have f0 := hX.free 0
        have d1 : (k : Int) < l.length := by omega
        have d2 : (k : Int) < m.length := by have := Hne.out; omega
        have wk : wrap64 ((k : Int) + 1) = ((k + 1 : Nat) : Int) := by
          have h9 := Hll.out
          rw [w64 (by omega) (by omega)]
          rfl
        have Hlt := Aside0.mk hlt
        clear hx hy hz hc1 hc2 hb1 hb2 hlt hk
        go_wp2
        go_still_tail 13, (by kernel_rfl)
        change wpList _ _ _ _ _ wr.drew
        have hX2 : Arr wr.drew w.heap.size .u8 98 [x] := hX
        have hN2 : Arr wr.drew (w.heap.size + 1) .u8 98 [0] := hN
        have hB2 : Below w.heap.size w wr.drew := pw_below_drewN hB 1
        clear hX hN hB f0 k0 k1 k2
        generalize wr.drew = w2 at *
        have k0 : w2.cell? ⟨w.heap.size, 0, none⟩ = some (.int .u8 x) := hX2.cell (i := 0) Nat.one_pos
        have f0 := hX2.free 0
        go_wp2
        go_roundw
        case rel =>
          refine ⟨k + 1, Hlt.out, by rw [wk], ?_, hN2.other 0 _ (by omega), hB2.setCell (Nat.le_refl _) _⟩
          rw [Hq.out]
          exact hX2.set 0 _
        case measure =>
          rw [wk]
          show l.length - (k + 1) < l.length - k
          exact Nat.sub_lt_sub_left Hlt.out (Nat.lt_succ_self k)
      · obtain rfl : k = l.length := by omega
        obtain ⟨x, hx⟩ : ∃ x, oq l m l.length = x := ⟨_, rfl⟩
        have Hx := Aside0.mk (show decide ([x] = [0]) = r by rw [← hx, Ho.out, Hr.out])
        rw [hx] at hX
        have q1 := eql98 [x] [0] rfl rfl
        rw [Hx.out] at q1
        have q2 := fun (o : BinOp) (u v : Operand) => guard98 o u v [x] [0]
        clear hx hk hlt
        go_wp2_with (first
          | (refine load_arr rfl 98 5 rfl w.heap.size rfl hX Tryd.underlying98 (by kernel_rfl) ?_)
          | (refine load_arr rfl 98 6 rfl (w.heap.size + 1) rfl hN Tryd.underlying98 (by kernel_rfl) ?_))
        go_ret
        exact ⟨rfl, hB⟩
  · have d0 : ((l.length : Int) != m.length) = true := by simp; omega
    have Hf := Aside0.mk (show false = r by rw [← hr, decide_eq_false (fun e => hne (by rw [e]))])
    clear hr hA hB hl8 hm8 hne
    go_enter Tryd.func45, Tryd.ntmps45
    go_wp2
    go_ret
    exact ⟨congrArg (fun x => Ending.returned (Value.bool x)) Hf.out, Below.refl _ _⟩
end Go.Proofs.YtalghfnjelcpnaaDoor
