/- ShaSums: what the call returns, for every bytes. Condition: the table 'rounds' holds what the program's text lays. -/
import Derived.Test.YtalghfnjelcpnaaDoorShaZ
import Derived.ChangeKeysEq
import Derived.Laws.StructEq
namespace Go.Proofs.YtalghfnjelcpnaaDoor
set_option linter.unusedVariables false
set_option linter.unusedSimpArgs false
open Go.RowKit Go.Proofs.YtalghfnjelcpnaaDoorW.PrintWords Go.Proofs.YtalghfnjelcpnaaDoor.Db

theorem args_C (w : World) (vs : List Value) (ps : List (List Int)) (hl : ps.length ≤ 9223372036854775807)
    (h : ∀ (i : Nat) (p : List Int), ps[i]? = some p → ∃ A c, vs[i]? = some (Value.slice A p.length c) ∧ p.length ≤ c ∧ Kd.C (Kd.int .u8) w A p.length p) :
    Kd.C (Kd.slice 5 (Kd.int .u8)) (w.alloc (.cells vs.toArray 22)) (some ⟨w.heap.size, 0, none⟩) ps.length ps :=
  rows_lit (row_new w _) hl fun i p hp => by
    obtain ⟨A, c, h1, h2, h3⟩ := h i p hp
    exact ⟨A, c, h1, h2, Kd.C_below h3 ((Below.refl _ w).alloc (Nat.le_refl _) _)⟩
theorem arg1_C (w : World) (A : Option Addr) (cap : Nat) (l : List Int) (hc : l.length ≤ cap) (hC : Kd.C (Kd.int .u8) w A l.length l) :
    Kd.C (Kd.slice 5 (Kd.int .u8)) (w.alloc (.cells #[.slice A l.length cap] 22)) (some ⟨w.heap.size, 0, none⟩) 1 [l] :=
  args_C w [.slice A l.length cap] [l] (show 1 ≤ 9223372036854775807 by decide) fun i p hp => by
    match i with
    | 0 =>
      obtain rfl : l = p := by simpa using hp
      exact ⟨A, cap, rfl, hc, hC⟩
    | i + 1 => simp at hp
theorem eqItems_av {P : Program} (w : World) (d : Nat) (e : TypeId) (k : IntKind) (he : P.underlying e = some (.int k)) (xs ys : List Int) : ∀ (is : List Nat), (∀ i ∈ is, i < xs.length ∧ i < ys.length) →
    (Op.eqItems (d + 1) e 1 (xs.map (Value.int k)).toArray (ys.map (Value.int k)).toArray is).run P w = .ok (decide (∀ i ∈ is, xs.getD i 0 = ys.getD i 0)) w
  | [], _ => by simp [Op.eqItems]
  | i :: is, h => by
    have hp : P.plainKey e = true := by simp [Program.plainKey, he]
    have h1 := (h i List.mem_cons_self).1
    have h2 := (h i List.mem_cons_self).2
    have p1 : (part e (xs.map (Value.int k)).toArray (i * 1)).run P w = .ok (.int k (xs.getD i 0)) w := run_part_plain w hp (by rw [Nat.mul_one]; simp [h1, List.getD_eq_getElem?_getD, List.getElem?_eq_getElem h1])
    have p2 : (part e (ys.map (Value.int k)).toArray (i * 1)).run P w = .ok (.int k (ys.getD i 0)) w := run_part_plain w hp (by rw [Nat.mul_one]; simp [h2, List.getD_eq_getElem?_getD, List.getElem?_eq_getElem h2])
    have ih := eqItems_av w d e k he xs ys is (fun j hj => h j (List.mem_cons_of_mem _ hj))
    simp only [Op.eqItems, Sem.run_bind, p1, p2, run_equalIn_int w d e k k _ _ he, Result.andThen_ok]
    by_cases c : xs.getD i 0 = ys.getD i 0
    · rw [show (xs.getD i 0 == ys.getD i 0) = true by simpa using c]
      simp only [Bool.not_true, Bool.false_eq_true, if_false]
      rw [ih]
      congr 1
      exact decide_eq_decide.2 ⟨fun h => List.forall_mem_cons.2 ⟨c, h⟩, fun h => (List.forall_mem_cons.1 h).2⟩
    · rw [show (xs.getD i 0 == ys.getD i 0) = false by simpa using c]
      simp only [Bool.not_false, if_true, Sem.run_pure]
      rw [decide_eq_false (fun h => c (h i List.mem_cons_self))]
theorem getD_ext (xs ys : List Int) (n : Nat) (hx : xs.length = n) (hy : ys.length = n) : (∀ i ∈ List.range n, xs.getD i 0 = ys.getD i 0) ↔ xs = ys := by
  constructor
  · intro h
    apply List.ext_getElem?
    intro i
    rcases Nat.lt_or_ge i n with hi | hi
    · have := h i (List.mem_range.2 hi)
      simp only [List.getD_eq_getElem?_getD, List.getElem?_eq_getElem (show i < xs.length by omega), List.getElem?_eq_getElem (show i < ys.length by omega), Option.getD_some] at this ⊢
      rw [this]
    · rw [List.getElem?_eq_none (by omega), List.getElem?_eq_none (by omega)]
  · rintro rfl i _; rfl
theorem equal_av {P : Program} (w : World) {t e : TypeId} {n : Nat} {k : IntKind} {i : TypeInfo} (hu : P.underlying t = some (.array n e)) (hi : P.info? e = some i) (hc : P.cellsOf e = 1) (he : P.underlying e = some (.int k)) (xs ys : List Int) (hx : xs.length = n) (hy : ys.length = n) :
    (Op.equalIn 10000 t (AV k xs) (AV k ys)).run P w = .ok (decide (xs = ys)) w := by
  rw [show (10000 : Nat) = 9999 + 1 from rfl, AV, AV, run_equalIn_array w 9999 _ _ hu hi, hc, eqItems_av w 9998 e k he xs ys _ (fun j hj => by have := List.mem_range.1 hj; omega)]
  congr 1
  simp only [getD_ext xs ys n hx hy]
theorem binop_eql_av {P : Program} {t e : TypeId} {n : Nat} {k : IntKind} {i : TypeInfo} (hu : P.underlying t = some (.array n e)) (hi : P.info? e = some i) (hc : P.cellsOf e = 1) (he : P.underlying e = some (.int k)) (xs ys : List Int) (hx : xs.length = n) (hy : ys.length = n) (w : World) :
    (binOp .eql t (AV k xs) (AV k ys)).run P w = .ok (.bool (decide (xs = ys))) w := by
  have h := equal_av w hu hi hc he xs ys hx hy
  unfold AV at h ⊢
  rw [run_eql_struct, h, Result.andThen_ok]
theorem binop_neq_av {P : Program} {t e : TypeId} {n : Nat} {k : IntKind} {i : TypeInfo} (hu : P.underlying t = some (.array n e)) (hi : P.info? e = some i) (hc : P.cellsOf e = 1) (he : P.underlying e = some (.int k)) (xs ys : List Int) (hx : xs.length = n) (hy : ys.length = n) (w : World) :
    (binOp .neq t (AV k xs) (AV k ys)).run P w = .ok (.bool (!decide (xs = ys))) w := by
  have h := equal_av w hu hi hc he xs ys hx hy
  unfold AV at h ⊢
  rw [run_neq_struct, h, Result.andThen_ok]
theorem info5e : ∃ i, Tryd.prog.info? 5 = some i := by
  have h := info5d
  cases hh : Tryd.prog.info? 5 with
  | none => rw [hh] at h; cases h
  | some i => exact ⟨i, rfl⟩
theorem eql24 (xs ys : List Int) (hx : xs.length = 32) (hy : ys.length = 32) (w : World) : (binOp .eql 24 (AV .u8 xs) (AV .u8 ys)).run Tryd.prog w = .ok (.bool (decide (xs = ys))) w :=
  binop_eql_av Tryd.underlying24 info5e.choose_spec (by kernel_rfl) Tryd.underlying5 xs ys hx hy w
theorem eql30 (xs ys : List Int) (hx : xs.length = 64) (hy : ys.length = 64) (w : World) : (binOp .eql 30 (AV .u8 xs) (AV .u8 ys)).run Tryd.prog w = .ok (.bool (decide (xs = ys))) w :=
  binop_eql_av Tryd.underlying30 info5e.choose_spec (by kernel_rfl) Tryd.underlying5 xs ys hx hy w
theorem neq30 (xs ys : List Int) (hx : xs.length = 64) (hy : ys.length = 64) (w : World) : (binOp .neq 30 (AV .u8 xs) (AV .u8 ys)).run Tryd.prog w = .ok (.bool (!decide (xs = ys))) w :=
  binop_neq_av Tryd.underlying30 info5e.choose_spec (by kernel_rfl) Tryd.underlying5 xs ys hx hy w
theorem guard24 (o : BinOp) (x y : Operand) (xs ys : List Int) (w : World) : (eqGuard o 24 x y (AV .u8 xs) (AV .u8 ys)).run Tryd.prog w = .ok () w :=
  run_eqGuard_agg w o 24 x y _ _ (by kernel_rfl)
theorem guard30 (o : BinOp) (x y : Operand) (xs ys : List Int) (w : World) : (eqGuard o 30 x y (AV .u8 xs) (AV .u8 ys)).run Tryd.prog w = .ok () w :=
  run_eqGuard_agg w o 30 x y _ _ (by kernel_rfl)
set_option maxHeartbeats 4000000 in
set_option maxRecDepth 100000 in
theorem sums_any (A : Option Addr) (cap : Nat) (l : List Int) (w : World) (hR : Rounds w) (hb8 : B8s l) (hC : Kd.C (Kd.int .u8) w A l.length l) (hc : l.length ≤ cap) :
    Calls Tryd.prog 3 #[.slice A l.length cap] w fun e w' => e = .returned (.bool true) ∧ Below w.heap.size w w' := by
  have HR := Aside0.mk hR
  have hpos := Aside0.mk hR.pos
  have HC := Aside0.mk hC
  have Hc := Aside0.mk hc
  have Hb := Aside0.mk hb8
  by_cases h : 1000 < l.length
  · clear hR hC hc hb8
    have d1 : decide (1000 < (l.length : Int)) = true := by simp; omega
    go_enter Tryd.func3, Tryd.ntmps3
    go_wp2_with (first
      | (go_at_call 20; refine (wakes3_any _ HR.out).mono ?_; rintro e w1 ⟨rfl, hB⟩))
    go_ret
    exact ⟨rfl, hB⟩
  · have d1 : decide (1000 < (l.length : Int)) = false := by simp; omega
    have Hl := Aside0.mk (show l.length ≤ 1000 by omega)
    obtain ⟨ys, hys⟩ : ∃ ys, sumL l = ys := ⟨_, rfl⟩
    have hyl : ys.length = 32 := by rw [← hys]; exact sumL_len _
    have q1 := eql24 ys ys hyl hyl
    rw [decide_eq_true rfl] at q1
    have q2 := fun (o : BinOp) (x y : Operand) => guard24 o x y ys ys
    clear hyl
    have Hys := Aside0.mk hys
    clear hR hC hc hb8 hys
    go_enter Tryd.func3, Tryd.ntmps3
    go_wp2_with (first
      | (go_at_call 20; refine (wakes3_any _ HR.out).mono ?_; rintro e w1 ⟨rfl, hB⟩)
      | (go_at_call 21; refine (SSum_any (some ⟨w1.heap.size, 0, none⟩) 1 [l] _ ((HR.out.below hB hpos.out).below ((Below.refl _ _).alloc (Nat.le_refl _) _) (Nat.lt_of_lt_of_le hpos.out hB.size)) (arg1_C w1 A cap l Hc.out (Kd.C_below HC.out hB)) (by have := Hl.out; simp; omega)).mono ?_; rintro e w2 ⟨rfl, hb2⟩; rw [List.flatten_singleton, Hys.out]; have hB2 := (hB.alloc hB.size _).trans (hb2.mono (by rw [World.size_alloc]; have := hB.size; omega)); clear hb2)
      | (go_at_call 22; refine (refSum_any A cap l _ Hb.out (Kd.C_below HC.out hB2) (by have := Hl.out; omega)).mono ?_; rintro e w3 ⟨rfl, hb3⟩; rw [Hys.out]; replace hB2 := hB2.trans (hb3.mono hB2.size); clear hb3))
    go_ret
    exact ⟨rfl, hB2⟩
end Go.Proofs.YtalghfnjelcpnaaDoor
