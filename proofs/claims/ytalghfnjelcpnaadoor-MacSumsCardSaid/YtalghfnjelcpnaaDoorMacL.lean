/- MacSums: what the call returns, for every key and bytes. Condition: the table 'rounds' holds what the program's text lays. -/
import Derived.Test.YtalghfnjelcpnaaDoorMacI
import Derived.Test.YtalghfnjelcpnaaDoorMacK
namespace Go.Proofs.YtalghfnjelcpnaaDoor
set_option linter.unusedVariables false
set_option linter.unusedSimpArgs false
open Go.RowKit Go.Proofs.YtalghfnjelcpnaaDoorW.PrintWords Go.Proofs.YtalghfnjelcpnaaDoor.Db

set_option maxHeartbeats 4000000 in
set_option maxRecDepth 100000 in
theorem macSums_any (A B : Option Addr) (ca cb : Nat) (l m : List Int) (w : World) (hR : Rounds w) (hl8 : B8s l) (hm8 : B8s m) (hA : Kd.C (Kd.int .u8) w A l.length l) (ha : l.length ≤ ca) (hB : Kd.C (Kd.int .u8) w B m.length m) (hb : m.length ≤ cb) :
    Calls Tryd.prog 10 #[.slice A l.length ca, .slice B m.length cb] w fun e w' => e = .returned (.bool true) ∧ Below w.heap.size w w' := by
  have HR := Aside0.mk hR
  have hpos := Aside0.mk hR.pos
  have HA := Aside0.mk hA
  have HB := Aside0.mk hB
  have Ha := Aside0.mk ha
  have Hb := Aside0.mk hb
  have Hl8 := Aside0.mk hl8
  have Hm8 := Aside0.mk hm8
  clear hR hA hB ha hb hl8 hm8
  obtain ⟨g, hg⟩ : ∃ g, gr [l, m] = g := ⟨_, rfl⟩
  have Hg := Aside0.mk hg
  obtain ⟨ys, hys⟩ : ∃ ys, macL l m = ys := ⟨_, rfl⟩
  have hyl : ys.length = 32 := by rw [← hys]; exact macL_len _ _
  have q1 := eql24 ys ys hyl hyl
  rw [decide_eq_true rfl] at q1
  have q2 := fun (o : BinOp) (x y : Operand) => guard24 o x y ys ys
  have Hys := Aside0.mk hys
  have Hys2 := Aside0.mk (show macL l ([m] : List (List Int)).flatten = ys by rw [List.flatten_singleton, hys])
  clear hyl hys
  cases g with
  | true =>
    clear hg
    go_enter Tryd.func10, Tryd.ntmps10
    go_wp2_with (first
      | (go_at_call 37; refine (wakes4_any _ HR.out).mono ?_; rintro e w1 ⟨rfl, hB1⟩)
      | (go_at_call 38; refine (great4_any (some ⟨w1.heap.size, 0, none⟩) 2 [l, m] _ (arg2m_C w1 A B ca cb l m Ha.out Hb.out (Kd.C_below HA.out hB1) (Kd.C_below HB.out hB1))).mono ?_; rintro e w2 ⟨rfl, rfl⟩; rw [Hg.out]))
    go_ret
    exact ⟨rfl, hB1.alloc hB1.size _⟩
  | false =>
    have Hll := Aside0.mk (show l.length ≤ 300 from (gr_le hg).1 l List.mem_cons_self)
    have Hml := Aside0.mk (show m.length ≤ 300 from (gr_le hg).1 m (List.mem_cons_of_mem _ List.mem_cons_self))
    clear hg
    go_enter Tryd.func10, Tryd.ntmps10
    go_wp2_with (first
      | (go_at_call 37; refine (wakes4_any _ HR.out).mono ?_; rintro e w1 ⟨rfl, hB1⟩)
      | (go_at_call 38; refine (great4_any (some ⟨w1.heap.size, 0, none⟩) 2 [l, m] _ (arg2m_C w1 A B ca cb l m Ha.out Hb.out (Kd.C_below HA.out hB1) (Kd.C_below HB.out hB1))).mono ?_; rintro e w2 ⟨rfl, rfl⟩; rw [Hg.out]; have HB2 := Aside0.mk (hB1.alloc hB1.size (.cells #[.slice A l.length ca, .slice B m.length cb] 22)); obtain ⟨w3, hw3⟩ : ∃ w3, w1.alloc (.cells #[.slice A l.length ca, .slice B m.length cb] 22) = w3 := ⟨_, rfl⟩; rw [hw3] at HB2; rw [hw3]; have HB3 := Aside0.mk (HB2.out.alloc HB2.out.size (.cells #[.slice B m.length cb] 22)); clear hw3)
      | (go_at_call 39; refine (MSum_any A ca l (some ⟨w3.heap.size, 0, none⟩) 1 [m] _ (HR.out.below HB3.out hpos.out) (Kd.C_below HA.out HB3.out) Ha.out (by have := Hll.out; omega) (arg1_C w3 B cb m Hb.out (Kd.C_below HB.out HB2.out)) (by rw [List.flatten_singleton]; have := Hml.out; omega)).mono ?_; rintro e w4 ⟨rfl, hb4⟩; rw [Hys2.out]; have hB4 := HB3.out.trans (hb4.mono HB3.out.size); clear hb4)
      | (go_at_call 40; refine (rMSum_any A B ca cb l m _ Hl8.out Hm8.out (Kd.C_below HA.out hB4) Ha.out (by have := Hll.out; omega) (Kd.C_below HB.out hB4) (by have := Hml.out; omega)).mono ?_; rintro e w5 ⟨rfl, hb5⟩; rw [Hys.out]; have hB5 := hB4.trans (hb5.mono hB4.size); clear hb5))
    go_ret
    exact ⟨rfl, hB5⟩
end Go.Proofs.YtalghfnjelcpnaaDoor
