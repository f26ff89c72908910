/- MacWrites: what the call returns, for every key and every two texts. Condition: the table 'rounds' holds what the program's text lays. -/
import Derived.Test.YtalghfnjelcpnaaDoorMacP
namespace Go.Proofs.YtalghfnjelcpnaaDoor
set_option linter.unusedVariables false
set_option linter.unusedSimpArgs false
open Go.RowKit Go.Proofs.YtalghfnjelcpnaaDoorW.PrintWords Go.Proofs.YtalghfnjelcpnaaDoor.Db

theorem byte4_row (w : World) (x : Int) (g : Nat) (hg : g < w.heap.size) : ∀ i, i < [x].length → ∃ b o, (some (⟨w.heap.size, 0, none⟩ : Addr)) = some ⟨b, o, none⟩ ∧ b ≠ g ∧ b < (w.alloc (.cells #[.int .u8 x] 5)).heap.size ∧ (w.alloc (.cells #[.int .u8 x] 5)).cell? ⟨b, o + i, none⟩ = some (.int .u8 ([x].getD i 0)) := fun i hi => by
  obtain rfl : i = 0 := by simpa using hi
  refine ⟨w.heap.size, 0, rfl, by omega, by rw [World.size_alloc]; omega, ?_⟩
  have h := (Arr.new w .u8 5 [x]).cell (i := 0) (by simp)
  exact h
theorem arg3w_C (w : World) (A B C : Option Addr) (ca cb cc : Nat) (a b c : List Int) (h1 : a.length ≤ ca) (h2 : b.length ≤ cb) (h3 : c.length ≤ cc) (hA : Kd.C (Kd.int .u8) w A a.length a) (hB : Kd.C (Kd.int .u8) w B b.length b) (hC : Kd.C (Kd.int .u8) w C c.length c) :
    Kd.C (Kd.slice 5 (Kd.int .u8)) (w.alloc (.cells #[.slice A a.length ca, .slice B b.length cb, .slice C c.length cc] 22)) (some ⟨w.heap.size, 0, none⟩) 3 [a, b, c] :=
  args_C w [.slice A a.length ca, .slice B b.length cb, .slice C c.length cc] [a, b, c] (show 3 ≤ 9223372036854775807 by decide) fun i p hp => by
    match i with
    | 0 =>
      obtain rfl : a = p := by simpa using hp
      exact ⟨A, ca, rfl, h1, hA⟩
    | 1 =>
      obtain rfl : b = p := by simpa using hp
      exact ⟨B, cb, rfl, h2, hB⟩
    | 2 =>
      obtain rfl : c = p := by simpa using hp
      exact ⟨C, cc, rfl, h3, hC⟩
    | i + 3 => simp at hp
theorem mac_dig (l m : List Int) : sumL (wit (blk l) 92 ++ dig ((dgOf (blk l)).all m)) = macL l m := rfl
set_option maxHeartbeats 4000000 in
set_option maxRecDepth 100000 in
theorem macWrites_any (A B C : Option Addr) (ca cb cc : Nat) (l la lb : List Int) (w : World) (hR : Rounds w) (hl8 : B8s l) (ha8 : B8s la) (hA : Kd.C (Kd.int .u8) w A l.length l) (hca : l.length ≤ ca) (hB : Kd.C (Kd.int .u8) w B la.length la) (hcb : la.length ≤ cb) (hC : Kd.C (Kd.int .u8) w C lb.length lb) (hcc : lb.length ≤ cc) :
    Calls Tryd.prog 13 #[.slice A l.length ca, .slice B la.length cb, .slice C lb.length cc] w fun e w' => e = .returned (.bool true) ∧ Below w.heap.size w w' := by
  have HR := Aside0.mk hR
  have hpos := Aside0.mk hR.pos
  have HA := Aside0.mk hA
  have HB := Aside0.mk hB
  have HC := Aside0.mk hC
  have Hca := Aside0.mk hca
  have Hcb := Aside0.mk hcb
  have Hcc := Aside0.mk hcc
  have Hl8 := Aside0.mk hl8
  have Ha8 := Aside0.mk ha8
  clear hR hA hB hC hca hcb hcc hl8 ha8
  obtain ⟨g, hg⟩ : ∃ g, gr [l, la, lb] = g := ⟨_, rfl⟩
  have Hg := Aside0.mk hg
  go_enter Tryd.func13, Tryd.ntmps13
  cases g with
  | true =>
    clear hg
    go_wp2_with (first
      | (go_at_call 37; refine (wakes4_any _ HR.out).mono ?_; rintro e w1 ⟨rfl, hB1⟩)
      | (go_at_call 38; refine (great4_any (some ⟨w1.heap.size, 0, none⟩) 3 [l, la, lb] _ (arg3w_C w1 A B C ca cb cc l la lb Hca.out Hcb.out Hcc.out (Kd.C_below HA.out hB1) (Kd.C_below HB.out hB1) (Kd.C_below HC.out hB1))).mono ?_; rintro e w2 ⟨rfl, rfl⟩; rw [Hg.out]))
    go_ret
    exact ⟨rfl, hB1.alloc hB1.size _⟩
  | false =>
    have Hl := Aside0.mk (show l.length < 1073741824 by have := (gr_le hg).1 l List.mem_cons_self; omega)
    have Hla := Aside0.mk (show la.length ≤ 300 ∧ lb.length ≤ 300 by have := (gr_le hg).1 la (List.mem_cons_of_mem _ List.mem_cons_self); have := (gr_le hg).1 lb (List.mem_cons_of_mem _ (List.mem_cons_of_mem _ List.mem_cons_self)); omega)
    have Hla2 := Aside0.mk (show la.length < 536870912 by have := Hla.out; omega)
    clear hg
    obtain ⟨bl, hbl⟩ : ∃ bl, blk l = bl := ⟨_, rfl⟩
    have hbll : bl.length = 64 := by rw [← hbl]; exact blk_len l
    obtain ⟨ys, hys⟩ : ∃ ys, macL l la = ys := ⟨_, rfl⟩
    have hyl : ys.length = 32 := by rw [← hys]; exact macL_len _ _
    obtain ⟨zs, hzs⟩ : ∃ zs, macL l (la ++ lb) = zs := ⟨_, rfl⟩
    have hzl : zs.length = 32 := by rw [← hzs]; exact macL_len _ _
    have Hys := Aside0.mk hys
    have Hyl := Aside0.mk hyl
    have Hbl := Aside0.mk hbl
    have Hbll := Aside0.mk hbll
    have Hfz := Aside0.mk (show macL l ([la, lb] : List (List Int)).flatten = zs by rw [show ([la, lb] : List (List Int)).flatten = la ++ lb by simp]; exact hzs)
    have Hfl := Aside0.mk (show ([la, lb] : List (List Int)).flatten.length < 1073741824 by rw [show ([la, lb] : List (List Int)).flatten = la ++ lb by simp, List.length_append]; have := Hla.out; omega)
    obtain ⟨D0, hD0⟩ : ∃ D0, dgOf bl = D0 := ⟨_, rfl⟩
    have hd0n : D0.n = 64 := by rw [← hD0]; exact dgOf_n bl hbll
    obtain ⟨D, hD⟩ : ∃ D, D0.all la = D := ⟨_, rfl⟩
    have HD0 := Aside0.mk hD0
    have HD := Aside0.mk hD
    have HDn := Aside0.mk (show D.n = 64 + la.length by rw [← hD, Dg.all_n, hd0n])
    have Hd0n := Aside0.mk hd0n
    have HDy := Aside0.mk (show sumL (wit bl 92 ++ dig D) = ys by rw [← hD, ← hD0, ← hbl, ← hys]; rfl)
    have HDz := Aside0.mk (show sumL (wit bl 92 ++ dig (D.all lb)) = zs by rw [← hD, ← Dg.all_app, ← hD0, ← hbl, ← hzs]; rfl)
    have q1 := eql24 ys ys hyl hyl
    rw [decide_eq_true rfl] at q1
    have q2 := fun (o : BinOp) (x y : Operand) => guard24 o x y ys ys
    have q3 := eql24 zs zs hzl hzl
    rw [decide_eq_true rfl] at q3
    have q4 := fun (o : BinOp) (x y : Operand) => guard24 o x y zs zs
    clear hbl hbll hys hyl hzs hzl hD0 hD hd0n
    go_wp2_with (first
      | (go_at_call 37; refine (wakes4_any _ HR.out).mono ?_; rintro e w1 ⟨rfl, hB1⟩)
      | (go_at_call 38; refine (great4_any (some ⟨w1.heap.size, 0, none⟩) 3 [l, la, lb] _ (arg3w_C w1 A B C ca cb cc l la lb Hca.out Hcb.out Hcc.out (Kd.C_below HA.out hB1) (Kd.C_below HB.out hB1) (Kd.C_below HC.out hB1))).mono ?_; rintro e w2 ⟨rfl, rfl⟩; rw [Hg.out]; have hB2 := hB1.alloc hB1.size (.cells #[.slice A l.length ca, .slice B la.length cb, .slice C lb.length cc] 22))
      | (go_at_call 43; refine (MNew_any A ca l _ (HR.out.below hB2 hpos.out) (Kd.C_below HA.out hB2) Hca.out Hl.out).mono ?_; rintro e w3 ⟨mm, h, rfl, hh, hm, hM3, hH3, hb3⟩; rw [Hbl.out] at hM3 hH3; rw [HD0.out] at hH3; replace hh := Nat.le_trans hB2.size hh; have hB3 := hB2.trans (hb3.mono hB2.size); have c3 := hM3.c0; clear hb3 hB2)
      | (go_at_call 30; refine (Write_any B cb h la D0 _ (HR.out.below hB3 hpos.out) (by have := hpos.out; omega) hH3 (by have := Hd0n.out; have := Hla.out; omega) (fun i hi => by obtain ⟨b', o', e1, h1, h2⟩ := row_cells HB.out i hi; exact ⟨b', o', e1, by omega, Nat.lt_of_lt_of_le h1 hB3.size, (hB3.cell (p := ⟨b', o' + i, none⟩) h1).trans h2⟩)).mono ?_; rintro e w4 ⟨rfl, hH4, hb4⟩; rw [HD.out] at hH4; have hM4 := hM3.grown hb4 (by simp; omega); have hB4 := hB3.grown hb4 hB3.size (fun j e => by cases e; exact hh); clear hb4 c3 hM3 hH3 hB3)
      | (go_at_call 44; refine (Seal_any mm h bl D w4 (HR.out.below hB4 hpos.out) hM4 hH4 Hbll.out (by have := HDn.out; have := Hla.out; omega)).mono ?_; rintro e w5 ⟨rfl, hb5⟩; rw [HDy.out]; have hM5 := hM4.below hb5 hM4.lt; have hH5 := hH4.below hb5 hH4.lt; have hB5 := hB4.trans (hb5.mono hB4.size); clear hb5 hM4 hH4 hB4)
      | (refine store_arr rfl 24 8 36 rfl rfl w5.heap.size rfl rfl (Arr.new_at (k := .u8) (xs := List.replicate 32 0) rfl rfl) (by rw [Hyl.out]; rfl) (by rw [Hyl.out]; kernel_rfl) ?_; intro w6 hg6 hs6 hA6; have hM6 := (hM5.alloc (.cells ((List.replicate 32 0).map (Value.int .u8)).toArray 24)).grown hg6 (by have := hM5.lt; simp; omega); have hH6 := (hH5.alloc (.cells ((List.replicate 32 0).map (Value.int .u8)).toArray 24)).grown hg6 (by have := hH5.lt; simp; omega); have hB6 := (hB5.alloc hB5.size (.cells ((List.replicate 32 0).map (Value.int .u8)).toArray 24)).grown hg6 (by rw [World.size_alloc]; have := hB5.size; omega) (fun j e => by cases e; exact hB5.size); have hxk := hH5.lt; clear hg6 hs6 hM5 hH5 hB5))
    obtain ⟨xk, hxk0⟩ : ∃ xk, w5.heap.size = xk := ⟨_, rfl⟩
    rw [hxk0] at hA6 hxk
    rw [hxk0]
    have Hh := Aside0.mk hh
    have Hm := Aside0.mk hm
    have Hxk := Aside0.mk hxk
    clear hxk0 hB1 hh hm hxk
    go_loopw [39] (fun i wr => ∃ k : Nat, k ≤ lb.length ∧ i = .int .i64 k ∧ Hs wr h (D.all (lb.take k)).st (D.all (lb.take k)).bs (D.all (lb.take k)).n ∧ Ms wr mm h bl ∧ Arr wr xk .u8 24 ys ∧ Below w.heap.size w wr)
      (fun i _ => lb.length - (intOf i).toNat)
    case atStart => exact ⟨0, by omega, rfl, hH6, hM6, hA6, hB6⟩
    case round =>
      clear hH6 hM6 hA6 hB6
      obtain ⟨k, hk, rfl, hH, hM, hA, hB⟩ := hrel
      by_cases hlt : k < lb.length
      · obtain ⟨b, o, rfl, hb, hc⟩ := row_cells HC.out k hlt
        obtain ⟨x, hx⟩ : ∃ x, lb.getD k 0 = x := ⟨_, rfl⟩
        obtain ⟨E, hE⟩ : ∃ E, D.all (lb.take k) = E := ⟨_, rfl⟩
        rw [hx] at hc
        rw [hE] at hH
        have hc1 := (hB.cell (p := ⟨b, o + k, none⟩) hb).trans hc
        have c3 := hM.c0
        have HEn := Aside0.mk (show E.n + [x].length < 4611686018427387904 by
          have h1 : E.n = D.n + (lb.take k).length := by rw [← hE]; exact Dg.all_n _ _
          have h2 := HDn.out
          have h3 := Hla.out
          rw [h1, h2, List.length_take]
          simp
          omega)
        have Hx := Aside0.mk hx
        have HE := Aside0.mk hE
        have hkl : (k : Int) < lb.length := by omega
        have wk : wrap64 ((k : Int) + 1) = ((k + 1 : Nat) : Int) := by
          have h9 := Hla.out
          rw [w64 (by omega) (by omega)]
          rfl
        have Hlt := Aside0.mk hlt
        clear hc hx hE hlt hk
        go_wp2_with (first
          | (go_at_call 30; refine (Write_any (some ⟨wr.heap.size, 0, none⟩) 1 h [x] E _ ((HR.out.below hB hpos.out).below ((Below.refl _ _).alloc (Nat.le_refl _) _) (Nat.lt_of_lt_of_le hpos.out hB.size)) (by have := Hh.out; have := hpos.out; omega) (hH.alloc _) HEn.out (byte4_row wr x h hH.lt)).mono ?_; rintro e w7 ⟨rfl, hH7, hb7⟩))
        go_roundw
        case rel =>
          refine ⟨k + 1, Hlt.out, by rw [wk], ?_, (hM.alloc _).grown hb7 (by have := Hm.out; simp; omega), (hA.alloc _).grown hb7 (by have := Hxk.out; simp; omega), (hB.alloc hB.size _).grown hb7 (by rw [World.size_alloc]; have := hB.size; omega) (fun j e => by cases e; exact Hh.out)⟩
          rw [Dg.all_step D lb k Hlt.out, HE.out, Hx.out]
          exact hH7
        case measure =>
          rw [wk]
          show lb.length - (k + 1) < lb.length - k
          exact Nat.sub_lt_sub_left Hlt.out (Nat.lt_succ_self k)
      · obtain rfl : k = lb.length := by omega
        rw [List.take_of_length_le (Nat.le_refl _)] at hH
        clear hk hlt
        go_wp2
        have HDb := Aside0.mk (show (D.all lb).n < 1152921504606846976 by rw [Dg.all_n, HDn.out]; have := Hla.out; omega)
        obtain ⟨n1, hn1⟩ : ∃ n1, 64 + la.length = n1 := ⟨_, rfl⟩
        obtain ⟨n2, hn2⟩ : ∃ n2, n1 + lb.length = n2 := ⟨_, rfl⟩
        have HDn2 := Aside0.mk (show (D.all lb).n = n2 by rw [Dg.all_n, HDn.out]; omega)
        have e2 : wrap64 ((64 : Int) + (la.length : Int)) = (n1 : Int) := by rw [w64 (by omega) (by have := Hla.out; omega)]; omega
        have e3 : wrap64 ((n1 : Int) + (lb.length : Int)) = (n2 : Int) := by rw [w64 (by omega) (by have := Hla.out; omega)]; omega
        have e5 : IntKind.i64.wrap ((64 : Int) + (la.length : Int)) = (n1 : Int) := by rw [IntWalk.i64_in _ (by have := Hla.out; omega)]; omega
        have e6 : IntKind.i64.wrap ((n1 : Int) + (lb.length : Int)) = (n2 : Int) := by rw [IntWalk.i64_in _ (by have := Hla.out; omega)]; omega
        have e4 : IntKind.u64.wrap (n2 : Int) = n2 := wu64 (by omega) (by have := Hla.out; omega)
        clear hn1 hn2
        refine wp_region_any (by kernel_rfl) ?_
        change wpAny _ _ _ _ _ _ _ (World.drew _)
        obtain ⟨w50, hw_50⟩ : ∃ w', wr.drew = w' := ⟨_, rfl⟩
        have hH_50 : Hs w50 h (D.all lb).st (D.all lb).bs (D.all lb).n := by rw [← hw_50]; exact hH.drewN 1
        have hM_50 : Ms w50 mm h bl := by rw [← hw_50]; exact hM
        have hA_50 : Arr w50 xk .u8 24 ys := by rw [← hw_50]; exact hA
        have hB_50 : Below w.heap.size w w50 := by rw [← hw_50]; exact pw_below_drewN hB 1
        rw [hw_50]
        clear hw_50 hH hM hA hB
        refine wpAny_take (i := 1) (oi := { dst := some 52, op := Go.Op.move (Go.Operand.tmp 0), type := 22, pos := "law.go:90", after := #[], guard := none }) (v := ?v1p) rfl (by kernel_rfl) (by kernel_rfl) (by kernel_rfl) (fun _ _ _ h => h) (Or.inl ⟨by rfl, fun w => ?hy1p⟩) ?rest1p
        case hy1p => go_simp; (first | done | (with_reducible rfl))
        simp only [Act.put, List.setIfInBounds_toArray, List.set_cons_zero, List.set_cons_succ]
        refine wpAny_take (i := 2) (oi := { dst := some 53, op := Go.Op.move (Go.Operand.tmp 1), type := 22, pos := "law.go:90", after := #[], guard := none }) (v := ?v2p) rfl (by kernel_rfl) (by kernel_rfl) (by kernel_rfl) (fun _ _ _ h => h) (Or.inl ⟨by rfl, fun w => ?hy2p⟩) ?rest2p
        case hy2p => go_simp; (first | done | (with_reducible rfl))
        simp only [Act.put, List.setIfInBounds_toArray, List.set_cons_zero, List.set_cons_succ]
        refine wpAny_ready (rs := [0, 3]) (by kernel_rfl) (by simp) ?_
        refine AllReady.cons (o := { dst := some 51, op := Go.Op.load 24 (Go.Operand.tmp 8), type := 24, pos := "law.go:90", after := #[], guard := none }) rfl (fun K hK => ?_) (AllReady.cons (o := { dst := some 54, op := Go.Op.call { callee := Go.Callee.value (Go.Operand.func 40), args := #[Go.Operand.tmp 52, Go.Operand.tmp 53], argTypes := #[22, 22] }, type := 24, pos := "law.go:90", after := #[{ on := 1, ground := Go.Ground.data }, { on := 2, ground := Go.Ground.data }], guard := none }) rfl (fun K hK => ?_) (AllReady.nil))
        ·
          rw [if_pos (by rfl)]
          refine wp_load_mid 24 (.tmp 8) rfl xk 0 rfl (ys.map (Value.int .u8)) _ (arr_range hA_50) Tryd.underlying24 rfl (by rw [List.length_map, Hyl.out]; kernel_rfl) ?_
          rw [show (Value.agg (ys.map (Value.int .u8)).toArray) = AV .u8 ys from rfl]
          refine hK _ _ ?_
          clear hK K
          try simp only [Act.put, List.setIfInBounds_toArray, List.set_cons_zero, List.set_cons_succ]
          refine wpAny_ready (rs := [3]) (by kernel_rfl) (by simp) ?_
          refine AllReady.cons (o := { dst := some 54, op := Go.Op.call { callee := Go.Callee.value (Go.Operand.func 40), args := #[Go.Operand.tmp 52, Go.Operand.tmp 53], argTypes := #[22, 22] }, type := 24, pos := "law.go:90", after := #[{ on := 1, ground := Go.Ground.data }, { on := 2, ground := Go.Ground.data }], guard := none }) rfl (fun K hK => ?_) (AllReady.nil)
          ·
            go_simp
            go_at_call 40
            refine (rMSum_any A B ca cb l la w50 Hl8.out Ha8.out (Kd.C_below HA.out hB_50) Hca.out Hl.out (Kd.C_below HB.out hB_50) Hla2.out).mono ?_
            rintro e w102 ⟨rfl, hb_102⟩
            rw [Hys.out]
            refine hK _ _ ?_
            clear hK K
            try simp only [Act.put, List.setIfInBounds_toArray, List.set_cons_zero, List.set_cons_succ]
            have hB_102 := hB_50.trans (hb_102.mono hB_50.size)
            have hA_102 := hA_50.below hb_102 hA_50.lt
            have hM_102 := hM_50.below hb_102 hM_50.lt
            have hH_102 := hH_50.below hb_102 hH_50.lt
            clear hb_102 hB_50 hA_50 hM_50 hH_50 
            refine wpAny_take (i := 4) (oi := { dst := some 55, op := Go.Op.binOp Go.BinOp.eql 24 (Go.Operand.tmp 51) (Go.Operand.tmp 54) 24, type := 4, pos := "law.go:90", after := #[{ on := 0, ground := Go.Ground.data }, { on := 3, ground := Go.Ground.data }], guard := none }) (v := ?v4p_0q) rfl (by kernel_rfl) (by kernel_rfl) (by kernel_rfl) (fun _ _ _ h => h) (Or.inl ⟨by rfl, fun w => ?hy4p_0q⟩) ?rest4p_0q
            case hy4p_0q => go_simp; (first | done | (with_reducible rfl))
            simp only [Act.put, List.setIfInBounds_toArray, List.set_cons_zero, List.set_cons_succ]
            refine wpAny_take (i := 5) (oi := { dst := some 56, op := Go.Op.move (Go.Operand.tmp 55), type := 4, pos := "law.go:90", after := #[{ on := 4, ground := Go.Ground.data }, { on := 3, ground := Go.Ground.chain }], guard := none }) (v := ?v5p_0q) rfl (by kernel_rfl) (by kernel_rfl) (by kernel_rfl) (fun _ _ _ h => h) (Or.inl ⟨by rfl, fun w => ?hy5p_0q⟩) ?rest5p_0q
            case hy5p_0q => go_simp; (first | done | (with_reducible rfl))
            simp only [Act.put, List.setIfInBounds_toArray, List.set_cons_zero, List.set_cons_succ]
            refine wpAny_take (i := 6) (oi := { dst := some 57, op := Go.Op.move (Go.Operand.tmp 7), type := 60, pos := "law.go:90", after := #[{ on := 5, ground := Go.Ground.guard }], guard := some (5, true) }) (v := ?v6p_0q) rfl (by kernel_rfl) (by kernel_rfl) (by kernel_rfl) (fun _ _ _ h => h) (Or.inl ⟨by rfl, fun w => ?hy6p_0q⟩) ?rest6p_0q
            case hy6p_0q => go_simp; (first | done | (with_reducible rfl))
            simp only [Act.put, List.setIfInBounds_toArray, List.set_cons_zero, List.set_cons_succ]
            refine wpAny_take (i := 8) (oi := { dst := some 59, op := Go.Op.move (Go.Operand.tmp 0), type := 22, pos := "law.go:90", after := #[{ on := 5, ground := Go.Ground.guard }], guard := some (5, true) }) (v := ?v8p_0q) rfl (by kernel_rfl) (by kernel_rfl) (by kernel_rfl) (fun _ _ _ h => h) (Or.inl ⟨by rfl, fun w => ?hy8p_0q⟩) ?rest8p_0q
            case hy8p_0q => go_simp; (first | done | (with_reducible rfl))
            simp only [Act.put, List.setIfInBounds_toArray, List.set_cons_zero, List.set_cons_succ]
            refine wpAny_take (i := 9) (oi := { dst := some 60, op := Go.Op.move (Go.Operand.tmp 1), type := 22, pos := "law.go:90", after := #[{ on := 5, ground := Go.Ground.guard }], guard := some (5, true) }) (v := ?v9p_0q) rfl (by kernel_rfl) (by kernel_rfl) (by kernel_rfl) (fun _ _ _ h => h) (Or.inl ⟨by rfl, fun w => ?hy9p_0q⟩) ?rest9p_0q
            case hy9p_0q => go_simp; (first | done | (with_reducible rfl))
            simp only [Act.put, List.setIfInBounds_toArray, List.set_cons_zero, List.set_cons_succ]
            refine wpAny_take (i := 10) (oi := { dst := some 61, op := Go.Op.move (Go.Operand.tmp 2), type := 22, pos := "law.go:90", after := #[{ on := 5, ground := Go.Ground.guard }], guard := some (5, true) }) (v := ?v10p_0q) rfl (by kernel_rfl) (by kernel_rfl) (by kernel_rfl) (fun _ _ _ h => h) (Or.inl ⟨by rfl, fun w => ?hy10p_0q⟩) ?rest10p_0q
            case hy10p_0q => go_simp; (first | done | (with_reducible rfl))
            simp only [Act.put, List.setIfInBounds_toArray, List.set_cons_zero, List.set_cons_succ]
            refine wpAny_ready (rs := [7, 11]) (by kernel_rfl) (by simp) ?_
            refine AllReady.cons (o := { dst := some 58, op := Go.Op.call { callee := Go.Callee.value (Go.Operand.func 44), args := #[Go.Operand.tmp 57], argTypes := #[60] }, type := 24, pos := "law.go:90", after := #[{ on := 6, ground := Go.Ground.data }, { on := 5, ground := Go.Ground.chain }, { on := 5, ground := Go.Ground.guard }], guard := some (5, true) }) rfl (fun K hK => ?_) (AllReady.cons (o := { dst := some 62, op := Go.Op.buildSlice 39 2 #[(0, Go.Operand.tmp 60), (1, Go.Operand.tmp 61)], type := 39, pos := "law.go:90", after := #[{ on := 9, ground := Go.Ground.data }, { on := 10, ground := Go.Ground.data }, { on := 5, ground := Go.Ground.guard }], guard := some (5, true) }) rfl (fun K hK => ?_) (AllReady.nil))
            ·
              go_simp
              go_at_call 44
              refine (Seal_any mm h bl (D.all lb) w102 (HR.out.below hB_102 hpos.out) hM_102 hH_102 Hbll.out HDb.out).mono ?_
              rintro e w103 ⟨rfl, hb_103⟩
              rw [HDz.out]
              refine hK _ _ ?_
              clear hK K
              try simp only [Act.put, List.setIfInBounds_toArray, List.set_cons_zero, List.set_cons_succ]
              have hB_103 := hB_102.trans (hb_103.mono hB_102.size)
              have hA_103 := hA_102.below hb_103 hA_102.lt
              have hM_103 := hM_102.below hb_103 hM_102.lt
              have hH_103 := hH_102.below hb_103 hH_102.lt
              clear hb_103 hB_102 hA_102 hM_102 hH_102 
              refine wpAny_ready (rs := [11]) (by kernel_rfl) (by simp) ?_
              refine AllReady.cons (o := { dst := some 62, op := Go.Op.buildSlice 39 2 #[(0, Go.Operand.tmp 60), (1, Go.Operand.tmp 61)], type := 39, pos := "law.go:90", after := #[{ on := 9, ground := Go.Ground.data }, { on := 10, ground := Go.Ground.data }, { on := 5, ground := Go.Ground.guard }], guard := some (5, true) }) rfl (fun K hK => ?_) (AllReady.nil)
              ·
                go_simp
                refine hK _ _ ?_
                clear hK K
                try simp only [Act.put, List.setIfInBounds_toArray, List.set_cons_zero, List.set_cons_succ]
                change wpAny _ _ _ _ _ _ _ (World.alloc w103 (.cells #[.slice B la.length cb, .slice C lb.length cc] 22))
                have hb_104 := (Below.refl w103.heap.size w103).alloc (Nat.le_refl _) (.cells #[.slice B la.length cb, .slice C lb.length cc] 22)
                have C11_104 := arg2m_C w103 B C cb cc la lb Hcb.out Hcc.out (Kd.C_below HB.out hB_103) (Kd.C_below HC.out hB_103)
                obtain ⟨w104, hw_104⟩ : ∃ w104, World.alloc w103 (.cells #[.slice B la.length cb, .slice C lb.length cc] 22) = w104 := ⟨_, rfl⟩
                rw [hw_104] at hb_104 C11_104
                rw [hw_104]
                have hB_104 := hB_103.trans (hb_104.mono hB_103.size)
                have hA_104 := hA_103.below hb_104 hA_103.lt
                have hM_104 := hM_103.below hb_104 hM_103.lt
                have hH_104 := hH_103.below hb_104 hH_103.lt
                obtain ⟨s104, hs_104⟩ : ∃ s104, w103.heap.size = s104 := ⟨_, rfl⟩
                rw [hs_104] at C11_104
                rw [hs_104]
                clear hw_104 hs_104
                clear hb_104 hB_103 hA_103 hM_103 hH_103 
                refine wpAny_ready (rs := [12]) (by kernel_rfl) (by simp) ?_
                refine AllReady.cons (o := { dst := some 63, op := Go.Op.call { callee := Go.Callee.value (Go.Operand.func 39), args := #[Go.Operand.tmp 59, Go.Operand.tmp 62], argTypes := #[22, 39] }, type := 24, pos := "law.go:90", after := #[{ on := 8, ground := Go.Ground.data }, { on := 11, ground := Go.Ground.data }, { on := 7, ground := Go.Ground.chain }, { on := 5, ground := Go.Ground.guard }], guard := some (5, true) }) rfl (fun K hK => ?_) (AllReady.nil)
                ·
                  go_simp
                  go_at_call 39
                  refine (MSum_any A ca l (some ⟨s104, 0, none⟩) 2 [la, lb] w104 (HR.out.below hB_104 hpos.out) (Kd.C_below HA.out hB_104) Hca.out Hl.out C11_104 Hfl.out).mono ?_
                  rintro e w105 ⟨rfl, hb_105⟩
                  rw [Hfz.out]
                  refine hK _ _ ?_
                  clear hK K
                  try simp only [Act.put, List.setIfInBounds_toArray, List.set_cons_zero, List.set_cons_succ]
                  have hB_105 := hB_104.trans (hb_105.mono hB_104.size)
                  have hA_105 := hA_104.below hb_105 hA_104.lt
                  have hM_105 := hM_104.below hb_105 hM_104.lt
                  have hH_105 := hH_104.below hb_105 hH_104.lt
                  clear hb_105 hB_104 hA_104 hM_104 hH_104 C11_104
                  refine wpAny_take (i := 13) (oi := { dst := some 64, op := Go.Op.binOp Go.BinOp.eql 24 (Go.Operand.tmp 58) (Go.Operand.tmp 63) 24, type := 4, pos := "law.go:90", after := #[{ on := 7, ground := Go.Ground.data }, { on := 12, ground := Go.Ground.data }, { on := 5, ground := Go.Ground.guard }], guard := some (5, true) }) (v := ?v13p_0q_7qq) rfl (by kernel_rfl) (by kernel_rfl) (by kernel_rfl) (fun _ _ _ h => h) (Or.inl ⟨by rfl, fun w => ?hy13p_0q_7qq⟩) ?rest13p_0q_7qq
                  case hy13p_0q_7qq => go_simp; (first | done | (with_reducible rfl))
                  simp only [Act.put, List.setIfInBounds_toArray, List.set_cons_zero, List.set_cons_succ]
                  refine wpAny_take (i := 14) (oi := { dst := some 65, op := Go.Op.pick (Go.Operand.tmp 56) (Go.Operand.tmp 64) (Go.Operand.const (Go.Value.bool false)), type := 4, pos := "law.go:90", after := #[{ on := 5, ground := Go.Ground.data }, { on := 13, ground := Go.Ground.data }], guard := none }) (v := ?v14p_0q_7qq) rfl (by kernel_rfl) (by kernel_rfl) (by kernel_rfl) (fun _ _ _ h => h) (Or.inl ⟨by rfl, fun w => ?hy14p_0q_7qq⟩) ?rest14p_0q_7qq
                  case hy14p_0q_7qq => go_simp; (first | done | (with_reducible rfl))
                  simp only [Act.put, List.setIfInBounds_toArray, List.set_cons_zero, List.set_cons_succ]
                  refine wpAny_take (i := 15) (oi := { dst := some 66, op := Go.Op.move (Go.Operand.tmp 65), type := 4, pos := "law.go:90", after := #[{ on := 14, ground := Go.Ground.data }, { on := 12, ground := Go.Ground.chain }], guard := none }) (v := ?v15p_0q_7qq) rfl (by kernel_rfl) (by kernel_rfl) (by kernel_rfl) (fun _ _ _ h => h) (Or.inl ⟨by rfl, fun w => ?hy15p_0q_7qq⟩) ?rest15p_0q_7qq
                  case hy15p_0q_7qq => go_simp; (first | done | (with_reducible rfl))
                  simp only [Act.put, List.setIfInBounds_toArray, List.set_cons_zero, List.set_cons_succ]
                  refine wpAny_take (i := 16) (oi := { dst := some 67, op := Go.Op.move (Go.Operand.tmp 7), type := 60, pos := "law.go:90", after := #[{ on := 15, ground := Go.Ground.guard }], guard := some (15, true) }) (v := ?v16p_0q_7qq) rfl (by kernel_rfl) (by kernel_rfl) (by kernel_rfl) (fun _ _ _ h => h) (Or.inl ⟨by rfl, fun w => ?hy16p_0q_7qq⟩) ?rest16p_0q_7qq
                  case hy16p_0q_7qq => go_simp; (first | done | (with_reducible rfl))
                  simp only [Act.put, List.setIfInBounds_toArray, List.set_cons_zero, List.set_cons_succ]
                  refine wpAny_take (i := 18) (oi := { dst := some 69, op := Go.Op.move (Go.Operand.tmp 7), type := 60, pos := "law.go:90", after := #[{ on := 15, ground := Go.Ground.guard }], guard := some (15, true) }) (v := ?v18p_0q_7qq) rfl (by kernel_rfl) (by kernel_rfl) (by kernel_rfl) (fun _ _ _ h => h) (Or.inl ⟨by rfl, fun w => ?hy18p_0q_7qq⟩) ?rest18p_0q_7qq
                  case hy18p_0q_7qq => go_simp; (first | done | (with_reducible rfl))
                  simp only [Act.put, List.setIfInBounds_toArray, List.set_cons_zero, List.set_cons_succ]
                  refine wpAny_ready (rs := [17]) (by kernel_rfl) (by simp) ?_
                  refine AllReady.cons (o := { dst := some 68, op := Go.Op.call { callee := Go.Callee.value (Go.Operand.func 44), args := #[Go.Operand.tmp 67], argTypes := #[60] }, type := 24, pos := "law.go:90", after := #[{ on := 16, ground := Go.Ground.data }, { on := 15, ground := Go.Ground.chain }, { on := 15, ground := Go.Ground.guard }], guard := some (15, true) }) rfl (fun K hK => ?_) (AllReady.nil)
                  ·
                    go_simp
                    go_at_call 44
                    refine (Seal_any mm h bl (D.all lb) w105 (HR.out.below hB_105 hpos.out) hM_105 hH_105 Hbll.out HDb.out).mono ?_
                    rintro e w106 ⟨rfl, hb_106⟩
                    rw [HDz.out]
                    refine hK _ _ ?_
                    clear hK K
                    try simp only [Act.put, List.setIfInBounds_toArray, List.set_cons_zero, List.set_cons_succ]
                    have hB_106 := hB_105.trans (hb_106.mono hB_105.size)
                    have hA_106 := hA_105.below hb_106 hA_105.lt
                    have hM_106 := hM_105.below hb_106 hM_105.lt
                    have hH_106 := hH_105.below hb_106 hH_105.lt
                    clear hb_106 hB_105 hA_105 hM_105 hH_105 
                    refine wpAny_ready (rs := [19]) (by kernel_rfl) (by simp) ?_
                    refine AllReady.cons (o := { dst := some 70, op := Go.Op.call { callee := Go.Callee.value (Go.Operand.func 44), args := #[Go.Operand.tmp 69], argTypes := #[60] }, type := 24, pos := "law.go:90", after := #[{ on := 18, ground := Go.Ground.data }, { on := 17, ground := Go.Ground.chain }, { on := 15, ground := Go.Ground.guard }], guard := some (15, true) }) rfl (fun K hK => ?_) (AllReady.nil)
                    ·
                      go_simp
                      go_at_call 44
                      refine (Seal_any mm h bl (D.all lb) w106 (HR.out.below hB_106 hpos.out) hM_106 hH_106 Hbll.out HDb.out).mono ?_
                      rintro e w107 ⟨rfl, hb_107⟩
                      rw [HDz.out]
                      refine hK _ _ ?_
                      clear hK K
                      try simp only [Act.put, List.setIfInBounds_toArray, List.set_cons_zero, List.set_cons_succ]
                      have hB_107 := hB_106.trans (hb_107.mono hB_106.size)
                      have hA_107 := hA_106.below hb_107 hA_106.lt
                      have hM_107 := hM_106.below hb_107 hM_106.lt
                      have hH_107 := hH_106.below hb_107 hH_106.lt
                      clear hb_107 hB_106 hA_106 hM_106 hH_106 
                      refine wpAny_take (i := 20) (oi := { dst := some 71, op := Go.Op.binOp Go.BinOp.eql 24 (Go.Operand.tmp 68) (Go.Operand.tmp 70) 24, type := 4, pos := "law.go:90", after := #[{ on := 17, ground := Go.Ground.data }, { on := 19, ground := Go.Ground.data }, { on := 15, ground := Go.Ground.guard }], guard := some (15, true) }) (v := ?v20p_0q_7qqqq) rfl (by kernel_rfl) (by kernel_rfl) (by kernel_rfl) (fun _ _ _ h => h) (Or.inl ⟨by rfl, fun w => ?hy20p_0q_7qqqq⟩) ?rest20p_0q_7qqqq
                      case hy20p_0q_7qqqq => go_simp; (first | done | (with_reducible rfl))
                      simp only [Act.put, List.setIfInBounds_toArray, List.set_cons_zero, List.set_cons_succ]
                      refine wpAny_take (i := 21) (oi := { dst := some 72, op := Go.Op.pick (Go.Operand.tmp 66) (Go.Operand.tmp 71) (Go.Operand.const (Go.Value.bool false)), type := 4, pos := "law.go:90", after := #[{ on := 15, ground := Go.Ground.data }, { on := 20, ground := Go.Ground.data }], guard := none }) (v := ?v21p_0q_7qqqq) rfl (by kernel_rfl) (by kernel_rfl) (by kernel_rfl) (fun _ _ _ h => h) (Or.inl ⟨by rfl, fun w => ?hy21p_0q_7qqqq⟩) ?rest21p_0q_7qqqq
                      case hy21p_0q_7qqqq => go_simp; (first | done | (with_reducible rfl))
                      simp only [Act.put, List.setIfInBounds_toArray, List.set_cons_zero, List.set_cons_succ]
                      refine wpAny_take (i := 22) (oi := { dst := some 73, op := Go.Op.move (Go.Operand.tmp 72), type := 4, pos := "law.go:90", after := #[{ on := 21, ground := Go.Ground.data }, { on := 19, ground := Go.Ground.chain }], guard := none }) (v := ?v22p_0q_7qqqq) rfl (by kernel_rfl) (by kernel_rfl) (by kernel_rfl) (fun _ _ _ h => h) (Or.inl ⟨by rfl, fun w => ?hy22p_0q_7qqqq⟩) ?rest22p_0q_7qqqq
                      case hy22p_0q_7qqqq => go_simp; (first | done | (with_reducible rfl))
                      simp only [Act.put, List.setIfInBounds_toArray, List.set_cons_zero, List.set_cons_succ]
                      refine wpAny_take (i := 23) (oi := { dst := some 74, op := Go.Op.move (Go.Operand.tmp 7), type := 60, pos := "law.go:90", after := #[{ on := 22, ground := Go.Ground.guard }], guard := some (22, true) }) (v := ?v23p_0q_7qqqq) rfl (by kernel_rfl) (by kernel_rfl) (by kernel_rfl) (fun _ _ _ h => h) (Or.inl ⟨by rfl, fun w => ?hy23p_0q_7qqqq⟩) ?rest23p_0q_7qqqq
                      case hy23p_0q_7qqqq => go_simp; (first | done | (with_reducible rfl))
                      simp only [Act.put, List.setIfInBounds_toArray, List.set_cons_zero, List.set_cons_succ]
                      refine wpAny_take (i := 24) (oi := { dst := some 75, op := Go.Op.nilCheck (Go.Operand.tmp 74), type := 0, pos := "law.go:90", after := #[{ on := 23, ground := Go.Ground.data }, { on := 22, ground := Go.Ground.guard }], guard := some (22, true) }) (v := ?v24p_0q_7qqqq) rfl (by kernel_rfl) (by kernel_rfl) (by kernel_rfl) (fun _ _ _ h => h) (Or.inl ⟨by rfl, fun w => ?hy24p_0q_7qqqq⟩) ?rest24p_0q_7qqqq
                      case hy24p_0q_7qqqq => go_simp; (first | done | (with_reducible rfl))
                      simp only [Act.put, List.setIfInBounds_toArray, List.set_cons_zero, List.set_cons_succ]
                      refine wpAny_take (i := 25) (oi := { dst := some 76, op := Go.Op.fieldAddr 63 (Go.Operand.tmp 75) 0, type := 0, pos := "law.go:90", after := #[{ on := 24, ground := Go.Ground.data }, { on := 22, ground := Go.Ground.guard }], guard := some (22, true) }) (v := ?v25p_0q_7qqqq) rfl (by kernel_rfl) (by kernel_rfl) (by kernel_rfl) (fun _ _ _ h => h) (Or.inl ⟨by rfl, fun w => ?hy25p_0q_7qqqq⟩) ?rest25p_0q_7qqqq
                      case hy25p_0q_7qqqq => go_simp; (first | done | (with_reducible rfl))
                      simp only [Act.put, List.setIfInBounds_toArray, List.set_cons_zero, List.set_cons_succ]
                      refine wpAny_take (i := 28) (oi := { dst := some 79, op := Go.Op.move (Go.Operand.tmp 1), type := 22, pos := "law.go:90", after := #[{ on := 22, ground := Go.Ground.guard }], guard := some (22, true) }) (v := ?v28p_0q_7qqqq) rfl (by kernel_rfl) (by kernel_rfl) (by kernel_rfl) (fun _ _ _ h => h) (Or.inl ⟨by rfl, fun w => ?hy28p_0q_7qqqq⟩) ?rest28p_0q_7qqqq
                      case hy28p_0q_7qqqq => go_simp; (first | done | (with_reducible rfl))
                      simp only [Act.put, List.setIfInBounds_toArray, List.set_cons_zero, List.set_cons_succ]
                      refine wpAny_take (i := 29) (oi := { dst := some 80, op := Go.Op.call { callee := Go.Callee.builtin Go.Builtin.len, args := #[Go.Operand.tmp 79], argTypes := #[22] }, type := 3, pos := "law.go:90", after := #[{ on := 28, ground := Go.Ground.data }, { on := 22, ground := Go.Ground.guard }], guard := some (22, true) }) (v := ?v29p_0q_7qqqq) rfl (by kernel_rfl) (by kernel_rfl) (by kernel_rfl) (fun _ _ _ h => h) (Or.inl ⟨by rfl, fun w => ?hy29p_0q_7qqqq⟩) ?rest29p_0q_7qqqq
                      case hy29p_0q_7qqqq => go_simp; (first | done | (with_reducible rfl))
                      simp only [Act.put, List.setIfInBounds_toArray, List.set_cons_zero, List.set_cons_succ]
                      refine wpAny_take (i := 30) (oi := { dst := some 81, op := Go.Op.binOp Go.BinOp.add 3 (Go.Operand.const (Go.Value.int Go.IntKind.i64 64)) (Go.Operand.tmp 80) 3, type := 3, pos := "law.go:90", after := #[{ on := 29, ground := Go.Ground.data }, { on := 22, ground := Go.Ground.guard }], guard := some (22, true) }) (v := ?v30p_0q_7qqqq) rfl (by kernel_rfl) (by kernel_rfl) (by kernel_rfl) (fun _ _ _ h => h) (Or.inl ⟨by rfl, fun w => ?hy30p_0q_7qqqq⟩) ?rest30p_0q_7qqqq
                      case hy30p_0q_7qqqq => go_simp; (first | done | (with_reducible rfl))
                      simp only [Act.put, List.setIfInBounds_toArray, List.set_cons_zero, List.set_cons_succ]
                      refine wpAny_take (i := 31) (oi := { dst := some 82, op := Go.Op.move (Go.Operand.tmp 2), type := 22, pos := "law.go:90", after := #[{ on := 22, ground := Go.Ground.guard }], guard := some (22, true) }) (v := ?v31p_0q_7qqqq) rfl (by kernel_rfl) (by kernel_rfl) (by kernel_rfl) (fun _ _ _ h => h) (Or.inl ⟨by rfl, fun w => ?hy31p_0q_7qqqq⟩) ?rest31p_0q_7qqqq
                      case hy31p_0q_7qqqq => go_simp; (first | done | (with_reducible rfl))
                      simp only [Act.put, List.setIfInBounds_toArray, List.set_cons_zero, List.set_cons_succ]
                      refine wpAny_take (i := 32) (oi := { dst := some 83, op := Go.Op.call { callee := Go.Callee.builtin Go.Builtin.len, args := #[Go.Operand.tmp 82], argTypes := #[22] }, type := 3, pos := "law.go:90", after := #[{ on := 31, ground := Go.Ground.data }, { on := 22, ground := Go.Ground.guard }], guard := some (22, true) }) (v := ?v32p_0q_7qqqq) rfl (by kernel_rfl) (by kernel_rfl) (by kernel_rfl) (fun _ _ _ h => h) (Or.inl ⟨by rfl, fun w => ?hy32p_0q_7qqqq⟩) ?rest32p_0q_7qqqq
                      case hy32p_0q_7qqqq => go_simp; (first | done | (with_reducible rfl))
                      simp only [Act.put, List.setIfInBounds_toArray, List.set_cons_zero, List.set_cons_succ]
                      refine wpAny_take (i := 33) (oi := { dst := some 84, op := Go.Op.binOp Go.BinOp.add 3 (Go.Operand.tmp 81) (Go.Operand.tmp 83) 3, type := 3, pos := "law.go:90", after := #[{ on := 30, ground := Go.Ground.data }, { on := 32, ground := Go.Ground.data }, { on := 22, ground := Go.Ground.guard }], guard := some (22, true) }) (v := ?v33p_0q_7qqqq) rfl (by kernel_rfl) (by kernel_rfl) (by kernel_rfl) (fun _ _ _ h => h) (Or.inl ⟨by rfl, fun w => ?hy33p_0q_7qqqq⟩) ?rest33p_0q_7qqqq
                      case hy33p_0q_7qqqq => go_simp; (first | done | (with_reducible rfl))
                      simp only [Act.put, List.setIfInBounds_toArray, List.set_cons_zero, List.set_cons_succ]
                      refine wpAny_take (i := 34) (oi := { dst := some 85, op := Go.Op.convert 3 31 (Go.Operand.tmp 84), type := 31, pos := "law.go:90", after := #[{ on := 33, ground := Go.Ground.data }, { on := 22, ground := Go.Ground.guard }], guard := some (22, true) }) (v := ?v34p_0q_7qqqq) rfl (by kernel_rfl) (by kernel_rfl) (by kernel_rfl) (fun _ _ _ h => h) (Or.inl ⟨by rfl, fun w => ?hy34p_0q_7qqqq⟩) ?rest34p_0q_7qqqq
                      case hy34p_0q_7qqqq => go_simp; (first | done | (with_reducible rfl))
                      simp only [Act.put, List.setIfInBounds_toArray, List.set_cons_zero, List.set_cons_succ]
                      refine wpAny_ready (rs := [26]) (by kernel_rfl) (by simp) ?_
                      refine AllReady.cons (o := { dst := some 77, op := Go.Op.load 45 (Go.Operand.tmp 76), type := 45, pos := "law.go:90", after := #[{ on := 25, ground := Go.Ground.data }, { on := 22, ground := Go.Ground.guard }], guard := some (22, true) }) rfl (fun K hK => ?_) (AllReady.nil)
                      ·
                        rw [if_pos (by rfl)]
                        have c0 := hM_107.c0; go_simp
                        clear c0
                        refine hK _ _ ?_
                        clear hK K
                        try simp only [Act.put, List.setIfInBounds_toArray, List.set_cons_zero, List.set_cons_succ]
                        refine wpAny_ready (rs := [27]) (by kernel_rfl) (by simp) ?_
                        refine AllReady.cons (o := { dst := some 78, op := Go.Op.call { callee := Go.Callee.value (Go.Operand.func 32), args := #[Go.Operand.tmp 77], argTypes := #[45] }, type := 31, pos := "law.go:90", after := #[{ on := 26, ground := Go.Ground.data }, { on := 22, ground := Go.Ground.chain }, { on := 22, ground := Go.Ground.guard }], guard := some (22, true) }) rfl (fun K hK => ?_) (AllReady.nil)
                        ·
                          go_simp
                          go_at_call 32
                          refine (Len_any h _ _ _ _ hH_107).mono ?_
                          rintro e w109 ⟨rfl, hw_109⟩
                          subst hw_109
                          rw [HDn2.out]
                          refine hK _ _ ?_
                          clear hK K
                          try simp only [Act.put, List.setIfInBounds_toArray, List.set_cons_zero, List.set_cons_succ]
                          refine wpAny_take (i := 35) (oi := { dst := some 86, op := Go.Op.binOp Go.BinOp.eql 31 (Go.Operand.tmp 78) (Go.Operand.tmp 85) 31, type := 4, pos := "law.go:90", after := #[{ on := 27, ground := Go.Ground.data }, { on := 34, ground := Go.Ground.data }, { on := 22, ground := Go.Ground.guard }], guard := some (22, true) }) (v := ?v35p_0q_7qqqqqq) rfl (by kernel_rfl) (by kernel_rfl) (by kernel_rfl) (fun _ _ _ h => h) (Or.inl ⟨by rfl, fun w => ?hy35p_0q_7qqqqqq⟩) ?rest35p_0q_7qqqqqq
                          case hy35p_0q_7qqqqqq => go_simp; (first | done | (with_reducible rfl))
                          simp only [Act.put, List.setIfInBounds_toArray, List.set_cons_zero, List.set_cons_succ]
                          refine wpAny_take (i := 36) (oi := { dst := some 87, op := Go.Op.pick (Go.Operand.tmp 73) (Go.Operand.tmp 86) (Go.Operand.const (Go.Value.bool false)), type := 4, pos := "law.go:90", after := #[{ on := 22, ground := Go.Ground.data }, { on := 35, ground := Go.Ground.data }], guard := none }) (v := ?v36p_0q_7qqqqqq) rfl (by kernel_rfl) (by kernel_rfl) (by kernel_rfl) (fun _ _ _ h => h) (Or.inl ⟨by rfl, fun w => ?hy36p_0q_7qqqqqq⟩) ?rest36p_0q_7qqqqqq
                          case hy36p_0q_7qqqqqq => go_simp; (first | done | (with_reducible rfl))
                          simp only [Act.put, List.setIfInBounds_toArray, List.set_cons_zero, List.set_cons_succ]
                          refine wpAny_take (i := 37) (oi := { dst := some 6, op := Go.Op.assign (Go.Operand.tmp 87), type := 4, pos := "law.go:90", after := #[{ on := 36, ground := Go.Ground.data }, { on := 27, ground := Go.Ground.chain }, { on := 0, ground := Go.Ground.phase }, { on := 1, ground := Go.Ground.phase }, { on := 2, ground := Go.Ground.phase }, { on := 3, ground := Go.Ground.phase }, { on := 4, ground := Go.Ground.phase }, { on := 5, ground := Go.Ground.phase }, { on := 6, ground := Go.Ground.phase }, { on := 7, ground := Go.Ground.phase }, { on := 8, ground := Go.Ground.phase }, { on := 9, ground := Go.Ground.phase }, { on := 10, ground := Go.Ground.phase }, { on := 11, ground := Go.Ground.phase }, { on := 12, ground := Go.Ground.phase }, { on := 13, ground := Go.Ground.phase }, { on := 14, ground := Go.Ground.phase }, { on := 15, ground := Go.Ground.phase }, { on := 16, ground := Go.Ground.phase }, { on := 17, ground := Go.Ground.phase }, { on := 18, ground := Go.Ground.phase }, { on := 19, ground := Go.Ground.phase }, { on := 20, ground := Go.Ground.phase }, { on := 21, ground := Go.Ground.phase }, { on := 22, ground := Go.Ground.phase }, { on := 23, ground := Go.Ground.phase }, { on := 24, ground := Go.Ground.phase }, { on := 25, ground := Go.Ground.phase }, { on := 26, ground := Go.Ground.phase }, { on := 27, ground := Go.Ground.phase }, { on := 28, ground := Go.Ground.phase }, { on := 29, ground := Go.Ground.phase }, { on := 30, ground := Go.Ground.phase }, { on := 31, ground := Go.Ground.phase }, { on := 32, ground := Go.Ground.phase }, { on := 33, ground := Go.Ground.phase }, { on := 34, ground := Go.Ground.phase }, { on := 35, ground := Go.Ground.phase }, { on := 36, ground := Go.Ground.phase }], guard := none }) (v := ?v37p_0q_7qqqqqq) rfl (by kernel_rfl) (by kernel_rfl) (by kernel_rfl) (fun _ _ _ h => h) (Or.inl ⟨by rfl, fun w => ?hy37p_0q_7qqqqqq⟩) ?rest37p_0q_7qqqqqq
                          case hy37p_0q_7qqqqqq => go_simp; (first | done | (with_reducible rfl))
                          simp only [Act.put, List.setIfInBounds_toArray, List.set_cons_zero, List.set_cons_succ]
                          refine wpAny_done (by kernel_rfl) ?_ _
                          go_wp2
                          go_ret
                          exact ⟨rfl, hB_107⟩
            ·
              go_simp
              refine hK _ _ ?_
              clear hK K
              try simp only [Act.put, List.setIfInBounds_toArray, List.set_cons_zero, List.set_cons_succ]
              change wpAny _ _ _ _ _ _ _ (World.alloc w102 (.cells #[.slice B la.length cb, .slice C lb.length cc] 22))
              have hb_110 := (Below.refl w102.heap.size w102).alloc (Nat.le_refl _) (.cells #[.slice B la.length cb, .slice C lb.length cc] 22)
              have C11_110 := arg2m_C w102 B C cb cc la lb Hcb.out Hcc.out (Kd.C_below HB.out hB_102) (Kd.C_below HC.out hB_102)
              obtain ⟨w110, hw_110⟩ : ∃ w110, World.alloc w102 (.cells #[.slice B la.length cb, .slice C lb.length cc] 22) = w110 := ⟨_, rfl⟩
              rw [hw_110] at hb_110 C11_110
              rw [hw_110]
              have hB_110 := hB_102.trans (hb_110.mono hB_102.size)
              have hA_110 := hA_102.below hb_110 hA_102.lt
              have hM_110 := hM_102.below hb_110 hM_102.lt
              have hH_110 := hH_102.below hb_110 hH_102.lt
              obtain ⟨s110, hs_110⟩ : ∃ s110, w102.heap.size = s110 := ⟨_, rfl⟩
              rw [hs_110] at C11_110
              rw [hs_110]
              clear hw_110 hs_110
              clear hb_110 hB_102 hA_102 hM_102 hH_102 
              refine wpAny_ready (rs := [7]) (by kernel_rfl) (by simp) ?_
              refine AllReady.cons (o := { dst := some 58, op := Go.Op.call { callee := Go.Callee.value (Go.Operand.func 44), args := #[Go.Operand.tmp 57], argTypes := #[60] }, type := 24, pos := "law.go:90", after := #[{ on := 6, ground := Go.Ground.data }, { on := 5, ground := Go.Ground.chain }, { on := 5, ground := Go.Ground.guard }], guard := some (5, true) }) rfl (fun K hK => ?_) (AllReady.nil)
              ·
                go_simp
                go_at_call 44
                refine (Seal_any mm h bl (D.all lb) w110 (HR.out.below hB_110 hpos.out) hM_110 hH_110 Hbll.out HDb.out).mono ?_
                rintro e w111 ⟨rfl, hb_111⟩
                rw [HDz.out]
                refine hK _ _ ?_
                clear hK K
                try simp only [Act.put, List.setIfInBounds_toArray, List.set_cons_zero, List.set_cons_succ]
                have hB_111 := hB_110.trans (hb_111.mono hB_110.size)
                have hA_111 := hA_110.below hb_111 hA_110.lt
                have hM_111 := hM_110.below hb_111 hM_110.lt
                have hH_111 := hH_110.below hb_111 hH_110.lt
                have C11_111 := Kd.C_below C11_110 hb_111
                clear hb_111 hB_110 hA_110 hM_110 hH_110 C11_110
                refine wpAny_ready (rs := [12]) (by kernel_rfl) (by simp) ?_
                refine AllReady.cons (o := { dst := some 63, op := Go.Op.call { callee := Go.Callee.value (Go.Operand.func 39), args := #[Go.Operand.tmp 59, Go.Operand.tmp 62], argTypes := #[22, 39] }, type := 24, pos := "law.go:90", after := #[{ on := 8, ground := Go.Ground.data }, { on := 11, ground := Go.Ground.data }, { on := 7, ground := Go.Ground.chain }, { on := 5, ground := Go.Ground.guard }], guard := some (5, true) }) rfl (fun K hK => ?_) (AllReady.nil)
                ·
                  go_simp
                  go_at_call 39
                  refine (MSum_any A ca l (some ⟨s110, 0, none⟩) 2 [la, lb] w111 (HR.out.below hB_111 hpos.out) (Kd.C_below HA.out hB_111) Hca.out Hl.out C11_111 Hfl.out).mono ?_
                  rintro e w112 ⟨rfl, hb_112⟩
                  rw [Hfz.out]
                  refine hK _ _ ?_
                  clear hK K
                  try simp only [Act.put, List.setIfInBounds_toArray, List.set_cons_zero, List.set_cons_succ]
                  have hB_112 := hB_111.trans (hb_112.mono hB_111.size)
                  have hA_112 := hA_111.below hb_112 hA_111.lt
                  have hM_112 := hM_111.below hb_112 hM_111.lt
                  have hH_112 := hH_111.below hb_112 hH_111.lt
                  clear hb_112 hB_111 hA_111 hM_111 hH_111 C11_111
                  refine wpAny_take (i := 13) (oi := { dst := some 64, op := Go.Op.binOp Go.BinOp.eql 24 (Go.Operand.tmp 58) (Go.Operand.tmp 63) 24, type := 4, pos := "law.go:90", after := #[{ on := 7, ground := Go.Ground.data }, { on := 12, ground := Go.Ground.data }, { on := 5, ground := Go.Ground.guard }], guard := some (5, true) }) (v := ?v13p_0q_11qq) rfl (by kernel_rfl) (by kernel_rfl) (by kernel_rfl) (fun _ _ _ h => h) (Or.inl ⟨by rfl, fun w => ?hy13p_0q_11qq⟩) ?rest13p_0q_11qq
                  case hy13p_0q_11qq => go_simp; (first | done | (with_reducible rfl))
                  simp only [Act.put, List.setIfInBounds_toArray, List.set_cons_zero, List.set_cons_succ]
                  refine wpAny_take (i := 14) (oi := { dst := some 65, op := Go.Op.pick (Go.Operand.tmp 56) (Go.Operand.tmp 64) (Go.Operand.const (Go.Value.bool false)), type := 4, pos := "law.go:90", after := #[{ on := 5, ground := Go.Ground.data }, { on := 13, ground := Go.Ground.data }], guard := none }) (v := ?v14p_0q_11qq) rfl (by kernel_rfl) (by kernel_rfl) (by kernel_rfl) (fun _ _ _ h => h) (Or.inl ⟨by rfl, fun w => ?hy14p_0q_11qq⟩) ?rest14p_0q_11qq
                  case hy14p_0q_11qq => go_simp; (first | done | (with_reducible rfl))
                  simp only [Act.put, List.setIfInBounds_toArray, List.set_cons_zero, List.set_cons_succ]
                  refine wpAny_take (i := 15) (oi := { dst := some 66, op := Go.Op.move (Go.Operand.tmp 65), type := 4, pos := "law.go:90", after := #[{ on := 14, ground := Go.Ground.data }, { on := 12, ground := Go.Ground.chain }], guard := none }) (v := ?v15p_0q_11qq) rfl (by kernel_rfl) (by kernel_rfl) (by kernel_rfl) (fun _ _ _ h => h) (Or.inl ⟨by rfl, fun w => ?hy15p_0q_11qq⟩) ?rest15p_0q_11qq
                  case hy15p_0q_11qq => go_simp; (first | done | (with_reducible rfl))
                  simp only [Act.put, List.setIfInBounds_toArray, List.set_cons_zero, List.set_cons_succ]
                  refine wpAny_take (i := 16) (oi := { dst := some 67, op := Go.Op.move (Go.Operand.tmp 7), type := 60, pos := "law.go:90", after := #[{ on := 15, ground := Go.Ground.guard }], guard := some (15, true) }) (v := ?v16p_0q_11qq) rfl (by kernel_rfl) (by kernel_rfl) (by kernel_rfl) (fun _ _ _ h => h) (Or.inl ⟨by rfl, fun w => ?hy16p_0q_11qq⟩) ?rest16p_0q_11qq
                  case hy16p_0q_11qq => go_simp; (first | done | (with_reducible rfl))
                  simp only [Act.put, List.setIfInBounds_toArray, List.set_cons_zero, List.set_cons_succ]
                  refine wpAny_take (i := 18) (oi := { dst := some 69, op := Go.Op.move (Go.Operand.tmp 7), type := 60, pos := "law.go:90", after := #[{ on := 15, ground := Go.Ground.guard }], guard := some (15, true) }) (v := ?v18p_0q_11qq) rfl (by kernel_rfl) (by kernel_rfl) (by kernel_rfl) (fun _ _ _ h => h) (Or.inl ⟨by rfl, fun w => ?hy18p_0q_11qq⟩) ?rest18p_0q_11qq
                  case hy18p_0q_11qq => go_simp; (first | done | (with_reducible rfl))
                  simp only [Act.put, List.setIfInBounds_toArray, List.set_cons_zero, List.set_cons_succ]
                  refine wpAny_ready (rs := [17]) (by kernel_rfl) (by simp) ?_
                  refine AllReady.cons (o := { dst := some 68, op := Go.Op.call { callee := Go.Callee.value (Go.Operand.func 44), args := #[Go.Operand.tmp 67], argTypes := #[60] }, type := 24, pos := "law.go:90", after := #[{ on := 16, ground := Go.Ground.data }, { on := 15, ground := Go.Ground.chain }, { on := 15, ground := Go.Ground.guard }], guard := some (15, true) }) rfl (fun K hK => ?_) (AllReady.nil)
                  ·
                    go_simp
                    go_at_call 44
                    refine (Seal_any mm h bl (D.all lb) w112 (HR.out.below hB_112 hpos.out) hM_112 hH_112 Hbll.out HDb.out).mono ?_
                    rintro e w113 ⟨rfl, hb_113⟩
                    rw [HDz.out]
                    refine hK _ _ ?_
                    clear hK K
                    try simp only [Act.put, List.setIfInBounds_toArray, List.set_cons_zero, List.set_cons_succ]
                    have hB_113 := hB_112.trans (hb_113.mono hB_112.size)
                    have hA_113 := hA_112.below hb_113 hA_112.lt
                    have hM_113 := hM_112.below hb_113 hM_112.lt
                    have hH_113 := hH_112.below hb_113 hH_112.lt
                    clear hb_113 hB_112 hA_112 hM_112 hH_112 
                    refine wpAny_ready (rs := [19]) (by kernel_rfl) (by simp) ?_
                    refine AllReady.cons (o := { dst := some 70, op := Go.Op.call { callee := Go.Callee.value (Go.Operand.func 44), args := #[Go.Operand.tmp 69], argTypes := #[60] }, type := 24, pos := "law.go:90", after := #[{ on := 18, ground := Go.Ground.data }, { on := 17, ground := Go.Ground.chain }, { on := 15, ground := Go.Ground.guard }], guard := some (15, true) }) rfl (fun K hK => ?_) (AllReady.nil)
                    ·
                      go_simp
                      go_at_call 44
                      refine (Seal_any mm h bl (D.all lb) w113 (HR.out.below hB_113 hpos.out) hM_113 hH_113 Hbll.out HDb.out).mono ?_
                      rintro e w114 ⟨rfl, hb_114⟩
                      rw [HDz.out]
                      refine hK _ _ ?_
                      clear hK K
                      try simp only [Act.put, List.setIfInBounds_toArray, List.set_cons_zero, List.set_cons_succ]
                      have hB_114 := hB_113.trans (hb_114.mono hB_113.size)
                      have hA_114 := hA_113.below hb_114 hA_113.lt
                      have hM_114 := hM_113.below hb_114 hM_113.lt
                      have hH_114 := hH_113.below hb_114 hH_113.lt
                      clear hb_114 hB_113 hA_113 hM_113 hH_113 
                      refine wpAny_take (i := 20) (oi := { dst := some 71, op := Go.Op.binOp Go.BinOp.eql 24 (Go.Operand.tmp 68) (Go.Operand.tmp 70) 24, type := 4, pos := "law.go:90", after := #[{ on := 17, ground := Go.Ground.data }, { on := 19, ground := Go.Ground.data }, { on := 15, ground := Go.Ground.guard }], guard := some (15, true) }) (v := ?v20p_0q_11qqqq) rfl (by kernel_rfl) (by kernel_rfl) (by kernel_rfl) (fun _ _ _ h => h) (Or.inl ⟨by rfl, fun w => ?hy20p_0q_11qqqq⟩) ?rest20p_0q_11qqqq
                      case hy20p_0q_11qqqq => go_simp; (first | done | (with_reducible rfl))
                      simp only [Act.put, List.setIfInBounds_toArray, List.set_cons_zero, List.set_cons_succ]
                      refine wpAny_take (i := 21) (oi := { dst := some 72, op := Go.Op.pick (Go.Operand.tmp 66) (Go.Operand.tmp 71) (Go.Operand.const (Go.Value.bool false)), type := 4, pos := "law.go:90", after := #[{ on := 15, ground := Go.Ground.data }, { on := 20, ground := Go.Ground.data }], guard := none }) (v := ?v21p_0q_11qqqq) rfl (by kernel_rfl) (by kernel_rfl) (by kernel_rfl) (fun _ _ _ h => h) (Or.inl ⟨by rfl, fun w => ?hy21p_0q_11qqqq⟩) ?rest21p_0q_11qqqq
                      case hy21p_0q_11qqqq => go_simp; (first | done | (with_reducible rfl))
                      simp only [Act.put, List.setIfInBounds_toArray, List.set_cons_zero, List.set_cons_succ]
                      refine wpAny_take (i := 22) (oi := { dst := some 73, op := Go.Op.move (Go.Operand.tmp 72), type := 4, pos := "law.go:90", after := #[{ on := 21, ground := Go.Ground.data }, { on := 19, ground := Go.Ground.chain }], guard := none }) (v := ?v22p_0q_11qqqq) rfl (by kernel_rfl) (by kernel_rfl) (by kernel_rfl) (fun _ _ _ h => h) (Or.inl ⟨by rfl, fun w => ?hy22p_0q_11qqqq⟩) ?rest22p_0q_11qqqq
                      case hy22p_0q_11qqqq => go_simp; (first | done | (with_reducible rfl))
                      simp only [Act.put, List.setIfInBounds_toArray, List.set_cons_zero, List.set_cons_succ]
                      refine wpAny_take (i := 23) (oi := { dst := some 74, op := Go.Op.move (Go.Operand.tmp 7), type := 60, pos := "law.go:90", after := #[{ on := 22, ground := Go.Ground.guard }], guard := some (22, true) }) (v := ?v23p_0q_11qqqq) rfl (by kernel_rfl) (by kernel_rfl) (by kernel_rfl) (fun _ _ _ h => h) (Or.inl ⟨by rfl, fun w => ?hy23p_0q_11qqqq⟩) ?rest23p_0q_11qqqq
                      case hy23p_0q_11qqqq => go_simp; (first | done | (with_reducible rfl))
                      simp only [Act.put, List.setIfInBounds_toArray, List.set_cons_zero, List.set_cons_succ]
                      refine wpAny_take (i := 24) (oi := { dst := some 75, op := Go.Op.nilCheck (Go.Operand.tmp 74), type := 0, pos := "law.go:90", after := #[{ on := 23, ground := Go.Ground.data }, { on := 22, ground := Go.Ground.guard }], guard := some (22, true) }) (v := ?v24p_0q_11qqqq) rfl (by kernel_rfl) (by kernel_rfl) (by kernel_rfl) (fun _ _ _ h => h) (Or.inl ⟨by rfl, fun w => ?hy24p_0q_11qqqq⟩) ?rest24p_0q_11qqqq
                      case hy24p_0q_11qqqq => go_simp; (first | done | (with_reducible rfl))
                      simp only [Act.put, List.setIfInBounds_toArray, List.set_cons_zero, List.set_cons_succ]
                      refine wpAny_take (i := 25) (oi := { dst := some 76, op := Go.Op.fieldAddr 63 (Go.Operand.tmp 75) 0, type := 0, pos := "law.go:90", after := #[{ on := 24, ground := Go.Ground.data }, { on := 22, ground := Go.Ground.guard }], guard := some (22, true) }) (v := ?v25p_0q_11qqqq) rfl (by kernel_rfl) (by kernel_rfl) (by kernel_rfl) (fun _ _ _ h => h) (Or.inl ⟨by rfl, fun w => ?hy25p_0q_11qqqq⟩) ?rest25p_0q_11qqqq
                      case hy25p_0q_11qqqq => go_simp; (first | done | (with_reducible rfl))
                      simp only [Act.put, List.setIfInBounds_toArray, List.set_cons_zero, List.set_cons_succ]
                      refine wpAny_take (i := 28) (oi := { dst := some 79, op := Go.Op.move (Go.Operand.tmp 1), type := 22, pos := "law.go:90", after := #[{ on := 22, ground := Go.Ground.guard }], guard := some (22, true) }) (v := ?v28p_0q_11qqqq) rfl (by kernel_rfl) (by kernel_rfl) (by kernel_rfl) (fun _ _ _ h => h) (Or.inl ⟨by rfl, fun w => ?hy28p_0q_11qqqq⟩) ?rest28p_0q_11qqqq
                      case hy28p_0q_11qqqq => go_simp; (first | done | (with_reducible rfl))
                      simp only [Act.put, List.setIfInBounds_toArray, List.set_cons_zero, List.set_cons_succ]
                      refine wpAny_take (i := 29) (oi := { dst := some 80, op := Go.Op.call { callee := Go.Callee.builtin Go.Builtin.len, args := #[Go.Operand.tmp 79], argTypes := #[22] }, type := 3, pos := "law.go:90", after := #[{ on := 28, ground := Go.Ground.data }, { on := 22, ground := Go.Ground.guard }], guard := some (22, true) }) (v := ?v29p_0q_11qqqq) rfl (by kernel_rfl) (by kernel_rfl) (by kernel_rfl) (fun _ _ _ h => h) (Or.inl ⟨by rfl, fun w => ?hy29p_0q_11qqqq⟩) ?rest29p_0q_11qqqq
                      case hy29p_0q_11qqqq => go_simp; (first | done | (with_reducible rfl))
                      simp only [Act.put, List.setIfInBounds_toArray, List.set_cons_zero, List.set_cons_succ]
                      refine wpAny_take (i := 30) (oi := { dst := some 81, op := Go.Op.binOp Go.BinOp.add 3 (Go.Operand.const (Go.Value.int Go.IntKind.i64 64)) (Go.Operand.tmp 80) 3, type := 3, pos := "law.go:90", after := #[{ on := 29, ground := Go.Ground.data }, { on := 22, ground := Go.Ground.guard }], guard := some (22, true) }) (v := ?v30p_0q_11qqqq) rfl (by kernel_rfl) (by kernel_rfl) (by kernel_rfl) (fun _ _ _ h => h) (Or.inl ⟨by rfl, fun w => ?hy30p_0q_11qqqq⟩) ?rest30p_0q_11qqqq
                      case hy30p_0q_11qqqq => go_simp; (first | done | (with_reducible rfl))
                      simp only [Act.put, List.setIfInBounds_toArray, List.set_cons_zero, List.set_cons_succ]
                      refine wpAny_take (i := 31) (oi := { dst := some 82, op := Go.Op.move (Go.Operand.tmp 2), type := 22, pos := "law.go:90", after := #[{ on := 22, ground := Go.Ground.guard }], guard := some (22, true) }) (v := ?v31p_0q_11qqqq) rfl (by kernel_rfl) (by kernel_rfl) (by kernel_rfl) (fun _ _ _ h => h) (Or.inl ⟨by rfl, fun w => ?hy31p_0q_11qqqq⟩) ?rest31p_0q_11qqqq
                      case hy31p_0q_11qqqq => go_simp; (first | done | (with_reducible rfl))
                      simp only [Act.put, List.setIfInBounds_toArray, List.set_cons_zero, List.set_cons_succ]
                      refine wpAny_take (i := 32) (oi := { dst := some 83, op := Go.Op.call { callee := Go.Callee.builtin Go.Builtin.len, args := #[Go.Operand.tmp 82], argTypes := #[22] }, type := 3, pos := "law.go:90", after := #[{ on := 31, ground := Go.Ground.data }, { on := 22, ground := Go.Ground.guard }], guard := some (22, true) }) (v := ?v32p_0q_11qqqq) rfl (by kernel_rfl) (by kernel_rfl) (by kernel_rfl) (fun _ _ _ h => h) (Or.inl ⟨by rfl, fun w => ?hy32p_0q_11qqqq⟩) ?rest32p_0q_11qqqq
                      case hy32p_0q_11qqqq => go_simp; (first | done | (with_reducible rfl))
                      simp only [Act.put, List.setIfInBounds_toArray, List.set_cons_zero, List.set_cons_succ]
                      refine wpAny_take (i := 33) (oi := { dst := some 84, op := Go.Op.binOp Go.BinOp.add 3 (Go.Operand.tmp 81) (Go.Operand.tmp 83) 3, type := 3, pos := "law.go:90", after := #[{ on := 30, ground := Go.Ground.data }, { on := 32, ground := Go.Ground.data }, { on := 22, ground := Go.Ground.guard }], guard := some (22, true) }) (v := ?v33p_0q_11qqqq) rfl (by kernel_rfl) (by kernel_rfl) (by kernel_rfl) (fun _ _ _ h => h) (Or.inl ⟨by rfl, fun w => ?hy33p_0q_11qqqq⟩) ?rest33p_0q_11qqqq
                      case hy33p_0q_11qqqq => go_simp; (first | done | (with_reducible rfl))
                      simp only [Act.put, List.setIfInBounds_toArray, List.set_cons_zero, List.set_cons_succ]
                      refine wpAny_take (i := 34) (oi := { dst := some 85, op := Go.Op.convert 3 31 (Go.Operand.tmp 84), type := 31, pos := "law.go:90", after := #[{ on := 33, ground := Go.Ground.data }, { on := 22, ground := Go.Ground.guard }], guard := some (22, true) }) (v := ?v34p_0q_11qqqq) rfl (by kernel_rfl) (by kernel_rfl) (by kernel_rfl) (fun _ _ _ h => h) (Or.inl ⟨by rfl, fun w => ?hy34p_0q_11qqqq⟩) ?rest34p_0q_11qqqq
                      case hy34p_0q_11qqqq => go_simp; (first | done | (with_reducible rfl))
                      simp only [Act.put, List.setIfInBounds_toArray, List.set_cons_zero, List.set_cons_succ]
                      refine wpAny_ready (rs := [26]) (by kernel_rfl) (by simp) ?_
                      refine AllReady.cons (o := { dst := some 77, op := Go.Op.load 45 (Go.Operand.tmp 76), type := 45, pos := "law.go:90", after := #[{ on := 25, ground := Go.Ground.data }, { on := 22, ground := Go.Ground.guard }], guard := some (22, true) }) rfl (fun K hK => ?_) (AllReady.nil)
                      ·
                        rw [if_pos (by rfl)]
                        have c0 := hM_114.c0; go_simp
                        clear c0
                        refine hK _ _ ?_
                        clear hK K
                        try simp only [Act.put, List.setIfInBounds_toArray, List.set_cons_zero, List.set_cons_succ]
                        refine wpAny_ready (rs := [27]) (by kernel_rfl) (by simp) ?_
                        refine AllReady.cons (o := { dst := some 78, op := Go.Op.call { callee := Go.Callee.value (Go.Operand.func 32), args := #[Go.Operand.tmp 77], argTypes := #[45] }, type := 31, pos := "law.go:90", after := #[{ on := 26, ground := Go.Ground.data }, { on := 22, ground := Go.Ground.chain }, { on := 22, ground := Go.Ground.guard }], guard := some (22, true) }) rfl (fun K hK => ?_) (AllReady.nil)
                        ·
                          go_simp
                          go_at_call 32
                          refine (Len_any h _ _ _ _ hH_114).mono ?_
                          rintro e w116 ⟨rfl, hw_116⟩
                          subst hw_116
                          rw [HDn2.out]
                          refine hK _ _ ?_
                          clear hK K
                          try simp only [Act.put, List.setIfInBounds_toArray, List.set_cons_zero, List.set_cons_succ]
                          refine wpAny_take (i := 35) (oi := { dst := some 86, op := Go.Op.binOp Go.BinOp.eql 31 (Go.Operand.tmp 78) (Go.Operand.tmp 85) 31, type := 4, pos := "law.go:90", after := #[{ on := 27, ground := Go.Ground.data }, { on := 34, ground := Go.Ground.data }, { on := 22, ground := Go.Ground.guard }], guard := some (22, true) }) (v := ?v35p_0q_11qqqqqq) rfl (by kernel_rfl) (by kernel_rfl) (by kernel_rfl) (fun _ _ _ h => h) (Or.inl ⟨by rfl, fun w => ?hy35p_0q_11qqqqqq⟩) ?rest35p_0q_11qqqqqq
                          case hy35p_0q_11qqqqqq => go_simp; (first | done | (with_reducible rfl))
                          simp only [Act.put, List.setIfInBounds_toArray, List.set_cons_zero, List.set_cons_succ]
                          refine wpAny_take (i := 36) (oi := { dst := some 87, op := Go.Op.pick (Go.Operand.tmp 73) (Go.Operand.tmp 86) (Go.Operand.const (Go.Value.bool false)), type := 4, pos := "law.go:90", after := #[{ on := 22, ground := Go.Ground.data }, { on := 35, ground := Go.Ground.data }], guard := none }) (v := ?v36p_0q_11qqqqqq) rfl (by kernel_rfl) (by kernel_rfl) (by kernel_rfl) (fun _ _ _ h => h) (Or.inl ⟨by rfl, fun w => ?hy36p_0q_11qqqqqq⟩) ?rest36p_0q_11qqqqqq
                          case hy36p_0q_11qqqqqq => go_simp; (first | done | (with_reducible rfl))
                          simp only [Act.put, List.setIfInBounds_toArray, List.set_cons_zero, List.set_cons_succ]
                          refine wpAny_take (i := 37) (oi := { dst := some 6, op := Go.Op.assign (Go.Operand.tmp 87), type := 4, pos := "law.go:90", after := #[{ on := 36, ground := Go.Ground.data }, { on := 27, ground := Go.Ground.chain }, { on := 0, ground := Go.Ground.phase }, { on := 1, ground := Go.Ground.phase }, { on := 2, ground := Go.Ground.phase }, { on := 3, ground := Go.Ground.phase }, { on := 4, ground := Go.Ground.phase }, { on := 5, ground := Go.Ground.phase }, { on := 6, ground := Go.Ground.phase }, { on := 7, ground := Go.Ground.phase }, { on := 8, ground := Go.Ground.phase }, { on := 9, ground := Go.Ground.phase }, { on := 10, ground := Go.Ground.phase }, { on := 11, ground := Go.Ground.phase }, { on := 12, ground := Go.Ground.phase }, { on := 13, ground := Go.Ground.phase }, { on := 14, ground := Go.Ground.phase }, { on := 15, ground := Go.Ground.phase }, { on := 16, ground := Go.Ground.phase }, { on := 17, ground := Go.Ground.phase }, { on := 18, ground := Go.Ground.phase }, { on := 19, ground := Go.Ground.phase }, { on := 20, ground := Go.Ground.phase }, { on := 21, ground := Go.Ground.phase }, { on := 22, ground := Go.Ground.phase }, { on := 23, ground := Go.Ground.phase }, { on := 24, ground := Go.Ground.phase }, { on := 25, ground := Go.Ground.phase }, { on := 26, ground := Go.Ground.phase }, { on := 27, ground := Go.Ground.phase }, { on := 28, ground := Go.Ground.phase }, { on := 29, ground := Go.Ground.phase }, { on := 30, ground := Go.Ground.phase }, { on := 31, ground := Go.Ground.phase }, { on := 32, ground := Go.Ground.phase }, { on := 33, ground := Go.Ground.phase }, { on := 34, ground := Go.Ground.phase }, { on := 35, ground := Go.Ground.phase }, { on := 36, ground := Go.Ground.phase }], guard := none }) (v := ?v37p_0q_11qqqqqq) rfl (by kernel_rfl) (by kernel_rfl) (by kernel_rfl) (fun _ _ _ h => h) (Or.inl ⟨by rfl, fun w => ?hy37p_0q_11qqqqqq⟩) ?rest37p_0q_11qqqqqq
                          case hy37p_0q_11qqqqqq => go_simp; (first | done | (with_reducible rfl))
                          simp only [Act.put, List.setIfInBounds_toArray, List.set_cons_zero, List.set_cons_succ]
                          refine wpAny_done (by kernel_rfl) ?_ _
                          go_wp2
                          go_ret
                          exact ⟨rfl, hB_114⟩
        ·
          go_simp
          go_at_call 40
          refine (rMSum_any A B ca cb l la w50 Hl8.out Ha8.out (Kd.C_below HA.out hB_50) Hca.out Hl.out (Kd.C_below HB.out hB_50) Hla2.out).mono ?_
          rintro e w117 ⟨rfl, hb_117⟩
          rw [Hys.out]
          refine hK _ _ ?_
          clear hK K
          try simp only [Act.put, List.setIfInBounds_toArray, List.set_cons_zero, List.set_cons_succ]
          have hB_117 := hB_50.trans (hb_117.mono hB_50.size)
          have hA_117 := hA_50.below hb_117 hA_50.lt
          have hM_117 := hM_50.below hb_117 hM_50.lt
          have hH_117 := hH_50.below hb_117 hH_50.lt
          clear hb_117 hB_50 hA_50 hM_50 hH_50 
          refine wpAny_ready (rs := [0]) (by kernel_rfl) (by simp) ?_
          refine AllReady.cons (o := { dst := some 51, op := Go.Op.load 24 (Go.Operand.tmp 8), type := 24, pos := "law.go:90", after := #[], guard := none }) rfl (fun K hK => ?_) (AllReady.nil)
          ·
            rw [if_pos (by rfl)]
            refine wp_load_mid 24 (.tmp 8) rfl xk 0 rfl (ys.map (Value.int .u8)) _ (arr_range hA_117) Tryd.underlying24 rfl (by rw [List.length_map, Hyl.out]; kernel_rfl) ?_
            rw [show (Value.agg (ys.map (Value.int .u8)).toArray) = AV .u8 ys from rfl]
            refine hK _ _ ?_
            clear hK K
            try simp only [Act.put, List.setIfInBounds_toArray, List.set_cons_zero, List.set_cons_succ]
            refine wpAny_take (i := 4) (oi := { dst := some 55, op := Go.Op.binOp Go.BinOp.eql 24 (Go.Operand.tmp 51) (Go.Operand.tmp 54) 24, type := 4, pos := "law.go:90", after := #[{ on := 0, ground := Go.Ground.data }, { on := 3, ground := Go.Ground.data }], guard := none }) (v := ?v4p_3q) rfl (by kernel_rfl) (by kernel_rfl) (by kernel_rfl) (fun _ _ _ h => h) (Or.inl ⟨by rfl, fun w => ?hy4p_3q⟩) ?rest4p_3q
            case hy4p_3q => go_simp; (first | done | (with_reducible rfl))
            simp only [Act.put, List.setIfInBounds_toArray, List.set_cons_zero, List.set_cons_succ]
            refine wpAny_take (i := 5) (oi := { dst := some 56, op := Go.Op.move (Go.Operand.tmp 55), type := 4, pos := "law.go:90", after := #[{ on := 4, ground := Go.Ground.data }, { on := 3, ground := Go.Ground.chain }], guard := none }) (v := ?v5p_3q) rfl (by kernel_rfl) (by kernel_rfl) (by kernel_rfl) (fun _ _ _ h => h) (Or.inl ⟨by rfl, fun w => ?hy5p_3q⟩) ?rest5p_3q
            case hy5p_3q => go_simp; (first | done | (with_reducible rfl))
            simp only [Act.put, List.setIfInBounds_toArray, List.set_cons_zero, List.set_cons_succ]
            refine wpAny_take (i := 6) (oi := { dst := some 57, op := Go.Op.move (Go.Operand.tmp 7), type := 60, pos := "law.go:90", after := #[{ on := 5, ground := Go.Ground.guard }], guard := some (5, true) }) (v := ?v6p_3q) rfl (by kernel_rfl) (by kernel_rfl) (by kernel_rfl) (fun _ _ _ h => h) (Or.inl ⟨by rfl, fun w => ?hy6p_3q⟩) ?rest6p_3q
            case hy6p_3q => go_simp; (first | done | (with_reducible rfl))
            simp only [Act.put, List.setIfInBounds_toArray, List.set_cons_zero, List.set_cons_succ]
            refine wpAny_take (i := 8) (oi := { dst := some 59, op := Go.Op.move (Go.Operand.tmp 0), type := 22, pos := "law.go:90", after := #[{ on := 5, ground := Go.Ground.guard }], guard := some (5, true) }) (v := ?v8p_3q) rfl (by kernel_rfl) (by kernel_rfl) (by kernel_rfl) (fun _ _ _ h => h) (Or.inl ⟨by rfl, fun w => ?hy8p_3q⟩) ?rest8p_3q
            case hy8p_3q => go_simp; (first | done | (with_reducible rfl))
            simp only [Act.put, List.setIfInBounds_toArray, List.set_cons_zero, List.set_cons_succ]
            refine wpAny_take (i := 9) (oi := { dst := some 60, op := Go.Op.move (Go.Operand.tmp 1), type := 22, pos := "law.go:90", after := #[{ on := 5, ground := Go.Ground.guard }], guard := some (5, true) }) (v := ?v9p_3q) rfl (by kernel_rfl) (by kernel_rfl) (by kernel_rfl) (fun _ _ _ h => h) (Or.inl ⟨by rfl, fun w => ?hy9p_3q⟩) ?rest9p_3q
            case hy9p_3q => go_simp; (first | done | (with_reducible rfl))
            simp only [Act.put, List.setIfInBounds_toArray, List.set_cons_zero, List.set_cons_succ]
            refine wpAny_take (i := 10) (oi := { dst := some 61, op := Go.Op.move (Go.Operand.tmp 2), type := 22, pos := "law.go:90", after := #[{ on := 5, ground := Go.Ground.guard }], guard := some (5, true) }) (v := ?v10p_3q) rfl (by kernel_rfl) (by kernel_rfl) (by kernel_rfl) (fun _ _ _ h => h) (Or.inl ⟨by rfl, fun w => ?hy10p_3q⟩) ?rest10p_3q
            case hy10p_3q => go_simp; (first | done | (with_reducible rfl))
            simp only [Act.put, List.setIfInBounds_toArray, List.set_cons_zero, List.set_cons_succ]
            refine wpAny_ready (rs := [7, 11]) (by kernel_rfl) (by simp) ?_
            refine AllReady.cons (o := { dst := some 58, op := Go.Op.call { callee := Go.Callee.value (Go.Operand.func 44), args := #[Go.Operand.tmp 57], argTypes := #[60] }, type := 24, pos := "law.go:90", after := #[{ on := 6, ground := Go.Ground.data }, { on := 5, ground := Go.Ground.chain }, { on := 5, ground := Go.Ground.guard }], guard := some (5, true) }) rfl (fun K hK => ?_) (AllReady.cons (o := { dst := some 62, op := Go.Op.buildSlice 39 2 #[(0, Go.Operand.tmp 60), (1, Go.Operand.tmp 61)], type := 39, pos := "law.go:90", after := #[{ on := 9, ground := Go.Ground.data }, { on := 10, ground := Go.Ground.data }, { on := 5, ground := Go.Ground.guard }], guard := some (5, true) }) rfl (fun K hK => ?_) (AllReady.nil))
            ·
              go_simp
              go_at_call 44
              refine (Seal_any mm h bl (D.all lb) w117 (HR.out.below hB_117 hpos.out) hM_117 hH_117 Hbll.out HDb.out).mono ?_
              rintro e w119 ⟨rfl, hb_119⟩
              rw [HDz.out]
              refine hK _ _ ?_
              clear hK K
              try simp only [Act.put, List.setIfInBounds_toArray, List.set_cons_zero, List.set_cons_succ]
              have hB_119 := hB_117.trans (hb_119.mono hB_117.size)
              have hA_119 := hA_117.below hb_119 hA_117.lt
              have hM_119 := hM_117.below hb_119 hM_117.lt
              have hH_119 := hH_117.below hb_119 hH_117.lt
              clear hb_119 hB_117 hA_117 hM_117 hH_117 
              refine wpAny_ready (rs := [11]) (by kernel_rfl) (by simp) ?_
              refine AllReady.cons (o := { dst := some 62, op := Go.Op.buildSlice 39 2 #[(0, Go.Operand.tmp 60), (1, Go.Operand.tmp 61)], type := 39, pos := "law.go:90", after := #[{ on := 9, ground := Go.Ground.data }, { on := 10, ground := Go.Ground.data }, { on := 5, ground := Go.Ground.guard }], guard := some (5, true) }) rfl (fun K hK => ?_) (AllReady.nil)
              ·
                go_simp
                refine hK _ _ ?_
                clear hK K
                try simp only [Act.put, List.setIfInBounds_toArray, List.set_cons_zero, List.set_cons_succ]
                change wpAny _ _ _ _ _ _ _ (World.alloc w119 (.cells #[.slice B la.length cb, .slice C lb.length cc] 22))
                have hb_120 := (Below.refl w119.heap.size w119).alloc (Nat.le_refl _) (.cells #[.slice B la.length cb, .slice C lb.length cc] 22)
                have C11_120 := arg2m_C w119 B C cb cc la lb Hcb.out Hcc.out (Kd.C_below HB.out hB_119) (Kd.C_below HC.out hB_119)
                obtain ⟨w120, hw_120⟩ : ∃ w120, World.alloc w119 (.cells #[.slice B la.length cb, .slice C lb.length cc] 22) = w120 := ⟨_, rfl⟩
                rw [hw_120] at hb_120 C11_120
                rw [hw_120]
                have hB_120 := hB_119.trans (hb_120.mono hB_119.size)
                have hA_120 := hA_119.below hb_120 hA_119.lt
                have hM_120 := hM_119.below hb_120 hM_119.lt
                have hH_120 := hH_119.below hb_120 hH_119.lt
                obtain ⟨s120, hs_120⟩ : ∃ s120, w119.heap.size = s120 := ⟨_, rfl⟩
                rw [hs_120] at C11_120
                rw [hs_120]
                clear hw_120 hs_120
                clear hb_120 hB_119 hA_119 hM_119 hH_119 
                refine wpAny_ready (rs := [12]) (by kernel_rfl) (by simp) ?_
                refine AllReady.cons (o := { dst := some 63, op := Go.Op.call { callee := Go.Callee.value (Go.Operand.func 39), args := #[Go.Operand.tmp 59, Go.Operand.tmp 62], argTypes := #[22, 39] }, type := 24, pos := "law.go:90", after := #[{ on := 8, ground := Go.Ground.data }, { on := 11, ground := Go.Ground.data }, { on := 7, ground := Go.Ground.chain }, { on := 5, ground := Go.Ground.guard }], guard := some (5, true) }) rfl (fun K hK => ?_) (AllReady.nil)
                ·
                  go_simp
                  go_at_call 39
                  refine (MSum_any A ca l (some ⟨s120, 0, none⟩) 2 [la, lb] w120 (HR.out.below hB_120 hpos.out) (Kd.C_below HA.out hB_120) Hca.out Hl.out C11_120 Hfl.out).mono ?_
                  rintro e w121 ⟨rfl, hb_121⟩
                  rw [Hfz.out]
                  refine hK _ _ ?_
                  clear hK K
                  try simp only [Act.put, List.setIfInBounds_toArray, List.set_cons_zero, List.set_cons_succ]
                  have hB_121 := hB_120.trans (hb_121.mono hB_120.size)
                  have hA_121 := hA_120.below hb_121 hA_120.lt
                  have hM_121 := hM_120.below hb_121 hM_120.lt
                  have hH_121 := hH_120.below hb_121 hH_120.lt
                  clear hb_121 hB_120 hA_120 hM_120 hH_120 C11_120
                  refine wpAny_take (i := 13) (oi := { dst := some 64, op := Go.Op.binOp Go.BinOp.eql 24 (Go.Operand.tmp 58) (Go.Operand.tmp 63) 24, type := 4, pos := "law.go:90", after := #[{ on := 7, ground := Go.Ground.data }, { on := 12, ground := Go.Ground.data }, { on := 5, ground := Go.Ground.guard }], guard := some (5, true) }) (v := ?v13p_3q_7qq) rfl (by kernel_rfl) (by kernel_rfl) (by kernel_rfl) (fun _ _ _ h => h) (Or.inl ⟨by rfl, fun w => ?hy13p_3q_7qq⟩) ?rest13p_3q_7qq
                  case hy13p_3q_7qq => go_simp; (first | done | (with_reducible rfl))
                  simp only [Act.put, List.setIfInBounds_toArray, List.set_cons_zero, List.set_cons_succ]
                  refine wpAny_take (i := 14) (oi := { dst := some 65, op := Go.Op.pick (Go.Operand.tmp 56) (Go.Operand.tmp 64) (Go.Operand.const (Go.Value.bool false)), type := 4, pos := "law.go:90", after := #[{ on := 5, ground := Go.Ground.data }, { on := 13, ground := Go.Ground.data }], guard := none }) (v := ?v14p_3q_7qq) rfl (by kernel_rfl) (by kernel_rfl) (by kernel_rfl) (fun _ _ _ h => h) (Or.inl ⟨by rfl, fun w => ?hy14p_3q_7qq⟩) ?rest14p_3q_7qq
                  case hy14p_3q_7qq => go_simp; (first | done | (with_reducible rfl))
                  simp only [Act.put, List.setIfInBounds_toArray, List.set_cons_zero, List.set_cons_succ]
                  refine wpAny_take (i := 15) (oi := { dst := some 66, op := Go.Op.move (Go.Operand.tmp 65), type := 4, pos := "law.go:90", after := #[{ on := 14, ground := Go.Ground.data }, { on := 12, ground := Go.Ground.chain }], guard := none }) (v := ?v15p_3q_7qq) rfl (by kernel_rfl) (by kernel_rfl) (by kernel_rfl) (fun _ _ _ h => h) (Or.inl ⟨by rfl, fun w => ?hy15p_3q_7qq⟩) ?rest15p_3q_7qq
                  case hy15p_3q_7qq => go_simp; (first | done | (with_reducible rfl))
                  simp only [Act.put, List.setIfInBounds_toArray, List.set_cons_zero, List.set_cons_succ]
                  refine wpAny_take (i := 16) (oi := { dst := some 67, op := Go.Op.move (Go.Operand.tmp 7), type := 60, pos := "law.go:90", after := #[{ on := 15, ground := Go.Ground.guard }], guard := some (15, true) }) (v := ?v16p_3q_7qq) rfl (by kernel_rfl) (by kernel_rfl) (by kernel_rfl) (fun _ _ _ h => h) (Or.inl ⟨by rfl, fun w => ?hy16p_3q_7qq⟩) ?rest16p_3q_7qq
                  case hy16p_3q_7qq => go_simp; (first | done | (with_reducible rfl))
                  simp only [Act.put, List.setIfInBounds_toArray, List.set_cons_zero, List.set_cons_succ]
                  refine wpAny_take (i := 18) (oi := { dst := some 69, op := Go.Op.move (Go.Operand.tmp 7), type := 60, pos := "law.go:90", after := #[{ on := 15, ground := Go.Ground.guard }], guard := some (15, true) }) (v := ?v18p_3q_7qq) rfl (by kernel_rfl) (by kernel_rfl) (by kernel_rfl) (fun _ _ _ h => h) (Or.inl ⟨by rfl, fun w => ?hy18p_3q_7qq⟩) ?rest18p_3q_7qq
                  case hy18p_3q_7qq => go_simp; (first | done | (with_reducible rfl))
                  simp only [Act.put, List.setIfInBounds_toArray, List.set_cons_zero, List.set_cons_succ]
                  refine wpAny_ready (rs := [17]) (by kernel_rfl) (by simp) ?_
                  refine AllReady.cons (o := { dst := some 68, op := Go.Op.call { callee := Go.Callee.value (Go.Operand.func 44), args := #[Go.Operand.tmp 67], argTypes := #[60] }, type := 24, pos := "law.go:90", after := #[{ on := 16, ground := Go.Ground.data }, { on := 15, ground := Go.Ground.chain }, { on := 15, ground := Go.Ground.guard }], guard := some (15, true) }) rfl (fun K hK => ?_) (AllReady.nil)
                  ·
                    go_simp
                    go_at_call 44
                    refine (Seal_any mm h bl (D.all lb) w121 (HR.out.below hB_121 hpos.out) hM_121 hH_121 Hbll.out HDb.out).mono ?_
                    rintro e w122 ⟨rfl, hb_122⟩
                    rw [HDz.out]
                    refine hK _ _ ?_
                    clear hK K
                    try simp only [Act.put, List.setIfInBounds_toArray, List.set_cons_zero, List.set_cons_succ]
                    have hB_122 := hB_121.trans (hb_122.mono hB_121.size)
                    have hA_122 := hA_121.below hb_122 hA_121.lt
                    have hM_122 := hM_121.below hb_122 hM_121.lt
                    have hH_122 := hH_121.below hb_122 hH_121.lt
                    clear hb_122 hB_121 hA_121 hM_121 hH_121 
                    refine wpAny_ready (rs := [19]) (by kernel_rfl) (by simp) ?_
                    refine AllReady.cons (o := { dst := some 70, op := Go.Op.call { callee := Go.Callee.value (Go.Operand.func 44), args := #[Go.Operand.tmp 69], argTypes := #[60] }, type := 24, pos := "law.go:90", after := #[{ on := 18, ground := Go.Ground.data }, { on := 17, ground := Go.Ground.chain }, { on := 15, ground := Go.Ground.guard }], guard := some (15, true) }) rfl (fun K hK => ?_) (AllReady.nil)
                    ·
                      go_simp
                      go_at_call 44
                      refine (Seal_any mm h bl (D.all lb) w122 (HR.out.below hB_122 hpos.out) hM_122 hH_122 Hbll.out HDb.out).mono ?_
                      rintro e w123 ⟨rfl, hb_123⟩
                      rw [HDz.out]
                      refine hK _ _ ?_
                      clear hK K
                      try simp only [Act.put, List.setIfInBounds_toArray, List.set_cons_zero, List.set_cons_succ]
                      have hB_123 := hB_122.trans (hb_123.mono hB_122.size)
                      have hA_123 := hA_122.below hb_123 hA_122.lt
                      have hM_123 := hM_122.below hb_123 hM_122.lt
                      have hH_123 := hH_122.below hb_123 hH_122.lt
                      clear hb_123 hB_122 hA_122 hM_122 hH_122 
                      refine wpAny_take (i := 20) (oi := { dst := some 71, op := Go.Op.binOp Go.BinOp.eql 24 (Go.Operand.tmp 68) (Go.Operand.tmp 70) 24, type := 4, pos := "law.go:90", after := #[{ on := 17, ground := Go.Ground.data }, { on := 19, ground := Go.Ground.data }, { on := 15, ground := Go.Ground.guard }], guard := some (15, true) }) (v := ?v20p_3q_7qqqq) rfl (by kernel_rfl) (by kernel_rfl) (by kernel_rfl) (fun _ _ _ h => h) (Or.inl ⟨by rfl, fun w => ?hy20p_3q_7qqqq⟩) ?rest20p_3q_7qqqq
                      case hy20p_3q_7qqqq => go_simp; (first | done | (with_reducible rfl))
                      simp only [Act.put, List.setIfInBounds_toArray, List.set_cons_zero, List.set_cons_succ]
                      refine wpAny_take (i := 21) (oi := { dst := some 72, op := Go.Op.pick (Go.Operand.tmp 66) (Go.Operand.tmp 71) (Go.Operand.const (Go.Value.bool false)), type := 4, pos := "law.go:90", after := #[{ on := 15, ground := Go.Ground.data }, { on := 20, ground := Go.Ground.data }], guard := none }) (v := ?v21p_3q_7qqqq) rfl (by kernel_rfl) (by kernel_rfl) (by kernel_rfl) (fun _ _ _ h => h) (Or.inl ⟨by rfl, fun w => ?hy21p_3q_7qqqq⟩) ?rest21p_3q_7qqqq
                      case hy21p_3q_7qqqq => go_simp; (first | done | (with_reducible rfl))
                      simp only [Act.put, List.setIfInBounds_toArray, List.set_cons_zero, List.set_cons_succ]
                      refine wpAny_take (i := 22) (oi := { dst := some 73, op := Go.Op.move (Go.Operand.tmp 72), type := 4, pos := "law.go:90", after := #[{ on := 21, ground := Go.Ground.data }, { on := 19, ground := Go.Ground.chain }], guard := none }) (v := ?v22p_3q_7qqqq) rfl (by kernel_rfl) (by kernel_rfl) (by kernel_rfl) (fun _ _ _ h => h) (Or.inl ⟨by rfl, fun w => ?hy22p_3q_7qqqq⟩) ?rest22p_3q_7qqqq
                      case hy22p_3q_7qqqq => go_simp; (first | done | (with_reducible rfl))
                      simp only [Act.put, List.setIfInBounds_toArray, List.set_cons_zero, List.set_cons_succ]
                      refine wpAny_take (i := 23) (oi := { dst := some 74, op := Go.Op.move (Go.Operand.tmp 7), type := 60, pos := "law.go:90", after := #[{ on := 22, ground := Go.Ground.guard }], guard := some (22, true) }) (v := ?v23p_3q_7qqqq) rfl (by kernel_rfl) (by kernel_rfl) (by kernel_rfl) (fun _ _ _ h => h) (Or.inl ⟨by rfl, fun w => ?hy23p_3q_7qqqq⟩) ?rest23p_3q_7qqqq
                      case hy23p_3q_7qqqq => go_simp; (first | done | (with_reducible rfl))
                      simp only [Act.put, List.setIfInBounds_toArray, List.set_cons_zero, List.set_cons_succ]
                      refine wpAny_take (i := 24) (oi := { dst := some 75, op := Go.Op.nilCheck (Go.Operand.tmp 74), type := 0, pos := "law.go:90", after := #[{ on := 23, ground := Go.Ground.data }, { on := 22, ground := Go.Ground.guard }], guard := some (22, true) }) (v := ?v24p_3q_7qqqq) rfl (by kernel_rfl) (by kernel_rfl) (by kernel_rfl) (fun _ _ _ h => h) (Or.inl ⟨by rfl, fun w => ?hy24p_3q_7qqqq⟩) ?rest24p_3q_7qqqq
                      case hy24p_3q_7qqqq => go_simp; (first | done | (with_reducible rfl))
                      simp only [Act.put, List.setIfInBounds_toArray, List.set_cons_zero, List.set_cons_succ]
                      refine wpAny_take (i := 25) (oi := { dst := some 76, op := Go.Op.fieldAddr 63 (Go.Operand.tmp 75) 0, type := 0, pos := "law.go:90", after := #[{ on := 24, ground := Go.Ground.data }, { on := 22, ground := Go.Ground.guard }], guard := some (22, true) }) (v := ?v25p_3q_7qqqq) rfl (by kernel_rfl) (by kernel_rfl) (by kernel_rfl) (fun _ _ _ h => h) (Or.inl ⟨by rfl, fun w => ?hy25p_3q_7qqqq⟩) ?rest25p_3q_7qqqq
                      case hy25p_3q_7qqqq => go_simp; (first | done | (with_reducible rfl))
                      simp only [Act.put, List.setIfInBounds_toArray, List.set_cons_zero, List.set_cons_succ]
                      refine wpAny_take (i := 28) (oi := { dst := some 79, op := Go.Op.move (Go.Operand.tmp 1), type := 22, pos := "law.go:90", after := #[{ on := 22, ground := Go.Ground.guard }], guard := some (22, true) }) (v := ?v28p_3q_7qqqq) rfl (by kernel_rfl) (by kernel_rfl) (by kernel_rfl) (fun _ _ _ h => h) (Or.inl ⟨by rfl, fun w => ?hy28p_3q_7qqqq⟩) ?rest28p_3q_7qqqq
                      case hy28p_3q_7qqqq => go_simp; (first | done | (with_reducible rfl))
                      simp only [Act.put, List.setIfInBounds_toArray, List.set_cons_zero, List.set_cons_succ]
                      refine wpAny_take (i := 29) (oi := { dst := some 80, op := Go.Op.call { callee := Go.Callee.builtin Go.Builtin.len, args := #[Go.Operand.tmp 79], argTypes := #[22] }, type := 3, pos := "law.go:90", after := #[{ on := 28, ground := Go.Ground.data }, { on := 22, ground := Go.Ground.guard }], guard := some (22, true) }) (v := ?v29p_3q_7qqqq) rfl (by kernel_rfl) (by kernel_rfl) (by kernel_rfl) (fun _ _ _ h => h) (Or.inl ⟨by rfl, fun w => ?hy29p_3q_7qqqq⟩) ?rest29p_3q_7qqqq
                      case hy29p_3q_7qqqq => go_simp; (first | done | (with_reducible rfl))
                      simp only [Act.put, List.setIfInBounds_toArray, List.set_cons_zero, List.set_cons_succ]
                      refine wpAny_take (i := 30) (oi := { dst := some 81, op := Go.Op.binOp Go.BinOp.add 3 (Go.Operand.const (Go.Value.int Go.IntKind.i64 64)) (Go.Operand.tmp 80) 3, type := 3, pos := "law.go:90", after := #[{ on := 29, ground := Go.Ground.data }, { on := 22, ground := Go.Ground.guard }], guard := some (22, true) }) (v := ?v30p_3q_7qqqq) rfl (by kernel_rfl) (by kernel_rfl) (by kernel_rfl) (fun _ _ _ h => h) (Or.inl ⟨by rfl, fun w => ?hy30p_3q_7qqqq⟩) ?rest30p_3q_7qqqq
                      case hy30p_3q_7qqqq => go_simp; (first | done | (with_reducible rfl))
                      simp only [Act.put, List.setIfInBounds_toArray, List.set_cons_zero, List.set_cons_succ]
                      refine wpAny_take (i := 31) (oi := { dst := some 82, op := Go.Op.move (Go.Operand.tmp 2), type := 22, pos := "law.go:90", after := #[{ on := 22, ground := Go.Ground.guard }], guard := some (22, true) }) (v := ?v31p_3q_7qqqq) rfl (by kernel_rfl) (by kernel_rfl) (by kernel_rfl) (fun _ _ _ h => h) (Or.inl ⟨by rfl, fun w => ?hy31p_3q_7qqqq⟩) ?rest31p_3q_7qqqq
                      case hy31p_3q_7qqqq => go_simp; (first | done | (with_reducible rfl))
                      simp only [Act.put, List.setIfInBounds_toArray, List.set_cons_zero, List.set_cons_succ]
                      refine wpAny_take (i := 32) (oi := { dst := some 83, op := Go.Op.call { callee := Go.Callee.builtin Go.Builtin.len, args := #[Go.Operand.tmp 82], argTypes := #[22] }, type := 3, pos := "law.go:90", after := #[{ on := 31, ground := Go.Ground.data }, { on := 22, ground := Go.Ground.guard }], guard := some (22, true) }) (v := ?v32p_3q_7qqqq) rfl (by kernel_rfl) (by kernel_rfl) (by kernel_rfl) (fun _ _ _ h => h) (Or.inl ⟨by rfl, fun w => ?hy32p_3q_7qqqq⟩) ?rest32p_3q_7qqqq
                      case hy32p_3q_7qqqq => go_simp; (first | done | (with_reducible rfl))
                      simp only [Act.put, List.setIfInBounds_toArray, List.set_cons_zero, List.set_cons_succ]
                      refine wpAny_take (i := 33) (oi := { dst := some 84, op := Go.Op.binOp Go.BinOp.add 3 (Go.Operand.tmp 81) (Go.Operand.tmp 83) 3, type := 3, pos := "law.go:90", after := #[{ on := 30, ground := Go.Ground.data }, { on := 32, ground := Go.Ground.data }, { on := 22, ground := Go.Ground.guard }], guard := some (22, true) }) (v := ?v33p_3q_7qqqq) rfl (by kernel_rfl) (by kernel_rfl) (by kernel_rfl) (fun _ _ _ h => h) (Or.inl ⟨by rfl, fun w => ?hy33p_3q_7qqqq⟩) ?rest33p_3q_7qqqq
                      case hy33p_3q_7qqqq => go_simp; (first | done | (with_reducible rfl))
                      simp only [Act.put, List.setIfInBounds_toArray, List.set_cons_zero, List.set_cons_succ]
                      refine wpAny_take (i := 34) (oi := { dst := some 85, op := Go.Op.convert 3 31 (Go.Operand.tmp 84), type := 31, pos := "law.go:90", after := #[{ on := 33, ground := Go.Ground.data }, { on := 22, ground := Go.Ground.guard }], guard := some (22, true) }) (v := ?v34p_3q_7qqqq) rfl (by kernel_rfl) (by kernel_rfl) (by kernel_rfl) (fun _ _ _ h => h) (Or.inl ⟨by rfl, fun w => ?hy34p_3q_7qqqq⟩) ?rest34p_3q_7qqqq
                      case hy34p_3q_7qqqq => go_simp; (first | done | (with_reducible rfl))
                      simp only [Act.put, List.setIfInBounds_toArray, List.set_cons_zero, List.set_cons_succ]
                      refine wpAny_ready (rs := [26]) (by kernel_rfl) (by simp) ?_
                      refine AllReady.cons (o := { dst := some 77, op := Go.Op.load 45 (Go.Operand.tmp 76), type := 45, pos := "law.go:90", after := #[{ on := 25, ground := Go.Ground.data }, { on := 22, ground := Go.Ground.guard }], guard := some (22, true) }) rfl (fun K hK => ?_) (AllReady.nil)
                      ·
                        rw [if_pos (by rfl)]
                        have c0 := hM_123.c0; go_simp
                        clear c0
                        refine hK _ _ ?_
                        clear hK K
                        try simp only [Act.put, List.setIfInBounds_toArray, List.set_cons_zero, List.set_cons_succ]
                        refine wpAny_ready (rs := [27]) (by kernel_rfl) (by simp) ?_
                        refine AllReady.cons (o := { dst := some 78, op := Go.Op.call { callee := Go.Callee.value (Go.Operand.func 32), args := #[Go.Operand.tmp 77], argTypes := #[45] }, type := 31, pos := "law.go:90", after := #[{ on := 26, ground := Go.Ground.data }, { on := 22, ground := Go.Ground.chain }, { on := 22, ground := Go.Ground.guard }], guard := some (22, true) }) rfl (fun K hK => ?_) (AllReady.nil)
                        ·
                          go_simp
                          go_at_call 32
                          refine (Len_any h _ _ _ _ hH_123).mono ?_
                          rintro e w125 ⟨rfl, hw_125⟩
                          subst hw_125
                          rw [HDn2.out]
                          refine hK _ _ ?_
                          clear hK K
                          try simp only [Act.put, List.setIfInBounds_toArray, List.set_cons_zero, List.set_cons_succ]
                          refine wpAny_take (i := 35) (oi := { dst := some 86, op := Go.Op.binOp Go.BinOp.eql 31 (Go.Operand.tmp 78) (Go.Operand.tmp 85) 31, type := 4, pos := "law.go:90", after := #[{ on := 27, ground := Go.Ground.data }, { on := 34, ground := Go.Ground.data }, { on := 22, ground := Go.Ground.guard }], guard := some (22, true) }) (v := ?v35p_3q_7qqqqqq) rfl (by kernel_rfl) (by kernel_rfl) (by kernel_rfl) (fun _ _ _ h => h) (Or.inl ⟨by rfl, fun w => ?hy35p_3q_7qqqqqq⟩) ?rest35p_3q_7qqqqqq
                          case hy35p_3q_7qqqqqq => go_simp; (first | done | (with_reducible rfl))
                          simp only [Act.put, List.setIfInBounds_toArray, List.set_cons_zero, List.set_cons_succ]
                          refine wpAny_take (i := 36) (oi := { dst := some 87, op := Go.Op.pick (Go.Operand.tmp 73) (Go.Operand.tmp 86) (Go.Operand.const (Go.Value.bool false)), type := 4, pos := "law.go:90", after := #[{ on := 22, ground := Go.Ground.data }, { on := 35, ground := Go.Ground.data }], guard := none }) (v := ?v36p_3q_7qqqqqq) rfl (by kernel_rfl) (by kernel_rfl) (by kernel_rfl) (fun _ _ _ h => h) (Or.inl ⟨by rfl, fun w => ?hy36p_3q_7qqqqqq⟩) ?rest36p_3q_7qqqqqq
                          case hy36p_3q_7qqqqqq => go_simp; (first | done | (with_reducible rfl))
                          simp only [Act.put, List.setIfInBounds_toArray, List.set_cons_zero, List.set_cons_succ]
                          refine wpAny_take (i := 37) (oi := { dst := some 6, op := Go.Op.assign (Go.Operand.tmp 87), type := 4, pos := "law.go:90", after := #[{ on := 36, ground := Go.Ground.data }, { on := 27, ground := Go.Ground.chain }, { on := 0, ground := Go.Ground.phase }, { on := 1, ground := Go.Ground.phase }, { on := 2, ground := Go.Ground.phase }, { on := 3, ground := Go.Ground.phase }, { on := 4, ground := Go.Ground.phase }, { on := 5, ground := Go.Ground.phase }, { on := 6, ground := Go.Ground.phase }, { on := 7, ground := Go.Ground.phase }, { on := 8, ground := Go.Ground.phase }, { on := 9, ground := Go.Ground.phase }, { on := 10, ground := Go.Ground.phase }, { on := 11, ground := Go.Ground.phase }, { on := 12, ground := Go.Ground.phase }, { on := 13, ground := Go.Ground.phase }, { on := 14, ground := Go.Ground.phase }, { on := 15, ground := Go.Ground.phase }, { on := 16, ground := Go.Ground.phase }, { on := 17, ground := Go.Ground.phase }, { on := 18, ground := Go.Ground.phase }, { on := 19, ground := Go.Ground.phase }, { on := 20, ground := Go.Ground.phase }, { on := 21, ground := Go.Ground.phase }, { on := 22, ground := Go.Ground.phase }, { on := 23, ground := Go.Ground.phase }, { on := 24, ground := Go.Ground.phase }, { on := 25, ground := Go.Ground.phase }, { on := 26, ground := Go.Ground.phase }, { on := 27, ground := Go.Ground.phase }, { on := 28, ground := Go.Ground.phase }, { on := 29, ground := Go.Ground.phase }, { on := 30, ground := Go.Ground.phase }, { on := 31, ground := Go.Ground.phase }, { on := 32, ground := Go.Ground.phase }, { on := 33, ground := Go.Ground.phase }, { on := 34, ground := Go.Ground.phase }, { on := 35, ground := Go.Ground.phase }, { on := 36, ground := Go.Ground.phase }], guard := none }) (v := ?v37p_3q_7qqqqqq) rfl (by kernel_rfl) (by kernel_rfl) (by kernel_rfl) (fun _ _ _ h => h) (Or.inl ⟨by rfl, fun w => ?hy37p_3q_7qqqqqq⟩) ?rest37p_3q_7qqqqqq
                          case hy37p_3q_7qqqqqq => go_simp; (first | done | (with_reducible rfl))
                          simp only [Act.put, List.setIfInBounds_toArray, List.set_cons_zero, List.set_cons_succ]
                          refine wpAny_done (by kernel_rfl) ?_ _
                          go_wp2
                          go_ret
                          exact ⟨rfl, hB_123⟩
            ·
              go_simp
              refine hK _ _ ?_
              clear hK K
              try simp only [Act.put, List.setIfInBounds_toArray, List.set_cons_zero, List.set_cons_succ]
              change wpAny _ _ _ _ _ _ _ (World.alloc w117 (.cells #[.slice B la.length cb, .slice C lb.length cc] 22))
              have hb_126 := (Below.refl w117.heap.size w117).alloc (Nat.le_refl _) (.cells #[.slice B la.length cb, .slice C lb.length cc] 22)
              have C11_126 := arg2m_C w117 B C cb cc la lb Hcb.out Hcc.out (Kd.C_below HB.out hB_117) (Kd.C_below HC.out hB_117)
              obtain ⟨w126, hw_126⟩ : ∃ w126, World.alloc w117 (.cells #[.slice B la.length cb, .slice C lb.length cc] 22) = w126 := ⟨_, rfl⟩
              rw [hw_126] at hb_126 C11_126
              rw [hw_126]
              have hB_126 := hB_117.trans (hb_126.mono hB_117.size)
              have hA_126 := hA_117.below hb_126 hA_117.lt
              have hM_126 := hM_117.below hb_126 hM_117.lt
              have hH_126 := hH_117.below hb_126 hH_117.lt
              obtain ⟨s126, hs_126⟩ : ∃ s126, w117.heap.size = s126 := ⟨_, rfl⟩
              rw [hs_126] at C11_126
              rw [hs_126]
              clear hw_126 hs_126
              clear hb_126 hB_117 hA_117 hM_117 hH_117 
              refine wpAny_ready (rs := [7]) (by kernel_rfl) (by simp) ?_
              refine AllReady.cons (o := { dst := some 58, op := Go.Op.call { callee := Go.Callee.value (Go.Operand.func 44), args := #[Go.Operand.tmp 57], argTypes := #[60] }, type := 24, pos := "law.go:90", after := #[{ on := 6, ground := Go.Ground.data }, { on := 5, ground := Go.Ground.chain }, { on := 5, ground := Go.Ground.guard }], guard := some (5, true) }) rfl (fun K hK => ?_) (AllReady.nil)
              ·
                go_simp
                go_at_call 44
                refine (Seal_any mm h bl (D.all lb) w126 (HR.out.below hB_126 hpos.out) hM_126 hH_126 Hbll.out HDb.out).mono ?_
                rintro e w127 ⟨rfl, hb_127⟩
                rw [HDz.out]
                refine hK _ _ ?_
                clear hK K
                try simp only [Act.put, List.setIfInBounds_toArray, List.set_cons_zero, List.set_cons_succ]
                have hB_127 := hB_126.trans (hb_127.mono hB_126.size)
                have hA_127 := hA_126.below hb_127 hA_126.lt
                have hM_127 := hM_126.below hb_127 hM_126.lt
                have hH_127 := hH_126.below hb_127 hH_126.lt
                have C11_127 := Kd.C_below C11_126 hb_127
                clear hb_127 hB_126 hA_126 hM_126 hH_126 C11_126
                refine wpAny_ready (rs := [12]) (by kernel_rfl) (by simp) ?_
                refine AllReady.cons (o := { dst := some 63, op := Go.Op.call { callee := Go.Callee.value (Go.Operand.func 39), args := #[Go.Operand.tmp 59, Go.Operand.tmp 62], argTypes := #[22, 39] }, type := 24, pos := "law.go:90", after := #[{ on := 8, ground := Go.Ground.data }, { on := 11, ground := Go.Ground.data }, { on := 7, ground := Go.Ground.chain }, { on := 5, ground := Go.Ground.guard }], guard := some (5, true) }) rfl (fun K hK => ?_) (AllReady.nil)
                ·
                  go_simp
                  go_at_call 39
                  refine (MSum_any A ca l (some ⟨s126, 0, none⟩) 2 [la, lb] w127 (HR.out.below hB_127 hpos.out) (Kd.C_below HA.out hB_127) Hca.out Hl.out C11_127 Hfl.out).mono ?_
                  rintro e w128 ⟨rfl, hb_128⟩
                  rw [Hfz.out]
                  refine hK _ _ ?_
                  clear hK K
                  try simp only [Act.put, List.setIfInBounds_toArray, List.set_cons_zero, List.set_cons_succ]
                  have hB_128 := hB_127.trans (hb_128.mono hB_127.size)
                  have hA_128 := hA_127.below hb_128 hA_127.lt
                  have hM_128 := hM_127.below hb_128 hM_127.lt
                  have hH_128 := hH_127.below hb_128 hH_127.lt
                  clear hb_128 hB_127 hA_127 hM_127 hH_127 C11_127
                  refine wpAny_take (i := 13) (oi := { dst := some 64, op := Go.Op.binOp Go.BinOp.eql 24 (Go.Operand.tmp 58) (Go.Operand.tmp 63) 24, type := 4, pos := "law.go:90", after := #[{ on := 7, ground := Go.Ground.data }, { on := 12, ground := Go.Ground.data }, { on := 5, ground := Go.Ground.guard }], guard := some (5, true) }) (v := ?v13p_3q_11qq) rfl (by kernel_rfl) (by kernel_rfl) (by kernel_rfl) (fun _ _ _ h => h) (Or.inl ⟨by rfl, fun w => ?hy13p_3q_11qq⟩) ?rest13p_3q_11qq
                  case hy13p_3q_11qq => go_simp; (first | done | (with_reducible rfl))
                  simp only [Act.put, List.setIfInBounds_toArray, List.set_cons_zero, List.set_cons_succ]
                  refine wpAny_take (i := 14) (oi := { dst := some 65, op := Go.Op.pick (Go.Operand.tmp 56) (Go.Operand.tmp 64) (Go.Operand.const (Go.Value.bool false)), type := 4, pos := "law.go:90", after := #[{ on := 5, ground := Go.Ground.data }, { on := 13, ground := Go.Ground.data }], guard := none }) (v := ?v14p_3q_11qq) rfl (by kernel_rfl) (by kernel_rfl) (by kernel_rfl) (fun _ _ _ h => h) (Or.inl ⟨by rfl, fun w => ?hy14p_3q_11qq⟩) ?rest14p_3q_11qq
                  case hy14p_3q_11qq => go_simp; (first | done | (with_reducible rfl))
                  simp only [Act.put, List.setIfInBounds_toArray, List.set_cons_zero, List.set_cons_succ]
                  refine wpAny_take (i := 15) (oi := { dst := some 66, op := Go.Op.move (Go.Operand.tmp 65), type := 4, pos := "law.go:90", after := #[{ on := 14, ground := Go.Ground.data }, { on := 12, ground := Go.Ground.chain }], guard := none }) (v := ?v15p_3q_11qq) rfl (by kernel_rfl) (by kernel_rfl) (by kernel_rfl) (fun _ _ _ h => h) (Or.inl ⟨by rfl, fun w => ?hy15p_3q_11qq⟩) ?rest15p_3q_11qq
                  case hy15p_3q_11qq => go_simp; (first | done | (with_reducible rfl))
                  simp only [Act.put, List.setIfInBounds_toArray, List.set_cons_zero, List.set_cons_succ]
                  refine wpAny_take (i := 16) (oi := { dst := some 67, op := Go.Op.move (Go.Operand.tmp 7), type := 60, pos := "law.go:90", after := #[{ on := 15, ground := Go.Ground.guard }], guard := some (15, true) }) (v := ?v16p_3q_11qq) rfl (by kernel_rfl) (by kernel_rfl) (by kernel_rfl) (fun _ _ _ h => h) (Or.inl ⟨by rfl, fun w => ?hy16p_3q_11qq⟩) ?rest16p_3q_11qq
                  case hy16p_3q_11qq => go_simp; (first | done | (with_reducible rfl))
                  simp only [Act.put, List.setIfInBounds_toArray, List.set_cons_zero, List.set_cons_succ]
                  refine wpAny_take (i := 18) (oi := { dst := some 69, op := Go.Op.move (Go.Operand.tmp 7), type := 60, pos := "law.go:90", after := #[{ on := 15, ground := Go.Ground.guard }], guard := some (15, true) }) (v := ?v18p_3q_11qq) rfl (by kernel_rfl) (by kernel_rfl) (by kernel_rfl) (fun _ _ _ h => h) (Or.inl ⟨by rfl, fun w => ?hy18p_3q_11qq⟩) ?rest18p_3q_11qq
                  case hy18p_3q_11qq => go_simp; (first | done | (with_reducible rfl))
                  simp only [Act.put, List.setIfInBounds_toArray, List.set_cons_zero, List.set_cons_succ]
                  refine wpAny_ready (rs := [17]) (by kernel_rfl) (by simp) ?_
                  refine AllReady.cons (o := { dst := some 68, op := Go.Op.call { callee := Go.Callee.value (Go.Operand.func 44), args := #[Go.Operand.tmp 67], argTypes := #[60] }, type := 24, pos := "law.go:90", after := #[{ on := 16, ground := Go.Ground.data }, { on := 15, ground := Go.Ground.chain }, { on := 15, ground := Go.Ground.guard }], guard := some (15, true) }) rfl (fun K hK => ?_) (AllReady.nil)
                  ·
                    go_simp
                    go_at_call 44
                    refine (Seal_any mm h bl (D.all lb) w128 (HR.out.below hB_128 hpos.out) hM_128 hH_128 Hbll.out HDb.out).mono ?_
                    rintro e w129 ⟨rfl, hb_129⟩
                    rw [HDz.out]
                    refine hK _ _ ?_
                    clear hK K
                    try simp only [Act.put, List.setIfInBounds_toArray, List.set_cons_zero, List.set_cons_succ]
                    have hB_129 := hB_128.trans (hb_129.mono hB_128.size)
                    have hA_129 := hA_128.below hb_129 hA_128.lt
                    have hM_129 := hM_128.below hb_129 hM_128.lt
                    have hH_129 := hH_128.below hb_129 hH_128.lt
                    clear hb_129 hB_128 hA_128 hM_128 hH_128 
                    refine wpAny_ready (rs := [19]) (by kernel_rfl) (by simp) ?_
                    refine AllReady.cons (o := { dst := some 70, op := Go.Op.call { callee := Go.Callee.value (Go.Operand.func 44), args := #[Go.Operand.tmp 69], argTypes := #[60] }, type := 24, pos := "law.go:90", after := #[{ on := 18, ground := Go.Ground.data }, { on := 17, ground := Go.Ground.chain }, { on := 15, ground := Go.Ground.guard }], guard := some (15, true) }) rfl (fun K hK => ?_) (AllReady.nil)
                    ·
                      go_simp
                      go_at_call 44
                      refine (Seal_any mm h bl (D.all lb) w129 (HR.out.below hB_129 hpos.out) hM_129 hH_129 Hbll.out HDb.out).mono ?_
                      rintro e w130 ⟨rfl, hb_130⟩
                      rw [HDz.out]
                      refine hK _ _ ?_
                      clear hK K
                      try simp only [Act.put, List.setIfInBounds_toArray, List.set_cons_zero, List.set_cons_succ]
                      have hB_130 := hB_129.trans (hb_130.mono hB_129.size)
                      have hA_130 := hA_129.below hb_130 hA_129.lt
                      have hM_130 := hM_129.below hb_130 hM_129.lt
                      have hH_130 := hH_129.below hb_130 hH_129.lt
                      clear hb_130 hB_129 hA_129 hM_129 hH_129 
                      refine wpAny_take (i := 20) (oi := { dst := some 71, op := Go.Op.binOp Go.BinOp.eql 24 (Go.Operand.tmp 68) (Go.Operand.tmp 70) 24, type := 4, pos := "law.go:90", after := #[{ on := 17, ground := Go.Ground.data }, { on := 19, ground := Go.Ground.data }, { on := 15, ground := Go.Ground.guard }], guard := some (15, true) }) (v := ?v20p_3q_11qqqq) rfl (by kernel_rfl) (by kernel_rfl) (by kernel_rfl) (fun _ _ _ h => h) (Or.inl ⟨by rfl, fun w => ?hy20p_3q_11qqqq⟩) ?rest20p_3q_11qqqq
                      case hy20p_3q_11qqqq => go_simp; (first | done | (with_reducible rfl))
                      simp only [Act.put, List.setIfInBounds_toArray, List.set_cons_zero, List.set_cons_succ]
                      refine wpAny_take (i := 21) (oi := { dst := some 72, op := Go.Op.pick (Go.Operand.tmp 66) (Go.Operand.tmp 71) (Go.Operand.const (Go.Value.bool false)), type := 4, pos := "law.go:90", after := #[{ on := 15, ground := Go.Ground.data }, { on := 20, ground := Go.Ground.data }], guard := none }) (v := ?v21p_3q_11qqqq) rfl (by kernel_rfl) (by kernel_rfl) (by kernel_rfl) (fun _ _ _ h => h) (Or.inl ⟨by rfl, fun w => ?hy21p_3q_11qqqq⟩) ?rest21p_3q_11qqqq
                      case hy21p_3q_11qqqq => go_simp; (first | done | (with_reducible rfl))
                      simp only [Act.put, List.setIfInBounds_toArray, List.set_cons_zero, List.set_cons_succ]
                      refine wpAny_take (i := 22) (oi := { dst := some 73, op := Go.Op.move (Go.Operand.tmp 72), type := 4, pos := "law.go:90", after := #[{ on := 21, ground := Go.Ground.data }, { on := 19, ground := Go.Ground.chain }], guard := none }) (v := ?v22p_3q_11qqqq) rfl (by kernel_rfl) (by kernel_rfl) (by kernel_rfl) (fun _ _ _ h => h) (Or.inl ⟨by rfl, fun w => ?hy22p_3q_11qqqq⟩) ?rest22p_3q_11qqqq
                      case hy22p_3q_11qqqq => go_simp; (first | done | (with_reducible rfl))
                      simp only [Act.put, List.setIfInBounds_toArray, List.set_cons_zero, List.set_cons_succ]
                      refine wpAny_take (i := 23) (oi := { dst := some 74, op := Go.Op.move (Go.Operand.tmp 7), type := 60, pos := "law.go:90", after := #[{ on := 22, ground := Go.Ground.guard }], guard := some (22, true) }) (v := ?v23p_3q_11qqqq) rfl (by kernel_rfl) (by kernel_rfl) (by kernel_rfl) (fun _ _ _ h => h) (Or.inl ⟨by rfl, fun w => ?hy23p_3q_11qqqq⟩) ?rest23p_3q_11qqqq
                      case hy23p_3q_11qqqq => go_simp; (first | done | (with_reducible rfl))
                      simp only [Act.put, List.setIfInBounds_toArray, List.set_cons_zero, List.set_cons_succ]
                      refine wpAny_take (i := 24) (oi := { dst := some 75, op := Go.Op.nilCheck (Go.Operand.tmp 74), type := 0, pos := "law.go:90", after := #[{ on := 23, ground := Go.Ground.data }, { on := 22, ground := Go.Ground.guard }], guard := some (22, true) }) (v := ?v24p_3q_11qqqq) rfl (by kernel_rfl) (by kernel_rfl) (by kernel_rfl) (fun _ _ _ h => h) (Or.inl ⟨by rfl, fun w => ?hy24p_3q_11qqqq⟩) ?rest24p_3q_11qqqq
                      case hy24p_3q_11qqqq => go_simp; (first | done | (with_reducible rfl))
                      simp only [Act.put, List.setIfInBounds_toArray, List.set_cons_zero, List.set_cons_succ]
                      refine wpAny_take (i := 25) (oi := { dst := some 76, op := Go.Op.fieldAddr 63 (Go.Operand.tmp 75) 0, type := 0, pos := "law.go:90", after := #[{ on := 24, ground := Go.Ground.data }, { on := 22, ground := Go.Ground.guard }], guard := some (22, true) }) (v := ?v25p_3q_11qqqq) rfl (by kernel_rfl) (by kernel_rfl) (by kernel_rfl) (fun _ _ _ h => h) (Or.inl ⟨by rfl, fun w => ?hy25p_3q_11qqqq⟩) ?rest25p_3q_11qqqq
                      case hy25p_3q_11qqqq => go_simp; (first | done | (with_reducible rfl))
                      simp only [Act.put, List.setIfInBounds_toArray, List.set_cons_zero, List.set_cons_succ]
                      refine wpAny_take (i := 28) (oi := { dst := some 79, op := Go.Op.move (Go.Operand.tmp 1), type := 22, pos := "law.go:90", after := #[{ on := 22, ground := Go.Ground.guard }], guard := some (22, true) }) (v := ?v28p_3q_11qqqq) rfl (by kernel_rfl) (by kernel_rfl) (by kernel_rfl) (fun _ _ _ h => h) (Or.inl ⟨by rfl, fun w => ?hy28p_3q_11qqqq⟩) ?rest28p_3q_11qqqq
                      case hy28p_3q_11qqqq => go_simp; (first | done | (with_reducible rfl))
                      simp only [Act.put, List.setIfInBounds_toArray, List.set_cons_zero, List.set_cons_succ]
                      refine wpAny_take (i := 29) (oi := { dst := some 80, op := Go.Op.call { callee := Go.Callee.builtin Go.Builtin.len, args := #[Go.Operand.tmp 79], argTypes := #[22] }, type := 3, pos := "law.go:90", after := #[{ on := 28, ground := Go.Ground.data }, { on := 22, ground := Go.Ground.guard }], guard := some (22, true) }) (v := ?v29p_3q_11qqqq) rfl (by kernel_rfl) (by kernel_rfl) (by kernel_rfl) (fun _ _ _ h => h) (Or.inl ⟨by rfl, fun w => ?hy29p_3q_11qqqq⟩) ?rest29p_3q_11qqqq
                      case hy29p_3q_11qqqq => go_simp; (first | done | (with_reducible rfl))
                      simp only [Act.put, List.setIfInBounds_toArray, List.set_cons_zero, List.set_cons_succ]
                      refine wpAny_take (i := 30) (oi := { dst := some 81, op := Go.Op.binOp Go.BinOp.add 3 (Go.Operand.const (Go.Value.int Go.IntKind.i64 64)) (Go.Operand.tmp 80) 3, type := 3, pos := "law.go:90", after := #[{ on := 29, ground := Go.Ground.data }, { on := 22, ground := Go.Ground.guard }], guard := some (22, true) }) (v := ?v30p_3q_11qqqq) rfl (by kernel_rfl) (by kernel_rfl) (by kernel_rfl) (fun _ _ _ h => h) (Or.inl ⟨by rfl, fun w => ?hy30p_3q_11qqqq⟩) ?rest30p_3q_11qqqq
                      case hy30p_3q_11qqqq => go_simp; (first | done | (with_reducible rfl))
                      simp only [Act.put, List.setIfInBounds_toArray, List.set_cons_zero, List.set_cons_succ]
                      refine wpAny_take (i := 31) (oi := { dst := some 82, op := Go.Op.move (Go.Operand.tmp 2), type := 22, pos := "law.go:90", after := #[{ on := 22, ground := Go.Ground.guard }], guard := some (22, true) }) (v := ?v31p_3q_11qqqq) rfl (by kernel_rfl) (by kernel_rfl) (by kernel_rfl) (fun _ _ _ h => h) (Or.inl ⟨by rfl, fun w => ?hy31p_3q_11qqqq⟩) ?rest31p_3q_11qqqq
                      case hy31p_3q_11qqqq => go_simp; (first | done | (with_reducible rfl))
                      simp only [Act.put, List.setIfInBounds_toArray, List.set_cons_zero, List.set_cons_succ]
                      refine wpAny_take (i := 32) (oi := { dst := some 83, op := Go.Op.call { callee := Go.Callee.builtin Go.Builtin.len, args := #[Go.Operand.tmp 82], argTypes := #[22] }, type := 3, pos := "law.go:90", after := #[{ on := 31, ground := Go.Ground.data }, { on := 22, ground := Go.Ground.guard }], guard := some (22, true) }) (v := ?v32p_3q_11qqqq) rfl (by kernel_rfl) (by kernel_rfl) (by kernel_rfl) (fun _ _ _ h => h) (Or.inl ⟨by rfl, fun w => ?hy32p_3q_11qqqq⟩) ?rest32p_3q_11qqqq
                      case hy32p_3q_11qqqq => go_simp; (first | done | (with_reducible rfl))
                      simp only [Act.put, List.setIfInBounds_toArray, List.set_cons_zero, List.set_cons_succ]
                      refine wpAny_take (i := 33) (oi := { dst := some 84, op := Go.Op.binOp Go.BinOp.add 3 (Go.Operand.tmp 81) (Go.Operand.tmp 83) 3, type := 3, pos := "law.go:90", after := #[{ on := 30, ground := Go.Ground.data }, { on := 32, ground := Go.Ground.data }, { on := 22, ground := Go.Ground.guard }], guard := some (22, true) }) (v := ?v33p_3q_11qqqq) rfl (by kernel_rfl) (by kernel_rfl) (by kernel_rfl) (fun _ _ _ h => h) (Or.inl ⟨by rfl, fun w => ?hy33p_3q_11qqqq⟩) ?rest33p_3q_11qqqq
                      case hy33p_3q_11qqqq => go_simp; (first | done | (with_reducible rfl))
                      simp only [Act.put, List.setIfInBounds_toArray, List.set_cons_zero, List.set_cons_succ]
                      refine wpAny_take (i := 34) (oi := { dst := some 85, op := Go.Op.convert 3 31 (Go.Operand.tmp 84), type := 31, pos := "law.go:90", after := #[{ on := 33, ground := Go.Ground.data }, { on := 22, ground := Go.Ground.guard }], guard := some (22, true) }) (v := ?v34p_3q_11qqqq) rfl (by kernel_rfl) (by kernel_rfl) (by kernel_rfl) (fun _ _ _ h => h) (Or.inl ⟨by rfl, fun w => ?hy34p_3q_11qqqq⟩) ?rest34p_3q_11qqqq
                      case hy34p_3q_11qqqq => go_simp; (first | done | (with_reducible rfl))
                      simp only [Act.put, List.setIfInBounds_toArray, List.set_cons_zero, List.set_cons_succ]
                      refine wpAny_ready (rs := [26]) (by kernel_rfl) (by simp) ?_
                      refine AllReady.cons (o := { dst := some 77, op := Go.Op.load 45 (Go.Operand.tmp 76), type := 45, pos := "law.go:90", after := #[{ on := 25, ground := Go.Ground.data }, { on := 22, ground := Go.Ground.guard }], guard := some (22, true) }) rfl (fun K hK => ?_) (AllReady.nil)
                      ·
                        rw [if_pos (by rfl)]
                        have c0 := hM_130.c0; go_simp
                        clear c0
                        refine hK _ _ ?_
                        clear hK K
                        try simp only [Act.put, List.setIfInBounds_toArray, List.set_cons_zero, List.set_cons_succ]
                        refine wpAny_ready (rs := [27]) (by kernel_rfl) (by simp) ?_
                        refine AllReady.cons (o := { dst := some 78, op := Go.Op.call { callee := Go.Callee.value (Go.Operand.func 32), args := #[Go.Operand.tmp 77], argTypes := #[45] }, type := 31, pos := "law.go:90", after := #[{ on := 26, ground := Go.Ground.data }, { on := 22, ground := Go.Ground.chain }, { on := 22, ground := Go.Ground.guard }], guard := some (22, true) }) rfl (fun K hK => ?_) (AllReady.nil)
                        ·
                          go_simp
                          go_at_call 32
                          refine (Len_any h _ _ _ _ hH_130).mono ?_
                          rintro e w132 ⟨rfl, hw_132⟩
                          subst hw_132
                          rw [HDn2.out]
                          refine hK _ _ ?_
                          clear hK K
                          try simp only [Act.put, List.setIfInBounds_toArray, List.set_cons_zero, List.set_cons_succ]
                          refine wpAny_take (i := 35) (oi := { dst := some 86, op := Go.Op.binOp Go.BinOp.eql 31 (Go.Operand.tmp 78) (Go.Operand.tmp 85) 31, type := 4, pos := "law.go:90", after := #[{ on := 27, ground := Go.Ground.data }, { on := 34, ground := Go.Ground.data }, { on := 22, ground := Go.Ground.guard }], guard := some (22, true) }) (v := ?v35p_3q_11qqqqqq) rfl (by kernel_rfl) (by kernel_rfl) (by kernel_rfl) (fun _ _ _ h => h) (Or.inl ⟨by rfl, fun w => ?hy35p_3q_11qqqqqq⟩) ?rest35p_3q_11qqqqqq
                          case hy35p_3q_11qqqqqq => go_simp; (first | done | (with_reducible rfl))
                          simp only [Act.put, List.setIfInBounds_toArray, List.set_cons_zero, List.set_cons_succ]
                          refine wpAny_take (i := 36) (oi := { dst := some 87, op := Go.Op.pick (Go.Operand.tmp 73) (Go.Operand.tmp 86) (Go.Operand.const (Go.Value.bool false)), type := 4, pos := "law.go:90", after := #[{ on := 22, ground := Go.Ground.data }, { on := 35, ground := Go.Ground.data }], guard := none }) (v := ?v36p_3q_11qqqqqq) rfl (by kernel_rfl) (by kernel_rfl) (by kernel_rfl) (fun _ _ _ h => h) (Or.inl ⟨by rfl, fun w => ?hy36p_3q_11qqqqqq⟩) ?rest36p_3q_11qqqqqq
                          case hy36p_3q_11qqqqqq => go_simp; (first | done | (with_reducible rfl))
                          simp only [Act.put, List.setIfInBounds_toArray, List.set_cons_zero, List.set_cons_succ]
                          refine wpAny_take (i := 37) (oi := { dst := some 6, op := Go.Op.assign (Go.Operand.tmp 87), type := 4, pos := "law.go:90", after := #[{ on := 36, ground := Go.Ground.data }, { on := 27, ground := Go.Ground.chain }, { on := 0, ground := Go.Ground.phase }, { on := 1, ground := Go.Ground.phase }, { on := 2, ground := Go.Ground.phase }, { on := 3, ground := Go.Ground.phase }, { on := 4, ground := Go.Ground.phase }, { on := 5, ground := Go.Ground.phase }, { on := 6, ground := Go.Ground.phase }, { on := 7, ground := Go.Ground.phase }, { on := 8, ground := Go.Ground.phase }, { on := 9, ground := Go.Ground.phase }, { on := 10, ground := Go.Ground.phase }, { on := 11, ground := Go.Ground.phase }, { on := 12, ground := Go.Ground.phase }, { on := 13, ground := Go.Ground.phase }, { on := 14, ground := Go.Ground.phase }, { on := 15, ground := Go.Ground.phase }, { on := 16, ground := Go.Ground.phase }, { on := 17, ground := Go.Ground.phase }, { on := 18, ground := Go.Ground.phase }, { on := 19, ground := Go.Ground.phase }, { on := 20, ground := Go.Ground.phase }, { on := 21, ground := Go.Ground.phase }, { on := 22, ground := Go.Ground.phase }, { on := 23, ground := Go.Ground.phase }, { on := 24, ground := Go.Ground.phase }, { on := 25, ground := Go.Ground.phase }, { on := 26, ground := Go.Ground.phase }, { on := 27, ground := Go.Ground.phase }, { on := 28, ground := Go.Ground.phase }, { on := 29, ground := Go.Ground.phase }, { on := 30, ground := Go.Ground.phase }, { on := 31, ground := Go.Ground.phase }, { on := 32, ground := Go.Ground.phase }, { on := 33, ground := Go.Ground.phase }, { on := 34, ground := Go.Ground.phase }, { on := 35, ground := Go.Ground.phase }, { on := 36, ground := Go.Ground.phase }], guard := none }) (v := ?v37p_3q_11qqqqqq) rfl (by kernel_rfl) (by kernel_rfl) (by kernel_rfl) (fun _ _ _ h => h) (Or.inl ⟨by rfl, fun w => ?hy37p_3q_11qqqqqq⟩) ?rest37p_3q_11qqqqqq
                          case hy37p_3q_11qqqqqq => go_simp; (first | done | (with_reducible rfl))
                          simp only [Act.put, List.setIfInBounds_toArray, List.set_cons_zero, List.set_cons_succ]
                          refine wpAny_done (by kernel_rfl) ?_ _
                          go_wp2
                          go_ret
                          exact ⟨rfl, hB_130⟩
end Go.Proofs.YtalghfnjelcpnaaDoor
