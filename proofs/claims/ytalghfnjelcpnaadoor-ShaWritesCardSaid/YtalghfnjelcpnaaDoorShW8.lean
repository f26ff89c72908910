/- ShaWrites: what the call returns, for every two texts. Condition: the table 'rounds' holds what the program's text lays. -/
import Derived.Test.YtalghfnjelcpnaaDoorShP6
namespace Go.Proofs.YtalghfnjelcpnaaDoor
set_option linter.unusedVariables false
set_option linter.unusedSimpArgs false
open Go.RowKit Go.Proofs.YtalghfnjelcpnaaDoorW.PrintWords Go.Proofs.YtalghfnjelcpnaaDoor.Db

theorem arg2_C (w : World) (A B : Option Addr) (ca cb : Nat) (a b : List Int) (h1 : a.length ≤ ca) (h2 : b.length ≤ cb) (hA : Kd.C (Kd.int .u8) w A a.length a) (hB : Kd.C (Kd.int .u8) w B b.length b) :
    Kd.C (Kd.slice 5 (Kd.int .u8)) (w.alloc (.cells #[.slice A a.length ca, .slice B b.length cb] 22)) (some ⟨w.heap.size, 0, none⟩) 2 [a, b] :=
  args_C w [.slice A a.length ca, .slice B b.length cb] [a, b] (show 2 ≤ 9223372036854775807 by decide) fun i p hp => by
    match i with
    | 0 =>
      obtain rfl : a = p := by simpa using hp
      exact ⟨A, ca, rfl, h1, hA⟩
    | 1 =>
      obtain rfl : b = p := by simpa using hp
      exact ⟨B, cb, rfl, h2, hB⟩
    | i + 2 => simp at hp
theorem byte_row (w : World) (x : Int) (g : Nat) (hg : g < w.heap.size) : ∀ i, i < [x].length → ∃ b o, (some (⟨w.heap.size, 0, none⟩ : Addr)) = some ⟨b, o, none⟩ ∧ b ≠ g ∧ b < (w.alloc (.cells #[.int .u8 x] 5)).heap.size ∧ (w.alloc (.cells #[.int .u8 x] 5)).cell? ⟨b, o + i, none⟩ = some (.int .u8 ([x].getD i 0)) := fun i hi => by
  obtain rfl : i = 0 := by simpa using hi
  refine ⟨w.heap.size, 0, rfl, by omega, by rw [World.size_alloc]; omega, ?_⟩
  have h := (Arr.new w .u8 5 [x]).cell (i := 0) (by simp)
  exact h
set_option maxHeartbeats 4000000 in
set_option maxRecDepth 100000 in
theorem writes_any (A B : Option Addr) (ca cb : Nat) (la lb : List Int) (w : World) (hR : Rounds w) (hba : B8s la) (hCA : Kd.C (Kd.int .u8) w A la.length la) (hca : la.length ≤ ca) (hCB : Kd.C (Kd.int .u8) w B lb.length lb) (hcb : lb.length ≤ cb) :
    Calls Tryd.prog 8 #[.slice A la.length ca, .slice B lb.length cb] w fun e w' => e = .returned (.bool true) ∧ Below w.heap.size w w' := by
  have HR := Aside0.mk hR
  have hpos := Aside0.mk hR.pos
  have HCA := Aside0.mk hCA
  have HCB := Aside0.mk hCB
  have Hca := Aside0.mk hca
  have Hcb := Aside0.mk hcb
  have Hba := Aside0.mk hba
  clear hR hCA hCB hca hcb hba
  by_cases h1 : 300 < la.length
  · have d1 : decide (300 < (la.length : Int)) = true := by simp; omega
    clear h1
    go_enter Tryd.func8, Tryd.ntmps8
    go_wp2_with (first
      | (go_at_call 20; refine (wakes3_any _ HR.out).mono ?_; rintro e w1 ⟨rfl, hB⟩))
    go_ret
    exact ⟨rfl, hB⟩
  have d1 : decide (300 < (la.length : Int)) = false := by simp; omega
  by_cases h2 : 300 < lb.length
  · have d2 : decide (300 < (lb.length : Int)) = true := by simp; omega
    clear h1 h2
    go_enter Tryd.func8, Tryd.ntmps8
    go_wp2_with (first
      | (go_at_call 20; refine (wakes3_any _ HR.out).mono ?_; rintro e w1 ⟨rfl, hB⟩))
    go_ret
    exact ⟨rfl, hB⟩
  have d2 : decide (300 < (lb.length : Int)) = false := by simp; omega
  have Hl := Aside0.mk (show la.length ≤ 300 ∧ lb.length ≤ 300 by omega)
  clear h1 h2
  obtain ⟨ys, hys⟩ : ∃ ys, sumL la = ys := ⟨_, rfl⟩
  have hyl : ys.length = 32 := by rw [← hys]; exact sumL_len _
  have Hys := Aside0.mk hys
  obtain ⟨zs, hzs⟩ : ∃ zs, sumL (la ++ lb) = zs := ⟨_, rfl⟩
  have hzl : zs.length = 32 := by rw [← hzs]; exact sumL_len _
  have Hzs := Aside0.mk hzs
  have Hyl := Aside0.mk hyl
  have q1 := eql24 ys ys hyl hyl
  rw [decide_eq_true rfl] at q1
  have q2 := fun (o : BinOp) (x y : Operand) => guard24 o x y ys ys
  have q3 := eql24 zs zs hzl hzl
  rw [decide_eq_true rfl] at q3
  have q4 := fun (o : BinOp) (x y : Operand) => guard24 o x y zs zs
  clear hys hyl hzs hzl
  go_enter Tryd.func8, Tryd.ntmps8
  go_wp2_with (first
    | (go_at_call 20; refine (wakes3_any _ HR.out).mono ?_; rintro e w1 ⟨rfl, hB⟩)
    | (go_at_call 29; refine (New_any _).mono ?_; rintro e w2 ⟨g, rfl, hg, hH2, hb2⟩; have hB2 := hB.trans (hb2.mono hB.size); replace hg := Nat.le_trans hB.size hg; clear hb2 hB))
  have Hg := Aside0.mk hg
  clear hg
  go_loopw [23] (fun i wr => ∃ k : Nat, k ≤ la.length ∧ i = .int .i64 k ∧ Hs wr g (d0.all (la.take k)).st (d0.all (la.take k)).bs (d0.all (la.take k)).n ∧ Below w.heap.size w wr)
    (fun i _ => la.length - (intOf i).toNat)
  case atStart => exact ⟨0, by omega, rfl, hH2, hB2⟩
  case round =>
    clear hH2 hB2
    obtain ⟨k, hk, rfl, hH, hB⟩ := hrel
    by_cases hlt : k < la.length
    · obtain ⟨b, o, rfl, hbl, hc⟩ := row_cells HCA.out k hlt
      obtain ⟨x, hx⟩ : ∃ x, la.getD k 0 = x := ⟨_, rfl⟩
      obtain ⟨D, hD0⟩ : ∃ D, d0.all (la.take k) = D := ⟨_, rfl⟩
      rw [hx] at hc
      rw [hD0] at hH
      have hc1 := (hB.cell (p := ⟨b, o + k, none⟩) hbl).trans hc
      have HDn := Aside0.mk (show D.n + [x].length < 4611686018427387904 by
        have h1 : D.n = d0.n + (la.take k).length := by rw [← hD0]; exact Dg.all_n _ _
        have h2 : d0.n = 0 := rfl
        have h3 := Hl.out
        rw [h1, h2, List.length_take]
        simp
        omega)
      have Hx := Aside0.mk hx
      have HD := Aside0.mk hD0
      have hkl : (k : Int) < la.length := by omega
      have wk : wrap64 ((k : Int) + 1) = ((k + 1 : Nat) : Int) := by
        have h9 := Hl.out
        rw [w64 (by omega) (by omega)]
        rfl
      have Hlt := Aside0.mk hlt
      clear hc hx hD0 hlt hk
      go_wp2_with (first
        | (go_at_call 30; refine (Write_any (some ⟨wr.heap.size, 0, none⟩) 1 g [x] D _ ((HR.out.below hB hpos.out).below ((Below.refl _ _).alloc (Nat.le_refl _) _) (Nat.lt_of_lt_of_le hpos.out hB.size)) (by have := Hg.out; have := hpos.out; omega) (hH.alloc _) HDn.out (byte_row wr x g hH.lt)).mono ?_; rintro e w5 ⟨rfl, hH5, hb5⟩))
      go_roundw
      case rel =>
        refine ⟨k + 1, Hlt.out, by rw [wk], ?_, (hB.alloc hB.size _).grown hb5 (by rw [World.size_alloc]; have := hB.size; omega) (fun j e => by cases e; exact Hg.out)⟩
        rw [Dg.all_step d0 la k Hlt.out, HD.out, Hx.out]
        exact hH5
      case measure =>
        rw [wk]
        show la.length - (k + 1) < la.length - k
        exact Nat.sub_lt_sub_left Hlt.out (Nat.lt_succ_self k)
    · obtain rfl : k = la.length := by omega
      rw [List.take_of_length_le (Nat.le_refl _)] at hH
      have hDn : (d0.all la).n = la.length := by
        rw [Dg.all_n]
        have h2 : d0.n = 0 := rfl
        omega
      obtain ⟨D, hD0⟩ : ∃ D, d0.all la = D := ⟨_, rfl⟩
      have hDy : dig D = ys := by rw [← hD0]; exact Hys.out
      have hDa : d0.all (la ++ lb) = D.all lb := by rw [Dg.all_app, hD0]
      have hDz : dig (D.all lb) = zs := by rw [← hDa]; exact Hzs.out
      rw [hD0] at hH hDn
      have HDn := Aside0.mk hDn
      have HDy := Aside0.mk hDy
      have HDz := Aside0.mk hDz
      clear hDn hDy hDa hDz hD0 hk hlt
      go_wp2_with (first
        | (go_at_call 31; refine (HSum_any g D wr (HR.out.below hB hpos.out) hH (by have := HDn.out; have := Hl.out; omega)).mono ?_; rintro e w8 ⟨rfl, hb8⟩; have hH8 := hH.below hb8 hH.lt; have hB8 := hB.trans (hb8.mono hB.size); have N8 := Aside0.mk (Nat.lt_of_lt_of_le hH.lt hb8.size); rw [HDy.out]; clear hb8 hH hB)
        | (refine store_arr rfl 24 8 33 rfl rfl w8.heap.size rfl rfl (Arr.new_at (k := .u8) (xs := List.replicate 32 0) rfl rfl) (by rw [Hyl.out]; rfl) (by rw [Hyl.out]; kernel_rfl) ?_; intro w9 hg9 hs9 hA9; have hH9 := (hH8.alloc (.cells ((List.replicate 32 0).map (Value.int .u8)).toArray 24)).grown hg9 (by have := N8.out; simp; omega); have hB9 : Below w.heap.size w w9 := (hB8.alloc hB8.size _).grown hg9 (by rw [World.size_alloc]; have := hB8.size; omega) (fun j e => by cases e; exact hB8.size); clear hg9 hs9 hH8 hB8)
        | (go_at_call 32; refine (Len_any g _ _ _ _ hH9).mono ?_; rintro e w10 ⟨rfl, rfl⟩)
        | (go_at_call 30; refine (Write_any B cb g lb D _ (HR.out.below hB9 hpos.out) (by have := Hg.out; have := hpos.out; omega) hH9 (by have := HDn.out; have := Hl.out; omega) (fun i hi => by obtain ⟨b', o', e1, h1, h2⟩ := row_cells HCB.out i hi; exact ⟨b', o', e1, by have := Hg.out; omega, Nat.lt_of_lt_of_le h1 hB9.size, (hB9.cell (p := ⟨b', o' + i, none⟩) h1).trans h2⟩)).mono ?_; rintro e w11 ⟨rfl, hH11, hb11⟩; have hA11 := hA9.grown hb11 (by have := N8.out; simp; omega); have hB11 := hB9.grown hb11 hB9.size (fun j e => by cases e; exact Hg.out); clear hb11 hH9 hA9 hB9))
      have HDb := Aside0.mk (show (D.all lb).n < 1152921504606846976 by rw [Dg.all_n, HDn.out]; have := Hl.out; omega)
      have HDn2 := Aside0.mk (show (D.all lb).n = la.length + lb.length by rw [Dg.all_n, HDn.out])
      have hflz : sumL ([la, lb] : List (List Int)).flatten = zs := by rw [show ([la, lb] : List (List Int)).flatten = la ++ lb by simp]; exact Hzs.out
      have hflen : ([la, lb] : List (List Int)).flatten.length < 1152921504606846976 := by rw [show ([la, lb] : List (List Int)).flatten = la ++ lb by simp, List.length_append]; have := Hl.out; omega
      have e1 : IntKind.u64.wrap (la.length : Int) = la.length := wu64 (by omega) (by have := Hl.out; omega)
      obtain ⟨n2, hn2⟩ : ∃ n2, la.length + lb.length = n2 := ⟨_, rfl⟩
      have e2 : wrap64 ((la.length : Int) + (lb.length : Int)) = (n2 : Int) := by rw [w64 (by omega) (by have := Hl.out; omega)]; omega
      have e3 : IntKind.i64.wrap ((la.length : Int) + (lb.length : Int)) = (n2 : Int) := by rw [IntWalk.i64_in _ (by have := Hl.out; omega)]; omega
      have e4 : IntKind.u64.wrap (n2 : Int) = n2 := wu64 (by omega) (by have := Hl.out; omega)
      rw [hn2] at HDn2
      rw [HDn.out]
      refine wp_region_any (by kernel_rfl) ?_
      change wpAny _ _ _ _ _ _ _ (World.drew _)
      obtain ⟨w50, hw50⟩ : ∃ w50, w11.drew = w50 := ⟨_, rfl⟩
      have hH50 : Hs w50 g (D.all lb).st (D.all lb).bs (D.all lb).n := by rw [← hw50]; exact hH11.drewN 1
      have hA50 : Arr w50 w8.heap.size .u8 24 ys := by rw [← hw50]; exact hA11
      have hB50 : Below w.heap.size w w50 := by rw [← hw50]; exact pw_below_drewN hB11 1
      rw [hw50]
      clear hH11 hA11 hB11 hw50 hn2
      refine wpAny_take (i := 1) (oi := { dst := some 40, op := Go.Op.move (Go.Operand.tmp 0), type := 22, pos := "law.go:98", after := #[], guard := none }) (v := ?v1p) rfl (by kernel_rfl) (by kernel_rfl) (by kernel_rfl) (fun _ _ _ h => h) (Or.inl ⟨by rfl, fun w => ?hy1p⟩) ?rest1p
      case hy1p => go_simp; (first | done | (with_reducible rfl))
      simp only [Act.put, List.setIfInBounds_toArray, List.set_cons_zero, List.set_cons_succ]
      refine wpAny_ready (rs := [0, 2]) (by kernel_rfl) (by simp) ?_
      refine AllReady.cons (o := { dst := some 39, op := Go.Op.load 24 (Go.Operand.tmp 8), type := 24, pos := "law.go:98", after := #[], guard := none }) rfl (fun K hK => ?_) (AllReady.cons (o := { dst := some 41, op := Go.Op.call { callee := Go.Callee.value (Go.Operand.func 22), args := #[Go.Operand.tmp 40], argTypes := #[22] }, type := 24, pos := "law.go:98", after := #[{ on := 1, ground := Go.Ground.data }], guard := none }) rfl (fun K hK => ?_) (AllReady.nil))
      ·
        rw [if_pos (by rfl)]
        refine wp_load_mid 24 (.tmp 8) rfl w8.heap.size 0 rfl (ys.map (Value.int .u8)) _ (arr_range hA50) Tryd.underlying24 rfl (by rw [List.length_map, Hyl.out]; kernel_rfl) ?_
        rw [show (Value.agg (ys.map (Value.int .u8)).toArray) = AV .u8 ys from rfl]
        refine hK _ _ ?_
        clear hK K hA50
        try simp only [Act.put, List.setIfInBounds_toArray, List.set_cons_zero, List.set_cons_succ]
        refine wpAny_ready (rs := [2]) (by kernel_rfl) (by simp) ?_
        refine AllReady.cons (o := { dst := some 41, op := Go.Op.call { callee := Go.Callee.value (Go.Operand.func 22), args := #[Go.Operand.tmp 40], argTypes := #[22] }, type := 24, pos := "law.go:98", after := #[{ on := 1, ground := Go.Ground.data }], guard := none }) rfl (fun K hK => ?_) (AllReady.nil)
        ·
          go_simp
          go_at_call 22
          refine (refSum_any A ca la _ Hba.out (Kd.C_below HCA.out hB50) (by have := Hl.out; omega)).mono ?_
          rintro e w102 ⟨rfl, hb102⟩
          rw [Hys.out]
          refine hK _ _ ?_
          clear hK K
          try simp only [Act.put, List.setIfInBounds_toArray, List.set_cons_zero, List.set_cons_succ]
          have hH102 := hH50.below hb102 hH50.lt
          have hB102 := hB50.trans (hb102.mono hB50.size)
          clear hb102 hH50 hB50
          refine wpAny_take (i := 3) (oi := { dst := some 42, op := Go.Op.binOp Go.BinOp.eql 24 (Go.Operand.tmp 39) (Go.Operand.tmp 41) 24, type := 4, pos := "law.go:98", after := #[{ on := 0, ground := Go.Ground.data }, { on := 2, ground := Go.Ground.data }], guard := none }) (v := ?v3p_0q) rfl (by kernel_rfl) (by kernel_rfl) (by kernel_rfl) (fun _ _ _ h => h) (Or.inl ⟨by rfl, fun w => ?hy3p_0q⟩) ?rest3p_0q
          case hy3p_0q => go_simp; (first | done | (with_reducible rfl))
          simp only [Act.put, List.setIfInBounds_toArray, List.set_cons_zero, List.set_cons_succ]
          refine wpAny_take (i := 4) (oi := { dst := some 43, op := Go.Op.move (Go.Operand.tmp 42), type := 4, pos := "law.go:98", after := #[{ on := 3, ground := Go.Ground.data }, { on := 2, ground := Go.Ground.chain }], guard := none }) (v := ?v4p_0q) rfl (by kernel_rfl) (by kernel_rfl) (by kernel_rfl) (fun _ _ _ h => h) (Or.inl ⟨by rfl, fun w => ?hy4p_0q⟩) ?rest4p_0q
          case hy4p_0q => go_simp; (first | done | (with_reducible rfl))
          simp only [Act.put, List.setIfInBounds_toArray, List.set_cons_zero, List.set_cons_succ]
          refine wpAny_take (i := 5) (oi := { dst := some 44, op := Go.Op.move (Go.Operand.tmp 9), type := 31, pos := "law.go:98", after := #[{ on := 4, ground := Go.Ground.guard }], guard := some (4, true) }) (v := ?v5p_0q) rfl (by kernel_rfl) (by kernel_rfl) (by kernel_rfl) (fun _ _ _ h => h) (Or.inl ⟨by rfl, fun w => ?hy5p_0q⟩) ?rest5p_0q
          case hy5p_0q => go_simp; (first | done | (with_reducible rfl))
          simp only [Act.put, List.setIfInBounds_toArray, List.set_cons_zero, List.set_cons_succ]
          refine wpAny_take (i := 6) (oi := { dst := some 45, op := Go.Op.move (Go.Operand.tmp 0), type := 22, pos := "law.go:98", after := #[{ on := 4, ground := Go.Ground.guard }], guard := some (4, true) }) (v := ?v6p_0q) rfl (by kernel_rfl) (by kernel_rfl) (by kernel_rfl) (fun _ _ _ h => h) (Or.inl ⟨by rfl, fun w => ?hy6p_0q⟩) ?rest6p_0q
          case hy6p_0q => go_simp; (first | done | (with_reducible rfl))
          simp only [Act.put, List.setIfInBounds_toArray, List.set_cons_zero, List.set_cons_succ]
          refine wpAny_take (i := 7) (oi := { dst := some 46, op := Go.Op.call { callee := Go.Callee.builtin Go.Builtin.len, args := #[Go.Operand.tmp 45], argTypes := #[22] }, type := 3, pos := "law.go:98", after := #[{ on := 6, ground := Go.Ground.data }, { on := 4, ground := Go.Ground.guard }], guard := some (4, true) }) (v := ?v7p_0q) rfl (by kernel_rfl) (by kernel_rfl) (by kernel_rfl) (fun _ _ _ h => h) (Or.inl ⟨by rfl, fun w => ?hy7p_0q⟩) ?rest7p_0q
          case hy7p_0q => go_simp; (first | done | (with_reducible rfl))
          simp only [Act.put, List.setIfInBounds_toArray, List.set_cons_zero, List.set_cons_succ]
          refine wpAny_take (i := 8) (oi := { dst := some 47, op := Go.Op.convert 3 31 (Go.Operand.tmp 46), type := 31, pos := "law.go:98", after := #[{ on := 7, ground := Go.Ground.data }, { on := 4, ground := Go.Ground.guard }], guard := some (4, true) }) (v := ?v8p_0q) rfl (by kernel_rfl) (by kernel_rfl) (by kernel_rfl) (fun _ _ _ h => h) (Or.inl ⟨by rfl, fun w => ?hy8p_0q⟩) ?rest8p_0q
          case hy8p_0q => go_simp; (first | done | (with_reducible rfl))
          simp only [Act.put, List.setIfInBounds_toArray, List.set_cons_zero, List.set_cons_succ]
          refine wpAny_take (i := 9) (oi := { dst := some 48, op := Go.Op.binOp Go.BinOp.eql 31 (Go.Operand.tmp 44) (Go.Operand.tmp 47) 31, type := 4, pos := "law.go:98", after := #[{ on := 5, ground := Go.Ground.data }, { on := 8, ground := Go.Ground.data }, { on := 4, ground := Go.Ground.guard }], guard := some (4, true) }) (v := ?v9p_0q) rfl (by kernel_rfl) (by kernel_rfl) (by kernel_rfl) (fun _ _ _ h => h) (Or.inl ⟨by rfl, fun w => ?hy9p_0q⟩) ?rest9p_0q
          case hy9p_0q => go_simp; (first | done | (with_reducible rfl))
          simp only [Act.put, List.setIfInBounds_toArray, List.set_cons_zero, List.set_cons_succ]
          refine wpAny_take (i := 10) (oi := { dst := some 49, op := Go.Op.pick (Go.Operand.tmp 43) (Go.Operand.tmp 48) (Go.Operand.const (Go.Value.bool false)), type := 4, pos := "law.go:98", after := #[{ on := 4, ground := Go.Ground.data }, { on := 9, ground := Go.Ground.data }], guard := none }) (v := ?v10p_0q) rfl (by kernel_rfl) (by kernel_rfl) (by kernel_rfl) (fun _ _ _ h => h) (Or.inl ⟨by rfl, fun w => ?hy10p_0q⟩) ?rest10p_0q
          case hy10p_0q => go_simp; (first | done | (with_reducible rfl))
          simp only [Act.put, List.setIfInBounds_toArray, List.set_cons_zero, List.set_cons_succ]
          refine wpAny_take (i := 11) (oi := { dst := some 50, op := Go.Op.move (Go.Operand.tmp 49), type := 4, pos := "law.go:98", after := #[{ on := 10, ground := Go.Ground.data }, { on := 4, ground := Go.Ground.chain }], guard := none }) (v := ?v11p_0q) rfl (by kernel_rfl) (by kernel_rfl) (by kernel_rfl) (fun _ _ _ h => h) (Or.inl ⟨by rfl, fun w => ?hy11p_0q⟩) ?rest11p_0q
          case hy11p_0q => go_simp; (first | done | (with_reducible rfl))
          simp only [Act.put, List.setIfInBounds_toArray, List.set_cons_zero, List.set_cons_succ]
          refine wpAny_take (i := 12) (oi := { dst := some 51, op := Go.Op.move (Go.Operand.tmp 5), type := 45, pos := "law.go:98", after := #[{ on := 11, ground := Go.Ground.guard }], guard := some (11, true) }) (v := ?v12p_0q) rfl (by kernel_rfl) (by kernel_rfl) (by kernel_rfl) (fun _ _ _ h => h) (Or.inl ⟨by rfl, fun w => ?hy12p_0q⟩) ?rest12p_0q
          case hy12p_0q => go_simp; (first | done | (with_reducible rfl))
          simp only [Act.put, List.setIfInBounds_toArray, List.set_cons_zero, List.set_cons_succ]
          refine wpAny_take (i := 14) (oi := { dst := some 53, op := Go.Op.move (Go.Operand.tmp 0), type := 22, pos := "law.go:98", after := #[{ on := 11, ground := Go.Ground.guard }], guard := some (11, true) }) (v := ?v14p_0q) rfl (by kernel_rfl) (by kernel_rfl) (by kernel_rfl) (fun _ _ _ h => h) (Or.inl ⟨by rfl, fun w => ?hy14p_0q⟩) ?rest14p_0q
          case hy14p_0q => go_simp; (first | done | (with_reducible rfl))
          simp only [Act.put, List.setIfInBounds_toArray, List.set_cons_zero, List.set_cons_succ]
          refine wpAny_take (i := 15) (oi := { dst := some 54, op := Go.Op.move (Go.Operand.tmp 1), type := 22, pos := "law.go:98", after := #[{ on := 11, ground := Go.Ground.guard }], guard := some (11, true) }) (v := ?v15p_0q) rfl (by kernel_rfl) (by kernel_rfl) (by kernel_rfl) (fun _ _ _ h => h) (Or.inl ⟨by rfl, fun w => ?hy15p_0q⟩) ?rest15p_0q
          case hy15p_0q => go_simp; (first | done | (with_reducible rfl))
          simp only [Act.put, List.setIfInBounds_toArray, List.set_cons_zero, List.set_cons_succ]
          refine wpAny_ready (rs := [13, 16]) (by kernel_rfl) (by simp) ?_
          refine AllReady.cons (o := { dst := some 52, op := Go.Op.call { callee := Go.Callee.value (Go.Operand.func 31), args := #[Go.Operand.tmp 51], argTypes := #[45] }, type := 24, pos := "law.go:98", after := #[{ on := 12, ground := Go.Ground.data }, { on := 11, ground := Go.Ground.chain }, { on := 11, ground := Go.Ground.guard }], guard := some (11, true) }) rfl (fun K hK => ?_) (AllReady.cons (o := { dst := some 55, op := Go.Op.buildSlice 39 2 #[(0, Go.Operand.tmp 53), (1, Go.Operand.tmp 54)], type := 39, pos := "law.go:98", after := #[{ on := 14, ground := Go.Ground.data }, { on := 15, ground := Go.Ground.data }, { on := 11, ground := Go.Ground.guard }], guard := some (11, true) }) rfl (fun K hK => ?_) (AllReady.nil))
          ·
            go_simp
            go_at_call 31
            refine (HSum_any g (D.all lb) w102 (HR.out.below hB102 hpos.out) hH102 HDb.out).mono ?_
            rintro e w103 ⟨rfl, hb103⟩
            rw [HDz.out]
            refine hK _ _ ?_
            clear hK K
            try simp only [Act.put, List.setIfInBounds_toArray, List.set_cons_zero, List.set_cons_succ]
            have hH103 := hH102.below hb103 hH102.lt
            have hB103 := hB102.trans (hb103.mono hB102.size)
            clear hb103 hH102 hB102
            refine wpAny_ready (rs := [16]) (by kernel_rfl) (by simp) ?_
            refine AllReady.cons (o := { dst := some 55, op := Go.Op.buildSlice 39 2 #[(0, Go.Operand.tmp 53), (1, Go.Operand.tmp 54)], type := 39, pos := "law.go:98", after := #[{ on := 14, ground := Go.Ground.data }, { on := 15, ground := Go.Ground.data }, { on := 11, ground := Go.Ground.guard }], guard := some (11, true) }) rfl (fun K hK => ?_) (AllReady.nil)
            ·
              go_simp
              refine hK _ _ ?_
              clear hK K
              try simp only [Act.put, List.setIfInBounds_toArray, List.set_cons_zero, List.set_cons_succ]
              change wpAny _ _ _ _ _ _ _ (World.alloc w103 (.cells #[.slice A la.length ca, .slice B lb.length cb] 22))
              have hC104 := arg2_C w103 A B ca cb la lb Hca.out Hcb.out (Kd.C_below HCA.out hB103) (Kd.C_below HCB.out hB103)
              have hH104 := hH103.alloc (.cells #[.slice A la.length ca, .slice B lb.length cb] 22)
              have hB104 := hB103.alloc hB103.size (.cells #[.slice A la.length ca, .slice B lb.length cb] 22)
              obtain ⟨w104, hw104⟩ : ∃ w104, World.alloc w103 (.cells #[.slice A la.length ca, .slice B lb.length cb] 22) = w104 := ⟨_, rfl⟩
              rw [hw104] at hC104 hH104 hB104
              rw [hw104]
              obtain ⟨s104, hs104⟩ : ∃ s104, w103.heap.size = s104 := ⟨_, rfl⟩
              rw [hs104] at hC104
              rw [hs104]
              clear hw104 hs104 hH103 hB103
              refine wpAny_ready (rs := [17]) (by kernel_rfl) (by simp) ?_
              refine AllReady.cons (o := { dst := some 56, op := Go.Op.call { callee := Go.Callee.value (Go.Operand.func 21), args := #[Go.Operand.tmp 55], argTypes := #[39] }, type := 24, pos := "law.go:98", after := #[{ on := 16, ground := Go.Ground.data }, { on := 13, ground := Go.Ground.chain }, { on := 11, ground := Go.Ground.guard }], guard := some (11, true) }) rfl (fun K hK => ?_) (AllReady.nil)
              ·
                go_simp
                go_at_call 21
                refine (SSum_any (some ⟨s104, 0, none⟩) 2 [la, lb] w104 (HR.out.below hB104 hpos.out) hC104 hflen).mono ?_
                rintro e w105 ⟨rfl, hb105⟩
                rw [hflz]
                refine hK _ _ ?_
                clear hK K
                try simp only [Act.put, List.setIfInBounds_toArray, List.set_cons_zero, List.set_cons_succ]
                have hH105 := hH104.below hb105 hH104.lt
                have hB105 := hB104.trans (hb105.mono hB104.size)
                clear hb105 hH104 hB104
                refine wpAny_take (i := 18) (oi := { dst := some 57, op := Go.Op.binOp Go.BinOp.eql 24 (Go.Operand.tmp 52) (Go.Operand.tmp 56) 24, type := 4, pos := "law.go:98", after := #[{ on := 13, ground := Go.Ground.data }, { on := 17, ground := Go.Ground.data }, { on := 11, ground := Go.Ground.guard }], guard := some (11, true) }) (v := ?v18p_0q_13qq) rfl (by kernel_rfl) (by kernel_rfl) (by kernel_rfl) (fun _ _ _ h => h) (Or.inl ⟨by rfl, fun w => ?hy18p_0q_13qq⟩) ?rest18p_0q_13qq
                case hy18p_0q_13qq => go_simp; (first | done | (with_reducible rfl))
                simp only [Act.put, List.setIfInBounds_toArray, List.set_cons_zero, List.set_cons_succ]
                refine wpAny_take (i := 19) (oi := { dst := some 58, op := Go.Op.pick (Go.Operand.tmp 50) (Go.Operand.tmp 57) (Go.Operand.const (Go.Value.bool false)), type := 4, pos := "law.go:98", after := #[{ on := 11, ground := Go.Ground.data }, { on := 18, ground := Go.Ground.data }], guard := none }) (v := ?v19p_0q_13qq) rfl (by kernel_rfl) (by kernel_rfl) (by kernel_rfl) (fun _ _ _ h => h) (Or.inl ⟨by rfl, fun w => ?hy19p_0q_13qq⟩) ?rest19p_0q_13qq
                case hy19p_0q_13qq => go_simp; (first | done | (with_reducible rfl))
                simp only [Act.put, List.setIfInBounds_toArray, List.set_cons_zero, List.set_cons_succ]
                refine wpAny_take (i := 20) (oi := { dst := some 59, op := Go.Op.move (Go.Operand.tmp 58), type := 4, pos := "law.go:98", after := #[{ on := 19, ground := Go.Ground.data }, { on := 17, ground := Go.Ground.chain }], guard := none }) (v := ?v20p_0q_13qq) rfl (by kernel_rfl) (by kernel_rfl) (by kernel_rfl) (fun _ _ _ h => h) (Or.inl ⟨by rfl, fun w => ?hy20p_0q_13qq⟩) ?rest20p_0q_13qq
                case hy20p_0q_13qq => go_simp; (first | done | (with_reducible rfl))
                simp only [Act.put, List.setIfInBounds_toArray, List.set_cons_zero, List.set_cons_succ]
                refine wpAny_take (i := 21) (oi := { dst := some 60, op := Go.Op.move (Go.Operand.tmp 5), type := 45, pos := "law.go:98", after := #[{ on := 20, ground := Go.Ground.guard }], guard := some (20, true) }) (v := ?v21p_0q_13qq) rfl (by kernel_rfl) (by kernel_rfl) (by kernel_rfl) (fun _ _ _ h => h) (Or.inl ⟨by rfl, fun w => ?hy21p_0q_13qq⟩) ?rest21p_0q_13qq
                case hy21p_0q_13qq => go_simp; (first | done | (with_reducible rfl))
                simp only [Act.put, List.setIfInBounds_toArray, List.set_cons_zero, List.set_cons_succ]
                refine wpAny_take (i := 23) (oi := { dst := some 62, op := Go.Op.move (Go.Operand.tmp 5), type := 45, pos := "law.go:98", after := #[{ on := 20, ground := Go.Ground.guard }], guard := some (20, true) }) (v := ?v23p_0q_13qq) rfl (by kernel_rfl) (by kernel_rfl) (by kernel_rfl) (fun _ _ _ h => h) (Or.inl ⟨by rfl, fun w => ?hy23p_0q_13qq⟩) ?rest23p_0q_13qq
                case hy23p_0q_13qq => go_simp; (first | done | (with_reducible rfl))
                simp only [Act.put, List.setIfInBounds_toArray, List.set_cons_zero, List.set_cons_succ]
                refine wpAny_ready (rs := [22]) (by kernel_rfl) (by simp) ?_
                refine AllReady.cons (o := { dst := some 61, op := Go.Op.call { callee := Go.Callee.value (Go.Operand.func 31), args := #[Go.Operand.tmp 60], argTypes := #[45] }, type := 24, pos := "law.go:98", after := #[{ on := 21, ground := Go.Ground.data }, { on := 20, ground := Go.Ground.chain }, { on := 20, ground := Go.Ground.guard }], guard := some (20, true) }) rfl (fun K hK => ?_) (AllReady.nil)
                ·
                  go_simp
                  go_at_call 31
                  refine (HSum_any g (D.all lb) w105 (HR.out.below hB105 hpos.out) hH105 HDb.out).mono ?_
                  rintro e w106 ⟨rfl, hb106⟩
                  rw [HDz.out]
                  refine hK _ _ ?_
                  clear hK K
                  try simp only [Act.put, List.setIfInBounds_toArray, List.set_cons_zero, List.set_cons_succ]
                  have hH106 := hH105.below hb106 hH105.lt
                  have hB106 := hB105.trans (hb106.mono hB105.size)
                  clear hb106 hH105 hB105
                  refine wpAny_ready (rs := [24]) (by kernel_rfl) (by simp) ?_
                  refine AllReady.cons (o := { dst := some 63, op := Go.Op.call { callee := Go.Callee.value (Go.Operand.func 31), args := #[Go.Operand.tmp 62], argTypes := #[45] }, type := 24, pos := "law.go:98", after := #[{ on := 23, ground := Go.Ground.data }, { on := 22, ground := Go.Ground.chain }, { on := 20, ground := Go.Ground.guard }], guard := some (20, true) }) rfl (fun K hK => ?_) (AllReady.nil)
                  ·
                    go_simp
                    go_at_call 31
                    refine (HSum_any g (D.all lb) w106 (HR.out.below hB106 hpos.out) hH106 HDb.out).mono ?_
                    rintro e w107 ⟨rfl, hb107⟩
                    rw [HDz.out]
                    refine hK _ _ ?_
                    clear hK K
                    try simp only [Act.put, List.setIfInBounds_toArray, List.set_cons_zero, List.set_cons_succ]
                    have hH107 := hH106.below hb107 hH106.lt
                    have hB107 := hB106.trans (hb107.mono hB106.size)
                    clear hb107 hH106 hB106
                    refine wpAny_take (i := 25) (oi := { dst := some 64, op := Go.Op.binOp Go.BinOp.eql 24 (Go.Operand.tmp 61) (Go.Operand.tmp 63) 24, type := 4, pos := "law.go:98", after := #[{ on := 22, ground := Go.Ground.data }, { on := 24, ground := Go.Ground.data }, { on := 20, ground := Go.Ground.guard }], guard := some (20, true) }) (v := ?v25p_0q_13qqqq) rfl (by kernel_rfl) (by kernel_rfl) (by kernel_rfl) (fun _ _ _ h => h) (Or.inl ⟨by rfl, fun w => ?hy25p_0q_13qqqq⟩) ?rest25p_0q_13qqqq
                    case hy25p_0q_13qqqq => go_simp; (first | done | (with_reducible rfl))
                    simp only [Act.put, List.setIfInBounds_toArray, List.set_cons_zero, List.set_cons_succ]
                    refine wpAny_take (i := 26) (oi := { dst := some 65, op := Go.Op.pick (Go.Operand.tmp 59) (Go.Operand.tmp 64) (Go.Operand.const (Go.Value.bool false)), type := 4, pos := "law.go:98", after := #[{ on := 20, ground := Go.Ground.data }, { on := 25, ground := Go.Ground.data }], guard := none }) (v := ?v26p_0q_13qqqq) rfl (by kernel_rfl) (by kernel_rfl) (by kernel_rfl) (fun _ _ _ h => h) (Or.inl ⟨by rfl, fun w => ?hy26p_0q_13qqqq⟩) ?rest26p_0q_13qqqq
                    case hy26p_0q_13qqqq => go_simp; (first | done | (with_reducible rfl))
                    simp only [Act.put, List.setIfInBounds_toArray, List.set_cons_zero, List.set_cons_succ]
                    refine wpAny_take (i := 27) (oi := { dst := some 66, op := Go.Op.move (Go.Operand.tmp 65), type := 4, pos := "law.go:98", after := #[{ on := 26, ground := Go.Ground.data }, { on := 24, ground := Go.Ground.chain }], guard := none }) (v := ?v27p_0q_13qqqq) rfl (by kernel_rfl) (by kernel_rfl) (by kernel_rfl) (fun _ _ _ h => h) (Or.inl ⟨by rfl, fun w => ?hy27p_0q_13qqqq⟩) ?rest27p_0q_13qqqq
                    case hy27p_0q_13qqqq => go_simp; (first | done | (with_reducible rfl))
                    simp only [Act.put, List.setIfInBounds_toArray, List.set_cons_zero, List.set_cons_succ]
                    refine wpAny_take (i := 28) (oi := { dst := some 67, op := Go.Op.move (Go.Operand.tmp 5), type := 45, pos := "law.go:98", after := #[{ on := 27, ground := Go.Ground.guard }], guard := some (27, true) }) (v := ?v28p_0q_13qqqq) rfl (by kernel_rfl) (by kernel_rfl) (by kernel_rfl) (fun _ _ _ h => h) (Or.inl ⟨by rfl, fun w => ?hy28p_0q_13qqqq⟩) ?rest28p_0q_13qqqq
                    case hy28p_0q_13qqqq => go_simp; (first | done | (with_reducible rfl))
                    simp only [Act.put, List.setIfInBounds_toArray, List.set_cons_zero, List.set_cons_succ]
                    refine wpAny_take (i := 30) (oi := { dst := some 69, op := Go.Op.move (Go.Operand.tmp 0), type := 22, pos := "law.go:98", after := #[{ on := 27, ground := Go.Ground.guard }], guard := some (27, true) }) (v := ?v30p_0q_13qqqq) rfl (by kernel_rfl) (by kernel_rfl) (by kernel_rfl) (fun _ _ _ h => h) (Or.inl ⟨by rfl, fun w => ?hy30p_0q_13qqqq⟩) ?rest30p_0q_13qqqq
                    case hy30p_0q_13qqqq => go_simp; (first | done | (with_reducible rfl))
                    simp only [Act.put, List.setIfInBounds_toArray, List.set_cons_zero, List.set_cons_succ]
                    refine wpAny_take (i := 31) (oi := { dst := some 70, op := Go.Op.call { callee := Go.Callee.builtin Go.Builtin.len, args := #[Go.Operand.tmp 69], argTypes := #[22] }, type := 3, pos := "law.go:98", after := #[{ on := 30, ground := Go.Ground.data }, { on := 27, ground := Go.Ground.guard }], guard := some (27, true) }) (v := ?v31p_0q_13qqqq) rfl (by kernel_rfl) (by kernel_rfl) (by kernel_rfl) (fun _ _ _ h => h) (Or.inl ⟨by rfl, fun w => ?hy31p_0q_13qqqq⟩) ?rest31p_0q_13qqqq
                    case hy31p_0q_13qqqq => go_simp; (first | done | (with_reducible rfl))
                    simp only [Act.put, List.setIfInBounds_toArray, List.set_cons_zero, List.set_cons_succ]
                    refine wpAny_take (i := 32) (oi := { dst := some 71, op := Go.Op.move (Go.Operand.tmp 1), type := 22, pos := "law.go:98", after := #[{ on := 27, ground := Go.Ground.guard }], guard := some (27, true) }) (v := ?v32p_0q_13qqqq) rfl (by kernel_rfl) (by kernel_rfl) (by kernel_rfl) (fun _ _ _ h => h) (Or.inl ⟨by rfl, fun w => ?hy32p_0q_13qqqq⟩) ?rest32p_0q_13qqqq
                    case hy32p_0q_13qqqq => go_simp; (first | done | (with_reducible rfl))
                    simp only [Act.put, List.setIfInBounds_toArray, List.set_cons_zero, List.set_cons_succ]
                    refine wpAny_take (i := 33) (oi := { dst := some 72, op := Go.Op.call { callee := Go.Callee.builtin Go.Builtin.len, args := #[Go.Operand.tmp 71], argTypes := #[22] }, type := 3, pos := "law.go:98", after := #[{ on := 32, ground := Go.Ground.data }, { on := 27, ground := Go.Ground.guard }], guard := some (27, true) }) (v := ?v33p_0q_13qqqq) rfl (by kernel_rfl) (by kernel_rfl) (by kernel_rfl) (fun _ _ _ h => h) (Or.inl ⟨by rfl, fun w => ?hy33p_0q_13qqqq⟩) ?rest33p_0q_13qqqq
                    case hy33p_0q_13qqqq => go_simp; (first | done | (with_reducible rfl))
                    simp only [Act.put, List.setIfInBounds_toArray, List.set_cons_zero, List.set_cons_succ]
                    refine wpAny_take (i := 34) (oi := { dst := some 73, op := Go.Op.binOp Go.BinOp.add 3 (Go.Operand.tmp 70) (Go.Operand.tmp 72) 3, type := 3, pos := "law.go:98", after := #[{ on := 31, ground := Go.Ground.data }, { on := 33, ground := Go.Ground.data }, { on := 27, ground := Go.Ground.guard }], guard := some (27, true) }) (v := ?v34p_0q_13qqqq) rfl (by kernel_rfl) (by kernel_rfl) (by kernel_rfl) (fun _ _ _ h => h) (Or.inl ⟨by rfl, fun w => ?hy34p_0q_13qqqq⟩) ?rest34p_0q_13qqqq
                    case hy34p_0q_13qqqq => go_simp; (first | done | (with_reducible rfl))
                    simp only [Act.put, List.setIfInBounds_toArray, List.set_cons_zero, List.set_cons_succ]
                    refine wpAny_take (i := 35) (oi := { dst := some 74, op := Go.Op.convert 3 31 (Go.Operand.tmp 73), type := 31, pos := "law.go:98", after := #[{ on := 34, ground := Go.Ground.data }, { on := 27, ground := Go.Ground.guard }], guard := some (27, true) }) (v := ?v35p_0q_13qqqq) rfl (by kernel_rfl) (by kernel_rfl) (by kernel_rfl) (fun _ _ _ h => h) (Or.inl ⟨by rfl, fun w => ?hy35p_0q_13qqqq⟩) ?rest35p_0q_13qqqq
                    case hy35p_0q_13qqqq => go_simp; (first | done | (with_reducible rfl))
                    simp only [Act.put, List.setIfInBounds_toArray, List.set_cons_zero, List.set_cons_succ]
                    refine wpAny_ready (rs := [29]) (by kernel_rfl) (by simp) ?_
                    refine AllReady.cons (o := { dst := some 68, op := Go.Op.call { callee := Go.Callee.value (Go.Operand.func 32), args := #[Go.Operand.tmp 67], argTypes := #[45] }, type := 31, pos := "law.go:98", after := #[{ on := 28, ground := Go.Ground.data }, { on := 27, ground := Go.Ground.chain }, { on := 27, ground := Go.Ground.guard }], guard := some (27, true) }) rfl (fun K hK => ?_) (AllReady.nil)
                    ·
                      go_simp
                      go_at_call 32
                      refine (Len_any g _ _ _ _ hH107).mono ?_
                      rintro e w108 ⟨rfl, hw108⟩
                      subst hw108
                      rw [HDn2.out]
                      refine hK _ _ ?_
                      clear hK K
                      try simp only [Act.put, List.setIfInBounds_toArray, List.set_cons_zero, List.set_cons_succ]
                      refine wpAny_take (i := 36) (oi := { dst := some 75, op := Go.Op.binOp Go.BinOp.eql 31 (Go.Operand.tmp 68) (Go.Operand.tmp 74) 31, type := 4, pos := "law.go:98", after := #[{ on := 29, ground := Go.Ground.data }, { on := 35, ground := Go.Ground.data }, { on := 27, ground := Go.Ground.guard }], guard := some (27, true) }) (v := ?v36p_0q_13qqqqq) rfl (by kernel_rfl) (by kernel_rfl) (by kernel_rfl) (fun _ _ _ h => h) (Or.inl ⟨by rfl, fun w => ?hy36p_0q_13qqqqq⟩) ?rest36p_0q_13qqqqq
                      case hy36p_0q_13qqqqq => go_simp; (first | done | (with_reducible rfl))
                      simp only [Act.put, List.setIfInBounds_toArray, List.set_cons_zero, List.set_cons_succ]
                      refine wpAny_take (i := 37) (oi := { dst := some 76, op := Go.Op.pick (Go.Operand.tmp 66) (Go.Operand.tmp 75) (Go.Operand.const (Go.Value.bool false)), type := 4, pos := "law.go:98", after := #[{ on := 27, ground := Go.Ground.data }, { on := 36, ground := Go.Ground.data }], guard := none }) (v := ?v37p_0q_13qqqqq) rfl (by kernel_rfl) (by kernel_rfl) (by kernel_rfl) (fun _ _ _ h => h) (Or.inl ⟨by rfl, fun w => ?hy37p_0q_13qqqqq⟩) ?rest37p_0q_13qqqqq
                      case hy37p_0q_13qqqqq => go_simp; (first | done | (with_reducible rfl))
                      simp only [Act.put, List.setIfInBounds_toArray, List.set_cons_zero, List.set_cons_succ]
                      refine wpAny_take (i := 38) (oi := { dst := some 4, op := Go.Op.assign (Go.Operand.tmp 76), type := 4, pos := "law.go:98", after := #[{ on := 37, ground := Go.Ground.data }, { on := 29, ground := Go.Ground.chain }, { on := 0, ground := Go.Ground.phase }, { on := 1, ground := Go.Ground.phase }, { on := 2, ground := Go.Ground.phase }, { on := 3, ground := Go.Ground.phase }, { on := 4, ground := Go.Ground.phase }, { on := 5, ground := Go.Ground.phase }, { on := 6, ground := Go.Ground.phase }, { on := 7, ground := Go.Ground.phase }, { on := 8, ground := Go.Ground.phase }, { on := 9, ground := Go.Ground.phase }, { on := 10, ground := Go.Ground.phase }, { on := 11, ground := Go.Ground.phase }, { on := 12, ground := Go.Ground.phase }, { on := 13, ground := Go.Ground.phase }, { on := 14, ground := Go.Ground.phase }, { on := 15, ground := Go.Ground.phase }, { on := 16, ground := Go.Ground.phase }, { on := 17, ground := Go.Ground.phase }, { on := 18, ground := Go.Ground.phase }, { on := 19, ground := Go.Ground.phase }, { on := 20, ground := Go.Ground.phase }, { on := 21, ground := Go.Ground.phase }, { on := 22, ground := Go.Ground.phase }, { on := 23, ground := Go.Ground.phase }, { on := 24, ground := Go.Ground.phase }, { on := 25, ground := Go.Ground.phase }, { on := 26, ground := Go.Ground.phase }, { on := 27, ground := Go.Ground.phase }, { on := 28, ground := Go.Ground.phase }, { on := 29, ground := Go.Ground.phase }, { on := 30, ground := Go.Ground.phase }, { on := 31, ground := Go.Ground.phase }, { on := 32, ground := Go.Ground.phase }, { on := 33, ground := Go.Ground.phase }, { on := 34, ground := Go.Ground.phase }, { on := 35, ground := Go.Ground.phase }, { on := 36, ground := Go.Ground.phase }, { on := 37, ground := Go.Ground.phase }], guard := none }) (v := ?v38p_0q_13qqqqq) rfl (by kernel_rfl) (by kernel_rfl) (by kernel_rfl) (fun _ _ _ h => h) (Or.inl ⟨by rfl, fun w => ?hy38p_0q_13qqqqq⟩) ?rest38p_0q_13qqqqq
                      case hy38p_0q_13qqqqq => go_simp; (first | done | (with_reducible rfl))
                      simp only [Act.put, List.setIfInBounds_toArray, List.set_cons_zero, List.set_cons_succ]
                      refine wpAny_done (by kernel_rfl) ?_ _
                      go_wp2
                      go_ret
                      exact ⟨rfl, hB107⟩
          ·
            go_simp
            refine hK _ _ ?_
            clear hK K
            try simp only [Act.put, List.setIfInBounds_toArray, List.set_cons_zero, List.set_cons_succ]
            change wpAny _ _ _ _ _ _ _ (World.alloc w102 (.cells #[.slice A la.length ca, .slice B lb.length cb] 22))
            have hC109 := arg2_C w102 A B ca cb la lb Hca.out Hcb.out (Kd.C_below HCA.out hB102) (Kd.C_below HCB.out hB102)
            have hH109 := hH102.alloc (.cells #[.slice A la.length ca, .slice B lb.length cb] 22)
            have hB109 := hB102.alloc hB102.size (.cells #[.slice A la.length ca, .slice B lb.length cb] 22)
            obtain ⟨w109, hw109⟩ : ∃ w109, World.alloc w102 (.cells #[.slice A la.length ca, .slice B lb.length cb] 22) = w109 := ⟨_, rfl⟩
            rw [hw109] at hC109 hH109 hB109
            rw [hw109]
            obtain ⟨s109, hs109⟩ : ∃ s109, w102.heap.size = s109 := ⟨_, rfl⟩
            rw [hs109] at hC109
            rw [hs109]
            clear hw109 hs109 hH102 hB102
            refine wpAny_ready (rs := [13]) (by kernel_rfl) (by simp) ?_
            refine AllReady.cons (o := { dst := some 52, op := Go.Op.call { callee := Go.Callee.value (Go.Operand.func 31), args := #[Go.Operand.tmp 51], argTypes := #[45] }, type := 24, pos := "law.go:98", after := #[{ on := 12, ground := Go.Ground.data }, { on := 11, ground := Go.Ground.chain }, { on := 11, ground := Go.Ground.guard }], guard := some (11, true) }) rfl (fun K hK => ?_) (AllReady.nil)
            ·
              go_simp
              go_at_call 31
              refine (HSum_any g (D.all lb) w109 (HR.out.below hB109 hpos.out) hH109 HDb.out).mono ?_
              rintro e w110 ⟨rfl, hb110⟩
              rw [HDz.out]
              refine hK _ _ ?_
              clear hK K
              try simp only [Act.put, List.setIfInBounds_toArray, List.set_cons_zero, List.set_cons_succ]
              have hH110 := hH109.below hb110 hH109.lt
              have hB110 := hB109.trans (hb110.mono hB109.size)
              have hC110 := Kd.C_below hC109 hb110
              clear hb110 hH109 hB109
              refine wpAny_ready (rs := [17]) (by kernel_rfl) (by simp) ?_
              refine AllReady.cons (o := { dst := some 56, op := Go.Op.call { callee := Go.Callee.value (Go.Operand.func 21), args := #[Go.Operand.tmp 55], argTypes := #[39] }, type := 24, pos := "law.go:98", after := #[{ on := 16, ground := Go.Ground.data }, { on := 13, ground := Go.Ground.chain }, { on := 11, ground := Go.Ground.guard }], guard := some (11, true) }) rfl (fun K hK => ?_) (AllReady.nil)
              ·
                go_simp
                go_at_call 21
                refine (SSum_any (some ⟨s109, 0, none⟩) 2 [la, lb] w110 (HR.out.below hB110 hpos.out) hC110 hflen).mono ?_
                rintro e w111 ⟨rfl, hb111⟩
                rw [hflz]
                refine hK _ _ ?_
                clear hK K
                try simp only [Act.put, List.setIfInBounds_toArray, List.set_cons_zero, List.set_cons_succ]
                have hH111 := hH110.below hb111 hH110.lt
                have hB111 := hB110.trans (hb111.mono hB110.size)
                clear hb111 hH110 hB110
                refine wpAny_take (i := 18) (oi := { dst := some 57, op := Go.Op.binOp Go.BinOp.eql 24 (Go.Operand.tmp 52) (Go.Operand.tmp 56) 24, type := 4, pos := "law.go:98", after := #[{ on := 13, ground := Go.Ground.data }, { on := 17, ground := Go.Ground.data }, { on := 11, ground := Go.Ground.guard }], guard := some (11, true) }) (v := ?v18p_0q_16qq) rfl (by kernel_rfl) (by kernel_rfl) (by kernel_rfl) (fun _ _ _ h => h) (Or.inl ⟨by rfl, fun w => ?hy18p_0q_16qq⟩) ?rest18p_0q_16qq
                case hy18p_0q_16qq => go_simp; (first | done | (with_reducible rfl))
                simp only [Act.put, List.setIfInBounds_toArray, List.set_cons_zero, List.set_cons_succ]
                refine wpAny_take (i := 19) (oi := { dst := some 58, op := Go.Op.pick (Go.Operand.tmp 50) (Go.Operand.tmp 57) (Go.Operand.const (Go.Value.bool false)), type := 4, pos := "law.go:98", after := #[{ on := 11, ground := Go.Ground.data }, { on := 18, ground := Go.Ground.data }], guard := none }) (v := ?v19p_0q_16qq) rfl (by kernel_rfl) (by kernel_rfl) (by kernel_rfl) (fun _ _ _ h => h) (Or.inl ⟨by rfl, fun w => ?hy19p_0q_16qq⟩) ?rest19p_0q_16qq
                case hy19p_0q_16qq => go_simp; (first | done | (with_reducible rfl))
                simp only [Act.put, List.setIfInBounds_toArray, List.set_cons_zero, List.set_cons_succ]
                refine wpAny_take (i := 20) (oi := { dst := some 59, op := Go.Op.move (Go.Operand.tmp 58), type := 4, pos := "law.go:98", after := #[{ on := 19, ground := Go.Ground.data }, { on := 17, ground := Go.Ground.chain }], guard := none }) (v := ?v20p_0q_16qq) rfl (by kernel_rfl) (by kernel_rfl) (by kernel_rfl) (fun _ _ _ h => h) (Or.inl ⟨by rfl, fun w => ?hy20p_0q_16qq⟩) ?rest20p_0q_16qq
                case hy20p_0q_16qq => go_simp; (first | done | (with_reducible rfl))
                simp only [Act.put, List.setIfInBounds_toArray, List.set_cons_zero, List.set_cons_succ]
                refine wpAny_take (i := 21) (oi := { dst := some 60, op := Go.Op.move (Go.Operand.tmp 5), type := 45, pos := "law.go:98", after := #[{ on := 20, ground := Go.Ground.guard }], guard := some (20, true) }) (v := ?v21p_0q_16qq) rfl (by kernel_rfl) (by kernel_rfl) (by kernel_rfl) (fun _ _ _ h => h) (Or.inl ⟨by rfl, fun w => ?hy21p_0q_16qq⟩) ?rest21p_0q_16qq
                case hy21p_0q_16qq => go_simp; (first | done | (with_reducible rfl))
                simp only [Act.put, List.setIfInBounds_toArray, List.set_cons_zero, List.set_cons_succ]
                refine wpAny_take (i := 23) (oi := { dst := some 62, op := Go.Op.move (Go.Operand.tmp 5), type := 45, pos := "law.go:98", after := #[{ on := 20, ground := Go.Ground.guard }], guard := some (20, true) }) (v := ?v23p_0q_16qq) rfl (by kernel_rfl) (by kernel_rfl) (by kernel_rfl) (fun _ _ _ h => h) (Or.inl ⟨by rfl, fun w => ?hy23p_0q_16qq⟩) ?rest23p_0q_16qq
                case hy23p_0q_16qq => go_simp; (first | done | (with_reducible rfl))
                simp only [Act.put, List.setIfInBounds_toArray, List.set_cons_zero, List.set_cons_succ]
                refine wpAny_ready (rs := [22]) (by kernel_rfl) (by simp) ?_
                refine AllReady.cons (o := { dst := some 61, op := Go.Op.call { callee := Go.Callee.value (Go.Operand.func 31), args := #[Go.Operand.tmp 60], argTypes := #[45] }, type := 24, pos := "law.go:98", after := #[{ on := 21, ground := Go.Ground.data }, { on := 20, ground := Go.Ground.chain }, { on := 20, ground := Go.Ground.guard }], guard := some (20, true) }) rfl (fun K hK => ?_) (AllReady.nil)
                ·
                  go_simp
                  go_at_call 31
                  refine (HSum_any g (D.all lb) w111 (HR.out.below hB111 hpos.out) hH111 HDb.out).mono ?_
                  rintro e w112 ⟨rfl, hb112⟩
                  rw [HDz.out]
                  refine hK _ _ ?_
                  clear hK K
                  try simp only [Act.put, List.setIfInBounds_toArray, List.set_cons_zero, List.set_cons_succ]
                  have hH112 := hH111.below hb112 hH111.lt
                  have hB112 := hB111.trans (hb112.mono hB111.size)
                  clear hb112 hH111 hB111
                  refine wpAny_ready (rs := [24]) (by kernel_rfl) (by simp) ?_
                  refine AllReady.cons (o := { dst := some 63, op := Go.Op.call { callee := Go.Callee.value (Go.Operand.func 31), args := #[Go.Operand.tmp 62], argTypes := #[45] }, type := 24, pos := "law.go:98", after := #[{ on := 23, ground := Go.Ground.data }, { on := 22, ground := Go.Ground.chain }, { on := 20, ground := Go.Ground.guard }], guard := some (20, true) }) rfl (fun K hK => ?_) (AllReady.nil)
                  ·
                    go_simp
                    go_at_call 31
                    refine (HSum_any g (D.all lb) w112 (HR.out.below hB112 hpos.out) hH112 HDb.out).mono ?_
                    rintro e w113 ⟨rfl, hb113⟩
                    rw [HDz.out]
                    refine hK _ _ ?_
                    clear hK K
                    try simp only [Act.put, List.setIfInBounds_toArray, List.set_cons_zero, List.set_cons_succ]
                    have hH113 := hH112.below hb113 hH112.lt
                    have hB113 := hB112.trans (hb113.mono hB112.size)
                    clear hb113 hH112 hB112
                    refine wpAny_take (i := 25) (oi := { dst := some 64, op := Go.Op.binOp Go.BinOp.eql 24 (Go.Operand.tmp 61) (Go.Operand.tmp 63) 24, type := 4, pos := "law.go:98", after := #[{ on := 22, ground := Go.Ground.data }, { on := 24, ground := Go.Ground.data }, { on := 20, ground := Go.Ground.guard }], guard := some (20, true) }) (v := ?v25p_0q_16qqqq) rfl (by kernel_rfl) (by kernel_rfl) (by kernel_rfl) (fun _ _ _ h => h) (Or.inl ⟨by rfl, fun w => ?hy25p_0q_16qqqq⟩) ?rest25p_0q_16qqqq
                    case hy25p_0q_16qqqq => go_simp; (first | done | (with_reducible rfl))
                    simp only [Act.put, List.setIfInBounds_toArray, List.set_cons_zero, List.set_cons_succ]
                    refine wpAny_take (i := 26) (oi := { dst := some 65, op := Go.Op.pick (Go.Operand.tmp 59) (Go.Operand.tmp 64) (Go.Operand.const (Go.Value.bool false)), type := 4, pos := "law.go:98", after := #[{ on := 20, ground := Go.Ground.data }, { on := 25, ground := Go.Ground.data }], guard := none }) (v := ?v26p_0q_16qqqq) rfl (by kernel_rfl) (by kernel_rfl) (by kernel_rfl) (fun _ _ _ h => h) (Or.inl ⟨by rfl, fun w => ?hy26p_0q_16qqqq⟩) ?rest26p_0q_16qqqq
                    case hy26p_0q_16qqqq => go_simp; (first | done | (with_reducible rfl))
                    simp only [Act.put, List.setIfInBounds_toArray, List.set_cons_zero, List.set_cons_succ]
                    refine wpAny_take (i := 27) (oi := { dst := some 66, op := Go.Op.move (Go.Operand.tmp 65), type := 4, pos := "law.go:98", after := #[{ on := 26, ground := Go.Ground.data }, { on := 24, ground := Go.Ground.chain }], guard := none }) (v := ?v27p_0q_16qqqq) rfl (by kernel_rfl) (by kernel_rfl) (by kernel_rfl) (fun _ _ _ h => h) (Or.inl ⟨by rfl, fun w => ?hy27p_0q_16qqqq⟩) ?rest27p_0q_16qqqq
                    case hy27p_0q_16qqqq => go_simp; (first | done | (with_reducible rfl))
                    simp only [Act.put, List.setIfInBounds_toArray, List.set_cons_zero, List.set_cons_succ]
                    refine wpAny_take (i := 28) (oi := { dst := some 67, op := Go.Op.move (Go.Operand.tmp 5), type := 45, pos := "law.go:98", after := #[{ on := 27, ground := Go.Ground.guard }], guard := some (27, true) }) (v := ?v28p_0q_16qqqq) rfl (by kernel_rfl) (by kernel_rfl) (by kernel_rfl) (fun _ _ _ h => h) (Or.inl ⟨by rfl, fun w => ?hy28p_0q_16qqqq⟩) ?rest28p_0q_16qqqq
                    case hy28p_0q_16qqqq => go_simp; (first | done | (with_reducible rfl))
                    simp only [Act.put, List.setIfInBounds_toArray, List.set_cons_zero, List.set_cons_succ]
                    refine wpAny_take (i := 30) (oi := { dst := some 69, op := Go.Op.move (Go.Operand.tmp 0), type := 22, pos := "law.go:98", after := #[{ on := 27, ground := Go.Ground.guard }], guard := some (27, true) }) (v := ?v30p_0q_16qqqq) rfl (by kernel_rfl) (by kernel_rfl) (by kernel_rfl) (fun _ _ _ h => h) (Or.inl ⟨by rfl, fun w => ?hy30p_0q_16qqqq⟩) ?rest30p_0q_16qqqq
                    case hy30p_0q_16qqqq => go_simp; (first | done | (with_reducible rfl))
                    simp only [Act.put, List.setIfInBounds_toArray, List.set_cons_zero, List.set_cons_succ]
                    refine wpAny_take (i := 31) (oi := { dst := some 70, op := Go.Op.call { callee := Go.Callee.builtin Go.Builtin.len, args := #[Go.Operand.tmp 69], argTypes := #[22] }, type := 3, pos := "law.go:98", after := #[{ on := 30, ground := Go.Ground.data }, { on := 27, ground := Go.Ground.guard }], guard := some (27, true) }) (v := ?v31p_0q_16qqqq) rfl (by kernel_rfl) (by kernel_rfl) (by kernel_rfl) (fun _ _ _ h => h) (Or.inl ⟨by rfl, fun w => ?hy31p_0q_16qqqq⟩) ?rest31p_0q_16qqqq
                    case hy31p_0q_16qqqq => go_simp; (first | done | (with_reducible rfl))
                    simp only [Act.put, List.setIfInBounds_toArray, List.set_cons_zero, List.set_cons_succ]
                    refine wpAny_take (i := 32) (oi := { dst := some 71, op := Go.Op.move (Go.Operand.tmp 1), type := 22, pos := "law.go:98", after := #[{ on := 27, ground := Go.Ground.guard }], guard := some (27, true) }) (v := ?v32p_0q_16qqqq) rfl (by kernel_rfl) (by kernel_rfl) (by kernel_rfl) (fun _ _ _ h => h) (Or.inl ⟨by rfl, fun w => ?hy32p_0q_16qqqq⟩) ?rest32p_0q_16qqqq
                    case hy32p_0q_16qqqq => go_simp; (first | done | (with_reducible rfl))
                    simp only [Act.put, List.setIfInBounds_toArray, List.set_cons_zero, List.set_cons_succ]
                    refine wpAny_take (i := 33) (oi := { dst := some 72, op := Go.Op.call { callee := Go.Callee.builtin Go.Builtin.len, args := #[Go.Operand.tmp 71], argTypes := #[22] }, type := 3, pos := "law.go:98", after := #[{ on := 32, ground := Go.Ground.data }, { on := 27, ground := Go.Ground.guard }], guard := some (27, true) }) (v := ?v33p_0q_16qqqq) rfl (by kernel_rfl) (by kernel_rfl) (by kernel_rfl) (fun _ _ _ h => h) (Or.inl ⟨by rfl, fun w => ?hy33p_0q_16qqqq⟩) ?rest33p_0q_16qqqq
                    case hy33p_0q_16qqqq => go_simp; (first | done | (with_reducible rfl))
                    simp only [Act.put, List.setIfInBounds_toArray, List.set_cons_zero, List.set_cons_succ]
                    refine wpAny_take (i := 34) (oi := { dst := some 73, op := Go.Op.binOp Go.BinOp.add 3 (Go.Operand.tmp 70) (Go.Operand.tmp 72) 3, type := 3, pos := "law.go:98", after := #[{ on := 31, ground := Go.Ground.data }, { on := 33, ground := Go.Ground.data }, { on := 27, ground := Go.Ground.guard }], guard := some (27, true) }) (v := ?v34p_0q_16qqqq) rfl (by kernel_rfl) (by kernel_rfl) (by kernel_rfl) (fun _ _ _ h => h) (Or.inl ⟨by rfl, fun w => ?hy34p_0q_16qqqq⟩) ?rest34p_0q_16qqqq
                    case hy34p_0q_16qqqq => go_simp; (first | done | (with_reducible rfl))
                    simp only [Act.put, List.setIfInBounds_toArray, List.set_cons_zero, List.set_cons_succ]
                    refine wpAny_take (i := 35) (oi := { dst := some 74, op := Go.Op.convert 3 31 (Go.Operand.tmp 73), type := 31, pos := "law.go:98", after := #[{ on := 34, ground := Go.Ground.data }, { on := 27, ground := Go.Ground.guard }], guard := some (27, true) }) (v := ?v35p_0q_16qqqq) rfl (by kernel_rfl) (by kernel_rfl) (by kernel_rfl) (fun _ _ _ h => h) (Or.inl ⟨by rfl, fun w => ?hy35p_0q_16qqqq⟩) ?rest35p_0q_16qqqq
                    case hy35p_0q_16qqqq => go_simp; (first | done | (with_reducible rfl))
                    simp only [Act.put, List.setIfInBounds_toArray, List.set_cons_zero, List.set_cons_succ]
                    refine wpAny_ready (rs := [29]) (by kernel_rfl) (by simp) ?_
                    refine AllReady.cons (o := { dst := some 68, op := Go.Op.call { callee := Go.Callee.value (Go.Operand.func 32), args := #[Go.Operand.tmp 67], argTypes := #[45] }, type := 31, pos := "law.go:98", after := #[{ on := 28, ground := Go.Ground.data }, { on := 27, ground := Go.Ground.chain }, { on := 27, ground := Go.Ground.guard }], guard := some (27, true) }) rfl (fun K hK => ?_) (AllReady.nil)
                    ·
                      go_simp
                      go_at_call 32
                      refine (Len_any g _ _ _ _ hH113).mono ?_
                      rintro e w114 ⟨rfl, hw114⟩
                      subst hw114
                      rw [HDn2.out]
                      refine hK _ _ ?_
                      clear hK K
                      try simp only [Act.put, List.setIfInBounds_toArray, List.set_cons_zero, List.set_cons_succ]
                      refine wpAny_take (i := 36) (oi := { dst := some 75, op := Go.Op.binOp Go.BinOp.eql 31 (Go.Operand.tmp 68) (Go.Operand.tmp 74) 31, type := 4, pos := "law.go:98", after := #[{ on := 29, ground := Go.Ground.data }, { on := 35, ground := Go.Ground.data }, { on := 27, ground := Go.Ground.guard }], guard := some (27, true) }) (v := ?v36p_0q_16qqqqq) rfl (by kernel_rfl) (by kernel_rfl) (by kernel_rfl) (fun _ _ _ h => h) (Or.inl ⟨by rfl, fun w => ?hy36p_0q_16qqqqq⟩) ?rest36p_0q_16qqqqq
                      case hy36p_0q_16qqqqq => go_simp; (first | done | (with_reducible rfl))
                      simp only [Act.put, List.setIfInBounds_toArray, List.set_cons_zero, List.set_cons_succ]
                      refine wpAny_take (i := 37) (oi := { dst := some 76, op := Go.Op.pick (Go.Operand.tmp 66) (Go.Operand.tmp 75) (Go.Operand.const (Go.Value.bool false)), type := 4, pos := "law.go:98", after := #[{ on := 27, ground := Go.Ground.data }, { on := 36, ground := Go.Ground.data }], guard := none }) (v := ?v37p_0q_16qqqqq) rfl (by kernel_rfl) (by kernel_rfl) (by kernel_rfl) (fun _ _ _ h => h) (Or.inl ⟨by rfl, fun w => ?hy37p_0q_16qqqqq⟩) ?rest37p_0q_16qqqqq
                      case hy37p_0q_16qqqqq => go_simp; (first | done | (with_reducible rfl))
                      simp only [Act.put, List.setIfInBounds_toArray, List.set_cons_zero, List.set_cons_succ]
                      refine wpAny_take (i := 38) (oi := { dst := some 4, op := Go.Op.assign (Go.Operand.tmp 76), type := 4, pos := "law.go:98", after := #[{ on := 37, ground := Go.Ground.data }, { on := 29, ground := Go.Ground.chain }, { on := 0, ground := Go.Ground.phase }, { on := 1, ground := Go.Ground.phase }, { on := 2, ground := Go.Ground.phase }, { on := 3, ground := Go.Ground.phase }, { on := 4, ground := Go.Ground.phase }, { on := 5, ground := Go.Ground.phase }, { on := 6, ground := Go.Ground.phase }, { on := 7, ground := Go.Ground.phase }, { on := 8, ground := Go.Ground.phase }, { on := 9, ground := Go.Ground.phase }, { on := 10, ground := Go.Ground.phase }, { on := 11, ground := Go.Ground.phase }, { on := 12, ground := Go.Ground.phase }, { on := 13, ground := Go.Ground.phase }, { on := 14, ground := Go.Ground.phase }, { on := 15, ground := Go.Ground.phase }, { on := 16, ground := Go.Ground.phase }, { on := 17, ground := Go.Ground.phase }, { on := 18, ground := Go.Ground.phase }, { on := 19, ground := Go.Ground.phase }, { on := 20, ground := Go.Ground.phase }, { on := 21, ground := Go.Ground.phase }, { on := 22, ground := Go.Ground.phase }, { on := 23, ground := Go.Ground.phase }, { on := 24, ground := Go.Ground.phase }, { on := 25, ground := Go.Ground.phase }, { on := 26, ground := Go.Ground.phase }, { on := 27, ground := Go.Ground.phase }, { on := 28, ground := Go.Ground.phase }, { on := 29, ground := Go.Ground.phase }, { on := 30, ground := Go.Ground.phase }, { on := 31, ground := Go.Ground.phase }, { on := 32, ground := Go.Ground.phase }, { on := 33, ground := Go.Ground.phase }, { on := 34, ground := Go.Ground.phase }, { on := 35, ground := Go.Ground.phase }, { on := 36, ground := Go.Ground.phase }, { on := 37, ground := Go.Ground.phase }], guard := none }) (v := ?v38p_0q_16qqqqq) rfl (by kernel_rfl) (by kernel_rfl) (by kernel_rfl) (fun _ _ _ h => h) (Or.inl ⟨by rfl, fun w => ?hy38p_0q_16qqqqq⟩) ?rest38p_0q_16qqqqq
                      case hy38p_0q_16qqqqq => go_simp; (first | done | (with_reducible rfl))
                      simp only [Act.put, List.setIfInBounds_toArray, List.set_cons_zero, List.set_cons_succ]
                      refine wpAny_done (by kernel_rfl) ?_ _
                      go_wp2
                      go_ret
                      exact ⟨rfl, hB113⟩
      ·
        go_simp
        go_at_call 22
        refine (refSum_any A ca la _ Hba.out (Kd.C_below HCA.out hB50) (by have := Hl.out; omega)).mono ?_
        rintro e w115 ⟨rfl, hb115⟩
        rw [Hys.out]
        refine hK _ _ ?_
        clear hK K
        try simp only [Act.put, List.setIfInBounds_toArray, List.set_cons_zero, List.set_cons_succ]
        have hH115 := hH50.below hb115 hH50.lt
        have hB115 := hB50.trans (hb115.mono hB50.size)
        have hA115 := hA50.below hb115 hA50.lt
        clear hb115 hH50 hB50 hA50
        refine wpAny_ready (rs := [0]) (by kernel_rfl) (by simp) ?_
        refine AllReady.cons (o := { dst := some 39, op := Go.Op.load 24 (Go.Operand.tmp 8), type := 24, pos := "law.go:98", after := #[], guard := none }) rfl (fun K hK => ?_) (AllReady.nil)
        ·
          rw [if_pos (by rfl)]
          refine wp_load_mid 24 (.tmp 8) rfl w8.heap.size 0 rfl (ys.map (Value.int .u8)) _ (arr_range hA115) Tryd.underlying24 rfl (by rw [List.length_map, Hyl.out]; kernel_rfl) ?_
          rw [show (Value.agg (ys.map (Value.int .u8)).toArray) = AV .u8 ys from rfl]
          refine hK _ _ ?_
          clear hK K hA115
          try simp only [Act.put, List.setIfInBounds_toArray, List.set_cons_zero, List.set_cons_succ]
          refine wpAny_take (i := 3) (oi := { dst := some 42, op := Go.Op.binOp Go.BinOp.eql 24 (Go.Operand.tmp 39) (Go.Operand.tmp 41) 24, type := 4, pos := "law.go:98", after := #[{ on := 0, ground := Go.Ground.data }, { on := 2, ground := Go.Ground.data }], guard := none }) (v := ?v3p_2q) rfl (by kernel_rfl) (by kernel_rfl) (by kernel_rfl) (fun _ _ _ h => h) (Or.inl ⟨by rfl, fun w => ?hy3p_2q⟩) ?rest3p_2q
          case hy3p_2q => go_simp; (first | done | (with_reducible rfl))
          simp only [Act.put, List.setIfInBounds_toArray, List.set_cons_zero, List.set_cons_succ]
          refine wpAny_take (i := 4) (oi := { dst := some 43, op := Go.Op.move (Go.Operand.tmp 42), type := 4, pos := "law.go:98", after := #[{ on := 3, ground := Go.Ground.data }, { on := 2, ground := Go.Ground.chain }], guard := none }) (v := ?v4p_2q) rfl (by kernel_rfl) (by kernel_rfl) (by kernel_rfl) (fun _ _ _ h => h) (Or.inl ⟨by rfl, fun w => ?hy4p_2q⟩) ?rest4p_2q
          case hy4p_2q => go_simp; (first | done | (with_reducible rfl))
          simp only [Act.put, List.setIfInBounds_toArray, List.set_cons_zero, List.set_cons_succ]
          refine wpAny_take (i := 5) (oi := { dst := some 44, op := Go.Op.move (Go.Operand.tmp 9), type := 31, pos := "law.go:98", after := #[{ on := 4, ground := Go.Ground.guard }], guard := some (4, true) }) (v := ?v5p_2q) rfl (by kernel_rfl) (by kernel_rfl) (by kernel_rfl) (fun _ _ _ h => h) (Or.inl ⟨by rfl, fun w => ?hy5p_2q⟩) ?rest5p_2q
          case hy5p_2q => go_simp; (first | done | (with_reducible rfl))
          simp only [Act.put, List.setIfInBounds_toArray, List.set_cons_zero, List.set_cons_succ]
          refine wpAny_take (i := 6) (oi := { dst := some 45, op := Go.Op.move (Go.Operand.tmp 0), type := 22, pos := "law.go:98", after := #[{ on := 4, ground := Go.Ground.guard }], guard := some (4, true) }) (v := ?v6p_2q) rfl (by kernel_rfl) (by kernel_rfl) (by kernel_rfl) (fun _ _ _ h => h) (Or.inl ⟨by rfl, fun w => ?hy6p_2q⟩) ?rest6p_2q
          case hy6p_2q => go_simp; (first | done | (with_reducible rfl))
          simp only [Act.put, List.setIfInBounds_toArray, List.set_cons_zero, List.set_cons_succ]
          refine wpAny_take (i := 7) (oi := { dst := some 46, op := Go.Op.call { callee := Go.Callee.builtin Go.Builtin.len, args := #[Go.Operand.tmp 45], argTypes := #[22] }, type := 3, pos := "law.go:98", after := #[{ on := 6, ground := Go.Ground.data }, { on := 4, ground := Go.Ground.guard }], guard := some (4, true) }) (v := ?v7p_2q) rfl (by kernel_rfl) (by kernel_rfl) (by kernel_rfl) (fun _ _ _ h => h) (Or.inl ⟨by rfl, fun w => ?hy7p_2q⟩) ?rest7p_2q
          case hy7p_2q => go_simp; (first | done | (with_reducible rfl))
          simp only [Act.put, List.setIfInBounds_toArray, List.set_cons_zero, List.set_cons_succ]
          refine wpAny_take (i := 8) (oi := { dst := some 47, op := Go.Op.convert 3 31 (Go.Operand.tmp 46), type := 31, pos := "law.go:98", after := #[{ on := 7, ground := Go.Ground.data }, { on := 4, ground := Go.Ground.guard }], guard := some (4, true) }) (v := ?v8p_2q) rfl (by kernel_rfl) (by kernel_rfl) (by kernel_rfl) (fun _ _ _ h => h) (Or.inl ⟨by rfl, fun w => ?hy8p_2q⟩) ?rest8p_2q
          case hy8p_2q => go_simp; (first | done | (with_reducible rfl))
          simp only [Act.put, List.setIfInBounds_toArray, List.set_cons_zero, List.set_cons_succ]
          refine wpAny_take (i := 9) (oi := { dst := some 48, op := Go.Op.binOp Go.BinOp.eql 31 (Go.Operand.tmp 44) (Go.Operand.tmp 47) 31, type := 4, pos := "law.go:98", after := #[{ on := 5, ground := Go.Ground.data }, { on := 8, ground := Go.Ground.data }, { on := 4, ground := Go.Ground.guard }], guard := some (4, true) }) (v := ?v9p_2q) rfl (by kernel_rfl) (by kernel_rfl) (by kernel_rfl) (fun _ _ _ h => h) (Or.inl ⟨by rfl, fun w => ?hy9p_2q⟩) ?rest9p_2q
          case hy9p_2q => go_simp; (first | done | (with_reducible rfl))
          simp only [Act.put, List.setIfInBounds_toArray, List.set_cons_zero, List.set_cons_succ]
          refine wpAny_take (i := 10) (oi := { dst := some 49, op := Go.Op.pick (Go.Operand.tmp 43) (Go.Operand.tmp 48) (Go.Operand.const (Go.Value.bool false)), type := 4, pos := "law.go:98", after := #[{ on := 4, ground := Go.Ground.data }, { on := 9, ground := Go.Ground.data }], guard := none }) (v := ?v10p_2q) rfl (by kernel_rfl) (by kernel_rfl) (by kernel_rfl) (fun _ _ _ h => h) (Or.inl ⟨by rfl, fun w => ?hy10p_2q⟩) ?rest10p_2q
          case hy10p_2q => go_simp; (first | done | (with_reducible rfl))
          simp only [Act.put, List.setIfInBounds_toArray, List.set_cons_zero, List.set_cons_succ]
          refine wpAny_take (i := 11) (oi := { dst := some 50, op := Go.Op.move (Go.Operand.tmp 49), type := 4, pos := "law.go:98", after := #[{ on := 10, ground := Go.Ground.data }, { on := 4, ground := Go.Ground.chain }], guard := none }) (v := ?v11p_2q) rfl (by kernel_rfl) (by kernel_rfl) (by kernel_rfl) (fun _ _ _ h => h) (Or.inl ⟨by rfl, fun w => ?hy11p_2q⟩) ?rest11p_2q
          case hy11p_2q => go_simp; (first | done | (with_reducible rfl))
          simp only [Act.put, List.setIfInBounds_toArray, List.set_cons_zero, List.set_cons_succ]
          refine wpAny_take (i := 12) (oi := { dst := some 51, op := Go.Op.move (Go.Operand.tmp 5), type := 45, pos := "law.go:98", after := #[{ on := 11, ground := Go.Ground.guard }], guard := some (11, true) }) (v := ?v12p_2q) rfl (by kernel_rfl) (by kernel_rfl) (by kernel_rfl) (fun _ _ _ h => h) (Or.inl ⟨by rfl, fun w => ?hy12p_2q⟩) ?rest12p_2q
          case hy12p_2q => go_simp; (first | done | (with_reducible rfl))
          simp only [Act.put, List.setIfInBounds_toArray, List.set_cons_zero, List.set_cons_succ]
          refine wpAny_take (i := 14) (oi := { dst := some 53, op := Go.Op.move (Go.Operand.tmp 0), type := 22, pos := "law.go:98", after := #[{ on := 11, ground := Go.Ground.guard }], guard := some (11, true) }) (v := ?v14p_2q) rfl (by kernel_rfl) (by kernel_rfl) (by kernel_rfl) (fun _ _ _ h => h) (Or.inl ⟨by rfl, fun w => ?hy14p_2q⟩) ?rest14p_2q
          case hy14p_2q => go_simp; (first | done | (with_reducible rfl))
          simp only [Act.put, List.setIfInBounds_toArray, List.set_cons_zero, List.set_cons_succ]
          refine wpAny_take (i := 15) (oi := { dst := some 54, op := Go.Op.move (Go.Operand.tmp 1), type := 22, pos := "law.go:98", after := #[{ on := 11, ground := Go.Ground.guard }], guard := some (11, true) }) (v := ?v15p_2q) rfl (by kernel_rfl) (by kernel_rfl) (by kernel_rfl) (fun _ _ _ h => h) (Or.inl ⟨by rfl, fun w => ?hy15p_2q⟩) ?rest15p_2q
          case hy15p_2q => go_simp; (first | done | (with_reducible rfl))
          simp only [Act.put, List.setIfInBounds_toArray, List.set_cons_zero, List.set_cons_succ]
          refine wpAny_ready (rs := [13, 16]) (by kernel_rfl) (by simp) ?_
          refine AllReady.cons (o := { dst := some 52, op := Go.Op.call { callee := Go.Callee.value (Go.Operand.func 31), args := #[Go.Operand.tmp 51], argTypes := #[45] }, type := 24, pos := "law.go:98", after := #[{ on := 12, ground := Go.Ground.data }, { on := 11, ground := Go.Ground.chain }, { on := 11, ground := Go.Ground.guard }], guard := some (11, true) }) rfl (fun K hK => ?_) (AllReady.cons (o := { dst := some 55, op := Go.Op.buildSlice 39 2 #[(0, Go.Operand.tmp 53), (1, Go.Operand.tmp 54)], type := 39, pos := "law.go:98", after := #[{ on := 14, ground := Go.Ground.data }, { on := 15, ground := Go.Ground.data }, { on := 11, ground := Go.Ground.guard }], guard := some (11, true) }) rfl (fun K hK => ?_) (AllReady.nil))
          ·
            go_simp
            go_at_call 31
            refine (HSum_any g (D.all lb) w115 (HR.out.below hB115 hpos.out) hH115 HDb.out).mono ?_
            rintro e w117 ⟨rfl, hb117⟩
            rw [HDz.out]
            refine hK _ _ ?_
            clear hK K
            try simp only [Act.put, List.setIfInBounds_toArray, List.set_cons_zero, List.set_cons_succ]
            have hH117 := hH115.below hb117 hH115.lt
            have hB117 := hB115.trans (hb117.mono hB115.size)
            clear hb117 hH115 hB115
            refine wpAny_ready (rs := [16]) (by kernel_rfl) (by simp) ?_
            refine AllReady.cons (o := { dst := some 55, op := Go.Op.buildSlice 39 2 #[(0, Go.Operand.tmp 53), (1, Go.Operand.tmp 54)], type := 39, pos := "law.go:98", after := #[{ on := 14, ground := Go.Ground.data }, { on := 15, ground := Go.Ground.data }, { on := 11, ground := Go.Ground.guard }], guard := some (11, true) }) rfl (fun K hK => ?_) (AllReady.nil)
            ·
              go_simp
              refine hK _ _ ?_
              clear hK K
              try simp only [Act.put, List.setIfInBounds_toArray, List.set_cons_zero, List.set_cons_succ]
              change wpAny _ _ _ _ _ _ _ (World.alloc w117 (.cells #[.slice A la.length ca, .slice B lb.length cb] 22))
              have hC118 := arg2_C w117 A B ca cb la lb Hca.out Hcb.out (Kd.C_below HCA.out hB117) (Kd.C_below HCB.out hB117)
              have hH118 := hH117.alloc (.cells #[.slice A la.length ca, .slice B lb.length cb] 22)
              have hB118 := hB117.alloc hB117.size (.cells #[.slice A la.length ca, .slice B lb.length cb] 22)
              obtain ⟨w118, hw118⟩ : ∃ w118, World.alloc w117 (.cells #[.slice A la.length ca, .slice B lb.length cb] 22) = w118 := ⟨_, rfl⟩
              rw [hw118] at hC118 hH118 hB118
              rw [hw118]
              obtain ⟨s118, hs118⟩ : ∃ s118, w117.heap.size = s118 := ⟨_, rfl⟩
              rw [hs118] at hC118
              rw [hs118]
              clear hw118 hs118 hH117 hB117
              refine wpAny_ready (rs := [17]) (by kernel_rfl) (by simp) ?_
              refine AllReady.cons (o := { dst := some 56, op := Go.Op.call { callee := Go.Callee.value (Go.Operand.func 21), args := #[Go.Operand.tmp 55], argTypes := #[39] }, type := 24, pos := "law.go:98", after := #[{ on := 16, ground := Go.Ground.data }, { on := 13, ground := Go.Ground.chain }, { on := 11, ground := Go.Ground.guard }], guard := some (11, true) }) rfl (fun K hK => ?_) (AllReady.nil)
              ·
                go_simp
                go_at_call 21
                refine (SSum_any (some ⟨s118, 0, none⟩) 2 [la, lb] w118 (HR.out.below hB118 hpos.out) hC118 hflen).mono ?_
                rintro e w119 ⟨rfl, hb119⟩
                rw [hflz]
                refine hK _ _ ?_
                clear hK K
                try simp only [Act.put, List.setIfInBounds_toArray, List.set_cons_zero, List.set_cons_succ]
                have hH119 := hH118.below hb119 hH118.lt
                have hB119 := hB118.trans (hb119.mono hB118.size)
                clear hb119 hH118 hB118
                refine wpAny_take (i := 18) (oi := { dst := some 57, op := Go.Op.binOp Go.BinOp.eql 24 (Go.Operand.tmp 52) (Go.Operand.tmp 56) 24, type := 4, pos := "law.go:98", after := #[{ on := 13, ground := Go.Ground.data }, { on := 17, ground := Go.Ground.data }, { on := 11, ground := Go.Ground.guard }], guard := some (11, true) }) (v := ?v18p_2q_13qq) rfl (by kernel_rfl) (by kernel_rfl) (by kernel_rfl) (fun _ _ _ h => h) (Or.inl ⟨by rfl, fun w => ?hy18p_2q_13qq⟩) ?rest18p_2q_13qq
                case hy18p_2q_13qq => go_simp; (first | done | (with_reducible rfl))
                simp only [Act.put, List.setIfInBounds_toArray, List.set_cons_zero, List.set_cons_succ]
                refine wpAny_take (i := 19) (oi := { dst := some 58, op := Go.Op.pick (Go.Operand.tmp 50) (Go.Operand.tmp 57) (Go.Operand.const (Go.Value.bool false)), type := 4, pos := "law.go:98", after := #[{ on := 11, ground := Go.Ground.data }, { on := 18, ground := Go.Ground.data }], guard := none }) (v := ?v19p_2q_13qq) rfl (by kernel_rfl) (by kernel_rfl) (by kernel_rfl) (fun _ _ _ h => h) (Or.inl ⟨by rfl, fun w => ?hy19p_2q_13qq⟩) ?rest19p_2q_13qq
                case hy19p_2q_13qq => go_simp; (first | done | (with_reducible rfl))
                simp only [Act.put, List.setIfInBounds_toArray, List.set_cons_zero, List.set_cons_succ]
                refine wpAny_take (i := 20) (oi := { dst := some 59, op := Go.Op.move (Go.Operand.tmp 58), type := 4, pos := "law.go:98", after := #[{ on := 19, ground := Go.Ground.data }, { on := 17, ground := Go.Ground.chain }], guard := none }) (v := ?v20p_2q_13qq) rfl (by kernel_rfl) (by kernel_rfl) (by kernel_rfl) (fun _ _ _ h => h) (Or.inl ⟨by rfl, fun w => ?hy20p_2q_13qq⟩) ?rest20p_2q_13qq
                case hy20p_2q_13qq => go_simp; (first | done | (with_reducible rfl))
                simp only [Act.put, List.setIfInBounds_toArray, List.set_cons_zero, List.set_cons_succ]
                refine wpAny_take (i := 21) (oi := { dst := some 60, op := Go.Op.move (Go.Operand.tmp 5), type := 45, pos := "law.go:98", after := #[{ on := 20, ground := Go.Ground.guard }], guard := some (20, true) }) (v := ?v21p_2q_13qq) rfl (by kernel_rfl) (by kernel_rfl) (by kernel_rfl) (fun _ _ _ h => h) (Or.inl ⟨by rfl, fun w => ?hy21p_2q_13qq⟩) ?rest21p_2q_13qq
                case hy21p_2q_13qq => go_simp; (first | done | (with_reducible rfl))
                simp only [Act.put, List.setIfInBounds_toArray, List.set_cons_zero, List.set_cons_succ]
                refine wpAny_take (i := 23) (oi := { dst := some 62, op := Go.Op.move (Go.Operand.tmp 5), type := 45, pos := "law.go:98", after := #[{ on := 20, ground := Go.Ground.guard }], guard := some (20, true) }) (v := ?v23p_2q_13qq) rfl (by kernel_rfl) (by kernel_rfl) (by kernel_rfl) (fun _ _ _ h => h) (Or.inl ⟨by rfl, fun w => ?hy23p_2q_13qq⟩) ?rest23p_2q_13qq
                case hy23p_2q_13qq => go_simp; (first | done | (with_reducible rfl))
                simp only [Act.put, List.setIfInBounds_toArray, List.set_cons_zero, List.set_cons_succ]
                refine wpAny_ready (rs := [22]) (by kernel_rfl) (by simp) ?_
                refine AllReady.cons (o := { dst := some 61, op := Go.Op.call { callee := Go.Callee.value (Go.Operand.func 31), args := #[Go.Operand.tmp 60], argTypes := #[45] }, type := 24, pos := "law.go:98", after := #[{ on := 21, ground := Go.Ground.data }, { on := 20, ground := Go.Ground.chain }, { on := 20, ground := Go.Ground.guard }], guard := some (20, true) }) rfl (fun K hK => ?_) (AllReady.nil)
                ·
                  go_simp
                  go_at_call 31
                  refine (HSum_any g (D.all lb) w119 (HR.out.below hB119 hpos.out) hH119 HDb.out).mono ?_
                  rintro e w120 ⟨rfl, hb120⟩
                  rw [HDz.out]
                  refine hK _ _ ?_
                  clear hK K
                  try simp only [Act.put, List.setIfInBounds_toArray, List.set_cons_zero, List.set_cons_succ]
                  have hH120 := hH119.below hb120 hH119.lt
                  have hB120 := hB119.trans (hb120.mono hB119.size)
                  clear hb120 hH119 hB119
                  refine wpAny_ready (rs := [24]) (by kernel_rfl) (by simp) ?_
                  refine AllReady.cons (o := { dst := some 63, op := Go.Op.call { callee := Go.Callee.value (Go.Operand.func 31), args := #[Go.Operand.tmp 62], argTypes := #[45] }, type := 24, pos := "law.go:98", after := #[{ on := 23, ground := Go.Ground.data }, { on := 22, ground := Go.Ground.chain }, { on := 20, ground := Go.Ground.guard }], guard := some (20, true) }) rfl (fun K hK => ?_) (AllReady.nil)
                  ·
                    go_simp
                    go_at_call 31
                    refine (HSum_any g (D.all lb) w120 (HR.out.below hB120 hpos.out) hH120 HDb.out).mono ?_
                    rintro e w121 ⟨rfl, hb121⟩
                    rw [HDz.out]
                    refine hK _ _ ?_
                    clear hK K
                    try simp only [Act.put, List.setIfInBounds_toArray, List.set_cons_zero, List.set_cons_succ]
                    have hH121 := hH120.below hb121 hH120.lt
                    have hB121 := hB120.trans (hb121.mono hB120.size)
                    clear hb121 hH120 hB120
                    refine wpAny_take (i := 25) (oi := { dst := some 64, op := Go.Op.binOp Go.BinOp.eql 24 (Go.Operand.tmp 61) (Go.Operand.tmp 63) 24, type := 4, pos := "law.go:98", after := #[{ on := 22, ground := Go.Ground.data }, { on := 24, ground := Go.Ground.data }, { on := 20, ground := Go.Ground.guard }], guard := some (20, true) }) (v := ?v25p_2q_13qqqq) rfl (by kernel_rfl) (by kernel_rfl) (by kernel_rfl) (fun _ _ _ h => h) (Or.inl ⟨by rfl, fun w => ?hy25p_2q_13qqqq⟩) ?rest25p_2q_13qqqq
                    case hy25p_2q_13qqqq => go_simp; (first | done | (with_reducible rfl))
                    simp only [Act.put, List.setIfInBounds_toArray, List.set_cons_zero, List.set_cons_succ]
                    refine wpAny_take (i := 26) (oi := { dst := some 65, op := Go.Op.pick (Go.Operand.tmp 59) (Go.Operand.tmp 64) (Go.Operand.const (Go.Value.bool false)), type := 4, pos := "law.go:98", after := #[{ on := 20, ground := Go.Ground.data }, { on := 25, ground := Go.Ground.data }], guard := none }) (v := ?v26p_2q_13qqqq) rfl (by kernel_rfl) (by kernel_rfl) (by kernel_rfl) (fun _ _ _ h => h) (Or.inl ⟨by rfl, fun w => ?hy26p_2q_13qqqq⟩) ?rest26p_2q_13qqqq
                    case hy26p_2q_13qqqq => go_simp; (first | done | (with_reducible rfl))
                    simp only [Act.put, List.setIfInBounds_toArray, List.set_cons_zero, List.set_cons_succ]
                    refine wpAny_take (i := 27) (oi := { dst := some 66, op := Go.Op.move (Go.Operand.tmp 65), type := 4, pos := "law.go:98", after := #[{ on := 26, ground := Go.Ground.data }, { on := 24, ground := Go.Ground.chain }], guard := none }) (v := ?v27p_2q_13qqqq) rfl (by kernel_rfl) (by kernel_rfl) (by kernel_rfl) (fun _ _ _ h => h) (Or.inl ⟨by rfl, fun w => ?hy27p_2q_13qqqq⟩) ?rest27p_2q_13qqqq
                    case hy27p_2q_13qqqq => go_simp; (first | done | (with_reducible rfl))
                    simp only [Act.put, List.setIfInBounds_toArray, List.set_cons_zero, List.set_cons_succ]
                    refine wpAny_take (i := 28) (oi := { dst := some 67, op := Go.Op.move (Go.Operand.tmp 5), type := 45, pos := "law.go:98", after := #[{ on := 27, ground := Go.Ground.guard }], guard := some (27, true) }) (v := ?v28p_2q_13qqqq) rfl (by kernel_rfl) (by kernel_rfl) (by kernel_rfl) (fun _ _ _ h => h) (Or.inl ⟨by rfl, fun w => ?hy28p_2q_13qqqq⟩) ?rest28p_2q_13qqqq
                    case hy28p_2q_13qqqq => go_simp; (first | done | (with_reducible rfl))
                    simp only [Act.put, List.setIfInBounds_toArray, List.set_cons_zero, List.set_cons_succ]
                    refine wpAny_take (i := 30) (oi := { dst := some 69, op := Go.Op.move (Go.Operand.tmp 0), type := 22, pos := "law.go:98", after := #[{ on := 27, ground := Go.Ground.guard }], guard := some (27, true) }) (v := ?v30p_2q_13qqqq) rfl (by kernel_rfl) (by kernel_rfl) (by kernel_rfl) (fun _ _ _ h => h) (Or.inl ⟨by rfl, fun w => ?hy30p_2q_13qqqq⟩) ?rest30p_2q_13qqqq
                    case hy30p_2q_13qqqq => go_simp; (first | done | (with_reducible rfl))
                    simp only [Act.put, List.setIfInBounds_toArray, List.set_cons_zero, List.set_cons_succ]
                    refine wpAny_take (i := 31) (oi := { dst := some 70, op := Go.Op.call { callee := Go.Callee.builtin Go.Builtin.len, args := #[Go.Operand.tmp 69], argTypes := #[22] }, type := 3, pos := "law.go:98", after := #[{ on := 30, ground := Go.Ground.data }, { on := 27, ground := Go.Ground.guard }], guard := some (27, true) }) (v := ?v31p_2q_13qqqq) rfl (by kernel_rfl) (by kernel_rfl) (by kernel_rfl) (fun _ _ _ h => h) (Or.inl ⟨by rfl, fun w => ?hy31p_2q_13qqqq⟩) ?rest31p_2q_13qqqq
                    case hy31p_2q_13qqqq => go_simp; (first | done | (with_reducible rfl))
                    simp only [Act.put, List.setIfInBounds_toArray, List.set_cons_zero, List.set_cons_succ]
                    refine wpAny_take (i := 32) (oi := { dst := some 71, op := Go.Op.move (Go.Operand.tmp 1), type := 22, pos := "law.go:98", after := #[{ on := 27, ground := Go.Ground.guard }], guard := some (27, true) }) (v := ?v32p_2q_13qqqq) rfl (by kernel_rfl) (by kernel_rfl) (by kernel_rfl) (fun _ _ _ h => h) (Or.inl ⟨by rfl, fun w => ?hy32p_2q_13qqqq⟩) ?rest32p_2q_13qqqq
                    case hy32p_2q_13qqqq => go_simp; (first | done | (with_reducible rfl))
                    simp only [Act.put, List.setIfInBounds_toArray, List.set_cons_zero, List.set_cons_succ]
                    refine wpAny_take (i := 33) (oi := { dst := some 72, op := Go.Op.call { callee := Go.Callee.builtin Go.Builtin.len, args := #[Go.Operand.tmp 71], argTypes := #[22] }, type := 3, pos := "law.go:98", after := #[{ on := 32, ground := Go.Ground.data }, { on := 27, ground := Go.Ground.guard }], guard := some (27, true) }) (v := ?v33p_2q_13qqqq) rfl (by kernel_rfl) (by kernel_rfl) (by kernel_rfl) (fun _ _ _ h => h) (Or.inl ⟨by rfl, fun w => ?hy33p_2q_13qqqq⟩) ?rest33p_2q_13qqqq
                    case hy33p_2q_13qqqq => go_simp; (first | done | (with_reducible rfl))
                    simp only [Act.put, List.setIfInBounds_toArray, List.set_cons_zero, List.set_cons_succ]
                    refine wpAny_take (i := 34) (oi := { dst := some 73, op := Go.Op.binOp Go.BinOp.add 3 (Go.Operand.tmp 70) (Go.Operand.tmp 72) 3, type := 3, pos := "law.go:98", after := #[{ on := 31, ground := Go.Ground.data }, { on := 33, ground := Go.Ground.data }, { on := 27, ground := Go.Ground.guard }], guard := some (27, true) }) (v := ?v34p_2q_13qqqq) rfl (by kernel_rfl) (by kernel_rfl) (by kernel_rfl) (fun _ _ _ h => h) (Or.inl ⟨by rfl, fun w => ?hy34p_2q_13qqqq⟩) ?rest34p_2q_13qqqq
                    case hy34p_2q_13qqqq => go_simp; (first | done | (with_reducible rfl))
                    simp only [Act.put, List.setIfInBounds_toArray, List.set_cons_zero, List.set_cons_succ]
                    refine wpAny_take (i := 35) (oi := { dst := some 74, op := Go.Op.convert 3 31 (Go.Operand.tmp 73), type := 31, pos := "law.go:98", after := #[{ on := 34, ground := Go.Ground.data }, { on := 27, ground := Go.Ground.guard }], guard := some (27, true) }) (v := ?v35p_2q_13qqqq) rfl (by kernel_rfl) (by kernel_rfl) (by kernel_rfl) (fun _ _ _ h => h) (Or.inl ⟨by rfl, fun w => ?hy35p_2q_13qqqq⟩) ?rest35p_2q_13qqqq
                    case hy35p_2q_13qqqq => go_simp; (first | done | (with_reducible rfl))
                    simp only [Act.put, List.setIfInBounds_toArray, List.set_cons_zero, List.set_cons_succ]
                    refine wpAny_ready (rs := [29]) (by kernel_rfl) (by simp) ?_
                    refine AllReady.cons (o := { dst := some 68, op := Go.Op.call { callee := Go.Callee.value (Go.Operand.func 32), args := #[Go.Operand.tmp 67], argTypes := #[45] }, type := 31, pos := "law.go:98", after := #[{ on := 28, ground := Go.Ground.data }, { on := 27, ground := Go.Ground.chain }, { on := 27, ground := Go.Ground.guard }], guard := some (27, true) }) rfl (fun K hK => ?_) (AllReady.nil)
                    ·
                      go_simp
                      go_at_call 32
                      refine (Len_any g _ _ _ _ hH121).mono ?_
                      rintro e w122 ⟨rfl, hw122⟩
                      subst hw122
                      rw [HDn2.out]
                      refine hK _ _ ?_
                      clear hK K
                      try simp only [Act.put, List.setIfInBounds_toArray, List.set_cons_zero, List.set_cons_succ]
                      refine wpAny_take (i := 36) (oi := { dst := some 75, op := Go.Op.binOp Go.BinOp.eql 31 (Go.Operand.tmp 68) (Go.Operand.tmp 74) 31, type := 4, pos := "law.go:98", after := #[{ on := 29, ground := Go.Ground.data }, { on := 35, ground := Go.Ground.data }, { on := 27, ground := Go.Ground.guard }], guard := some (27, true) }) (v := ?v36p_2q_13qqqqq) rfl (by kernel_rfl) (by kernel_rfl) (by kernel_rfl) (fun _ _ _ h => h) (Or.inl ⟨by rfl, fun w => ?hy36p_2q_13qqqqq⟩) ?rest36p_2q_13qqqqq
                      case hy36p_2q_13qqqqq => go_simp; (first | done | (with_reducible rfl))
                      simp only [Act.put, List.setIfInBounds_toArray, List.set_cons_zero, List.set_cons_succ]
                      refine wpAny_take (i := 37) (oi := { dst := some 76, op := Go.Op.pick (Go.Operand.tmp 66) (Go.Operand.tmp 75) (Go.Operand.const (Go.Value.bool false)), type := 4, pos := "law.go:98", after := #[{ on := 27, ground := Go.Ground.data }, { on := 36, ground := Go.Ground.data }], guard := none }) (v := ?v37p_2q_13qqqqq) rfl (by kernel_rfl) (by kernel_rfl) (by kernel_rfl) (fun _ _ _ h => h) (Or.inl ⟨by rfl, fun w => ?hy37p_2q_13qqqqq⟩) ?rest37p_2q_13qqqqq
                      case hy37p_2q_13qqqqq => go_simp; (first | done | (with_reducible rfl))
                      simp only [Act.put, List.setIfInBounds_toArray, List.set_cons_zero, List.set_cons_succ]
                      refine wpAny_take (i := 38) (oi := { dst := some 4, op := Go.Op.assign (Go.Operand.tmp 76), type := 4, pos := "law.go:98", after := #[{ on := 37, ground := Go.Ground.data }, { on := 29, ground := Go.Ground.chain }, { on := 0, ground := Go.Ground.phase }, { on := 1, ground := Go.Ground.phase }, { on := 2, ground := Go.Ground.phase }, { on := 3, ground := Go.Ground.phase }, { on := 4, ground := Go.Ground.phase }, { on := 5, ground := Go.Ground.phase }, { on := 6, ground := Go.Ground.phase }, { on := 7, ground := Go.Ground.phase }, { on := 8, ground := Go.Ground.phase }, { on := 9, ground := Go.Ground.phase }, { on := 10, ground := Go.Ground.phase }, { on := 11, ground := Go.Ground.phase }, { on := 12, ground := Go.Ground.phase }, { on := 13, ground := Go.Ground.phase }, { on := 14, ground := Go.Ground.phase }, { on := 15, ground := Go.Ground.phase }, { on := 16, ground := Go.Ground.phase }, { on := 17, ground := Go.Ground.phase }, { on := 18, ground := Go.Ground.phase }, { on := 19, ground := Go.Ground.phase }, { on := 20, ground := Go.Ground.phase }, { on := 21, ground := Go.Ground.phase }, { on := 22, ground := Go.Ground.phase }, { on := 23, ground := Go.Ground.phase }, { on := 24, ground := Go.Ground.phase }, { on := 25, ground := Go.Ground.phase }, { on := 26, ground := Go.Ground.phase }, { on := 27, ground := Go.Ground.phase }, { on := 28, ground := Go.Ground.phase }, { on := 29, ground := Go.Ground.phase }, { on := 30, ground := Go.Ground.phase }, { on := 31, ground := Go.Ground.phase }, { on := 32, ground := Go.Ground.phase }, { on := 33, ground := Go.Ground.phase }, { on := 34, ground := Go.Ground.phase }, { on := 35, ground := Go.Ground.phase }, { on := 36, ground := Go.Ground.phase }, { on := 37, ground := Go.Ground.phase }], guard := none }) (v := ?v38p_2q_13qqqqq) rfl (by kernel_rfl) (by kernel_rfl) (by kernel_rfl) (fun _ _ _ h => h) (Or.inl ⟨by rfl, fun w => ?hy38p_2q_13qqqqq⟩) ?rest38p_2q_13qqqqq
                      case hy38p_2q_13qqqqq => go_simp; (first | done | (with_reducible rfl))
                      simp only [Act.put, List.setIfInBounds_toArray, List.set_cons_zero, List.set_cons_succ]
                      refine wpAny_done (by kernel_rfl) ?_ _
                      go_wp2
                      go_ret
                      exact ⟨rfl, hB121⟩
          ·
            go_simp
            refine hK _ _ ?_
            clear hK K
            try simp only [Act.put, List.setIfInBounds_toArray, List.set_cons_zero, List.set_cons_succ]
            change wpAny _ _ _ _ _ _ _ (World.alloc w115 (.cells #[.slice A la.length ca, .slice B lb.length cb] 22))
            have hC123 := arg2_C w115 A B ca cb la lb Hca.out Hcb.out (Kd.C_below HCA.out hB115) (Kd.C_below HCB.out hB115)
            have hH123 := hH115.alloc (.cells #[.slice A la.length ca, .slice B lb.length cb] 22)
            have hB123 := hB115.alloc hB115.size (.cells #[.slice A la.length ca, .slice B lb.length cb] 22)
            obtain ⟨w123, hw123⟩ : ∃ w123, World.alloc w115 (.cells #[.slice A la.length ca, .slice B lb.length cb] 22) = w123 := ⟨_, rfl⟩
            rw [hw123] at hC123 hH123 hB123
            rw [hw123]
            obtain ⟨s123, hs123⟩ : ∃ s123, w115.heap.size = s123 := ⟨_, rfl⟩
            rw [hs123] at hC123
            rw [hs123]
            clear hw123 hs123 hH115 hB115
            refine wpAny_ready (rs := [13]) (by kernel_rfl) (by simp) ?_
            refine AllReady.cons (o := { dst := some 52, op := Go.Op.call { callee := Go.Callee.value (Go.Operand.func 31), args := #[Go.Operand.tmp 51], argTypes := #[45] }, type := 24, pos := "law.go:98", after := #[{ on := 12, ground := Go.Ground.data }, { on := 11, ground := Go.Ground.chain }, { on := 11, ground := Go.Ground.guard }], guard := some (11, true) }) rfl (fun K hK => ?_) (AllReady.nil)
            ·
              go_simp
              go_at_call 31
              refine (HSum_any g (D.all lb) w123 (HR.out.below hB123 hpos.out) hH123 HDb.out).mono ?_
              rintro e w124 ⟨rfl, hb124⟩
              rw [HDz.out]
              refine hK _ _ ?_
              clear hK K
              try simp only [Act.put, List.setIfInBounds_toArray, List.set_cons_zero, List.set_cons_succ]
              have hH124 := hH123.below hb124 hH123.lt
              have hB124 := hB123.trans (hb124.mono hB123.size)
              have hC124 := Kd.C_below hC123 hb124
              clear hb124 hH123 hB123
              refine wpAny_ready (rs := [17]) (by kernel_rfl) (by simp) ?_
              refine AllReady.cons (o := { dst := some 56, op := Go.Op.call { callee := Go.Callee.value (Go.Operand.func 21), args := #[Go.Operand.tmp 55], argTypes := #[39] }, type := 24, pos := "law.go:98", after := #[{ on := 16, ground := Go.Ground.data }, { on := 13, ground := Go.Ground.chain }, { on := 11, ground := Go.Ground.guard }], guard := some (11, true) }) rfl (fun K hK => ?_) (AllReady.nil)
              ·
                go_simp
                go_at_call 21
                refine (SSum_any (some ⟨s123, 0, none⟩) 2 [la, lb] w124 (HR.out.below hB124 hpos.out) hC124 hflen).mono ?_
                rintro e w125 ⟨rfl, hb125⟩
                rw [hflz]
                refine hK _ _ ?_
                clear hK K
                try simp only [Act.put, List.setIfInBounds_toArray, List.set_cons_zero, List.set_cons_succ]
                have hH125 := hH124.below hb125 hH124.lt
                have hB125 := hB124.trans (hb125.mono hB124.size)
                clear hb125 hH124 hB124
                refine wpAny_take (i := 18) (oi := { dst := some 57, op := Go.Op.binOp Go.BinOp.eql 24 (Go.Operand.tmp 52) (Go.Operand.tmp 56) 24, type := 4, pos := "law.go:98", after := #[{ on := 13, ground := Go.Ground.data }, { on := 17, ground := Go.Ground.data }, { on := 11, ground := Go.Ground.guard }], guard := some (11, true) }) (v := ?v18p_2q_16qq) rfl (by kernel_rfl) (by kernel_rfl) (by kernel_rfl) (fun _ _ _ h => h) (Or.inl ⟨by rfl, fun w => ?hy18p_2q_16qq⟩) ?rest18p_2q_16qq
                case hy18p_2q_16qq => go_simp; (first | done | (with_reducible rfl))
                simp only [Act.put, List.setIfInBounds_toArray, List.set_cons_zero, List.set_cons_succ]
                refine wpAny_take (i := 19) (oi := { dst := some 58, op := Go.Op.pick (Go.Operand.tmp 50) (Go.Operand.tmp 57) (Go.Operand.const (Go.Value.bool false)), type := 4, pos := "law.go:98", after := #[{ on := 11, ground := Go.Ground.data }, { on := 18, ground := Go.Ground.data }], guard := none }) (v := ?v19p_2q_16qq) rfl (by kernel_rfl) (by kernel_rfl) (by kernel_rfl) (fun _ _ _ h => h) (Or.inl ⟨by rfl, fun w => ?hy19p_2q_16qq⟩) ?rest19p_2q_16qq
                case hy19p_2q_16qq => go_simp; (first | done | (with_reducible rfl))
                simp only [Act.put, List.setIfInBounds_toArray, List.set_cons_zero, List.set_cons_succ]
                refine wpAny_take (i := 20) (oi := { dst := some 59, op := Go.Op.move (Go.Operand.tmp 58), type := 4, pos := "law.go:98", after := #[{ on := 19, ground := Go.Ground.data }, { on := 17, ground := Go.Ground.chain }], guard := none }) (v := ?v20p_2q_16qq) rfl (by kernel_rfl) (by kernel_rfl) (by kernel_rfl) (fun _ _ _ h => h) (Or.inl ⟨by rfl, fun w => ?hy20p_2q_16qq⟩) ?rest20p_2q_16qq
                case hy20p_2q_16qq => go_simp; (first | done | (with_reducible rfl))
                simp only [Act.put, List.setIfInBounds_toArray, List.set_cons_zero, List.set_cons_succ]
                refine wpAny_take (i := 21) (oi := { dst := some 60, op := Go.Op.move (Go.Operand.tmp 5), type := 45, pos := "law.go:98", after := #[{ on := 20, ground := Go.Ground.guard }], guard := some (20, true) }) (v := ?v21p_2q_16qq) rfl (by kernel_rfl) (by kernel_rfl) (by kernel_rfl) (fun _ _ _ h => h) (Or.inl ⟨by rfl, fun w => ?hy21p_2q_16qq⟩) ?rest21p_2q_16qq
                case hy21p_2q_16qq => go_simp; (first | done | (with_reducible rfl))
                simp only [Act.put, List.setIfInBounds_toArray, List.set_cons_zero, List.set_cons_succ]
                refine wpAny_take (i := 23) (oi := { dst := some 62, op := Go.Op.move (Go.Operand.tmp 5), type := 45, pos := "law.go:98", after := #[{ on := 20, ground := Go.Ground.guard }], guard := some (20, true) }) (v := ?v23p_2q_16qq) rfl (by kernel_rfl) (by kernel_rfl) (by kernel_rfl) (fun _ _ _ h => h) (Or.inl ⟨by rfl, fun w => ?hy23p_2q_16qq⟩) ?rest23p_2q_16qq
                case hy23p_2q_16qq => go_simp; (first | done | (with_reducible rfl))
                simp only [Act.put, List.setIfInBounds_toArray, List.set_cons_zero, List.set_cons_succ]
                refine wpAny_ready (rs := [22]) (by kernel_rfl) (by simp) ?_
                refine AllReady.cons (o := { dst := some 61, op := Go.Op.call { callee := Go.Callee.value (Go.Operand.func 31), args := #[Go.Operand.tmp 60], argTypes := #[45] }, type := 24, pos := "law.go:98", after := #[{ on := 21, ground := Go.Ground.data }, { on := 20, ground := Go.Ground.chain }, { on := 20, ground := Go.Ground.guard }], guard := some (20, true) }) rfl (fun K hK => ?_) (AllReady.nil)
                ·
                  go_simp
                  go_at_call 31
                  refine (HSum_any g (D.all lb) w125 (HR.out.below hB125 hpos.out) hH125 HDb.out).mono ?_
                  rintro e w126 ⟨rfl, hb126⟩
                  rw [HDz.out]
                  refine hK _ _ ?_
                  clear hK K
                  try simp only [Act.put, List.setIfInBounds_toArray, List.set_cons_zero, List.set_cons_succ]
                  have hH126 := hH125.below hb126 hH125.lt
                  have hB126 := hB125.trans (hb126.mono hB125.size)
                  clear hb126 hH125 hB125
                  refine wpAny_ready (rs := [24]) (by kernel_rfl) (by simp) ?_
                  refine AllReady.cons (o := { dst := some 63, op := Go.Op.call { callee := Go.Callee.value (Go.Operand.func 31), args := #[Go.Operand.tmp 62], argTypes := #[45] }, type := 24, pos := "law.go:98", after := #[{ on := 23, ground := Go.Ground.data }, { on := 22, ground := Go.Ground.chain }, { on := 20, ground := Go.Ground.guard }], guard := some (20, true) }) rfl (fun K hK => ?_) (AllReady.nil)
                  ·
                    go_simp
                    go_at_call 31
                    refine (HSum_any g (D.all lb) w126 (HR.out.below hB126 hpos.out) hH126 HDb.out).mono ?_
                    rintro e w127 ⟨rfl, hb127⟩
                    rw [HDz.out]
                    refine hK _ _ ?_
                    clear hK K
                    try simp only [Act.put, List.setIfInBounds_toArray, List.set_cons_zero, List.set_cons_succ]
                    have hH127 := hH126.below hb127 hH126.lt
                    have hB127 := hB126.trans (hb127.mono hB126.size)
                    clear hb127 hH126 hB126
                    refine wpAny_take (i := 25) (oi := { dst := some 64, op := Go.Op.binOp Go.BinOp.eql 24 (Go.Operand.tmp 61) (Go.Operand.tmp 63) 24, type := 4, pos := "law.go:98", after := #[{ on := 22, ground := Go.Ground.data }, { on := 24, ground := Go.Ground.data }, { on := 20, ground := Go.Ground.guard }], guard := some (20, true) }) (v := ?v25p_2q_16qqqq) rfl (by kernel_rfl) (by kernel_rfl) (by kernel_rfl) (fun _ _ _ h => h) (Or.inl ⟨by rfl, fun w => ?hy25p_2q_16qqqq⟩) ?rest25p_2q_16qqqq
                    case hy25p_2q_16qqqq => go_simp; (first | done | (with_reducible rfl))
                    simp only [Act.put, List.setIfInBounds_toArray, List.set_cons_zero, List.set_cons_succ]
                    refine wpAny_take (i := 26) (oi := { dst := some 65, op := Go.Op.pick (Go.Operand.tmp 59) (Go.Operand.tmp 64) (Go.Operand.const (Go.Value.bool false)), type := 4, pos := "law.go:98", after := #[{ on := 20, ground := Go.Ground.data }, { on := 25, ground := Go.Ground.data }], guard := none }) (v := ?v26p_2q_16qqqq) rfl (by kernel_rfl) (by kernel_rfl) (by kernel_rfl) (fun _ _ _ h => h) (Or.inl ⟨by rfl, fun w => ?hy26p_2q_16qqqq⟩) ?rest26p_2q_16qqqq
                    case hy26p_2q_16qqqq => go_simp; (first | done | (with_reducible rfl))
                    simp only [Act.put, List.setIfInBounds_toArray, List.set_cons_zero, List.set_cons_succ]
                    refine wpAny_take (i := 27) (oi := { dst := some 66, op := Go.Op.move (Go.Operand.tmp 65), type := 4, pos := "law.go:98", after := #[{ on := 26, ground := Go.Ground.data }, { on := 24, ground := Go.Ground.chain }], guard := none }) (v := ?v27p_2q_16qqqq) rfl (by kernel_rfl) (by kernel_rfl) (by kernel_rfl) (fun _ _ _ h => h) (Or.inl ⟨by rfl, fun w => ?hy27p_2q_16qqqq⟩) ?rest27p_2q_16qqqq
                    case hy27p_2q_16qqqq => go_simp; (first | done | (with_reducible rfl))
                    simp only [Act.put, List.setIfInBounds_toArray, List.set_cons_zero, List.set_cons_succ]
                    refine wpAny_take (i := 28) (oi := { dst := some 67, op := Go.Op.move (Go.Operand.tmp 5), type := 45, pos := "law.go:98", after := #[{ on := 27, ground := Go.Ground.guard }], guard := some (27, true) }) (v := ?v28p_2q_16qqqq) rfl (by kernel_rfl) (by kernel_rfl) (by kernel_rfl) (fun _ _ _ h => h) (Or.inl ⟨by rfl, fun w => ?hy28p_2q_16qqqq⟩) ?rest28p_2q_16qqqq
                    case hy28p_2q_16qqqq => go_simp; (first | done | (with_reducible rfl))
                    simp only [Act.put, List.setIfInBounds_toArray, List.set_cons_zero, List.set_cons_succ]
                    refine wpAny_take (i := 30) (oi := { dst := some 69, op := Go.Op.move (Go.Operand.tmp 0), type := 22, pos := "law.go:98", after := #[{ on := 27, ground := Go.Ground.guard }], guard := some (27, true) }) (v := ?v30p_2q_16qqqq) rfl (by kernel_rfl) (by kernel_rfl) (by kernel_rfl) (fun _ _ _ h => h) (Or.inl ⟨by rfl, fun w => ?hy30p_2q_16qqqq⟩) ?rest30p_2q_16qqqq
                    case hy30p_2q_16qqqq => go_simp; (first | done | (with_reducible rfl))
                    simp only [Act.put, List.setIfInBounds_toArray, List.set_cons_zero, List.set_cons_succ]
                    refine wpAny_take (i := 31) (oi := { dst := some 70, op := Go.Op.call { callee := Go.Callee.builtin Go.Builtin.len, args := #[Go.Operand.tmp 69], argTypes := #[22] }, type := 3, pos := "law.go:98", after := #[{ on := 30, ground := Go.Ground.data }, { on := 27, ground := Go.Ground.guard }], guard := some (27, true) }) (v := ?v31p_2q_16qqqq) rfl (by kernel_rfl) (by kernel_rfl) (by kernel_rfl) (fun _ _ _ h => h) (Or.inl ⟨by rfl, fun w => ?hy31p_2q_16qqqq⟩) ?rest31p_2q_16qqqq
                    case hy31p_2q_16qqqq => go_simp; (first | done | (with_reducible rfl))
                    simp only [Act.put, List.setIfInBounds_toArray, List.set_cons_zero, List.set_cons_succ]
                    refine wpAny_take (i := 32) (oi := { dst := some 71, op := Go.Op.move (Go.Operand.tmp 1), type := 22, pos := "law.go:98", after := #[{ on := 27, ground := Go.Ground.guard }], guard := some (27, true) }) (v := ?v32p_2q_16qqqq) rfl (by kernel_rfl) (by kernel_rfl) (by kernel_rfl) (fun _ _ _ h => h) (Or.inl ⟨by rfl, fun w => ?hy32p_2q_16qqqq⟩) ?rest32p_2q_16qqqq
                    case hy32p_2q_16qqqq => go_simp; (first | done | (with_reducible rfl))
                    simp only [Act.put, List.setIfInBounds_toArray, List.set_cons_zero, List.set_cons_succ]
                    refine wpAny_take (i := 33) (oi := { dst := some 72, op := Go.Op.call { callee := Go.Callee.builtin Go.Builtin.len, args := #[Go.Operand.tmp 71], argTypes := #[22] }, type := 3, pos := "law.go:98", after := #[{ on := 32, ground := Go.Ground.data }, { on := 27, ground := Go.Ground.guard }], guard := some (27, true) }) (v := ?v33p_2q_16qqqq) rfl (by kernel_rfl) (by kernel_rfl) (by kernel_rfl) (fun _ _ _ h => h) (Or.inl ⟨by rfl, fun w => ?hy33p_2q_16qqqq⟩) ?rest33p_2q_16qqqq
                    case hy33p_2q_16qqqq => go_simp; (first | done | (with_reducible rfl))
                    simp only [Act.put, List.setIfInBounds_toArray, List.set_cons_zero, List.set_cons_succ]
                    refine wpAny_take (i := 34) (oi := { dst := some 73, op := Go.Op.binOp Go.BinOp.add 3 (Go.Operand.tmp 70) (Go.Operand.tmp 72) 3, type := 3, pos := "law.go:98", after := #[{ on := 31, ground := Go.Ground.data }, { on := 33, ground := Go.Ground.data }, { on := 27, ground := Go.Ground.guard }], guard := some (27, true) }) (v := ?v34p_2q_16qqqq) rfl (by kernel_rfl) (by kernel_rfl) (by kernel_rfl) (fun _ _ _ h => h) (Or.inl ⟨by rfl, fun w => ?hy34p_2q_16qqqq⟩) ?rest34p_2q_16qqqq
                    case hy34p_2q_16qqqq => go_simp; (first | done | (with_reducible rfl))
                    simp only [Act.put, List.setIfInBounds_toArray, List.set_cons_zero, List.set_cons_succ]
                    refine wpAny_take (i := 35) (oi := { dst := some 74, op := Go.Op.convert 3 31 (Go.Operand.tmp 73), type := 31, pos := "law.go:98", after := #[{ on := 34, ground := Go.Ground.data }, { on := 27, ground := Go.Ground.guard }], guard := some (27, true) }) (v := ?v35p_2q_16qqqq) rfl (by kernel_rfl) (by kernel_rfl) (by kernel_rfl) (fun _ _ _ h => h) (Or.inl ⟨by rfl, fun w => ?hy35p_2q_16qqqq⟩) ?rest35p_2q_16qqqq
                    case hy35p_2q_16qqqq => go_simp; (first | done | (with_reducible rfl))
                    simp only [Act.put, List.setIfInBounds_toArray, List.set_cons_zero, List.set_cons_succ]
                    refine wpAny_ready (rs := [29]) (by kernel_rfl) (by simp) ?_
                    refine AllReady.cons (o := { dst := some 68, op := Go.Op.call { callee := Go.Callee.value (Go.Operand.func 32), args := #[Go.Operand.tmp 67], argTypes := #[45] }, type := 31, pos := "law.go:98", after := #[{ on := 28, ground := Go.Ground.data }, { on := 27, ground := Go.Ground.chain }, { on := 27, ground := Go.Ground.guard }], guard := some (27, true) }) rfl (fun K hK => ?_) (AllReady.nil)
                    ·
                      go_simp
                      go_at_call 32
                      refine (Len_any g _ _ _ _ hH127).mono ?_
                      rintro e w128 ⟨rfl, hw128⟩
                      subst hw128
                      rw [HDn2.out]
                      refine hK _ _ ?_
                      clear hK K
                      try simp only [Act.put, List.setIfInBounds_toArray, List.set_cons_zero, List.set_cons_succ]
                      refine wpAny_take (i := 36) (oi := { dst := some 75, op := Go.Op.binOp Go.BinOp.eql 31 (Go.Operand.tmp 68) (Go.Operand.tmp 74) 31, type := 4, pos := "law.go:98", after := #[{ on := 29, ground := Go.Ground.data }, { on := 35, ground := Go.Ground.data }, { on := 27, ground := Go.Ground.guard }], guard := some (27, true) }) (v := ?v36p_2q_16qqqqq) rfl (by kernel_rfl) (by kernel_rfl) (by kernel_rfl) (fun _ _ _ h => h) (Or.inl ⟨by rfl, fun w => ?hy36p_2q_16qqqqq⟩) ?rest36p_2q_16qqqqq
                      case hy36p_2q_16qqqqq => go_simp; (first | done | (with_reducible rfl))
                      simp only [Act.put, List.setIfInBounds_toArray, List.set_cons_zero, List.set_cons_succ]
                      refine wpAny_take (i := 37) (oi := { dst := some 76, op := Go.Op.pick (Go.Operand.tmp 66) (Go.Operand.tmp 75) (Go.Operand.const (Go.Value.bool false)), type := 4, pos := "law.go:98", after := #[{ on := 27, ground := Go.Ground.data }, { on := 36, ground := Go.Ground.data }], guard := none }) (v := ?v37p_2q_16qqqqq) rfl (by kernel_rfl) (by kernel_rfl) (by kernel_rfl) (fun _ _ _ h => h) (Or.inl ⟨by rfl, fun w => ?hy37p_2q_16qqqqq⟩) ?rest37p_2q_16qqqqq
                      case hy37p_2q_16qqqqq => go_simp; (first | done | (with_reducible rfl))
                      simp only [Act.put, List.setIfInBounds_toArray, List.set_cons_zero, List.set_cons_succ]
                      refine wpAny_take (i := 38) (oi := { dst := some 4, op := Go.Op.assign (Go.Operand.tmp 76), type := 4, pos := "law.go:98", after := #[{ on := 37, ground := Go.Ground.data }, { on := 29, ground := Go.Ground.chain }, { on := 0, ground := Go.Ground.phase }, { on := 1, ground := Go.Ground.phase }, { on := 2, ground := Go.Ground.phase }, { on := 3, ground := Go.Ground.phase }, { on := 4, ground := Go.Ground.phase }, { on := 5, ground := Go.Ground.phase }, { on := 6, ground := Go.Ground.phase }, { on := 7, ground := Go.Ground.phase }, { on := 8, ground := Go.Ground.phase }, { on := 9, ground := Go.Ground.phase }, { on := 10, ground := Go.Ground.phase }, { on := 11, ground := Go.Ground.phase }, { on := 12, ground := Go.Ground.phase }, { on := 13, ground := Go.Ground.phase }, { on := 14, ground := Go.Ground.phase }, { on := 15, ground := Go.Ground.phase }, { on := 16, ground := Go.Ground.phase }, { on := 17, ground := Go.Ground.phase }, { on := 18, ground := Go.Ground.phase }, { on := 19, ground := Go.Ground.phase }, { on := 20, ground := Go.Ground.phase }, { on := 21, ground := Go.Ground.phase }, { on := 22, ground := Go.Ground.phase }, { on := 23, ground := Go.Ground.phase }, { on := 24, ground := Go.Ground.phase }, { on := 25, ground := Go.Ground.phase }, { on := 26, ground := Go.Ground.phase }, { on := 27, ground := Go.Ground.phase }, { on := 28, ground := Go.Ground.phase }, { on := 29, ground := Go.Ground.phase }, { on := 30, ground := Go.Ground.phase }, { on := 31, ground := Go.Ground.phase }, { on := 32, ground := Go.Ground.phase }, { on := 33, ground := Go.Ground.phase }, { on := 34, ground := Go.Ground.phase }, { on := 35, ground := Go.Ground.phase }, { on := 36, ground := Go.Ground.phase }, { on := 37, ground := Go.Ground.phase }], guard := none }) (v := ?v38p_2q_16qqqqq) rfl (by kernel_rfl) (by kernel_rfl) (by kernel_rfl) (fun _ _ _ h => h) (Or.inl ⟨by rfl, fun w => ?hy38p_2q_16qqqqq⟩) ?rest38p_2q_16qqqqq
                      case hy38p_2q_16qqqqq => go_simp; (first | done | (with_reducible rfl))
                      simp only [Act.put, List.setIfInBounds_toArray, List.set_cons_zero, List.set_cons_succ]
                      refine wpAny_done (by kernel_rfl) ?_ _
                      go_wp2
                      go_ret
                      exact ⟨rfl, hB127⟩
end Go.Proofs.YtalghfnjelcpnaaDoor
