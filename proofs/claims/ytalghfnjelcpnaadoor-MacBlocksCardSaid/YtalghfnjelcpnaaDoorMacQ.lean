/- MacBlocks: what the call returns, for every two keys and bytes. Condition: the table 'rounds' holds what the program's text lays. -/
import Derived.Test.YtalghfnjelcpnaaDoorMacP
namespace Go.Proofs.YtalghfnjelcpnaaDoor
set_option linter.unusedVariables false
set_option linter.unusedSimpArgs false
open Go.RowKit Go.Proofs.YtalghfnjelcpnaaDoorW.PrintWords Go.Proofs.YtalghfnjelcpnaaDoor.Db

theorem blk_C {w : World} {g : Nat} {bl : List Int} (h : Arr w g .u8 30 bl) (hl : bl.length = 64) : Kd.C (Kd.int .u8) w (some ⟨g, 0, none⟩) bl.length bl := lit_C h (by omega)
theorem blk_blk (l : List Int) : blk (blk l) = blk l := by
  have h := blk_len l
  rw [blk_of (blk l) (blk l) (by rw [keyL, if_neg (by omega)]), h]
  simp
theorem mac_blk (l k m : List Int) (h : blk l = blk k) : macL l m = macL k m := by unfold macL; rw [h]
theorem arg3_C (w : World) (A B C : Option Addr) (ca cb cc : Nat) (a b c : List Int) (h1 : a.length ≤ ca) (h2 : b.length ≤ cb) (h3 : c.length ≤ cc) (hA : Kd.C (Kd.int .u8) w A a.length a) (hB : Kd.C (Kd.int .u8) w B b.length b) (hC : Kd.C (Kd.int .u8) w C c.length c) :
    Kd.C (Kd.slice 5 (Kd.int .u8)) (w.alloc (.cells #[.slice A a.length ca, .slice B b.length cb, .slice C c.length cc] 22)) (some ⟨w.heap.size, 0, none⟩) 3 [a, b, c] :=
  args_C w [.slice A a.length ca, .slice B b.length cb, .slice C c.length cc] [a, b, c] (show 3 ≤ 9223372036854775807 by decide) fun i p hp => by
    match i with
    | 0 =>
      obtain rfl : a = p := by simpa using hp
      exact ⟨A, ca, rfl, h1, hA⟩
    | 1 =>
      obtain rfl : b = p := by simpa using hp
      exact ⟨B, cb, rfl, h2, hB⟩
    | 2 =>
      obtain rfl : c = p := by simpa using hp
      exact ⟨C, cc, rfl, h3, hC⟩
    | i + 3 => simp at hp
theorem neq30_self (xs : List Int) (hx : xs.length = 64) (w : World) : (binOp .neq 30 (AV .u8 xs) (AV .u8 xs)).run Tryd.prog w = .ok (.bool false) w := by
  rw [neq30 xs xs hx hx, decide_eq_true rfl]; rfl
theorem neq30_ne (xs ys : List Int) (hx : xs.length = 64) (hy : ys.length = 64) (h : xs ≠ ys) (w : World) : (binOp .neq 30 (AV .u8 xs) (AV .u8 ys)).run Tryd.prog w = .ok (.bool true) w := by
  rw [neq30 xs ys hx hy, decide_eq_false h]; rfl
theorem neq24_self (xs : List Int) (hx : xs.length = 32) (w : World) : (binOp .neq 24 (AV .u8 xs) (AV .u8 xs)).run Tryd.prog w = .ok (.bool false) w := by
  have h := binop_neq_av Tryd.underlying24 info5e.choose_spec (by kernel_rfl) Tryd.underlying5 xs xs hx hx w
  rw [h, decide_eq_true rfl]; rfl
theorem MSum_n (A : Option Addr) (n cap : Nat) (l : List Int) (hn : l.length = n) (P : Option Addr) (pc : Nat) (ps : List (List Int)) (w : World) (hR : Rounds w) (hA : Kd.C (Kd.int .u8) w A l.length l) (hc : l.length ≤ cap) (hl : l.length < 1073741824)
    (hC : Kd.C (Kd.slice 5 (Kd.int .u8)) w P ps.length ps) (hs : ps.flatten.length < 1073741824) :
    Calls Tryd.prog 39 #[.slice A n cap, .slice P ps.length pc] w fun e w' => e = .returned (AV .u8 (macL l ps.flatten)) ∧ Below w.heap.size w w' := by
  subst hn; exact MSum_any A cap l P pc ps w hR hA hc hl hC hs
set_option maxHeartbeats 4000000 in
set_option maxRecDepth 100000 in
theorem macBlocks_any (A B C : Option Addr) (ca cb cc : Nat) (l o m : List Int) (w : World) (hR : Rounds w) (hl8 : B8s l) (hA : Kd.C (Kd.int .u8) w A l.length l) (ha : l.length ≤ ca) (hB : Kd.C (Kd.int .u8) w B o.length o) (hb : o.length ≤ cb) (hC : Kd.C (Kd.int .u8) w C m.length m) (hcc : m.length ≤ cc) :
    Calls Tryd.prog 11 #[.slice A l.length ca, .slice B o.length cb, .slice C m.length cc] w fun e w' => e = .returned (.bool true) ∧ Below w.heap.size w w' := by
  have HR := Aside0.mk hR
  have hpos := Aside0.mk hR.pos
  have HA := Aside0.mk hA
  have HB := Aside0.mk hB
  have HC := Aside0.mk hC
  have Ha := Aside0.mk ha
  have Hb := Aside0.mk hb
  have Hcc := Aside0.mk hcc
  have Hl8 := Aside0.mk hl8
  clear hR hA hB hC ha hb hcc hl8
  obtain ⟨g, hg⟩ : ∃ g, gr [l, o, m] = g := ⟨_, rfl⟩
  have Hg := Aside0.mk hg
  go_enter Tryd.func11, Tryd.ntmps11
  cases g with
  | true =>
    clear hg
    go_wp2_with (first
      | (go_at_call 37; refine (wakes4_any _ HR.out).mono ?_; rintro e w1 ⟨rfl, hB1⟩)
      | (go_at_call 38; refine (great4_any (some ⟨w1.heap.size, 0, none⟩) 3 [l, o, m] _ (arg3_C w1 A B C ca cb cc l o m Ha.out Hb.out Hcc.out (Kd.C_below HA.out hB1) (Kd.C_below HB.out hB1) (Kd.C_below HC.out hB1))).mono ?_; rintro e w2 ⟨rfl, rfl⟩; rw [Hg.out]))
    go_ret
    exact ⟨rfl, hB1.alloc hB1.size _⟩
  | false =>
    have Hl := Aside0.mk (show l.length < 1073741824 by have := (gr_le hg).1 l List.mem_cons_self; omega)
    have Ho := Aside0.mk (show o.length < 1073741824 by have := (gr_le hg).1 o (List.mem_cons_of_mem _ List.mem_cons_self); omega)
    have Hfl := Aside0.mk (show ([m] : List (List Int)).flatten.length < 1073741824 by rw [List.flatten_singleton]; have := (gr_le hg).1 m (List.mem_cons_of_mem _ (List.mem_cons_of_mem _ List.mem_cons_self)); omega)
    clear hg
    obtain ⟨bl, hbl⟩ : ∃ bl, blk l = bl := ⟨_, rfl⟩
    have hbll : bl.length = 64 := by rw [← hbl]; exact blk_len l
    obtain ⟨ob, hob⟩ : ∃ ob, blk o = ob := ⟨_, rfl⟩
    have hobl : ob.length = 64 := by rw [← hob]; exact blk_len o
    obtain ⟨ys, hys⟩ : ∃ ys, macL l m = ys := ⟨_, rfl⟩
    have hyl : ys.length = 32 := by rw [← hys]; exact macL_len _ _
    have Hy1 := Aside0.mk (show macL bl ([m] : List (List Int)).flatten = ys by rw [List.flatten_singleton, ← hys, ← hbl]; exact mac_blk _ _ _ (blk_blk l))
    have Hy2 := Aside0.mk (show macL l ([m] : List (List Int)).flatten = ys by rw [List.flatten_singleton, hys])
    have Hy3 := Aside0.mk (show ob = bl → macL o ([m] : List (List Int)).flatten = ys from fun e => by rw [List.flatten_singleton, ← hys]; exact mac_blk _ _ _ (by rw [hob, hbl, e]))
    have Hbl := Aside0.mk hbl
    have Hbll := Aside0.mk hbll
    have Hob := Aside0.mk hob
    have q1 := neq30_self bl hbll
    have q2 := neq24_self ys hyl
    have q3 := fun (o : BinOp) (x y : Operand) => guard30 o x y bl bl
    have q4 := fun (o : BinOp) (x y : Operand) => guard24 o x y ys ys
    have q5 := eql24 ys ys hyl hyl
    rw [decide_eq_true rfl] at q5
    have Hobl := Aside0.mk hobl
    clear hbl hbll hob hobl hys hyl
    go_wp2_with (first
      | (go_at_call 37; refine (wakes4_any _ HR.out).mono ?_; rintro e w1 ⟨rfl, hB1⟩)
      | (go_at_call 38; refine (great4_any (some ⟨w1.heap.size, 0, none⟩) 3 [l, o, m] _ (arg3_C w1 A B C ca cb cc l o m Ha.out Hb.out Hcc.out (Kd.C_below HA.out hB1) (Kd.C_below HB.out hB1) (Kd.C_below HC.out hB1))).mono ?_; rintro e w2 ⟨rfl, rfl⟩; rw [Hg.out]; have hB2 := hB1.alloc hB1.size (.cells #[.slice A l.length ca, .slice B o.length cb, .slice C m.length cc] 22))
      | (go_at_call 41; refine (Block_any A ca l _ (HR.out.below hB2 hpos.out) (Kd.C_below HA.out hB2) Ha.out Hl.out).mono ?_; rintro e w3 ⟨rfl, hb3⟩; rw [Hbl.out]; have hB3 := hB2.trans (hb3.mono hB2.size); clear hb3 hB2)
      | (refine store_arr rfl 30 7 16 rfl rfl w3.heap.size rfl rfl (Arr.new_at (k := .u8) (xs := List.replicate 64 0) rfl rfl) (by rw [Hbll.out]; rfl) (by rw [Hbll.out]; kernel_rfl) ?_; intro w4 hg4 hs4 hA4; have hB4 := (hB3.alloc hB3.size (.cells ((List.replicate 64 0).map (Value.int .u8)).toArray 30)).grown hg4 (by rw [World.size_alloc]; have := hB3.size; omega) (fun j e => by cases e; exact hB3.size); clear hg4 hs4 hB3))
    obtain ⟨bk, hbk⟩ : ∃ bk, w3.heap.size = bk := ⟨_, rfl⟩
    rw [hbk] at hA4
    rw [hbk]
    clear hbk hB1
    rename_i K0 hK0
    have cont : ∀ (x y : Nat) (w9 : World), Arr w9 bk .u8 30 bl → Below w.heap.size w w9 → K0 { tmps := #[Value.slice A l.length ca, Value.slice B o.length cb, Value.slice C m.length cc, undef, undef, undef, Value.bool false, Value.pointer (some ⟨bk, 0, none⟩), Value.bool true, Value.bool false, Value.slice A l.length ca, Value.slice B o.length cb, Value.slice C m.length cc, Value.slice (some ⟨w1.heap.size, 0, none⟩) 3 3, Value.bool false, Value.slice A l.length ca, AV .u8 bl, AV .u8 bl, Value.slice A l.length ca, AV .u8 bl, Value.bool false, Value.bool false, Value.slice (some ⟨bk, 0, none⟩) 64 64, Value.slice C m.length cc, Value.slice (some ⟨x, 0, none⟩) 1 1, AV .u8 ys, Value.slice A l.length ca, Value.slice C m.length cc, Value.slice (some ⟨y, 0, none⟩) 1 1, AV .u8 ys, Value.bool false, Value.bool false, undef, undef, undef, undef, undef, undef, undef, undef, undef, undef, undef, undef, undef, undef, undef], defers := [] } w9 := by
      intro x y w9 hA9 hB9
      refine hK0 _ _ ?_
      clear hK0
      go_wp2
      by_cases he : ob = bl
      · have Hy3e := Aside0.mk (Hy3.out he)
        obtain rfl : bl = ob := he.symm
        refine wp_region_any (by kernel_rfl) ?_
        change wpAny _ _ _ _ _ _ _ (World.drew _)
        obtain ⟨w60, hw_60⟩ : ∃ w', w9.drew = w' := ⟨_, rfl⟩
        have hA_60 : Arr w60 bk .u8 30 bl := by rw [← hw_60]; exact hA9
        have hB_60 : Below w.heap.size w w60 := by rw [← hw_60]; exact pw_below_drewN hB9 1
        rw [hw_60]
        clear hw_60 hA9 hB9
        refine wpAny_take (i := 0) (oi := { dst := some 32, op := Go.Op.move (Go.Operand.tmp 1), type := 22, pos := "law.go:55", after := #[], guard := none }) (v := ?v0e) rfl (by kernel_rfl) (by kernel_rfl) (by kernel_rfl) (fun _ _ _ h => h) (Or.inl ⟨by rfl, fun w => ?hy0e⟩) ?rest0e
        case hy0e => go_simp; (first | done | (with_reducible rfl))
        simp only [Act.put, List.setIfInBounds_toArray, List.set_cons_zero, List.set_cons_succ]
        refine wpAny_ready (rs := [1, 2]) (by kernel_rfl) (by simp) ?_
        refine AllReady.cons (o := { dst := some 33, op := Go.Op.call { callee := Go.Callee.value (Go.Operand.func 41), args := #[Go.Operand.tmp 32], argTypes := #[22] }, type := 30, pos := "law.go:55", after := #[{ on := 0, ground := Go.Ground.data }], guard := none }) rfl (fun K hK => ?_) (AllReady.cons (o := { dst := some 34, op := Go.Op.load 30 (Go.Operand.tmp 7), type := 30, pos := "law.go:55", after := #[], guard := none }) rfl (fun K hK => ?_) (AllReady.nil))
        ·
          go_simp
          go_at_call 41
          refine (Block_any B cb o w60 (HR.out.below hB_60 hpos.out) (Kd.C_below HB.out hB_60) Hb.out Ho.out).mono ?_
          rintro e w101 ⟨rfl, hb_101⟩
          rw [Hob.out]
          refine hK _ _ ?_
          clear hK K
          try simp only [Act.put, List.setIfInBounds_toArray, List.set_cons_zero, List.set_cons_succ]
          have hB_101 := hB_60.trans (hb_101.mono hB_60.size)
          have hA_101 := hA_60.below hb_101 hA_60.lt
          clear hb_101 hB_60 hA_60 
          refine wpAny_ready (rs := [2]) (by kernel_rfl) (by simp) ?_
          refine AllReady.cons (o := { dst := some 34, op := Go.Op.load 30 (Go.Operand.tmp 7), type := 30, pos := "law.go:55", after := #[], guard := none }) rfl (fun K hK => ?_) (AllReady.nil)
          ·
            rw [if_pos (by rfl)]
            refine wp_load_mid 30 (.tmp 7) rfl bk 0 rfl (bl.map (Value.int .u8)) _ (arr_range hA_101) Tryd.underlying30 rfl (by rw [List.length_map, Hbll.out]; kernel_rfl) ?_
            rw [show (Value.agg (bl.map (Value.int .u8)).toArray) = AV .u8 bl from rfl]
            refine hK _ _ ?_
            clear hK K
            try simp only [Act.put, List.setIfInBounds_toArray, List.set_cons_zero, List.set_cons_succ]
            refine wpAny_take (i := 3) (oi := { dst := some 35, op := Go.Op.binOp Go.BinOp.neq 30 (Go.Operand.tmp 33) (Go.Operand.tmp 34) 30, type := 4, pos := "law.go:55", after := #[{ on := 1, ground := Go.Ground.data }, { on := 2, ground := Go.Ground.data }], guard := none }) (v := ?v3e_1q) rfl (by kernel_rfl) (by kernel_rfl) (by kernel_rfl) (fun _ _ _ h => h) (Or.inl ⟨by rfl, fun w => ?hy3e_1q⟩) ?rest3e_1q
            case hy3e_1q => go_simp; (first | done | (with_reducible rfl))
            simp only [Act.put, List.setIfInBounds_toArray, List.set_cons_zero, List.set_cons_succ]
            refine wpAny_take (i := 4) (oi := { dst := some 36, op := Go.Op.move (Go.Operand.tmp 35), type := 4, pos := "law.go:55", after := #[{ on := 3, ground := Go.Ground.data }, { on := 1, ground := Go.Ground.chain }], guard := none }) (v := ?v4e_1q) rfl (by kernel_rfl) (by kernel_rfl) (by kernel_rfl) (fun _ _ _ h => h) (Or.inl ⟨by rfl, fun w => ?hy4e_1q⟩) ?rest4e_1q
            case hy4e_1q => go_simp; (first | done | (with_reducible rfl))
            simp only [Act.put, List.setIfInBounds_toArray, List.set_cons_zero, List.set_cons_succ]
            refine wpAny_take (i := 5) (oi := { dst := some 37, op := Go.Op.move (Go.Operand.tmp 1), type := 22, pos := "law.go:55", after := #[{ on := 4, ground := Go.Ground.guard }], guard := some (4, false) }) (v := ?v5e_1q) rfl (by kernel_rfl) (by kernel_rfl) (by kernel_rfl) (fun _ _ _ h => h) (Or.inl ⟨by rfl, fun w => ?hy5e_1q⟩) ?rest5e_1q
            case hy5e_1q => go_simp; (first | done | (with_reducible rfl))
            simp only [Act.put, List.setIfInBounds_toArray, List.set_cons_zero, List.set_cons_succ]
            refine wpAny_take (i := 6) (oi := { dst := some 38, op := Go.Op.move (Go.Operand.tmp 2), type := 22, pos := "law.go:55", after := #[{ on := 4, ground := Go.Ground.guard }], guard := some (4, false) }) (v := ?v6e_1q) rfl (by kernel_rfl) (by kernel_rfl) (by kernel_rfl) (fun _ _ _ h => h) (Or.inl ⟨by rfl, fun w => ?hy6e_1q⟩) ?rest6e_1q
            case hy6e_1q => go_simp; (first | done | (with_reducible rfl))
            simp only [Act.put, List.setIfInBounds_toArray, List.set_cons_zero, List.set_cons_succ]
            refine wpAny_take (i := 9) (oi := { dst := some 41, op := Go.Op.move (Go.Operand.tmp 0), type := 22, pos := "law.go:55", after := #[{ on := 4, ground := Go.Ground.guard }], guard := some (4, false) }) (v := ?v9e_1q) rfl (by kernel_rfl) (by kernel_rfl) (by kernel_rfl) (fun _ _ _ h => h) (Or.inl ⟨by rfl, fun w => ?hy9e_1q⟩) ?rest9e_1q
            case hy9e_1q => go_simp; (first | done | (with_reducible rfl))
            simp only [Act.put, List.setIfInBounds_toArray, List.set_cons_zero, List.set_cons_succ]
            refine wpAny_take (i := 10) (oi := { dst := some 42, op := Go.Op.move (Go.Operand.tmp 2), type := 22, pos := "law.go:55", after := #[{ on := 4, ground := Go.Ground.guard }], guard := some (4, false) }) (v := ?v10e_1q) rfl (by kernel_rfl) (by kernel_rfl) (by kernel_rfl) (fun _ _ _ h => h) (Or.inl ⟨by rfl, fun w => ?hy10e_1q⟩) ?rest10e_1q
            case hy10e_1q => go_simp; (first | done | (with_reducible rfl))
            simp only [Act.put, List.setIfInBounds_toArray, List.set_cons_zero, List.set_cons_succ]
            refine wpAny_ready (rs := [7, 11]) (by kernel_rfl) (by simp) ?_
            refine AllReady.cons (o := { dst := some 39, op := Go.Op.buildSlice 39 1 #[(0, Go.Operand.tmp 38)], type := 39, pos := "law.go:55", after := #[{ on := 6, ground := Go.Ground.data }, { on := 4, ground := Go.Ground.guard }], guard := some (4, false) }) rfl (fun K hK => ?_) (AllReady.cons (o := { dst := some 43, op := Go.Op.buildSlice 39 1 #[(0, Go.Operand.tmp 42)], type := 39, pos := "law.go:55", after := #[{ on := 10, ground := Go.Ground.data }, { on := 4, ground := Go.Ground.guard }], guard := some (4, false) }) rfl (fun K hK => ?_) (AllReady.nil))
            ·
              go_simp
              refine hK _ _ ?_
              clear hK K
              try simp only [Act.put, List.setIfInBounds_toArray, List.set_cons_zero, List.set_cons_succ]
              change wpAny _ _ _ _ _ _ _ (World.alloc w101 (.cells #[.slice C m.length cc] 22))
              have hb_103 := (Below.refl w101.heap.size w101).alloc (Nat.le_refl _) (.cells #[.slice C m.length cc] 22)
              have C7_103 := arg1_C w101 C cc m Hcc.out (Kd.C_below HC.out hB_101)
              obtain ⟨w103, hw_103⟩ : ∃ w103, World.alloc w101 (.cells #[.slice C m.length cc] 22) = w103 := ⟨_, rfl⟩
              rw [hw_103] at hb_103 C7_103
              rw [hw_103]
              have hB_103 := hB_101.trans (hb_103.mono hB_101.size)
              have hA_103 := hA_101.below hb_103 hA_101.lt
              obtain ⟨s103, hs_103⟩ : ∃ s103, w101.heap.size = s103 := ⟨_, rfl⟩
              rw [hs_103] at C7_103
              rw [hs_103]
              clear hw_103 hs_103
              clear hb_103 hB_101 hA_101 
              refine wpAny_ready (rs := [8, 11]) (by kernel_rfl) (by simp) ?_
              refine AllReady.cons (o := { dst := some 40, op := Go.Op.call { callee := Go.Callee.value (Go.Operand.func 39), args := #[Go.Operand.tmp 37, Go.Operand.tmp 39], argTypes := #[22, 39] }, type := 24, pos := "law.go:55", after := #[{ on := 5, ground := Go.Ground.data }, { on := 7, ground := Go.Ground.data }, { on := 4, ground := Go.Ground.chain }, { on := 4, ground := Go.Ground.guard }], guard := some (4, false) }) rfl (fun K hK => ?_) (AllReady.cons (o := { dst := some 43, op := Go.Op.buildSlice 39 1 #[(0, Go.Operand.tmp 42)], type := 39, pos := "law.go:55", after := #[{ on := 10, ground := Go.Ground.data }, { on := 4, ground := Go.Ground.guard }], guard := some (4, false) }) rfl (fun K hK => ?_) (AllReady.nil))
              ·
                go_simp
                go_at_call 39
                refine (MSum_any B cb o (some ⟨s103, 0, none⟩) 1 [m] w103 (HR.out.below hB_103 hpos.out) (Kd.C_below HB.out hB_103) Hb.out Ho.out C7_103 Hfl.out).mono ?_
                rintro e w104 ⟨rfl, hb_104⟩
                rw [Hy3e.out]
                refine hK _ _ ?_
                clear hK K
                try simp only [Act.put, List.setIfInBounds_toArray, List.set_cons_zero, List.set_cons_succ]
                have hB_104 := hB_103.trans (hb_104.mono hB_103.size)
                have hA_104 := hA_103.below hb_104 hA_103.lt
                clear hb_104 hB_103 hA_103 C7_103
                refine wpAny_ready (rs := [11]) (by kernel_rfl) (by simp) ?_
                refine AllReady.cons (o := { dst := some 43, op := Go.Op.buildSlice 39 1 #[(0, Go.Operand.tmp 42)], type := 39, pos := "law.go:55", after := #[{ on := 10, ground := Go.Ground.data }, { on := 4, ground := Go.Ground.guard }], guard := some (4, false) }) rfl (fun K hK => ?_) (AllReady.nil)
                ·
                  go_simp
                  refine hK _ _ ?_
                  clear hK K
                  try simp only [Act.put, List.setIfInBounds_toArray, List.set_cons_zero, List.set_cons_succ]
                  change wpAny _ _ _ _ _ _ _ (World.alloc w104 (.cells #[.slice C m.length cc] 22))
                  have hb_105 := (Below.refl w104.heap.size w104).alloc (Nat.le_refl _) (.cells #[.slice C m.length cc] 22)
                  have C11_105 := arg1_C w104 C cc m Hcc.out (Kd.C_below HC.out hB_104)
                  obtain ⟨w105, hw_105⟩ : ∃ w105, World.alloc w104 (.cells #[.slice C m.length cc] 22) = w105 := ⟨_, rfl⟩
                  rw [hw_105] at hb_105 C11_105
                  rw [hw_105]
                  have hB_105 := hB_104.trans (hb_105.mono hB_104.size)
                  have hA_105 := hA_104.below hb_105 hA_104.lt
                  obtain ⟨s105, hs_105⟩ : ∃ s105, w104.heap.size = s105 := ⟨_, rfl⟩
                  rw [hs_105] at C11_105
                  rw [hs_105]
                  clear hw_105 hs_105
                  clear hb_105 hB_104 hA_104 
                  refine wpAny_ready (rs := [12]) (by kernel_rfl) (by simp) ?_
                  refine AllReady.cons (o := { dst := some 44, op := Go.Op.call { callee := Go.Callee.value (Go.Operand.func 39), args := #[Go.Operand.tmp 41, Go.Operand.tmp 43], argTypes := #[22, 39] }, type := 24, pos := "law.go:55", after := #[{ on := 9, ground := Go.Ground.data }, { on := 11, ground := Go.Ground.data }, { on := 8, ground := Go.Ground.chain }, { on := 4, ground := Go.Ground.guard }], guard := some (4, false) }) rfl (fun K hK => ?_) (AllReady.nil)
                  ·
                    go_simp
                    go_at_call 39
                    refine (MSum_any A ca l (some ⟨s105, 0, none⟩) 1 [m] w105 (HR.out.below hB_105 hpos.out) (Kd.C_below HA.out hB_105) Ha.out Hl.out C11_105 Hfl.out).mono ?_
                    rintro e w106 ⟨rfl, hb_106⟩
                    rw [Hy2.out]
                    refine hK _ _ ?_
                    clear hK K
                    try simp only [Act.put, List.setIfInBounds_toArray, List.set_cons_zero, List.set_cons_succ]
                    have hB_106 := hB_105.trans (hb_106.mono hB_105.size)
                    have hA_106 := hA_105.below hb_106 hA_105.lt
                    clear hb_106 hB_105 hA_105 C11_105
                    refine wpAny_take (i := 13) (oi := { dst := some 45, op := Go.Op.binOp Go.BinOp.eql 24 (Go.Operand.tmp 40) (Go.Operand.tmp 44) 24, type := 4, pos := "law.go:55", after := #[{ on := 8, ground := Go.Ground.data }, { on := 12, ground := Go.Ground.data }, { on := 4, ground := Go.Ground.guard }], guard := some (4, false) }) (v := ?v13e_1q_7_8qq) rfl (by kernel_rfl) (by kernel_rfl) (by kernel_rfl) (fun _ _ _ h => h) (Or.inl ⟨by rfl, fun w => ?hy13e_1q_7_8qq⟩) ?rest13e_1q_7_8qq
                    case hy13e_1q_7_8qq => go_simp; (first | done | (with_reducible rfl))
                    simp only [Act.put, List.setIfInBounds_toArray, List.set_cons_zero, List.set_cons_succ]
                    refine wpAny_take (i := 14) (oi := { dst := some 46, op := Go.Op.pick (Go.Operand.tmp 36) (Go.Operand.const (Go.Value.bool true)) (Go.Operand.tmp 45), type := 4, pos := "law.go:55", after := #[{ on := 4, ground := Go.Ground.data }, { on := 13, ground := Go.Ground.data }], guard := none }) (v := ?v14e_1q_7_8qq) rfl (by kernel_rfl) (by kernel_rfl) (by kernel_rfl) (fun _ _ _ h => h) (Or.inl ⟨by rfl, fun w => ?hy14e_1q_7_8qq⟩) ?rest14e_1q_7_8qq
                    case hy14e_1q_7_8qq => go_simp; (first | done | (with_reducible rfl))
                    simp only [Act.put, List.setIfInBounds_toArray, List.set_cons_zero, List.set_cons_succ]
                    refine wpAny_take (i := 15) (oi := { dst := some 6, op := Go.Op.assign (Go.Operand.tmp 46), type := 4, pos := "law.go:55", after := #[{ on := 14, ground := Go.Ground.data }, { on := 12, ground := Go.Ground.chain }, { on := 0, ground := Go.Ground.phase }, { on := 1, ground := Go.Ground.phase }, { on := 2, ground := Go.Ground.phase }, { on := 3, ground := Go.Ground.phase }, { on := 4, ground := Go.Ground.phase }, { on := 5, ground := Go.Ground.phase }, { on := 6, ground := Go.Ground.phase }, { on := 7, ground := Go.Ground.phase }, { on := 8, ground := Go.Ground.phase }, { on := 9, ground := Go.Ground.phase }, { on := 10, ground := Go.Ground.phase }, { on := 11, ground := Go.Ground.phase }, { on := 12, ground := Go.Ground.phase }, { on := 13, ground := Go.Ground.phase }, { on := 14, ground := Go.Ground.phase }], guard := none }) (v := ?v15e_1q_7_8qq) rfl (by kernel_rfl) (by kernel_rfl) (by kernel_rfl) (fun _ _ _ h => h) (Or.inl ⟨by rfl, fun w => ?hy15e_1q_7_8qq⟩) ?rest15e_1q_7_8qq
                    case hy15e_1q_7_8qq => go_simp; (first | done | (with_reducible rfl))
                    simp only [Act.put, List.setIfInBounds_toArray, List.set_cons_zero, List.set_cons_succ]
                    refine wpAny_done (by kernel_rfl) ?_ _
                    go_wp2
                    go_ret
                    exact ⟨rfl, hB_106⟩
              ·
                go_simp
                refine hK _ _ ?_
                clear hK K
                try simp only [Act.put, List.setIfInBounds_toArray, List.set_cons_zero, List.set_cons_succ]
                change wpAny _ _ _ _ _ _ _ (World.alloc w103 (.cells #[.slice C m.length cc] 22))
                have hb_107 := (Below.refl w103.heap.size w103).alloc (Nat.le_refl _) (.cells #[.slice C m.length cc] 22)
                have C11_107 := arg1_C w103 C cc m Hcc.out (Kd.C_below HC.out hB_103)
                obtain ⟨w107, hw_107⟩ : ∃ w107, World.alloc w103 (.cells #[.slice C m.length cc] 22) = w107 := ⟨_, rfl⟩
                rw [hw_107] at hb_107 C11_107
                rw [hw_107]
                have hB_107 := hB_103.trans (hb_107.mono hB_103.size)
                have hA_107 := hA_103.below hb_107 hA_103.lt
                have C7_107 := Kd.C_below C7_103 hb_107
                obtain ⟨s107, hs_107⟩ : ∃ s107, w103.heap.size = s107 := ⟨_, rfl⟩
                rw [hs_107] at C11_107
                rw [hs_107]
                clear hw_107 hs_107
                clear hb_107 hB_103 hA_103 C7_103
                refine wpAny_ready (rs := [8]) (by kernel_rfl) (by simp) ?_
                refine AllReady.cons (o := { dst := some 40, op := Go.Op.call { callee := Go.Callee.value (Go.Operand.func 39), args := #[Go.Operand.tmp 37, Go.Operand.tmp 39], argTypes := #[22, 39] }, type := 24, pos := "law.go:55", after := #[{ on := 5, ground := Go.Ground.data }, { on := 7, ground := Go.Ground.data }, { on := 4, ground := Go.Ground.chain }, { on := 4, ground := Go.Ground.guard }], guard := some (4, false) }) rfl (fun K hK => ?_) (AllReady.nil)
                ·
                  go_simp
                  go_at_call 39
                  refine (MSum_any B cb o (some ⟨s103, 0, none⟩) 1 [m] w107 (HR.out.below hB_107 hpos.out) (Kd.C_below HB.out hB_107) Hb.out Ho.out C7_107 Hfl.out).mono ?_
                  rintro e w108 ⟨rfl, hb_108⟩
                  rw [Hy3e.out]
                  refine hK _ _ ?_
                  clear hK K
                  try simp only [Act.put, List.setIfInBounds_toArray, List.set_cons_zero, List.set_cons_succ]
                  have hB_108 := hB_107.trans (hb_108.mono hB_107.size)
                  have hA_108 := hA_107.below hb_108 hA_107.lt
                  have C11_108 := Kd.C_below C11_107 hb_108
                  clear hb_108 hB_107 hA_107 C7_107 C11_107
                  refine wpAny_ready (rs := [12]) (by kernel_rfl) (by simp) ?_
                  refine AllReady.cons (o := { dst := some 44, op := Go.Op.call { callee := Go.Callee.value (Go.Operand.func 39), args := #[Go.Operand.tmp 41, Go.Operand.tmp 43], argTypes := #[22, 39] }, type := 24, pos := "law.go:55", after := #[{ on := 9, ground := Go.Ground.data }, { on := 11, ground := Go.Ground.data }, { on := 8, ground := Go.Ground.chain }, { on := 4, ground := Go.Ground.guard }], guard := some (4, false) }) rfl (fun K hK => ?_) (AllReady.nil)
                  ·
                    go_simp
                    go_at_call 39
                    refine (MSum_any A ca l (some ⟨s107, 0, none⟩) 1 [m] w108 (HR.out.below hB_108 hpos.out) (Kd.C_below HA.out hB_108) Ha.out Hl.out C11_108 Hfl.out).mono ?_
                    rintro e w109 ⟨rfl, hb_109⟩
                    rw [Hy2.out]
                    refine hK _ _ ?_
                    clear hK K
                    try simp only [Act.put, List.setIfInBounds_toArray, List.set_cons_zero, List.set_cons_succ]
                    have hB_109 := hB_108.trans (hb_109.mono hB_108.size)
                    have hA_109 := hA_108.below hb_109 hA_108.lt
                    clear hb_109 hB_108 hA_108 C11_108
                    refine wpAny_take (i := 13) (oi := { dst := some 45, op := Go.Op.binOp Go.BinOp.eql 24 (Go.Operand.tmp 40) (Go.Operand.tmp 44) 24, type := 4, pos := "law.go:55", after := #[{ on := 8, ground := Go.Ground.data }, { on := 12, ground := Go.Ground.data }, { on := 4, ground := Go.Ground.guard }], guard := some (4, false) }) (v := ?v13e_1q_7_11qq) rfl (by kernel_rfl) (by kernel_rfl) (by kernel_rfl) (fun _ _ _ h => h) (Or.inl ⟨by rfl, fun w => ?hy13e_1q_7_11qq⟩) ?rest13e_1q_7_11qq
                    case hy13e_1q_7_11qq => go_simp; (first | done | (with_reducible rfl))
                    simp only [Act.put, List.setIfInBounds_toArray, List.set_cons_zero, List.set_cons_succ]
                    refine wpAny_take (i := 14) (oi := { dst := some 46, op := Go.Op.pick (Go.Operand.tmp 36) (Go.Operand.const (Go.Value.bool true)) (Go.Operand.tmp 45), type := 4, pos := "law.go:55", after := #[{ on := 4, ground := Go.Ground.data }, { on := 13, ground := Go.Ground.data }], guard := none }) (v := ?v14e_1q_7_11qq) rfl (by kernel_rfl) (by kernel_rfl) (by kernel_rfl) (fun _ _ _ h => h) (Or.inl ⟨by rfl, fun w => ?hy14e_1q_7_11qq⟩) ?rest14e_1q_7_11qq
                    case hy14e_1q_7_11qq => go_simp; (first | done | (with_reducible rfl))
                    simp only [Act.put, List.setIfInBounds_toArray, List.set_cons_zero, List.set_cons_succ]
                    refine wpAny_take (i := 15) (oi := { dst := some 6, op := Go.Op.assign (Go.Operand.tmp 46), type := 4, pos := "law.go:55", after := #[{ on := 14, ground := Go.Ground.data }, { on := 12, ground := Go.Ground.chain }, { on := 0, ground := Go.Ground.phase }, { on := 1, ground := Go.Ground.phase }, { on := 2, ground := Go.Ground.phase }, { on := 3, ground := Go.Ground.phase }, { on := 4, ground := Go.Ground.phase }, { on := 5, ground := Go.Ground.phase }, { on := 6, ground := Go.Ground.phase }, { on := 7, ground := Go.Ground.phase }, { on := 8, ground := Go.Ground.phase }, { on := 9, ground := Go.Ground.phase }, { on := 10, ground := Go.Ground.phase }, { on := 11, ground := Go.Ground.phase }, { on := 12, ground := Go.Ground.phase }, { on := 13, ground := Go.Ground.phase }, { on := 14, ground := Go.Ground.phase }], guard := none }) (v := ?v15e_1q_7_11qq) rfl (by kernel_rfl) (by kernel_rfl) (by kernel_rfl) (fun _ _ _ h => h) (Or.inl ⟨by rfl, fun w => ?hy15e_1q_7_11qq⟩) ?rest15e_1q_7_11qq
                    case hy15e_1q_7_11qq => go_simp; (first | done | (with_reducible rfl))
                    simp only [Act.put, List.setIfInBounds_toArray, List.set_cons_zero, List.set_cons_succ]
                    refine wpAny_done (by kernel_rfl) ?_ _
                    go_wp2
                    go_ret
                    exact ⟨rfl, hB_109⟩
            ·
              go_simp
              refine hK _ _ ?_
              clear hK K
              try simp only [Act.put, List.setIfInBounds_toArray, List.set_cons_zero, List.set_cons_succ]
              change wpAny _ _ _ _ _ _ _ (World.alloc w101 (.cells #[.slice C m.length cc] 22))
              have hb_110 := (Below.refl w101.heap.size w101).alloc (Nat.le_refl _) (.cells #[.slice C m.length cc] 22)
              have C11_110 := arg1_C w101 C cc m Hcc.out (Kd.C_below HC.out hB_101)
              obtain ⟨w110, hw_110⟩ : ∃ w110, World.alloc w101 (.cells #[.slice C m.length cc] 22) = w110 := ⟨_, rfl⟩
              rw [hw_110] at hb_110 C11_110
              rw [hw_110]
              have hB_110 := hB_101.trans (hb_110.mono hB_101.size)
              have hA_110 := hA_101.below hb_110 hA_101.lt
              obtain ⟨s110, hs_110⟩ : ∃ s110, w101.heap.size = s110 := ⟨_, rfl⟩
              rw [hs_110] at C11_110
              rw [hs_110]
              clear hw_110 hs_110
              clear hb_110 hB_101 hA_101 
              refine wpAny_ready (rs := [7]) (by kernel_rfl) (by simp) ?_
              refine AllReady.cons (o := { dst := some 39, op := Go.Op.buildSlice 39 1 #[(0, Go.Operand.tmp 38)], type := 39, pos := "law.go:55", after := #[{ on := 6, ground := Go.Ground.data }, { on := 4, ground := Go.Ground.guard }], guard := some (4, false) }) rfl (fun K hK => ?_) (AllReady.nil)
              ·
                go_simp
                refine hK _ _ ?_
                clear hK K
                try simp only [Act.put, List.setIfInBounds_toArray, List.set_cons_zero, List.set_cons_succ]
                change wpAny _ _ _ _ _ _ _ (World.alloc w110 (.cells #[.slice C m.length cc] 22))
                have hb_111 := (Below.refl w110.heap.size w110).alloc (Nat.le_refl _) (.cells #[.slice C m.length cc] 22)
                have C7_111 := arg1_C w110 C cc m Hcc.out (Kd.C_below HC.out hB_110)
                obtain ⟨w111, hw_111⟩ : ∃ w111, World.alloc w110 (.cells #[.slice C m.length cc] 22) = w111 := ⟨_, rfl⟩
                rw [hw_111] at hb_111 C7_111
                rw [hw_111]
                have hB_111 := hB_110.trans (hb_111.mono hB_110.size)
                have hA_111 := hA_110.below hb_111 hA_110.lt
                have C11_111 := Kd.C_below C11_110 hb_111
                obtain ⟨s111, hs_111⟩ : ∃ s111, w110.heap.size = s111 := ⟨_, rfl⟩
                rw [hs_111] at C7_111
                rw [hs_111]
                clear hw_111 hs_111
                clear hb_111 hB_110 hA_110 C11_110
                refine wpAny_ready (rs := [8]) (by kernel_rfl) (by simp) ?_
                refine AllReady.cons (o := { dst := some 40, op := Go.Op.call { callee := Go.Callee.value (Go.Operand.func 39), args := #[Go.Operand.tmp 37, Go.Operand.tmp 39], argTypes := #[22, 39] }, type := 24, pos := "law.go:55", after := #[{ on := 5, ground := Go.Ground.data }, { on := 7, ground := Go.Ground.data }, { on := 4, ground := Go.Ground.chain }, { on := 4, ground := Go.Ground.guard }], guard := some (4, false) }) rfl (fun K hK => ?_) (AllReady.nil)
                ·
                  go_simp
                  go_at_call 39
                  refine (MSum_any B cb o (some ⟨s111, 0, none⟩) 1 [m] w111 (HR.out.below hB_111 hpos.out) (Kd.C_below HB.out hB_111) Hb.out Ho.out C7_111 Hfl.out).mono ?_
                  rintro e w112 ⟨rfl, hb_112⟩
                  rw [Hy3e.out]
                  refine hK _ _ ?_
                  clear hK K
                  try simp only [Act.put, List.setIfInBounds_toArray, List.set_cons_zero, List.set_cons_succ]
                  have hB_112 := hB_111.trans (hb_112.mono hB_111.size)
                  have hA_112 := hA_111.below hb_112 hA_111.lt
                  have C11_112 := Kd.C_below C11_111 hb_112
                  clear hb_112 hB_111 hA_111 C11_111 C7_111
                  refine wpAny_ready (rs := [12]) (by kernel_rfl) (by simp) ?_
                  refine AllReady.cons (o := { dst := some 44, op := Go.Op.call { callee := Go.Callee.value (Go.Operand.func 39), args := #[Go.Operand.tmp 41, Go.Operand.tmp 43], argTypes := #[22, 39] }, type := 24, pos := "law.go:55", after := #[{ on := 9, ground := Go.Ground.data }, { on := 11, ground := Go.Ground.data }, { on := 8, ground := Go.Ground.chain }, { on := 4, ground := Go.Ground.guard }], guard := some (4, false) }) rfl (fun K hK => ?_) (AllReady.nil)
                  ·
                    go_simp
                    go_at_call 39
                    refine (MSum_any A ca l (some ⟨s110, 0, none⟩) 1 [m] w112 (HR.out.below hB_112 hpos.out) (Kd.C_below HA.out hB_112) Ha.out Hl.out C11_112 Hfl.out).mono ?_
                    rintro e w113 ⟨rfl, hb_113⟩
                    rw [Hy2.out]
                    refine hK _ _ ?_
                    clear hK K
                    try simp only [Act.put, List.setIfInBounds_toArray, List.set_cons_zero, List.set_cons_succ]
                    have hB_113 := hB_112.trans (hb_113.mono hB_112.size)
                    have hA_113 := hA_112.below hb_113 hA_112.lt
                    clear hb_113 hB_112 hA_112 C11_112
                    refine wpAny_take (i := 13) (oi := { dst := some 45, op := Go.Op.binOp Go.BinOp.eql 24 (Go.Operand.tmp 40) (Go.Operand.tmp 44) 24, type := 4, pos := "law.go:55", after := #[{ on := 8, ground := Go.Ground.data }, { on := 12, ground := Go.Ground.data }, { on := 4, ground := Go.Ground.guard }], guard := some (4, false) }) (v := ?v13e_1q_11qqq) rfl (by kernel_rfl) (by kernel_rfl) (by kernel_rfl) (fun _ _ _ h => h) (Or.inl ⟨by rfl, fun w => ?hy13e_1q_11qqq⟩) ?rest13e_1q_11qqq
                    case hy13e_1q_11qqq => go_simp; (first | done | (with_reducible rfl))
                    simp only [Act.put, List.setIfInBounds_toArray, List.set_cons_zero, List.set_cons_succ]
                    refine wpAny_take (i := 14) (oi := { dst := some 46, op := Go.Op.pick (Go.Operand.tmp 36) (Go.Operand.const (Go.Value.bool true)) (Go.Operand.tmp 45), type := 4, pos := "law.go:55", after := #[{ on := 4, ground := Go.Ground.data }, { on := 13, ground := Go.Ground.data }], guard := none }) (v := ?v14e_1q_11qqq) rfl (by kernel_rfl) (by kernel_rfl) (by kernel_rfl) (fun _ _ _ h => h) (Or.inl ⟨by rfl, fun w => ?hy14e_1q_11qqq⟩) ?rest14e_1q_11qqq
                    case hy14e_1q_11qqq => go_simp; (first | done | (with_reducible rfl))
                    simp only [Act.put, List.setIfInBounds_toArray, List.set_cons_zero, List.set_cons_succ]
                    refine wpAny_take (i := 15) (oi := { dst := some 6, op := Go.Op.assign (Go.Operand.tmp 46), type := 4, pos := "law.go:55", after := #[{ on := 14, ground := Go.Ground.data }, { on := 12, ground := Go.Ground.chain }, { on := 0, ground := Go.Ground.phase }, { on := 1, ground := Go.Ground.phase }, { on := 2, ground := Go.Ground.phase }, { on := 3, ground := Go.Ground.phase }, { on := 4, ground := Go.Ground.phase }, { on := 5, ground := Go.Ground.phase }, { on := 6, ground := Go.Ground.phase }, { on := 7, ground := Go.Ground.phase }, { on := 8, ground := Go.Ground.phase }, { on := 9, ground := Go.Ground.phase }, { on := 10, ground := Go.Ground.phase }, { on := 11, ground := Go.Ground.phase }, { on := 12, ground := Go.Ground.phase }, { on := 13, ground := Go.Ground.phase }, { on := 14, ground := Go.Ground.phase }], guard := none }) (v := ?v15e_1q_11qqq) rfl (by kernel_rfl) (by kernel_rfl) (by kernel_rfl) (fun _ _ _ h => h) (Or.inl ⟨by rfl, fun w => ?hy15e_1q_11qqq⟩) ?rest15e_1q_11qqq
                    case hy15e_1q_11qqq => go_simp; (first | done | (with_reducible rfl))
                    simp only [Act.put, List.setIfInBounds_toArray, List.set_cons_zero, List.set_cons_succ]
                    refine wpAny_done (by kernel_rfl) ?_ _
                    go_wp2
                    go_ret
                    exact ⟨rfl, hB_113⟩
        ·
          rw [if_pos (by rfl)]
          refine wp_load_mid 30 (.tmp 7) rfl bk 0 rfl (bl.map (Value.int .u8)) _ (arr_range hA_60) Tryd.underlying30 rfl (by rw [List.length_map, Hbll.out]; kernel_rfl) ?_
          rw [show (Value.agg (bl.map (Value.int .u8)).toArray) = AV .u8 bl from rfl]
          refine hK _ _ ?_
          clear hK K
          try simp only [Act.put, List.setIfInBounds_toArray, List.set_cons_zero, List.set_cons_succ]
          refine wpAny_ready (rs := [1]) (by kernel_rfl) (by simp) ?_
          refine AllReady.cons (o := { dst := some 33, op := Go.Op.call { callee := Go.Callee.value (Go.Operand.func 41), args := #[Go.Operand.tmp 32], argTypes := #[22] }, type := 30, pos := "law.go:55", after := #[{ on := 0, ground := Go.Ground.data }], guard := none }) rfl (fun K hK => ?_) (AllReady.nil)
          ·
            go_simp
            go_at_call 41
            refine (Block_any B cb o w60 (HR.out.below hB_60 hpos.out) (Kd.C_below HB.out hB_60) Hb.out Ho.out).mono ?_
            rintro e w115 ⟨rfl, hb_115⟩
            rw [Hob.out]
            refine hK _ _ ?_
            clear hK K
            try simp only [Act.put, List.setIfInBounds_toArray, List.set_cons_zero, List.set_cons_succ]
            have hB_115 := hB_60.trans (hb_115.mono hB_60.size)
            have hA_115 := hA_60.below hb_115 hA_60.lt
            clear hb_115 hB_60 hA_60 
            refine wpAny_take (i := 3) (oi := { dst := some 35, op := Go.Op.binOp Go.BinOp.neq 30 (Go.Operand.tmp 33) (Go.Operand.tmp 34) 30, type := 4, pos := "law.go:55", after := #[{ on := 1, ground := Go.Ground.data }, { on := 2, ground := Go.Ground.data }], guard := none }) (v := ?v3e_2q) rfl (by kernel_rfl) (by kernel_rfl) (by kernel_rfl) (fun _ _ _ h => h) (Or.inl ⟨by rfl, fun w => ?hy3e_2q⟩) ?rest3e_2q
            case hy3e_2q => go_simp; (first | done | (with_reducible rfl))
            simp only [Act.put, List.setIfInBounds_toArray, List.set_cons_zero, List.set_cons_succ]
            refine wpAny_take (i := 4) (oi := { dst := some 36, op := Go.Op.move (Go.Operand.tmp 35), type := 4, pos := "law.go:55", after := #[{ on := 3, ground := Go.Ground.data }, { on := 1, ground := Go.Ground.chain }], guard := none }) (v := ?v4e_2q) rfl (by kernel_rfl) (by kernel_rfl) (by kernel_rfl) (fun _ _ _ h => h) (Or.inl ⟨by rfl, fun w => ?hy4e_2q⟩) ?rest4e_2q
            case hy4e_2q => go_simp; (first | done | (with_reducible rfl))
            simp only [Act.put, List.setIfInBounds_toArray, List.set_cons_zero, List.set_cons_succ]
            refine wpAny_take (i := 5) (oi := { dst := some 37, op := Go.Op.move (Go.Operand.tmp 1), type := 22, pos := "law.go:55", after := #[{ on := 4, ground := Go.Ground.guard }], guard := some (4, false) }) (v := ?v5e_2q) rfl (by kernel_rfl) (by kernel_rfl) (by kernel_rfl) (fun _ _ _ h => h) (Or.inl ⟨by rfl, fun w => ?hy5e_2q⟩) ?rest5e_2q
            case hy5e_2q => go_simp; (first | done | (with_reducible rfl))
            simp only [Act.put, List.setIfInBounds_toArray, List.set_cons_zero, List.set_cons_succ]
            refine wpAny_take (i := 6) (oi := { dst := some 38, op := Go.Op.move (Go.Operand.tmp 2), type := 22, pos := "law.go:55", after := #[{ on := 4, ground := Go.Ground.guard }], guard := some (4, false) }) (v := ?v6e_2q) rfl (by kernel_rfl) (by kernel_rfl) (by kernel_rfl) (fun _ _ _ h => h) (Or.inl ⟨by rfl, fun w => ?hy6e_2q⟩) ?rest6e_2q
            case hy6e_2q => go_simp; (first | done | (with_reducible rfl))
            simp only [Act.put, List.setIfInBounds_toArray, List.set_cons_zero, List.set_cons_succ]
            refine wpAny_take (i := 9) (oi := { dst := some 41, op := Go.Op.move (Go.Operand.tmp 0), type := 22, pos := "law.go:55", after := #[{ on := 4, ground := Go.Ground.guard }], guard := some (4, false) }) (v := ?v9e_2q) rfl (by kernel_rfl) (by kernel_rfl) (by kernel_rfl) (fun _ _ _ h => h) (Or.inl ⟨by rfl, fun w => ?hy9e_2q⟩) ?rest9e_2q
            case hy9e_2q => go_simp; (first | done | (with_reducible rfl))
            simp only [Act.put, List.setIfInBounds_toArray, List.set_cons_zero, List.set_cons_succ]
            refine wpAny_take (i := 10) (oi := { dst := some 42, op := Go.Op.move (Go.Operand.tmp 2), type := 22, pos := "law.go:55", after := #[{ on := 4, ground := Go.Ground.guard }], guard := some (4, false) }) (v := ?v10e_2q) rfl (by kernel_rfl) (by kernel_rfl) (by kernel_rfl) (fun _ _ _ h => h) (Or.inl ⟨by rfl, fun w => ?hy10e_2q⟩) ?rest10e_2q
            case hy10e_2q => go_simp; (first | done | (with_reducible rfl))
            simp only [Act.put, List.setIfInBounds_toArray, List.set_cons_zero, List.set_cons_succ]
            refine wpAny_ready (rs := [7, 11]) (by kernel_rfl) (by simp) ?_
            refine AllReady.cons (o := { dst := some 39, op := Go.Op.buildSlice 39 1 #[(0, Go.Operand.tmp 38)], type := 39, pos := "law.go:55", after := #[{ on := 6, ground := Go.Ground.data }, { on := 4, ground := Go.Ground.guard }], guard := some (4, false) }) rfl (fun K hK => ?_) (AllReady.cons (o := { dst := some 43, op := Go.Op.buildSlice 39 1 #[(0, Go.Operand.tmp 42)], type := 39, pos := "law.go:55", after := #[{ on := 10, ground := Go.Ground.data }, { on := 4, ground := Go.Ground.guard }], guard := some (4, false) }) rfl (fun K hK => ?_) (AllReady.nil))
            ·
              go_simp
              refine hK _ _ ?_
              clear hK K
              try simp only [Act.put, List.setIfInBounds_toArray, List.set_cons_zero, List.set_cons_succ]
              change wpAny _ _ _ _ _ _ _ (World.alloc w115 (.cells #[.slice C m.length cc] 22))
              have hb_116 := (Below.refl w115.heap.size w115).alloc (Nat.le_refl _) (.cells #[.slice C m.length cc] 22)
              have C7_116 := arg1_C w115 C cc m Hcc.out (Kd.C_below HC.out hB_115)
              obtain ⟨w116, hw_116⟩ : ∃ w116, World.alloc w115 (.cells #[.slice C m.length cc] 22) = w116 := ⟨_, rfl⟩
              rw [hw_116] at hb_116 C7_116
              rw [hw_116]
              have hB_116 := hB_115.trans (hb_116.mono hB_115.size)
              have hA_116 := hA_115.below hb_116 hA_115.lt
              obtain ⟨s116, hs_116⟩ : ∃ s116, w115.heap.size = s116 := ⟨_, rfl⟩
              rw [hs_116] at C7_116
              rw [hs_116]
              clear hw_116 hs_116
              clear hb_116 hB_115 hA_115 
              refine wpAny_ready (rs := [8, 11]) (by kernel_rfl) (by simp) ?_
              refine AllReady.cons (o := { dst := some 40, op := Go.Op.call { callee := Go.Callee.value (Go.Operand.func 39), args := #[Go.Operand.tmp 37, Go.Operand.tmp 39], argTypes := #[22, 39] }, type := 24, pos := "law.go:55", after := #[{ on := 5, ground := Go.Ground.data }, { on := 7, ground := Go.Ground.data }, { on := 4, ground := Go.Ground.chain }, { on := 4, ground := Go.Ground.guard }], guard := some (4, false) }) rfl (fun K hK => ?_) (AllReady.cons (o := { dst := some 43, op := Go.Op.buildSlice 39 1 #[(0, Go.Operand.tmp 42)], type := 39, pos := "law.go:55", after := #[{ on := 10, ground := Go.Ground.data }, { on := 4, ground := Go.Ground.guard }], guard := some (4, false) }) rfl (fun K hK => ?_) (AllReady.nil))
              ·
                go_simp
                go_at_call 39
                refine (MSum_any B cb o (some ⟨s116, 0, none⟩) 1 [m] w116 (HR.out.below hB_116 hpos.out) (Kd.C_below HB.out hB_116) Hb.out Ho.out C7_116 Hfl.out).mono ?_
                rintro e w117 ⟨rfl, hb_117⟩
                rw [Hy3e.out]
                refine hK _ _ ?_
                clear hK K
                try simp only [Act.put, List.setIfInBounds_toArray, List.set_cons_zero, List.set_cons_succ]
                have hB_117 := hB_116.trans (hb_117.mono hB_116.size)
                have hA_117 := hA_116.below hb_117 hA_116.lt
                clear hb_117 hB_116 hA_116 C7_116
                refine wpAny_ready (rs := [11]) (by kernel_rfl) (by simp) ?_
                refine AllReady.cons (o := { dst := some 43, op := Go.Op.buildSlice 39 1 #[(0, Go.Operand.tmp 42)], type := 39, pos := "law.go:55", after := #[{ on := 10, ground := Go.Ground.data }, { on := 4, ground := Go.Ground.guard }], guard := some (4, false) }) rfl (fun K hK => ?_) (AllReady.nil)
                ·
                  go_simp
                  refine hK _ _ ?_
                  clear hK K
                  try simp only [Act.put, List.setIfInBounds_toArray, List.set_cons_zero, List.set_cons_succ]
                  change wpAny _ _ _ _ _ _ _ (World.alloc w117 (.cells #[.slice C m.length cc] 22))
                  have hb_118 := (Below.refl w117.heap.size w117).alloc (Nat.le_refl _) (.cells #[.slice C m.length cc] 22)
                  have C11_118 := arg1_C w117 C cc m Hcc.out (Kd.C_below HC.out hB_117)
                  obtain ⟨w118, hw_118⟩ : ∃ w118, World.alloc w117 (.cells #[.slice C m.length cc] 22) = w118 := ⟨_, rfl⟩
                  rw [hw_118] at hb_118 C11_118
                  rw [hw_118]
                  have hB_118 := hB_117.trans (hb_118.mono hB_117.size)
                  have hA_118 := hA_117.below hb_118 hA_117.lt
                  obtain ⟨s118, hs_118⟩ : ∃ s118, w117.heap.size = s118 := ⟨_, rfl⟩
                  rw [hs_118] at C11_118
                  rw [hs_118]
                  clear hw_118 hs_118
                  clear hb_118 hB_117 hA_117 
                  refine wpAny_ready (rs := [12]) (by kernel_rfl) (by simp) ?_
                  refine AllReady.cons (o := { dst := some 44, op := Go.Op.call { callee := Go.Callee.value (Go.Operand.func 39), args := #[Go.Operand.tmp 41, Go.Operand.tmp 43], argTypes := #[22, 39] }, type := 24, pos := "law.go:55", after := #[{ on := 9, ground := Go.Ground.data }, { on := 11, ground := Go.Ground.data }, { on := 8, ground := Go.Ground.chain }, { on := 4, ground := Go.Ground.guard }], guard := some (4, false) }) rfl (fun K hK => ?_) (AllReady.nil)
                  ·
                    go_simp
                    go_at_call 39
                    refine (MSum_any A ca l (some ⟨s118, 0, none⟩) 1 [m] w118 (HR.out.below hB_118 hpos.out) (Kd.C_below HA.out hB_118) Ha.out Hl.out C11_118 Hfl.out).mono ?_
                    rintro e w119 ⟨rfl, hb_119⟩
                    rw [Hy2.out]
                    refine hK _ _ ?_
                    clear hK K
                    try simp only [Act.put, List.setIfInBounds_toArray, List.set_cons_zero, List.set_cons_succ]
                    have hB_119 := hB_118.trans (hb_119.mono hB_118.size)
                    have hA_119 := hA_118.below hb_119 hA_118.lt
                    clear hb_119 hB_118 hA_118 C11_118
                    refine wpAny_take (i := 13) (oi := { dst := some 45, op := Go.Op.binOp Go.BinOp.eql 24 (Go.Operand.tmp 40) (Go.Operand.tmp 44) 24, type := 4, pos := "law.go:55", after := #[{ on := 8, ground := Go.Ground.data }, { on := 12, ground := Go.Ground.data }, { on := 4, ground := Go.Ground.guard }], guard := some (4, false) }) (v := ?v13e_2q_7_8qq) rfl (by kernel_rfl) (by kernel_rfl) (by kernel_rfl) (fun _ _ _ h => h) (Or.inl ⟨by rfl, fun w => ?hy13e_2q_7_8qq⟩) ?rest13e_2q_7_8qq
                    case hy13e_2q_7_8qq => go_simp; (first | done | (with_reducible rfl))
                    simp only [Act.put, List.setIfInBounds_toArray, List.set_cons_zero, List.set_cons_succ]
                    refine wpAny_take (i := 14) (oi := { dst := some 46, op := Go.Op.pick (Go.Operand.tmp 36) (Go.Operand.const (Go.Value.bool true)) (Go.Operand.tmp 45), type := 4, pos := "law.go:55", after := #[{ on := 4, ground := Go.Ground.data }, { on := 13, ground := Go.Ground.data }], guard := none }) (v := ?v14e_2q_7_8qq) rfl (by kernel_rfl) (by kernel_rfl) (by kernel_rfl) (fun _ _ _ h => h) (Or.inl ⟨by rfl, fun w => ?hy14e_2q_7_8qq⟩) ?rest14e_2q_7_8qq
                    case hy14e_2q_7_8qq => go_simp; (first | done | (with_reducible rfl))
                    simp only [Act.put, List.setIfInBounds_toArray, List.set_cons_zero, List.set_cons_succ]
                    refine wpAny_take (i := 15) (oi := { dst := some 6, op := Go.Op.assign (Go.Operand.tmp 46), type := 4, pos := "law.go:55", after := #[{ on := 14, ground := Go.Ground.data }, { on := 12, ground := Go.Ground.chain }, { on := 0, ground := Go.Ground.phase }, { on := 1, ground := Go.Ground.phase }, { on := 2, ground := Go.Ground.phase }, { on := 3, ground := Go.Ground.phase }, { on := 4, ground := Go.Ground.phase }, { on := 5, ground := Go.Ground.phase }, { on := 6, ground := Go.Ground.phase }, { on := 7, ground := Go.Ground.phase }, { on := 8, ground := Go.Ground.phase }, { on := 9, ground := Go.Ground.phase }, { on := 10, ground := Go.Ground.phase }, { on := 11, ground := Go.Ground.phase }, { on := 12, ground := Go.Ground.phase }, { on := 13, ground := Go.Ground.phase }, { on := 14, ground := Go.Ground.phase }], guard := none }) (v := ?v15e_2q_7_8qq) rfl (by kernel_rfl) (by kernel_rfl) (by kernel_rfl) (fun _ _ _ h => h) (Or.inl ⟨by rfl, fun w => ?hy15e_2q_7_8qq⟩) ?rest15e_2q_7_8qq
                    case hy15e_2q_7_8qq => go_simp; (first | done | (with_reducible rfl))
                    simp only [Act.put, List.setIfInBounds_toArray, List.set_cons_zero, List.set_cons_succ]
                    refine wpAny_done (by kernel_rfl) ?_ _
                    go_wp2
                    go_ret
                    exact ⟨rfl, hB_119⟩
              ·
                go_simp
                refine hK _ _ ?_
                clear hK K
                try simp only [Act.put, List.setIfInBounds_toArray, List.set_cons_zero, List.set_cons_succ]
                change wpAny _ _ _ _ _ _ _ (World.alloc w116 (.cells #[.slice C m.length cc] 22))
                have hb_120 := (Below.refl w116.heap.size w116).alloc (Nat.le_refl _) (.cells #[.slice C m.length cc] 22)
                have C11_120 := arg1_C w116 C cc m Hcc.out (Kd.C_below HC.out hB_116)
                obtain ⟨w120, hw_120⟩ : ∃ w120, World.alloc w116 (.cells #[.slice C m.length cc] 22) = w120 := ⟨_, rfl⟩
                rw [hw_120] at hb_120 C11_120
                rw [hw_120]
                have hB_120 := hB_116.trans (hb_120.mono hB_116.size)
                have hA_120 := hA_116.below hb_120 hA_116.lt
                have C7_120 := Kd.C_below C7_116 hb_120
                obtain ⟨s120, hs_120⟩ : ∃ s120, w116.heap.size = s120 := ⟨_, rfl⟩
                rw [hs_120] at C11_120
                rw [hs_120]
                clear hw_120 hs_120
                clear hb_120 hB_116 hA_116 C7_116
                refine wpAny_ready (rs := [8]) (by kernel_rfl) (by simp) ?_
                refine AllReady.cons (o := { dst := some 40, op := Go.Op.call { callee := Go.Callee.value (Go.Operand.func 39), args := #[Go.Operand.tmp 37, Go.Operand.tmp 39], argTypes := #[22, 39] }, type := 24, pos := "law.go:55", after := #[{ on := 5, ground := Go.Ground.data }, { on := 7, ground := Go.Ground.data }, { on := 4, ground := Go.Ground.chain }, { on := 4, ground := Go.Ground.guard }], guard := some (4, false) }) rfl (fun K hK => ?_) (AllReady.nil)
                ·
                  go_simp
                  go_at_call 39
                  refine (MSum_any B cb o (some ⟨s116, 0, none⟩) 1 [m] w120 (HR.out.below hB_120 hpos.out) (Kd.C_below HB.out hB_120) Hb.out Ho.out C7_120 Hfl.out).mono ?_
                  rintro e w121 ⟨rfl, hb_121⟩
                  rw [Hy3e.out]
                  refine hK _ _ ?_
                  clear hK K
                  try simp only [Act.put, List.setIfInBounds_toArray, List.set_cons_zero, List.set_cons_succ]
                  have hB_121 := hB_120.trans (hb_121.mono hB_120.size)
                  have hA_121 := hA_120.below hb_121 hA_120.lt
                  have C11_121 := Kd.C_below C11_120 hb_121
                  clear hb_121 hB_120 hA_120 C7_120 C11_120
                  refine wpAny_ready (rs := [12]) (by kernel_rfl) (by simp) ?_
                  refine AllReady.cons (o := { dst := some 44, op := Go.Op.call { callee := Go.Callee.value (Go.Operand.func 39), args := #[Go.Operand.tmp 41, Go.Operand.tmp 43], argTypes := #[22, 39] }, type := 24, pos := "law.go:55", after := #[{ on := 9, ground := Go.Ground.data }, { on := 11, ground := Go.Ground.data }, { on := 8, ground := Go.Ground.chain }, { on := 4, ground := Go.Ground.guard }], guard := some (4, false) }) rfl (fun K hK => ?_) (AllReady.nil)
                  ·
                    go_simp
                    go_at_call 39
                    refine (MSum_any A ca l (some ⟨s120, 0, none⟩) 1 [m] w121 (HR.out.below hB_121 hpos.out) (Kd.C_below HA.out hB_121) Ha.out Hl.out C11_121 Hfl.out).mono ?_
                    rintro e w122 ⟨rfl, hb_122⟩
                    rw [Hy2.out]
                    refine hK _ _ ?_
                    clear hK K
                    try simp only [Act.put, List.setIfInBounds_toArray, List.set_cons_zero, List.set_cons_succ]
                    have hB_122 := hB_121.trans (hb_122.mono hB_121.size)
                    have hA_122 := hA_121.below hb_122 hA_121.lt
                    clear hb_122 hB_121 hA_121 C11_121
                    refine wpAny_take (i := 13) (oi := { dst := some 45, op := Go.Op.binOp Go.BinOp.eql 24 (Go.Operand.tmp 40) (Go.Operand.tmp 44) 24, type := 4, pos := "law.go:55", after := #[{ on := 8, ground := Go.Ground.data }, { on := 12, ground := Go.Ground.data }, { on := 4, ground := Go.Ground.guard }], guard := some (4, false) }) (v := ?v13e_2q_7_11qq) rfl (by kernel_rfl) (by kernel_rfl) (by kernel_rfl) (fun _ _ _ h => h) (Or.inl ⟨by rfl, fun w => ?hy13e_2q_7_11qq⟩) ?rest13e_2q_7_11qq
                    case hy13e_2q_7_11qq => go_simp; (first | done | (with_reducible rfl))
                    simp only [Act.put, List.setIfInBounds_toArray, List.set_cons_zero, List.set_cons_succ]
                    refine wpAny_take (i := 14) (oi := { dst := some 46, op := Go.Op.pick (Go.Operand.tmp 36) (Go.Operand.const (Go.Value.bool true)) (Go.Operand.tmp 45), type := 4, pos := "law.go:55", after := #[{ on := 4, ground := Go.Ground.data }, { on := 13, ground := Go.Ground.data }], guard := none }) (v := ?v14e_2q_7_11qq) rfl (by kernel_rfl) (by kernel_rfl) (by kernel_rfl) (fun _ _ _ h => h) (Or.inl ⟨by rfl, fun w => ?hy14e_2q_7_11qq⟩) ?rest14e_2q_7_11qq
                    case hy14e_2q_7_11qq => go_simp; (first | done | (with_reducible rfl))
                    simp only [Act.put, List.setIfInBounds_toArray, List.set_cons_zero, List.set_cons_succ]
                    refine wpAny_take (i := 15) (oi := { dst := some 6, op := Go.Op.assign (Go.Operand.tmp 46), type := 4, pos := "law.go:55", after := #[{ on := 14, ground := Go.Ground.data }, { on := 12, ground := Go.Ground.chain }, { on := 0, ground := Go.Ground.phase }, { on := 1, ground := Go.Ground.phase }, { on := 2, ground := Go.Ground.phase }, { on := 3, ground := Go.Ground.phase }, { on := 4, ground := Go.Ground.phase }, { on := 5, ground := Go.Ground.phase }, { on := 6, ground := Go.Ground.phase }, { on := 7, ground := Go.Ground.phase }, { on := 8, ground := Go.Ground.phase }, { on := 9, ground := Go.Ground.phase }, { on := 10, ground := Go.Ground.phase }, { on := 11, ground := Go.Ground.phase }, { on := 12, ground := Go.Ground.phase }, { on := 13, ground := Go.Ground.phase }, { on := 14, ground := Go.Ground.phase }], guard := none }) (v := ?v15e_2q_7_11qq) rfl (by kernel_rfl) (by kernel_rfl) (by kernel_rfl) (fun _ _ _ h => h) (Or.inl ⟨by rfl, fun w => ?hy15e_2q_7_11qq⟩) ?rest15e_2q_7_11qq
                    case hy15e_2q_7_11qq => go_simp; (first | done | (with_reducible rfl))
                    simp only [Act.put, List.setIfInBounds_toArray, List.set_cons_zero, List.set_cons_succ]
                    refine wpAny_done (by kernel_rfl) ?_ _
                    go_wp2
                    go_ret
                    exact ⟨rfl, hB_122⟩
            ·
              go_simp
              refine hK _ _ ?_
              clear hK K
              try simp only [Act.put, List.setIfInBounds_toArray, List.set_cons_zero, List.set_cons_succ]
              change wpAny _ _ _ _ _ _ _ (World.alloc w115 (.cells #[.slice C m.length cc] 22))
              have hb_123 := (Below.refl w115.heap.size w115).alloc (Nat.le_refl _) (.cells #[.slice C m.length cc] 22)
              have C11_123 := arg1_C w115 C cc m Hcc.out (Kd.C_below HC.out hB_115)
              obtain ⟨w123, hw_123⟩ : ∃ w123, World.alloc w115 (.cells #[.slice C m.length cc] 22) = w123 := ⟨_, rfl⟩
              rw [hw_123] at hb_123 C11_123
              rw [hw_123]
              have hB_123 := hB_115.trans (hb_123.mono hB_115.size)
              have hA_123 := hA_115.below hb_123 hA_115.lt
              obtain ⟨s123, hs_123⟩ : ∃ s123, w115.heap.size = s123 := ⟨_, rfl⟩
              rw [hs_123] at C11_123
              rw [hs_123]
              clear hw_123 hs_123
              clear hb_123 hB_115 hA_115 
              refine wpAny_ready (rs := [7]) (by kernel_rfl) (by simp) ?_
              refine AllReady.cons (o := { dst := some 39, op := Go.Op.buildSlice 39 1 #[(0, Go.Operand.tmp 38)], type := 39, pos := "law.go:55", after := #[{ on := 6, ground := Go.Ground.data }, { on := 4, ground := Go.Ground.guard }], guard := some (4, false) }) rfl (fun K hK => ?_) (AllReady.nil)
              ·
                go_simp
                refine hK _ _ ?_
                clear hK K
                try simp only [Act.put, List.setIfInBounds_toArray, List.set_cons_zero, List.set_cons_succ]
                change wpAny _ _ _ _ _ _ _ (World.alloc w123 (.cells #[.slice C m.length cc] 22))
                have hb_124 := (Below.refl w123.heap.size w123).alloc (Nat.le_refl _) (.cells #[.slice C m.length cc] 22)
                have C7_124 := arg1_C w123 C cc m Hcc.out (Kd.C_below HC.out hB_123)
                obtain ⟨w124, hw_124⟩ : ∃ w124, World.alloc w123 (.cells #[.slice C m.length cc] 22) = w124 := ⟨_, rfl⟩
                rw [hw_124] at hb_124 C7_124
                rw [hw_124]
                have hB_124 := hB_123.trans (hb_124.mono hB_123.size)
                have hA_124 := hA_123.below hb_124 hA_123.lt
                have C11_124 := Kd.C_below C11_123 hb_124
                obtain ⟨s124, hs_124⟩ : ∃ s124, w123.heap.size = s124 := ⟨_, rfl⟩
                rw [hs_124] at C7_124
                rw [hs_124]
                clear hw_124 hs_124
                clear hb_124 hB_123 hA_123 C11_123
                refine wpAny_ready (rs := [8]) (by kernel_rfl) (by simp) ?_
                refine AllReady.cons (o := { dst := some 40, op := Go.Op.call { callee := Go.Callee.value (Go.Operand.func 39), args := #[Go.Operand.tmp 37, Go.Operand.tmp 39], argTypes := #[22, 39] }, type := 24, pos := "law.go:55", after := #[{ on := 5, ground := Go.Ground.data }, { on := 7, ground := Go.Ground.data }, { on := 4, ground := Go.Ground.chain }, { on := 4, ground := Go.Ground.guard }], guard := some (4, false) }) rfl (fun K hK => ?_) (AllReady.nil)
                ·
                  go_simp
                  go_at_call 39
                  refine (MSum_any B cb o (some ⟨s124, 0, none⟩) 1 [m] w124 (HR.out.below hB_124 hpos.out) (Kd.C_below HB.out hB_124) Hb.out Ho.out C7_124 Hfl.out).mono ?_
                  rintro e w125 ⟨rfl, hb_125⟩
                  rw [Hy3e.out]
                  refine hK _ _ ?_
                  clear hK K
                  try simp only [Act.put, List.setIfInBounds_toArray, List.set_cons_zero, List.set_cons_succ]
                  have hB_125 := hB_124.trans (hb_125.mono hB_124.size)
                  have hA_125 := hA_124.below hb_125 hA_124.lt
                  have C11_125 := Kd.C_below C11_124 hb_125
                  clear hb_125 hB_124 hA_124 C11_124 C7_124
                  refine wpAny_ready (rs := [12]) (by kernel_rfl) (by simp) ?_
                  refine AllReady.cons (o := { dst := some 44, op := Go.Op.call { callee := Go.Callee.value (Go.Operand.func 39), args := #[Go.Operand.tmp 41, Go.Operand.tmp 43], argTypes := #[22, 39] }, type := 24, pos := "law.go:55", after := #[{ on := 9, ground := Go.Ground.data }, { on := 11, ground := Go.Ground.data }, { on := 8, ground := Go.Ground.chain }, { on := 4, ground := Go.Ground.guard }], guard := some (4, false) }) rfl (fun K hK => ?_) (AllReady.nil)
                  ·
                    go_simp
                    go_at_call 39
                    refine (MSum_any A ca l (some ⟨s123, 0, none⟩) 1 [m] w125 (HR.out.below hB_125 hpos.out) (Kd.C_below HA.out hB_125) Ha.out Hl.out C11_125 Hfl.out).mono ?_
                    rintro e w126 ⟨rfl, hb_126⟩
                    rw [Hy2.out]
                    refine hK _ _ ?_
                    clear hK K
                    try simp only [Act.put, List.setIfInBounds_toArray, List.set_cons_zero, List.set_cons_succ]
                    have hB_126 := hB_125.trans (hb_126.mono hB_125.size)
                    have hA_126 := hA_125.below hb_126 hA_125.lt
                    clear hb_126 hB_125 hA_125 C11_125
                    refine wpAny_take (i := 13) (oi := { dst := some 45, op := Go.Op.binOp Go.BinOp.eql 24 (Go.Operand.tmp 40) (Go.Operand.tmp 44) 24, type := 4, pos := "law.go:55", after := #[{ on := 8, ground := Go.Ground.data }, { on := 12, ground := Go.Ground.data }, { on := 4, ground := Go.Ground.guard }], guard := some (4, false) }) (v := ?v13e_2q_11qqq) rfl (by kernel_rfl) (by kernel_rfl) (by kernel_rfl) (fun _ _ _ h => h) (Or.inl ⟨by rfl, fun w => ?hy13e_2q_11qqq⟩) ?rest13e_2q_11qqq
                    case hy13e_2q_11qqq => go_simp; (first | done | (with_reducible rfl))
                    simp only [Act.put, List.setIfInBounds_toArray, List.set_cons_zero, List.set_cons_succ]
                    refine wpAny_take (i := 14) (oi := { dst := some 46, op := Go.Op.pick (Go.Operand.tmp 36) (Go.Operand.const (Go.Value.bool true)) (Go.Operand.tmp 45), type := 4, pos := "law.go:55", after := #[{ on := 4, ground := Go.Ground.data }, { on := 13, ground := Go.Ground.data }], guard := none }) (v := ?v14e_2q_11qqq) rfl (by kernel_rfl) (by kernel_rfl) (by kernel_rfl) (fun _ _ _ h => h) (Or.inl ⟨by rfl, fun w => ?hy14e_2q_11qqq⟩) ?rest14e_2q_11qqq
                    case hy14e_2q_11qqq => go_simp; (first | done | (with_reducible rfl))
                    simp only [Act.put, List.setIfInBounds_toArray, List.set_cons_zero, List.set_cons_succ]
                    refine wpAny_take (i := 15) (oi := { dst := some 6, op := Go.Op.assign (Go.Operand.tmp 46), type := 4, pos := "law.go:55", after := #[{ on := 14, ground := Go.Ground.data }, { on := 12, ground := Go.Ground.chain }, { on := 0, ground := Go.Ground.phase }, { on := 1, ground := Go.Ground.phase }, { on := 2, ground := Go.Ground.phase }, { on := 3, ground := Go.Ground.phase }, { on := 4, ground := Go.Ground.phase }, { on := 5, ground := Go.Ground.phase }, { on := 6, ground := Go.Ground.phase }, { on := 7, ground := Go.Ground.phase }, { on := 8, ground := Go.Ground.phase }, { on := 9, ground := Go.Ground.phase }, { on := 10, ground := Go.Ground.phase }, { on := 11, ground := Go.Ground.phase }, { on := 12, ground := Go.Ground.phase }, { on := 13, ground := Go.Ground.phase }, { on := 14, ground := Go.Ground.phase }], guard := none }) (v := ?v15e_2q_11qqq) rfl (by kernel_rfl) (by kernel_rfl) (by kernel_rfl) (fun _ _ _ h => h) (Or.inl ⟨by rfl, fun w => ?hy15e_2q_11qqq⟩) ?rest15e_2q_11qqq
                    case hy15e_2q_11qqq => go_simp; (first | done | (with_reducible rfl))
                    simp only [Act.put, List.setIfInBounds_toArray, List.set_cons_zero, List.set_cons_succ]
                    refine wpAny_done (by kernel_rfl) ?_ _
                    go_wp2
                    go_ret
                    exact ⟨rfl, hB_126⟩
      · have q6 := neq30_ne ob bl Hobl.out Hbll.out he
        have q7 := fun (o : BinOp) (x y : Operand) => guard30 o x y ob bl
        clear he
        refine wp_region_any (by kernel_rfl) ?_
        change wpAny _ _ _ _ _ _ _ (World.drew _)
        obtain ⟨w60, hw_60⟩ : ∃ w', w9.drew = w' := ⟨_, rfl⟩
        have hA_60 : Arr w60 bk .u8 30 bl := by rw [← hw_60]; exact hA9
        have hB_60 : Below w.heap.size w w60 := by rw [← hw_60]; exact pw_below_drewN hB9 1
        rw [hw_60]
        clear hw_60 hA9 hB9
        refine wpAny_take (i := 0) (oi := { dst := some 32, op := Go.Op.move (Go.Operand.tmp 1), type := 22, pos := "law.go:55", after := #[], guard := none }) (v := ?v0n) rfl (by kernel_rfl) (by kernel_rfl) (by kernel_rfl) (fun _ _ _ h => h) (Or.inl ⟨by rfl, fun w => ?hy0n⟩) ?rest0n
        case hy0n => go_simp; (first | done | (with_reducible rfl))
        simp only [Act.put, List.setIfInBounds_toArray, List.set_cons_zero, List.set_cons_succ]
        refine wpAny_ready (rs := [1, 2]) (by kernel_rfl) (by simp) ?_
        refine AllReady.cons (o := { dst := some 33, op := Go.Op.call { callee := Go.Callee.value (Go.Operand.func 41), args := #[Go.Operand.tmp 32], argTypes := #[22] }, type := 30, pos := "law.go:55", after := #[{ on := 0, ground := Go.Ground.data }], guard := none }) rfl (fun K hK => ?_) (AllReady.cons (o := { dst := some 34, op := Go.Op.load 30 (Go.Operand.tmp 7), type := 30, pos := "law.go:55", after := #[], guard := none }) rfl (fun K hK => ?_) (AllReady.nil))
        ·
          go_simp
          go_at_call 41
          refine (Block_any B cb o w60 (HR.out.below hB_60 hpos.out) (Kd.C_below HB.out hB_60) Hb.out Ho.out).mono ?_
          rintro e w101 ⟨rfl, hb_101⟩
          rw [Hob.out]
          refine hK _ _ ?_
          clear hK K
          try simp only [Act.put, List.setIfInBounds_toArray, List.set_cons_zero, List.set_cons_succ]
          have hB_101 := hB_60.trans (hb_101.mono hB_60.size)
          have hA_101 := hA_60.below hb_101 hA_60.lt
          clear hb_101 hB_60 hA_60 
          refine wpAny_ready (rs := [2]) (by kernel_rfl) (by simp) ?_
          refine AllReady.cons (o := { dst := some 34, op := Go.Op.load 30 (Go.Operand.tmp 7), type := 30, pos := "law.go:55", after := #[], guard := none }) rfl (fun K hK => ?_) (AllReady.nil)
          ·
            rw [if_pos (by rfl)]
            refine wp_load_mid 30 (.tmp 7) rfl bk 0 rfl (bl.map (Value.int .u8)) _ (arr_range hA_101) Tryd.underlying30 rfl (by rw [List.length_map, Hbll.out]; kernel_rfl) ?_
            rw [show (Value.agg (bl.map (Value.int .u8)).toArray) = AV .u8 bl from rfl]
            refine hK _ _ ?_
            clear hK K
            try simp only [Act.put, List.setIfInBounds_toArray, List.set_cons_zero, List.set_cons_succ]
            refine wpAny_take (i := 3) (oi := { dst := some 35, op := Go.Op.binOp Go.BinOp.neq 30 (Go.Operand.tmp 33) (Go.Operand.tmp 34) 30, type := 4, pos := "law.go:55", after := #[{ on := 1, ground := Go.Ground.data }, { on := 2, ground := Go.Ground.data }], guard := none }) (v := ?v3n_1q) rfl (by kernel_rfl) (by kernel_rfl) (by kernel_rfl) (fun _ _ _ h => h) (Or.inl ⟨by rfl, fun w => ?hy3n_1q⟩) ?rest3n_1q
            case hy3n_1q => go_simp; (first | done | (with_reducible rfl))
            simp only [Act.put, List.setIfInBounds_toArray, List.set_cons_zero, List.set_cons_succ]
            refine wpAny_take (i := 4) (oi := { dst := some 36, op := Go.Op.move (Go.Operand.tmp 35), type := 4, pos := "law.go:55", after := #[{ on := 3, ground := Go.Ground.data }, { on := 1, ground := Go.Ground.chain }], guard := none }) (v := ?v4n_1q) rfl (by kernel_rfl) (by kernel_rfl) (by kernel_rfl) (fun _ _ _ h => h) (Or.inl ⟨by rfl, fun w => ?hy4n_1q⟩) ?rest4n_1q
            case hy4n_1q => go_simp; (first | done | (with_reducible rfl))
            simp only [Act.put, List.setIfInBounds_toArray, List.set_cons_zero, List.set_cons_succ]
            refine wpAny_take (i := 5) (oi := { dst := some 37, op := Go.Op.move (Go.Operand.tmp 1), type := 22, pos := "law.go:55", after := #[{ on := 4, ground := Go.Ground.guard }], guard := some (4, false) }) (v := undef) rfl (by kernel_rfl) (by kernel_rfl) (by kernel_rfl) (fun _ _ _ h => h) (Or.inr ⟨by rfl, rfl⟩) ?_
            simp only [Act.put, List.setIfInBounds_toArray, List.set_cons_zero, List.set_cons_succ]
            refine wpAny_take (i := 6) (oi := { dst := some 38, op := Go.Op.move (Go.Operand.tmp 2), type := 22, pos := "law.go:55", after := #[{ on := 4, ground := Go.Ground.guard }], guard := some (4, false) }) (v := undef) rfl (by kernel_rfl) (by kernel_rfl) (by kernel_rfl) (fun _ _ _ h => h) (Or.inr ⟨by rfl, rfl⟩) ?_
            simp only [Act.put, List.setIfInBounds_toArray, List.set_cons_zero, List.set_cons_succ]
            refine wpAny_take (i := 7) (oi := { dst := some 39, op := Go.Op.buildSlice 39 1 #[(0, Go.Operand.tmp 38)], type := 39, pos := "law.go:55", after := #[{ on := 6, ground := Go.Ground.data }, { on := 4, ground := Go.Ground.guard }], guard := some (4, false) }) (v := undef) rfl (by kernel_rfl) (by kernel_rfl) (by kernel_rfl) (fun _ _ _ h => h) (Or.inr ⟨by rfl, rfl⟩) ?_
            simp only [Act.put, List.setIfInBounds_toArray, List.set_cons_zero, List.set_cons_succ]
            refine wpAny_take (i := 8) (oi := { dst := some 40, op := Go.Op.call { callee := Go.Callee.value (Go.Operand.func 39), args := #[Go.Operand.tmp 37, Go.Operand.tmp 39], argTypes := #[22, 39] }, type := 24, pos := "law.go:55", after := #[{ on := 5, ground := Go.Ground.data }, { on := 7, ground := Go.Ground.data }, { on := 4, ground := Go.Ground.chain }, { on := 4, ground := Go.Ground.guard }], guard := some (4, false) }) (v := undef) rfl (by kernel_rfl) (by kernel_rfl) (by kernel_rfl) (fun _ _ _ h => h) (Or.inr ⟨by rfl, rfl⟩) ?_
            simp only [Act.put, List.setIfInBounds_toArray, List.set_cons_zero, List.set_cons_succ]
            refine wpAny_take (i := 9) (oi := { dst := some 41, op := Go.Op.move (Go.Operand.tmp 0), type := 22, pos := "law.go:55", after := #[{ on := 4, ground := Go.Ground.guard }], guard := some (4, false) }) (v := undef) rfl (by kernel_rfl) (by kernel_rfl) (by kernel_rfl) (fun _ _ _ h => h) (Or.inr ⟨by rfl, rfl⟩) ?_
            simp only [Act.put, List.setIfInBounds_toArray, List.set_cons_zero, List.set_cons_succ]
            refine wpAny_take (i := 10) (oi := { dst := some 42, op := Go.Op.move (Go.Operand.tmp 2), type := 22, pos := "law.go:55", after := #[{ on := 4, ground := Go.Ground.guard }], guard := some (4, false) }) (v := undef) rfl (by kernel_rfl) (by kernel_rfl) (by kernel_rfl) (fun _ _ _ h => h) (Or.inr ⟨by rfl, rfl⟩) ?_
            simp only [Act.put, List.setIfInBounds_toArray, List.set_cons_zero, List.set_cons_succ]
            refine wpAny_take (i := 11) (oi := { dst := some 43, op := Go.Op.buildSlice 39 1 #[(0, Go.Operand.tmp 42)], type := 39, pos := "law.go:55", after := #[{ on := 10, ground := Go.Ground.data }, { on := 4, ground := Go.Ground.guard }], guard := some (4, false) }) (v := undef) rfl (by kernel_rfl) (by kernel_rfl) (by kernel_rfl) (fun _ _ _ h => h) (Or.inr ⟨by rfl, rfl⟩) ?_
            simp only [Act.put, List.setIfInBounds_toArray, List.set_cons_zero, List.set_cons_succ]
            refine wpAny_take (i := 12) (oi := { dst := some 44, op := Go.Op.call { callee := Go.Callee.value (Go.Operand.func 39), args := #[Go.Operand.tmp 41, Go.Operand.tmp 43], argTypes := #[22, 39] }, type := 24, pos := "law.go:55", after := #[{ on := 9, ground := Go.Ground.data }, { on := 11, ground := Go.Ground.data }, { on := 8, ground := Go.Ground.chain }, { on := 4, ground := Go.Ground.guard }], guard := some (4, false) }) (v := undef) rfl (by kernel_rfl) (by kernel_rfl) (by kernel_rfl) (fun _ _ _ h => h) (Or.inr ⟨by rfl, rfl⟩) ?_
            simp only [Act.put, List.setIfInBounds_toArray, List.set_cons_zero, List.set_cons_succ]
            refine wpAny_take (i := 13) (oi := { dst := some 45, op := Go.Op.binOp Go.BinOp.eql 24 (Go.Operand.tmp 40) (Go.Operand.tmp 44) 24, type := 4, pos := "law.go:55", after := #[{ on := 8, ground := Go.Ground.data }, { on := 12, ground := Go.Ground.data }, { on := 4, ground := Go.Ground.guard }], guard := some (4, false) }) (v := undef) rfl (by kernel_rfl) (by kernel_rfl) (by kernel_rfl) (fun _ _ _ h => h) (Or.inr ⟨by rfl, rfl⟩) ?_
            simp only [Act.put, List.setIfInBounds_toArray, List.set_cons_zero, List.set_cons_succ]
            refine wpAny_take (i := 14) (oi := { dst := some 46, op := Go.Op.pick (Go.Operand.tmp 36) (Go.Operand.const (Go.Value.bool true)) (Go.Operand.tmp 45), type := 4, pos := "law.go:55", after := #[{ on := 4, ground := Go.Ground.data }, { on := 13, ground := Go.Ground.data }], guard := none }) (v := ?v14n_1q) rfl (by kernel_rfl) (by kernel_rfl) (by kernel_rfl) (fun _ _ _ h => h) (Or.inl ⟨by rfl, fun w => ?hy14n_1q⟩) ?rest14n_1q
            case hy14n_1q => go_simp; (first | done | (with_reducible rfl))
            simp only [Act.put, List.setIfInBounds_toArray, List.set_cons_zero, List.set_cons_succ]
            refine wpAny_take (i := 15) (oi := { dst := some 6, op := Go.Op.assign (Go.Operand.tmp 46), type := 4, pos := "law.go:55", after := #[{ on := 14, ground := Go.Ground.data }, { on := 12, ground := Go.Ground.chain }, { on := 0, ground := Go.Ground.phase }, { on := 1, ground := Go.Ground.phase }, { on := 2, ground := Go.Ground.phase }, { on := 3, ground := Go.Ground.phase }, { on := 4, ground := Go.Ground.phase }, { on := 5, ground := Go.Ground.phase }, { on := 6, ground := Go.Ground.phase }, { on := 7, ground := Go.Ground.phase }, { on := 8, ground := Go.Ground.phase }, { on := 9, ground := Go.Ground.phase }, { on := 10, ground := Go.Ground.phase }, { on := 11, ground := Go.Ground.phase }, { on := 12, ground := Go.Ground.phase }, { on := 13, ground := Go.Ground.phase }, { on := 14, ground := Go.Ground.phase }], guard := none }) (v := ?v15n_1q) rfl (by kernel_rfl) (by kernel_rfl) (by kernel_rfl) (fun _ _ _ h => h) (Or.inl ⟨by rfl, fun w => ?hy15n_1q⟩) ?rest15n_1q
            case hy15n_1q => go_simp; (first | done | (with_reducible rfl))
            simp only [Act.put, List.setIfInBounds_toArray, List.set_cons_zero, List.set_cons_succ]
            refine wpAny_done (by kernel_rfl) ?_ _
            go_wp2
            go_ret
            exact ⟨rfl, hB_101⟩
        ·
          rw [if_pos (by rfl)]
          refine wp_load_mid 30 (.tmp 7) rfl bk 0 rfl (bl.map (Value.int .u8)) _ (arr_range hA_60) Tryd.underlying30 rfl (by rw [List.length_map, Hbll.out]; kernel_rfl) ?_
          rw [show (Value.agg (bl.map (Value.int .u8)).toArray) = AV .u8 bl from rfl]
          refine hK _ _ ?_
          clear hK K
          try simp only [Act.put, List.setIfInBounds_toArray, List.set_cons_zero, List.set_cons_succ]
          refine wpAny_ready (rs := [1]) (by kernel_rfl) (by simp) ?_
          refine AllReady.cons (o := { dst := some 33, op := Go.Op.call { callee := Go.Callee.value (Go.Operand.func 41), args := #[Go.Operand.tmp 32], argTypes := #[22] }, type := 30, pos := "law.go:55", after := #[{ on := 0, ground := Go.Ground.data }], guard := none }) rfl (fun K hK => ?_) (AllReady.nil)
          ·
            go_simp
            go_at_call 41
            refine (Block_any B cb o w60 (HR.out.below hB_60 hpos.out) (Kd.C_below HB.out hB_60) Hb.out Ho.out).mono ?_
            rintro e w104 ⟨rfl, hb_104⟩
            rw [Hob.out]
            refine hK _ _ ?_
            clear hK K
            try simp only [Act.put, List.setIfInBounds_toArray, List.set_cons_zero, List.set_cons_succ]
            have hB_104 := hB_60.trans (hb_104.mono hB_60.size)
            have hA_104 := hA_60.below hb_104 hA_60.lt
            clear hb_104 hB_60 hA_60 
            refine wpAny_take (i := 3) (oi := { dst := some 35, op := Go.Op.binOp Go.BinOp.neq 30 (Go.Operand.tmp 33) (Go.Operand.tmp 34) 30, type := 4, pos := "law.go:55", after := #[{ on := 1, ground := Go.Ground.data }, { on := 2, ground := Go.Ground.data }], guard := none }) (v := ?v3n_2q) rfl (by kernel_rfl) (by kernel_rfl) (by kernel_rfl) (fun _ _ _ h => h) (Or.inl ⟨by rfl, fun w => ?hy3n_2q⟩) ?rest3n_2q
            case hy3n_2q => go_simp; (first | done | (with_reducible rfl))
            simp only [Act.put, List.setIfInBounds_toArray, List.set_cons_zero, List.set_cons_succ]
            refine wpAny_take (i := 4) (oi := { dst := some 36, op := Go.Op.move (Go.Operand.tmp 35), type := 4, pos := "law.go:55", after := #[{ on := 3, ground := Go.Ground.data }, { on := 1, ground := Go.Ground.chain }], guard := none }) (v := ?v4n_2q) rfl (by kernel_rfl) (by kernel_rfl) (by kernel_rfl) (fun _ _ _ h => h) (Or.inl ⟨by rfl, fun w => ?hy4n_2q⟩) ?rest4n_2q
            case hy4n_2q => go_simp; (first | done | (with_reducible rfl))
            simp only [Act.put, List.setIfInBounds_toArray, List.set_cons_zero, List.set_cons_succ]
            refine wpAny_take (i := 5) (oi := { dst := some 37, op := Go.Op.move (Go.Operand.tmp 1), type := 22, pos := "law.go:55", after := #[{ on := 4, ground := Go.Ground.guard }], guard := some (4, false) }) (v := undef) rfl (by kernel_rfl) (by kernel_rfl) (by kernel_rfl) (fun _ _ _ h => h) (Or.inr ⟨by rfl, rfl⟩) ?_
            simp only [Act.put, List.setIfInBounds_toArray, List.set_cons_zero, List.set_cons_succ]
            refine wpAny_take (i := 6) (oi := { dst := some 38, op := Go.Op.move (Go.Operand.tmp 2), type := 22, pos := "law.go:55", after := #[{ on := 4, ground := Go.Ground.guard }], guard := some (4, false) }) (v := undef) rfl (by kernel_rfl) (by kernel_rfl) (by kernel_rfl) (fun _ _ _ h => h) (Or.inr ⟨by rfl, rfl⟩) ?_
            simp only [Act.put, List.setIfInBounds_toArray, List.set_cons_zero, List.set_cons_succ]
            refine wpAny_take (i := 7) (oi := { dst := some 39, op := Go.Op.buildSlice 39 1 #[(0, Go.Operand.tmp 38)], type := 39, pos := "law.go:55", after := #[{ on := 6, ground := Go.Ground.data }, { on := 4, ground := Go.Ground.guard }], guard := some (4, false) }) (v := undef) rfl (by kernel_rfl) (by kernel_rfl) (by kernel_rfl) (fun _ _ _ h => h) (Or.inr ⟨by rfl, rfl⟩) ?_
            simp only [Act.put, List.setIfInBounds_toArray, List.set_cons_zero, List.set_cons_succ]
            refine wpAny_take (i := 8) (oi := { dst := some 40, op := Go.Op.call { callee := Go.Callee.value (Go.Operand.func 39), args := #[Go.Operand.tmp 37, Go.Operand.tmp 39], argTypes := #[22, 39] }, type := 24, pos := "law.go:55", after := #[{ on := 5, ground := Go.Ground.data }, { on := 7, ground := Go.Ground.data }, { on := 4, ground := Go.Ground.chain }, { on := 4, ground := Go.Ground.guard }], guard := some (4, false) }) (v := undef) rfl (by kernel_rfl) (by kernel_rfl) (by kernel_rfl) (fun _ _ _ h => h) (Or.inr ⟨by rfl, rfl⟩) ?_
            simp only [Act.put, List.setIfInBounds_toArray, List.set_cons_zero, List.set_cons_succ]
            refine wpAny_take (i := 9) (oi := { dst := some 41, op := Go.Op.move (Go.Operand.tmp 0), type := 22, pos := "law.go:55", after := #[{ on := 4, ground := Go.Ground.guard }], guard := some (4, false) }) (v := undef) rfl (by kernel_rfl) (by kernel_rfl) (by kernel_rfl) (fun _ _ _ h => h) (Or.inr ⟨by rfl, rfl⟩) ?_
            simp only [Act.put, List.setIfInBounds_toArray, List.set_cons_zero, List.set_cons_succ]
            refine wpAny_take (i := 10) (oi := { dst := some 42, op := Go.Op.move (Go.Operand.tmp 2), type := 22, pos := "law.go:55", after := #[{ on := 4, ground := Go.Ground.guard }], guard := some (4, false) }) (v := undef) rfl (by kernel_rfl) (by kernel_rfl) (by kernel_rfl) (fun _ _ _ h => h) (Or.inr ⟨by rfl, rfl⟩) ?_
            simp only [Act.put, List.setIfInBounds_toArray, List.set_cons_zero, List.set_cons_succ]
            refine wpAny_take (i := 11) (oi := { dst := some 43, op := Go.Op.buildSlice 39 1 #[(0, Go.Operand.tmp 42)], type := 39, pos := "law.go:55", after := #[{ on := 10, ground := Go.Ground.data }, { on := 4, ground := Go.Ground.guard }], guard := some (4, false) }) (v := undef) rfl (by kernel_rfl) (by kernel_rfl) (by kernel_rfl) (fun _ _ _ h => h) (Or.inr ⟨by rfl, rfl⟩) ?_
            simp only [Act.put, List.setIfInBounds_toArray, List.set_cons_zero, List.set_cons_succ]
            refine wpAny_take (i := 12) (oi := { dst := some 44, op := Go.Op.call { callee := Go.Callee.value (Go.Operand.func 39), args := #[Go.Operand.tmp 41, Go.Operand.tmp 43], argTypes := #[22, 39] }, type := 24, pos := "law.go:55", after := #[{ on := 9, ground := Go.Ground.data }, { on := 11, ground := Go.Ground.data }, { on := 8, ground := Go.Ground.chain }, { on := 4, ground := Go.Ground.guard }], guard := some (4, false) }) (v := undef) rfl (by kernel_rfl) (by kernel_rfl) (by kernel_rfl) (fun _ _ _ h => h) (Or.inr ⟨by rfl, rfl⟩) ?_
            simp only [Act.put, List.setIfInBounds_toArray, List.set_cons_zero, List.set_cons_succ]
            refine wpAny_take (i := 13) (oi := { dst := some 45, op := Go.Op.binOp Go.BinOp.eql 24 (Go.Operand.tmp 40) (Go.Operand.tmp 44) 24, type := 4, pos := "law.go:55", after := #[{ on := 8, ground := Go.Ground.data }, { on := 12, ground := Go.Ground.data }, { on := 4, ground := Go.Ground.guard }], guard := some (4, false) }) (v := undef) rfl (by kernel_rfl) (by kernel_rfl) (by kernel_rfl) (fun _ _ _ h => h) (Or.inr ⟨by rfl, rfl⟩) ?_
            simp only [Act.put, List.setIfInBounds_toArray, List.set_cons_zero, List.set_cons_succ]
            refine wpAny_take (i := 14) (oi := { dst := some 46, op := Go.Op.pick (Go.Operand.tmp 36) (Go.Operand.const (Go.Value.bool true)) (Go.Operand.tmp 45), type := 4, pos := "law.go:55", after := #[{ on := 4, ground := Go.Ground.data }, { on := 13, ground := Go.Ground.data }], guard := none }) (v := ?v14n_2q) rfl (by kernel_rfl) (by kernel_rfl) (by kernel_rfl) (fun _ _ _ h => h) (Or.inl ⟨by rfl, fun w => ?hy14n_2q⟩) ?rest14n_2q
            case hy14n_2q => go_simp; (first | done | (with_reducible rfl))
            simp only [Act.put, List.setIfInBounds_toArray, List.set_cons_zero, List.set_cons_succ]
            refine wpAny_take (i := 15) (oi := { dst := some 6, op := Go.Op.assign (Go.Operand.tmp 46), type := 4, pos := "law.go:55", after := #[{ on := 14, ground := Go.Ground.data }, { on := 12, ground := Go.Ground.chain }, { on := 0, ground := Go.Ground.phase }, { on := 1, ground := Go.Ground.phase }, { on := 2, ground := Go.Ground.phase }, { on := 3, ground := Go.Ground.phase }, { on := 4, ground := Go.Ground.phase }, { on := 5, ground := Go.Ground.phase }, { on := 6, ground := Go.Ground.phase }, { on := 7, ground := Go.Ground.phase }, { on := 8, ground := Go.Ground.phase }, { on := 9, ground := Go.Ground.phase }, { on := 10, ground := Go.Ground.phase }, { on := 11, ground := Go.Ground.phase }, { on := 12, ground := Go.Ground.phase }, { on := 13, ground := Go.Ground.phase }, { on := 14, ground := Go.Ground.phase }], guard := none }) (v := ?v15n_2q) rfl (by kernel_rfl) (by kernel_rfl) (by kernel_rfl) (fun _ _ _ h => h) (Or.inl ⟨by rfl, fun w => ?hy15n_2q⟩) ?rest15n_2q
            case hy15n_2q => go_simp; (first | done | (with_reducible rfl))
            simp only [Act.put, List.setIfInBounds_toArray, List.set_cons_zero, List.set_cons_succ]
            refine wpAny_done (by kernel_rfl) ?_ _
            go_wp2
            go_ret
            exact ⟨rfl, hB_104⟩
    refine wp_region_any (by kernel_rfl) ?_
    change wpAny _ _ _ _ _ _ _ (World.drew _)
    obtain ⟨w50, hw_50⟩ : ∃ w', w4.drew = w' := ⟨_, rfl⟩
    have hA_50 : Arr w50 bk .u8 30 bl := by rw [← hw_50]; exact hA4
    have hB_50 : Below w.heap.size w w50 := by rw [← hw_50]; exact pw_below_drewN hB4 1
    rw [hw_50]
    clear hw_50 hA4 hB4
    refine wpAny_take (i := 1) (oi := { dst := some 18, op := Go.Op.move (Go.Operand.tmp 0), type := 22, pos := "law.go:52", after := #[], guard := none }) (v := ?v1p) rfl (by kernel_rfl) (by kernel_rfl) (by kernel_rfl) (fun _ _ _ h => h) (Or.inl ⟨by rfl, fun w => ?hy1p⟩) ?rest1p
    case hy1p => go_simp; (first | done | (with_reducible rfl))
    simp only [Act.put, List.setIfInBounds_toArray, List.set_cons_zero, List.set_cons_succ]
    refine wpAny_ready (rs := [0, 2]) (by kernel_rfl) (by simp) ?_
    refine AllReady.cons (o := { dst := some 17, op := Go.Op.load 30 (Go.Operand.tmp 7), type := 30, pos := "law.go:52", after := #[], guard := none }) rfl (fun K hK => ?_) (AllReady.cons (o := { dst := some 19, op := Go.Op.call { callee := Go.Callee.value (Go.Operand.func 42), args := #[Go.Operand.tmp 18], argTypes := #[22] }, type := 30, pos := "law.go:52", after := #[{ on := 1, ground := Go.Ground.data }], guard := none }) rfl (fun K hK => ?_) (AllReady.nil))
    ·
      rw [if_pos (by rfl)]
      refine wp_load_mid 30 (.tmp 7) rfl bk 0 rfl (bl.map (Value.int .u8)) _ (arr_range hA_50) Tryd.underlying30 rfl (by rw [List.length_map, Hbll.out]; kernel_rfl) ?_
      rw [show (Value.agg (bl.map (Value.int .u8)).toArray) = AV .u8 bl from rfl]
      refine hK _ _ ?_
      clear hK K
      try simp only [Act.put, List.setIfInBounds_toArray, List.set_cons_zero, List.set_cons_succ]
      refine wpAny_ready (rs := [2]) (by kernel_rfl) (by simp) ?_
      refine AllReady.cons (o := { dst := some 19, op := Go.Op.call { callee := Go.Callee.value (Go.Operand.func 42), args := #[Go.Operand.tmp 18], argTypes := #[22] }, type := 30, pos := "law.go:52", after := #[{ on := 1, ground := Go.Ground.data }], guard := none }) rfl (fun K hK => ?_) (AllReady.nil)
      ·
        go_simp
        go_at_call 42
        refine (rBlock_any A ca l w50 Hl8.out (Kd.C_below HA.out hB_50) Ha.out Hl.out).mono ?_
        rintro e w102 ⟨rfl, hb_102⟩
        rw [Hbl.out]
        refine hK _ _ ?_
        clear hK K
        try simp only [Act.put, List.setIfInBounds_toArray, List.set_cons_zero, List.set_cons_succ]
        have hB_102 := hB_50.trans (hb_102.mono hB_50.size)
        have hA_102 := hA_50.below hb_102 hA_50.lt
        clear hb_102 hB_50 hA_50 
        refine wpAny_take (i := 3) (oi := { dst := some 20, op := Go.Op.binOp Go.BinOp.neq 30 (Go.Operand.tmp 17) (Go.Operand.tmp 19) 30, type := 4, pos := "law.go:52", after := #[{ on := 0, ground := Go.Ground.data }, { on := 2, ground := Go.Ground.data }], guard := none }) (v := ?v3p_0q) rfl (by kernel_rfl) (by kernel_rfl) (by kernel_rfl) (fun _ _ _ h => h) (Or.inl ⟨by rfl, fun w => ?hy3p_0q⟩) ?rest3p_0q
        case hy3p_0q => go_simp; (first | done | (with_reducible rfl))
        simp only [Act.put, List.setIfInBounds_toArray, List.set_cons_zero, List.set_cons_succ]
        refine wpAny_take (i := 4) (oi := { dst := some 21, op := Go.Op.move (Go.Operand.tmp 20), type := 4, pos := "law.go:52", after := #[{ on := 3, ground := Go.Ground.data }, { on := 2, ground := Go.Ground.chain }], guard := none }) (v := ?v4p_0q) rfl (by kernel_rfl) (by kernel_rfl) (by kernel_rfl) (fun _ _ _ h => h) (Or.inl ⟨by rfl, fun w => ?hy4p_0q⟩) ?rest4p_0q
        case hy4p_0q => go_simp; (first | done | (with_reducible rfl))
        simp only [Act.put, List.setIfInBounds_toArray, List.set_cons_zero, List.set_cons_succ]
        refine wpAny_take (i := 5) (oi := { dst := some 22, op := Go.Op.slice 30 (Go.Operand.tmp 7) none none none, type := 22, pos := "law.go:52", after := #[{ on := 4, ground := Go.Ground.guard }], guard := some (4, false) }) (v := ?v5p_0q) rfl (by kernel_rfl) (by kernel_rfl) (by kernel_rfl) (fun _ _ _ h => h) (Or.inl ⟨by rfl, fun w => ?hy5p_0q⟩) ?rest5p_0q
        case hy5p_0q => go_simp; (first | done | (with_reducible rfl))
        simp only [Act.put, List.setIfInBounds_toArray, List.set_cons_zero, List.set_cons_succ]
        refine wpAny_take (i := 6) (oi := { dst := some 23, op := Go.Op.move (Go.Operand.tmp 2), type := 22, pos := "law.go:52", after := #[{ on := 4, ground := Go.Ground.guard }], guard := some (4, false) }) (v := ?v6p_0q) rfl (by kernel_rfl) (by kernel_rfl) (by kernel_rfl) (fun _ _ _ h => h) (Or.inl ⟨by rfl, fun w => ?hy6p_0q⟩) ?rest6p_0q
        case hy6p_0q => go_simp; (first | done | (with_reducible rfl))
        simp only [Act.put, List.setIfInBounds_toArray, List.set_cons_zero, List.set_cons_succ]
        refine wpAny_take (i := 9) (oi := { dst := some 26, op := Go.Op.move (Go.Operand.tmp 0), type := 22, pos := "law.go:52", after := #[{ on := 4, ground := Go.Ground.guard }], guard := some (4, false) }) (v := ?v9p_0q) rfl (by kernel_rfl) (by kernel_rfl) (by kernel_rfl) (fun _ _ _ h => h) (Or.inl ⟨by rfl, fun w => ?hy9p_0q⟩) ?rest9p_0q
        case hy9p_0q => go_simp; (first | done | (with_reducible rfl))
        simp only [Act.put, List.setIfInBounds_toArray, List.set_cons_zero, List.set_cons_succ]
        refine wpAny_take (i := 10) (oi := { dst := some 27, op := Go.Op.move (Go.Operand.tmp 2), type := 22, pos := "law.go:52", after := #[{ on := 4, ground := Go.Ground.guard }], guard := some (4, false) }) (v := ?v10p_0q) rfl (by kernel_rfl) (by kernel_rfl) (by kernel_rfl) (fun _ _ _ h => h) (Or.inl ⟨by rfl, fun w => ?hy10p_0q⟩) ?rest10p_0q
        case hy10p_0q => go_simp; (first | done | (with_reducible rfl))
        simp only [Act.put, List.setIfInBounds_toArray, List.set_cons_zero, List.set_cons_succ]
        refine wpAny_ready (rs := [7, 11]) (by kernel_rfl) (by simp) ?_
        refine AllReady.cons (o := { dst := some 24, op := Go.Op.buildSlice 39 1 #[(0, Go.Operand.tmp 23)], type := 39, pos := "law.go:52", after := #[{ on := 6, ground := Go.Ground.data }, { on := 4, ground := Go.Ground.guard }], guard := some (4, false) }) rfl (fun K hK => ?_) (AllReady.cons (o := { dst := some 28, op := Go.Op.buildSlice 39 1 #[(0, Go.Operand.tmp 27)], type := 39, pos := "law.go:52", after := #[{ on := 10, ground := Go.Ground.data }, { on := 4, ground := Go.Ground.guard }], guard := some (4, false) }) rfl (fun K hK => ?_) (AllReady.nil))
        ·
          go_simp
          refine hK _ _ ?_
          clear hK K
          try simp only [Act.put, List.setIfInBounds_toArray, List.set_cons_zero, List.set_cons_succ]
          change wpAny _ _ _ _ _ _ _ (World.alloc w102 (.cells #[.slice C m.length cc] 22))
          have hb_103 := (Below.refl w102.heap.size w102).alloc (Nat.le_refl _) (.cells #[.slice C m.length cc] 22)
          have C7_103 := arg1_C w102 C cc m Hcc.out (Kd.C_below HC.out hB_102)
          obtain ⟨w103, hw_103⟩ : ∃ w103, World.alloc w102 (.cells #[.slice C m.length cc] 22) = w103 := ⟨_, rfl⟩
          rw [hw_103] at hb_103 C7_103
          rw [hw_103]
          have hB_103 := hB_102.trans (hb_103.mono hB_102.size)
          have hA_103 := hA_102.below hb_103 hA_102.lt
          obtain ⟨s103, hs_103⟩ : ∃ s103, w102.heap.size = s103 := ⟨_, rfl⟩
          rw [hs_103] at C7_103
          rw [hs_103]
          clear hw_103 hs_103
          clear hb_103 hB_102 hA_102 
          refine wpAny_ready (rs := [8, 11]) (by kernel_rfl) (by simp) ?_
          refine AllReady.cons (o := { dst := some 25, op := Go.Op.call { callee := Go.Callee.value (Go.Operand.func 39), args := #[Go.Operand.tmp 22, Go.Operand.tmp 24], argTypes := #[22, 39] }, type := 24, pos := "law.go:52", after := #[{ on := 5, ground := Go.Ground.data }, { on := 7, ground := Go.Ground.data }, { on := 4, ground := Go.Ground.chain }, { on := 4, ground := Go.Ground.guard }], guard := some (4, false) }) rfl (fun K hK => ?_) (AllReady.cons (o := { dst := some 28, op := Go.Op.buildSlice 39 1 #[(0, Go.Operand.tmp 27)], type := 39, pos := "law.go:52", after := #[{ on := 10, ground := Go.Ground.data }, { on := 4, ground := Go.Ground.guard }], guard := some (4, false) }) rfl (fun K hK => ?_) (AllReady.nil))
          ·
            go_simp
            go_at_call 39
            refine (MSum_n (some ⟨bk, 0, none⟩) 64 64 bl Hbll.out (some ⟨s103, 0, none⟩) 1 [m] w103 (HR.out.below hB_103 hpos.out) (blk_C hA_103 Hbll.out) (Nat.le_of_eq Hbll.out) (by rw [Hbll.out]; decide) C7_103 Hfl.out).mono ?_
            rintro e w104 ⟨rfl, hb_104⟩
            rw [Hy1.out]
            refine hK _ _ ?_
            clear hK K
            try simp only [Act.put, List.setIfInBounds_toArray, List.set_cons_zero, List.set_cons_succ]
            have hB_104 := hB_103.trans (hb_104.mono hB_103.size)
            have hA_104 := hA_103.below hb_104 hA_103.lt
            clear hb_104 hB_103 hA_103 C7_103
            refine wpAny_ready (rs := [11]) (by kernel_rfl) (by simp) ?_
            refine AllReady.cons (o := { dst := some 28, op := Go.Op.buildSlice 39 1 #[(0, Go.Operand.tmp 27)], type := 39, pos := "law.go:52", after := #[{ on := 10, ground := Go.Ground.data }, { on := 4, ground := Go.Ground.guard }], guard := some (4, false) }) rfl (fun K hK => ?_) (AllReady.nil)
            ·
              go_simp
              refine hK _ _ ?_
              clear hK K
              try simp only [Act.put, List.setIfInBounds_toArray, List.set_cons_zero, List.set_cons_succ]
              change wpAny _ _ _ _ _ _ _ (World.alloc w104 (.cells #[.slice C m.length cc] 22))
              have hb_105 := (Below.refl w104.heap.size w104).alloc (Nat.le_refl _) (.cells #[.slice C m.length cc] 22)
              have C11_105 := arg1_C w104 C cc m Hcc.out (Kd.C_below HC.out hB_104)
              obtain ⟨w105, hw_105⟩ : ∃ w105, World.alloc w104 (.cells #[.slice C m.length cc] 22) = w105 := ⟨_, rfl⟩
              rw [hw_105] at hb_105 C11_105
              rw [hw_105]
              have hB_105 := hB_104.trans (hb_105.mono hB_104.size)
              have hA_105 := hA_104.below hb_105 hA_104.lt
              obtain ⟨s105, hs_105⟩ : ∃ s105, w104.heap.size = s105 := ⟨_, rfl⟩
              rw [hs_105] at C11_105
              rw [hs_105]
              clear hw_105 hs_105
              clear hb_105 hB_104 hA_104 
              refine wpAny_ready (rs := [12]) (by kernel_rfl) (by simp) ?_
              refine AllReady.cons (o := { dst := some 29, op := Go.Op.call { callee := Go.Callee.value (Go.Operand.func 39), args := #[Go.Operand.tmp 26, Go.Operand.tmp 28], argTypes := #[22, 39] }, type := 24, pos := "law.go:52", after := #[{ on := 9, ground := Go.Ground.data }, { on := 11, ground := Go.Ground.data }, { on := 8, ground := Go.Ground.chain }, { on := 4, ground := Go.Ground.guard }], guard := some (4, false) }) rfl (fun K hK => ?_) (AllReady.nil)
              ·
                go_simp
                go_at_call 39
                refine (MSum_any A ca l (some ⟨s105, 0, none⟩) 1 [m] w105 (HR.out.below hB_105 hpos.out) (Kd.C_below HA.out hB_105) Ha.out Hl.out C11_105 Hfl.out).mono ?_
                rintro e w106 ⟨rfl, hb_106⟩
                rw [Hy2.out]
                refine hK _ _ ?_
                clear hK K
                try simp only [Act.put, List.setIfInBounds_toArray, List.set_cons_zero, List.set_cons_succ]
                have hB_106 := hB_105.trans (hb_106.mono hB_105.size)
                have hA_106 := hA_105.below hb_106 hA_105.lt
                clear hb_106 hB_105 hA_105 C11_105
                refine wpAny_take (i := 13) (oi := { dst := some 30, op := Go.Op.binOp Go.BinOp.neq 24 (Go.Operand.tmp 25) (Go.Operand.tmp 29) 24, type := 4, pos := "law.go:52", after := #[{ on := 8, ground := Go.Ground.data }, { on := 12, ground := Go.Ground.data }, { on := 4, ground := Go.Ground.guard }], guard := some (4, false) }) (v := ?v13p_0q_7_8qq) rfl (by kernel_rfl) (by kernel_rfl) (by kernel_rfl) (fun _ _ _ h => h) (Or.inl ⟨by rfl, fun w => ?hy13p_0q_7_8qq⟩) ?rest13p_0q_7_8qq
                case hy13p_0q_7_8qq => go_simp; (first | done | (with_reducible rfl))
                simp only [Act.put, List.setIfInBounds_toArray, List.set_cons_zero, List.set_cons_succ]
                refine wpAny_take (i := 14) (oi := { dst := some 31, op := Go.Op.pick (Go.Operand.tmp 21) (Go.Operand.const (Go.Value.bool true)) (Go.Operand.tmp 30), type := 4, pos := "law.go:52", after := #[{ on := 4, ground := Go.Ground.data }, { on := 13, ground := Go.Ground.data }], guard := none }) (v := ?v14p_0q_7_8qq) rfl (by kernel_rfl) (by kernel_rfl) (by kernel_rfl) (fun _ _ _ h => h) (Or.inl ⟨by rfl, fun w => ?hy14p_0q_7_8qq⟩) ?rest14p_0q_7_8qq
                case hy14p_0q_7_8qq => go_simp; (first | done | (with_reducible rfl))
                simp only [Act.put, List.setIfInBounds_toArray, List.set_cons_zero, List.set_cons_succ]
                refine wpAny_done (by kernel_rfl) ?_ _
                exact cont _ _ _ hA_106 hB_106
          ·
            go_simp
            refine hK _ _ ?_
            clear hK K
            try simp only [Act.put, List.setIfInBounds_toArray, List.set_cons_zero, List.set_cons_succ]
            change wpAny _ _ _ _ _ _ _ (World.alloc w103 (.cells #[.slice C m.length cc] 22))
            have hb_107 := (Below.refl w103.heap.size w103).alloc (Nat.le_refl _) (.cells #[.slice C m.length cc] 22)
            have C11_107 := arg1_C w103 C cc m Hcc.out (Kd.C_below HC.out hB_103)
            obtain ⟨w107, hw_107⟩ : ∃ w107, World.alloc w103 (.cells #[.slice C m.length cc] 22) = w107 := ⟨_, rfl⟩
            rw [hw_107] at hb_107 C11_107
            rw [hw_107]
            have hB_107 := hB_103.trans (hb_107.mono hB_103.size)
            have hA_107 := hA_103.below hb_107 hA_103.lt
            have C7_107 := Kd.C_below C7_103 hb_107
            obtain ⟨s107, hs_107⟩ : ∃ s107, w103.heap.size = s107 := ⟨_, rfl⟩
            rw [hs_107] at C11_107
            rw [hs_107]
            clear hw_107 hs_107
            clear hb_107 hB_103 hA_103 C7_103
            refine wpAny_ready (rs := [8]) (by kernel_rfl) (by simp) ?_
            refine AllReady.cons (o := { dst := some 25, op := Go.Op.call { callee := Go.Callee.value (Go.Operand.func 39), args := #[Go.Operand.tmp 22, Go.Operand.tmp 24], argTypes := #[22, 39] }, type := 24, pos := "law.go:52", after := #[{ on := 5, ground := Go.Ground.data }, { on := 7, ground := Go.Ground.data }, { on := 4, ground := Go.Ground.chain }, { on := 4, ground := Go.Ground.guard }], guard := some (4, false) }) rfl (fun K hK => ?_) (AllReady.nil)
            ·
              go_simp
              go_at_call 39
              refine (MSum_n (some ⟨bk, 0, none⟩) 64 64 bl Hbll.out (some ⟨s103, 0, none⟩) 1 [m] w107 (HR.out.below hB_107 hpos.out) (blk_C hA_107 Hbll.out) (Nat.le_of_eq Hbll.out) (by rw [Hbll.out]; decide) C7_107 Hfl.out).mono ?_
              rintro e w108 ⟨rfl, hb_108⟩
              rw [Hy1.out]
              refine hK _ _ ?_
              clear hK K
              try simp only [Act.put, List.setIfInBounds_toArray, List.set_cons_zero, List.set_cons_succ]
              have hB_108 := hB_107.trans (hb_108.mono hB_107.size)
              have hA_108 := hA_107.below hb_108 hA_107.lt
              have C11_108 := Kd.C_below C11_107 hb_108
              clear hb_108 hB_107 hA_107 C7_107 C11_107
              refine wpAny_ready (rs := [12]) (by kernel_rfl) (by simp) ?_
              refine AllReady.cons (o := { dst := some 29, op := Go.Op.call { callee := Go.Callee.value (Go.Operand.func 39), args := #[Go.Operand.tmp 26, Go.Operand.tmp 28], argTypes := #[22, 39] }, type := 24, pos := "law.go:52", after := #[{ on := 9, ground := Go.Ground.data }, { on := 11, ground := Go.Ground.data }, { on := 8, ground := Go.Ground.chain }, { on := 4, ground := Go.Ground.guard }], guard := some (4, false) }) rfl (fun K hK => ?_) (AllReady.nil)
              ·
                go_simp
                go_at_call 39
                refine (MSum_any A ca l (some ⟨s107, 0, none⟩) 1 [m] w108 (HR.out.below hB_108 hpos.out) (Kd.C_below HA.out hB_108) Ha.out Hl.out C11_108 Hfl.out).mono ?_
                rintro e w109 ⟨rfl, hb_109⟩
                rw [Hy2.out]
                refine hK _ _ ?_
                clear hK K
                try simp only [Act.put, List.setIfInBounds_toArray, List.set_cons_zero, List.set_cons_succ]
                have hB_109 := hB_108.trans (hb_109.mono hB_108.size)
                have hA_109 := hA_108.below hb_109 hA_108.lt
                clear hb_109 hB_108 hA_108 C11_108
                refine wpAny_take (i := 13) (oi := { dst := some 30, op := Go.Op.binOp Go.BinOp.neq 24 (Go.Operand.tmp 25) (Go.Operand.tmp 29) 24, type := 4, pos := "law.go:52", after := #[{ on := 8, ground := Go.Ground.data }, { on := 12, ground := Go.Ground.data }, { on := 4, ground := Go.Ground.guard }], guard := some (4, false) }) (v := ?v13p_0q_7_11qq) rfl (by kernel_rfl) (by kernel_rfl) (by kernel_rfl) (fun _ _ _ h => h) (Or.inl ⟨by rfl, fun w => ?hy13p_0q_7_11qq⟩) ?rest13p_0q_7_11qq
                case hy13p_0q_7_11qq => go_simp; (first | done | (with_reducible rfl))
                simp only [Act.put, List.setIfInBounds_toArray, List.set_cons_zero, List.set_cons_succ]
                refine wpAny_take (i := 14) (oi := { dst := some 31, op := Go.Op.pick (Go.Operand.tmp 21) (Go.Operand.const (Go.Value.bool true)) (Go.Operand.tmp 30), type := 4, pos := "law.go:52", after := #[{ on := 4, ground := Go.Ground.data }, { on := 13, ground := Go.Ground.data }], guard := none }) (v := ?v14p_0q_7_11qq) rfl (by kernel_rfl) (by kernel_rfl) (by kernel_rfl) (fun _ _ _ h => h) (Or.inl ⟨by rfl, fun w => ?hy14p_0q_7_11qq⟩) ?rest14p_0q_7_11qq
                case hy14p_0q_7_11qq => go_simp; (first | done | (with_reducible rfl))
                simp only [Act.put, List.setIfInBounds_toArray, List.set_cons_zero, List.set_cons_succ]
                refine wpAny_done (by kernel_rfl) ?_ _
                exact cont _ _ _ hA_109 hB_109
        ·
          go_simp
          refine hK _ _ ?_
          clear hK K
          try simp only [Act.put, List.setIfInBounds_toArray, List.set_cons_zero, List.set_cons_succ]
          change wpAny _ _ _ _ _ _ _ (World.alloc w102 (.cells #[.slice C m.length cc] 22))
          have hb_110 := (Below.refl w102.heap.size w102).alloc (Nat.le_refl _) (.cells #[.slice C m.length cc] 22)
          have C11_110 := arg1_C w102 C cc m Hcc.out (Kd.C_below HC.out hB_102)
          obtain ⟨w110, hw_110⟩ : ∃ w110, World.alloc w102 (.cells #[.slice C m.length cc] 22) = w110 := ⟨_, rfl⟩
          rw [hw_110] at hb_110 C11_110
          rw [hw_110]
          have hB_110 := hB_102.trans (hb_110.mono hB_102.size)
          have hA_110 := hA_102.below hb_110 hA_102.lt
          obtain ⟨s110, hs_110⟩ : ∃ s110, w102.heap.size = s110 := ⟨_, rfl⟩
          rw [hs_110] at C11_110
          rw [hs_110]
          clear hw_110 hs_110
          clear hb_110 hB_102 hA_102 
          refine wpAny_ready (rs := [7]) (by kernel_rfl) (by simp) ?_
          refine AllReady.cons (o := { dst := some 24, op := Go.Op.buildSlice 39 1 #[(0, Go.Operand.tmp 23)], type := 39, pos := "law.go:52", after := #[{ on := 6, ground := Go.Ground.data }, { on := 4, ground := Go.Ground.guard }], guard := some (4, false) }) rfl (fun K hK => ?_) (AllReady.nil)
          ·
            go_simp
            refine hK _ _ ?_
            clear hK K
            try simp only [Act.put, List.setIfInBounds_toArray, List.set_cons_zero, List.set_cons_succ]
            change wpAny _ _ _ _ _ _ _ (World.alloc w110 (.cells #[.slice C m.length cc] 22))
            have hb_111 := (Below.refl w110.heap.size w110).alloc (Nat.le_refl _) (.cells #[.slice C m.length cc] 22)
            have C7_111 := arg1_C w110 C cc m Hcc.out (Kd.C_below HC.out hB_110)
            obtain ⟨w111, hw_111⟩ : ∃ w111, World.alloc w110 (.cells #[.slice C m.length cc] 22) = w111 := ⟨_, rfl⟩
            rw [hw_111] at hb_111 C7_111
            rw [hw_111]
            have hB_111 := hB_110.trans (hb_111.mono hB_110.size)
            have hA_111 := hA_110.below hb_111 hA_110.lt
            have C11_111 := Kd.C_below C11_110 hb_111
            obtain ⟨s111, hs_111⟩ : ∃ s111, w110.heap.size = s111 := ⟨_, rfl⟩
            rw [hs_111] at C7_111
            rw [hs_111]
            clear hw_111 hs_111
            clear hb_111 hB_110 hA_110 C11_110
            refine wpAny_ready (rs := [8]) (by kernel_rfl) (by simp) ?_
            refine AllReady.cons (o := { dst := some 25, op := Go.Op.call { callee := Go.Callee.value (Go.Operand.func 39), args := #[Go.Operand.tmp 22, Go.Operand.tmp 24], argTypes := #[22, 39] }, type := 24, pos := "law.go:52", after := #[{ on := 5, ground := Go.Ground.data }, { on := 7, ground := Go.Ground.data }, { on := 4, ground := Go.Ground.chain }, { on := 4, ground := Go.Ground.guard }], guard := some (4, false) }) rfl (fun K hK => ?_) (AllReady.nil)
            ·
              go_simp
              go_at_call 39
              refine (MSum_n (some ⟨bk, 0, none⟩) 64 64 bl Hbll.out (some ⟨s111, 0, none⟩) 1 [m] w111 (HR.out.below hB_111 hpos.out) (blk_C hA_111 Hbll.out) (Nat.le_of_eq Hbll.out) (by rw [Hbll.out]; decide) C7_111 Hfl.out).mono ?_
              rintro e w112 ⟨rfl, hb_112⟩
              rw [Hy1.out]
              refine hK _ _ ?_
              clear hK K
              try simp only [Act.put, List.setIfInBounds_toArray, List.set_cons_zero, List.set_cons_succ]
              have hB_112 := hB_111.trans (hb_112.mono hB_111.size)
              have hA_112 := hA_111.below hb_112 hA_111.lt
              have C11_112 := Kd.C_below C11_111 hb_112
              clear hb_112 hB_111 hA_111 C11_111 C7_111
              refine wpAny_ready (rs := [12]) (by kernel_rfl) (by simp) ?_
              refine AllReady.cons (o := { dst := some 29, op := Go.Op.call { callee := Go.Callee.value (Go.Operand.func 39), args := #[Go.Operand.tmp 26, Go.Operand.tmp 28], argTypes := #[22, 39] }, type := 24, pos := "law.go:52", after := #[{ on := 9, ground := Go.Ground.data }, { on := 11, ground := Go.Ground.data }, { on := 8, ground := Go.Ground.chain }, { on := 4, ground := Go.Ground.guard }], guard := some (4, false) }) rfl (fun K hK => ?_) (AllReady.nil)
              ·
                go_simp
                go_at_call 39
                refine (MSum_any A ca l (some ⟨s110, 0, none⟩) 1 [m] w112 (HR.out.below hB_112 hpos.out) (Kd.C_below HA.out hB_112) Ha.out Hl.out C11_112 Hfl.out).mono ?_
                rintro e w113 ⟨rfl, hb_113⟩
                rw [Hy2.out]
                refine hK _ _ ?_
                clear hK K
                try simp only [Act.put, List.setIfInBounds_toArray, List.set_cons_zero, List.set_cons_succ]
                have hB_113 := hB_112.trans (hb_113.mono hB_112.size)
                have hA_113 := hA_112.below hb_113 hA_112.lt
                clear hb_113 hB_112 hA_112 C11_112
                refine wpAny_take (i := 13) (oi := { dst := some 30, op := Go.Op.binOp Go.BinOp.neq 24 (Go.Operand.tmp 25) (Go.Operand.tmp 29) 24, type := 4, pos := "law.go:52", after := #[{ on := 8, ground := Go.Ground.data }, { on := 12, ground := Go.Ground.data }, { on := 4, ground := Go.Ground.guard }], guard := some (4, false) }) (v := ?v13p_0q_11qqq) rfl (by kernel_rfl) (by kernel_rfl) (by kernel_rfl) (fun _ _ _ h => h) (Or.inl ⟨by rfl, fun w => ?hy13p_0q_11qqq⟩) ?rest13p_0q_11qqq
                case hy13p_0q_11qqq => go_simp; (first | done | (with_reducible rfl))
                simp only [Act.put, List.setIfInBounds_toArray, List.set_cons_zero, List.set_cons_succ]
                refine wpAny_take (i := 14) (oi := { dst := some 31, op := Go.Op.pick (Go.Operand.tmp 21) (Go.Operand.const (Go.Value.bool true)) (Go.Operand.tmp 30), type := 4, pos := "law.go:52", after := #[{ on := 4, ground := Go.Ground.data }, { on := 13, ground := Go.Ground.data }], guard := none }) (v := ?v14p_0q_11qqq) rfl (by kernel_rfl) (by kernel_rfl) (by kernel_rfl) (fun _ _ _ h => h) (Or.inl ⟨by rfl, fun w => ?hy14p_0q_11qqq⟩) ?rest14p_0q_11qqq
                case hy14p_0q_11qqq => go_simp; (first | done | (with_reducible rfl))
                simp only [Act.put, List.setIfInBounds_toArray, List.set_cons_zero, List.set_cons_succ]
                refine wpAny_done (by kernel_rfl) ?_ _
                exact cont _ _ _ hA_113 hB_113
    ·
      go_simp
      go_at_call 42
      refine (rBlock_any A ca l w50 Hl8.out (Kd.C_below HA.out hB_50) Ha.out Hl.out).mono ?_
      rintro e w114 ⟨rfl, hb_114⟩
      rw [Hbl.out]
      refine hK _ _ ?_
      clear hK K
      try simp only [Act.put, List.setIfInBounds_toArray, List.set_cons_zero, List.set_cons_succ]
      have hB_114 := hB_50.trans (hb_114.mono hB_50.size)
      have hA_114 := hA_50.below hb_114 hA_50.lt
      clear hb_114 hB_50 hA_50 
      refine wpAny_ready (rs := [0]) (by kernel_rfl) (by simp) ?_
      refine AllReady.cons (o := { dst := some 17, op := Go.Op.load 30 (Go.Operand.tmp 7), type := 30, pos := "law.go:52", after := #[], guard := none }) rfl (fun K hK => ?_) (AllReady.nil)
      ·
        rw [if_pos (by rfl)]
        refine wp_load_mid 30 (.tmp 7) rfl bk 0 rfl (bl.map (Value.int .u8)) _ (arr_range hA_114) Tryd.underlying30 rfl (by rw [List.length_map, Hbll.out]; kernel_rfl) ?_
        rw [show (Value.agg (bl.map (Value.int .u8)).toArray) = AV .u8 bl from rfl]
        refine hK _ _ ?_
        clear hK K
        try simp only [Act.put, List.setIfInBounds_toArray, List.set_cons_zero, List.set_cons_succ]
        refine wpAny_take (i := 3) (oi := { dst := some 20, op := Go.Op.binOp Go.BinOp.neq 30 (Go.Operand.tmp 17) (Go.Operand.tmp 19) 30, type := 4, pos := "law.go:52", after := #[{ on := 0, ground := Go.Ground.data }, { on := 2, ground := Go.Ground.data }], guard := none }) (v := ?v3p_2q) rfl (by kernel_rfl) (by kernel_rfl) (by kernel_rfl) (fun _ _ _ h => h) (Or.inl ⟨by rfl, fun w => ?hy3p_2q⟩) ?rest3p_2q
        case hy3p_2q => go_simp; (first | done | (with_reducible rfl))
        simp only [Act.put, List.setIfInBounds_toArray, List.set_cons_zero, List.set_cons_succ]
        refine wpAny_take (i := 4) (oi := { dst := some 21, op := Go.Op.move (Go.Operand.tmp 20), type := 4, pos := "law.go:52", after := #[{ on := 3, ground := Go.Ground.data }, { on := 2, ground := Go.Ground.chain }], guard := none }) (v := ?v4p_2q) rfl (by kernel_rfl) (by kernel_rfl) (by kernel_rfl) (fun _ _ _ h => h) (Or.inl ⟨by rfl, fun w => ?hy4p_2q⟩) ?rest4p_2q
        case hy4p_2q => go_simp; (first | done | (with_reducible rfl))
        simp only [Act.put, List.setIfInBounds_toArray, List.set_cons_zero, List.set_cons_succ]
        refine wpAny_take (i := 5) (oi := { dst := some 22, op := Go.Op.slice 30 (Go.Operand.tmp 7) none none none, type := 22, pos := "law.go:52", after := #[{ on := 4, ground := Go.Ground.guard }], guard := some (4, false) }) (v := ?v5p_2q) rfl (by kernel_rfl) (by kernel_rfl) (by kernel_rfl) (fun _ _ _ h => h) (Or.inl ⟨by rfl, fun w => ?hy5p_2q⟩) ?rest5p_2q
        case hy5p_2q => go_simp; (first | done | (with_reducible rfl))
        simp only [Act.put, List.setIfInBounds_toArray, List.set_cons_zero, List.set_cons_succ]
        refine wpAny_take (i := 6) (oi := { dst := some 23, op := Go.Op.move (Go.Operand.tmp 2), type := 22, pos := "law.go:52", after := #[{ on := 4, ground := Go.Ground.guard }], guard := some (4, false) }) (v := ?v6p_2q) rfl (by kernel_rfl) (by kernel_rfl) (by kernel_rfl) (fun _ _ _ h => h) (Or.inl ⟨by rfl, fun w => ?hy6p_2q⟩) ?rest6p_2q
        case hy6p_2q => go_simp; (first | done | (with_reducible rfl))
        simp only [Act.put, List.setIfInBounds_toArray, List.set_cons_zero, List.set_cons_succ]
        refine wpAny_take (i := 9) (oi := { dst := some 26, op := Go.Op.move (Go.Operand.tmp 0), type := 22, pos := "law.go:52", after := #[{ on := 4, ground := Go.Ground.guard }], guard := some (4, false) }) (v := ?v9p_2q) rfl (by kernel_rfl) (by kernel_rfl) (by kernel_rfl) (fun _ _ _ h => h) (Or.inl ⟨by rfl, fun w => ?hy9p_2q⟩) ?rest9p_2q
        case hy9p_2q => go_simp; (first | done | (with_reducible rfl))
        simp only [Act.put, List.setIfInBounds_toArray, List.set_cons_zero, List.set_cons_succ]
        refine wpAny_take (i := 10) (oi := { dst := some 27, op := Go.Op.move (Go.Operand.tmp 2), type := 22, pos := "law.go:52", after := #[{ on := 4, ground := Go.Ground.guard }], guard := some (4, false) }) (v := ?v10p_2q) rfl (by kernel_rfl) (by kernel_rfl) (by kernel_rfl) (fun _ _ _ h => h) (Or.inl ⟨by rfl, fun w => ?hy10p_2q⟩) ?rest10p_2q
        case hy10p_2q => go_simp; (first | done | (with_reducible rfl))
        simp only [Act.put, List.setIfInBounds_toArray, List.set_cons_zero, List.set_cons_succ]
        refine wpAny_ready (rs := [7, 11]) (by kernel_rfl) (by simp) ?_
        refine AllReady.cons (o := { dst := some 24, op := Go.Op.buildSlice 39 1 #[(0, Go.Operand.tmp 23)], type := 39, pos := "law.go:52", after := #[{ on := 6, ground := Go.Ground.data }, { on := 4, ground := Go.Ground.guard }], guard := some (4, false) }) rfl (fun K hK => ?_) (AllReady.cons (o := { dst := some 28, op := Go.Op.buildSlice 39 1 #[(0, Go.Operand.tmp 27)], type := 39, pos := "law.go:52", after := #[{ on := 10, ground := Go.Ground.data }, { on := 4, ground := Go.Ground.guard }], guard := some (4, false) }) rfl (fun K hK => ?_) (AllReady.nil))
        ·
          go_simp
          refine hK _ _ ?_
          clear hK K
          try simp only [Act.put, List.setIfInBounds_toArray, List.set_cons_zero, List.set_cons_succ]
          change wpAny _ _ _ _ _ _ _ (World.alloc w114 (.cells #[.slice C m.length cc] 22))
          have hb_116 := (Below.refl w114.heap.size w114).alloc (Nat.le_refl _) (.cells #[.slice C m.length cc] 22)
          have C7_116 := arg1_C w114 C cc m Hcc.out (Kd.C_below HC.out hB_114)
          obtain ⟨w116, hw_116⟩ : ∃ w116, World.alloc w114 (.cells #[.slice C m.length cc] 22) = w116 := ⟨_, rfl⟩
          rw [hw_116] at hb_116 C7_116
          rw [hw_116]
          have hB_116 := hB_114.trans (hb_116.mono hB_114.size)
          have hA_116 := hA_114.below hb_116 hA_114.lt
          obtain ⟨s116, hs_116⟩ : ∃ s116, w114.heap.size = s116 := ⟨_, rfl⟩
          rw [hs_116] at C7_116
          rw [hs_116]
          clear hw_116 hs_116
          clear hb_116 hB_114 hA_114 
          refine wpAny_ready (rs := [8, 11]) (by kernel_rfl) (by simp) ?_
          refine AllReady.cons (o := { dst := some 25, op := Go.Op.call { callee := Go.Callee.value (Go.Operand.func 39), args := #[Go.Operand.tmp 22, Go.Operand.tmp 24], argTypes := #[22, 39] }, type := 24, pos := "law.go:52", after := #[{ on := 5, ground := Go.Ground.data }, { on := 7, ground := Go.Ground.data }, { on := 4, ground := Go.Ground.chain }, { on := 4, ground := Go.Ground.guard }], guard := some (4, false) }) rfl (fun K hK => ?_) (AllReady.cons (o := { dst := some 28, op := Go.Op.buildSlice 39 1 #[(0, Go.Operand.tmp 27)], type := 39, pos := "law.go:52", after := #[{ on := 10, ground := Go.Ground.data }, { on := 4, ground := Go.Ground.guard }], guard := some (4, false) }) rfl (fun K hK => ?_) (AllReady.nil))
          ·
            go_simp
            go_at_call 39
            refine (MSum_n (some ⟨bk, 0, none⟩) 64 64 bl Hbll.out (some ⟨s116, 0, none⟩) 1 [m] w116 (HR.out.below hB_116 hpos.out) (blk_C hA_116 Hbll.out) (Nat.le_of_eq Hbll.out) (by rw [Hbll.out]; decide) C7_116 Hfl.out).mono ?_
            rintro e w117 ⟨rfl, hb_117⟩
            rw [Hy1.out]
            refine hK _ _ ?_
            clear hK K
            try simp only [Act.put, List.setIfInBounds_toArray, List.set_cons_zero, List.set_cons_succ]
            have hB_117 := hB_116.trans (hb_117.mono hB_116.size)
            have hA_117 := hA_116.below hb_117 hA_116.lt
            clear hb_117 hB_116 hA_116 C7_116
            refine wpAny_ready (rs := [11]) (by kernel_rfl) (by simp) ?_
            refine AllReady.cons (o := { dst := some 28, op := Go.Op.buildSlice 39 1 #[(0, Go.Operand.tmp 27)], type := 39, pos := "law.go:52", after := #[{ on := 10, ground := Go.Ground.data }, { on := 4, ground := Go.Ground.guard }], guard := some (4, false) }) rfl (fun K hK => ?_) (AllReady.nil)
            ·
              go_simp
              refine hK _ _ ?_
              clear hK K
              try simp only [Act.put, List.setIfInBounds_toArray, List.set_cons_zero, List.set_cons_succ]
              change wpAny _ _ _ _ _ _ _ (World.alloc w117 (.cells #[.slice C m.length cc] 22))
              have hb_118 := (Below.refl w117.heap.size w117).alloc (Nat.le_refl _) (.cells #[.slice C m.length cc] 22)
              have C11_118 := arg1_C w117 C cc m Hcc.out (Kd.C_below HC.out hB_117)
              obtain ⟨w118, hw_118⟩ : ∃ w118, World.alloc w117 (.cells #[.slice C m.length cc] 22) = w118 := ⟨_, rfl⟩
              rw [hw_118] at hb_118 C11_118
              rw [hw_118]
              have hB_118 := hB_117.trans (hb_118.mono hB_117.size)
              have hA_118 := hA_117.below hb_118 hA_117.lt
              obtain ⟨s118, hs_118⟩ : ∃ s118, w117.heap.size = s118 := ⟨_, rfl⟩
              rw [hs_118] at C11_118
              rw [hs_118]
              clear hw_118 hs_118
              clear hb_118 hB_117 hA_117 
              refine wpAny_ready (rs := [12]) (by kernel_rfl) (by simp) ?_
              refine AllReady.cons (o := { dst := some 29, op := Go.Op.call { callee := Go.Callee.value (Go.Operand.func 39), args := #[Go.Operand.tmp 26, Go.Operand.tmp 28], argTypes := #[22, 39] }, type := 24, pos := "law.go:52", after := #[{ on := 9, ground := Go.Ground.data }, { on := 11, ground := Go.Ground.data }, { on := 8, ground := Go.Ground.chain }, { on := 4, ground := Go.Ground.guard }], guard := some (4, false) }) rfl (fun K hK => ?_) (AllReady.nil)
              ·
                go_simp
                go_at_call 39
                refine (MSum_any A ca l (some ⟨s118, 0, none⟩) 1 [m] w118 (HR.out.below hB_118 hpos.out) (Kd.C_below HA.out hB_118) Ha.out Hl.out C11_118 Hfl.out).mono ?_
                rintro e w119 ⟨rfl, hb_119⟩
                rw [Hy2.out]
                refine hK _ _ ?_
                clear hK K
                try simp only [Act.put, List.setIfInBounds_toArray, List.set_cons_zero, List.set_cons_succ]
                have hB_119 := hB_118.trans (hb_119.mono hB_118.size)
                have hA_119 := hA_118.below hb_119 hA_118.lt
                clear hb_119 hB_118 hA_118 C11_118
                refine wpAny_take (i := 13) (oi := { dst := some 30, op := Go.Op.binOp Go.BinOp.neq 24 (Go.Operand.tmp 25) (Go.Operand.tmp 29) 24, type := 4, pos := "law.go:52", after := #[{ on := 8, ground := Go.Ground.data }, { on := 12, ground := Go.Ground.data }, { on := 4, ground := Go.Ground.guard }], guard := some (4, false) }) (v := ?v13p_2q_7_8qq) rfl (by kernel_rfl) (by kernel_rfl) (by kernel_rfl) (fun _ _ _ h => h) (Or.inl ⟨by rfl, fun w => ?hy13p_2q_7_8qq⟩) ?rest13p_2q_7_8qq
                case hy13p_2q_7_8qq => go_simp; (first | done | (with_reducible rfl))
                simp only [Act.put, List.setIfInBounds_toArray, List.set_cons_zero, List.set_cons_succ]
                refine wpAny_take (i := 14) (oi := { dst := some 31, op := Go.Op.pick (Go.Operand.tmp 21) (Go.Operand.const (Go.Value.bool true)) (Go.Operand.tmp 30), type := 4, pos := "law.go:52", after := #[{ on := 4, ground := Go.Ground.data }, { on := 13, ground := Go.Ground.data }], guard := none }) (v := ?v14p_2q_7_8qq) rfl (by kernel_rfl) (by kernel_rfl) (by kernel_rfl) (fun _ _ _ h => h) (Or.inl ⟨by rfl, fun w => ?hy14p_2q_7_8qq⟩) ?rest14p_2q_7_8qq
                case hy14p_2q_7_8qq => go_simp; (first | done | (with_reducible rfl))
                simp only [Act.put, List.setIfInBounds_toArray, List.set_cons_zero, List.set_cons_succ]
                refine wpAny_done (by kernel_rfl) ?_ _
                exact cont _ _ _ hA_119 hB_119
          ·
            go_simp
            refine hK _ _ ?_
            clear hK K
            try simp only [Act.put, List.setIfInBounds_toArray, List.set_cons_zero, List.set_cons_succ]
            change wpAny _ _ _ _ _ _ _ (World.alloc w116 (.cells #[.slice C m.length cc] 22))
            have hb_120 := (Below.refl w116.heap.size w116).alloc (Nat.le_refl _) (.cells #[.slice C m.length cc] 22)
            have C11_120 := arg1_C w116 C cc m Hcc.out (Kd.C_below HC.out hB_116)
            obtain ⟨w120, hw_120⟩ : ∃ w120, World.alloc w116 (.cells #[.slice C m.length cc] 22) = w120 := ⟨_, rfl⟩
            rw [hw_120] at hb_120 C11_120
            rw [hw_120]
            have hB_120 := hB_116.trans (hb_120.mono hB_116.size)
            have hA_120 := hA_116.below hb_120 hA_116.lt
            have C7_120 := Kd.C_below C7_116 hb_120
            obtain ⟨s120, hs_120⟩ : ∃ s120, w116.heap.size = s120 := ⟨_, rfl⟩
            rw [hs_120] at C11_120
            rw [hs_120]
            clear hw_120 hs_120
            clear hb_120 hB_116 hA_116 C7_116
            refine wpAny_ready (rs := [8]) (by kernel_rfl) (by simp) ?_
            refine AllReady.cons (o := { dst := some 25, op := Go.Op.call { callee := Go.Callee.value (Go.Operand.func 39), args := #[Go.Operand.tmp 22, Go.Operand.tmp 24], argTypes := #[22, 39] }, type := 24, pos := "law.go:52", after := #[{ on := 5, ground := Go.Ground.data }, { on := 7, ground := Go.Ground.data }, { on := 4, ground := Go.Ground.chain }, { on := 4, ground := Go.Ground.guard }], guard := some (4, false) }) rfl (fun K hK => ?_) (AllReady.nil)
            ·
              go_simp
              go_at_call 39
              refine (MSum_n (some ⟨bk, 0, none⟩) 64 64 bl Hbll.out (some ⟨s116, 0, none⟩) 1 [m] w120 (HR.out.below hB_120 hpos.out) (blk_C hA_120 Hbll.out) (Nat.le_of_eq Hbll.out) (by rw [Hbll.out]; decide) C7_120 Hfl.out).mono ?_
              rintro e w121 ⟨rfl, hb_121⟩
              rw [Hy1.out]
              refine hK _ _ ?_
              clear hK K
              try simp only [Act.put, List.setIfInBounds_toArray, List.set_cons_zero, List.set_cons_succ]
              have hB_121 := hB_120.trans (hb_121.mono hB_120.size)
              have hA_121 := hA_120.below hb_121 hA_120.lt
              have C11_121 := Kd.C_below C11_120 hb_121
              clear hb_121 hB_120 hA_120 C7_120 C11_120
              refine wpAny_ready (rs := [12]) (by kernel_rfl) (by simp) ?_
              refine AllReady.cons (o := { dst := some 29, op := Go.Op.call { callee := Go.Callee.value (Go.Operand.func 39), args := #[Go.Operand.tmp 26, Go.Operand.tmp 28], argTypes := #[22, 39] }, type := 24, pos := "law.go:52", after := #[{ on := 9, ground := Go.Ground.data }, { on := 11, ground := Go.Ground.data }, { on := 8, ground := Go.Ground.chain }, { on := 4, ground := Go.Ground.guard }], guard := some (4, false) }) rfl (fun K hK => ?_) (AllReady.nil)
              ·
                go_simp
                go_at_call 39
                refine (MSum_any A ca l (some ⟨s120, 0, none⟩) 1 [m] w121 (HR.out.below hB_121 hpos.out) (Kd.C_below HA.out hB_121) Ha.out Hl.out C11_121 Hfl.out).mono ?_
                rintro e w122 ⟨rfl, hb_122⟩
                rw [Hy2.out]
                refine hK _ _ ?_
                clear hK K
                try simp only [Act.put, List.setIfInBounds_toArray, List.set_cons_zero, List.set_cons_succ]
                have hB_122 := hB_121.trans (hb_122.mono hB_121.size)
                have hA_122 := hA_121.below hb_122 hA_121.lt
                clear hb_122 hB_121 hA_121 C11_121
                refine wpAny_take (i := 13) (oi := { dst := some 30, op := Go.Op.binOp Go.BinOp.neq 24 (Go.Operand.tmp 25) (Go.Operand.tmp 29) 24, type := 4, pos := "law.go:52", after := #[{ on := 8, ground := Go.Ground.data }, { on := 12, ground := Go.Ground.data }, { on := 4, ground := Go.Ground.guard }], guard := some (4, false) }) (v := ?v13p_2q_7_11qq) rfl (by kernel_rfl) (by kernel_rfl) (by kernel_rfl) (fun _ _ _ h => h) (Or.inl ⟨by rfl, fun w => ?hy13p_2q_7_11qq⟩) ?rest13p_2q_7_11qq
                case hy13p_2q_7_11qq => go_simp; (first | done | (with_reducible rfl))
                simp only [Act.put, List.setIfInBounds_toArray, List.set_cons_zero, List.set_cons_succ]
                refine wpAny_take (i := 14) (oi := { dst := some 31, op := Go.Op.pick (Go.Operand.tmp 21) (Go.Operand.const (Go.Value.bool true)) (Go.Operand.tmp 30), type := 4, pos := "law.go:52", after := #[{ on := 4, ground := Go.Ground.data }, { on := 13, ground := Go.Ground.data }], guard := none }) (v := ?v14p_2q_7_11qq) rfl (by kernel_rfl) (by kernel_rfl) (by kernel_rfl) (fun _ _ _ h => h) (Or.inl ⟨by rfl, fun w => ?hy14p_2q_7_11qq⟩) ?rest14p_2q_7_11qq
                case hy14p_2q_7_11qq => go_simp; (first | done | (with_reducible rfl))
                simp only [Act.put, List.setIfInBounds_toArray, List.set_cons_zero, List.set_cons_succ]
                refine wpAny_done (by kernel_rfl) ?_ _
                exact cont _ _ _ hA_122 hB_122
        ·
          go_simp
          refine hK _ _ ?_
          clear hK K
          try simp only [Act.put, List.setIfInBounds_toArray, List.set_cons_zero, List.set_cons_succ]
          change wpAny _ _ _ _ _ _ _ (World.alloc w114 (.cells #[.slice C m.length cc] 22))
          have hb_123 := (Below.refl w114.heap.size w114).alloc (Nat.le_refl _) (.cells #[.slice C m.length cc] 22)
          have C11_123 := arg1_C w114 C cc m Hcc.out (Kd.C_below HC.out hB_114)
          obtain ⟨w123, hw_123⟩ : ∃ w123, World.alloc w114 (.cells #[.slice C m.length cc] 22) = w123 := ⟨_, rfl⟩
          rw [hw_123] at hb_123 C11_123
          rw [hw_123]
          have hB_123 := hB_114.trans (hb_123.mono hB_114.size)
          have hA_123 := hA_114.below hb_123 hA_114.lt
          obtain ⟨s123, hs_123⟩ : ∃ s123, w114.heap.size = s123 := ⟨_, rfl⟩
          rw [hs_123] at C11_123
          rw [hs_123]
          clear hw_123 hs_123
          clear hb_123 hB_114 hA_114 
          refine wpAny_ready (rs := [7]) (by kernel_rfl) (by simp) ?_
          refine AllReady.cons (o := { dst := some 24, op := Go.Op.buildSlice 39 1 #[(0, Go.Operand.tmp 23)], type := 39, pos := "law.go:52", after := #[{ on := 6, ground := Go.Ground.data }, { on := 4, ground := Go.Ground.guard }], guard := some (4, false) }) rfl (fun K hK => ?_) (AllReady.nil)
          ·
            go_simp
            refine hK _ _ ?_
            clear hK K
            try simp only [Act.put, List.setIfInBounds_toArray, List.set_cons_zero, List.set_cons_succ]
            change wpAny _ _ _ _ _ _ _ (World.alloc w123 (.cells #[.slice C m.length cc] 22))
            have hb_124 := (Below.refl w123.heap.size w123).alloc (Nat.le_refl _) (.cells #[.slice C m.length cc] 22)
            have C7_124 := arg1_C w123 C cc m Hcc.out (Kd.C_below HC.out hB_123)
            obtain ⟨w124, hw_124⟩ : ∃ w124, World.alloc w123 (.cells #[.slice C m.length cc] 22) = w124 := ⟨_, rfl⟩
            rw [hw_124] at hb_124 C7_124
            rw [hw_124]
            have hB_124 := hB_123.trans (hb_124.mono hB_123.size)
            have hA_124 := hA_123.below hb_124 hA_123.lt
            have C11_124 := Kd.C_below C11_123 hb_124
            obtain ⟨s124, hs_124⟩ : ∃ s124, w123.heap.size = s124 := ⟨_, rfl⟩
            rw [hs_124] at C7_124
            rw [hs_124]
            clear hw_124 hs_124
            clear hb_124 hB_123 hA_123 C11_123
            refine wpAny_ready (rs := [8]) (by kernel_rfl) (by simp) ?_
            refine AllReady.cons (o := { dst := some 25, op := Go.Op.call { callee := Go.Callee.value (Go.Operand.func 39), args := #[Go.Operand.tmp 22, Go.Operand.tmp 24], argTypes := #[22, 39] }, type := 24, pos := "law.go:52", after := #[{ on := 5, ground := Go.Ground.data }, { on := 7, ground := Go.Ground.data }, { on := 4, ground := Go.Ground.chain }, { on := 4, ground := Go.Ground.guard }], guard := some (4, false) }) rfl (fun K hK => ?_) (AllReady.nil)
            ·
              go_simp
              go_at_call 39
              refine (MSum_n (some ⟨bk, 0, none⟩) 64 64 bl Hbll.out (some ⟨s124, 0, none⟩) 1 [m] w124 (HR.out.below hB_124 hpos.out) (blk_C hA_124 Hbll.out) (Nat.le_of_eq Hbll.out) (by rw [Hbll.out]; decide) C7_124 Hfl.out).mono ?_
              rintro e w125 ⟨rfl, hb_125⟩
              rw [Hy1.out]
              refine hK _ _ ?_
              clear hK K
              try simp only [Act.put, List.setIfInBounds_toArray, List.set_cons_zero, List.set_cons_succ]
              have hB_125 := hB_124.trans (hb_125.mono hB_124.size)
              have hA_125 := hA_124.below hb_125 hA_124.lt
              have C11_125 := Kd.C_below C11_124 hb_125
              clear hb_125 hB_124 hA_124 C11_124 C7_124
              refine wpAny_ready (rs := [12]) (by kernel_rfl) (by simp) ?_
              refine AllReady.cons (o := { dst := some 29, op := Go.Op.call { callee := Go.Callee.value (Go.Operand.func 39), args := #[Go.Operand.tmp 26, Go.Operand.tmp 28], argTypes := #[22, 39] }, type := 24, pos := "law.go:52", after := #[{ on := 9, ground := Go.Ground.data }, { on := 11, ground := Go.Ground.data }, { on := 8, ground := Go.Ground.chain }, { on := 4, ground := Go.Ground.guard }], guard := some (4, false) }) rfl (fun K hK => ?_) (AllReady.nil)
              ·
                go_simp
                go_at_call 39
                refine (MSum_any A ca l (some ⟨s123, 0, none⟩) 1 [m] w125 (HR.out.below hB_125 hpos.out) (Kd.C_below HA.out hB_125) Ha.out Hl.out C11_125 Hfl.out).mono ?_
                rintro e w126 ⟨rfl, hb_126⟩
                rw [Hy2.out]
                refine hK _ _ ?_
                clear hK K
                try simp only [Act.put, List.setIfInBounds_toArray, List.set_cons_zero, List.set_cons_succ]
                have hB_126 := hB_125.trans (hb_126.mono hB_125.size)
                have hA_126 := hA_125.below hb_126 hA_125.lt
                clear hb_126 hB_125 hA_125 C11_125
                refine wpAny_take (i := 13) (oi := { dst := some 30, op := Go.Op.binOp Go.BinOp.neq 24 (Go.Operand.tmp 25) (Go.Operand.tmp 29) 24, type := 4, pos := "law.go:52", after := #[{ on := 8, ground := Go.Ground.data }, { on := 12, ground := Go.Ground.data }, { on := 4, ground := Go.Ground.guard }], guard := some (4, false) }) (v := ?v13p_2q_11qqq) rfl (by kernel_rfl) (by kernel_rfl) (by kernel_rfl) (fun _ _ _ h => h) (Or.inl ⟨by rfl, fun w => ?hy13p_2q_11qqq⟩) ?rest13p_2q_11qqq
                case hy13p_2q_11qqq => go_simp; (first | done | (with_reducible rfl))
                simp only [Act.put, List.setIfInBounds_toArray, List.set_cons_zero, List.set_cons_succ]
                refine wpAny_take (i := 14) (oi := { dst := some 31, op := Go.Op.pick (Go.Operand.tmp 21) (Go.Operand.const (Go.Value.bool true)) (Go.Operand.tmp 30), type := 4, pos := "law.go:52", after := #[{ on := 4, ground := Go.Ground.data }, { on := 13, ground := Go.Ground.data }], guard := none }) (v := ?v14p_2q_11qqq) rfl (by kernel_rfl) (by kernel_rfl) (by kernel_rfl) (fun _ _ _ h => h) (Or.inl ⟨by rfl, fun w => ?hy14p_2q_11qqq⟩) ?rest14p_2q_11qqq
                case hy14p_2q_11qqq => go_simp; (first | done | (with_reducible rfl))
                simp only [Act.put, List.setIfInBounds_toArray, List.set_cons_zero, List.set_cons_succ]
                refine wpAny_done (by kernel_rfl) ?_ _
                exact cont _ _ _ hA_126 hB_126
end Go.Proofs.YtalghfnjelcpnaaDoor
