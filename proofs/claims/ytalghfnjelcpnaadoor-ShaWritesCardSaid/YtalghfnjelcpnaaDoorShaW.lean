/- ShaTurns: what the call returns, for every eight words and block. Condition: the table 'rounds' holds what the program's text lays. -/
import Derived.Test.YtalghfnjelcpnaaDoorShaV
namespace Go.Proofs.YtalghfnjelcpnaaDoor
set_option linter.unusedVariables false
set_option linter.unusedSimpArgs false
open Go.RowKit Go.Proofs.YtalghfnjelcpnaaDoorW.PrintWords Go.Proofs.YtalghfnjelcpnaaDoor.Db

theorem tr_w (st bs : List Int) (hs : W32s st) (hl : st.length = 8) : W32s (tr st bs) := by
  have h : ∀ (s : List Int) (k : Nat), W32s s → W32s (sm st s k) := by
    intro s k hs'
    induction k with
    | zero => exact hs'
    | succ k ih => exact ih.set k (w32_mod _)
  unfold tr
  exact h _ 8 (rn_w _ _ hs 64)
theorem take_set (xs : List Int) (k : Nat) (hk : k < xs.length) (m : Nat) (hm : m = xs.length) : (xs.take k ++ List.replicate (m - k) 0).set k (xs.getD k 0) = xs.take (k + 1) ++ List.replicate (m - (k + 1)) 0 := by
  have e : m - k = (m - (k + 1)) + 1 := by omega
  rw [e, List.replicate_succ, List.set_append_right _ _ (by rw [List.length_take]; omega), List.take_succ_eq_append_getElem hk]
  have e2 : k - (xs.take k).length = 0 := by rw [List.length_take]; omega
  rw [e2, List.set_cons_zero, List.append_assoc]
  simp [List.getD_eq_getElem?_getD, List.getElem?_eq_getElem hk]
theorem arr_range {w : World} {g : Nat} {k : IntKind} {T : TypeId} {xs : List Int} (h : Arr w g k T xs) : w.rangeAt g 0 (xs.map (Value.int k)) := fun j v hv => by
  have hj : j < xs.length := by have := (List.getElem?_eq_some_iff.1 hv).1; simpa using this
  rw [Nat.zero_add, h.cell hj, ← hv, List.getElem?_map, List.getElem?_eq_getElem hj]
  simp [List.getD_eq_getElem?_getD, List.getElem?_eq_getElem hj]
theorem wp_store_arr {P : Program} {o : Oper} {a : Act} {Q : Exit → Act → World → Prop} {K' : Act → World → Prop} {w : World} {k : IntKind} {T : TypeId} {xs ys : List Int} (ty : TypeId) (x v : Operand) (ho : o.op = .store ty x v) (g : Nat) (hx : a.eval x = .pointer (some ⟨g, 0, none⟩)) (hv : a.eval v = AV k xs) (h : Arr w g k T ys) (hl : ys.length = xs.length)
    (hi : (P.info? ty).map (·.size) = some xs.length) (K : ∀ w', w.grownBy w' (some g) → w'.heap.size = w.heap.size → Arr w' g k T xs → K' (a.put o.dst undef) w') : o.wp P a w K' Q := by
  refine wp_store_row ty x v ho g _ hx hv T _ h (by rw [hi]; simp) (by simp [hl]) (all_oneCell_toArray (one_cells _)) ?_
  exact K _ (setRow_grown w g _) (setRow_size w g _) (setRow_heap w g _ _ T (0, 0) h)
set_option maxHeartbeats 4000000 in
set_option maxRecDepth 100000 in
theorem turns_any (st bs : List Int) (hsl : st.length = 8) (hbl : bs.length = 64) (hsw : W32s st) (hbw : B8s bs) (w : World) (hR : Rounds w) :
    Calls Tryd.prog 4 #[AV .u32 st, AV .u8 bs] w fun e w' => e = .returned (.bool true) ∧ Below w.heap.size w w' := by
  obtain ⟨ys, hys⟩ : ∃ ys, tr st bs = ys := ⟨_, rfl⟩
  have hyl : ys.length = 8 := by rw [← hys]; exact tr_len st bs hsl
  have hyw : W32s ys := by rw [← hys]; exact tr_w st bs hsw hsl
  have HR := Aside0.mk hR
  have Hys := Aside0.mk hys
  have Hyl := Aside0.mk hyl
  have Hyw := Aside0.mk hyw
  have Hsl := Aside0.mk hsl
  have Hbl := Aside0.mk hbl
  have Hsw := Aside0.mk hsw
  have Hbw := Aside0.mk hbw
  have hpos := hR.pos
  clear hys hyl hyw hsl hbl hsw hbw hR
  go_enter Tryd.func4, Tryd.ntmps4
  go_wp2_with (first
    | (refine box_arr rfl 29 0 rfl rfl ?_; intro w1 hg1 hs1 hS1; have hb1 : Below w.heap.size w w1 := (Below.refl _ w).grown hg1 (Nat.le_refl _) (by intro k e; cases e))
    | (refine box_arr rfl 30 1 rfl rfl ?_; intro w2 hg2 hs2 hB2; rw [hs1] at hB2 hs2; have hb2 := hb1.grown hg2 (by omega) (by intro k e; cases e); have hS2 := hS1.grown hg2 (by simp); clear hS1 hg2 hg1 hb1)
    | (go_at_call 20; refine (wakes3_any _ (HR.out.below hb2 hpos)).mono ?_; rintro e w3 ⟨rfl, hb3⟩; have hS3 := hS2.below hb3 hS2.lt; have hB3 := hB2.below hb3 hB2.lt; have hb3' := hb2.trans (hb3.mono hb2.size); have hs3 := hb3.size; rw [hs2] at hs3))
  have hU4 : Arr (w3.alloc (.cells ((List.replicate 8 0).map (Value.int .u64)).toArray 32)) w3.heap.size .u64 32 (st.take 0 ++ List.replicate (8 - 0) 0) := Arr.new_at rfl rfl
  have hS4 := hS3.alloc (.cells ((List.replicate 8 0).map (Value.int .u64)).toArray 32)
  have hB4 := hB3.alloc (.cells ((List.replicate 8 0).map (Value.int .u64)).toArray 32)
  have hE4 := hb3'.alloc hb3'.size (.cells ((List.replicate 8 0).map (Value.int .u64)).toArray 32)
  have hs3' := Aside0.mk hs3
  clear hS2 hB2 hb2 hs2 hS3 hB3 hb3 hb3' hs1
  go_loopw [12] (fun i wr => ∃ k : Nat, k ≤ 8 ∧ i = .int .i64 k ∧ Arr wr w3.heap.size .u64 32 (st.take k ++ List.replicate (8 - k) 0) ∧ Arr wr w.heap.size .u32 29 st ∧ Arr wr (w.heap.size + 1) .u8 30 bs ∧ Below w.heap.size w wr)
    (fun i _ => 8 - (intOf i).toNat)
  case atStart => exact ⟨0, by omega, rfl, hU4, hS4, hB4, hE4⟩
  case round =>
    clear hU4 hS4 hB4 hE4
    obtain ⟨k, hk, rfl, hU, hS, hB, hE⟩ := hrel
    by_cases hlt : k < 8
    · obtain ⟨x, hx⟩ : ∃ x, st.getD k 0 = x := ⟨_, rfl⟩
      have hxw : W32 x := hx ▸ Hsw.out.at k
      have c0 : wr.cell? ⟨w.heap.size, k, none⟩ = some (.int .u32 x) := by rw [← hx]; exact hS.cell (by rw [Hsl.out]; exact hlt)
      have g0 := hU.free k
      have g1 := hU.cell (i := k) (by rw [List.length_append, List.length_take, List.length_replicate, Hsl.out]; omega)
      have mk : (k : Int) < 8 := by omega
      have d0 : decide ((k : Int) < 8) = true := decide_eq_true mk
      have e0 : IntKind.u64.wrap x = x := u64w x hxw.1 hxw.2
      have hn := take_set st k (by rw [Hsl.out]; exact hlt) 8 Hsl.out.symm
      rw [hx] at hn
      have HN := Aside0.mk hn
      have N1 := Aside0.mk (show w.heap.size ≠ w3.heap.size by have := hs3'.out; omega)
      have N2 := Aside0.mk (show w.heap.size + 1 ≠ w3.heap.size by have := hs3'.out; omega)
      have N3 := Aside0.mk (show w.heap.size ≤ w3.heap.size by have := hs3'.out; omega)
      clear hx hn hxw
      go_wp2
      go_roundw
      case rel =>
        refine ⟨k + 1, hlt, rfl, ?_, hS.other k _ N1.out, hB.other k _ N2.out, hE.setCell N3.out _⟩
        have h1 := hU.set k x
        rw [HN.out] at h1
        first | exact h1 | (rw [e0]; exact h1)
      case measure =>
        show 8 - (k + 1) < 8 - k
        exact Nat.sub_lt_sub_left hlt (Nat.lt_succ_self k)
    · obtain hk8 := Aside0.mk (show k = 8 by omega)
      have d0 : decide ((k : Int) < 8) = false := decide_eq_false (by omega)
      have hU8 : Arr wr w3.heap.size .u64 32 st := by
        have h1 := hU
        rw [hk8.out, List.take_of_length_le (by rw [Hsl.out]; omega), show 8 - 8 = 0 from rfl, List.replicate_zero, List.append_nil] at h1
        exact h1
      clear hk hlt hU hk8
      go_wp2
      refine wp_region_any (by kernel_rfl) ?_
      change wpAny _ _ _ _ _ _ _ (World.drew _)
      obtain ⟨w4, hw4⟩ : ∃ w4, wr.drew = w4 := ⟨_, rfl⟩
      have hU9 : Arr w4 w3.heap.size .u64 32 st := by rw [← hw4]; exact hU8
      have hS9 : Arr w4 w.heap.size .u32 29 st := by rw [← hw4]; exact hS
      have hB9 : Arr w4 (w.heap.size + 1) .u8 30 bs := by rw [← hw4]; exact hB
      have hE9 : Below w.heap.size w w4 := by rw [← hw4]; exact pw_below_drewN hE 1
      rw [hw4]
      clear hU8 hS hB hE hw4
      refine wpAny_take (i := 1) (oi := { dst := some 23, op := Go.Op.slice 30 (Go.Operand.tmp 3) none none none, type := 22, pos := "law.go:34", after := #[], guard := none }) (v := ?v1) rfl (by kernel_rfl) (by kernel_rfl) (by kernel_rfl) (fun _ _ _ h => h) (Or.inl ⟨by rfl, fun w => ?hy1⟩) ?rest1
      case hy1 => go_simp; (first | done | (with_reducible rfl))
      simp only [Act.put, List.setIfInBounds_toArray, List.set_cons_zero, List.set_cons_succ]
      refine wpAny_ready (rs := [0, 3]) (by kernel_rfl) (by simp) ?_
      refine AllReady.cons (o := { dst := some 22, op := Go.Op.load 32 (Go.Operand.tmp 5), type := 32, pos := "law.go:34", after := #[], guard := none }) rfl (fun K hK => ?_) (AllReady.cons (o := { dst := some 7, op := Go.Op.alloc 32, type := 0, pos := "law.go:34", after := #[], guard := none }) rfl (fun K hK => ?_) (AllReady.nil))
      rw [if_pos (by rfl)]
      refine wp_load_mid 32 (.tmp 5) rfl w3.heap.size 0 rfl (st.map (Value.int .u64)) _ (arr_range hU9) Tryd.underlying32 rfl (by rw [List.length_map, Hsl.out]; kernel_rfl) ?_
      refine hK _ _ ?_
      clear hK K
      try simp only [Act.put, List.setIfInBounds_toArray, List.set_cons_zero, List.set_cons_succ]
      refine wpAny_ready (rs := [2, 3]) (by kernel_rfl) (by simp) ?_
      refine AllReady.cons (o := { dst := some 24, op := Go.Op.call { callee := Go.Callee.value (Go.Operand.func 23), args := #[Go.Operand.tmp 22, Go.Operand.tmp 23], argTypes := #[32, 22] }, type := 32, pos := "law.go:34", after := #[{ on := 0, ground := Go.Ground.data }, { on := 1, ground := Go.Ground.data }], guard := none }) rfl (fun K hK => ?_) (AllReady.cons (o := { dst := some 7, op := Go.Op.alloc 32, type := 0, pos := "law.go:34", after := #[], guard := none }) rfl (fun K hK => ?_) (AllReady.nil))
      go_simp
      go_at_call 23
      refine (refTurn_any st bs Hsl.out Hbl.out Hsw.out Hbw.out (w.heap.size + 1) 0 64 _ hB9.lt (Nat.le_refl _) (fun i hi => by rw [Nat.zero_add]; exact hB9.cell (by rw [Hbl.out]; exact hi))).mono ?_
      rintro e w6 ⟨rfl, hb6⟩
      rw [Hys.out]
      refine hK _ _ ?_
      clear hK K
      try simp only [Act.put, List.setIfInBounds_toArray, List.set_cons_zero, List.set_cons_succ]
      have hS6 := hS9.below hb6 hS9.lt
      have hB6 := hB9.below hb6 hB9.lt
      have hE6 := hE9.trans (hb6.mono hE9.size)
      refine wpAny_ready (rs := [3]) (by kernel_rfl) (by simp) ?_
      refine AllReady.cons (o := { dst := some 7, op := Go.Op.alloc 32, type := 0, pos := "law.go:34", after := #[], guard := none }) rfl (fun K hK => ?_) (AllReady.nil)
      go_simp
      refine hK _ _ ?_
      clear hK K
      try simp only [Act.put, List.setIfInBounds_toArray, List.set_cons_zero, List.set_cons_succ]
      refine wpAny_ready (rs := [4]) (by kernel_rfl) (by simp) ?_
      refine AllReady.cons (o := { dst := none, op := Go.Op.store 32 (Go.Operand.tmp 7) (Go.Operand.tmp 24), type := 0, pos := "law.go:34", after := #[{ on := 3, ground := Go.Ground.data }, { on := 2, ground := Go.Ground.data }, { on := 2, ground := Go.Ground.chain }, { on := 0, ground := Go.Ground.phase }, { on := 1, ground := Go.Ground.phase }, { on := 2, ground := Go.Ground.phase }, { on := 3, ground := Go.Ground.phase }], guard := none }) rfl (fun K hK => ?_) (AllReady.nil)
      rw [if_pos (by rfl)]
      refine wp_store_arr 32 (.tmp 7) (.tmp 24) rfl w6.heap.size rfl rfl (Arr.new_at (k := .u64) (xs := List.replicate 8 0) rfl rfl) (by rw [Hyl.out]; rfl) (by rw [Hyl.out]; kernel_rfl) ?_
      intro w7 hg7 hs7 hF
      have hXl : w.heap.size + 1 < w6.heap.size := hB6.lt
      have hS7 : Arr w7 w.heap.size .u32 29 st := (hS6.alloc _).grown hg7 (by simp; omega)
      have hB7 : Arr w7 (w.heap.size + 1) .u8 30 bs := (hB6.alloc _).grown hg7 (by simp; omega)
      have hE7 : Below w.heap.size w w7 := (hE6.alloc hE6.size _).grown hg7 (by rw [World.size_alloc]; omega) (fun j e => by cases e; omega)
      obtain ⟨X, hX⟩ : ∃ X, w6.heap.size = X := ⟨_, rfl⟩
      rw [hX] at hF hXl
      rw [hX]
      refine hK _ _ ?_
      clear hK K
      try simp only [Act.put, List.setIfInBounds_toArray, List.set_cons_zero, List.set_cons_succ]
      clear hg7 hs7 hS6 hB6 hE6 hU9 hS9 hB9 hE9 hb6 hX
      rotate_left
      go_simp
      refine hK _ _ ?_
      clear hK K
      try simp only [Act.put, List.setIfInBounds_toArray, List.set_cons_zero, List.set_cons_succ]
      change wpAny _ _ _ _ _ _ _ (w4.alloc (.cells ((List.replicate 8 0).map (Value.int .u64)).toArray 32))
      have hV5 : Arr (w4.alloc (.cells ((List.replicate 8 0).map (Value.int .u64)).toArray 32)) w4.heap.size .u64 32 (List.replicate 8 0) := Arr.new_at rfl rfl
      have hU5 := hU9.alloc (.cells ((List.replicate 8 0).map (Value.int .u64)).toArray 32)
      have hS5 := hS9.alloc (.cells ((List.replicate 8 0).map (Value.int .u64)).toArray 32)
      have hB5 := hB9.alloc (.cells ((List.replicate 8 0).map (Value.int .u64)).toArray 32)
      have hE5 := hE9.alloc hE9.size (.cells ((List.replicate 8 0).map (Value.int .u64)).toArray 32)
      have hlt5 : w4.heap.size < (w4.alloc (.cells ((List.replicate 8 0).map (Value.int .u64)).toArray 32)).heap.size := hV5.lt
      obtain ⟨w5, hw5⟩ : ∃ w5, w4.alloc (.cells ((List.replicate 8 0).map (Value.int .u64)).toArray 32) = w5 := ⟨_, rfl⟩
      rw [hw5] at hV5 hU5 hS5 hB5 hE5 hlt5
      rw [hw5]
      clear hw5
      refine wpAny_ready (rs := [2]) (by kernel_rfl) (by simp) ?_
      refine AllReady.cons (o := { dst := some 24, op := Go.Op.call { callee := Go.Callee.value (Go.Operand.func 23), args := #[Go.Operand.tmp 22, Go.Operand.tmp 23], argTypes := #[32, 22] }, type := 32, pos := "law.go:34", after := #[{ on := 0, ground := Go.Ground.data }, { on := 1, ground := Go.Ground.data }], guard := none }) rfl (fun K hK => ?_) (AllReady.nil)
      go_simp
      go_at_call 23
      refine (refTurn_any st bs Hsl.out Hbl.out Hsw.out Hbw.out (w.heap.size + 1) 0 64 _ hB5.lt (Nat.le_refl _) (fun i hi => by rw [Nat.zero_add]; exact hB5.cell (by rw [Hbl.out]; exact hi))).mono ?_
      rintro e w6 ⟨rfl, hb6⟩
      rw [Hys.out]
      refine hK _ _ ?_
      clear hK K
      try simp only [Act.put, List.setIfInBounds_toArray, List.set_cons_zero, List.set_cons_succ]
      have hS6 := hS5.below hb6 hS5.lt
      have hB6 := hB5.below hb6 hB5.lt
      have hE6 := hE5.trans (hb6.mono hE5.size)
      have hV6 := hV5.below hb6 hlt5
      refine wpAny_ready (rs := [4]) (by kernel_rfl) (by simp) ?_
      refine AllReady.cons (o := { dst := none, op := Go.Op.store 32 (Go.Operand.tmp 7) (Go.Operand.tmp 24), type := 0, pos := "law.go:34", after := #[{ on := 3, ground := Go.Ground.data }, { on := 2, ground := Go.Ground.data }, { on := 2, ground := Go.Ground.chain }, { on := 0, ground := Go.Ground.phase }, { on := 1, ground := Go.Ground.phase }, { on := 2, ground := Go.Ground.phase }, { on := 3, ground := Go.Ground.phase }], guard := none }) rfl (fun K hK => ?_) (AllReady.nil)
      rw [if_pos (by rfl)]
      refine wp_store_arr 32 (.tmp 7) (.tmp 24) rfl w4.heap.size rfl rfl hV6 (by rw [Hyl.out]; rfl) (by rw [Hyl.out]; kernel_rfl) ?_
      intro w7 hg7 hs7 hF
      have hXl : w.heap.size + 1 < w4.heap.size := hB9.lt
      have hS7 : Arr w7 w.heap.size .u32 29 st := hS6.grown hg7 (by simp; omega)
      have hB7 : Arr w7 (w.heap.size + 1) .u8 30 bs := hB6.grown hg7 (by simp; omega)
      have hE7 : Below w.heap.size w w7 := hE6.grown hg7 (Nat.le_trans hE5.size hb6.size) (fun j e => by cases e; omega)
      obtain ⟨X, hX⟩ : ∃ X, w4.heap.size = X := ⟨_, rfl⟩
      rw [hX] at hF hXl
      rw [hX]
      refine hK _ _ ?_
      clear hK K
      try simp only [Act.put, List.setIfInBounds_toArray, List.set_cons_zero, List.set_cons_succ]
      clear hg7 hs7 hS6 hB6 hE6 hU9 hS9 hB9 hE9 hb6 hX hV6 hV5 hU5 hS5 hB5 hE5 hlt5
      rotate_left
      go_simp
      refine hK _ _ ?_
      clear hK K
      try simp only [Act.put, List.setIfInBounds_toArray, List.set_cons_zero, List.set_cons_succ]
      change wpAny _ _ _ _ _ _ _ (w4.alloc (.cells ((List.replicate 8 0).map (Value.int .u64)).toArray 32))
      have hV5 : Arr (w4.alloc (.cells ((List.replicate 8 0).map (Value.int .u64)).toArray 32)) w4.heap.size .u64 32 (List.replicate 8 0) := Arr.new_at rfl rfl
      have hU5 := hU9.alloc (.cells ((List.replicate 8 0).map (Value.int .u64)).toArray 32)
      have hS5 := hS9.alloc (.cells ((List.replicate 8 0).map (Value.int .u64)).toArray 32)
      have hB5 := hB9.alloc (.cells ((List.replicate 8 0).map (Value.int .u64)).toArray 32)
      have hE5 := hE9.alloc hE9.size (.cells ((List.replicate 8 0).map (Value.int .u64)).toArray 32)
      have hlt5 : w4.heap.size < (w4.alloc (.cells ((List.replicate 8 0).map (Value.int .u64)).toArray 32)).heap.size := hV5.lt
      obtain ⟨w5, hw5⟩ : ∃ w5, w4.alloc (.cells ((List.replicate 8 0).map (Value.int .u64)).toArray 32) = w5 := ⟨_, rfl⟩
      rw [hw5] at hV5 hU5 hS5 hB5 hE5 hlt5
      rw [hw5]
      clear hw5
      refine wpAny_ready (rs := [0]) (by kernel_rfl) (by simp) ?_
      refine AllReady.cons (o := { dst := some 22, op := Go.Op.load 32 (Go.Operand.tmp 5), type := 32, pos := "law.go:34", after := #[], guard := none }) rfl (fun K hK => ?_) (AllReady.nil)
      rw [if_pos (by rfl)]
      refine wp_load_mid 32 (.tmp 5) rfl w3.heap.size 0 rfl (st.map (Value.int .u64)) _ (arr_range hU5) Tryd.underlying32 rfl (by rw [List.length_map, Hsl.out]; kernel_rfl) ?_
      refine hK _ _ ?_
      clear hK K
      try simp only [Act.put, List.setIfInBounds_toArray, List.set_cons_zero, List.set_cons_succ]
      refine wpAny_ready (rs := [2]) (by kernel_rfl) (by simp) ?_
      refine AllReady.cons (o := { dst := some 24, op := Go.Op.call { callee := Go.Callee.value (Go.Operand.func 23), args := #[Go.Operand.tmp 22, Go.Operand.tmp 23], argTypes := #[32, 22] }, type := 32, pos := "law.go:34", after := #[{ on := 0, ground := Go.Ground.data }, { on := 1, ground := Go.Ground.data }], guard := none }) rfl (fun K hK => ?_) (AllReady.nil)
      go_simp
      go_at_call 23
      refine (refTurn_any st bs Hsl.out Hbl.out Hsw.out Hbw.out (w.heap.size + 1) 0 64 _ hB5.lt (Nat.le_refl _) (fun i hi => by rw [Nat.zero_add]; exact hB5.cell (by rw [Hbl.out]; exact hi))).mono ?_
      rintro e w6 ⟨rfl, hb6⟩
      rw [Hys.out]
      refine hK _ _ ?_
      clear hK K
      try simp only [Act.put, List.setIfInBounds_toArray, List.set_cons_zero, List.set_cons_succ]
      have hS6 := hS5.below hb6 hS5.lt
      have hB6 := hB5.below hb6 hB5.lt
      have hE6 := hE5.trans (hb6.mono hE5.size)
      have hV6 := hV5.below hb6 hlt5
      refine wpAny_ready (rs := [4]) (by kernel_rfl) (by simp) ?_
      refine AllReady.cons (o := { dst := none, op := Go.Op.store 32 (Go.Operand.tmp 7) (Go.Operand.tmp 24), type := 0, pos := "law.go:34", after := #[{ on := 3, ground := Go.Ground.data }, { on := 2, ground := Go.Ground.data }, { on := 2, ground := Go.Ground.chain }, { on := 0, ground := Go.Ground.phase }, { on := 1, ground := Go.Ground.phase }, { on := 2, ground := Go.Ground.phase }, { on := 3, ground := Go.Ground.phase }], guard := none }) rfl (fun K hK => ?_) (AllReady.nil)
      rw [if_pos (by rfl)]
      refine wp_store_arr 32 (.tmp 7) (.tmp 24) rfl w4.heap.size rfl rfl hV6 (by rw [Hyl.out]; rfl) (by rw [Hyl.out]; kernel_rfl) ?_
      intro w7 hg7 hs7 hF
      have hXl : w.heap.size + 1 < w4.heap.size := hB9.lt
      have hS7 : Arr w7 w.heap.size .u32 29 st := hS6.grown hg7 (by simp; omega)
      have hB7 : Arr w7 (w.heap.size + 1) .u8 30 bs := hB6.grown hg7 (by simp; omega)
      have hE7 : Below w.heap.size w w7 := hE6.grown hg7 (Nat.le_trans hE5.size hb6.size) (fun j e => by cases e; omega)
      obtain ⟨X, hX⟩ : ∃ X, w4.heap.size = X := ⟨_, rfl⟩
      rw [hX] at hF hXl
      rw [hX]
      refine hK _ _ ?_
      clear hK K
      try simp only [Act.put, List.setIfInBounds_toArray, List.set_cons_zero, List.set_cons_succ]
      clear hg7 hs7 hS6 hB6 hE6 hU9 hS9 hB9 hE9 hb6 hX hV6 hV5 hU5 hS5 hB5 hE5 hlt5
      all_goals
        refine wpAny_done (by kernel_rfl) ?_ _
        go_wp2_with (first
          | (refine load_arr rfl 29 2 rfl w.heap.size rfl hS7 Tryd.underlying29 (by rw [Hsl.out]; kernel_rfl) ?_)
          | (refine load_arr rfl 30 3 rfl (w.heap.size + 1) rfl hB7 Tryd.underlying30 (by rw [Hbl.out]; kernel_rfl) ?_)
          | (go_at_call 24; refine (Turn_any st bs Hsl.out Hbl.out _ (HR.out.below hE7 hpos)).mono ?_; rintro e w8 ⟨rfl, hb8⟩; rw [Hys.out]; have hF8 := hF.below hb8 hF.lt; have hE8 := hE7.trans (hb8.mono hE7.size))
          | (refine store_arr rfl 29 8 27 rfl rfl w8.heap.size rfl rfl (Arr.new_at (k := .u32) (xs := List.replicate 8 0) rfl rfl) (by rw [Hyl.out]; rfl) (by rw [Hyl.out]; kernel_rfl) ?_; intro w9 hg9 hs9 hO9; have hF9 := (hF8.alloc _).grown hg9 (by have := hF8.lt; simp; omega); have hE9 := (hE8.alloc hE8.size _).grown hg9 (by rw [World.size_alloc]; have := hE8.size; omega) (fun j e => by cases e; exact hE8.size)))
        clear hS7 hB7 hE7 hF hb8 hF8 hE8 hg9 hs9
        go_loopw [28] (fun i wr => ∃ k : Nat, k ≤ 8 ∧ i = .int .i64 k ∧ Arr wr w8.heap.size .u32 29 ys ∧ Arr wr X .u64 32 ys ∧ Below w.heap.size w wr)
          (fun i _ => 8 - (intOf i).toNat)
        case atStart => exact ⟨0, by omega, rfl, hO9, hF9, hE9⟩
        case round =>
          clear hO9 hF9 hE9
          obtain ⟨k, hk, rfl, hO, hF, hE⟩ := hrel
          by_cases hlt : k < 8
          · obtain ⟨x, hx⟩ : ∃ x, ys.getD k 0 = x := ⟨_, rfl⟩
            have hxw : W32 x := hx ▸ Hyw.out.at k
            have c0 : wr.cell? ⟨w8.heap.size, k, none⟩ = some (.int .u32 x) := by rw [← hx]; exact hO.cell (by rw [Hyl.out]; exact hlt)
            have c1 : wr.cell? ⟨X, k, none⟩ = some (.int .u64 x) := by rw [← hx]; exact hF.cell (by rw [Hyl.out]; exact hlt)
            have mk : (k : Int) < 8 := by omega
            have d0 : decide ((k : Int) < 8) = true := decide_eq_true mk
            have e0 : IntKind.u64.wrap x = x := u64w x hxw.1 hxw.2
            clear hx hxw
            go_wp2
            refine wp_region_still_lit (by kernel_rfl) (by kernel_rfl) ?_
            repeat still_step
            refine wpStill_nil ?_
            change Exit.then _ _ _ _ wr.drew
            obtain ⟨w10, hw10⟩ : ∃ w10, wr.drew = w10 := ⟨_, rfl⟩
            have hO10 : Arr w10 w8.heap.size .u32 29 ys := by rw [← hw10]; exact hO
            have hF10 : Arr w10 X .u64 32 ys := by rw [← hw10]; exact hF
            have hE10 : Below w.heap.size w w10 := by rw [← hw10]; exact pw_below_drewN hE 1
            rw [hw10]
            clear hO hF hE c0 c1 hw10
            go_wp2
            go_roundw
            case rel => exact ⟨k + 1, hlt, rfl, hO10, hF10, hE10⟩
            case measure =>
              show 8 - (k + 1) < 8 - k
              exact Nat.sub_lt_sub_left hlt (Nat.lt_succ_self k)
          · have d0 : decide ((k : Int) < 8) = false := decide_eq_false (by omega)
            go_wp2
            go_ret
            exact ⟨rfl, hE⟩
end Go.Proofs.YtalghfnjelcpnaaDoor
