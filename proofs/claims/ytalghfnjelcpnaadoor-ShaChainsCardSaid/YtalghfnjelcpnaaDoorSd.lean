/- ShaTurns: what the call returns, for every eight words and block. Condition: the table 'rounds' holds what the program's text lays. The document's padding, and the digest by whole blocks: plain laws. No conditions. The document's Start, and a digest's bytes one by one. No conditions. The document's Sum: what the call returns, for less than 2^30 bytes; of what was there nothing has turned. No conditions. ShaSums: what the call returns, for every bytes. Condition: the table 'rounds' holds what the program's text lays. -/
import Derived.Test.YtalghfnjelcpnaaDoorShaV
import Derived.ChangeKeysEq
import Derived.Laws.StructEq
namespace Go.Proofs.YtalghfnjelcpnaaDoor
set_option linter.unusedVariables false
set_option linter.unusedSimpArgs false
open Go.RowKit Go.Proofs.YtalghfnjelcpnaaDoorW.PrintWords Go.Proofs.YtalghfnjelcpnaaDoor.Db

theorem tr_w (st bs : List Int) (hs : W32s st) (hl : st.length = 8) : W32s (tr st bs) := by
  have h : ∀ (s : List Int) (k : Nat), W32s s → W32s (sm st s k) := by
    intro s k hs'
    induction k with
    | zero => exact hs'
    | succ k ih => exact ih.set k (w32_mod _)
  unfold tr
  exact h _ 8 (rn_w _ _ hs 64)
theorem take_set (xs : List Int) (k : Nat) (hk : k < xs.length) (m : Nat) (hm : m = xs.length) : (xs.take k ++ List.replicate (m - k) 0).set k (xs.getD k 0) = xs.take (k + 1) ++ List.replicate (m - (k + 1)) 0 := by
  have e : m - k = (m - (k + 1)) + 1 := by omega
  rw [e, List.replicate_succ, List.set_append_right _ _ (by rw [List.length_take]; omega), List.take_succ_eq_append_getElem hk]
  have e2 : k - (xs.take k).length = 0 := by rw [List.length_take]; omega
  rw [e2, List.set_cons_zero, List.append_assoc]
  simp [List.getD_eq_getElem?_getD, List.getElem?_eq_getElem hk]
theorem arr_range {w : World} {g : Nat} {k : IntKind} {T : TypeId} {xs : List Int} (h : Arr w g k T xs) : w.rangeAt g 0 (xs.map (Value.int k)) := fun j v hv => by
  have hj : j < xs.length := by have := (List.getElem?_eq_some_iff.1 hv).1; simpa using this
  rw [Nat.zero_add, h.cell hj, ← hv, List.getElem?_map, List.getElem?_eq_getElem hj]
  simp [List.getD_eq_getElem?_getD, List.getElem?_eq_getElem hj]
theorem wp_store_arr {P : Program} {o : Oper} {a : Act} {Q : Exit → Act → World → Prop} {K' : Act → World → Prop} {w : World} {k : IntKind} {T : TypeId} {xs ys : List Int} (ty : TypeId) (x v : Operand) (ho : o.op = .store ty x v) (g : Nat) (hx : a.eval x = .pointer (some ⟨g, 0, none⟩)) (hv : a.eval v = AV k xs) (h : Arr w g k T ys) (hl : ys.length = xs.length)
    (hi : (P.info? ty).map (·.size) = some xs.length) (K : ∀ w', w.grownBy w' (some g) → w'.heap.size = w.heap.size → Arr w' g k T xs → K' (a.put o.dst undef) w') : o.wp P a w K' Q := by
  refine wp_store_row ty x v ho g _ hx hv T _ h (by rw [hi]; simp) (by simp [hl]) (all_oneCell_toArray (one_cells _)) ?_
  exact K _ (setRow_grown w g _) (setRow_size w g _) (setRow_heap w g _ _ T (0, 0) h)
set_option maxHeartbeats 4000000 in
set_option maxRecDepth 100000 in
theorem turns_any (st bs : List Int) (hsl : st.length = 8) (hbl : bs.length = 64) (hsw : W32s st) (hbw : B8s bs) (w : World) (hR : Rounds w) :
    Calls Tryd.prog 4 #[AV .u32 st, AV .u8 bs] w fun e w' => e = .returned (.bool true) ∧ Below w.heap.size w w' := by
  obtain ⟨ys, hys⟩ : ∃ ys, tr st bs = ys := ⟨_, rfl⟩
  have hyl : ys.length = 8 := by rw [← hys]; exact tr_len st bs hsl
  have hyw : W32s ys := by rw [← hys]; exact tr_w st bs hsw hsl
  have HR := Aside0.mk hR
  have Hys := Aside0.mk hys
  have Hyl := Aside0.mk hyl
  have Hyw := Aside0.mk hyw
  have Hsl := Aside0.mk hsl
  have Hbl := Aside0.mk hbl
  have Hsw := Aside0.mk hsw
  have Hbw := Aside0.mk hbw
  have hpos := hR.pos
  clear hys hyl hyw hsl hbl hsw hbw hR
  go_enter Tryd.func4, Tryd.ntmps4
  go_wp2_with (first
    | (refine box_arr rfl 29 0 rfl rfl ?_; intro w1 hg1 hs1 hS1; have hb1 : Below w.heap.size w w1 := (Below.refl _ w).grown hg1 (Nat.le_refl _) (by intro k e; cases e))
    | (refine box_arr rfl 30 1 rfl rfl ?_; intro w2 hg2 hs2 hB2; rw [hs1] at hB2 hs2; have hb2 := hb1.grown hg2 (by omega) (by intro k e; cases e); have hS2 := hS1.grown hg2 (by simp); clear hS1 hg2 hg1 hb1)
    | (go_at_call 20; refine (wakes3_any _ (HR.out.below hb2 hpos)).mono ?_; rintro e w3 ⟨rfl, hb3⟩; have hS3 := hS2.below hb3 hS2.lt; have hB3 := hB2.below hb3 hB2.lt; have hb3' := hb2.trans (hb3.mono hb2.size); have hs3 := hb3.size; rw [hs2] at hs3))
  have hU4 : Arr (w3.alloc (.cells ((List.replicate 8 0).map (Value.int .u64)).toArray 32)) w3.heap.size .u64 32 (st.take 0 ++ List.replicate (8 - 0) 0) := Arr.new_at rfl rfl
  have hS4 := hS3.alloc (.cells ((List.replicate 8 0).map (Value.int .u64)).toArray 32)
  have hB4 := hB3.alloc (.cells ((List.replicate 8 0).map (Value.int .u64)).toArray 32)
  have hE4 := hb3'.alloc hb3'.size (.cells ((List.replicate 8 0).map (Value.int .u64)).toArray 32)
  have hs3' := Aside0.mk hs3
  clear hS2 hB2 hb2 hs2 hS3 hB3 hb3 hb3' hs1
  go_loopw [12] (fun i wr => ∃ k : Nat, k ≤ 8 ∧ i = .int .i64 k ∧ Arr wr w3.heap.size .u64 32 (st.take k ++ List.replicate (8 - k) 0) ∧ Arr wr w.heap.size .u32 29 st ∧ Arr wr (w.heap.size + 1) .u8 30 bs ∧ Below w.heap.size w wr)
    (fun i _ => 8 - (intOf i).toNat)
  case atStart => exact ⟨0, by omega, rfl, hU4, hS4, hB4, hE4⟩
  case round =>
    clear hU4 hS4 hB4 hE4
    obtain ⟨k, hk, rfl, hU, hS, hB, hE⟩ := hrel
    by_cases hlt : k < 8
    · obtain ⟨x, hx⟩ : ∃ x, st.getD k 0 = x := ⟨_, rfl⟩
      have hxw : W32 x := hx ▸ Hsw.out.at k
      have c0 : wr.cell? ⟨w.heap.size, k, none⟩ = some (.int .u32 x) := by rw [← hx]; exact hS.cell (by rw [Hsl.out]; exact hlt)
      have g0 := hU.free k
      have g1 := hU.cell (i := k) (by rw [List.length_append, List.length_take, List.length_replicate, Hsl.out]; omega)
      have mk : (k : Int) < 8 := by omega
      have d0 : decide ((k : Int) < 8) = true := decide_eq_true mk
      have e0 : IntKind.u64.wrap x = x := u64w x hxw.1 hxw.2
      have hn := take_set st k (by rw [Hsl.out]; exact hlt) 8 Hsl.out.symm
      rw [hx] at hn
      have HN := Aside0.mk hn
      have N1 := Aside0.mk (show w.heap.size ≠ w3.heap.size by have := hs3'.out; omega)
      have N2 := Aside0.mk (show w.heap.size + 1 ≠ w3.heap.size by have := hs3'.out; omega)
      have N3 := Aside0.mk (show w.heap.size ≤ w3.heap.size by have := hs3'.out; omega)
      clear hx hn hxw
      go_wp2
      go_roundw
      case rel =>
        refine ⟨k + 1, hlt, rfl, ?_, hS.other k _ N1.out, hB.other k _ N2.out, hE.setCell N3.out _⟩
        have h1 := hU.set k x
        rw [HN.out] at h1
        first | exact h1 | (rw [e0]; exact h1)
      case measure =>
        show 8 - (k + 1) < 8 - k
        exact Nat.sub_lt_sub_left hlt (Nat.lt_succ_self k)
    · obtain hk8 := Aside0.mk (show k = 8 by omega)
      have d0 : decide ((k : Int) < 8) = false := decide_eq_false (by omega)
      have hU8 : Arr wr w3.heap.size .u64 32 st := by
        have h1 := hU
        rw [hk8.out, List.take_of_length_le (by rw [Hsl.out]; omega), show 8 - 8 = 0 from rfl, List.replicate_zero, List.append_nil] at h1
        exact h1
      clear hk hlt hU hk8
      go_wp2
      refine wp_region_any (by kernel_rfl) ?_
      change wpAny _ _ _ _ _ _ _ (World.drew _)
      obtain ⟨w4, hw4⟩ : ∃ w4, wr.drew = w4 := ⟨_, rfl⟩
      have hU9 : Arr w4 w3.heap.size .u64 32 st := by rw [← hw4]; exact hU8
      have hS9 : Arr w4 w.heap.size .u32 29 st := by rw [← hw4]; exact hS
      have hB9 : Arr w4 (w.heap.size + 1) .u8 30 bs := by rw [← hw4]; exact hB
      have hE9 : Below w.heap.size w w4 := by rw [← hw4]; exact pw_below_drewN hE 1
      rw [hw4]
      clear hU8 hS hB hE hw4
      refine wpAny_take (i := 1) (oi := { dst := some 23, op := Go.Op.slice 30 (Go.Operand.tmp 3) none none none, type := 22, pos := "law.go:34", after := #[], guard := none }) (v := ?v1) rfl (by kernel_rfl) (by kernel_rfl) (by kernel_rfl) (fun _ _ _ h => h) (Or.inl ⟨by rfl, fun w => ?hy1⟩) ?rest1
      case hy1 => go_simp; (first | done | (with_reducible rfl))
      simp only [Act.put, List.setIfInBounds_toArray, List.set_cons_zero, List.set_cons_succ]
      refine wpAny_ready (rs := [0, 3]) (by kernel_rfl) (by simp) ?_
      refine AllReady.cons (o := { dst := some 22, op := Go.Op.load 32 (Go.Operand.tmp 5), type := 32, pos := "law.go:34", after := #[], guard := none }) rfl (fun K hK => ?_) (AllReady.cons (o := { dst := some 7, op := Go.Op.alloc 32, type := 0, pos := "law.go:34", after := #[], guard := none }) rfl (fun K hK => ?_) (AllReady.nil))
      rw [if_pos (by rfl)]
      refine wp_load_mid 32 (.tmp 5) rfl w3.heap.size 0 rfl (st.map (Value.int .u64)) _ (arr_range hU9) Tryd.underlying32 rfl (by rw [List.length_map, Hsl.out]; kernel_rfl) ?_
      refine hK _ _ ?_
      clear hK K
      try simp only [Act.put, List.setIfInBounds_toArray, List.set_cons_zero, List.set_cons_succ]
      refine wpAny_ready (rs := [2, 3]) (by kernel_rfl) (by simp) ?_
      refine AllReady.cons (o := { dst := some 24, op := Go.Op.call { callee := Go.Callee.value (Go.Operand.func 23), args := #[Go.Operand.tmp 22, Go.Operand.tmp 23], argTypes := #[32, 22] }, type := 32, pos := "law.go:34", after := #[{ on := 0, ground := Go.Ground.data }, { on := 1, ground := Go.Ground.data }], guard := none }) rfl (fun K hK => ?_) (AllReady.cons (o := { dst := some 7, op := Go.Op.alloc 32, type := 0, pos := "law.go:34", after := #[], guard := none }) rfl (fun K hK => ?_) (AllReady.nil))
      go_simp
      go_at_call 23
      refine (refTurn_any st bs Hsl.out Hbl.out Hsw.out Hbw.out (w.heap.size + 1) 0 64 _ hB9.lt (Nat.le_refl _) (fun i hi => by rw [Nat.zero_add]; exact hB9.cell (by rw [Hbl.out]; exact hi))).mono ?_
      rintro e w6 ⟨rfl, hb6⟩
      rw [Hys.out]
      refine hK _ _ ?_
      clear hK K
      try simp only [Act.put, List.setIfInBounds_toArray, List.set_cons_zero, List.set_cons_succ]
      have hS6 := hS9.below hb6 hS9.lt
      have hB6 := hB9.below hb6 hB9.lt
      have hE6 := hE9.trans (hb6.mono hE9.size)
      refine wpAny_ready (rs := [3]) (by kernel_rfl) (by simp) ?_
      refine AllReady.cons (o := { dst := some 7, op := Go.Op.alloc 32, type := 0, pos := "law.go:34", after := #[], guard := none }) rfl (fun K hK => ?_) (AllReady.nil)
      go_simp
      refine hK _ _ ?_
      clear hK K
      try simp only [Act.put, List.setIfInBounds_toArray, List.set_cons_zero, List.set_cons_succ]
      refine wpAny_ready (rs := [4]) (by kernel_rfl) (by simp) ?_
      refine AllReady.cons (o := { dst := none, op := Go.Op.store 32 (Go.Operand.tmp 7) (Go.Operand.tmp 24), type := 0, pos := "law.go:34", after := #[{ on := 3, ground := Go.Ground.data }, { on := 2, ground := Go.Ground.data }, { on := 2, ground := Go.Ground.chain }, { on := 0, ground := Go.Ground.phase }, { on := 1, ground := Go.Ground.phase }, { on := 2, ground := Go.Ground.phase }, { on := 3, ground := Go.Ground.phase }], guard := none }) rfl (fun K hK => ?_) (AllReady.nil)
      rw [if_pos (by rfl)]
      refine wp_store_arr 32 (.tmp 7) (.tmp 24) rfl w6.heap.size rfl rfl (Arr.new_at (k := .u64) (xs := List.replicate 8 0) rfl rfl) (by rw [Hyl.out]; rfl) (by rw [Hyl.out]; kernel_rfl) ?_
      intro w7 hg7 hs7 hF
      have hXl : w.heap.size + 1 < w6.heap.size := hB6.lt
      have hS7 : Arr w7 w.heap.size .u32 29 st := (hS6.alloc _).grown hg7 (by simp; omega)
      have hB7 : Arr w7 (w.heap.size + 1) .u8 30 bs := (hB6.alloc _).grown hg7 (by simp; omega)
      have hE7 : Below w.heap.size w w7 := (hE6.alloc hE6.size _).grown hg7 (by rw [World.size_alloc]; omega) (fun j e => by cases e; omega)
      obtain ⟨X, hX⟩ : ∃ X, w6.heap.size = X := ⟨_, rfl⟩
      rw [hX] at hF hXl
      rw [hX]
      refine hK _ _ ?_
      clear hK K
      try simp only [Act.put, List.setIfInBounds_toArray, List.set_cons_zero, List.set_cons_succ]
      clear hg7 hs7 hS6 hB6 hE6 hU9 hS9 hB9 hE9 hb6 hX
      rotate_left
      go_simp
      refine hK _ _ ?_
      clear hK K
      try simp only [Act.put, List.setIfInBounds_toArray, List.set_cons_zero, List.set_cons_succ]
      change wpAny _ _ _ _ _ _ _ (w4.alloc (.cells ((List.replicate 8 0).map (Value.int .u64)).toArray 32))
      have hV5 : Arr (w4.alloc (.cells ((List.replicate 8 0).map (Value.int .u64)).toArray 32)) w4.heap.size .u64 32 (List.replicate 8 0) := Arr.new_at rfl rfl
      have hU5 := hU9.alloc (.cells ((List.replicate 8 0).map (Value.int .u64)).toArray 32)
      have hS5 := hS9.alloc (.cells ((List.replicate 8 0).map (Value.int .u64)).toArray 32)
      have hB5 := hB9.alloc (.cells ((List.replicate 8 0).map (Value.int .u64)).toArray 32)
      have hE5 := hE9.alloc hE9.size (.cells ((List.replicate 8 0).map (Value.int .u64)).toArray 32)
      have hlt5 : w4.heap.size < (w4.alloc (.cells ((List.replicate 8 0).map (Value.int .u64)).toArray 32)).heap.size := hV5.lt
      obtain ⟨w5, hw5⟩ : ∃ w5, w4.alloc (.cells ((List.replicate 8 0).map (Value.int .u64)).toArray 32) = w5 := ⟨_, rfl⟩
      rw [hw5] at hV5 hU5 hS5 hB5 hE5 hlt5
      rw [hw5]
      clear hw5
      refine wpAny_ready (rs := [2]) (by kernel_rfl) (by simp) ?_
      refine AllReady.cons (o := { dst := some 24, op := Go.Op.call { callee := Go.Callee.value (Go.Operand.func 23), args := #[Go.Operand.tmp 22, Go.Operand.tmp 23], argTypes := #[32, 22] }, type := 32, pos := "law.go:34", after := #[{ on := 0, ground := Go.Ground.data }, { on := 1, ground := Go.Ground.data }], guard := none }) rfl (fun K hK => ?_) (AllReady.nil)
      go_simp
      go_at_call 23
      refine (refTurn_any st bs Hsl.out Hbl.out Hsw.out Hbw.out (w.heap.size + 1) 0 64 _ hB5.lt (Nat.le_refl _) (fun i hi => by rw [Nat.zero_add]; exact hB5.cell (by rw [Hbl.out]; exact hi))).mono ?_
      rintro e w6 ⟨rfl, hb6⟩
      rw [Hys.out]
      refine hK _ _ ?_
      clear hK K
      try simp only [Act.put, List.setIfInBounds_toArray, List.set_cons_zero, List.set_cons_succ]
      have hS6 := hS5.below hb6 hS5.lt
      have hB6 := hB5.below hb6 hB5.lt
      have hE6 := hE5.trans (hb6.mono hE5.size)
      have hV6 := hV5.below hb6 hlt5
      refine wpAny_ready (rs := [4]) (by kernel_rfl) (by simp) ?_
      refine AllReady.cons (o := { dst := none, op := Go.Op.store 32 (Go.Operand.tmp 7) (Go.Operand.tmp 24), type := 0, pos := "law.go:34", after := #[{ on := 3, ground := Go.Ground.data }, { on := 2, ground := Go.Ground.data }, { on := 2, ground := Go.Ground.chain }, { on := 0, ground := Go.Ground.phase }, { on := 1, ground := Go.Ground.phase }, { on := 2, ground := Go.Ground.phase }, { on := 3, ground := Go.Ground.phase }], guard := none }) rfl (fun K hK => ?_) (AllReady.nil)
      rw [if_pos (by rfl)]
      refine wp_store_arr 32 (.tmp 7) (.tmp 24) rfl w4.heap.size rfl rfl hV6 (by rw [Hyl.out]; rfl) (by rw [Hyl.out]; kernel_rfl) ?_
      intro w7 hg7 hs7 hF
      have hXl : w.heap.size + 1 < w4.heap.size := hB9.lt
      have hS7 : Arr w7 w.heap.size .u32 29 st := hS6.grown hg7 (by simp; omega)
      have hB7 : Arr w7 (w.heap.size + 1) .u8 30 bs := hB6.grown hg7 (by simp; omega)
      have hE7 : Below w.heap.size w w7 := hE6.grown hg7 (Nat.le_trans hE5.size hb6.size) (fun j e => by cases e; omega)
      obtain ⟨X, hX⟩ : ∃ X, w4.heap.size = X := ⟨_, rfl⟩
      rw [hX] at hF hXl
      rw [hX]
      refine hK _ _ ?_
      clear hK K
      try simp only [Act.put, List.setIfInBounds_toArray, List.set_cons_zero, List.set_cons_succ]
      clear hg7 hs7 hS6 hB6 hE6 hU9 hS9 hB9 hE9 hb6 hX hV6 hV5 hU5 hS5 hB5 hE5 hlt5
      rotate_left
      go_simp
      refine hK _ _ ?_
      clear hK K
      try simp only [Act.put, List.setIfInBounds_toArray, List.set_cons_zero, List.set_cons_succ]
      change wpAny _ _ _ _ _ _ _ (w4.alloc (.cells ((List.replicate 8 0).map (Value.int .u64)).toArray 32))
      have hV5 : Arr (w4.alloc (.cells ((List.replicate 8 0).map (Value.int .u64)).toArray 32)) w4.heap.size .u64 32 (List.replicate 8 0) := Arr.new_at rfl rfl
      have hU5 := hU9.alloc (.cells ((List.replicate 8 0).map (Value.int .u64)).toArray 32)
      have hS5 := hS9.alloc (.cells ((List.replicate 8 0).map (Value.int .u64)).toArray 32)
      have hB5 := hB9.alloc (.cells ((List.replicate 8 0).map (Value.int .u64)).toArray 32)
      have hE5 := hE9.alloc hE9.size (.cells ((List.replicate 8 0).map (Value.int .u64)).toArray 32)
      have hlt5 : w4.heap.size < (w4.alloc (.cells ((List.replicate 8 0).map (Value.int .u64)).toArray 32)).heap.size := hV5.lt
      obtain ⟨w5, hw5⟩ : ∃ w5, w4.alloc (.cells ((List.replicate 8 0).map (Value.int .u64)).toArray 32) = w5 := ⟨_, rfl⟩
      rw [hw5] at hV5 hU5 hS5 hB5 hE5 hlt5
      rw [hw5]
      clear hw5
      refine wpAny_ready (rs := [0]) (by kernel_rfl) (by simp) ?_
      refine AllReady.cons (o := { dst := some 22, op := Go.Op.load 32 (Go.Operand.tmp 5), type := 32, pos := "law.go:34", after := #[], guard := none }) rfl (fun K hK => ?_) (AllReady.nil)
      rw [if_pos (by rfl)]
      refine wp_load_mid 32 (.tmp 5) rfl w3.heap.size 0 rfl (st.map (Value.int .u64)) _ (arr_range hU5) Tryd.underlying32 rfl (by rw [List.length_map, Hsl.out]; kernel_rfl) ?_
      refine hK _ _ ?_
      clear hK K
      try simp only [Act.put, List.setIfInBounds_toArray, List.set_cons_zero, List.set_cons_succ]
      refine wpAny_ready (rs := [2]) (by kernel_rfl) (by simp) ?_
      refine AllReady.cons (o := { dst := some 24, op := Go.Op.call { callee := Go.Callee.value (Go.Operand.func 23), args := #[Go.Operand.tmp 22, Go.Operand.tmp 23], argTypes := #[32, 22] }, type := 32, pos := "law.go:34", after := #[{ on := 0, ground := Go.Ground.data }, { on := 1, ground := Go.Ground.data }], guard := none }) rfl (fun K hK => ?_) (AllReady.nil)
      go_simp
      go_at_call 23
      refine (refTurn_any st bs Hsl.out Hbl.out Hsw.out Hbw.out (w.heap.size + 1) 0 64 _ hB5.lt (Nat.le_refl _) (fun i hi => by rw [Nat.zero_add]; exact hB5.cell (by rw [Hbl.out]; exact hi))).mono ?_
      rintro e w6 ⟨rfl, hb6⟩
      rw [Hys.out]
      refine hK _ _ ?_
      clear hK K
      try simp only [Act.put, List.setIfInBounds_toArray, List.set_cons_zero, List.set_cons_succ]
      have hS6 := hS5.below hb6 hS5.lt
      have hB6 := hB5.below hb6 hB5.lt
      have hE6 := hE5.trans (hb6.mono hE5.size)
      have hV6 := hV5.below hb6 hlt5
      refine wpAny_ready (rs := [4]) (by kernel_rfl) (by simp) ?_
      refine AllReady.cons (o := { dst := none, op := Go.Op.store 32 (Go.Operand.tmp 7) (Go.Operand.tmp 24), type := 0, pos := "law.go:34", after := #[{ on := 3, ground := Go.Ground.data }, { on := 2, ground := Go.Ground.data }, { on := 2, ground := Go.Ground.chain }, { on := 0, ground := Go.Ground.phase }, { on := 1, ground := Go.Ground.phase }, { on := 2, ground := Go.Ground.phase }, { on := 3, ground := Go.Ground.phase }], guard := none }) rfl (fun K hK => ?_) (AllReady.nil)
      rw [if_pos (by rfl)]
      refine wp_store_arr 32 (.tmp 7) (.tmp 24) rfl w4.heap.size rfl rfl hV6 (by rw [Hyl.out]; rfl) (by rw [Hyl.out]; kernel_rfl) ?_
      intro w7 hg7 hs7 hF
      have hXl : w.heap.size + 1 < w4.heap.size := hB9.lt
      have hS7 : Arr w7 w.heap.size .u32 29 st := hS6.grown hg7 (by simp; omega)
      have hB7 : Arr w7 (w.heap.size + 1) .u8 30 bs := hB6.grown hg7 (by simp; omega)
      have hE7 : Below w.heap.size w w7 := hE6.grown hg7 (Nat.le_trans hE5.size hb6.size) (fun j e => by cases e; omega)
      obtain ⟨X, hX⟩ : ∃ X, w4.heap.size = X := ⟨_, rfl⟩
      rw [hX] at hF hXl
      rw [hX]
      refine hK _ _ ?_
      clear hK K
      try simp only [Act.put, List.setIfInBounds_toArray, List.set_cons_zero, List.set_cons_succ]
      clear hg7 hs7 hS6 hB6 hE6 hU9 hS9 hB9 hE9 hb6 hX hV6 hV5 hU5 hS5 hB5 hE5 hlt5
      all_goals
        refine wpAny_done (by kernel_rfl) ?_ _
        go_wp2_with (first
          | (refine load_arr rfl 29 2 rfl w.heap.size rfl hS7 Tryd.underlying29 (by rw [Hsl.out]; kernel_rfl) ?_)
          | (refine load_arr rfl 30 3 rfl (w.heap.size + 1) rfl hB7 Tryd.underlying30 (by rw [Hbl.out]; kernel_rfl) ?_)
          | (go_at_call 24; refine (Turn_any st bs Hsl.out Hbl.out _ (HR.out.below hE7 hpos)).mono ?_; rintro e w8 ⟨rfl, hb8⟩; rw [Hys.out]; have hF8 := hF.below hb8 hF.lt; have hE8 := hE7.trans (hb8.mono hE7.size))
          | (refine store_arr rfl 29 8 27 rfl rfl w8.heap.size rfl rfl (Arr.new_at (k := .u32) (xs := List.replicate 8 0) rfl rfl) (by rw [Hyl.out]; rfl) (by rw [Hyl.out]; kernel_rfl) ?_; intro w9 hg9 hs9 hO9; have hF9 := (hF8.alloc _).grown hg9 (by have := hF8.lt; simp; omega); have hE9 := (hE8.alloc hE8.size _).grown hg9 (by rw [World.size_alloc]; have := hE8.size; omega) (fun j e => by cases e; exact hE8.size)))
        clear hS7 hB7 hE7 hF hb8 hF8 hE8 hg9 hs9
        go_loopw [28] (fun i wr => ∃ k : Nat, k ≤ 8 ∧ i = .int .i64 k ∧ Arr wr w8.heap.size .u32 29 ys ∧ Arr wr X .u64 32 ys ∧ Below w.heap.size w wr)
          (fun i _ => 8 - (intOf i).toNat)
        case atStart => exact ⟨0, by omega, rfl, hO9, hF9, hE9⟩
        case round =>
          clear hO9 hF9 hE9
          obtain ⟨k, hk, rfl, hO, hF, hE⟩ := hrel
          by_cases hlt : k < 8
          · obtain ⟨x, hx⟩ : ∃ x, ys.getD k 0 = x := ⟨_, rfl⟩
            have hxw : W32 x := hx ▸ Hyw.out.at k
            have c0 : wr.cell? ⟨w8.heap.size, k, none⟩ = some (.int .u32 x) := by rw [← hx]; exact hO.cell (by rw [Hyl.out]; exact hlt)
            have c1 : wr.cell? ⟨X, k, none⟩ = some (.int .u64 x) := by rw [← hx]; exact hF.cell (by rw [Hyl.out]; exact hlt)
            have mk : (k : Int) < 8 := by omega
            have d0 : decide ((k : Int) < 8) = true := decide_eq_true mk
            have e0 : IntKind.u64.wrap x = x := u64w x hxw.1 hxw.2
            clear hx hxw
            go_wp2
            refine wp_region_still_lit (by kernel_rfl) (by kernel_rfl) ?_
            repeat still_step
            refine wpStill_nil ?_
            change Exit.then _ _ _ _ wr.drew
            obtain ⟨w10, hw10⟩ : ∃ w10, wr.drew = w10 := ⟨_, rfl⟩
            have hO10 : Arr w10 w8.heap.size .u32 29 ys := by rw [← hw10]; exact hO
            have hF10 : Arr w10 X .u64 32 ys := by rw [← hw10]; exact hF
            have hE10 : Below w.heap.size w w10 := by rw [← hw10]; exact pw_below_drewN hE 1
            rw [hw10]
            clear hO hF hE c0 c1 hw10
            go_wp2
            go_roundw
            case rel => exact ⟨k + 1, hlt, rfl, hO10, hF10, hE10⟩
            case measure =>
              show 8 - (k + 1) < 8 - k
              exact Nat.sub_lt_sub_left hlt (Nat.lt_succ_self k)
          · have d0 : decide ((k : Int) < 8) = false := decide_eq_false (by omega)
            go_wp2
            go_ret
            exact ⟨rfl, hE⟩
end Go.Proofs.YtalghfnjelcpnaaDoor
namespace Go.Proofs.YtalghfnjelcpnaaDoor
set_option linter.unusedVariables false
open Go.RowKit Go.Proofs.YtalghfnjelcpnaaDoor.Db Go.Proofs.YtalghfnjelcpnaaDoorW.PrintWords Go.Proofs.YtalghfnjelcpnaaDoorW.PrintLast Go.Proofs.YtalghfnjelcpnaaDoorW.PrintMore
theorem step1 (k : Nat) (x : List Int) (s : Int) (hx : x.length < 1000) (a b : Nat) (ha : a ≤ 56) (p : Int) (hp : s / 2 ^ a = p) (hb : (a : Int) - 8 = b ∨ ((a : Int) - 8 = -8 ∧ b = 0)) :
    incognitoref03_Pad.l1 (k + 1) x s (a : Int) = incognitoref03_Pad.l1 k (x ++ [p % 256]) s ((a : Int) - 8) := by
  simp only [incognitoref03_Pad.l1]
  have e : shr .u64 s ((a : Nat) : Int) = p := by
    unfold shr
    rw [Int.toNat_natCast, show min a IntKind.u64.bits = a from Nat.min_eq_left (by show a ≤ 64; omega)]
    exact hp
  rw [if_pos (by omega), wu64 (by omega) (by omega), if_pos (by omega), if_pos (by omega), e, w64 (by omega) (by omega)]
theorem l1_ev (k : Nat) (x : List Int) (s : Int) (hx : x.length < 900) : incognitoref03_Pad.l1 (k + 9) x s 56 = some (x ++ bigL s 8) := by
  have h1 := step1 (k + 8) x s (by omega) 56 48 (by omega) (s / 256 ^ 7) rfl (by omega)
  have h2 := step1 (k + 7) (x ++ [s / 256 ^ 7 % 256]) s (by simp; omega) 48 40 (by omega) (s / 256 ^ 6) rfl (by omega)
  have h3 := step1 (k + 6) (x ++ [s / 256 ^ 7 % 256] ++ [s / 256 ^ 6 % 256]) s (by simp; omega) 40 32 (by omega) (s / 256 ^ 5) rfl (by omega)
  have h4 := step1 (k + 5) (x ++ [s / 256 ^ 7 % 256] ++ [s / 256 ^ 6 % 256] ++ [s / 256 ^ 5 % 256]) s (by simp; omega) 32 24 (by omega) (s / 256 ^ 4) rfl (by omega)
  have h5 := step1 (k + 4) (x ++ [s / 256 ^ 7 % 256] ++ [s / 256 ^ 6 % 256] ++ [s / 256 ^ 5 % 256] ++ [s / 256 ^ 4 % 256]) s (by simp; omega) 24 16 (by omega) (s / 256 ^ 3) rfl (by omega)
  have h6 := step1 (k + 3) (x ++ [s / 256 ^ 7 % 256] ++ [s / 256 ^ 6 % 256] ++ [s / 256 ^ 5 % 256] ++ [s / 256 ^ 4 % 256] ++ [s / 256 ^ 3 % 256]) s (by simp; omega) 16 8 (by omega) (s / 256 ^ 2) rfl (by omega)
  have h7 := step1 (k + 2) (x ++ [s / 256 ^ 7 % 256] ++ [s / 256 ^ 6 % 256] ++ [s / 256 ^ 5 % 256] ++ [s / 256 ^ 4 % 256] ++ [s / 256 ^ 3 % 256] ++ [s / 256 ^ 2 % 256]) s (by simp; omega) 8 0 (by omega) (s / 256 ^ 1) rfl (by omega)
  have h8 := step1 (k + 1) (x ++ [s / 256 ^ 7 % 256] ++ [s / 256 ^ 6 % 256] ++ [s / 256 ^ 5 % 256] ++ [s / 256 ^ 4 % 256] ++ [s / 256 ^ 3 % 256] ++ [s / 256 ^ 2 % 256] ++ [s / 256 ^ 1 % 256]) s (by simp; omega) 0 0 (by omega) (s / 256 ^ 0) rfl (by omega)
  refine h1.trans (h2.trans (h3.trans (h4.trans (h5.trans (h6.trans (h7.trans (h8.trans ?_)))))))
  simp only [incognitoref03_Pad.l1]
  rw [if_neg (by omega)]
  simp only [bigL, List.append_assoc, List.cons_append, List.nil_append]
theorem l0_ev (n : Int) (h0 : 0 ≤ n) (h1 : n < 18446744073709551616) (m : Nat) (hm : n % 64 = m) (d : Nat) : ∀ (k j : Nat), j ≤ (119 - m) % 64 → (119 - m) % 64 - j = d → d + 9 < k →
    incognitoref03_Pad.l0 k n (128 :: List.replicate j 0) = some ((128 :: List.replicate ((119 - m) % 64) 0) ++ bigL (IntKind.u64.wrap (8 * n)) 8) := by
  have hw : ∀ x : Int, IntKind.u64.wrap x = x % 18446744073709551616 := fun x => rfl
  induction d with
  | zero =>
    intro k j hj hd hk
    obtain ⟨k, rfl⟩ : ∃ q, k = q + 9 + 1 := ⟨k - 10, by omega⟩
    obtain rfl : j = (119 - m) % 64 := by omega
    simp only [incognitoref03_Pad.l0, List.length_cons, List.length_replicate]
    rw [if_pos (by rw [hw, hw, hw, Int.tmod_eq_emod_of_nonneg (by omega)]; omega), l1_ev k _ _ (by simp; omega)]
  | succ d ih =>
    intro k j hj hd hk
    obtain ⟨k, rfl⟩ : ∃ q, k = q + 1 := ⟨k - 1, by omega⟩
    simp only [incognitoref03_Pad.l0, List.length_cons, List.length_replicate]
    rw [if_neg (by rw [hw, hw, hw, Int.tmod_eq_emod_of_nonneg (by omega)]; omega), if_pos (by omega)]
    have e : (128 :: List.replicate j (0 : Int)) ++ [0] = 128 :: List.replicate (j + 1) 0 := by rw [List.cons_append, ← List.replicate_succ']
    rw [e]
    exact ih k (j + 1) (by omega) (by omega) (by omega)

theorem refpad_ev (n : Nat) (hn : n < 1152921504606846976) (k : Nat) (hk : 100 < k) : Db.incognitoref03_Pad.f k (n : Int) = some (pl n) := by
  obtain ⟨m, hm⟩ : ∃ m, n % 64 = m := ⟨_, rfl⟩
  have h := l0_ev (n : Int) (by omega) (by omega) m (by omega) _ k 0 (by omega) rfl (by omega)
  unfold incognitoref03_Pad.f
  have e : IntKind.u64.wrap (8 * (n : Int)) = ((8 * n : Nat) : Int) := by rw [wu64 (by omega) (by omega)]; omega
  rw [e] at h
  have e2 : pl n = (128 :: List.replicate ((119 - m) % 64) 0) ++ bigL ((8 * n : Nat) : Int) 8 := by
    unfold pl
    rw [hm, show 1 + (119 - m) % 64 = (119 - m) % 64 + 1 by omega, List.replicate_succ]
    rfl
  rw [e2]
  exact h
/-- Fewer than a block's bytes more. -/
theorem Dg.all_few (D : Dg) (c : List Int) (hD : D.n % 64 = 0) (hb : D.bs.length = 64) (hc : c.length = 64) : ∀ i, i < 64 → D.all (c.take i) = ⟨D.st, c.take i ++ D.bs.drop i, D.n + i⟩ := by
  intro i
  induction i with
  | zero => intro _; rfl
  | succ i ih =>
    intro hi
    rw [Dg.all_step D c i (by omega), ih (by omega)]
    unfold Dg.one
    rw [if_neg (by show ¬ (D.n + i + 1) % 64 = 0; omega)]
    have e1 : (D.n + i) % 64 = i := by omega
    show (⟨D.st, (c.take i ++ D.bs.drop i).set ((D.n + i) % 64) (c.getD i 0), D.n + i + 1⟩ : Dg) = _
    rw [e1, List.set_append_right _ _ (by rw [List.length_take]; omega)]
    have e2 : i - (c.take i).length = 0 := by rw [List.length_take]; omega
    have hi' : i < D.bs.length := by omega
    have hic : i < c.length := by omega
    rw [e2, List.drop_eq_getElem_cons hi', List.set_cons_zero, List.take_succ_eq_append_getElem hic, List.append_assoc]
    simp only [List.getD_eq_getElem?_getD, List.getElem?_eq_getElem hic, Option.getD_some, List.cons_append, List.nil_append]
    rfl
/-- A block's bytes more. -/
theorem Dg.all_chunk (D : Dg) (c : List Int) (hD : D.n % 64 = 0) (hb : D.bs.length = 64) (hc : c.length = 64) : D.all c = ⟨tr D.st c, c, D.n + 64⟩ := by
  have h := Dg.all_step D c 63 (by omega)
  rw [List.take_of_length_le (by omega), Dg.all_few D c hD hb hc 63 (by omega)] at h
  rw [h]
  have hic : 63 < c.length := by omega
  have e1 : (c.take 63 ++ D.bs.drop 63).set 63 (c.getD 63 0) = c := by
    have hi' : 63 < D.bs.length := by omega
    rw [List.set_append_right _ _ (by rw [List.length_take]; omega)]
    have e2 : 63 - (c.take 63).length = 0 := by rw [List.length_take]; omega
    rw [e2, List.drop_eq_getElem_cons hi', List.set_cons_zero, List.drop_eq_nil_of_le (by omega)]
    have e3 := List.take_succ_eq_append_getElem hic
    rw [List.take_of_length_le (by omega)] at e3
    rw [List.getD_eq_getElem?_getD, List.getElem?_eq_getElem hic]
    exact e3.symm
  unfold Dg.one
  rw [if_pos (by show (D.n + 63 + 1) % 64 = 0; omega)]
  show (⟨tr D.st ((c.take 63 ++ D.bs.drop 63).set ((D.n + 63) % 64) (c.getD 63 0)), (c.take 63 ++ D.bs.drop 63).set ((D.n + 63) % 64) (c.getD 63 0), D.n + 63 + 1⟩ : Dg) = _
  rw [show (D.n + 63) % 64 = 63 by omega, e1]
/-- The words behind the first i blocks. -/
def chn (M : List Int) : Nat → Dg
  | 0 => d0
  | i + 1 => (chn M i).all ((M.drop (64 * i)).take 64)
theorem chn_all (M : List Int) : ∀ i, 64 * i ≤ M.length → d0.all (M.take (64 * i)) = chn M i ∧ (chn M i).n = 64 * i ∧ (chn M i).bs.length = 64 ∧ (chn M i).st.length = 8 := by
  intro i
  induction i with
  | zero => intro _; exact ⟨rfl, rfl, rfl, rfl⟩
  | succ i ih =>
    intro h
    obtain ⟨h1, h2, h3, h4⟩ := ih (by omega)
    have hc : ((M.drop (64 * i)).take 64).length = 64 := by rw [List.length_take, List.length_drop]; omega
    have e : M.take (64 * (i + 1)) = M.take (64 * i) ++ (M.drop (64 * i)).take 64 := by rw [show 64 * (i + 1) = 64 * i + 64 by omega, List.take_add]
    have hk := Dg.all_chunk (chn M i) _ (by omega) h3 hc
    refine ⟨by rw [e, Dg.all_app, h1]; rfl, ?_, ?_, ?_⟩
    · rw [chn, hk]; show (chn M i).n + 64 = _; omega
    · rw [chn, hk]; exact hc
    · rw [chn, hk]; exact tr_len _ _ h4
theorem chn_st (M : List Int) (i : Nat) (h : 64 * (i + 1) ≤ M.length) : (chn M (i + 1)).st = tr (chn M i).st ((M.drop (64 * i)).take 64) := by
  obtain ⟨h1, h2, h3, h4⟩ := chn_all M i (by omega)
  rw [chn, Dg.all_chunk (chn M i) _ (by omega) h3 (by rw [List.length_take, List.length_drop]; omega)]
theorem start8_w : W32s start8 := by unfold W32s W32; decide
theorem chn_w (M : List Int) : ∀ i, 64 * i ≤ M.length → W32s (chn M i).st := by
  intro i
  induction i with
  | zero => intro _; exact start8_w
  | succ i ih =>
    intro h
    rw [chn_st M i h]
    exact tr_w _ _ (ih (by omega)) (chn_all M i (by omega)).2.2.2
/-- The digest by whole blocks. -/
theorem sum_chn (b : List Int) (t : Nat) (ht : (b ++ pl b.length).length = 64 * t) : sumL b = outs (chn (b ++ pl b.length) t).st := by
  have h := (chn_all (b ++ pl b.length) t (by omega)).1
  rw [← ht, List.take_of_length_le (Nat.le_refl _), Dg.all_app] at h
  unfold sumL dig
  rw [Dg.all_n, show d0.n + b.length = b.length from Nat.zero_add _, h]
theorem pad_whole (n : Nat) : ∃ t, n + (pl n).length = 64 * t := ⟨(n + (pl n).length) / 64, by rw [pl_len]; omega⟩
end Go.Proofs.YtalghfnjelcpnaaDoor
namespace Go.Proofs.YtalghfnjelcpnaaDoor
open Go.RowKit Go.Proofs.YtalghfnjelcpnaaDoorW.PrintWords Go.Proofs.YtalghfnjelcpnaaDoor.Db

set_option maxHeartbeats 1000000 in
set_option maxRecDepth 100000 in
theorem refStart_any (w : World) : Calls Tryd.prog 55 #[] w fun e w' => e = .returned (AV .u64 start8) ∧ Below w.heap.size w w' := by
  go_enter Tryd.func55, Tryd.ntmps55
  go_wp2_with (first
    | (refine build_const rfl 32 _ rfl (start8.map (Value.int .u64)).toArray (by kernel_rfl) ?_)
    | (refine store_arr (xs := start8) rfl 32 0 1 rfl rfl w.heap.size rfl rfl (Arr.new_at (k := .u64) (xs := List.replicate 8 0) rfl rfl) rfl (by kernel_rfl) ?_; intro w2 hg2 hs2 hA2))
  exact ret_arr 0 32 (by kernel_rfl) rfl hA2 Tryd.underlying32 (by kernel_rfl) rfl ⟨rfl, ((Below.refl _ w).alloc (Nat.le_refl _) _).grown hg2 (by rw [World.size_alloc]; omega) (by intro j e; cases e; omega)⟩
theorem bigL_b8 (x : Int) (k : Nat) : B8s (bigL x k) := by
  induction k with
  | zero => intro y hy; cases hy
  | succ k ih =>
    intro y hy
    rw [bigL] at hy
    rcases List.mem_cons.1 hy with rfl | h
    · exact ⟨Int.emod_nonneg _ (by decide), by have := Int.emod_lt_of_pos (x / 256 ^ k) (show (0 : Int) < 256 by decide); omega⟩
    · exact ih y h
theorem b8_app {a b : List Int} (h : B8s a) (k : B8s b) : B8s (a ++ b) := fun x hx => by
  rcases List.mem_append.1 hx with h1 | h1
  · exact h x h1
  · exact k x h1
theorem pl_b8 (n : Nat) : B8s (pl n) := by
  unfold pl
  refine b8_app (fun y hy => ?_) (bigL_b8 _ _)
  rcases List.mem_or_eq_of_mem_set hy with h1 | rfl
  · rw [List.eq_of_mem_replicate h1]; exact ⟨by decide, by decide⟩
  · exact ⟨by decide, by decide⟩
theorem b8_part {l : List Int} (h : B8s l) (i k : Nat) : B8s ((l.drop i).take k) := fun x hx => h x (List.mem_of_mem_drop (List.mem_of_mem_take hx))
theorem outs_at (S : List Int) : ∀ q r, q < S.length → r < 4 → (outs S).getD (4 * q + r) 0 = S.getD q 0 / 256 ^ (3 - r) % 256 := by
  induction S with
  | nil => intro q r h; cases h
  | cons x S ih =>
    intro q r hq hr
    have e : outs (x :: S) = bigL x 4 ++ outs S := by simp [outs]
    rw [e]
    cases q with
    | zero =>
      rw [List.getD_eq_getElem?_getD, List.getElem?_append_left (by rw [bigL_length]; omega)]
      simp only [List.getD_cons_zero]
      match r, hr with
      | 0, _ => rfl
      | 1, _ => rfl
      | 2, _ => rfl
      | 3, _ => rfl
    | succ q =>
      rw [List.getD_eq_getElem?_getD, List.getElem?_append_right (by rw [bigL_length]; omega), bigL_length, show 4 * (q + 1) + r - 4 = 4 * q + r by omega, ← List.getD_eq_getElem?_getD, ih q r (by simpa using hq) hr]
      rw [List.getD_cons_succ]
end Go.Proofs.YtalghfnjelcpnaaDoor
namespace Go.Proofs.YtalghfnjelcpnaaDoor
set_option linter.unusedVariables false
set_option linter.unusedSimpArgs false
open Go.RowKit Go.Proofs.YtalghfnjelcpnaaDoorW.PrintWords Go.Proofs.YtalghfnjelcpnaaDoor.Db

theorem info5d : (Tryd.prog.info? 5).map (fun i => (i.zero, i.size, i.bytes)) = some (some (.int .u8 0), (Kd.int .u8).sz, 1) := by kernel_rfl
theorem cut_blk (b o n c J J2 : Nat) (hJ : J + 64 = J2) (hn : J2 ≤ n) (hc : n ≤ c) (W : World) : (Instr.slice 22 (.slice (some ⟨b, o, none⟩) n c) (some (.int .i64 (J : Int))) (some (.int .i64 (J2 : Int))) none).run Tryd.prog W = .ok (.slice (some ⟨b, o + J, none⟩) 64 (c - J)) W := by
  obtain ⟨i0, hi0, _, hsz, _⟩ := info_parts info5d
  have h := cut_mid (P := Tryd.prog) 22 5 .i64 .i64 Tryd.underlying22 hi0 1 hsz (some ⟨b, o, none⟩) n c (J : Int) (J2 : Int) (by omega) (by omega) (by omega) hc W
  rw [h, if_neg (by simp; omega)]
  simp only [Option.map_some, Int.toNat_natCast, Nat.mul_one, Addr.add_mid]
  rw [show J2 - J = 64 by omega]
theorem outs_k (S : List Int) (h : S.length = 8) (k : Nat) (hk : k < 32) : (outs S).getD k 0 = S.getD (k / 4) 0 / 256 ^ (3 - k % 4) % 256 := by
  have := outs_at S (k / 4) (k % 4) (by omega) (by omega)
  rwa [Nat.div_add_mod] at this
set_option maxHeartbeats 4000000 in
set_option maxRecDepth 100000 in
theorem refSum_any (A : Option Addr) (cap : Nat) (l : List Int) (w : World) (hb8 : B8s l) (hC : Kd.C (Kd.int .u8) w A l.length l) (hl : l.length < 1073741824) :
    Calls Tryd.prog 22 #[.slice A l.length cap] w fun e w' => e = .returned (AV .u8 (sumL l)) ∧ Below w.heap.size w w' := by
  obtain ⟨M, hM0⟩ : ∃ M, l ++ pl l.length = M := ⟨_, rfl⟩
  have hMl : M.length = l.length + (pl l.length).length := by rw [← hM0, List.length_append]
  obtain ⟨t, ht0⟩ := pad_whole l.length
  have hMt : M.length = 64 * t := hMl.trans ht0
  have hMb : B8s M := by rw [← hM0]; exact b8_app hb8 (pl_b8 _)
  have hpl := pl_len l.length
  have hMbd : 9 ≤ M.length ∧ M.length < 2147483648 := by rw [hMl, hpl]; omega
  have hsum : sumL l = outs (chn M t).st := by rw [← hM0]; exact sum_chn l t (by rw [hM0]; exact hMt)
  have hSl : (chn M t).st.length = 8 := (chn_all M t (by omega)).2.2.2
  have hSw : W32s (chn M t).st := chn_w M t (by omega)
  obtain ⟨ys, hys⟩ : ∃ ys, sumL l = ys := ⟨_, rfl⟩
  rw [hys] at hsum ⊢
  have Hsum := Aside0.mk hsum
  have HM := Aside0.mk hM0
  have HMt := Aside0.mk hMt
  have HMb := Aside0.mk hMb
  have HMbd := Aside0.mk hMbd
  have HSl := Aside0.mk hSl
  have HSw := Aside0.mk hSw
  have HCl := Aside0.mk hC
  have Hl := Aside0.mk hl
  have hpe := refpad_ev l.length (by omega) 1000 (by omega)
  obtain ⟨pd, hpd⟩ : ∃ pd, pl l.length = pd := ⟨_, rfl⟩
  rw [hpd] at hpe hpl
  have hM1 : l ++ pd = M := by rw [← hpd]; exact hM0
  have HM1 := Aside0.mk hM1
  have HPe := Aside0.mk hpe
  have HPl := Aside0.mk hpl
  have e0 : IntKind.u64.wrap (l.length : Int) = l.length := wu64 (by omega) (by omega)
  clear hM0 hMt hMb hMbd hSl hSw hC hl hpe hpl hM1 hpd ht0 hMl hsum hys hb8
  go_enter Tryd.func22, Tryd.ntmps22
  go_wp2_with (first
    | ((with_reducible refine gate_dst (N := 10) rfl ?_); refine Kd.R_append_rows (Kd.int .u8) (w0 := w.alloc (.cells ((List.replicate 32 0).map (Value.int .u8)).toArray 24)) (w.alloc (.cells ((List.replicate 32 0).map (Value.int .u8)).toArray 24)).heap.size rfl (.tmp 8) (.tmp 9) 22 5 (.int .u8 0) 1 rfl Tryd.underlying22 info5d rfl (by decide) (by omega) (.slice none 0 0) [] l _ _ _ (fun _ => True) (fun _ => False) rfl rfl (Kd.R_nil _ _ _ _ _) (Kd.C_below HCl.out ((Below.refl _ w).alloc (Nat.le_refl _) _)) (fun _ _ h => h) (fun _ h => h.elim) (fun _ _ => trivial) (Below.refl _ _) (Nat.le_refl _) (by have := Hl.out; simp; omega) ?_; intro v2 w2 ho2 hb2 _ _; rw [List.nil_append] at ho2; obtain ⟨A2, c2, e2⟩ := Kd.R_slice ho2; subst e2)
    | (go_at_call 27; refine (incognitoref03_Pad.calls 1000 _ pd _ HPe.out).mono ?_; rintro e w3 ⟨v3, rfl, ho3, hb3⟩; obtain ⟨A3, c3, e3⟩ := Kd.R_slice ho3; subst e3; have ho23 := Kd.R_below ho2 hb3; have hb23 := hb2.trans (hb3.mono hb2.size))
    | ((with_reducible refine gate_dst (N := 16) rfl ?_); refine Kd.R_append_rows (Kd.int .u8) (w0 := w.alloc (.cells ((List.replicate 32 0).map (Value.int .u8)).toArray 24)) (w.alloc (.cells ((List.replicate 32 0).map (Value.int .u8)).toArray 24)).heap.size rfl (.tmp 11) (.tmp 15) 22 5 (.int .u8 0) 1 rfl Tryd.underlying22 info5d rfl (by decide) (by omega) (.slice A2 l.length c2) l pd _ _ _ (fun _ => True) (fun _ => False) rfl rfl ho23 (Kd.R_reads' ho3).2.2 (fun _ _ h => h) (fun _ h => h.elim) (fun _ _ => trivial) hb23 hb23.size (by have := Hl.out; have := HPl.out; omega) ?_; intro v4 w4 ho4 hb4 _ _; rw [HM1.out] at ho4; obtain ⟨p4, c4, rfl, hc4⟩ := R_cells ho4; have hcap4 := (Kd.R_reads' ho4).2.1)
    | (go_at_call 55; refine (refStart_any _).mono ?_; rintro e w5 ⟨rfl, hb5⟩)
    | (refine store_arr rfl 32 4 17 rfl rfl w5.heap.size rfl rfl (Arr.new_at (k := .u64) (xs := List.replicate 8 0) rfl rfl) rfl (by kernel_rfl) ?_; intro w6 hg6 hs6 hT6))
  obtain ⟨b, o, rfl, hbb, hblt, _⟩ := hc4 0 (by have := HMbd.out; omega)
  rw [World.size_alloc] at hbb
  have hcel4 : ∀ j, j < M.length → w4.cell? ⟨b, o + j, none⟩ = some (.int .u8 (M.getD j 0)) := fun j hj => by
    obtain ⟨b', o', e, _, _, h⟩ := hc4 j hj
    cases e
    exact h
  have hB4 : Below w.heap.size w w4 := ((Below.refl _ w).alloc (Nat.le_refl _) (.cells ((List.replicate 32 0).map (Value.int .u8)).toArray 24)).trans (hb4.mono (by rw [World.size_alloc]; omega))
  have hR4 : Arr w4 w.heap.size .u8 24 (List.replicate 32 0) := Arr.below (Arr.new_at (k := .u8) (T := 24) (xs := List.replicate 32 0) (w := w) rfl rfl) hb4 (by rw [World.size_alloc]; omega)
  have hlt5 : b < w5.heap.size := Nat.lt_of_lt_of_le hblt hb5.size
  have hR5 := hR4.below hb5 hR4.lt
  have hB5 := hB4.trans (hb5.mono hB4.size)
  have hR6 : Arr w6 w.heap.size .u8 24 (List.replicate 32 0) := (hR5.alloc _).grown hg6 (by have := hR5.lt; simp; omega)
  have hB6 : Below w.heap.size w w6 := (hB5.alloc hB5.size _).grown hg6 (by rw [World.size_alloc]; have := hB5.size; omega) (fun j e => by cases e; exact hB5.size)
  have hcel6 : ∀ j, j < M.length → w6.cell? ⟨b, o + j, none⟩ = some (.int .u8 (M.getD j 0)) := fun j hj => by
    have h1 := (hb5.cell (p := ⟨b, o + j, none⟩) hblt).trans (hcel4 j hj)
    have h2 : (w5.alloc (.cells ((List.replicate 8 0).map (Value.int .u64)).toArray 32)).cell? ⟨b, o + j, none⟩ = w5.cell? ⟨b, o + j, none⟩ := World.cell?_alloc_lt _ _ _ hlt5
    exact (World.cell?_of_block (hg6.block b (by rw [World.size_alloc]; omega) (by simp; omega))).trans (h2.trans h1)
  have hlt6 : b < w6.heap.size := by rw [hs6, World.size_alloc]; omega
  have NT := Aside0.mk (show w.heap.size < w5.heap.size from hR5.lt)
  have Nb := Aside0.mk (And.intro hlt5 hbb)
  have Hc4 := Aside0.mk hcap4
  clear ho2 hb2 ho3 hb3 ho23 hb23 ho4 hb4 hc4 hcap4 hcel4 hB4 hR4 hR5 hB5 hb5 hg6 hs6 hlt5 hbb hblt
  go_loopw [5] (fun v wr => ∃ i J : Nat, i ≤ t ∧ J = 64 * i ∧ v = .int .i64 J ∧ Arr wr w5.heap.size .u64 32 (chn M i).st ∧ Arr wr w.heap.size .u8 24 (List.replicate 32 0) ∧ (∀ j, j < M.length → wr.cell? ⟨b, o + j, none⟩ = some (.int .u8 (M.getD j 0))) ∧ b < wr.heap.size ∧ Below w.heap.size w wr)
    (fun v _ => 64 * t + 64 - (intOf v).toNat)
  case atStart => exact ⟨0, 0, by omega, rfl, rfl, hT6, hR6, hcel6, hlt6, hB6⟩
  case round =>
    clear hT6 hR6 hcel6 hlt6 hB6
    obtain ⟨i, J, hi, hJ, rfl, hT, hR, hce, hbl, hB⟩ := hrel
    have hM1 := HMt.out
    have hM2 := HMbd.out
    obtain ⟨J2, hJ2⟩ : ∃ J2, J + 64 = J2 := ⟨_, rfl⟩
    have d1 : IntKind.i64.wrap ((J : Int) + 64) = (J2 : Int) := by rw [IntWalk.i64_in _ (by omega)]; omega
    have d2 : wrap64 ((J : Int) + 64) = (J2 : Int) := by rw [IntWalk.wrap64_in _ (by omega)]; omega
    by_cases hlt : i < t
    · skip
      have hJM : J2 ≤ M.length := by omega
      have hcut := cut_blk b o M.length c4 J J2 hJ2 hJM Hc4.out
      have hcs := chn_st M i (by omega)
      have hl8 : (chn M i).st.length = 8 := (chn_all M i (by omega)).2.2.2
      have hw8 := chn_w M i (by omega)
      rw [← hJ] at hcs
      obtain ⟨S, hS⟩ : ∃ S, (chn M i).st = S := ⟨_, rfl⟩
      obtain ⟨B, hBk⟩ : ∃ B, (M.drop J).take 64 = B := ⟨_, rfl⟩
      have hBl : B.length = 64 := by rw [← hBk, List.length_take, List.length_drop]; omega
      have hBb : B8s B := by rw [← hBk]; exact b8_part HMb.out _ _
      have hBc : ∀ j, j < 64 → wr.cell? ⟨b, o + J + j, none⟩ = some (.int .u8 (B.getD j 0)) := fun j hj => by
        rw [show o + J + j = o + (J + j) by omega, hce (J + j) (by omega), ← hBk]
        congr 2
        rw [List.getD_eq_getElem?_getD, List.getD_eq_getElem?_getD, List.getElem?_take, if_pos hj, List.getElem?_drop]
      have hlc : 64 ≤ c4 - J := by have := Hc4.out; omega
      rw [hS] at hcs hl8 hw8 hT
      rw [hBk] at hcs
      have HJ := Aside0.mk (show J2 = 64 * (i + 1) by omega)
      have Hlt := Aside0.mk hlt
      have Hcs := Aside0.mk hcs
      have Hl8 := Aside0.mk hl8
      have Hw8 := Aside0.mk hw8
      have HBl := Aside0.mk hBl
      have HBb := Aside0.mk hBb
      have HBc := Aside0.mk hBc
      have Hlc := Aside0.mk hlc
      have Hbl := Aside0.mk hbl
      have Hms := Aside0.mk (show 64 * t + 64 - J2 < 64 * t + 64 - J by omega)
      clear hi hJ hlt hcs hl8 hw8 hBl hBb hBc hlc hbl hM1 hM2 hJ2 hS hBk
      go_wp2
      refine wp_region_any (by kernel_rfl) ?_
      change wpAny _ _ _ _ _ _ _ (World.drew _)
      obtain ⟨w8, hw8⟩ : ∃ w8, wr.drew = w8 := ⟨_, rfl⟩
      have hT8 : Arr w8 w5.heap.size .u64 32 S := by rw [← hw8]; exact hT
      have hR8 : Arr w8 w.heap.size .u8 24 (List.replicate 32 0) := by rw [← hw8]; exact hR
      have hce8 : ∀ j, j < M.length → w8.cell? ⟨b, o + j, none⟩ = some (.int .u8 (M.getD j 0)) := by rw [← hw8]; exact hce
      have hBc8 : ∀ j, j < 64 → w8.cell? ⟨b, o + J + j, none⟩ = some (.int .u8 (B.getD j 0)) := by rw [← hw8]; exact HBc.out
      have hbl8 : b < w8.heap.size := by rw [← hw8]; exact Hbl.out
      have hB8 : Below w.heap.size w w8 := by rw [← hw8]; exact pw_below_drewN hB 1
      rw [hw8]
      clear hT hR hce hB hw8
      refine wpAny_take (i := 1) (oi := { dst := some 26, op := Go.Op.move (Go.Operand.tmp 3), type := 22, pos := "ref.go:97", after := #[], guard := none }) (v := ?v1) rfl (by kernel_rfl) (by kernel_rfl) (by kernel_rfl) (fun _ _ _ h => h) (Or.inl ⟨by rfl, fun w => ?hy1⟩) ?rest1
      case hy1 => go_simp; (first | done | (with_reducible rfl))
      simp only [Act.put, List.setIfInBounds_toArray, List.set_cons_zero, List.set_cons_succ]
      refine wpAny_take (i := 2) (oi := { dst := some 27, op := Go.Op.move (Go.Operand.tmp 5), type := 3, pos := "ref.go:97", after := #[], guard := none }) (v := ?v2) rfl (by kernel_rfl) (by kernel_rfl) (by kernel_rfl) (fun _ _ _ h => h) (Or.inl ⟨by rfl, fun w => ?hy2⟩) ?rest2
      case hy2 => go_simp; (first | done | (with_reducible rfl))
      simp only [Act.put, List.setIfInBounds_toArray, List.set_cons_zero, List.set_cons_succ]
      refine wpAny_take (i := 3) (oi := { dst := some 28, op := Go.Op.move (Go.Operand.tmp 5), type := 3, pos := "ref.go:97", after := #[], guard := none }) (v := ?v3) rfl (by kernel_rfl) (by kernel_rfl) (by kernel_rfl) (fun _ _ _ h => h) (Or.inl ⟨by rfl, fun w => ?hy3⟩) ?rest3
      case hy3 => go_simp; (first | done | (with_reducible rfl))
      simp only [Act.put, List.setIfInBounds_toArray, List.set_cons_zero, List.set_cons_succ]
      refine wpAny_take (i := 4) (oi := { dst := some 29, op := Go.Op.binOp Go.BinOp.add 3 (Go.Operand.tmp 28) (Go.Operand.const (Go.Value.int Go.IntKind.i64 64)) 3, type := 3, pos := "ref.go:97", after := #[{ on := 3, ground := Go.Ground.data }], guard := none }) (v := ?v4) rfl (by kernel_rfl) (by kernel_rfl) (by kernel_rfl) (fun _ _ _ h => h) (Or.inl ⟨by rfl, fun w => ?hy4⟩) ?rest4
      case hy4 => go_simp; (first | done | (with_reducible rfl))
      simp only [Act.put, List.setIfInBounds_toArray, List.set_cons_zero, List.set_cons_succ]
      refine wpAny_take (i := 5) (oi := { dst := some 30, op := Go.Op.slice 22 (Go.Operand.tmp 26) (some (Go.Operand.tmp 27)) (some (Go.Operand.tmp 29)) none, type := 22, pos := "ref.go:97", after := #[{ on := 1, ground := Go.Ground.data }, { on := 2, ground := Go.Ground.data }, { on := 4, ground := Go.Ground.data }], guard := none }) (v := ?v5) rfl (by kernel_rfl) (by kernel_rfl) (by kernel_rfl) (fun _ _ _ h => h) (Or.inl ⟨by rfl, fun w => ?hy5⟩) ?rest5
      case hy5 => go_simp; (first | done | (with_reducible rfl))
      simp only [Act.put, List.setIfInBounds_toArray, List.set_cons_zero, List.set_cons_succ]
      refine wpAny_ready (rs := [0]) (by kernel_rfl) (by simp) ?_
      refine AllReady.cons (o := { dst := some 25, op := Go.Op.load 32 (Go.Operand.tmp 4), type := 32, pos := "ref.go:97", after := #[], guard := none }) rfl (fun K hK => ?_) (AllReady.nil)
      rw [if_pos (by rfl)]
      refine wp_load_mid 32 (.tmp 4) rfl w5.heap.size 0 rfl (S.map (Value.int .u64)) _ (arr_range hT8) Tryd.underlying32 rfl (by rw [List.length_map, Hl8.out]; kernel_rfl) ?_
      refine hK _ _ ?_
      clear hK K
      try simp only [Act.put, List.setIfInBounds_toArray, List.set_cons_zero, List.set_cons_succ]
      refine wpAny_ready (rs := [6]) (by kernel_rfl) (by simp) ?_
      refine AllReady.cons (o := { dst := some 31, op := Go.Op.call { callee := Go.Callee.value (Go.Operand.func 23), args := #[Go.Operand.tmp 25, Go.Operand.tmp 30], argTypes := #[32, 22] }, type := 32, pos := "ref.go:97", after := #[{ on := 0, ground := Go.Ground.data }, { on := 5, ground := Go.Ground.data }], guard := none }) rfl (fun K hK => ?_) (AllReady.nil)
      go_simp
      go_at_call 23
      refine (refTurn_any S B Hl8.out HBl.out Hw8.out HBb.out b (o + J) (c4 - J) _ hbl8 Hlc.out hBc8).mono ?_
      rintro e w10 ⟨rfl, hb10⟩
      rw [← Hcs.out]
      refine hK _ _ ?_
      clear hK K
      try simp only [Act.put, List.setIfInBounds_toArray, List.set_cons_zero, List.set_cons_succ]
      have hT10 := hT8.below hb10 hT8.lt
      have hR10 := hR8.below hb10 hR8.lt
      have hce10 : ∀ j, j < M.length → w10.cell? ⟨b, o + j, none⟩ = some (.int .u8 (M.getD j 0)) := fun j hj => (hb10.cell (p := ⟨b, o + j, none⟩) hbl8).trans (hce8 j hj)
      have hbl10 : b < w10.heap.size := Nat.lt_of_lt_of_le hbl8 hb10.size
      have hB10 := hB8.trans (hb10.mono hB8.size)
      refine wpAny_ready (rs := [7]) (by kernel_rfl) (by simp) ?_
      refine AllReady.cons (o := { dst := none, op := Go.Op.store 32 (Go.Operand.tmp 4) (Go.Operand.tmp 31), type := 0, pos := "ref.go:97", after := #[{ on := 6, ground := Go.Ground.data }, { on := 6, ground := Go.Ground.chain }, { on := 0, ground := Go.Ground.phase }, { on := 1, ground := Go.Ground.phase }, { on := 2, ground := Go.Ground.phase }, { on := 3, ground := Go.Ground.phase }, { on := 4, ground := Go.Ground.phase }, { on := 5, ground := Go.Ground.phase }, { on := 6, ground := Go.Ground.phase }], guard := none }) rfl (fun K hK => ?_) (AllReady.nil)
      rw [if_pos (by rfl)]
      have hnl : (chn M (i + 1)).st.length = 8 := by rw [Hcs.out]; exact tr_len _ _ Hl8.out
      refine wp_store_arr 32 (.tmp 4) (.tmp 31) rfl w5.heap.size rfl rfl hT10 (by rw [hnl, Hl8.out]) (by rw [hnl]; kernel_rfl) ?_
      intro w11 hg11 hs11 hT11
      refine hK _ _ ?_
      clear hK K
      try simp only [Act.put, List.setIfInBounds_toArray, List.set_cons_zero, List.set_cons_succ]
      have hR11 : Arr w11 w.heap.size .u8 24 (List.replicate 32 0) := hR10.grown hg11 (by have := NT.out; simp; omega)
      have hce11 : ∀ j, j < M.length → w11.cell? ⟨b, o + j, none⟩ = some (.int .u8 (M.getD j 0)) := fun j hj => (World.cell?_of_block (hg11.block b hbl10 (by have := Nb.out.1; simp; omega))).trans (hce10 j hj)
      have hbl11 : b < w11.heap.size := by rw [hs11]; exact hbl10
      have hB11 : Below w.heap.size w w11 := hB10.grown hg11 hB10.size (fun j e => by cases e; exact Nat.le_of_lt NT.out)
      refine wpAny_done (by kernel_rfl) ?_ _
      clear hT8 hR8 hce8 hBc8 hbl8 hB8 hb10 hT10 hR10 hce10 hbl10 hB10 hg11 hs11 hcut hnl
      go_wp2
      go_roundw
      case rel => exact ⟨i + 1, J2, Hlt.out, HJ.out, by first | rfl | rw [d2] | rw [d1], hT11, hR11, hce11, hbl11, hB11⟩
      case measure =>
        first | exact Hms.out | (rw [d2]; exact Hms.out) | (rw [d1]; exact Hms.out)
    · have hJM : ¬ J2 ≤ M.length := by omega
      obtain rfl : i = t := by omega
      obtain ⟨S, hS⟩ : ∃ S, (chn M i).st = S := ⟨_, rfl⟩
      rw [hS] at hT HSl HSw
      clear hi hJ hlt hM1 hM2 hJ2 hce hbl
      go_wp2
      have hS8 := hT.alloc (.cells ((List.replicate 32 0).map (Value.int .u8)).toArray 24)
      have hR8 := hR.alloc (.cells ((List.replicate 32 0).map (Value.int .u8)).toArray 24)
      have hB8 := hB.alloc hB.size (.cells ((List.replicate 32 0).map (Value.int .u8)).toArray 24)
      have hU8 : Arr (wr.alloc (.cells ((List.replicate 32 0).map (Value.int .u8)).toArray 24)) wr.heap.size .u8 24 ((outs S).take 0 ++ List.replicate (32 - 0) 0) := Arr.new_at rfl rfl
      have N1 := Aside0.mk (show w5.heap.size < wr.heap.size from hT.lt)
      have N2 := Aside0.mk (show w.heap.size < wr.heap.size from hR.lt)
      clear hT hR hB hJM
      go_loopw [7] (fun v ww => ∃ k : Nat, k ≤ 32 ∧ v = .int .i64 k ∧ Arr ww wr.heap.size .u8 24 ((outs S).take k ++ List.replicate (32 - k) 0) ∧ Arr ww w5.heap.size .u64 32 S ∧ Arr ww w.heap.size .u8 24 (List.replicate 32 0) ∧ Below w.heap.size w ww)
        (fun v _ => 32 - (intOf v).toNat)
      case atStart => exact ⟨0, by omega, rfl, hU8, hS8, hR8, hB8⟩
      case round =>
        clear hU8 hS8 hR8 hB8
        obtain ⟨k, hk, rfl, hU, hT, hR, hB⟩ := hrel
        by_cases hlt : k < 32
        · have d0 : decide ((k : Int) < 32) = true := decide_eq_true (by omega)
          have dq : (k : Int) / 4 < 8 := by omega
          obtain ⟨x, hx⟩ : ∃ x, S.getD (k / 4) 0 = x := ⟨_, rfl⟩
          have c0 : wr.cell? ⟨w5.heap.size, k / 4, none⟩ = some (.int .u64 x) := by rw [hT.cell (i := k / 4) (by rw [HSl.out]; omega), hx]
          have hul : ((outs S).take k ++ List.replicate (32 - k) 0).length = 32 := by rw [List.length_append, List.length_take, List.length_replicate, outs_len, HSl.out]; omega
          have g1 := hU.cell (i := k) (by rw [hul]; exact hlt)
          have g0 := hU.free k
          have Hx := Aside0.mk hx
          have Hul := Aside0.mk hul
          clear hx hul
          have hr : (k : Int) % 4 = 0 ∨ (k : Int) % 4 = 1 ∨ (k : Int) % 4 = 2 ∨ (k : Int) % 4 = 3 := by omega
          rcases hr with hr | hr | hr | hr
          · have hy : (outs S).getD k 0 = x / 16777216 % 256 := by rw [outs_k S HSl.out k hlt, Hx.out, show k % 4 = 0 by omega]; rfl
            have hn := take_set (outs S) k (by rw [outs_len, HSl.out]; omega) 32 (by rw [outs_len, HSl.out])
            have h1 := hU.set k (x / 16777216 % 256)
            rw [hy] at hn
            rw [hn] at h1
            clear hy hn hk
            go_wp2
            refine ⟨⟨k + 1, hlt, rfl, h1, hT.other k _ (Nat.ne_of_lt N1.out), hR.other k _ (Nat.ne_of_lt N2.out), hB.setCell (Nat.le_of_lt N2.out) _⟩, ?_⟩
            show 32 - (k + 1) < 32 - k
            exact Nat.sub_lt_sub_left hlt (Nat.lt_succ_self k)
          · have hy : (outs S).getD k 0 = x / 65536 % 256 := by rw [outs_k S HSl.out k hlt, Hx.out, show k % 4 = 1 by omega]; rfl
            have hn := take_set (outs S) k (by rw [outs_len, HSl.out]; omega) 32 (by rw [outs_len, HSl.out])
            have h1 := hU.set k (x / 65536 % 256)
            rw [hy] at hn
            rw [hn] at h1
            clear hy hn hk
            go_wp2
            refine ⟨⟨k + 1, hlt, rfl, h1, hT.other k _ (Nat.ne_of_lt N1.out), hR.other k _ (Nat.ne_of_lt N2.out), hB.setCell (Nat.le_of_lt N2.out) _⟩, ?_⟩
            show 32 - (k + 1) < 32 - k
            exact Nat.sub_lt_sub_left hlt (Nat.lt_succ_self k)
          · have hy : (outs S).getD k 0 = x / 256 % 256 := by rw [outs_k S HSl.out k hlt, Hx.out, show k % 4 = 2 by omega]; rfl
            have hn := take_set (outs S) k (by rw [outs_len, HSl.out]; omega) 32 (by rw [outs_len, HSl.out])
            have h1 := hU.set k (x / 256 % 256)
            rw [hy] at hn
            rw [hn] at h1
            clear hy hn hk
            go_wp2
            refine ⟨⟨k + 1, hlt, rfl, h1, hT.other k _ (Nat.ne_of_lt N1.out), hR.other k _ (Nat.ne_of_lt N2.out), hB.setCell (Nat.le_of_lt N2.out) _⟩, ?_⟩
            show 32 - (k + 1) < 32 - k
            exact Nat.sub_lt_sub_left hlt (Nat.lt_succ_self k)
          · have hy : (outs S).getD k 0 = x % 256 := by rw [outs_k S HSl.out k hlt, Hx.out, show k % 4 = 3 by omega]; show x / 1 % 256 = _; rw [Int.ediv_one]
            have hn := take_set (outs S) k (by rw [outs_len, HSl.out]; omega) 32 (by rw [outs_len, HSl.out])
            have h1 := hU.set k (x % 256)
            rw [hy] at hn
            rw [hn] at h1
            clear hy hn hk
            go_wp2
            refine ⟨⟨k + 1, hlt, rfl, h1, hT.other k _ (Nat.ne_of_lt N1.out), hR.other k _ (Nat.ne_of_lt N2.out), hB.setCell (Nat.le_of_lt N2.out) _⟩, ?_⟩
            show 32 - (k + 1) < 32 - k
            exact Nat.sub_lt_sub_left hlt (Nat.lt_succ_self k)
        · obtain rfl : k = 32 := by omega
          rw [List.take_of_length_le (show (outs S).length ≤ 32 by rw [outs_len, HSl.out]; omega), Nat.sub_self, List.replicate_zero, List.append_nil] at hU
          have hol := Aside0.mk (show (outs S).length = 32 by rw [outs_len, HSl.out])
          clear hk hlt
          rw [← hS, ← Hsum.out] at hU hol
          clear hS
          go_wp2_with (first
            | (refine load_arr rfl 24 6 rfl _ rfl hU Tryd.underlying24 (by rw [hol.out]; kernel_rfl) ?_)
            | (refine store_arr rfl 24 2 49 rfl rfl w.heap.size rfl rfl hR (by rw [hol.out]; rfl) (by rw [hol.out]; kernel_rfl) ?_; intro w13 hg13 hs13 hA13; apply wpList_nil; rename_i hKK; refine hKK _ _ ?_; refine wp_ret ?_; exact ret_arr 2 24 (by kernel_rfl) rfl hA13 Tryd.underlying24 (by rw [hol.out]; kernel_rfl) rfl ⟨rfl, hB.grown hg13 hB.size (fun j e => by cases e; exact Nat.le_refl _)⟩))
end Go.Proofs.YtalghfnjelcpnaaDoor
namespace Go.Proofs.YtalghfnjelcpnaaDoor
set_option linter.unusedVariables false
set_option linter.unusedSimpArgs false
open Go.RowKit Go.Proofs.YtalghfnjelcpnaaDoorW.PrintWords Go.Proofs.YtalghfnjelcpnaaDoor.Db

theorem args_C (w : World) (vs : List Value) (ps : List (List Int)) (hl : ps.length ≤ 9223372036854775807)
    (h : ∀ (i : Nat) (p : List Int), ps[i]? = some p → ∃ A c, vs[i]? = some (Value.slice A p.length c) ∧ p.length ≤ c ∧ Kd.C (Kd.int .u8) w A p.length p) :
    Kd.C (Kd.slice 5 (Kd.int .u8)) (w.alloc (.cells vs.toArray 22)) (some ⟨w.heap.size, 0, none⟩) ps.length ps :=
  rows_lit (row_new w _) hl fun i p hp => by
    obtain ⟨A, c, h1, h2, h3⟩ := h i p hp
    exact ⟨A, c, h1, h2, Kd.C_below h3 ((Below.refl _ w).alloc (Nat.le_refl _) _)⟩
theorem arg1_C (w : World) (A : Option Addr) (cap : Nat) (l : List Int) (hc : l.length ≤ cap) (hC : Kd.C (Kd.int .u8) w A l.length l) :
    Kd.C (Kd.slice 5 (Kd.int .u8)) (w.alloc (.cells #[.slice A l.length cap] 22)) (some ⟨w.heap.size, 0, none⟩) 1 [l] :=
  args_C w [.slice A l.length cap] [l] (show 1 ≤ 9223372036854775807 by decide) fun i p hp => by
    match i with
    | 0 =>
      obtain rfl : l = p := by simpa using hp
      exact ⟨A, cap, rfl, hc, hC⟩
    | i + 1 => simp at hp
theorem eqItems_av {P : Program} (w : World) (d : Nat) (e : TypeId) (k : IntKind) (he : P.underlying e = some (.int k)) (xs ys : List Int) : ∀ (is : List Nat), (∀ i ∈ is, i < xs.length ∧ i < ys.length) →
    (Op.eqItems (d + 1) e 1 (xs.map (Value.int k)).toArray (ys.map (Value.int k)).toArray is).run P w = .ok (decide (∀ i ∈ is, xs.getD i 0 = ys.getD i 0)) w
  | [], _ => by simp [Op.eqItems]
  | i :: is, h => by
    have hp : P.plainKey e = true := by simp [Program.plainKey, he]
    have h1 := (h i List.mem_cons_self).1
    have h2 := (h i List.mem_cons_self).2
    have p1 : (part e (xs.map (Value.int k)).toArray (i * 1)).run P w = .ok (.int k (xs.getD i 0)) w := run_part_plain w hp (by rw [Nat.mul_one]; simp [h1, List.getD_eq_getElem?_getD, List.getElem?_eq_getElem h1])
    have p2 : (part e (ys.map (Value.int k)).toArray (i * 1)).run P w = .ok (.int k (ys.getD i 0)) w := run_part_plain w hp (by rw [Nat.mul_one]; simp [h2, List.getD_eq_getElem?_getD, List.getElem?_eq_getElem h2])
    have ih := eqItems_av w d e k he xs ys is (fun j hj => h j (List.mem_cons_of_mem _ hj))
    simp only [Op.eqItems, Sem.run_bind, p1, p2, run_equalIn_int w d e k k _ _ he, Result.andThen_ok]
    by_cases c : xs.getD i 0 = ys.getD i 0
    · rw [show (xs.getD i 0 == ys.getD i 0) = true by simpa using c]
      simp only [Bool.not_true, Bool.false_eq_true, if_false]
      rw [ih]
      congr 1
      exact decide_eq_decide.2 ⟨fun h => List.forall_mem_cons.2 ⟨c, h⟩, fun h => (List.forall_mem_cons.1 h).2⟩
    · rw [show (xs.getD i 0 == ys.getD i 0) = false by simpa using c]
      simp only [Bool.not_false, if_true, Sem.run_pure]
      rw [decide_eq_false (fun h => c (h i List.mem_cons_self))]
theorem getD_ext (xs ys : List Int) (n : Nat) (hx : xs.length = n) (hy : ys.length = n) : (∀ i ∈ List.range n, xs.getD i 0 = ys.getD i 0) ↔ xs = ys := by
  constructor
  · intro h
    apply List.ext_getElem?
    intro i
    rcases Nat.lt_or_ge i n with hi | hi
    · have := h i (List.mem_range.2 hi)
      simp only [List.getD_eq_getElem?_getD, List.getElem?_eq_getElem (show i < xs.length by omega), List.getElem?_eq_getElem (show i < ys.length by omega), Option.getD_some] at this ⊢
      rw [this]
    · rw [List.getElem?_eq_none (by omega), List.getElem?_eq_none (by omega)]
  · rintro rfl i _; rfl
theorem equal_av {P : Program} (w : World) {t e : TypeId} {n : Nat} {k : IntKind} {i : TypeInfo} (hu : P.underlying t = some (.array n e)) (hi : P.info? e = some i) (hc : P.cellsOf e = 1) (he : P.underlying e = some (.int k)) (xs ys : List Int) (hx : xs.length = n) (hy : ys.length = n) :
    (Op.equalIn 10000 t (AV k xs) (AV k ys)).run P w = .ok (decide (xs = ys)) w := by
  rw [show (10000 : Nat) = 9999 + 1 from rfl, AV, AV, run_equalIn_array w 9999 _ _ hu hi, hc, eqItems_av w 9998 e k he xs ys _ (fun j hj => by have := List.mem_range.1 hj; omega)]
  congr 1
  simp only [getD_ext xs ys n hx hy]
theorem binop_eql_av {P : Program} {t e : TypeId} {n : Nat} {k : IntKind} {i : TypeInfo} (hu : P.underlying t = some (.array n e)) (hi : P.info? e = some i) (hc : P.cellsOf e = 1) (he : P.underlying e = some (.int k)) (xs ys : List Int) (hx : xs.length = n) (hy : ys.length = n) (w : World) :
    (binOp .eql t (AV k xs) (AV k ys)).run P w = .ok (.bool (decide (xs = ys))) w := by
  have h := equal_av w hu hi hc he xs ys hx hy
  unfold AV at h ⊢
  rw [run_eql_struct, h, Result.andThen_ok]
theorem binop_neq_av {P : Program} {t e : TypeId} {n : Nat} {k : IntKind} {i : TypeInfo} (hu : P.underlying t = some (.array n e)) (hi : P.info? e = some i) (hc : P.cellsOf e = 1) (he : P.underlying e = some (.int k)) (xs ys : List Int) (hx : xs.length = n) (hy : ys.length = n) (w : World) :
    (binOp .neq t (AV k xs) (AV k ys)).run P w = .ok (.bool (!decide (xs = ys))) w := by
  have h := equal_av w hu hi hc he xs ys hx hy
  unfold AV at h ⊢
  rw [run_neq_struct, h, Result.andThen_ok]
theorem info5e : ∃ i, Tryd.prog.info? 5 = some i := by
  have h := info5d
  cases hh : Tryd.prog.info? 5 with
  | none => rw [hh] at h; cases h
  | some i => exact ⟨i, rfl⟩
theorem eql24 (xs ys : List Int) (hx : xs.length = 32) (hy : ys.length = 32) (w : World) : (binOp .eql 24 (AV .u8 xs) (AV .u8 ys)).run Tryd.prog w = .ok (.bool (decide (xs = ys))) w :=
  binop_eql_av Tryd.underlying24 info5e.choose_spec (by kernel_rfl) Tryd.underlying5 xs ys hx hy w
theorem eql30 (xs ys : List Int) (hx : xs.length = 64) (hy : ys.length = 64) (w : World) : (binOp .eql 30 (AV .u8 xs) (AV .u8 ys)).run Tryd.prog w = .ok (.bool (decide (xs = ys))) w :=
  binop_eql_av Tryd.underlying30 info5e.choose_spec (by kernel_rfl) Tryd.underlying5 xs ys hx hy w
theorem neq30 (xs ys : List Int) (hx : xs.length = 64) (hy : ys.length = 64) (w : World) : (binOp .neq 30 (AV .u8 xs) (AV .u8 ys)).run Tryd.prog w = .ok (.bool (!decide (xs = ys))) w :=
  binop_neq_av Tryd.underlying30 info5e.choose_spec (by kernel_rfl) Tryd.underlying5 xs ys hx hy w
theorem guard24 (o : BinOp) (x y : Operand) (xs ys : List Int) (w : World) : (eqGuard o 24 x y (AV .u8 xs) (AV .u8 ys)).run Tryd.prog w = .ok () w :=
  run_eqGuard_agg w o 24 x y _ _ (by kernel_rfl)
theorem guard30 (o : BinOp) (x y : Operand) (xs ys : List Int) (w : World) : (eqGuard o 30 x y (AV .u8 xs) (AV .u8 ys)).run Tryd.prog w = .ok () w :=
  run_eqGuard_agg w o 30 x y _ _ (by kernel_rfl)
set_option maxHeartbeats 4000000 in
set_option maxRecDepth 100000 in
theorem sums_any (A : Option Addr) (cap : Nat) (l : List Int) (w : World) (hR : Rounds w) (hb8 : B8s l) (hC : Kd.C (Kd.int .u8) w A l.length l) (hc : l.length ≤ cap) :
    Calls Tryd.prog 3 #[.slice A l.length cap] w fun e w' => e = .returned (.bool true) ∧ Below w.heap.size w w' := by
  have HR := Aside0.mk hR
  have hpos := Aside0.mk hR.pos
  have HC := Aside0.mk hC
  have Hc := Aside0.mk hc
  have Hb := Aside0.mk hb8
  by_cases h : 1000 < l.length
  · clear hR hC hc hb8
    have d1 : decide (1000 < (l.length : Int)) = true := by simp; omega
    go_enter Tryd.func3, Tryd.ntmps3
    go_wp2_with (first
      | (go_at_call 20; refine (wakes3_any _ HR.out).mono ?_; rintro e w1 ⟨rfl, hB⟩))
    go_ret
    exact ⟨rfl, hB⟩
  · have d1 : decide (1000 < (l.length : Int)) = false := by simp; omega
    have Hl := Aside0.mk (show l.length ≤ 1000 by omega)
    obtain ⟨ys, hys⟩ : ∃ ys, sumL l = ys := ⟨_, rfl⟩
    have hyl : ys.length = 32 := by rw [← hys]; exact sumL_len _
    have q1 := eql24 ys ys hyl hyl
    rw [decide_eq_true rfl] at q1
    have q2 := fun (o : BinOp) (x y : Operand) => guard24 o x y ys ys
    clear hyl
    have Hys := Aside0.mk hys
    clear hR hC hc hb8 hys
    go_enter Tryd.func3, Tryd.ntmps3
    go_wp2_with (first
      | (go_at_call 20; refine (wakes3_any _ HR.out).mono ?_; rintro e w1 ⟨rfl, hB⟩)
      | (go_at_call 21; refine (SSum_any (some ⟨w1.heap.size, 0, none⟩) 1 [l] _ ((HR.out.below hB hpos.out).below ((Below.refl _ _).alloc (Nat.le_refl _) _) (Nat.lt_of_lt_of_le hpos.out hB.size)) (arg1_C w1 A cap l Hc.out (Kd.C_below HC.out hB)) (by have := Hl.out; simp; omega)).mono ?_; rintro e w2 ⟨rfl, hb2⟩; rw [List.flatten_singleton, Hys.out]; have hB2 := (hB.alloc hB.size _).trans (hb2.mono (by rw [World.size_alloc]; have := hB.size; omega)); clear hb2)
      | (go_at_call 22; refine (refSum_any A cap l _ Hb.out (Kd.C_below HC.out hB2) (by have := Hl.out; omega)).mono ?_; rintro e w3 ⟨rfl, hb3⟩; rw [Hys.out]; replace hB2 := hB2.trans (hb3.mono hB2.size); clear hb3))
    go_ret
    exact ⟨rfl, hB2⟩
end Go.Proofs.YtalghfnjelcpnaaDoor
