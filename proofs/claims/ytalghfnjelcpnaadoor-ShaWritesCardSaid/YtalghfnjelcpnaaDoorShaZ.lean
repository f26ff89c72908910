/- The document's Sum: what the call returns, for less than 2^30 bytes; of what was there nothing has turned. No conditions. -/
import Derived.Test.YtalghfnjelcpnaaDoorShaY
namespace Go.Proofs.YtalghfnjelcpnaaDoor
set_option linter.unusedVariables false
set_option linter.unusedSimpArgs false
open Go.RowKit Go.Proofs.YtalghfnjelcpnaaDoorW.PrintWords Go.Proofs.YtalghfnjelcpnaaDoor.Db

theorem info5d : (Tryd.prog.info? 5).map (fun i => (i.zero, i.size, i.bytes)) = some (some (.int .u8 0), (Kd.int .u8).sz, 1) := by kernel_rfl
theorem cut_blk (b o n c J J2 : Nat) (hJ : J + 64 = J2) (hn : J2 ≤ n) (hc : n ≤ c) (W : World) : (Instr.slice 22 (.slice (some ⟨b, o, none⟩) n c) (some (.int .i64 (J : Int))) (some (.int .i64 (J2 : Int))) none).run Tryd.prog W = .ok (.slice (some ⟨b, o + J, none⟩) 64 (c - J)) W := by
  obtain ⟨i0, hi0, _, hsz, _⟩ := info_parts info5d
  have h := cut_mid (P := Tryd.prog) 22 5 .i64 .i64 Tryd.underlying22 hi0 1 hsz (some ⟨b, o, none⟩) n c (J : Int) (J2 : Int) (by omega) (by omega) (by omega) hc W
  rw [h, if_neg (by simp; omega)]
  simp only [Option.map_some, Int.toNat_natCast, Nat.mul_one, Addr.add_mid]
  rw [show J2 - J = 64 by omega]
theorem outs_k (S : List Int) (h : S.length = 8) (k : Nat) (hk : k < 32) : (outs S).getD k 0 = S.getD (k / 4) 0 / 256 ^ (3 - k % 4) % 256 := by
  have := outs_at S (k / 4) (k % 4) (by omega) (by omega)
  rwa [Nat.div_add_mod] at this
set_option maxHeartbeats 4000000 in
set_option maxRecDepth 100000 in
theorem refSum_any (A : Option Addr) (cap : Nat) (l : List Int) (w : World) (hb8 : B8s l) (hC : Kd.C (Kd.int .u8) w A l.length l) (hl : l.length < 1073741824) :
    Calls Tryd.prog 22 #[.slice A l.length cap] w fun e w' => e = .returned (AV .u8 (sumL l)) ∧ Below w.heap.size w w' := by
  obtain ⟨M, hM0⟩ : ∃ M, l ++ pl l.length = M := ⟨_, rfl⟩
  have hMl : M.length = l.length + (pl l.length).length := by rw [← hM0, List.length_append]
  obtain ⟨t, ht0⟩ := pad_whole l.length
  have hMt : M.length = 64 * t := hMl.trans ht0
  have hMb : B8s M := by rw [← hM0]; exact b8_app hb8 (pl_b8 _)
  have hpl := pl_len l.length
  have hMbd : 9 ≤ M.length ∧ M.length < 2147483648 := by rw [hMl, hpl]; omega
  have hsum : sumL l = outs (chn M t).st := by rw [← hM0]; exact sum_chn l t (by rw [hM0]; exact hMt)
  have hSl : (chn M t).st.length = 8 := (chn_all M t (by omega)).2.2.2
  have hSw : W32s (chn M t).st := chn_w M t (by omega)
  obtain ⟨ys, hys⟩ : ∃ ys, sumL l = ys := ⟨_, rfl⟩
  rw [hys] at hsum ⊢
  have Hsum := Aside0.mk hsum
  have HM := Aside0.mk hM0
  have HMt := Aside0.mk hMt
  have HMb := Aside0.mk hMb
  have HMbd := Aside0.mk hMbd
  have HSl := Aside0.mk hSl
  have HSw := Aside0.mk hSw
  have HCl := Aside0.mk hC
  have Hl := Aside0.mk hl
  have hpe := refpad_ev l.length (by omega) 1000 (by omega)
  obtain ⟨pd, hpd⟩ : ∃ pd, pl l.length = pd := ⟨_, rfl⟩
  rw [hpd] at hpe hpl
  have hM1 : l ++ pd = M := by rw [← hpd]; exact hM0
  have HM1 := Aside0.mk hM1
  have HPe := Aside0.mk hpe
  have HPl := Aside0.mk hpl
  have e0 : IntKind.u64.wrap (l.length : Int) = l.length := wu64 (by omega) (by omega)
  clear hM0 hMt hMb hMbd hSl hSw hC hl hpe hpl hM1 hpd ht0 hMl hsum hys hb8
  go_enter Tryd.func22, Tryd.ntmps22
  go_wp2_with (first
    | ((with_reducible refine gate_dst (N := 10) rfl ?_); refine Kd.R_append_rows (Kd.int .u8) (w0 := w.alloc (.cells ((List.replicate 32 0).map (Value.int .u8)).toArray 24)) (w.alloc (.cells ((List.replicate 32 0).map (Value.int .u8)).toArray 24)).heap.size rfl (.tmp 8) (.tmp 9) 22 5 (.int .u8 0) 1 rfl Tryd.underlying22 info5d rfl (by decide) (by omega) (.slice none 0 0) [] l _ _ _ (fun _ => True) (fun _ => False) rfl rfl (Kd.R_nil _ _ _ _ _) (Kd.C_below HCl.out ((Below.refl _ w).alloc (Nat.le_refl _) _)) (fun _ _ h => h) (fun _ h => h.elim) (fun _ _ => trivial) (Below.refl _ _) (Nat.le_refl _) (by have := Hl.out; simp; omega) ?_; intro v2 w2 ho2 hb2 _ _; rw [List.nil_append] at ho2; obtain ⟨A2, c2, e2⟩ := Kd.R_slice ho2; subst e2)
    | (go_at_call 27; refine (incognitoref03_Pad.calls 1000 _ pd _ HPe.out).mono ?_; rintro e w3 ⟨v3, rfl, ho3, hb3⟩; obtain ⟨A3, c3, e3⟩ := Kd.R_slice ho3; subst e3; have ho23 := Kd.R_below ho2 hb3; have hb23 := hb2.trans (hb3.mono hb2.size))
    | ((with_reducible refine gate_dst (N := 16) rfl ?_); refine Kd.R_append_rows (Kd.int .u8) (w0 := w.alloc (.cells ((List.replicate 32 0).map (Value.int .u8)).toArray 24)) (w.alloc (.cells ((List.replicate 32 0).map (Value.int .u8)).toArray 24)).heap.size rfl (.tmp 11) (.tmp 15) 22 5 (.int .u8 0) 1 rfl Tryd.underlying22 info5d rfl (by decide) (by omega) (.slice A2 l.length c2) l pd _ _ _ (fun _ => True) (fun _ => False) rfl rfl ho23 (Kd.R_reads' ho3).2.2 (fun _ _ h => h) (fun _ h => h.elim) (fun _ _ => trivial) hb23 hb23.size (by have := Hl.out; have := HPl.out; omega) ?_; intro v4 w4 ho4 hb4 _ _; rw [HM1.out] at ho4; obtain ⟨p4, c4, rfl, hc4⟩ := R_cells ho4; have hcap4 := (Kd.R_reads' ho4).2.1)
    | (go_at_call 55; refine (refStart_any _).mono ?_; rintro e w5 ⟨rfl, hb5⟩)
    | (refine store_arr rfl 32 4 17 rfl rfl w5.heap.size rfl rfl (Arr.new_at (k := .u64) (xs := List.replicate 8 0) rfl rfl) rfl (by kernel_rfl) ?_; intro w6 hg6 hs6 hT6))
  obtain ⟨b, o, rfl, hbb, hblt, _⟩ := hc4 0 (by have := HMbd.out; omega)
  rw [World.size_alloc] at hbb
  have hcel4 : ∀ j, j < M.length → w4.cell? ⟨b, o + j, none⟩ = some (.int .u8 (M.getD j 0)) := fun j hj => by
    obtain ⟨b', o', e, _, _, h⟩ := hc4 j hj
    cases e
    exact h
  have hB4 : Below w.heap.size w w4 := ((Below.refl _ w).alloc (Nat.le_refl _) (.cells ((List.replicate 32 0).map (Value.int .u8)).toArray 24)).trans (hb4.mono (by rw [World.size_alloc]; omega))
  have hR4 : Arr w4 w.heap.size .u8 24 (List.replicate 32 0) := Arr.below (Arr.new_at (k := .u8) (T := 24) (xs := List.replicate 32 0) (w := w) rfl rfl) hb4 (by rw [World.size_alloc]; omega)
  have hlt5 : b < w5.heap.size := Nat.lt_of_lt_of_le hblt hb5.size
  have hR5 := hR4.below hb5 hR4.lt
  have hB5 := hB4.trans (hb5.mono hB4.size)
  have hR6 : Arr w6 w.heap.size .u8 24 (List.replicate 32 0) := (hR5.alloc _).grown hg6 (by have := hR5.lt; simp; omega)
  have hB6 : Below w.heap.size w w6 := (hB5.alloc hB5.size _).grown hg6 (by rw [World.size_alloc]; have := hB5.size; omega) (fun j e => by cases e; exact hB5.size)
  have hcel6 : ∀ j, j < M.length → w6.cell? ⟨b, o + j, none⟩ = some (.int .u8 (M.getD j 0)) := fun j hj => by
    have h1 := (hb5.cell (p := ⟨b, o + j, none⟩) hblt).trans (hcel4 j hj)
    have h2 : (w5.alloc (.cells ((List.replicate 8 0).map (Value.int .u64)).toArray 32)).cell? ⟨b, o + j, none⟩ = w5.cell? ⟨b, o + j, none⟩ := World.cell?_alloc_lt _ _ _ hlt5
    exact (World.cell?_of_block (hg6.block b (by rw [World.size_alloc]; omega) (by simp; omega))).trans (h2.trans h1)
  have hlt6 : b < w6.heap.size := by rw [hs6, World.size_alloc]; omega
  have NT := Aside0.mk (show w.heap.size < w5.heap.size from hR5.lt)
  have Nb := Aside0.mk (And.intro hlt5 hbb)
  have Hc4 := Aside0.mk hcap4
  clear ho2 hb2 ho3 hb3 ho23 hb23 ho4 hb4 hc4 hcap4 hcel4 hB4 hR4 hR5 hB5 hb5 hg6 hs6 hlt5 hbb hblt
  go_loopw [5] (fun v wr => ∃ i J : Nat, i ≤ t ∧ J = 64 * i ∧ v = .int .i64 J ∧ Arr wr w5.heap.size .u64 32 (chn M i).st ∧ Arr wr w.heap.size .u8 24 (List.replicate 32 0) ∧ (∀ j, j < M.length → wr.cell? ⟨b, o + j, none⟩ = some (.int .u8 (M.getD j 0))) ∧ b < wr.heap.size ∧ Below w.heap.size w wr)
    (fun v _ => 64 * t + 64 - (intOf v).toNat)
  case atStart => exact ⟨0, 0, by omega, rfl, rfl, hT6, hR6, hcel6, hlt6, hB6⟩
  case round =>
    clear hT6 hR6 hcel6 hlt6 hB6
    obtain ⟨i, J, hi, hJ, rfl, hT, hR, hce, hbl, hB⟩ := hrel
    have hM1 := HMt.out
    have hM2 := HMbd.out
    obtain ⟨J2, hJ2⟩ : ∃ J2, J + 64 = J2 := ⟨_, rfl⟩
    have d1 : IntKind.i64.wrap ((J : Int) + 64) = (J2 : Int) := by rw [IntWalk.i64_in _ (by omega)]; omega
    have d2 : wrap64 ((J : Int) + 64) = (J2 : Int) := by rw [IntWalk.wrap64_in _ (by omega)]; omega
    by_cases hlt : i < t
    · skip
      have hJM : J2 ≤ M.length := by omega
      have hcut := cut_blk b o M.length c4 J J2 hJ2 hJM Hc4.out
      have hcs := chn_st M i (by omega)
      have hl8 : (chn M i).st.length = 8 := (chn_all M i (by omega)).2.2.2
      have hw8 := chn_w M i (by omega)
      rw [← hJ] at hcs
      obtain ⟨S, hS⟩ : ∃ S, (chn M i).st = S := ⟨_, rfl⟩
      obtain ⟨B, hBk⟩ : ∃ B, (M.drop J).take 64 = B := ⟨_, rfl⟩
      have hBl : B.length = 64 := by rw [← hBk, List.length_take, List.length_drop]; omega
      have hBb : B8s B := by rw [← hBk]; exact b8_part HMb.out _ _
      have hBc : ∀ j, j < 64 → wr.cell? ⟨b, o + J + j, none⟩ = some (.int .u8 (B.getD j 0)) := fun j hj => by
        rw [show o + J + j = o + (J + j) by omega, hce (J + j) (by omega), ← hBk]
        congr 2
        rw [List.getD_eq_getElem?_getD, List.getD_eq_getElem?_getD, List.getElem?_take, if_pos hj, List.getElem?_drop]
      have hlc : 64 ≤ c4 - J := by have := Hc4.out; omega
      rw [hS] at hcs hl8 hw8 hT
      rw [hBk] at hcs
      have HJ := Aside0.mk (show J2 = 64 * (i + 1) by omega)
      have Hlt := Aside0.mk hlt
      have Hcs := Aside0.mk hcs
      have Hl8 := Aside0.mk hl8
      have Hw8 := Aside0.mk hw8
      have HBl := Aside0.mk hBl
      have HBb := Aside0.mk hBb
      have HBc := Aside0.mk hBc
      have Hlc := Aside0.mk hlc
      have Hbl := Aside0.mk hbl
      have Hms := Aside0.mk (show 64 * t + 64 - J2 < 64 * t + 64 - J by omega)
      clear hi hJ hlt hcs hl8 hw8 hBl hBb hBc hlc hbl hM1 hM2 hJ2 hS hBk
      go_wp2
      refine wp_region_any (by kernel_rfl) ?_
      change wpAny _ _ _ _ _ _ _ (World.drew _)
      obtain ⟨w8, hw8⟩ : ∃ w8, wr.drew = w8 := ⟨_, rfl⟩
      have hT8 : Arr w8 w5.heap.size .u64 32 S := by rw [← hw8]; exact hT
      have hR8 : Arr w8 w.heap.size .u8 24 (List.replicate 32 0) := by rw [← hw8]; exact hR
      have hce8 : ∀ j, j < M.length → w8.cell? ⟨b, o + j, none⟩ = some (.int .u8 (M.getD j 0)) := by rw [← hw8]; exact hce
      have hBc8 : ∀ j, j < 64 → w8.cell? ⟨b, o + J + j, none⟩ = some (.int .u8 (B.getD j 0)) := by rw [← hw8]; exact HBc.out
      have hbl8 : b < w8.heap.size := by rw [← hw8]; exact Hbl.out
      have hB8 : Below w.heap.size w w8 := by rw [← hw8]; exact pw_below_drewN hB 1
      rw [hw8]
      clear hT hR hce hB hw8
      refine wpAny_take (i := 1) (oi := { dst := some 26, op := Go.Op.move (Go.Operand.tmp 3), type := 22, pos := "ref.go:97", after := #[], guard := none }) (v := ?v1) rfl (by kernel_rfl) (by kernel_rfl) (by kernel_rfl) (fun _ _ _ h => h) (Or.inl ⟨by rfl, fun w => ?hy1⟩) ?rest1
      case hy1 => go_simp; (first | done | (with_reducible rfl))
      simp only [Act.put, List.setIfInBounds_toArray, List.set_cons_zero, List.set_cons_succ]
      refine wpAny_take (i := 2) (oi := { dst := some 27, op := Go.Op.move (Go.Operand.tmp 5), type := 3, pos := "ref.go:97", after := #[], guard := none }) (v := ?v2) rfl (by kernel_rfl) (by kernel_rfl) (by kernel_rfl) (fun _ _ _ h => h) (Or.inl ⟨by rfl, fun w => ?hy2⟩) ?rest2
      case hy2 => go_simp; (first | done | (with_reducible rfl))
      simp only [Act.put, List.setIfInBounds_toArray, List.set_cons_zero, List.set_cons_succ]
      refine wpAny_take (i := 3) (oi := { dst := some 28, op := Go.Op.move (Go.Operand.tmp 5), type := 3, pos := "ref.go:97", after := #[], guard := none }) (v := ?v3) rfl (by kernel_rfl) (by kernel_rfl) (by kernel_rfl) (fun _ _ _ h => h) (Or.inl ⟨by rfl, fun w => ?hy3⟩) ?rest3
      case hy3 => go_simp; (first | done | (with_reducible rfl))
      simp only [Act.put, List.setIfInBounds_toArray, List.set_cons_zero, List.set_cons_succ]
      refine wpAny_take (i := 4) (oi := { dst := some 29, op := Go.Op.binOp Go.BinOp.add 3 (Go.Operand.tmp 28) (Go.Operand.const (Go.Value.int Go.IntKind.i64 64)) 3, type := 3, pos := "ref.go:97", after := #[{ on := 3, ground := Go.Ground.data }], guard := none }) (v := ?v4) rfl (by kernel_rfl) (by kernel_rfl) (by kernel_rfl) (fun _ _ _ h => h) (Or.inl ⟨by rfl, fun w => ?hy4⟩) ?rest4
      case hy4 => go_simp; (first | done | (with_reducible rfl))
      simp only [Act.put, List.setIfInBounds_toArray, List.set_cons_zero, List.set_cons_succ]
      refine wpAny_take (i := 5) (oi := { dst := some 30, op := Go.Op.slice 22 (Go.Operand.tmp 26) (some (Go.Operand.tmp 27)) (some (Go.Operand.tmp 29)) none, type := 22, pos := "ref.go:97", after := #[{ on := 1, ground := Go.Ground.data }, { on := 2, ground := Go.Ground.data }, { on := 4, ground := Go.Ground.data }], guard := none }) (v := ?v5) rfl (by kernel_rfl) (by kernel_rfl) (by kernel_rfl) (fun _ _ _ h => h) (Or.inl ⟨by rfl, fun w => ?hy5⟩) ?rest5
      case hy5 => go_simp; (first | done | (with_reducible rfl))
      simp only [Act.put, List.setIfInBounds_toArray, List.set_cons_zero, List.set_cons_succ]
      refine wpAny_ready (rs := [0]) (by kernel_rfl) (by simp) ?_
      refine AllReady.cons (o := { dst := some 25, op := Go.Op.load 32 (Go.Operand.tmp 4), type := 32, pos := "ref.go:97", after := #[], guard := none }) rfl (fun K hK => ?_) (AllReady.nil)
      rw [if_pos (by rfl)]
      refine wp_load_mid 32 (.tmp 4) rfl w5.heap.size 0 rfl (S.map (Value.int .u64)) _ (arr_range hT8) Tryd.underlying32 rfl (by rw [List.length_map, Hl8.out]; kernel_rfl) ?_
      refine hK _ _ ?_
      clear hK K
      try simp only [Act.put, List.setIfInBounds_toArray, List.set_cons_zero, List.set_cons_succ]
      refine wpAny_ready (rs := [6]) (by kernel_rfl) (by simp) ?_
      refine AllReady.cons (o := { dst := some 31, op := Go.Op.call { callee := Go.Callee.value (Go.Operand.func 23), args := #[Go.Operand.tmp 25, Go.Operand.tmp 30], argTypes := #[32, 22] }, type := 32, pos := "ref.go:97", after := #[{ on := 0, ground := Go.Ground.data }, { on := 5, ground := Go.Ground.data }], guard := none }) rfl (fun K hK => ?_) (AllReady.nil)
      go_simp
      go_at_call 23
      refine (refTurn_any S B Hl8.out HBl.out Hw8.out HBb.out b (o + J) (c4 - J) _ hbl8 Hlc.out hBc8).mono ?_
      rintro e w10 ⟨rfl, hb10⟩
      rw [← Hcs.out]
      refine hK _ _ ?_
      clear hK K
      try simp only [Act.put, List.setIfInBounds_toArray, List.set_cons_zero, List.set_cons_succ]
      have hT10 := hT8.below hb10 hT8.lt
      have hR10 := hR8.below hb10 hR8.lt
      have hce10 : ∀ j, j < M.length → w10.cell? ⟨b, o + j, none⟩ = some (.int .u8 (M.getD j 0)) := fun j hj => (hb10.cell (p := ⟨b, o + j, none⟩) hbl8).trans (hce8 j hj)
      have hbl10 : b < w10.heap.size := Nat.lt_of_lt_of_le hbl8 hb10.size
      have hB10 := hB8.trans (hb10.mono hB8.size)
      refine wpAny_ready (rs := [7]) (by kernel_rfl) (by simp) ?_
      refine AllReady.cons (o := { dst := none, op := Go.Op.store 32 (Go.Operand.tmp 4) (Go.Operand.tmp 31), type := 0, pos := "ref.go:97", after := #[{ on := 6, ground := Go.Ground.data }, { on := 6, ground := Go.Ground.chain }, { on := 0, ground := Go.Ground.phase }, { on := 1, ground := Go.Ground.phase }, { on := 2, ground := Go.Ground.phase }, { on := 3, ground := Go.Ground.phase }, { on := 4, ground := Go.Ground.phase }, { on := 5, ground := Go.Ground.phase }, { on := 6, ground := Go.Ground.phase }], guard := none }) rfl (fun K hK => ?_) (AllReady.nil)
      rw [if_pos (by rfl)]
      have hnl : (chn M (i + 1)).st.length = 8 := by rw [Hcs.out]; exact tr_len _ _ Hl8.out
      refine wp_store_arr 32 (.tmp 4) (.tmp 31) rfl w5.heap.size rfl rfl hT10 (by rw [hnl, Hl8.out]) (by rw [hnl]; kernel_rfl) ?_
      intro w11 hg11 hs11 hT11
      refine hK _ _ ?_
      clear hK K
      try simp only [Act.put, List.setIfInBounds_toArray, List.set_cons_zero, List.set_cons_succ]
      have hR11 : Arr w11 w.heap.size .u8 24 (List.replicate 32 0) := hR10.grown hg11 (by have := NT.out; simp; omega)
      have hce11 : ∀ j, j < M.length → w11.cell? ⟨b, o + j, none⟩ = some (.int .u8 (M.getD j 0)) := fun j hj => (World.cell?_of_block (hg11.block b hbl10 (by have := Nb.out.1; simp; omega))).trans (hce10 j hj)
      have hbl11 : b < w11.heap.size := by rw [hs11]; exact hbl10
      have hB11 : Below w.heap.size w w11 := hB10.grown hg11 hB10.size (fun j e => by cases e; exact Nat.le_of_lt NT.out)
      refine wpAny_done (by kernel_rfl) ?_ _
      clear hT8 hR8 hce8 hBc8 hbl8 hB8 hb10 hT10 hR10 hce10 hbl10 hB10 hg11 hs11 hcut hnl
      go_wp2
      go_roundw
      case rel => exact ⟨i + 1, J2, Hlt.out, HJ.out, by first | rfl | rw [d2] | rw [d1], hT11, hR11, hce11, hbl11, hB11⟩
      case measure =>
        first | exact Hms.out | (rw [d2]; exact Hms.out) | (rw [d1]; exact Hms.out)
    · have hJM : ¬ J2 ≤ M.length := by omega
      obtain rfl : i = t := by omega
      obtain ⟨S, hS⟩ : ∃ S, (chn M i).st = S := ⟨_, rfl⟩
      rw [hS] at hT HSl HSw
      clear hi hJ hlt hM1 hM2 hJ2 hce hbl
      go_wp2
      have hS8 := hT.alloc (.cells ((List.replicate 32 0).map (Value.int .u8)).toArray 24)
      have hR8 := hR.alloc (.cells ((List.replicate 32 0).map (Value.int .u8)).toArray 24)
      have hB8 := hB.alloc hB.size (.cells ((List.replicate 32 0).map (Value.int .u8)).toArray 24)
      have hU8 : Arr (wr.alloc (.cells ((List.replicate 32 0).map (Value.int .u8)).toArray 24)) wr.heap.size .u8 24 ((outs S).take 0 ++ List.replicate (32 - 0) 0) := Arr.new_at rfl rfl
      have N1 := Aside0.mk (show w5.heap.size < wr.heap.size from hT.lt)
      have N2 := Aside0.mk (show w.heap.size < wr.heap.size from hR.lt)
      clear hT hR hB hJM
      go_loopw [7] (fun v ww => ∃ k : Nat, k ≤ 32 ∧ v = .int .i64 k ∧ Arr ww wr.heap.size .u8 24 ((outs S).take k ++ List.replicate (32 - k) 0) ∧ Arr ww w5.heap.size .u64 32 S ∧ Arr ww w.heap.size .u8 24 (List.replicate 32 0) ∧ Below w.heap.size w ww)
        (fun v _ => 32 - (intOf v).toNat)
      case atStart => exact ⟨0, by omega, rfl, hU8, hS8, hR8, hB8⟩
      case round =>
        clear hU8 hS8 hR8 hB8
        obtain ⟨k, hk, rfl, hU, hT, hR, hB⟩ := hrel
        by_cases hlt : k < 32
        · have d0 : decide ((k : Int) < 32) = true := decide_eq_true (by omega)
          have dq : (k : Int) / 4 < 8 := by omega
          obtain ⟨x, hx⟩ : ∃ x, S.getD (k / 4) 0 = x := ⟨_, rfl⟩
          have c0 : wr.cell? ⟨w5.heap.size, k / 4, none⟩ = some (.int .u64 x) := by rw [hT.cell (i := k / 4) (by rw [HSl.out]; omega), hx]
          have hul : ((outs S).take k ++ List.replicate (32 - k) 0).length = 32 := by rw [List.length_append, List.length_take, List.length_replicate, outs_len, HSl.out]; omega
          have g1 := hU.cell (i := k) (by rw [hul]; exact hlt)
          have g0 := hU.free k
          have Hx := Aside0.mk hx
          have Hul := Aside0.mk hul
          clear hx hul
          have hr : (k : Int) % 4 = 0 ∨ (k : Int) % 4 = 1 ∨ (k : Int) % 4 = 2 ∨ (k : Int) % 4 = 3 := by omega
          rcases hr with hr | hr | hr | hr
          · have hy : (outs S).getD k 0 = x / 16777216 % 256 := by rw [outs_k S HSl.out k hlt, Hx.out, show k % 4 = 0 by omega]; rfl
            have hn := take_set (outs S) k (by rw [outs_len, HSl.out]; omega) 32 (by rw [outs_len, HSl.out])
            have h1 := hU.set k (x / 16777216 % 256)
            rw [hy] at hn
            rw [hn] at h1
            clear hy hn hk
            go_wp2
            refine ⟨⟨k + 1, hlt, rfl, h1, hT.other k _ (Nat.ne_of_lt N1.out), hR.other k _ (Nat.ne_of_lt N2.out), hB.setCell (Nat.le_of_lt N2.out) _⟩, ?_⟩
            show 32 - (k + 1) < 32 - k
            exact Nat.sub_lt_sub_left hlt (Nat.lt_succ_self k)
          · have hy : (outs S).getD k 0 = x / 65536 % 256 := by rw [outs_k S HSl.out k hlt, Hx.out, show k % 4 = 1 by omega]; rfl
            have hn := take_set (outs S) k (by rw [outs_len, HSl.out]; omega) 32 (by rw [outs_len, HSl.out])
            have h1 := hU.set k (x / 65536 % 256)
            rw [hy] at hn
            rw [hn] at h1
            clear hy hn hk
            go_wp2
            refine ⟨⟨k + 1, hlt, rfl, h1, hT.other k _ (Nat.ne_of_lt N1.out), hR.other k _ (Nat.ne_of_lt N2.out), hB.setCell (Nat.le_of_lt N2.out) _⟩, ?_⟩
            show 32 - (k + 1) < 32 - k
            exact Nat.sub_lt_sub_left hlt (Nat.lt_succ_self k)
          · have hy : (outs S).getD k 0 = x / 256 % 256 := by rw [outs_k S HSl.out k hlt, Hx.out, show k % 4 = 2 by omega]; rfl
            have hn := take_set (outs S) k (by rw [outs_len, HSl.out]; omega) 32 (by rw [outs_len, HSl.out])
            have h1 := hU.set k (x / 256 % 256)
            rw [hy] at hn
            rw [hn] at h1
            clear hy hn hk
            go_wp2
            refine ⟨⟨k + 1, hlt, rfl, h1, hT.other k _ (Nat.ne_of_lt N1.out), hR.other k _ (Nat.ne_of_lt N2.out), hB.setCell (Nat.le_of_lt N2.out) _⟩, ?_⟩
            show 32 - (k + 1) < 32 - k
            exact Nat.sub_lt_sub_left hlt (Nat.lt_succ_self k)
          · have hy : (outs S).getD k 0 = x % 256 := by rw [outs_k S HSl.out k hlt, Hx.out, show k % 4 = 3 by omega]; show x / 1 % 256 = _; rw [Int.ediv_one]
            have hn := take_set (outs S) k (by rw [outs_len, HSl.out]; omega) 32 (by rw [outs_len, HSl.out])
            have h1 := hU.set k (x % 256)
            rw [hy] at hn
            rw [hn] at h1
            clear hy hn hk
            go_wp2
            refine ⟨⟨k + 1, hlt, rfl, h1, hT.other k _ (Nat.ne_of_lt N1.out), hR.other k _ (Nat.ne_of_lt N2.out), hB.setCell (Nat.le_of_lt N2.out) _⟩, ?_⟩
            show 32 - (k + 1) < 32 - k
            exact Nat.sub_lt_sub_left hlt (Nat.lt_succ_self k)
        · obtain rfl : k = 32 := by omega
          rw [List.take_of_length_le (show (outs S).length ≤ 32 by rw [outs_len, HSl.out]; omega), Nat.sub_self, List.replicate_zero, List.append_nil] at hU
          have hol := Aside0.mk (show (outs S).length = 32 by rw [outs_len, HSl.out])
          clear hk hlt
          rw [← hS, ← Hsum.out] at hU hol
          clear hS
          go_wp2_with (first
            | (refine load_arr rfl 24 6 rfl _ rfl hU Tryd.underlying24 (by rw [hol.out]; kernel_rfl) ?_)
            | (refine store_arr rfl 24 2 49 rfl rfl w.heap.size rfl rfl hR (by rw [hol.out]; rfl) (by rw [hol.out]; kernel_rfl) ?_; intro w13 hg13 hs13 hA13; apply wpList_nil; rename_i hKK; refine hKK _ _ ?_; refine wp_ret ?_; exact ret_arr 2 24 (by kernel_rfl) rfl hA13 Tryd.underlying24 (by rw [hol.out]; kernel_rfl) rfl ⟨rfl, hB.grown hg13 hB.size (fun j e => by cases e; exact Nat.le_refl _)⟩))
end Go.Proofs.YtalghfnjelcpnaaDoor
