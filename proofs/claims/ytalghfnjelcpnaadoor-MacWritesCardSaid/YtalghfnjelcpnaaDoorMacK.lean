/- The document's seal: what the call returns, for every key and bytes. No conditions but the bytes' bounds. -/
import Derived.Test.YtalghfnjelcpnaaDoorMacJ
namespace Go.Proofs.YtalghfnjelcpnaaDoor
set_option linter.unusedVariables false
set_option linter.unusedSimpArgs false
open Go.RowKit Go.Proofs.YtalghfnjelcpnaaDoorW.PrintWords Go.Proofs.YtalghfnjelcpnaaDoorW.PrintMore Go.Proofs.YtalghfnjelcpnaaDoor.Db

theorem b8_sumL (l : List Int) : B8s (sumL l) := by
  intro x hx
  unfold sumL dig outs at hx
  obtain ⟨y, _, h⟩ := List.mem_flatMap.1 hx
  exact bigL_b8 y 4 x h
theorem b8_rep (n : Nat) : B8s (List.replicate n 0) := fun x hx => by
  rw [List.eq_of_mem_replicate hx]; exact ⟨by decide, by decide⟩
theorem b8_keyL {l : List Int} (h : B8s l) : B8s (keyL l) := by
  unfold keyL
  split
  · exact b8_sumL l
  · exact h
theorem b8_blk {l : List Int} (h : B8s l) : B8s (blk l) := b8_app (b8_keyL h) (b8_rep _)
theorem b8_wit {bs : List Int} (h : B8s bs) (x : Int) (h0 : 0 ≤ x) (h1 : x ≤ 255) : B8s (wit bs x) := by
  intro y hy
  obtain ⟨z, hz, rfl⟩ := List.mem_map.1 hy
  have hb := h z hz
  obtain ⟨a, rfl, ha⟩ : ∃ a : Nat, z = a ∧ a < 2 ^ 8 := ⟨z.toNat, by have := hb.1; omega, by have := hb.1; have := hb.2; omega⟩
  obtain ⟨c, rfl, hc⟩ : ∃ a : Nat, x = a ∧ a < 2 ^ 8 := ⟨x.toNat, by omega, by omega⟩
  rw [bits_xor_nat .u8 8 (by decide) (fun n h₀ h₁ => by show n % 256 = n; exact Int.emod_eq_of_lt h₀ h₁) a c ha hc]
  have := Nat.xor_lt_two_pow ha hc
  exact ⟨by omega, by omega⟩
theorem macL_of (key msg : List Int) : sumL (wit (blk key) 92 ++ sumL (wit (blk key) 54 ++ msg)) = macL key msg := by
  unfold macL dgOf
  rw [← Dg.all_app]
  rfl
theorem take_one (l : List Int) (k : Nat) (h : k < l.length) : l.take (k + 1) = l.take k ++ [l.getD k 0] := by
  rw [List.take_succ_eq_append_getElem h, List.getD_eq_getElem?_getD, List.getElem?_eq_getElem h]
  rfl
theorem own_ne {d : Kd Int} {e base : Nat} {ok : Nat → Prop} {W : World} {u v : Value} {xs : List Int} (h : d.R e W base (fun k => ok k ∧ some k ≠ v.ownBlock) u xs) : ∀ k, v.ownBlock = some k → True ∧ some k ≠ u.ownBlock :=
  fun k hk => ⟨trivial, fun e => (h.1 k e.symm).2 hk.symm⟩
set_option maxHeartbeats 4000000 in
set_option maxRecDepth 100000 in
theorem rMSum_any (A B : Option Addr) (ca cb : Nat) (l m : List Int) (w : World) (hb8 : B8s l) (hm8 : B8s m) (hA : Kd.C (Kd.int .u8) w A l.length l) (hc : l.length ≤ ca) (hl : l.length < 1073741824) (hB : Kd.C (Kd.int .u8) w B m.length m) (hm : m.length < 536870912) :
    Calls Tryd.prog 40 #[.slice A l.length ca, .slice B m.length cb] w fun e w' => e = .returned (AV .u8 (macL l m)) ∧ Below w.heap.size w w' := by
  have HA := Aside0.mk hA
  have HB := Aside0.mk hB
  have Hc := Aside0.mk hc
  have Hb := Aside0.mk hb8
  have Hl := Aside0.mk hl
  have Hm := Aside0.mk hm
  obtain ⟨ys, hys⟩ : ∃ ys, macL l m = ys := ⟨_, rfl⟩
  have hyl : ys.length = 32 := by rw [← hys]; exact macL_len _ _
  rw [hys]
  obtain ⟨bl, hbl⟩ : ∃ bl, blk l = bl := ⟨_, rfl⟩
  have hbll : bl.length = 64 := by rw [← hbl]; exact blk_len l
  have hbb : B8s bl := by rw [← hbl]; exact b8_blk hb8
  have hmac := macL_of l m
  rw [hys, hbl] at hmac
  obtain ⟨ib, hib⟩ : ∃ ib, wit bl 54 = ib := ⟨_, rfl⟩
  obtain ⟨ob, hob⟩ : ∃ ob, wit bl 92 = ob := ⟨_, rfl⟩
  rw [hib, hob] at hmac
  have Hia := Aside0.mk (show ∀ k, k < 64 → ib.getD k 0 = Go.bits .xor .u8 (bl.getD k 0) 54 from fun k hk => by rw [← hib]; exact wit_at bl 54 k (by omega))
  have Hoa := Aside0.mk (show ∀ k, k < 64 → ob.getD k 0 = Go.bits .xor .u8 (bl.getD k 0) 92 from fun k hk => by rw [← hob]; exact wit_at bl 92 k (by omega))
  have Hil := Aside0.mk (show ib.length = 64 by rw [← hib, wit_len, hbll])
  have Hol := Aside0.mk (show ob.length = 64 by rw [← hob, wit_len, hbll])
  have hb81 : B8s (ib ++ m) := b8_app (by rw [← hib]; exact b8_wit hbb 54 (by decide) (by decide)) hm8
  obtain ⟨im, him⟩ : ∃ z, ib ++ m = z := ⟨_, rfl⟩
  rw [him] at hmac hb81
  have Him := Aside0.mk him
  have Himl := Aside0.mk (show im.length = 64 + m.length by rw [← him, List.length_append, Hil.out])
  obtain ⟨z1, hz1⟩ : ∃ z, sumL im = z := ⟨_, rfl⟩
  rw [hz1] at hmac
  have Hz1 := Aside0.mk hz1
  have Hzl := Aside0.mk (show z1.length = 32 by rw [← hz1]; exact sumL_len _)
  have Hib8 := Aside0.mk hb81
  have hb82 : B8s (ob ++ z1) := b8_app (by rw [← hob]; exact b8_wit hbb 92 (by decide) (by decide)) (by rw [← hz1]; exact b8_sumL _)
  obtain ⟨om, hom⟩ : ∃ z, ob ++ z1 = z := ⟨_, rfl⟩
  rw [hom] at hmac hb82
  have Hom := Aside0.mk hom
  have Homl := Aside0.mk (show om.length = 96 by rw [← hom, List.length_append, Hol.out, Hzl.out])
  have Hob8 := Aside0.mk hb82
  have Hmac := Aside0.mk hmac
  have Hbl := Aside0.mk hbl
  have Hbll := Aside0.mk hbll
  have Hyl := Aside0.mk hyl
  have hO0 : Arr (w.alloc (.cells ((List.replicate 32 0).map (Value.int .u8)).toArray 24)) w.heap.size .u8 24 (List.replicate 32 0) := Arr.new_at (k := .u8) (T := 24) (xs := List.replicate 32 0) (w := w) rfl rfl
  have hB0 := (Below.refl w.heap.size w).alloc (Nat.le_refl _) (.cells ((List.replicate 32 0).map (Value.int .u8)).toArray 24)
  have HO0 := Aside0.mk hO0
  have HB0 := Aside0.mk hB0
  clear hA hB hc hb8 hm8 hl hm hys hyl hbl hbll hbb hmac hib hob hz1 him hom hb81 hb82 hO0 hB0
  go_enter Tryd.func40, Tryd.ntmps40
  go_wp2_with (first
    | (go_at_call 42; refine (rBlock_any A ca l _ Hb.out (Kd.C_below HA.out HB0.out) Hc.out Hl.out).mono ?_; rintro e w1 ⟨rfl, hb1⟩; rw [Hbl.out]; have hO1 := HO0.out.below hb1 HO0.out.lt; have hB1 := HB0.out.trans (hb1.mono HB0.out.size); clear hb1)
    | (refine store_arr rfl 30 5 11 rfl rfl w1.heap.size rfl rfl (Arr.new_at (k := .u8) (xs := List.replicate 64 0) rfl rfl) (by rw [Hbll.out]; rfl) (by rw [Hbll.out]; kernel_rfl) ?_; intro w2 hg2 hs2 hK2; have hO2 := (hO1.alloc (.cells ((List.replicate 64 0).map (Value.int .u8)).toArray 30)).grown hg2 (by have := hO1.lt; simp; omega); have hB2 := (hB1.alloc hB1.size (.cells ((List.replicate 64 0).map (Value.int .u8)).toArray 30)).grown hg2 (by rw [World.size_alloc]; have := hB1.size; omega) (fun j e => by cases e; exact hB1.size); clear hg2 hs2 hO1 hB1))
  have HO2 := Aside0.mk hO2
  have HK2 := Aside0.mk hK2
  have HB2 := Aside0.mk hB2
  clear hO2 hK2 hB2
  go_loopw [6, 7, 8] (fun va vb i wr => ∃ k : Nat, k ≤ 64 ∧ i = .int .i64 k ∧ Kd.R (Kd.int .u8) 5 wr w2.heap.size (fun _ => True) va (ib.take k) ∧ Kd.R (Kd.int .u8) 5 wr w2.heap.size (fun q => True ∧ some q ≠ va.ownBlock) vb (ob.take k) ∧ Below w2.heap.size w2 wr)
    (fun va vb i _ => 64 - (intOf i).toNat)
  case atStart => exact ⟨0, by omega, rfl, Kd.R_nil _ _ _ _ _, Kd.R_nil _ _ _ _ _, Below.refl _ _⟩
  case round =>
    obtain ⟨k, hk, rfl, hI, hO, hB⟩ := hrel
    by_cases hlt : k < 64
    · obtain ⟨y, hy⟩ : ∃ x, bl.getD k 0 = x := ⟨_, rfl⟩
      have hi1 := take_one ib k (by rw [Hil.out]; exact hlt)
      have ho1 := take_one ob k (by rw [Hol.out]; exact hlt)
      rw [Hia.out k hlt, hy] at hi1
      rw [Hoa.out k hlt, hy] at ho1
      have hil : (ib.take k).length = k := by rw [List.length_take, Hil.out]; omega
      have hol : (ob.take k).length = k := by rw [List.length_take, Hol.out]; omega
      obtain ⟨ia, hia⟩ : ∃ x, ib.take k = x := ⟨_, rfl⟩
      obtain ⟨oa, hoa⟩ : ∃ x, ob.take k = x := ⟨_, rfl⟩
      rw [hia] at hi1 hI hil
      rw [hoa] at ho1 hO hol
      have Hi1 := Aside0.mk hi1
      have Ho1 := Aside0.mk ho1
      have Hll := Aside0.mk (show ia.length ≤ 64 ∧ oa.length ≤ 64 by omega)
      have k1 := (HK2.out.below hB HK2.out.lt).cell (i := k) (by rw [Hbll.out]; exact hlt)
      rw [hy] at k1
      have HY := Aside0.mk (show ∀ W, Below w2.heap.size w2 W → W.cell? ⟨w1.heap.size, k, none⟩ = some (.int .u8 y) from fun W hW => by rw [← hy]; exact (HK2.out.below hW HK2.out.lt).cell (by rw [Hbll.out]; exact hlt))
      have d0 : decide ((k : Int) < 64) = true := by simp; omega
      have d2 : (k : Int) < 64 := by omega
      have Hlt := Aside0.mk hlt
      clear hy hlt hk hi1 ho1 hia hoa hil hol
      obtain ⟨Ai, ci, rfl⟩ := Kd.R_slice hI
      obtain ⟨Ao, co, rfl⟩ := Kd.R_slice hO
      go_wp2_with (first
        | ((with_reducible refine gate_dst (N := 22) rfl ?_); refine Kd.R_append (Kd.int .u8) (w0 := w2) w2.heap.size rfl (.tmp 16) (.tmp 21) 22 5 (.int .u8 0) 1 rfl Tryd.underlying22 info5d rfl (by decide) (by omega) (.slice Ai ia.length ci) ia (Go.bits .xor .u8 y 54) [.int .u8 (Go.bits .xor .u8 y 54)] (fun _ => True) (fun _ => False) rfl rfl rfl (fun _ h => h.elim) (fun _ _ => trivial) hI hB hB.size (by have := Hll.out.1; omega) ?_; intro v3 w3 hI3 hB3 hg3 hat3; have hO3 := Kd.R_after hO hg3 hat3; have k3 := HY.out w3 hB3; have HI3 : Kd.R (Kd.int .u8) 5 w3 w2.heap.size (fun q => True ∧ some q ≠ (Value.slice Ao oa.length co).ownBlock) v3 (ia ++ [Go.bits .xor .u8 y 54]) := Kd.R_reok rfl hI3 (own_ne hO3))
        | ((with_reducible refine gate_dst (N := 29) rfl ?_); refine Kd.R_append (Kd.int .u8) (w0 := w2) w2.heap.size rfl (.tmp 23) (.tmp 28) 22 5 (.int .u8 0) 1 rfl Tryd.underlying22 info5d rfl (by decide) (by omega) (.slice Ao oa.length co) oa (Go.bits .xor .u8 y 92) [.int .u8 (Go.bits .xor .u8 y 92)] (fun q => True ∧ some q ≠ v3.ownBlock) (fun _ => False) rfl rfl rfl (fun _ h => h.elim) (fun q hq => ⟨trivial, fun e => by have := Kd.R_lt hI3 q e.symm; omega⟩) hO3 hB3 hB3.size (by have := Hll.out.2; omega) ?_; intro v4 w4 hO4 hB4 hg4 hat4; have hI4 := Kd.R_mono (Kd.R_after HI3 hg4 hat4) (ok' := fun _ => True) (fun _ _ => trivial)))
      go_roundw
      case rel =>
        refine ⟨k + 1, Hlt.out, by first | rfl | rw [wk], ?_, ?_, hB4⟩
        · rw [Hi1.out]; exact hI4
        · rw [Ho1.out]; exact hO4
      case measure =>
        show 64 - (k + 1) < 64 - k
        exact Nat.sub_lt_sub_left Hlt.out (Nat.lt_succ_self k)
    · obtain rfl : k = 64 := by omega
      rw [List.take_of_length_le (Nat.le_of_eq Hil.out)] at hI
      rw [List.take_of_length_le (Nat.le_of_eq Hol.out)] at hO
      have hBw := HB2.out.trans (hB.mono HB2.out.size)
      have d0 : decide ((64 : Int) < 64) = false := by simp
      clear hk hlt
      obtain ⟨Ai, ci, rfl⟩ := Kd.R_slice hI
      obtain ⟨Ao, co, rfl⟩ := Kd.R_slice hO
      go_wp2_with (first
        | ((with_reducible refine gate_dst (N := 32) rfl ?_); refine Kd.R_append_rows (Kd.int .u8) (w0 := w2) w2.heap.size rfl (.tmp 30) (.tmp 31) 22 5 (.int .u8 0) 1 rfl Tryd.underlying22 info5d rfl (by decide) (by omega) (.slice Ai ib.length ci) ib m _ _ _ (fun _ => True) (fun _ => False) rfl rfl hI (Kd.C_below HB.out hBw) (fun _ _ h => h) (fun _ h => h.elim) (fun _ _ => trivial) hB hB.size (by have := Hil.out; have := Hm.out; omega) ?_; intro v3 w3 hI3 hB3 hg3 hat3; have hO3 := Kd.R_after hO hg3 hat3; rw [Him.out] at hI3; obtain ⟨A3, c3, rfl⟩ := Kd.R_slice hI3)
        | (go_at_call 22; refine Calls.mono (refSum_any _ _ _ _ (by first | exact Hob8.out | exact Hib8.out) (by first | exact (Kd.R_reads' hO6).2.2 | exact (Kd.R_reads' hI3).2.2) (by have := Himl.out; have := Homl.out; have := Hm.out; omega)) ?_; rintro e w4 ⟨rfl, hb4⟩; first | (rw [Hz1.out]; have hO4 := Kd.R_below hO3 hb4; have hB4 := hB3.trans (hb4.mono hB3.size); clear hb4) | (rw [Hmac.out]; have hB7 := hB6.trans (hb4.mono hB6.size); clear hb4))
        | (refine store_arr rfl 24 9 33 rfl rfl w4.heap.size rfl rfl (Arr.new_at (k := .u8) (xs := List.replicate 32 0) rfl rfl) (by rw [Hzl.out]; rfl) (by rw [Hzl.out]; kernel_rfl) ?_; intro w5 hg5 hs5 hA5; have hO5 := Kd.R_mono (ok' := fun _ => True) (Kd.R_grown1 (Kd.R_alloc hO4 (.cells ((List.replicate 32 0).map (Value.int .u8)).toArray 24)) rfl hg5 (fun e => by have := Kd.R_lt hO4 _ e.symm; omega)) (fun _ _ => trivial); have hB5 := (hB4.alloc hB4.size (.cells ((List.replicate 32 0).map (Value.int .u8)).toArray 24)).grown hg5 (by rw [World.size_alloc]; have := hB4.size; omega) (fun j e => by cases e; exact hB4.size); have hk5 := keyL_C hA5 Hzl.out; rw [Hzl.out] at hk5)
        | ((with_reducible refine gate_dst (N := 36) rfl ?_); refine Kd.R_append_rows (Kd.int .u8) (w0 := w2) w2.heap.size rfl (.tmp 34) (.tmp 35) 22 5 (.int .u8 0) 1 rfl Tryd.underlying22 info5d rfl (by decide) (by omega) (.slice Ao ob.length co) ob z1 (some ⟨w4.heap.size, 0, none⟩) 32 32 (fun _ => True) (fun _ => False) rfl rfl hO5 hk5 (fun _ _ h => h) (fun _ h => h.elim) (fun _ _ => trivial) hB5 hB5.size (by have := Hol.out; omega) ?_; intro v6 w6 hO6 hB6 hg6 hat6; rw [Hom.out] at hO6; obtain ⟨A6, c6, rfl⟩ := Kd.R_slice hO6)
        | (refine store_arr rfl 24 4 37 rfl rfl w.heap.size rfl rfl (HO2.out.below hB7 HO2.out.lt) (by rw [Hyl.out]; rfl) (by rw [Hyl.out]; kernel_rfl) ?_; intro w8 hg8 hs8 hA8))
      have hB8 := HB2.out.trans (hB7.mono HB2.out.size)
      exact ret_arr 4 24 (by kernel_rfl) rfl hA8 Tryd.underlying24 (by rw [Hyl.out]; kernel_rfl) rfl ⟨rfl, hB8.grown hg8 hB8.size (fun j e => by cases e; omega)⟩
end Go.Proofs.YtalghfnjelcpnaaDoor
