/- The document's key block: what the call returns, for every key. No conditions but the bytes' bounds. The document's seal: what the call returns, for every key and bytes. No conditions but the bytes' bounds. tag.Of at a size from 1 to 16, and the example of layer 5: what the calls return. Condition: the table 'rounds' holds what the program's text lays. Layer 5's great and wakes, a call that came in; TagOf: what the calls return. Condition: the table 'rounds' holds what the program's text lays. TagBegins: what the call returns. Condition: the table 'rounds' holds what the program's text lays. -/
import Derived.Test.YtalghfnjelcpnaaDoorMa
import Derived.Test.YtalghfnjelcpnaaDoorTeL
import Derived.Lib.SlBytesConst
namespace Go.Proofs.YtalghfnjelcpnaaDoor
set_option linter.unusedVariables false
set_option linter.unusedSimpArgs false
open Go.RowKit Go.Proofs.YtalghfnjelcpnaaDoorW.PrintWords Go.Proofs.YtalghfnjelcpnaaDoor.Db

theorem upg_set (xs ys : List Int) (k : Nat) (hk : k < ys.length) (hl : ys.length ≤ xs.length) : (ys.take k ++ xs.drop k).set k (ys.getD k 0) = ys.take (k + 1) ++ xs.drop (k + 1) := by
  have h1 : (ys.take k).length = k := by rw [List.length_take]; omega
  rw [List.set_append_right _ _ (by omega), h1, Nat.sub_self, List.drop_eq_getElem_cons (by omega : k < xs.length), List.set_cons_zero, List.take_succ_eq_append_getElem hk, List.append_assoc]
  simp [List.getD_eq_getElem?_getD, List.getElem?_eq_getElem hk]
theorem upg_len (ys : List Int) (k : Nat) (hk : k ≤ ys.length) (hl : ys.length ≤ 64) : (ys.take k ++ (List.replicate 64 0).drop k).length = 64 := by
  rw [List.length_append, List.length_take, List.length_drop, List.length_replicate]; omega
set_option maxHeartbeats 4000000 in
set_option maxRecDepth 100000 in
theorem rBlock_any (A : Option Addr) (cap : Nat) (l : List Int) (w : World) (hb8 : B8s l) (hC : Kd.C (Kd.int .u8) w A l.length l) (hc : l.length ≤ cap) (hl : l.length < 1073741824) :
    Calls Tryd.prog 42 #[.slice A l.length cap] w fun e w' => e = .returned (AV .u8 (blk l)) ∧ Below w.heap.size w w' := by
  have HC := Aside0.mk hC
  have Hc := Aside0.mk hc
  have Hb := Aside0.mk hb8
  have Hl := Aside0.mk hl
  obtain ⟨ys, hys⟩ : ∃ ys, blk l = ys := ⟨_, rfl⟩
  have hyl : ys.length = 64 := by rw [← hys]; exact blk_len l
  have Hyl := Aside0.mk hyl
  rw [hys]
  obtain ⟨hB0, hO0, hX0, hs0⟩ := two_blocks w
  have HB0 := Aside0.mk hB0
  have HO0 := Aside0.mk hO0
  have HX0 := Aside0.mk hX0
  have Hs0 := Aside0.mk hs0
  by_cases h : l.length ≤ 64
  · have d1 : decide ((l.length : Int) ≤ 64) = true := by simp; omega
    have hyz := Aside0.mk (show l ++ (List.replicate 64 0).drop l.length = ys by rw [← hys, blk_of l l (by rw [keyL, if_neg (by omega)])])
    have Hle := Aside0.mk h
    clear hC hc hb8 hl h hys hyl hB0 hO0 hX0 hs0
    go_enter Tryd.func42, Tryd.ntmps42
    go_wp2
    go_loopw [4] (fun i wr => ∃ k : Nat, k ≤ l.length ∧ i = .int .i64 k ∧ Arr wr w.heap.size .u8 30 (List.replicate 64 0) ∧ Arr wr (w.heap.size + 1) .u8 30 (l.take k ++ (List.replicate 64 0).drop k) ∧ Below w.heap.size w wr)
      (fun i _ => l.length - (intOf i).toNat)
    case atStart => exact ⟨0, by omega, rfl, HO0.out, HX0.out, HB0.out⟩
    case round =>
      obtain ⟨k, hk, rfl, hO, hX, hB⟩ := hrel
      by_cases hlt : k < l.length
      · obtain ⟨b1, o1, rfl, hb1, hc1⟩ := row_cells HC.out k hlt
        obtain ⟨y, hy⟩ : ∃ x, l.getD k 0 = x := ⟨_, rfl⟩
        rw [hy] at hc1
        have k1 := (hB.cell (p := ⟨b1, o1 + k, none⟩) hb1).trans hc1
        have f0 := hX.free k
        have f1 := hX.cell (i := k) (by rw [upg_len l k hk Hle.out]; have := Hle.out; omega)
        have h1 := hX.set k y
        rw [← hy, upg_set (List.replicate 64 0) l k hlt (by rw [List.length_replicate]; exact Hle.out), hy] at h1
        have d0 : decide ((k : Int) < l.length) = true := by simp; omega
        have d2 : (k : Int) < l.length := by omega
        have d3 : (k : Int) < 64 := by have := Hle.out; omega
        have wk : wrap64 ((k : Int) + 1) = ((k + 1 : Nat) : Int) := by
          rw [w64 (by omega) (by omega)]
          rfl
        have Hlt := Aside0.mk hlt
        clear hy hc1 hb1 hlt hk
        go_wp2
        go_roundw
        case rel => exact ⟨k + 1, Hlt.out, by first | rw [wk] | rfl, hO.other k _ (by omega), h1, hB.setCell (Nat.le_succ _) _⟩
        case measure =>
          try rw [wk]
          show l.length - (k + 1) < l.length - k
          exact Nat.sub_lt_sub_left Hlt.out (Nat.lt_succ_self k)
      · obtain rfl : k = l.length := by omega
        rw [List.take_of_length_le (Nat.le_refl _), hyz.out] at hX
        have d0 : decide ((l.length : Int) < l.length) = false := by simp
        clear hk hlt
        go_wp2_with (first
          | (refine load_arr rfl 30 3 rfl (w.heap.size + 1) rfl hX Tryd.underlying30 (by rw [Hyl.out]; kernel_rfl) ?_; refine store_arr rfl 30 2 22 rfl rfl w.heap.size rfl rfl hO (by rw [Hyl.out]; rfl) (by rw [Hyl.out]; kernel_rfl) ?_; intro w6 hg6 hs6 hA6))
        exact ret_arr 2 30 (by kernel_rfl) rfl hA6 Tryd.underlying30 (by rw [Hyl.out]; kernel_rfl) rfl ⟨rfl, hB.grown hg6 hB.size (fun j e => by cases e; omega)⟩
  · have d1 : decide ((l.length : Int) ≤ 64) = false := by simp; omega
    obtain ⟨zs, hzs⟩ : ∃ zs, sumL l = zs := ⟨_, rfl⟩
    have hzl : zs.length = 32 := by rw [← hzs]; exact sumL_len _
    have hyz := Aside0.mk (show zs ++ (List.replicate 64 0).drop zs.length = ys by rw [← hys, blk_of l zs (by rw [keyL, if_pos (by omega), hzs])])
    have Hzl := Aside0.mk hzl
    have Hzs := Aside0.mk hzs
    clear hC hc hb8 hl h hys hyl hzs hzl hB0 hO0 hX0 hs0
    go_enter Tryd.func42, Tryd.ntmps42
    go_wp2_with (first
      | (go_at_call 22; refine (refSum_any A cap l _ Hb.out (Kd.C_below HC.out HB0.out) Hl.out).mono ?_; rintro e w3 ⟨rfl, hb3⟩; rw [Hzs.out]; have hB3 := HB0.out.trans (hb3.mono HB0.out.size); have hO3 := HO0.out.below hb3 HO0.out.lt; have hX3 := HX0.out.below hb3 HX0.out.lt; clear hb3)
      | (refine store_arr rfl 24 5 24 rfl rfl w3.heap.size rfl rfl (Arr.new_at (k := .u8) (xs := List.replicate 32 0) rfl rfl) (by rw [Hzl.out]; rfl) (by rw [Hzl.out]; kernel_rfl) ?_; intro w4 hg4 hs4 hA4; have hO4 := (hO3.alloc (.cells ((List.replicate 32 0).map (Value.int .u8)).toArray 24)).grown hg4 (by have := hO3.lt; simp; omega); have hX4 := (hX3.alloc (.cells ((List.replicate 32 0).map (Value.int .u8)).toArray 24)).grown hg4 (by have := hX3.lt; simp; omega); have hB4 := (hB3.alloc hB3.size (.cells ((List.replicate 32 0).map (Value.int .u8)).toArray 24)).grown hg4 (by rw [World.size_alloc]; have := hB3.size; omega) (fun j e => by cases e; exact hB3.size); have N4 := Aside0.mk hX3.lt; clear hg4 hs4 hO3 hX3 hB3))
    go_loopw [6] (fun i wr => ∃ k : Nat, k ≤ 32 ∧ i = .int .i64 k ∧ Arr wr w.heap.size .u8 30 (List.replicate 64 0) ∧ Arr wr (w.heap.size + 1) .u8 30 (zs.take k ++ (List.replicate 64 0).drop k) ∧ Arr wr w3.heap.size .u8 24 zs ∧ Below w.heap.size w wr)
      (fun i _ => 32 - (intOf i).toNat)
    case atStart => exact ⟨0, by omega, rfl, hO4, hX4, hA4, hB4⟩
    case round =>
      clear hO4 hX4 hA4 hB4
      obtain ⟨k, hk, rfl, hO, hX, hA, hB⟩ := hrel
      by_cases hlt : k < 32
      · obtain ⟨y, hy⟩ : ∃ x, zs.getD k 0 = x := ⟨_, rfl⟩
        have k1 := hA.cell (i := k) (by rw [Hzl.out]; exact hlt)
        rw [hy] at k1
        have f0 := hX.free k
        have f1 := hX.cell (i := k) (by rw [upg_len zs k (by rw [Hzl.out]; exact hk) (by rw [Hzl.out]; decide)]; omega)
        have h1 := hX.set k y
        rw [← hy, upg_set (List.replicate 64 0) zs k (by rw [Hzl.out]; exact hlt) (by rw [List.length_replicate, Hzl.out]; decide), hy] at h1
        have d0 : decide ((k : Int) < 32) = true := by simp; omega
        have d2 : (k : Int) < 32 := by omega
        have d3 : (k : Int) < 64 := by omega
        have wk : wrap64 ((k : Int) + 1) = ((k + 1 : Nat) : Int) := by
          rw [w64 (by omega) (by omega)]
          rfl
        have Hlt := Aside0.mk hlt
        clear hy hlt hk
        go_wp2
        go_roundw
        case rel => exact ⟨k + 1, Hlt.out, by first | rw [wk] | rfl, hO.other k _ (by omega), h1, hA.other k _ (by have := N4.out; omega), hB.setCell (Nat.le_succ _) _⟩
        case measure =>
          try rw [wk]
          show 32 - (k + 1) < 32 - k
          exact Nat.sub_lt_sub_left Hlt.out (Nat.lt_succ_self k)
      · obtain rfl : k = 32 := by omega
        have d0 : decide ((32 : Int) < 32) = false := by simp
        have e0 : zs.take 32 = zs := List.take_of_length_le (Nat.le_of_eq Hzl.out)
        have e1 := hyz.out
        rw [Hzl.out] at e1
        rw [e0, e1] at hX
        clear hk hlt e0 e1
        go_wp2_with (first
          | (refine load_arr rfl 30 3 rfl (w.heap.size + 1) rfl hX Tryd.underlying30 (by rw [Hyl.out]; kernel_rfl) ?_; refine store_arr rfl 30 2 34 rfl rfl w.heap.size rfl rfl hO (by rw [Hyl.out]; rfl) (by rw [Hyl.out]; kernel_rfl) ?_; intro w6 hg6 hs6 hA6))
        exact ret_arr 2 30 (by kernel_rfl) rfl hA6 Tryd.underlying30 (by rw [Hyl.out]; kernel_rfl) rfl ⟨rfl, hB.grown hg6 hB.size (fun j e => by cases e; omega)⟩
end Go.Proofs.YtalghfnjelcpnaaDoor
namespace Go.Proofs.YtalghfnjelcpnaaDoor
set_option linter.unusedVariables false
set_option linter.unusedSimpArgs false
open Go.RowKit Go.Proofs.YtalghfnjelcpnaaDoorW.PrintWords Go.Proofs.YtalghfnjelcpnaaDoorW.PrintMore Go.Proofs.YtalghfnjelcpnaaDoor.Db

theorem b8_sumL (l : List Int) : B8s (sumL l) := by
  intro x hx
  unfold sumL dig outs at hx
  obtain ⟨y, _, h⟩ := List.mem_flatMap.1 hx
  exact bigL_b8 y 4 x h
theorem b8_rep (n : Nat) : B8s (List.replicate n 0) := fun x hx => by
  rw [List.eq_of_mem_replicate hx]; exact ⟨by decide, by decide⟩
theorem b8_keyL {l : List Int} (h : B8s l) : B8s (keyL l) := by
  unfold keyL
  split
  · exact b8_sumL l
  · exact h
theorem b8_blk {l : List Int} (h : B8s l) : B8s (blk l) := b8_app (b8_keyL h) (b8_rep _)
theorem b8_wit {bs : List Int} (h : B8s bs) (x : Int) (h0 : 0 ≤ x) (h1 : x ≤ 255) : B8s (wit bs x) := by
  intro y hy
  obtain ⟨z, hz, rfl⟩ := List.mem_map.1 hy
  have hb := h z hz
  obtain ⟨a, rfl, ha⟩ : ∃ a : Nat, z = a ∧ a < 2 ^ 8 := ⟨z.toNat, by have := hb.1; omega, by have := hb.1; have := hb.2; omega⟩
  obtain ⟨c, rfl, hc⟩ : ∃ a : Nat, x = a ∧ a < 2 ^ 8 := ⟨x.toNat, by omega, by omega⟩
  rw [bits_xor_nat .u8 8 (by decide) (fun n h₀ h₁ => by show n % 256 = n; exact Int.emod_eq_of_lt h₀ h₁) a c ha hc]
  have := Nat.xor_lt_two_pow ha hc
  exact ⟨by omega, by omega⟩
theorem macL_of (key msg : List Int) : sumL (wit (blk key) 92 ++ sumL (wit (blk key) 54 ++ msg)) = macL key msg := by
  unfold macL dgOf
  rw [← Dg.all_app]
  rfl
theorem take_one (l : List Int) (k : Nat) (h : k < l.length) : l.take (k + 1) = l.take k ++ [l.getD k 0] := by
  rw [List.take_succ_eq_append_getElem h, List.getD_eq_getElem?_getD, List.getElem?_eq_getElem h]
  rfl
theorem own_ne {d : Kd Int} {e base : Nat} {ok : Nat → Prop} {W : World} {u v : Value} {xs : List Int} (h : d.R e W base (fun k => ok k ∧ some k ≠ v.ownBlock) u xs) : ∀ k, v.ownBlock = some k → True ∧ some k ≠ u.ownBlock :=
  fun k hk => ⟨trivial, fun e => (h.1 k e.symm).2 hk.symm⟩
set_option maxHeartbeats 4000000 in
set_option maxRecDepth 100000 in
theorem rMSum_any (A B : Option Addr) (ca cb : Nat) (l m : List Int) (w : World) (hb8 : B8s l) (hm8 : B8s m) (hA : Kd.C (Kd.int .u8) w A l.length l) (hc : l.length ≤ ca) (hl : l.length < 1073741824) (hB : Kd.C (Kd.int .u8) w B m.length m) (hm : m.length < 536870912) :
    Calls Tryd.prog 40 #[.slice A l.length ca, .slice B m.length cb] w fun e w' => e = .returned (AV .u8 (macL l m)) ∧ Below w.heap.size w w' := by
  have HA := Aside0.mk hA
  have HB := Aside0.mk hB
  have Hc := Aside0.mk hc
  have Hb := Aside0.mk hb8
  have Hl := Aside0.mk hl
  have Hm := Aside0.mk hm
  obtain ⟨ys, hys⟩ : ∃ ys, macL l m = ys := ⟨_, rfl⟩
  have hyl : ys.length = 32 := by rw [← hys]; exact macL_len _ _
  rw [hys]
  obtain ⟨bl, hbl⟩ : ∃ bl, blk l = bl := ⟨_, rfl⟩
  have hbll : bl.length = 64 := by rw [← hbl]; exact blk_len l
  have hbb : B8s bl := by rw [← hbl]; exact b8_blk hb8
  have hmac := macL_of l m
  rw [hys, hbl] at hmac
  obtain ⟨ib, hib⟩ : ∃ ib, wit bl 54 = ib := ⟨_, rfl⟩
  obtain ⟨ob, hob⟩ : ∃ ob, wit bl 92 = ob := ⟨_, rfl⟩
  rw [hib, hob] at hmac
  have Hia := Aside0.mk (show ∀ k, k < 64 → ib.getD k 0 = Go.bits .xor .u8 (bl.getD k 0) 54 from fun k hk => by rw [← hib]; exact wit_at bl 54 k (by omega))
  have Hoa := Aside0.mk (show ∀ k, k < 64 → ob.getD k 0 = Go.bits .xor .u8 (bl.getD k 0) 92 from fun k hk => by rw [← hob]; exact wit_at bl 92 k (by omega))
  have Hil := Aside0.mk (show ib.length = 64 by rw [← hib, wit_len, hbll])
  have Hol := Aside0.mk (show ob.length = 64 by rw [← hob, wit_len, hbll])
  have hb81 : B8s (ib ++ m) := b8_app (by rw [← hib]; exact b8_wit hbb 54 (by decide) (by decide)) hm8
  obtain ⟨im, him⟩ : ∃ z, ib ++ m = z := ⟨_, rfl⟩
  rw [him] at hmac hb81
  have Him := Aside0.mk him
  have Himl := Aside0.mk (show im.length = 64 + m.length by rw [← him, List.length_append, Hil.out])
  obtain ⟨z1, hz1⟩ : ∃ z, sumL im = z := ⟨_, rfl⟩
  rw [hz1] at hmac
  have Hz1 := Aside0.mk hz1
  have Hzl := Aside0.mk (show z1.length = 32 by rw [← hz1]; exact sumL_len _)
  have Hib8 := Aside0.mk hb81
  have hb82 : B8s (ob ++ z1) := b8_app (by rw [← hob]; exact b8_wit hbb 92 (by decide) (by decide)) (by rw [← hz1]; exact b8_sumL _)
  obtain ⟨om, hom⟩ : ∃ z, ob ++ z1 = z := ⟨_, rfl⟩
  rw [hom] at hmac hb82
  have Hom := Aside0.mk hom
  have Homl := Aside0.mk (show om.length = 96 by rw [← hom, List.length_append, Hol.out, Hzl.out])
  have Hob8 := Aside0.mk hb82
  have Hmac := Aside0.mk hmac
  have Hbl := Aside0.mk hbl
  have Hbll := Aside0.mk hbll
  have Hyl := Aside0.mk hyl
  have hO0 : Arr (w.alloc (.cells ((List.replicate 32 0).map (Value.int .u8)).toArray 24)) w.heap.size .u8 24 (List.replicate 32 0) := Arr.new_at (k := .u8) (T := 24) (xs := List.replicate 32 0) (w := w) rfl rfl
  have hB0 := (Below.refl w.heap.size w).alloc (Nat.le_refl _) (.cells ((List.replicate 32 0).map (Value.int .u8)).toArray 24)
  have HO0 := Aside0.mk hO0
  have HB0 := Aside0.mk hB0
  clear hA hB hc hb8 hm8 hl hm hys hyl hbl hbll hbb hmac hib hob hz1 him hom hb81 hb82 hO0 hB0
  go_enter Tryd.func40, Tryd.ntmps40
  go_wp2_with (first
    | (go_at_call 42; refine (rBlock_any A ca l _ Hb.out (Kd.C_below HA.out HB0.out) Hc.out Hl.out).mono ?_; rintro e w1 ⟨rfl, hb1⟩; rw [Hbl.out]; have hO1 := HO0.out.below hb1 HO0.out.lt; have hB1 := HB0.out.trans (hb1.mono HB0.out.size); clear hb1)
    | (refine store_arr rfl 30 5 11 rfl rfl w1.heap.size rfl rfl (Arr.new_at (k := .u8) (xs := List.replicate 64 0) rfl rfl) (by rw [Hbll.out]; rfl) (by rw [Hbll.out]; kernel_rfl) ?_; intro w2 hg2 hs2 hK2; have hO2 := (hO1.alloc (.cells ((List.replicate 64 0).map (Value.int .u8)).toArray 30)).grown hg2 (by have := hO1.lt; simp; omega); have hB2 := (hB1.alloc hB1.size (.cells ((List.replicate 64 0).map (Value.int .u8)).toArray 30)).grown hg2 (by rw [World.size_alloc]; have := hB1.size; omega) (fun j e => by cases e; exact hB1.size); clear hg2 hs2 hO1 hB1))
  have HO2 := Aside0.mk hO2
  have HK2 := Aside0.mk hK2
  have HB2 := Aside0.mk hB2
  clear hO2 hK2 hB2
  go_loopw [6, 7, 8] (fun va vb i wr => ∃ k : Nat, k ≤ 64 ∧ i = .int .i64 k ∧ Kd.R (Kd.int .u8) 5 wr w2.heap.size (fun _ => True) va (ib.take k) ∧ Kd.R (Kd.int .u8) 5 wr w2.heap.size (fun q => True ∧ some q ≠ va.ownBlock) vb (ob.take k) ∧ Below w2.heap.size w2 wr)
    (fun va vb i _ => 64 - (intOf i).toNat)
  case atStart => exact ⟨0, by omega, rfl, Kd.R_nil _ _ _ _ _, Kd.R_nil _ _ _ _ _, Below.refl _ _⟩
  case round =>
    obtain ⟨k, hk, rfl, hI, hO, hB⟩ := hrel
    by_cases hlt : k < 64
    · obtain ⟨y, hy⟩ : ∃ x, bl.getD k 0 = x := ⟨_, rfl⟩
      have hi1 := take_one ib k (by rw [Hil.out]; exact hlt)
      have ho1 := take_one ob k (by rw [Hol.out]; exact hlt)
      rw [Hia.out k hlt, hy] at hi1
      rw [Hoa.out k hlt, hy] at ho1
      have hil : (ib.take k).length = k := by rw [List.length_take, Hil.out]; omega
      have hol : (ob.take k).length = k := by rw [List.length_take, Hol.out]; omega
      obtain ⟨ia, hia⟩ : ∃ x, ib.take k = x := ⟨_, rfl⟩
      obtain ⟨oa, hoa⟩ : ∃ x, ob.take k = x := ⟨_, rfl⟩
      rw [hia] at hi1 hI hil
      rw [hoa] at ho1 hO hol
      have Hi1 := Aside0.mk hi1
      have Ho1 := Aside0.mk ho1
      have Hll := Aside0.mk (show ia.length ≤ 64 ∧ oa.length ≤ 64 by omega)
      have k1 := (HK2.out.below hB HK2.out.lt).cell (i := k) (by rw [Hbll.out]; exact hlt)
      rw [hy] at k1
      have HY := Aside0.mk (show ∀ W, Below w2.heap.size w2 W → W.cell? ⟨w1.heap.size, k, none⟩ = some (.int .u8 y) from fun W hW => by rw [← hy]; exact (HK2.out.below hW HK2.out.lt).cell (by rw [Hbll.out]; exact hlt))
      have d0 : decide ((k : Int) < 64) = true := by simp; omega
      have d2 : (k : Int) < 64 := by omega
      have Hlt := Aside0.mk hlt
      clear hy hlt hk hi1 ho1 hia hoa hil hol
      obtain ⟨Ai, ci, rfl⟩ := Kd.R_slice hI
      obtain ⟨Ao, co, rfl⟩ := Kd.R_slice hO
      go_wp2_with (first
        | ((with_reducible refine gate_dst (N := 22) rfl ?_); refine Kd.R_append (Kd.int .u8) (w0 := w2) w2.heap.size rfl (.tmp 16) (.tmp 21) 22 5 (.int .u8 0) 1 rfl Tryd.underlying22 info5d rfl (by decide) (by omega) (.slice Ai ia.length ci) ia (Go.bits .xor .u8 y 54) [.int .u8 (Go.bits .xor .u8 y 54)] (fun _ => True) (fun _ => False) rfl rfl rfl (fun _ h => h.elim) (fun _ _ => trivial) hI hB hB.size (by have := Hll.out.1; omega) ?_; intro v3 w3 hI3 hB3 hg3 hat3; have hO3 := Kd.R_after hO hg3 hat3; have k3 := HY.out w3 hB3; have HI3 : Kd.R (Kd.int .u8) 5 w3 w2.heap.size (fun q => True ∧ some q ≠ (Value.slice Ao oa.length co).ownBlock) v3 (ia ++ [Go.bits .xor .u8 y 54]) := Kd.R_reok rfl hI3 (own_ne hO3))
        | ((with_reducible refine gate_dst (N := 29) rfl ?_); refine Kd.R_append (Kd.int .u8) (w0 := w2) w2.heap.size rfl (.tmp 23) (.tmp 28) 22 5 (.int .u8 0) 1 rfl Tryd.underlying22 info5d rfl (by decide) (by omega) (.slice Ao oa.length co) oa (Go.bits .xor .u8 y 92) [.int .u8 (Go.bits .xor .u8 y 92)] (fun q => True ∧ some q ≠ v3.ownBlock) (fun _ => False) rfl rfl rfl (fun _ h => h.elim) (fun q hq => ⟨trivial, fun e => by have := Kd.R_lt hI3 q e.symm; omega⟩) hO3 hB3 hB3.size (by have := Hll.out.2; omega) ?_; intro v4 w4 hO4 hB4 hg4 hat4; have hI4 := Kd.R_mono (Kd.R_after HI3 hg4 hat4) (ok' := fun _ => True) (fun _ _ => trivial)))
      go_roundw
      case rel =>
        refine ⟨k + 1, Hlt.out, by first | rfl | rw [wk], ?_, ?_, hB4⟩
        · rw [Hi1.out]; exact hI4
        · rw [Ho1.out]; exact hO4
      case measure =>
        show 64 - (k + 1) < 64 - k
        exact Nat.sub_lt_sub_left Hlt.out (Nat.lt_succ_self k)
    · obtain rfl : k = 64 := by omega
      rw [List.take_of_length_le (Nat.le_of_eq Hil.out)] at hI
      rw [List.take_of_length_le (Nat.le_of_eq Hol.out)] at hO
      have hBw := HB2.out.trans (hB.mono HB2.out.size)
      have d0 : decide ((64 : Int) < 64) = false := by simp
      clear hk hlt
      obtain ⟨Ai, ci, rfl⟩ := Kd.R_slice hI
      obtain ⟨Ao, co, rfl⟩ := Kd.R_slice hO
      go_wp2_with (first
        | ((with_reducible refine gate_dst (N := 32) rfl ?_); refine Kd.R_append_rows (Kd.int .u8) (w0 := w2) w2.heap.size rfl (.tmp 30) (.tmp 31) 22 5 (.int .u8 0) 1 rfl Tryd.underlying22 info5d rfl (by decide) (by omega) (.slice Ai ib.length ci) ib m _ _ _ (fun _ => True) (fun _ => False) rfl rfl hI (Kd.C_below HB.out hBw) (fun _ _ h => h) (fun _ h => h.elim) (fun _ _ => trivial) hB hB.size (by have := Hil.out; have := Hm.out; omega) ?_; intro v3 w3 hI3 hB3 hg3 hat3; have hO3 := Kd.R_after hO hg3 hat3; rw [Him.out] at hI3; obtain ⟨A3, c3, rfl⟩ := Kd.R_slice hI3)
        | (go_at_call 22; refine Calls.mono (refSum_any _ _ _ _ (by first | exact Hob8.out | exact Hib8.out) (by first | exact (Kd.R_reads' hO6).2.2 | exact (Kd.R_reads' hI3).2.2) (by have := Himl.out; have := Homl.out; have := Hm.out; omega)) ?_; rintro e w4 ⟨rfl, hb4⟩; first | (rw [Hz1.out]; have hO4 := Kd.R_below hO3 hb4; have hB4 := hB3.trans (hb4.mono hB3.size); clear hb4) | (rw [Hmac.out]; have hB7 := hB6.trans (hb4.mono hB6.size); clear hb4))
        | (refine store_arr rfl 24 9 33 rfl rfl w4.heap.size rfl rfl (Arr.new_at (k := .u8) (xs := List.replicate 32 0) rfl rfl) (by rw [Hzl.out]; rfl) (by rw [Hzl.out]; kernel_rfl) ?_; intro w5 hg5 hs5 hA5; have hO5 := Kd.R_mono (ok' := fun _ => True) (Kd.R_grown1 (Kd.R_alloc hO4 (.cells ((List.replicate 32 0).map (Value.int .u8)).toArray 24)) rfl hg5 (fun e => by have := Kd.R_lt hO4 _ e.symm; omega)) (fun _ _ => trivial); have hB5 := (hB4.alloc hB4.size (.cells ((List.replicate 32 0).map (Value.int .u8)).toArray 24)).grown hg5 (by rw [World.size_alloc]; have := hB4.size; omega) (fun j e => by cases e; exact hB4.size); have hk5 := keyL_C hA5 Hzl.out; rw [Hzl.out] at hk5)
        | ((with_reducible refine gate_dst (N := 36) rfl ?_); refine Kd.R_append_rows (Kd.int .u8) (w0 := w2) w2.heap.size rfl (.tmp 34) (.tmp 35) 22 5 (.int .u8 0) 1 rfl Tryd.underlying22 info5d rfl (by decide) (by omega) (.slice Ao ob.length co) ob z1 (some ⟨w4.heap.size, 0, none⟩) 32 32 (fun _ => True) (fun _ => False) rfl rfl hO5 hk5 (fun _ _ h => h) (fun _ h => h.elim) (fun _ _ => trivial) hB5 hB5.size (by have := Hol.out; omega) ?_; intro v6 w6 hO6 hB6 hg6 hat6; rw [Hom.out] at hO6; obtain ⟨A6, c6, rfl⟩ := Kd.R_slice hO6)
        | (refine store_arr rfl 24 4 37 rfl rfl w.heap.size rfl rfl (HO2.out.below hB7 HO2.out.lt) (by rw [Hyl.out]; rfl) (by rw [Hyl.out]; kernel_rfl) ?_; intro w8 hg8 hs8 hA8))
      have hB8 := HB2.out.trans (hB7.mono HB2.out.size)
      exact ret_arr 4 24 (by kernel_rfl) rfl hA8 Tryd.underlying24 (by rw [Hyl.out]; kernel_rfl) rfl ⟨rfl, hB8.grown hg8 hB8.size (fun j e => by cases e; omega)⟩
end Go.Proofs.YtalghfnjelcpnaaDoor
namespace Go.Proofs.YtalghfnjelcpnaaDoor
set_option linter.unusedVariables false
set_option linter.unusedSimpArgs false
open Go.RowKit Go.Proofs.YtalghfnjelcpnaaDoorW.PrintWords Go.Proofs.YtalghfnjelcpnaaDoor.Db

section
variable {ops : Array Oper} {rest : List Oper} {o : Oper} {a : Act} {Q : Exit → Act → World → Prop} {W : World}
theorem conv_str (hgd : o.guard = none) (x : Operand) (s : ByteArray) (ho : o.op = .convert 9 22 x) (hx : a.eval x = .string s) (hs : s.size ≤ 100)
    (K : ∀ b c w1, b < w1.heap.size → (bytesOf s).length ≤ c → Kd.C (Kd.int .u8) w1 (some ⟨b, 0, none⟩) (bytesOf s).length (bytesOf s) → Below W.heap.size W w1 → wpList Tryd.prog ops Q rest (a.put o.dst (.slice (some ⟨b, 0, none⟩) (bytesOf s).length c)) w1) :
    wpList Tryd.prog ops Q (o :: rest) a W := by
  refine wpList_plain hgd fun K' hK => ?_
  have h := print_bytes (P := Tryd.prog) 9 22 5 Tryd.underlying9 Tryd.underlying22 Tryd.underlying5 s W
  have hl := bytesOf_length s
  have hc : s.size ≤ grownCap W s.size 0 5 := grownCap_ge W s.size 0 5
  have hr := bytes_reads W 5 s (by omega)
  have hC : Kd.C (Kd.int .u8) (Lib.bytesWorld W 5 s) (some ⟨W.heap.size, 0, none⟩) (bytesOf s).length (bytesOf s) := by
    rw [hl]; exact Kd.C_of_reads hr
  have hK2 := K W.heap.size (grownCap W s.size 0 5) (Lib.bytesWorld W 5 s) (by rw [Lib.bytesWorld_size]; omega) (by rw [hl]; exact hc) hC (bytes_below (Below.refl _ _) (Nat.le_refl _) 5 s)
  rw [hl] at hK2
  have hr2 : (execOp a.eval o).run Tryd.prog W = .ok (.value (.slice (some ⟨W.heap.size, 0, none⟩) s.size (grownCap W s.size 0 5))) (Lib.bytesWorld W 5 s) := by
    unfold execOp
    simp only [ho, hx, Sem.run_bind, Sem.run_pure, h, Result.andThen_ok]
  unfold Oper.wp
  rw [hr2]
  exact hK _ _ hK2
end
theorem Frame_any (A : Option Addr) (n cap : Nat) (ps : List (List Int)) (w : World) (hn : ps.length = n) (hp : ∀ p ∈ ps, p.length ≤ 1000) (hl : ps.length ≤ 600) (hC : Kd.C (Kd.slice 5 (Kd.int .u8)) w A ps.length ps) (hc : ps.length ≤ cap) :
    Calls Tryd.prog 50 #[.slice A n cap] w fun e w' => ∃ B c, e = .returned (.slice B (TeL.fr ps).length c) ∧ (TeL.fr ps).length ≤ c ∧ Kd.C (Kd.int .u8) w' B (TeL.fr ps).length (TeL.fr ps) ∧ Below w.heap.size w w' := by
  subst hn
  refine (Te.tag_Frame.calls (ps.length + 11) A cap ps (TeL.fr ps) w hC hc (TeL.frame_ev ps hp hl _ (by omega))).mono ?_
  rintro e w' ⟨v, rfl, ho, hb⟩
  obtain ⟨B, c, rfl, h1, h2⟩ := Kd.R_reads ho
  exact ⟨B, c, rfl, h1, h2, hb⟩
theorem rFrame_any (A : Option Addr) (n cap : Nat) (ps : List (List Int)) (w : World) (hn : ps.length = n) (hp : ∀ p ∈ ps, p.length ≤ 1000) (hl : ps.length ≤ 600) (hC : Kd.C (Kd.slice 5 (Kd.int .u8)) w A ps.length ps) (hc : ps.length ≤ cap) :
    Calls Tryd.prog 53 #[.slice A n cap] w fun e w' => ∃ B c, e = .returned (.slice B (TeL.fr ps).length c) ∧ (TeL.fr ps).length ≤ c ∧ Kd.C (Kd.int .u8) w' B (TeL.fr ps).length (TeL.fr ps) ∧ Below w.heap.size w w' := by
  subst hn
  refine (Te.incognitoref05_Frame.calls (ps.length + 11) A cap ps (TeL.fr ps) w hC hc (TeL.refframe_ev ps hp hl _ (by omega))).mono ?_
  rintro e w' ⟨v, rfl, ho, hb⟩
  obtain ⟨B, c, rfl, h1, h2⟩ := Kd.R_reads ho
  exact ⟨B, c, rfl, h1, h2, hb⟩
theorem Enc_n (A : Option Addr) (n cap : Nat) (l : List Int) (w : World) (hn : l.length = n) (hb : B8s l) (hl : l.length ≤ 1000) (hC : Kd.C (Kd.int .u8) w A l.length l) (hc : l.length ≤ cap) :
    Calls Tryd.prog 70 #[.slice A n cap] w fun e w' => e = .returned (.string (strOfNums (TeL.encL l))) ∧ Below w.heap.size w w' := by
  subst hn
  exact (Te.hex_Encode.calls (l.length + 1) A cap l _ w hC hc (TeL.enc_ev l hb (by omega) _ (by omega)))
theorem rEnc_n (A : Option Addr) (n cap : Nat) (l : List Int) (w : World) (hn : l.length = n) (hb : B8s l) (hl : l.length ≤ 1000) (hC : Kd.C (Kd.int .u8) w A l.length l) (hc : l.length ≤ cap) :
    Calls Tryd.prog 71 #[.slice A n cap] w fun e w' => e = .returned (.string (strOfNums (TeL.encL l))) ∧ Below w.heap.size w w' := by
  subst hn
  exact (Te.incognitoref01_Encode.calls (l.length + 1) A cap l _ w hC hc (TeL.refenc_ev l hb (by omega) _ (by omega)))
/-- The parts of a tag's frame. -/
def tps (dom val : ByteArray) : List (List Int) := [[105, 110, 99, 111, 103, 110, 105, 116, 111], bytesOf dom, bytesOf val]
/-- A tag. -/
def tagS (l : List Int) (dom val : ByteArray) (n : Nat) : ByteArray := strOfNums (TeL.encL ((macL l (TeL.fr (tps dom val))).take n))
theorem tps_len (dom val : ByteArray) : (tps dom val).length = 3 := rfl
theorem tps_le (dom val : ByteArray) (hd : dom.size ≤ 100) (hv : val.size ≤ 100) : ∀ p ∈ tps dom val, p.length ≤ 1000 := by
  intro p hp
  simp only [tps, List.mem_cons, List.not_mem_nil, or_false] at hp
  rcases hp with rfl | rfl | rfl
  · decide
  · rw [bytesOf_length]; omega
  · rw [bytesOf_length]; omega
theorem b8_bytesOf (s : ByteArray) : B8s (bytesOf s) := by
  intro x hx
  unfold bytesOf at hx
  obtain ⟨b, _, rfl⟩ := List.mem_map.1 hx
  exact ⟨Int.natCast_nonneg _, by have := b.toNat_lt; omega⟩
theorem b8_fr (dom val : ByteArray) : B8s (TeL.fr (tps dom val)) := by
  refine TeL.fr_bytes _ fun p hp => ?_
  simp only [tps, List.mem_cons, List.not_mem_nil, or_false] at hp
  rcases hp with rfl | rfl | rfl
  · intro x hx; simp at hx; omega
  · exact b8_bytesOf dom
  · exact b8_bytesOf val
theorem fr_small (dom val : ByteArray) (hd : dom.size ≤ 100) (hv : val.size ≤ 100) : (TeL.fr (tps dom val)).length ≤ 3024 := TeL.fr_len (tps dom val) (tps_le dom val hd hv)
theorem tps_C (w : World) (b0 : Nat) (b1 b2 : Nat) (c1 c2 : Nat) (dom val : ByteArray) (h0 : Kd.C (Kd.int .u8) w (some ⟨b0, 0, none⟩) 9 [105, 110, 99, 111, 103, 110, 105, 116, 111])
    (h1 : Kd.C (Kd.int .u8) w (some ⟨b1, 0, none⟩) (bytesOf dom).length (bytesOf dom)) (h2 : Kd.C (Kd.int .u8) w (some ⟨b2, 0, none⟩) (bytesOf val).length (bytesOf val)) (k1 : (bytesOf dom).length ≤ c1) (k2 : (bytesOf val).length ≤ c2) :
    Kd.C (Kd.slice 5 (Kd.int .u8)) (w.alloc (.cells #[.slice (some ⟨b0, 0, none⟩) 9 9, .slice (some ⟨b1, 0, none⟩) (bytesOf dom).length c1, .slice (some ⟨b2, 0, none⟩) (bytesOf val).length c2] 22)) (some ⟨w.heap.size, 0, none⟩) (tps dom val).length (tps dom val) :=
  args_C w [.slice (some ⟨b0, 0, none⟩) 9 9, .slice (some ⟨b1, 0, none⟩) (bytesOf dom).length c1, .slice (some ⟨b2, 0, none⟩) (bytesOf val).length c2] (tps dom val) (show 3 ≤ 9223372036854775807 by decide) fun i p hp => by
    unfold tps at hp
    match i with
    | 0 =>
      obtain rfl : [105, 110, 99, 111, 103, 110, 105, 116, 111] = p := by simpa using hp
      exact ⟨_, 9, rfl, by decide, h0⟩
    | 1 =>
      obtain rfl : bytesOf dom = p := by simpa using hp
      exact ⟨_, c1, rfl, k1, h1⟩
    | 2 =>
      obtain rfl : bytesOf val = p := by simpa using hp
      exact ⟨_, c2, rfl, k2, h2⟩
    | i + 3 => simp at hp
theorem take_C {w : World} {g : Nat} {zs : List Int} (h : Arr w g .u8 24 zs) (hl : zs.length = 32) (n : Nat) (hn : n ≤ 32) : Kd.C (Kd.int .u8) w (some ⟨g, 0, none⟩) (zs.take n).length (zs.take n) := by
  have hh := (Kd.reads_of_C (d := (0 : Int)) (keyL_C h hl))
  have hr : ReadsInt w .u8 (some ⟨g, 0, none⟩) zs.length zs := hh
  have := hr.take_ n (by omega)
  rw [show (zs.take n).length = n by rw [List.length_take]; omega]
  exact Kd.C_of_reads this
theorem row_C9 (w : World) : Kd.C (Kd.int .u8) (w.alloc (.cells #[.int .u8 105, .int .u8 110, .int .u8 99, .int .u8 111, .int .u8 103, .int .u8 110, .int .u8 105, .int .u8 116, .int .u8 111] 5 (9, 10))) (some ⟨w.heap.size, 0, none⟩) 9 [105, 110, 99, 111, 103, 110, 105, 116, 111] :=
  lit_C (bs := [105, 110, 99, 111, 103, 110, 105, 116, 111]) (row_new w _) (by decide)
theorem inc_below {w w1 : World} {o : Obj} (h : Below (w.alloc o).heap.size (w.alloc o) w1) : Below w.heap.size w w1 := ((Below.refl _ w).alloc (Nat.le_refl _) o).trans (h.mono (by rw [World.size_alloc]; omega))
set_option maxHeartbeats 4000000 in
set_option maxRecDepth 100000 in
theorem tagOf_any (A : Option Addr) (ca : Nat) (l : List Int) (dom val : ByteArray) (n : Nat) (w : World) (hR : Rounds w) (hl8 : B8s l) (hA : Kd.C (Kd.int .u8) w A l.length l) (ha : l.length ≤ ca) (hl : l.length < 1073741824)
    (hd : dom.size ≤ 100) (hv : val.size ≤ 100) (h1 : 1 ≤ n) (h2 : n ≤ 16) :
    Calls Tryd.prog 48 #[.slice A l.length ca, .string dom, .int .i64 n, .string val] w fun e w' => e = .returned (.tuple #[.string (tagS l dom val n), .int .i64 0]) ∧ Below w.heap.size w w' := by
  have d1 : decide ((n : Int) < 1) = false := by simp; omega
  have d2 : decide (16 < (n : Int)) = false := by simp; omega
  have d3 : (n : Int) ≤ 32 := by omega
  have cv := fun w => Go.Lib.run_convert_bytes_const (P := Tryd.prog) w 22 5 #[.int .u8 105, .int .u8 110, .int .u8 99, .int .u8 111, .int .u8 103, .int .u8 110, .int .u8 105, .int .u8 116, .int .u8 111] 9 9 Tryd.underlying22 Tryd.underlying5
  have HR := Aside0.mk hR
  have hpos := Aside0.mk hR.pos
  have HA := Aside0.mk hA
  have Ha := Aside0.mk ha
  have Hl := Aside0.mk hl
  have Hd := Aside0.mk hd
  have Hv := Aside0.mk hv
  have Hn := Aside0.mk h2
  obtain ⟨S, hS⟩ : ∃ S, macL l (TeL.fr (tps dom val)) = S := ⟨_, rfl⟩
  have hSl : S.length = 32 := by rw [← hS]; exact macL_len _ _
  have HS := Aside0.mk (show macL l ([TeL.fr (tps dom val)] : List (List Int)).flatten = S by rw [List.flatten_singleton, hS])
  have HSl := Aside0.mk hSl
  have HT := Aside0.mk (show (S.take n).length = n by rw [List.length_take]; omega)
  have HT8 := Aside0.mk (show B8s (S.take n) from fun x hx => by have := List.mem_of_mem_take hx; rw [← hS] at this; exact b8_sumL _ x this)
  have HU := Aside0.mk (show strOfNums (TeL.encL (S.take n)) = tagS l dom val n by rw [← hS]; rfl)
  have Hf := Aside0.mk (fr_small dom val hd hv)
  have Hp := Aside0.mk (tps_le dom val hd hv)
  clear hR hl8 hA ha hl hd hv h1 h2 hS hSl
  obtain ⟨F, hF⟩ : ∃ F, TeL.fr (tps dom val) = F := ⟨_, rfl⟩
  rw [hF] at HS Hf
  have HF := Aside0.mk hF
  clear hF
  go_enter Tryd.func48, Tryd.ntmps48
  go_wp2_with (first
    | ((with_reducible refine gate_dst (N := 21) rfl ?_); refine conv_str rfl (.tmp 20) dom rfl rfl Hd.out ?_; intro b1 c1 w1 hb1 hk1 hC1 hB1; have hI1 := Kd.C_below (row_C9 w) hB1; have hB1' := inc_below hB1; clear hB1)
    | ((with_reducible refine gate_dst (N := 23) rfl ?_); refine conv_str rfl (.tmp 22) val rfl rfl Hv.out ?_; intro b2 c2 w2 hb2 hk2 hC2 hB2; have hI2 := Kd.C_below hI1 hB2; have hC1b := Kd.C_below hC1 hB2; have hB2' := hB1'.trans (hB2.mono hB1'.size); clear hB2 hI1 hC1 hB1')
    | (go_at_call 50; refine (Frame_any (some ⟨w2.heap.size, 0, none⟩) 3 3 (tps dom val) _ rfl Hp.out (by rw [tps_len]; decide) (tps_C w2 w.heap.size b1 b2 c1 c2 dom val hI2 hC1b hC2 hk1 hk2) (by rw [tps_len]; decide)).mono ?_; rintro e w3 ⟨B, c3, rfl, hk3, hC3, hb3⟩; rw [HF.out] at hk3 hC3; rw [HF.out]; have hB3 := (hB2'.alloc hB2'.size _).trans (hb3.mono (by rw [World.size_alloc]; have := hB2'.size; omega)); clear hb3 hB2' hI2 hC1b hC2)
    | (go_at_call 39; refine (MSum_any A ca l (some ⟨w3.heap.size, 0, none⟩) 1 [F] _ ((HR.out.below hB3 hpos.out).below ((Below.refl _ _).alloc (Nat.le_refl _) _) (Nat.lt_of_lt_of_le hpos.out hB3.size)) (Kd.C_below (Kd.C_below HA.out hB3) ((Below.refl _ _).alloc (Nat.le_refl _) _)) Ha.out Hl.out (arg1_C w3 B c3 F hk3 hC3) (by rw [List.flatten_singleton]; have := Hf.out; omega)).mono ?_; rintro e w4 ⟨rfl, hb4⟩; rw [HS.out]; have hB4 := (hB3.alloc hB3.size _).trans (hb4.mono (by rw [World.size_alloc]; have := hB3.size; omega)); clear hb4 hB3)
    | (refine store_arr rfl 24 10 27 rfl rfl w4.heap.size rfl rfl (Arr.new_at (k := .u8) (xs := List.replicate 32 0) rfl rfl) (by rw [HSl.out]; rfl) (by rw [HSl.out]; kernel_rfl) ?_; intro w5 hg5 hs5 hA5; have hB5 := (hB4.alloc hB4.size (.cells ((List.replicate 32 0).map (Value.int .u8)).toArray 24)).grown hg5 (by rw [World.size_alloc]; have := hB4.size; omega) (fun j e => by cases e; exact hB4.size); clear hg5 hs5 hB4)
    | (go_at_call 70; refine (Enc_n (some ⟨w4.heap.size, 0, none⟩) n 32 (S.take n) w5 HT.out HT8.out (by have := HT.out; have := Hn.out; omega) (take_C hA5 HSl.out n (by have := Hn.out; omega)) (by have := HT.out; have := Hn.out; omega)).mono ?_; rintro e w6 ⟨rfl, hb6⟩; rw [HU.out]; have hB6 := hB5.trans (hb6.mono hB5.size); clear hb6))
  go_ret2
  exact ⟨rfl, hB6⟩
set_option maxHeartbeats 4000000 in
set_option maxRecDepth 100000 in
theorem refOf_any (A : Option Addr) (ca : Nat) (l : List Int) (dom val : ByteArray) (n : Nat) (w : World) (hR : Rounds w) (hl8 : B8s l) (hA : Kd.C (Kd.int .u8) w A l.length l) (ha : l.length ≤ ca) (hl : l.length < 1073741824)
    (hd : dom.size ≤ 100) (hv : val.size ≤ 100) (h1 : 1 ≤ n) (h2 : n ≤ 16) :
    Calls Tryd.prog 49 #[.slice A l.length ca, .string dom, .string val, .int .i64 n] w fun e w' => e = .returned (.string (tagS l dom val n)) ∧ Below w.heap.size w w' := by
  have d3 : (n : Int) ≤ 32 := by omega
  have cv := fun w => Go.Lib.run_convert_bytes_const (P := Tryd.prog) w 22 5 #[.int .u8 105, .int .u8 110, .int .u8 99, .int .u8 111, .int .u8 103, .int .u8 110, .int .u8 105, .int .u8 116, .int .u8 111] 9 9 Tryd.underlying22 Tryd.underlying5
  have HR := Aside0.mk hR
  have hpos := Aside0.mk hR.pos
  have HA := Aside0.mk hA
  have Ha := Aside0.mk ha
  have Hl8 := Aside0.mk hl8
  have Hl := Aside0.mk hl
  have Hd := Aside0.mk hd
  have Hv := Aside0.mk hv
  have Hn := Aside0.mk h2
  obtain ⟨S, hS⟩ : ∃ S, macL l (TeL.fr (tps dom val)) = S := ⟨_, rfl⟩
  have hSl : S.length = 32 := by rw [← hS]; exact macL_len _ _
  have HS := Aside0.mk hS
  have HSl := Aside0.mk hSl
  have HT := Aside0.mk (show (S.take n).length = n by rw [List.length_take]; omega)
  have HT8 := Aside0.mk (show B8s (S.take n) from fun x hx => by have := List.mem_of_mem_take hx; rw [← hS] at this; exact b8_sumL _ x this)
  have HU := Aside0.mk (show strOfNums (TeL.encL (S.take n)) = tagS l dom val n by rw [← hS]; rfl)
  have Hf := Aside0.mk (fr_small dom val hd hv)
  have Hp := Aside0.mk (tps_le dom val hd hv)
  clear hR hl8 hA ha hl hd hv h1 h2 hS hSl
  obtain ⟨F, hF⟩ : ∃ F, TeL.fr (tps dom val) = F := ⟨_, rfl⟩
  rw [hF] at HS Hf
  have HF := Aside0.mk hF
  have HF8 := Aside0.mk (show B8s F by rw [← hF]; exact b8_fr dom val)
  clear hF
  go_enter Tryd.func49, Tryd.ntmps49
  go_wp2_with (first
    | ((with_reducible refine gate_dst (N := 14) rfl ?_); refine conv_str rfl (.tmp 13) dom rfl rfl Hd.out ?_; intro b1 c1 w1 hb1 hk1 hC1 hB1; have hI1 := Kd.C_below (row_C9 w) hB1; have hB1' := inc_below hB1; clear hB1)
    | ((with_reducible refine gate_dst (N := 16) rfl ?_); refine conv_str rfl (.tmp 15) val rfl rfl Hv.out ?_; intro b2 c2 w2 hb2 hk2 hC2 hB2; have hI2 := Kd.C_below hI1 hB2; have hC1b := Kd.C_below hC1 hB2; have hB2' := hB1'.trans (hB2.mono hB1'.size); clear hB2 hI1 hC1 hB1')
    | (go_at_call 53; refine (rFrame_any (some ⟨w2.heap.size, 0, none⟩) 3 3 (tps dom val) _ rfl Hp.out (by rw [tps_len]; decide) (tps_C w2 w.heap.size b1 b2 c1 c2 dom val hI2 hC1b hC2 hk1 hk2) (by rw [tps_len]; decide)).mono ?_; rintro e w3 ⟨B, c3, rfl, hk3, hC3, hb3⟩; rw [HF.out] at hk3 hC3; rw [HF.out]; have hB3 := (hB2'.alloc hB2'.size _).trans (hb3.mono (by rw [World.size_alloc]; have := hB2'.size; omega)); clear hb3 hB2' hI2 hC1b hC2)
    | (go_at_call 40; refine (rMSum_any A B ca c3 l F _ Hl8.out HF8.out (Kd.C_below HA.out hB3) Ha.out Hl.out hC3 (by have := Hf.out; omega)).mono ?_; rintro e w4 ⟨rfl, hb4⟩; rw [HS.out]; have hB4 := hB3.trans (hb4.mono hB3.size); clear hb4 hB3)
    | (refine store_arr rfl 24 9 19 rfl rfl w4.heap.size rfl rfl (Arr.new_at (k := .u8) (xs := List.replicate 32 0) rfl rfl) (by rw [HSl.out]; rfl) (by rw [HSl.out]; kernel_rfl) ?_; intro w5 hg5 hs5 hA5; have hB5 := (hB4.alloc hB4.size (.cells ((List.replicate 32 0).map (Value.int .u8)).toArray 24)).grown hg5 (by rw [World.size_alloc]; have := hB4.size; omega) (fun j e => by cases e; exact hB4.size); clear hg5 hs5 hB4)
    | (go_at_call 71; refine (rEnc_n (some ⟨w4.heap.size, 0, none⟩) n 32 (S.take n) w5 HT.out HT8.out (by have := HT.out; have := Hn.out; omega) (take_C hA5 HSl.out n (by have := Hn.out; omega)) (by have := HT.out; have := Hn.out; omega)).mono ?_; rintro e w6 ⟨rfl, hb6⟩; rw [HU.out]; have hB6 := hB5.trans (hb6.mono hB5.size); clear hb6))
  go_ret
  exact ⟨rfl, hB6⟩
end Go.Proofs.YtalghfnjelcpnaaDoor
namespace Go.Proofs.YtalghfnjelcpnaaDoor
set_option linter.unusedVariables false
set_option linter.unusedSimpArgs false
open Go.RowKit Go.Proofs.YtalghfnjelcpnaaDoorW.PrintWords Go.Proofs.YtalghfnjelcpnaaDoor.Db

theorem two5_C (w : World) : Kd.C (Kd.slice 5 (Kd.int .u8)) ((w.alloc (.cells #[.int .u8 97] 5 (1, 2))).alloc (.cells #[.slice (some ⟨w.heap.size, 0, none⟩) 1 1, .slice none 0 0] 22)) (some ⟨w.heap.size + 1, 0, none⟩) 2 [[97], []] := by
  have r1 : ((w.alloc (.cells #[.int .u8 97] 5 (1, 2))).alloc (.cells #[.slice (some ⟨w.heap.size, 0, none⟩) 1 1, .slice none 0 0] 22)).heap[w.heap.size + 1]? = some (.cells #[.slice (some ⟨w.heap.size, 0, none⟩) 1 1, .slice none 0 0] 22 (0, 0)) := by
    show ((w.heap.push _).push _)[_]? = _
    rw [Array.getElem?_push, if_pos (by simp)]
  have r2 : ((w.alloc (.cells #[.int .u8 97] 5 (1, 2))).alloc (.cells #[.slice (some ⟨w.heap.size, 0, none⟩) 1 1, .slice none 0 0] 22)).heap[w.heap.size]? = some (.cells #[.int .u8 97] 5 (1, 2)) := by
    show ((w.heap.push _).push _)[_]? = _
    simp [Array.getElem?_push]
  have c0 := cell_of_row _ _ 0 _ _ _ r1
  have c1 := cell_of_row _ _ 1 _ _ _ r1
  have c2 := cell_of_row _ _ 0 _ _ _ r2
  clear r1 r2
  generalize ((w.alloc (.cells #[.int .u8 97] 5 (1, 2))).alloc (.cells #[.slice (some ⟨w.heap.size, 0, none⟩) 1 1, .slice none 0 0] 22)) = W at *
  refine ⟨rfl, by decide, fun _ => ⟨_, rfl, fun j p hj => ?_⟩⟩
  match j with
  | 0 =>
    obtain rfl : [97] = p := by simpa using hj
    refine ⟨[.slice (some ⟨w.heap.size, 0, none⟩) 1 1], rfl, ⟨_, 1, rfl, Nat.le_refl _, rfl, by decide, fun _ => ⟨_, rfl, fun j p hj => ?_⟩⟩, fun i u hu => ?_⟩
    · match j with
      | 0 =>
        obtain rfl : 97 = p := by simpa using hj
        refine ⟨[.int .u8 97], rfl, rfl, fun i u hu => ?_⟩
        match i with
        | 0 =>
          obtain rfl : Value.int .u8 97 = u := by simpa using hu
          exact c2
        | i + 1 => simp at hu
      | j + 1 => simp at hj
    · match i with
      | 0 =>
        obtain rfl : Value.slice (some ⟨w.heap.size, 0, none⟩) 1 1 = u := by simpa using hu
        exact c0
      | i + 1 => simp at hu
  | 1 =>
    obtain rfl : [] = p := by simpa using hj
    refine ⟨[.slice none 0 0], rfl, ⟨_, 0, rfl, Nat.le_refl _, rfl, by decide, fun h => absurd h (by decide)⟩, fun i u hu => ?_⟩
    match i with
    | 0 =>
      obtain rfl : Value.slice none 0 0 = u := by simpa using hu
      exact c1
    | i + 1 => simp at hu
  | j + 2 => simp at hj

theorem tagOf_bad (A : Option Addr) (ca : Nat) (l : List Int) (dom val : ByteArray) (n : Int) (w : World) (h : n < 1 ∨ 16 < n) :
    Calls Tryd.prog 48 #[.slice A l.length ca, .string dom, .int .i64 n, .string val] w fun e w' => e = .returned (.tuple #[.string ⟨#[]⟩, .int .i64 1]) ∧ Below w.heap.size w w' := by
  by_cases h1 : n < 1
  · have d1 : decide (n < 1) = true := by simpa using h1
    clear h h1
    go_enter Tryd.func48, Tryd.ntmps48
    go_wp2
    go_ret2
    exact ⟨rfl, Below.refl _ _⟩
  · have d1 : decide (n < 1) = false := by simpa using h1
    have d2 : decide (16 < n) = true := by simp; omega
    clear h h1
    go_enter Tryd.func48, Tryd.ntmps48
    go_wp2
    go_ret2
    exact ⟨rfl, Below.refl _ _⟩
theorem fr_two : TeL.fr [[97], []] = [0, 0, 0, 0, 0, 0, 0, 1, 97, 0, 0, 0, 0, 0, 0, 0, 0] := by decide +kernel
theorem two_small : ∀ p ∈ ([[97], []] : List (List Int)), p.length ≤ 1000 := by decide
set_option maxHeartbeats 4000000 in
set_option maxRecDepth 100000 in
theorem wakes5_any (w : World) : Calls Tryd.prog 46 #[] w fun e w' => e = .returned (.bool true) ∧ Below w.heap.size w w' := by
  have cv := fun w => Go.Lib.run_convert_bytes_const (P := Tryd.prog) w 22 5 #[.int .u8 97] 1 1 Tryd.underlying22 Tryd.underlying5
  go_enter Tryd.func46, Tryd.ntmps46
  go_wp2_with (first
    | (go_at_call 48; refine (tagOf_bad none 0 [] ⟨#[118]⟩ ⟨#[97]⟩ 0 _ (.inl (by decide))).mono ?_; rintro e w5 ⟨rfl, hb⟩)
    | (go_at_call 50; refine (Frame_any (some ⟨w5.heap.size + 1, 0, none⟩) 2 2 [[97], []] _ rfl two_small (by decide) (two5_C w5) (by decide)).mono ?_; rintro e w7 ⟨B, c, rfl, _, _, hb7⟩; rw [fr_two]))
  go_ret
  refine ⟨rfl, ?_⟩
  have h5 := hb.size
  refine (((hb.alloc h5 _).alloc (by rw [World.size_alloc]; omega) _).trans (hb7.mono ?_))
  rw [World.size_alloc, World.size_alloc]; omega
theorem one_len (l : List Int) : [l].length = 1 := rfl
theorem great5_any (A : Option Addr) (cap : Nat) (l : List Int) (w : World) (hc : l.length ≤ cap) (hC : Kd.C (Kd.int .u8) w A l.length l) :
    ∃ g, (g = false → l.length ≤ 200) ∧ Calls Tryd.prog 47 #[.slice (some ⟨w.heap.size, 0, none⟩) 1 1] (w.alloc (.cells #[.slice A l.length cap] 22)) fun e w' => e = .returned (.bool g) ∧ Below w.heap.size w w' := by
  have hb := (Below.refl w.heap.size w).alloc (Nat.le_refl _) (.cells #[.slice A l.length cap] 22)
  have h1 := arg1_C w A cap l hc hC
  rcases TeL.great_ev [l] (by rw [one_len]; decide) 5 (by rw [one_len]; decide) with h | ⟨h, h2, _⟩
  · refine ⟨true, (fun e => by cases e), (Te.incognitolaw05_great.calls 5 (some ⟨w.heap.size, 0, none⟩) 1 [l] true _ h1 (by rw [one_len]; decide) h).mono ?_⟩
    rintro e w' ⟨rfl, n, rfl⟩
    exact ⟨rfl, pw_below_drewN hb n⟩
  · refine ⟨false, (fun _ => h2 l List.mem_cons_self), (Te.incognitolaw05_great.calls 5 (some ⟨w.heap.size, 0, none⟩) 1 [l] false _ h1 (by rw [one_len]; decide) h).mono ?_⟩
    rintro e w' ⟨rfl, n, rfl⟩
    exact ⟨rfl, pw_below_drewN hb n⟩
/-- A call lies there: a key, a domain, a value. -/
def Cl (w : World) (g : Nat) (A : Option Addr) (l : List Int) (ca : Nat) (dom val : ByteArray) : Prop := w.heap[g]? = some (.cells #[.slice A l.length ca, .string dom, .string val] 65 (0, 0))
section
variable {w w1 : World} {g : Nat} {A : Option Addr} {l : List Int} {ca : Nat} {dom val : ByteArray}
theorem Cl.lt (k : Cl w g A l ca dom val) : g < w.heap.size := (Array.getElem?_eq_some_iff.1 k).1
theorem Cl.c0 (k : Cl w g A l ca dom val) : w.cell? ⟨g, 0, none⟩ = some (.slice A l.length ca) := by rw [cell_of_row w g 0 _ 65 (0, 0) k]; rfl
theorem Cl.c1 (k : Cl w g A l ca dom val) : w.cell? ⟨g, 1, none⟩ = some (.string dom) := by rw [cell_of_row w g 1 _ 65 (0, 0) k]; rfl
theorem Cl.c2 (k : Cl w g A l ca dom val) : w.cell? ⟨g, 2, none⟩ = some (.string val) := by rw [cell_of_row w g 2 _ 65 (0, 0) k]; rfl
theorem Cl.below (k : Cl w g A l ca dom val) {B : Nat} (hb : Below B w w1) (hB : g < B) : Cl w1 g A l ca dom val := (hb.block g hB).trans k
end
set_option maxHeartbeats 4000000 in
set_option maxRecDepth 100000 in
theorem tagOfLaw_any (A : Option Addr) (ca : Nat) (l : List Int) (dom val : ByteArray) (n : Int) (w : World) (hR : Rounds w) (hl8 : B8s l) (hA : Kd.C (Kd.int .u8) w A l.length l) (ha : l.length ≤ ca) :
    Calls Tryd.prog 15 #[.agg #[.slice A l.length ca, .string dom, .string val], .int .i64 n] w fun e w' => e = .returned (.bool true) ∧ Below w.heap.size w w' := by
  have HR := Aside0.mk hR
  have hpos := Aside0.mk hR.pos
  have HA := Aside0.mk hA
  have Ha := Aside0.mk ha
  have Hl8 := Aside0.mk hl8
  clear hR hl8 hA ha
  go_enter Tryd.func15, Tryd.ntmps15
  go_wp2_with (first
    | (refine box_row rfl 65 0 rfl _ rfl ?_; intro w1 hg1 hs1 hr1; have hC1 : Cl w1 w.heap.size A l ca dom val := hr1; have hB1 : Below w.heap.size w w1 := (Below.refl _ w).grown hg1 (Nat.le_refl _) (by intro j e; cases e); clear hg1 hs1 hr1)
    | (go_at_call 46; refine (wakes5_any _).mono ?_; rintro e w2 ⟨rfl, hb2⟩; have hC2 := hC1.below hb2 hC1.lt; have hB2 := hB1.trans (hb2.mono hB1.size); clear hb2 hC1 hB1; have e0 := hC2.c0))
  obtain ⟨g, hg, hcall⟩ := great5_any A ca l w2 Ha.out (Kd.C_below HA.out hB2)
  refine hcall.mono ?_
  rintro e w3 ⟨rfl, hb3⟩
  have hC3 := hC2.below hb3 hC2.lt
  have hB3 := hB2.trans (hb3.mono hB2.size)
  clear hcall hb3 hC2 hB2 e0
  have e0 := hC3.c0
  have e1 := hC3.c1
  have e2 := hC3.c2
  cases g with
  | true =>
    clear hg
    go_wp2
    go_ret
    exact ⟨rfl, hB3⟩
  | false =>
    have Hl := Aside0.mk (show l.length ≤ 200 from hg rfl)
    clear hg
    by_cases k1 : 100 < dom.size
    · have d1 : decide (100 < (dom.size : Int)) = true := by simp; omega
      clear k1
      go_wp2
      go_ret
      exact ⟨rfl, hB3⟩
    by_cases k2 : 100 < val.size
    · have d1 : decide (100 < (dom.size : Int)) = false := by simp; omega
      have d2 : decide (100 < (val.size : Int)) = true := by simp; omega
      clear k1 k2
      go_wp2
      go_ret
      exact ⟨rfl, hB3⟩
    have d1 : decide (100 < (dom.size : Int)) = false := by simp; omega
    have d2 : decide (100 < (val.size : Int)) = false := by simp; omega
    have Hd := Aside0.mk (show dom.size ≤ 100 by omega)
    have Hv := Aside0.mk (show val.size ≤ 100 by omega)
    clear k1 k2
    by_cases hn : n < 1 ∨ 16 < n
    · have Hn := Aside0.mk hn
      by_cases hn1 : n < 1
      · have d3 : decide (n < 1) = true := by simpa using hn1
        clear hn hn1
        go_wp2_with (first
          | (go_at_call 48; refine (tagOf_bad A ca l dom val n _ Hn.out).mono ?_; rintro e w4 ⟨rfl, hb4⟩; have hB4 := hB3.trans (hb4.mono hB3.size); clear hb4))
        go_ret
        exact ⟨rfl, hB4⟩
      · have d3 : decide (n < 1) = false := by simpa using hn1
        have d4 : decide (16 < n) = true := by simp; omega
        clear hn hn1
        go_wp2_with (first
          | (go_at_call 48; refine (tagOf_bad A ca l dom val n _ Hn.out).mono ?_; rintro e w4 ⟨rfl, hb4⟩; have hB4 := hB3.trans (hb4.mono hB3.size); clear hb4))
        go_ret
        exact ⟨rfl, hB4⟩
    · obtain ⟨m, rfl⟩ : ∃ m : Nat, n = m := ⟨n.toNat, by omega⟩
      have d3 : decide ((m : Int) < 1) = false := by simp; omega
      have d4 : decide (16 < (m : Int)) = false := by simp; omega
      have Hm := Aside0.mk (show 1 ≤ m ∧ m ≤ 16 by omega)
      obtain ⟨T, hT⟩ : ∃ T, tagS l dom val m = T := ⟨_, rfl⟩
      have HT := Aside0.mk hT
      clear hn hT
      go_wp2_with (first
        | (go_at_call 48; refine (tagOf_any A ca l dom val m w3 (HR.out.below hB3 hpos.out) Hl8.out (Kd.C_below HA.out hB3) Ha.out (by have := Hl.out; omega) Hd.out Hv.out Hm.out.1 Hm.out.2).mono ?_; rintro e w4 ⟨rfl, hb4⟩; rw [HT.out]; have hC4 := hC3.below hb4 hC3.lt; have hB4 := hB3.trans (hb4.mono hB3.size); clear hb4 e0 e1 e2; have e0 := hC4.c0; have e1 := hC4.c1; have e2 := hC4.c2)
        | (go_at_call 49; refine (refOf_any A ca l dom val m w4 (HR.out.below hB4 hpos.out) Hl8.out (Kd.C_below HA.out hB4) Ha.out (by have := Hl.out; omega) Hd.out Hv.out Hm.out.1 Hm.out.2).mono ?_; rintro e w5 ⟨rfl, hb5⟩; rw [HT.out]; have hB5 := hB4.trans (hb5.mono hB4.size); clear hb5))
      go_ret
      exact ⟨by simp, hB5⟩
end Go.Proofs.YtalghfnjelcpnaaDoor
namespace Go.Proofs.YtalghfnjelcpnaaDoor
set_option linter.unusedVariables false
set_option linter.unusedSimpArgs false
open Go.RowKit Go.Proofs.YtalghfnjelcpnaaDoorW.PrintWords Go.Proofs.YtalghfnjelcpnaaDoor.Db

theorem tagS_size (l : List Int) (dom val : ByteArray) (n : Nat) (hn : n ≤ 32) : (tagS l dom val n).size = 2 * n := by
  unfold tagS
  rw [strOfNums_size, TeL.encL_length, List.length_take, macL_len]
  omega
theorem encL_app (a b : List Int) : TeL.encL (a ++ b) = TeL.encL a ++ TeL.encL b := by unfold TeL.encL; rw [List.flatMap_append]
theorem tagS_cut (l : List Int) (dom val : ByteArray) (n m : Nat) (hn : n ≤ m) (hm : m ≤ 32) : (tagS l dom val m).extract 0 (2 * n) = tagS l dom val n := by
  have h1 := tagS_size l dom val n (by omega)
  have h2 : tagS l dom val m = tagS l dom val n ++ strOfNums (TeL.encL (((macL l (TeL.fr (tps dom val))).take m).drop n)) := by
    unfold tagS
    rw [← TeL.strOfNums_append, ← encL_app]
    congr 2
    have : (macL l (TeL.fr (tps dom val))).take n = ((macL l (TeL.fr (tps dom val))).take m).take n := by rw [List.take_take, Nat.min_eq_left hn]
    rw [this, List.take_append_drop]
  rw [h2, ← h1]
  exact ByteArray.extract_append_eq_left rfl
theorem tagOf_z (A : Option Addr) (ca : Nat) (l : List Int) (dom val : ByteArray) (z : Int) (n : Nat) (w : World) (hz : z = n) (hR : Rounds w) (hl8 : B8s l) (hA : Kd.C (Kd.int .u8) w A l.length l) (ha : l.length ≤ ca) (hl : l.length < 1073741824)
    (hd : dom.size ≤ 100) (hv : val.size ≤ 100) (h1 : 1 ≤ n ∧ n ≤ 16) :
    Calls Tryd.prog 48 #[.slice A l.length ca, .string dom, .int .i64 z, .string val] w fun e w' => e = .returned (.tuple #[.string (tagS l dom val n), .int .i64 0]) ∧ Below w.heap.size w w' := by
  subst hz; exact tagOf_any A ca l dom val n w hR hl8 hA ha hl hd hv h1.1 h1.2
set_option maxHeartbeats 4000000 in
set_option maxRecDepth 100000 in
theorem tagBegins_any (A : Option Addr) (ca : Nat) (l : List Int) (dom val : ByteArray) (x y : Int) (w : World) (hR : Rounds w) (hl8 : B8s l) (hA : Kd.C (Kd.int .u8) w A l.length l) (ha : l.length ≤ ca) (hx0 : 0 ≤ x) (hx1 : x < 256) (hy0 : 0 ≤ y) (hy1 : y < 256) :
    Calls Tryd.prog 16 #[.agg #[.slice A l.length ca, .string dom, .string val], .int .u8 x, .int .u8 y] w fun e w' => e = .returned (.bool true) ∧ Below w.heap.size w w' := by
  have HR := Aside0.mk hR
  have hpos := Aside0.mk hR.pos
  have HA := Aside0.mk hA
  have Ha := Aside0.mk ha
  have Hl8 := Aside0.mk hl8
  clear hR hl8 hA ha
  go_enter Tryd.func16, Tryd.ntmps16
  go_wp2_with (first
    | (refine box_row rfl 65 0 rfl _ rfl ?_; intro w1 hg1 hs1 hr1; have hC1 : Cl w1 w.heap.size A l ca dom val := hr1; have hB1 : Below w.heap.size w w1 := (Below.refl _ w).grown hg1 (Nat.le_refl _) (by intro j e; cases e); clear hg1 hs1 hr1)
    | (go_at_call 46; refine (wakes5_any _).mono ?_; rintro e w2 ⟨rfl, hb2⟩; have hC2 := hC1.below hb2 hC1.lt; have hB2 := hB1.trans (hb2.mono hB1.size); clear hb2 hC1 hB1; have e0 := hC2.c0))
  obtain ⟨g, hg, hcall⟩ := great5_any A ca l w2 Ha.out (Kd.C_below HA.out hB2)
  refine hcall.mono ?_
  rintro e w3 ⟨rfl, hb3⟩
  have hC3 := hC2.below hb3 hC2.lt
  have hB3 := hB2.trans (hb3.mono hB2.size)
  clear hcall hb3 hC2 hB2 e0
  have e0 := hC3.c0
  have e1 := hC3.c1
  have e2 := hC3.c2
  cases g with
  | true =>
    clear hg
    go_wp2
    go_ret
    exact ⟨rfl, hB3⟩
  | false =>
    have Hl := Aside0.mk (show l.length ≤ 200 from hg rfl)
    clear hg
    by_cases k1 : 100 < dom.size
    · have d1 : decide (100 < (dom.size : Int)) = true := by simp; omega
      clear k1
      go_wp2
      go_ret
      exact ⟨rfl, hB3⟩
    by_cases k2 : 100 < val.size
    · have d1 : decide (100 < (dom.size : Int)) = false := by simp; omega
      have d2 : decide (100 < (val.size : Int)) = true := by simp; omega
      clear k1 k2
      go_wp2
      go_ret
      exact ⟨rfl, hB3⟩
    have d1 : decide (100 < (dom.size : Int)) = false := by simp; omega
    have d2 : decide (100 < (val.size : Int)) = false := by simp; omega
    have Hd := Aside0.mk (show dom.size ≤ 100 by omega)
    have Hv := Aside0.mk (show val.size ≤ 100 by omega)
    clear k1 k2
    obtain ⟨nx, hx⟩ : ∃ n : Nat, 1 + x % 16 = n := ⟨(1 + x % 16).toNat, by omega⟩
    obtain ⟨ny, hy⟩ : ∃ n : Nat, 1 + y % 16 = n := ⟨(1 + y % 16).toNat, by omega⟩
    obtain ⟨T1, hT1⟩ : ∃ T, tagS l dom val nx = T := ⟨_, rfl⟩
    obtain ⟨T2, hT2⟩ : ∃ T, tagS l dom val ny = T := ⟨_, rfl⟩
    have HX := Aside0.mk hx
    have HY := Aside0.mk hy
    have HXb := Aside0.mk (show 1 ≤ nx ∧ nx ≤ 16 by omega)
    have HYb := Aside0.mk (show 1 ≤ ny ∧ ny ≤ 16 by omega)
    have HT1 := Aside0.mk hT1
    have HT2 := Aside0.mk hT2
    have s1 : (T1.size : Int) = 2 * (1 + x % 16) := by rw [← hT1, tagS_size l dom val nx (by omega)]; omega
    have s2 : (T2.size : Int) = 2 * (1 + y % 16) := by rw [← hT2, tagS_size l dom val ny (by omega)]; omega
    by_cases hlt : 1 + y % 16 < 1 + x % 16
    · have d3 : decide (1 + y % 16 < 1 + x % 16) = true := by simpa using hlt
      have q1 : T1.extract 0 (2 * (1 + y % 16)).toNat = T2 := by rw [show (2 * (1 + y % 16)).toNat = 2 * ny by omega, ← hT1, ← hT2]; exact tagS_cut l dom val ny nx (by omega) (by omega)
      clear hx hy hT1 hT2
      go_wp2_with (first
        | (go_at_call 48; refine Calls.mono (tagOf_z A ca l dom val _ _ _ (by first | exact HX.out | exact HY.out) (HR.out.below hB3 hpos.out) Hl8.out (Kd.C_below HA.out hB3) Ha.out (by have := Hl.out; omega) Hd.out Hv.out (by first | exact HXb.out | exact HYb.out)) ?_; rintro e w4 ⟨rfl, hb4⟩; (first | rw [HT1.out] | rw [HT2.out]); replace hC3 := hC3.below hb4 hC3.lt; replace hB3 := hB3.trans (hb4.mono hB3.size); clear hb4 e0 e1 e2; have e0 := hC3.c0; have e1 := hC3.c1; have e2 := hC3.c2))
      go_ret
      exact ⟨by simp [q1], hB3⟩
    · have d3 : decide (1 + y % 16 < 1 + x % 16) = false := by simpa using hlt
      have q1 : T2.extract 0 (2 * (1 + x % 16)).toNat = T1 := by rw [show (2 * (1 + x % 16)).toNat = 2 * nx by omega, ← hT1, ← hT2]; exact tagS_cut l dom val nx ny (by omega) (by omega)
      clear hx hy hT1 hT2
      go_wp2_with (first
        | (go_at_call 48; refine Calls.mono (tagOf_z A ca l dom val _ _ _ (by first | exact HX.out | exact HY.out) (HR.out.below hB3 hpos.out) Hl8.out (Kd.C_below HA.out hB3) Ha.out (by have := Hl.out; omega) Hd.out Hv.out (by first | exact HXb.out | exact HYb.out)) ?_; rintro e w4 ⟨rfl, hb4⟩; (first | rw [HT1.out] | rw [HT2.out]); replace hC3 := hC3.below hb4 hC3.lt; replace hB3 := hB3.trans (hb4.mono hB3.size); clear hb4 e0 e1 e2; have e0 := hC3.c0; have e1 := hC3.c1; have e2 := hC3.c2))
      go_ret
      exact ⟨by simp [q1], hB3⟩
end Go.Proofs.YtalghfnjelcpnaaDoor
