/- The document's key block: what the call returns, for every key. No conditions but the bytes' bounds. -/
import Derived.Test.YtalghfnjelcpnaaDoorMa
namespace Go.Proofs.YtalghfnjelcpnaaDoor
set_option linter.unusedVariables false
set_option linter.unusedSimpArgs false
open Go.RowKit Go.Proofs.YtalghfnjelcpnaaDoorW.PrintWords Go.Proofs.YtalghfnjelcpnaaDoor.Db

theorem upg_set (xs ys : List Int) (k : Nat) (hk : k < ys.length) (hl : ys.length ≤ xs.length) : (ys.take k ++ xs.drop k).set k (ys.getD k 0) = ys.take (k + 1) ++ xs.drop (k + 1) := by
  have h1 : (ys.take k).length = k := by rw [List.length_take]; omega
  rw [List.set_append_right _ _ (by omega), h1, Nat.sub_self, List.drop_eq_getElem_cons (by omega : k < xs.length), List.set_cons_zero, List.take_succ_eq_append_getElem hk, List.append_assoc]
  simp [List.getD_eq_getElem?_getD, List.getElem?_eq_getElem hk]
theorem upg_len (ys : List Int) (k : Nat) (hk : k ≤ ys.length) (hl : ys.length ≤ 64) : (ys.take k ++ (List.replicate 64 0).drop k).length = 64 := by
  rw [List.length_append, List.length_take, List.length_drop, List.length_replicate]; omega
set_option maxHeartbeats 4000000 in
set_option maxRecDepth 100000 in
theorem rBlock_any (A : Option Addr) (cap : Nat) (l : List Int) (w : World) (hb8 : B8s l) (hC : Kd.C (Kd.int .u8) w A l.length l) (hc : l.length ≤ cap) (hl : l.length < 1073741824) :
    Calls Tryd.prog 42 #[.slice A l.length cap] w fun e w' => e = .returned (AV .u8 (blk l)) ∧ Below w.heap.size w w' := by
  have HC := Aside0.mk hC
  have Hc := Aside0.mk hc
  have Hb := Aside0.mk hb8
  have Hl := Aside0.mk hl
  obtain ⟨ys, hys⟩ : ∃ ys, blk l = ys := ⟨_, rfl⟩
  have hyl : ys.length = 64 := by rw [← hys]; exact blk_len l
  have Hyl := Aside0.mk hyl
  rw [hys]
  obtain ⟨hB0, hO0, hX0, hs0⟩ := two_blocks w
  have HB0 := Aside0.mk hB0
  have HO0 := Aside0.mk hO0
  have HX0 := Aside0.mk hX0
  have Hs0 := Aside0.mk hs0
  by_cases h : l.length ≤ 64
  · have d1 : decide ((l.length : Int) ≤ 64) = true := by simp; omega
    have hyz := Aside0.mk (show l ++ (List.replicate 64 0).drop l.length = ys by rw [← hys, blk_of l l (by rw [keyL, if_neg (by omega)])])
    have Hle := Aside0.mk h
    clear hC hc hb8 hl h hys hyl hB0 hO0 hX0 hs0
    go_enter Tryd.func42, Tryd.ntmps42
    go_wp2
    go_loopw [4] (fun i wr => ∃ k : Nat, k ≤ l.length ∧ i = .int .i64 k ∧ Arr wr w.heap.size .u8 30 (List.replicate 64 0) ∧ Arr wr (w.heap.size + 1) .u8 30 (l.take k ++ (List.replicate 64 0).drop k) ∧ Below w.heap.size w wr)
      (fun i _ => l.length - (intOf i).toNat)
    case atStart => exact ⟨0, by omega, rfl, HO0.out, HX0.out, HB0.out⟩
    case round =>
      obtain ⟨k, hk, rfl, hO, hX, hB⟩ := hrel
      by_cases hlt : k < l.length
      · obtain ⟨b1, o1, rfl, hb1, hc1⟩ := row_cells HC.out k hlt
        obtain ⟨y, hy⟩ : ∃ x, l.getD k 0 = x := ⟨_, rfl⟩
        rw [hy] at hc1
        have k1 := (hB.cell (p := ⟨b1, o1 + k, none⟩) hb1).trans hc1
        have f0 := hX.free k
        have f1 := hX.cell (i := k) (by rw [upg_len l k hk Hle.out]; have := Hle.out; omega)
        have h1 := hX.set k y
        rw [← hy, upg_set (List.replicate 64 0) l k hlt (by rw [List.length_replicate]; exact Hle.out), hy] at h1
        have d0 : decide ((k : Int) < l.length) = true := by simp; omega
        have d2 : (k : Int) < l.length := by omega
        have d3 : (k : Int) < 64 := by have := Hle.out; omega
        have wk : wrap64 ((k : Int) + 1) = ((k + 1 : Nat) : Int) := by
          rw [w64 (by omega) (by omega)]
          rfl
        have Hlt := Aside0.mk hlt
        clear hy hc1 hb1 hlt hk
        go_wp2
        go_roundw
        case rel => exact ⟨k + 1, Hlt.out, by first | rw [wk] | rfl, hO.other k _ (by omega), h1, hB.setCell (Nat.le_succ _) _⟩
        case measure =>
          try rw [wk]
          show l.length - (k + 1) < l.length - k
          exact Nat.sub_lt_sub_left Hlt.out (Nat.lt_succ_self k)
      · obtain rfl : k = l.length := by omega
        rw [List.take_of_length_le (Nat.le_refl _), hyz.out] at hX
        have d0 : decide ((l.length : Int) < l.length) = false := by simp
        clear hk hlt
        go_wp2_with (first
          | (refine load_arr rfl 30 3 rfl (w.heap.size + 1) rfl hX Tryd.underlying30 (by rw [Hyl.out]; kernel_rfl) ?_; refine store_arr rfl 30 2 22 rfl rfl w.heap.size rfl rfl hO (by rw [Hyl.out]; rfl) (by rw [Hyl.out]; kernel_rfl) ?_; intro w6 hg6 hs6 hA6))
        exact ret_arr 2 30 (by kernel_rfl) rfl hA6 Tryd.underlying30 (by rw [Hyl.out]; kernel_rfl) rfl ⟨rfl, hB.grown hg6 hB.size (fun j e => by cases e; omega)⟩
  · have d1 : decide ((l.length : Int) ≤ 64) = false := by simp; omega
    obtain ⟨zs, hzs⟩ : ∃ zs, sumL l = zs := ⟨_, rfl⟩
    have hzl : zs.length = 32 := by rw [← hzs]; exact sumL_len _
    have hyz := Aside0.mk (show zs ++ (List.replicate 64 0).drop zs.length = ys by rw [← hys, blk_of l zs (by rw [keyL, if_pos (by omega), hzs])])
    have Hzl := Aside0.mk hzl
    have Hzs := Aside0.mk hzs
    clear hC hc hb8 hl h hys hyl hzs hzl hB0 hO0 hX0 hs0
    go_enter Tryd.func42, Tryd.ntmps42
    go_wp2_with (first
      | (go_at_call 22; refine (refSum_any A cap l _ Hb.out (Kd.C_below HC.out HB0.out) Hl.out).mono ?_; rintro e w3 ⟨rfl, hb3⟩; rw [Hzs.out]; have hB3 := HB0.out.trans (hb3.mono HB0.out.size); have hO3 := HO0.out.below hb3 HO0.out.lt; have hX3 := HX0.out.below hb3 HX0.out.lt; clear hb3)
      | (refine store_arr rfl 24 5 24 rfl rfl w3.heap.size rfl rfl (Arr.new_at (k := .u8) (xs := List.replicate 32 0) rfl rfl) (by rw [Hzl.out]; rfl) (by rw [Hzl.out]; kernel_rfl) ?_; intro w4 hg4 hs4 hA4; have hO4 := (hO3.alloc (.cells ((List.replicate 32 0).map (Value.int .u8)).toArray 24)).grown hg4 (by have := hO3.lt; simp; omega); have hX4 := (hX3.alloc (.cells ((List.replicate 32 0).map (Value.int .u8)).toArray 24)).grown hg4 (by have := hX3.lt; simp; omega); have hB4 := (hB3.alloc hB3.size (.cells ((List.replicate 32 0).map (Value.int .u8)).toArray 24)).grown hg4 (by rw [World.size_alloc]; have := hB3.size; omega) (fun j e => by cases e; exact hB3.size); have N4 := Aside0.mk hX3.lt; clear hg4 hs4 hO3 hX3 hB3))
    go_loopw [6] (fun i wr => ∃ k : Nat, k ≤ 32 ∧ i = .int .i64 k ∧ Arr wr w.heap.size .u8 30 (List.replicate 64 0) ∧ Arr wr (w.heap.size + 1) .u8 30 (zs.take k ++ (List.replicate 64 0).drop k) ∧ Arr wr w3.heap.size .u8 24 zs ∧ Below w.heap.size w wr)
      (fun i _ => 32 - (intOf i).toNat)
    case atStart => exact ⟨0, by omega, rfl, hO4, hX4, hA4, hB4⟩
    case round =>
      clear hO4 hX4 hA4 hB4
      obtain ⟨k, hk, rfl, hO, hX, hA, hB⟩ := hrel
      by_cases hlt : k < 32
      · obtain ⟨y, hy⟩ : ∃ x, zs.getD k 0 = x := ⟨_, rfl⟩
        have k1 := hA.cell (i := k) (by rw [Hzl.out]; exact hlt)
        rw [hy] at k1
        have f0 := hX.free k
        have f1 := hX.cell (i := k) (by rw [upg_len zs k (by rw [Hzl.out]; exact hk) (by rw [Hzl.out]; decide)]; omega)
        have h1 := hX.set k y
        rw [← hy, upg_set (List.replicate 64 0) zs k (by rw [Hzl.out]; exact hlt) (by rw [List.length_replicate, Hzl.out]; decide), hy] at h1
        have d0 : decide ((k : Int) < 32) = true := by simp; omega
        have d2 : (k : Int) < 32 := by omega
        have d3 : (k : Int) < 64 := by omega
        have wk : wrap64 ((k : Int) + 1) = ((k + 1 : Nat) : Int) := by
          rw [w64 (by omega) (by omega)]
          rfl
        have Hlt := Aside0.mk hlt
        clear hy hlt hk
        go_wp2
        go_roundw
        case rel => exact ⟨k + 1, Hlt.out, by first | rw [wk] | rfl, hO.other k _ (by omega), h1, hA.other k _ (by have := N4.out; omega), hB.setCell (Nat.le_succ _) _⟩
        case measure =>
          try rw [wk]
          show 32 - (k + 1) < 32 - k
          exact Nat.sub_lt_sub_left Hlt.out (Nat.lt_succ_self k)
      · obtain rfl : k = 32 := by omega
        have d0 : decide ((32 : Int) < 32) = false := by simp
        have e0 : zs.take 32 = zs := List.take_of_length_le (Nat.le_of_eq Hzl.out)
        have e1 := hyz.out
        rw [Hzl.out] at e1
        rw [e0, e1] at hX
        clear hk hlt e0 e1
        go_wp2_with (first
          | (refine load_arr rfl 30 3 rfl (w.heap.size + 1) rfl hX Tryd.underlying30 (by rw [Hyl.out]; kernel_rfl) ?_; refine store_arr rfl 30 2 34 rfl rfl w.heap.size rfl rfl hO (by rw [Hyl.out]; rfl) (by rw [Hyl.out]; kernel_rfl) ?_; intro w6 hg6 hs6 hA6))
        exact ret_arr 2 30 (by kernel_rfl) rfl hA6 Tryd.underlying30 (by rw [Hyl.out]; kernel_rfl) rfl ⟨rfl, hB.grown hg6 hB.size (fun j e => by cases e; omega)⟩
end Go.Proofs.YtalghfnjelcpnaaDoor
