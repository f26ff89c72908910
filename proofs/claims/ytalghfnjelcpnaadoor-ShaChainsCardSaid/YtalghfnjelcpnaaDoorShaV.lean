/- The document's Turn: what the calls return, for every eight words and block of bytes; of what was there nothing has turned. No conditions. -/
import Derived.Test.YtalghfnjelcpnaaDoorShaU
import Derived.Test.YtalghfnjelcpnaaDoorSb
namespace Go.Proofs.YtalghfnjelcpnaaDoor
set_option linter.unusedVariables false
set_option linter.unusedSimpArgs false
open Go.RowKit Go.Proofs.YtalghfnjelcpnaaDoorW.PrintWords Go.Proofs.YtalghfnjelcpnaaDoor.Db

theorem set_self (l : List Int) (i : Nat) (x : Int) (h : l.getD i 0 = x) : l.set i x = l := by
  rcases Nat.lt_or_ge i l.length with hi | hi
  · have : l[i] = x := by rw [← h]; simp [List.getD_eq_getElem?_getD, List.getElem?_eq_getElem hi]
    rw [← this, List.set_getElem_self]
  · exact List.set_eq_of_length_le hi
theorem right7_18 (x : Int) (hx : W32 x) (w : World) : Calls Tryd.prog 56 #[.int .u64 x, .int .u64 7, .int .u64 18] w fun e w' => e = .returned (.int .u64 (Go.bits .xor .u32 (tn x 7) (tn x 18))) ∧ w' = w := right_any x 7 18 hx (by decide) (by decide) (by decide) (by decide) w
theorem right17_19 (x : Int) (hx : W32 x) (w : World) : Calls Tryd.prog 56 #[.int .u64 x, .int .u64 17, .int .u64 19] w fun e w' => e = .returned (.int .u64 (Go.bits .xor .u32 (tn x 17) (tn x 19))) ∧ w' = w := right_any x 17 19 hx (by decide) (by decide) (by decide) (by decide) w
theorem right6_11 (x : Int) (hx : W32 x) (w : World) : Calls Tryd.prog 56 #[.int .u64 x, .int .u64 6, .int .u64 11] w fun e w' => e = .returned (.int .u64 (Go.bits .xor .u32 (tn x 6) (tn x 11))) ∧ w' = w := right_any x 6 11 hx (by decide) (by decide) (by decide) (by decide) w
theorem right2_13 (x : Int) (hx : W32 x) (w : World) : Calls Tryd.prog 56 #[.int .u64 x, .int .u64 2, .int .u64 13] w fun e w' => e = .returned (.int .u64 (Go.bits .xor .u32 (tn x 2) (tn x 13))) ∧ w' = w := right_any x 2 13 hx (by decide) (by decide) (by decide) (by decide) w
theorem turned25 (x : Int) (hx : W32 x) (w : World) : Calls Tryd.prog 58 #[.int .u64 x, .int .u64 25] w fun e w' => e = .returned (.int .u64 (tn x 25)) ∧ w' = w := turned_any x 25 hx (by decide) (by decide) w
theorem turned22 (x : Int) (hx : W32 x) (w : World) : Calls Tryd.prog 58 #[.int .u64 x, .int .u64 22] w fun e w' => e = .returned (.int .u64 (tn x 22)) ∧ w' = w := turned_any x 22 hx (by decide) (by decide) w
theorem i64_sub (k c i : Nat) (h : k - c = i) (hc : c ≤ k) (hk : k ≤ 64) : IntKind.i64.wrap ((k : Int) - (c : Int)) = (i : Int) := by
  rw [show (k : Int) - (c : Int) = (i : Int) by omega]
  exact IntWalk.i64_in _ (by omega)
theorem add3_w {u lo v hi : Int} (hu : W32 u) (hl : W32 lo) (hv : W32 v) (hh : W32 hi) :
    (u + lo) % 18446744073709551616 = u + lo ∧ (u + lo + v) % 18446744073709551616 = u + lo + v ∧ (u + lo + v + hi) % 18446744073709551616 = u + lo + v + hi ∧ Int.tmod (u + lo + v + hi) 4294967296 = (u + lo + v + hi) % 4294967296 := by
  unfold W32 at *
  refine ⟨by omega, by omega, by omega, Int.tmod_eq_emod_of_nonneg (by omega)⟩
theorem add1_w {a b : Int} (ha : W32 a) (hb : W32 b) : Int.tmod (IntKind.u64.wrap (a + b)) 4294967296 = (a + b) % 4294967296 := by
  show Int.tmod ((a + b) % 18446744073709551616) 4294967296 = _
  unfold W32 at *
  rw [Int.tmod_eq_emod_of_nonneg (by omega)]
  omega
theorem sum5_w {a S C r k : Int} (ha : W32 a) (hS : W32 S) (hC : W32 C) (hr : W32 r) (hk : W32 k) : Int.tmod (IntKind.u64.wrap (IntKind.u64.wrap (IntKind.u64.wrap (IntKind.u64.wrap (a + S) + C) + r) + k)) 4294967296 = (a + S + C + r + k) % 4294967296 := by
  show Int.tmod (((((a + S) % 18446744073709551616 + C) % 18446744073709551616 + r) % 18446744073709551616 + k) % 18446744073709551616) 4294967296 = _
  unfold W32 at *
  rw [Int.tmod_eq_emod_of_nonneg (by omega)]
  omega
theorem sub_w {a : Int} (ha : W32 a) : IntKind.u64.wrap (4294967295 - a) = 4294967295 - a := by
  show (4294967295 - a) % 18446744073709551616 = _
  unfold W32 at *
  omega
theorem sm8 (a0 a1 a2 a3 a4 a5 a6 a7 s0 s1 s2 s3 s4 s5 s6 s7 : Int) : sm [a0, a1, a2, a3, a4, a5, a6, a7] [s0, s1, s2, s3, s4, s5, s6, s7] 8 =
    [(s0 + a0) % 4294967296, (s1 + a1) % 4294967296, (s2 + a2) % 4294967296, (s3 + a3) % 4294967296, (s4 + a4) % 4294967296, (s5 + a5) % 4294967296, (s6 + a6) % 4294967296, (s7 + a7) % 4294967296] := by
  simp only [sm, List.set_cons_zero, List.set_cons_succ, List.getD_cons_zero, List.getD_cons_succ]
theorem tr_of (st bs : List Int) (k : Nat) (hk : k = 64) (ss : List Int) (h : rn (sp bs 64) st k = ss) : tr st bs = sm st ss 8 := by
  rw [← h, hk]
  unfold tr
  rfl
set_option maxHeartbeats 4000000 in
set_option maxRecDepth 100000 in
theorem refTurn_any (st bs : List Int) (hsl : st.length = 8) (hbl : bs.length = 64) (hsw : W32s st) (hbw : B8s bs) (b o cap : Nat) (w : World) (hbk : b < w.heap.size) (hcap : 64 ≤ cap)
    (hD : ∀ i, i < 64 → w.cell? ⟨b, o + i, none⟩ = some (.int .u8 (bs.getD i 0))) :
    Calls Tryd.prog 23 #[AV .u64 st, .slice (some ⟨b, o, none⟩) 64 cap] w fun e w' => e = .returned (AV .u64 (tr st bs)) ∧ Below w.heap.size w w' := by
  obtain ⟨ys, hys⟩ : ∃ ys, tr st bs = ys := ⟨_, rfl⟩
  rw [hys]
  have Hys := Aside0.mk hys
  have Hsl := Aside0.mk hsl
  have Hbl := Aside0.mk hbl
  have Hsw := Aside0.mk hsw
  have Hbw := Aside0.mk hbw
  have HD := Aside0.mk hD
  clear hys hsl hbl hsw hbw hD hcap
  go_enter Tryd.func23, Tryd.ntmps23
  go_wp2_with (first
    | (refine box_arr rfl 32 0 rfl rfl ?_; intro w1 hg1 hs1 hS1; have hb1 : Below w.heap.size w w1 := (Below.refl _ w).grown hg1 (Nat.le_refl _) (by intro k e; cases e)))
  have hS3 := (hS1.alloc (.cells ((List.replicate 8 0).map (Value.int .u64)).toArray 32)).alloc (.cells ((List.replicate 64 0).map (Value.int .u64)).toArray 80)
  have hO3 : Arr ((w1.alloc (.cells ((List.replicate 8 0).map (Value.int .u64)).toArray 32)).alloc (.cells ((List.replicate 64 0).map (Value.int .u64)).toArray 80)) (w.heap.size + 1) .u64 32 (List.replicate 8 0) := (Arr.new_at hs1 rfl).alloc _
  have hW3 : Arr ((w1.alloc (.cells ((List.replicate 8 0).map (Value.int .u64)).toArray 32)).alloc (.cells ((List.replicate 64 0).map (Value.int .u64)).toArray 80)) (w.heap.size + 1 + 1) .u64 80 (sp bs 0) := Arr.new_at (by rw [World.size_alloc, hs1]) rfl
  have hB3 : Below w.heap.size w ((w1.alloc (.cells ((List.replicate 8 0).map (Value.int .u64)).toArray 32)).alloc (.cells ((List.replicate 64 0).map (Value.int .u64)).toArray 80)) := (hb1.alloc hb1.size _).alloc (by rw [World.size_alloc]; have := hb1.size; omega) _
  clear hS1 hg1 hb1
  go_loopw [6] (fun i wr => ∃ k : Nat, k ≤ 16 ∧ i = .int .i64 k ∧ Arr wr (w.heap.size + 1 + 1) .u64 80 (sp bs k) ∧ Arr wr w.heap.size .u64 32 st ∧ Arr wr (w.heap.size + 1) .u64 32 (List.replicate 8 0) ∧ Below w.heap.size w wr)
    (fun i _ => 16 - (intOf i).toNat)
  case atStart => exact ⟨0, by omega, rfl, hW3, hS3, hO3, hB3⟩
  case round =>
    clear hS3 hO3 hW3 hB3
    obtain ⟨k, hk, rfl, hW, hS, hO, hBe⟩ := hrel
    by_cases hlt : k < 16
    · have h0 : (sp bs k).set k (pj bs k 0) = sp bs k := set_self _ _ _ (sp_zero bs k k (Nat.le_refl _))
      have d0 : decide ((k : Int) < 16) = true := decide_eq_true (by omega)
      go_wp2
      go_loopw [7] (fun i wr => ∃ j : Nat, j ≤ 4 ∧ i = .int .i64 j ∧ Arr wr (w.heap.size + 1 + 1) .u64 80 ((sp bs k).set k (pj bs k j)) ∧ Arr wr w.heap.size .u64 32 st ∧ Arr wr (w.heap.size + 1) .u64 32 (List.replicate 8 0) ∧ Below w.heap.size w wr)
        (fun i _ => 4 - (intOf i).toNat)
      case atStart => exact ⟨0, by omega, rfl, by rw [h0]; exact hW, hS, hO, hBe⟩
      case round =>
        clear hW hS hO hBe h0
        obtain ⟨j, hj, rfl, hW, hS, hO, hBe⟩ := hrel
        by_cases hjt : j < 4
        · obtain ⟨t, ht⟩ : ∃ t, 4 * k + j = t := ⟨_, rfl⟩
          have ht64 : t < 64 := by omega
          obtain ⟨y, hy⟩ : ∃ y, bs.getD t 0 = y := ⟨_, rfl⟩
          have y8 : B8 y := hy ▸ Hbw.out.at t
          obtain ⟨p, hp⟩ : ∃ p, pj bs k j = p := ⟨_, rfl⟩
          have hpb : 0 ≤ p ∧ p ≤ 16777215 := by
            have h := pj_bd bs Hbw.out k
            rw [← hp]
            match j, hjt with
            | 0, _ => exact (by decide : (0 : Int) ≤ 0 ∧ (0 : Int) ≤ 16777215)
            | 1, _ => omega
            | 2, _ => omega
            | 3, _ => omega
          have hpj : pj bs k (j + 1) = p * 256 + y := by
            rw [pj, hp, ht, hy]
          have c0 : wr.cell? ⟨w.heap.size + 1 + 1, k, none⟩ = some (.int .u64 p) := by
            have := hW.cell (i := k) (by rw [List.length_set, sp_len]; omega)
            rw [this, List.getD_eq_getElem?_getD, List.getElem?_set_self (by rw [sp_len]; omega), hp]
            rfl
          have c1 : wr.cell? ⟨b, o + t, none⟩ = some (.int .u8 y) := by rw [← hy]; exact (hBe.cell (p := ⟨b, o + t, none⟩) hbk).trans (HD.out t ht64)
          have d1 : IntKind.i64.wrap (4 * (k : Int)) = 4 * k := IntWalk.i64_in _ (by omega)
          have d2 : IntKind.i64.wrap (4 * (k : Int) + (j : Int)) = (t : Int) := by rw [IntWalk.i64_in _ (by omega)]; omega
          have d3 : decide ((j : Int) < 4) = true := decide_eq_true (by omega)
          have d4 : (t : Int) < 64 := by omega
          have d5 : (k : Int) < 64 := by omega
          have e1 : p * 256 % 18446744073709551616 = p * 256 := Int.emod_eq_of_lt (by omega) (by omega)
          have e2 : y % 18446744073709551616 = y := Int.emod_eq_of_lt y8.1 (by have := y8.2; omega)
          have e3 : (p * 256 + y) % 18446744073709551616 = p * 256 + y := Int.emod_eq_of_lt (by have := y8.1; omega) (by have := y8.2; omega)
          have Hpj := Aside0.mk hpj
          have Hp := Aside0.mk hp
          have Ht := Aside0.mk ht
          clear hpj hp hpb y8 hy ht
          go_wp2
          go_still_tail 14, (by kernel_rfl)
          change wpList _ _ _ _ _ wr.drew
          have hW3 : Arr wr.drew (w.heap.size + 1 + 1) .u64 80 ((sp bs k).set k p) := by rw [← Hp.out]; exact hW
          have hS3 : Arr wr.drew w.heap.size .u64 32 st := hS
          have hO3 : Arr wr.drew (w.heap.size + 1) .u64 32 (List.replicate 8 0) := hO
          have hB3 : Below w.heap.size w wr.drew := pw_below_drewN hBe 1
          clear hW hS hO hBe c0 c1
          generalize wr.drew = w7 at *
          have g0 := hW3.free k
          have g1 := hW3.cell (i := k) (by rw [List.length_set, sp_len]; omega)
          go_wp2
          go_roundw
          case rel =>
            refine ⟨j + 1, hjt, rfl, ?_, hS3.other k _ (by omega), hO3.other k _ (by omega), hB3.setCell (by show _ ≤ w.heap.size + 1 + 1; omega) _⟩
            have h1 := hW3.set k (p * 256 + y)
            rw [List.set_set] at h1
            rw [Hpj.out]
            exact h1
          case measure =>
            show 4 - (j + 1) < 4 - j
            exact Nat.sub_lt_sub_left hjt (Nat.lt_succ_self j)
        · have hj4 := Aside0.mk (show j = 4 by omega)
          have d3 : decide ((j : Int) < 4) = false := decide_eq_false (by omega)
          have hW4 : Arr wr (w.heap.size + 1 + 1) .u64 80 (sp bs (k + 1)) := by
            have e : sp bs (k + 1) = (sp bs k).set k (pj bs k j) := by rw [sp, if_pos hlt, (wd_pj bs Hbw.out k).1, hj4.out]
            rw [e]; exact hW
          clear hW
          go_wp2
          go_roundw
          case rel => exact ⟨k + 1, hlt, rfl, hW4, hS, hO, hBe⟩
          case measure =>
            show 16 - (k + 1) < 16 - k
            exact Nat.sub_lt_sub_left hlt (Nat.lt_succ_self k)
    · have hk16 := Aside0.mk (show k = 16 by omega)
      have d0 : decide ((k : Int) < 16) = false := decide_eq_false (by omega)
      have hW16 : Arr wr (w.heap.size + 1 + 1) .u64 80 (sp bs 16) := hk16.out ▸ hW
      clear hk hlt hW hk16
      go_wp2
      go_loopw [8] (fun i wr => ∃ k : Nat, 16 ≤ k ∧ k ≤ 64 ∧ i = .int .i64 k ∧ Arr wr (w.heap.size + 1 + 1) .u64 80 (sp bs k) ∧ Arr wr w.heap.size .u64 32 st ∧ Arr wr (w.heap.size + 1) .u64 32 (List.replicate 8 0) ∧ Below w.heap.size w wr)
        (fun i _ => 64 - (intOf i).toNat)
      case atStart => exact ⟨16, by omega, by omega, rfl, hW16, hS, hO, hBe⟩
      case round =>
        clear hW16 hS hO hBe
        obtain ⟨k, hk0, hk, rfl, hW, hS, hO, hBe⟩ := hrel
        by_cases hlt : k < 64
        · have hsw := sp_w bs Hbw.out k
          have hln := sp_len bs k
          obtain ⟨xs, hxs⟩ : ∃ xs, sp bs k = xs := ⟨_, rfl⟩
          rw [hxs] at hW hsw hln
          have Hxs := Aside0.mk hxs
          obtain ⟨p, hp⟩ : ∃ p, xs.getD (k - 15) 0 = p := ⟨_, rfl⟩
          obtain ⟨q, hq⟩ : ∃ q, xs.getD (k - 2) 0 = q := ⟨_, rfl⟩
          obtain ⟨u, hu⟩ : ∃ u, xs.getD (k - 16) 0 = u := ⟨_, rfl⟩
          obtain ⟨v, hv⟩ : ∃ v, xs.getD (k - 7) 0 = v := ⟨_, rfl⟩
          have hp' := Aside0.mk hp
          have hq' := Aside0.mk hq
          have hu' := Aside0.mk hu
          have hv' := Aside0.mk hv
          have wp : W32 p := hp ▸ hsw.at _
          have wq : W32 q := hq ▸ hsw.at _
          have wu : W32 u := hu ▸ hsw.at _
          have wv : W32 v := hv ▸ hsw.at _
          have hn := nx_w xs hsw k p q hp hq
          rw [hu, hv] at hn
          obtain ⟨lo, hlo⟩ : ∃ lo, Go.bits .xor .u64 (Go.bits .xor .u32 (tn p 7) (tn p 18)) (p / 8) = lo := ⟨_, rfl⟩
          obtain ⟨hi, hhi⟩ : ∃ hi, Go.bits .xor .u64 (Go.bits .xor .u32 (tn q 17) (tn q 19)) (q / 1024) = hi := ⟨_, rfl⟩
          rw [hlo, hhi] at hn
          obtain ⟨nk, hnk⟩ : ∃ nk, nx xs k = nk := ⟨_, rfl⟩
          rw [hnk] at hn
          have hsn : sp bs (k + 1) = xs.set k nk := by rw [sp, if_neg (by omega), hxs, hnk]
          have Hsn := Aside0.mk hsn
          obtain ⟨i15, hi15⟩ : ∃ i15, k - 15 = i15 := ⟨_, rfl⟩
          obtain ⟨i2, hi2⟩ : ∃ i2, k - 2 = i2 := ⟨_, rfl⟩
          obtain ⟨i16, hi16⟩ : ∃ i16, k - 16 = i16 := ⟨_, rfl⟩
          obtain ⟨i7, hi7⟩ : ∃ i7, k - 7 = i7 := ⟨_, rfl⟩
          have m15 : (i15 : Int) < 64 := by omega
          have m2 : (i2 : Int) < 64 := by omega
          have m16 : (i16 : Int) < 64 := by omega
          have m7 : (i7 : Int) < 64 := by omega
          have mk : (k : Int) < 64 := by omega
          have d0 : decide ((k : Int) < 64) = true := decide_eq_true mk
          have c15 : ∀ W, Arr W (w.heap.size + 1 + 1) .u64 80 xs → W.cell? ⟨w.heap.size + 1 + 1, i15, none⟩ = some (.int .u64 p) := fun W h => by rw [← hp'.out, hi15]; exact h.cell (by omega)
          have c2 : ∀ W, Arr W (w.heap.size + 1 + 1) .u64 80 xs → W.cell? ⟨w.heap.size + 1 + 1, i2, none⟩ = some (.int .u64 q) := fun W h => by rw [← hq'.out, hi2]; exact h.cell (by omega)
          have c16 : ∀ W, Arr W (w.heap.size + 1 + 1) .u64 80 xs → W.cell? ⟨w.heap.size + 1 + 1, i16, none⟩ = some (.int .u64 u) := fun W h => by rw [← hu'.out, hi16]; exact h.cell (by omega)
          have c7 : ∀ W, Arr W (w.heap.size + 1 + 1) .u64 80 xs → W.cell? ⟨w.heap.size + 1 + 1, i7, none⟩ = some (.int .u64 v) := fun W h => by rw [← hv'.out, hi7]; exact h.cell (by omega)
          have C15 := Aside0.mk c15
          have C2 := Aside0.mk c2
          have C16 := Aside0.mk c16
          have C7 := Aside0.mk c7
          have Hln := Aside0.mk hln
          have WP := Aside0.mk wp
          have WQ := Aside0.mk wq
          have HLo := Aside0.mk hlo
          have HHi := Aside0.mk hhi
          have HK0 := Aside0.mk hk0
          have ea := add3_w wu hn.2.1 wv hn.2.2
          have EA := Aside0.mk (And.intro ea hn.1)
          have d15 : IntKind.i64.wrap ((k : Int) - 15) = (i15 : Int) := i64_sub k 15 i15 hi15 (by omega) hk
          have d2 : IntKind.i64.wrap ((k : Int) - 2) = (i2 : Int) := i64_sub k 2 i2 hi2 (by omega) hk
          have d16 : IntKind.i64.wrap ((k : Int) - 16) = (i16 : Int) := i64_sub k 16 i16 hi16 hk0 hk
          have d7 : IntKind.i64.wrap ((k : Int) - 7) = (i7 : Int) := i64_sub k 7 i7 hi7 (by omega) hk
          have N1 := Aside0.mk (show w.heap.size ≠ w.heap.size + 1 + 1 by omega)
          have N2 := Aside0.mk (show w.heap.size + 1 ≠ w.heap.size + 1 + 1 by omega)
          have N3 := Aside0.mk (show w.heap.size ≤ w.heap.size + 1 + 1 by omega)
          clear ea
          have x15 := C15.out wr hW
          clear c15 c2 c16 c7 hp hq hu hv wu wv hn hnk hsn hi15 hi2 hi16 hi7 hsw hln wp wq hlo hhi hxs hp' hq' hu' hv' hk0
          go_wp2
          refine wp_region_still_lit (by kernel_rfl) (by kernel_rfl) ?_
          repeat still_step
          still_call (right7_18 _ WP.out _)
          repeat still_step
          refine wpStill_nil ?_
          change Exit.then _ _ _ _ wr.drew
          rw [HLo.out]
          obtain ⟨w8, hw8⟩ : ∃ w8, wr.drew = w8 := ⟨_, rfl⟩
          have hWq : Arr w8 (w.heap.size + 1 + 1) .u64 80 xs := by rw [← hw8]; exact hW
          have hSq : Arr w8 w.heap.size .u64 32 st := by rw [← hw8]; exact hS
          have hOq : Arr w8 (w.heap.size + 1) .u64 32 (List.replicate 8 0) := by rw [← hw8]; exact hO
          have hBq : Below w.heap.size w w8 := by rw [← hw8]; exact pw_below_drewN hBe 1
          rw [hw8]
          clear hW hS hO hBe hw8 x15
          have x2 := C2.out w8 hWq
          go_wp2
          refine wp_region_still_lit (by kernel_rfl) (by kernel_rfl) ?_
          repeat still_step
          still_call (right17_19 _ WQ.out _)
          repeat still_step
          refine wpStill_nil ?_
          change Exit.then _ _ _ _ w8.drew
          rw [HHi.out]
          obtain ⟨w9, hw9⟩ : ∃ w9, w8.drew = w9 := ⟨_, rfl⟩
          have hWr : Arr w9 (w.heap.size + 1 + 1) .u64 80 xs := by rw [← hw9]; exact hWq
          have hSr : Arr w9 w.heap.size .u64 32 st := by rw [← hw9]; exact hSq
          have hOr : Arr w9 (w.heap.size + 1) .u64 32 (List.replicate 8 0) := by rw [← hw9]; exact hOq
          have hBr : Below w.heap.size w w9 := by rw [← hw9]; exact pw_below_drewN hBq 1
          rw [hw9]
          clear hWq hSq hOq hBq hw9 x2
          have x16 := C16.out w9 hWr
          have x7 := C7.out w9 hWr
          go_wp2
          go_still_tail 15, (by kernel_rfl)
          change wpList _ _ _ _ _ w9.drew
          have hWs : Arr w9.drew (w.heap.size + 1 + 1) .u64 80 xs := hWr
          have hSs : Arr w9.drew w.heap.size .u64 32 st := hSr
          have hOs : Arr w9.drew (w.heap.size + 1) .u64 32 (List.replicate 8 0) := hOr
          have hBs : Below w.heap.size w w9.drew := pw_below_drewN hBr 1
          clear hWr hSr hOr hBr x16 x7
          clear d15 d2 d16 d7
          generalize w9.drew = w7 at *
          have g0 := hWs.free k
          have g1 := hWs.cell (i := k) (by rw [Hln.out]; exact hlt)
          go_wp2
          go_roundw
          case rel =>
            refine ⟨k + 1, Nat.le_succ_of_le HK0.out, hlt, rfl, ?_, hSs.other k _ N1.out, hOs.other k _ N2.out, hBs.setCell N3.out _⟩
            have hval : (IntKind.u64.wrap (IntKind.u64.wrap (IntKind.u64.wrap (u + lo) + v) + hi)).tmod 4294967296 = nk := by
              show Int.tmod ((((u + lo) % 18446744073709551616 + v) % 18446744073709551616 + hi) % 18446744073709551616) 4294967296 = nk
              rw [EA.out.1.1, EA.out.1.2.1, EA.out.1.2.2.1, EA.out.1.2.2.2]
              exact EA.out.2
            rw [Hsn.out, hval]
            exact hWs.set k nk
          case measure =>
            show 64 - (k + 1) < 64 - k
            exact Nat.sub_lt_sub_left hlt (Nat.lt_succ_self k)
        · have hk64 := Aside0.mk (show k = 64 by omega)
          have d0 : decide ((k : Int) < 64) = false := decide_eq_false (by omega)
          have hW64 : Arr wr (w.heap.size + 1 + 1) .u64 80 (sp bs 64) := hk64.out ▸ hW
          clear hk hk0 hlt hW hk64
          go_wp2_with (first
            | (go_at_call 57; refine (ks_any _).mono ?_; rintro e w2 ⟨rfl, hb2⟩)
            | (refine store_arr (xs := rs) rfl 80 11 90 rfl rfl w2.heap.size rfl rfl (Arr.new_at (k := .u64) (xs := List.replicate 64 0) rfl rfl) rfl (by kernel_rfl) ?_; intro w3 hg3 hs3 hL3))
          have hlt2 : w.heap.size + 1 + 1 < w2.heap.size := Nat.lt_of_lt_of_le hW64.lt hb2.size
          have hW3 : Arr w3 (w.heap.size + 1 + 1) .u64 80 (sp bs 64) := ((hW64.below hb2 hW64.lt).alloc _).grown hg3 (by simp; omega)
          have hS3 : Arr w3 w.heap.size .u64 32 st := ((hS.below hb2 hS.lt).alloc _).grown hg3 (by simp; omega)
          have hO3 : Arr w3 (w.heap.size + 1) .u64 32 (List.replicate 8 0) := ((hO.below hb2 hO.lt).alloc _).grown hg3 (by simp; omega)
          have hB3 : Below w.heap.size w w3 := ((hBe.trans (hb2.mono hBe.size)).alloc (by omega) _).grown hg3 (by rw [World.size_alloc]; omega) (by intro j e; cases e; omega)
          have Hlt2 := Aside0.mk hlt2
          clear hW64 hS hO hBe hb2 hg3 hs3 hlt2
          obtain ⟨a0, a1, a2, a3, a4, a5, a6, a7, hst⟩ : ∃ a0 a1 a2 a3 a4 a5 a6 a7, st = [a0, a1, a2, a3, a4, a5, a6, a7] := list8 _ Hsl.out
          have Hst := Aside0.mk hst
          clear hst
          have CS0 := Aside0.mk (show ∀ W, Arr W w.heap.size .u64 32 st → W.cell? ⟨w.heap.size, 0, none⟩ = some (.int .u64 a0) from fun W h => by rw [Hst.out] at h; exact h.cell (i := 0) (by simp))
          have CS1 := Aside0.mk (show ∀ W, Arr W w.heap.size .u64 32 st → W.cell? ⟨w.heap.size, 1, none⟩ = some (.int .u64 a1) from fun W h => by rw [Hst.out] at h; exact h.cell (i := 1) (by simp))
          have CS2 := Aside0.mk (show ∀ W, Arr W w.heap.size .u64 32 st → W.cell? ⟨w.heap.size, 2, none⟩ = some (.int .u64 a2) from fun W h => by rw [Hst.out] at h; exact h.cell (i := 2) (by simp))
          have CS3 := Aside0.mk (show ∀ W, Arr W w.heap.size .u64 32 st → W.cell? ⟨w.heap.size, 3, none⟩ = some (.int .u64 a3) from fun W h => by rw [Hst.out] at h; exact h.cell (i := 3) (by simp))
          have CS4 := Aside0.mk (show ∀ W, Arr W w.heap.size .u64 32 st → W.cell? ⟨w.heap.size, 4, none⟩ = some (.int .u64 a4) from fun W h => by rw [Hst.out] at h; exact h.cell (i := 4) (by simp))
          have CS5 := Aside0.mk (show ∀ W, Arr W w.heap.size .u64 32 st → W.cell? ⟨w.heap.size, 5, none⟩ = some (.int .u64 a5) from fun W h => by rw [Hst.out] at h; exact h.cell (i := 5) (by simp))
          have CS6 := Aside0.mk (show ∀ W, Arr W w.heap.size .u64 32 st → W.cell? ⟨w.heap.size, 6, none⟩ = some (.int .u64 a6) from fun W h => by rw [Hst.out] at h; exact h.cell (i := 6) (by simp))
          have CS7 := Aside0.mk (show ∀ W, Arr W w.heap.size .u64 32 st → W.cell? ⟨w.heap.size, 7, none⟩ = some (.int .u64 a7) from fun W h => by rw [Hst.out] at h; exact h.cell (i := 7) (by simp))
          have z0 : w3.cell? ⟨w.heap.size, 0, none⟩ = some (.int .u64 a0) := CS0.out w3 hS3
          have z1 : w3.cell? ⟨w.heap.size, 1, none⟩ = some (.int .u64 a1) := CS1.out w3 hS3
          have z2 : w3.cell? ⟨w.heap.size, 2, none⟩ = some (.int .u64 a2) := CS2.out w3 hS3
          have z3 : w3.cell? ⟨w.heap.size, 3, none⟩ = some (.int .u64 a3) := CS3.out w3 hS3
          have z4 : w3.cell? ⟨w.heap.size, 4, none⟩ = some (.int .u64 a4) := CS4.out w3 hS3
          have z5 : w3.cell? ⟨w.heap.size, 5, none⟩ = some (.int .u64 a5) := CS5.out w3 hS3
          have z6 : w3.cell? ⟨w.heap.size, 6, none⟩ = some (.int .u64 a6) := CS6.out w3 hS3
          have z7 : w3.cell? ⟨w.heap.size, 7, none⟩ = some (.int .u64 a7) := CS7.out w3 hS3
          refine wp_region_still_lit (by kernel_rfl) (by kernel_rfl) ?_
          repeat still_step
          refine wpStill_nil ?_
          change Exit.then _ _ _ _ w3.drew
          clear z0 z1 z2 z3 z4 z5 z6 z7
          obtain ⟨w4, hw4⟩ : ∃ w4, w3.drew = w4 := ⟨_, rfl⟩
          have hW4 : Arr w4 (w.heap.size + 1 + 1) .u64 80 (sp bs 64) := by rw [← hw4]; exact hW3
          have hS4 : Arr w4 w.heap.size .u64 32 st := by rw [← hw4]; exact hS3
          have hO4 : Arr w4 (w.heap.size + 1) .u64 32 (List.replicate 8 0) := by rw [← hw4]; exact hO3
          have hL4 : Arr w4 w2.heap.size .u64 80 rs := by rw [← hw4]; exact hL3
          have hB4 : Below w.heap.size w w4 := by rw [← hw4]; exact pw_below_drewN hB3 1
          rw [hw4]
          clear hW3 hS3 hO3 hL3 hB3 hw4
          have z0 : w4.cell? ⟨w.heap.size, 0, none⟩ = some (.int .u64 a0) := CS0.out w4 hS4
          have z1 : w4.cell? ⟨w.heap.size, 1, none⟩ = some (.int .u64 a1) := CS1.out w4 hS4
          have z2 : w4.cell? ⟨w.heap.size, 2, none⟩ = some (.int .u64 a2) := CS2.out w4 hS4
          have z3 : w4.cell? ⟨w.heap.size, 3, none⟩ = some (.int .u64 a3) := CS3.out w4 hS4
          have z4 : w4.cell? ⟨w.heap.size, 4, none⟩ = some (.int .u64 a4) := CS4.out w4 hS4
          have z5 : w4.cell? ⟨w.heap.size, 5, none⟩ = some (.int .u64 a5) := CS5.out w4 hS4
          have z6 : w4.cell? ⟨w.heap.size, 6, none⟩ = some (.int .u64 a6) := CS6.out w4 hS4
          have z7 : w4.cell? ⟨w.heap.size, 7, none⟩ = some (.int .u64 a7) := CS7.out w4 hS4
          go_wp2
          refine wp_region_still_lit (by kernel_rfl) (by kernel_rfl) ?_
          repeat still_step
          refine wpStill_nil ?_
          change Exit.then _ _ _ _ w4.drew
          clear z0 z1 z2 z3 z4 z5 z6 z7
          obtain ⟨w5, hw5⟩ : ∃ w5, w4.drew = w5 := ⟨_, rfl⟩
          have hW5 : Arr w5 (w.heap.size + 1 + 1) .u64 80 (sp bs 64) := by rw [← hw5]; exact hW4
          have hS5 : Arr w5 w.heap.size .u64 32 st := by rw [← hw5]; exact hS4
          have hO5 : Arr w5 (w.heap.size + 1) .u64 32 (List.replicate 8 0) := by rw [← hw5]; exact hO4
          have hL5 : Arr w5 w2.heap.size .u64 80 rs := by rw [← hw5]; exact hL4
          have hB5 : Below w.heap.size w w5 := by rw [← hw5]; exact pw_below_drewN hB4 1
          rw [hw5]
          clear hW4 hS4 hO4 hL4 hB4 hw5
          go_wp2
          go_loopw [12, 13, 14, 15, 16, 17, 18, 19, 20] (fun v12 v13 v14 v15 v16 v17 v18 v19 v20 wr => ∃ (k : Nat) (s0 s1 s2 s3 s4 s5 s6 s7 : Int), k ≤ 64 ∧ v12 = .int .u64 s0 ∧ v13 = .int .u64 s1 ∧ v14 = .int .u64 s2 ∧ v15 = .int .u64 s3 ∧ v16 = .int .u64 s4 ∧ v17 = .int .u64 s5 ∧ v18 = .int .u64 s6 ∧ v19 = .int .u64 s7 ∧ v20 = .int .i64 k ∧ rn (sp bs 64) st k = [s0, s1, s2, s3, s4, s5, s6, s7] ∧ Arr wr (w.heap.size + 1 + 1) .u64 80 (sp bs 64) ∧ Arr wr w.heap.size .u64 32 st ∧ Arr wr (w.heap.size + 1) .u64 32 (List.replicate 8 0) ∧ Arr wr w2.heap.size .u64 80 rs ∧ Below w.heap.size w wr)
            (fun v12 v13 v14 v15 v16 v17 v18 v19 v20 _ => 64 - (intOf v20).toNat)
          case atStart => exact ⟨0, a0, a1, a2, a3, a4, a5, a6, a7, by omega, rfl, rfl, rfl, rfl, rfl, rfl, rfl, rfl, rfl, Hst.out, hW5, hS5, hO5, hL5, hB5⟩
          case round =>
            clear hW5 hS5 hO5 hL5 hB5
            obtain ⟨k, s0, s1, s2, s3, s4, s5, s6, s7, hk, rfl, rfl, rfl, rfl, rfl, rfl, rfl, rfl, rfl, hrn, hW6, hS6, hO6, hL6, hB6⟩ := hrel
            by_cases hlt : k < 64
            · have hw8 : W32s [s0, s1, s2, s3, s4, s5, s6, s7] := hrn ▸ rn_w (sp bs 64) st Hsw.out k
              have h0 : W32 s0 := hw8.at 0
              have h1 : W32 s1 := hw8.at 1
              have h2 : W32 s2 := hw8.at 2
              have h3 : W32 s3 := hw8.at 3
              have h4 : W32 s4 := hw8.at 4
              have h5 : W32 s5 := hw8.at 5
              have h6 : W32 s6 := hw8.at 6
              have h7 : W32 s7 := hw8.at 7
              obtain ⟨wk, hwk⟩ : ∃ wk, (sp bs 64).getD k 0 = wk := ⟨_, rfl⟩
              obtain ⟨rk, hrk⟩ : ∃ rk, rs.getD k 0 = rk := ⟨_, rfl⟩
              have wwk : W32 wk := hwk ▸ (sp_w bs Hbw.out 64).at k
              have wrk : W32 rk := hrk ▸ rs_w.at k
              obtain ⟨S, hS0⟩ : ∃ S, Go.bits .xor .u64 (Go.bits .xor .u32 (tn s4 6) (tn s4 11)) (tn s4 25) = S := ⟨_, rfl⟩
              obtain ⟨C, hC0⟩ : ∃ C, Go.bits .xor .u64 (Go.bits .and .u64 s4 s5) (Go.bits .and .u64 (4294967295 - s4) s6) = C := ⟨_, rfl⟩
              have hx := x_w wwk wrk h4 h5 h6 h7 hS0 hC0
              obtain ⟨T, hT0⟩ : ∃ T, Go.bits .xor .u64 (Go.bits .xor .u32 (tn s0 2) (tn s0 13)) (tn s0 22) = T := ⟨_, rfl⟩
              obtain ⟨M, hM0⟩ : ∃ M, Go.bits .xor .u64 (Go.bits .xor .u64 (Go.bits .and .u64 s0 s1) (Go.bits .and .u64 s0 s2)) (Go.bits .and .u64 s1 s2) = M := ⟨_, rfl⟩
              have hy := y_w h0 h1 h2 hT0 hM0
              obtain ⟨x, hx0⟩ : ∃ x, xx wk rk s4 s5 s6 s7 = x := ⟨_, rfl⟩
              obtain ⟨y, hy0⟩ : ∃ y, yy s0 s1 s2 = y := ⟨_, rfl⟩
              have hX : Int.tmod (IntKind.u64.wrap (IntKind.u64.wrap (IntKind.u64.wrap (IntKind.u64.wrap (s7 + S) + C) + rk) + wk)) 4294967296 = x := by rw [sum5_w h7 hx.2.1 hx.2.2 wrk wwk, hx.1, hx0]
              have hY : Int.tmod (IntKind.u64.wrap (T + M)) 4294967296 = y := by rw [add1_w hy.2.1 hy.2.2, hy.1, hy0]
              have wx : W32 x := by rw [← hx0, ← hx.1]; exact w32_mod _
              have wy : W32 y := by rw [← hy0, ← hy.1]; exact w32_mod _
              have hCx : Go.bits .xor .u64 (Go.bits .and .u64 s4 s5) (Go.bits .and .u64 (IntKind.u64.wrap (4294967295 - s4)) s6) = C := by rw [sub_w h4]; exact hC0
              have hnext : rn (sp bs 64) st (k + 1) = [Int.tmod (IntKind.u64.wrap (x + y)) 4294967296, s0, s1, s2, Int.tmod (IntKind.u64.wrap (s3 + x)) 4294967296, s4, s5, s6] := by
                show rd ((sp bs 64).getD k 0) (rs.getD k 0) (rn (sp bs 64) st k) = _
                rw [hrn, hwk, hrk, add1_w wx wy, add1_w h3 wx]
                show [(xx wk rk s4 s5 s6 s7 + yy s0 s1 s2) % 4294967296, s0, s1, s2, (s3 + xx wk rk s4 s5 s6 s7) % 4294967296, s4, s5, s6] = _
                rw [hx0, hy0]
              have c0 : wr.cell? ⟨w.heap.size + 1 + 1, k, none⟩ = some (.int .u64 wk) := by rw [← hwk]; exact hW6.cell (by rw [sp_len]; exact hlt)
              have c1 : wr.cell? ⟨w2.heap.size, k, none⟩ = some (.int .u64 rk) := by rw [← hrk]; exact hL6.cell hlt
              have mk : (k : Int) < 64 := by omega
              have d0 : decide ((k : Int) < 64) = true := decide_eq_true mk
              have HX := Aside0.mk hX
              have HY := Aside0.mk hY
              have HCx := Aside0.mk hCx
              have HS0 := Aside0.mk hS0
              have HT0 := Aside0.mk hT0
              have HM0 := Aside0.mk hM0
              have HN := Aside0.mk hnext
              have H0 := Aside0.mk h0
              have H4 := Aside0.mk h4
              clear hw8 h0 h1 h2 h3 h4 h5 h6 h7 hwk hrk wwk wrk hS0 hC0 hx hT0 hM0 hy hx0 hy0 hX hY wx wy hCx hnext
              go_wp2
              rw [HCx.out]
              refine wp_region_still_lit (by kernel_rfl) (by kernel_rfl) ?_
              repeat still_step
              still_call (right6_11 _ H4.out _)
              repeat still_step
              still_call (turned25 _ H4.out _)
              repeat still_step
              refine wpStill_nil ?_
              change Exit.then _ _ _ _ wr.drew
              rw [HS0.out, HX.out]
              clear c0 c1
              obtain ⟨w7, hw7⟩ : ∃ w7, wr.drew = w7 := ⟨_, rfl⟩
              have hW7 : Arr w7 (w.heap.size + 1 + 1) .u64 80 (sp bs 64) := by rw [← hw7]; exact hW6
              have hS7 : Arr w7 w.heap.size .u64 32 st := by rw [← hw7]; exact hS6
              have hO7 : Arr w7 (w.heap.size + 1) .u64 32 (List.replicate 8 0) := by rw [← hw7]; exact hO6
              have hL7 : Arr w7 w2.heap.size .u64 80 rs := by rw [← hw7]; exact hL6
              have hB7 : Below w.heap.size w w7 := by rw [← hw7]; exact pw_below_drewN hB6 1
              rw [hw7]
              clear hW6 hS6 hO6 hL6 hB6 hw7
              go_wp2_with (first
                | (go_at_call 56; refine (right2_13 _ H0.out _).mono ?_; rintro e w8 ⟨rfl, rfl⟩)
                | (go_at_call 58; refine (turned22 _ H0.out _).mono ?_; rintro e w8 ⟨rfl, rfl⟩))
              go_roundw
              case rel =>
                refine ⟨k + 1, Int.tmod (IntKind.u64.wrap (x + y)) 4294967296, s0, s1, s2, Int.tmod (IntKind.u64.wrap (s3 + x)) 4294967296, s4, s5, s6, hlt, ?_, rfl, rfl, rfl, rfl, rfl, rfl, rfl, rfl, HN.out, hW7, hS7, hO7, hL7, hB7⟩
                rw [HT0.out, HM0.out, HY.out]
              case measure =>
                show 64 - (k + 1) < 64 - k
                exact Nat.sub_lt_sub_left hlt (Nat.lt_succ_self k)
            · have hk64 := Aside0.mk (show k = 64 by omega)
              have d0 : decide ((k : Int) < 64) = false := decide_eq_false (by omega)
              have hyt := tr_of st bs k hk64.out _ hrn
              have hw8 : W32s [s0, s1, s2, s3, s4, s5, s6, s7] := hrn ▸ rn_w (sp bs 64) st Hsw.out k
              have ha8 : W32s [a0, a1, a2, a3, a4, a5, a6, a7] := Hst.out ▸ Hsw.out
              have hyv : ys = [(IntKind.u64.wrap (a0 + s0)).tmod 4294967296, (IntKind.u64.wrap (a1 + s1)).tmod 4294967296, (IntKind.u64.wrap (a2 + s2)).tmod 4294967296, (IntKind.u64.wrap (a3 + s3)).tmod 4294967296, (IntKind.u64.wrap (a4 + s4)).tmod 4294967296, (IntKind.u64.wrap (a5 + s5)).tmod 4294967296, (IntKind.u64.wrap (a6 + s6)).tmod 4294967296, (IntKind.u64.wrap (a7 + s7)).tmod 4294967296] := by
                rw [← Hys.out, hyt, Hst.out, sm8]
                have q0 : (IntKind.u64.wrap (a0 + s0)).tmod 4294967296 = (s0 + a0) % 4294967296 := by rw [add1_w (show W32 a0 from ha8.at 0) (show W32 s0 from hw8.at 0), Int.add_comm]
                have q1 : (IntKind.u64.wrap (a1 + s1)).tmod 4294967296 = (s1 + a1) % 4294967296 := by rw [add1_w (show W32 a1 from ha8.at 1) (show W32 s1 from hw8.at 1), Int.add_comm]
                have q2 : (IntKind.u64.wrap (a2 + s2)).tmod 4294967296 = (s2 + a2) % 4294967296 := by rw [add1_w (show W32 a2 from ha8.at 2) (show W32 s2 from hw8.at 2), Int.add_comm]
                have q3 : (IntKind.u64.wrap (a3 + s3)).tmod 4294967296 = (s3 + a3) % 4294967296 := by rw [add1_w (show W32 a3 from ha8.at 3) (show W32 s3 from hw8.at 3), Int.add_comm]
                have q4 : (IntKind.u64.wrap (a4 + s4)).tmod 4294967296 = (s4 + a4) % 4294967296 := by rw [add1_w (show W32 a4 from ha8.at 4) (show W32 s4 from hw8.at 4), Int.add_comm]
                have q5 : (IntKind.u64.wrap (a5 + s5)).tmod 4294967296 = (s5 + a5) % 4294967296 := by rw [add1_w (show W32 a5 from ha8.at 5) (show W32 s5 from hw8.at 5), Int.add_comm]
                have q6 : (IntKind.u64.wrap (a6 + s6)).tmod 4294967296 = (s6 + a6) % 4294967296 := by rw [add1_w (show W32 a6 from ha8.at 6) (show W32 s6 from hw8.at 6), Int.add_comm]
                have q7 : (IntKind.u64.wrap (a7 + s7)).tmod 4294967296 = (s7 + a7) % 4294967296 := by rw [add1_w (show W32 a7 from ha8.at 7) (show W32 s7 from hw8.at 7), Int.add_comm]
                rw [q0, q1, q2, q3, q4, q5, q6, q7]
              have Hyv := Aside0.mk hyv
              clear hk hlt hrn hk64 hyt hw8 ha8 hyv
              go_wp2
              change Code.wp _ _ _ _ (wr.alloc (.cells ((List.replicate 8 0).map (Value.int .u64)).toArray 32))
              have hU8 : Arr (wr.alloc (.cells ((List.replicate 8 0).map (Value.int .u64)).toArray 32)) wr.heap.size .u64 32 [0, 0, 0, 0, 0, 0, 0, 0] := Arr.new_at rfl rfl
              have hS8 := hS6.alloc (.cells ((List.replicate 8 0).map (Value.int .u64)).toArray 32)
              have hO8 := hO6.alloc (.cells ((List.replicate 8 0).map (Value.int .u64)).toArray 32)
              have hB8 := hB6.alloc hB6.size (.cells ((List.replicate 8 0).map (Value.int .u64)).toArray 32)
              have N1 := Aside0.mk (show w.heap.size ≠ wr.heap.size by have := hO6.lt; omega)
              have N2 := Aside0.mk (show w.heap.size + 1 ≠ wr.heap.size by have := hO6.lt; omega)
              have N3 := Aside0.mk hB6.size
              clear hW6 hS6 hO6 hL6 hB6
              obtain ⟨w8, hw8⟩ : ∃ w8, wr.alloc (.cells ((List.replicate 8 0).map (Value.int .u64)).toArray 32) = w8 := ⟨_, rfl⟩
              rw [hw8] at hU8 hS8 hO8 hB8
              rw [hw8]
              clear hw8
              have z0 := CS0.out w8 hS8
              have z1 := CS1.out w8 hS8
              have z2 := CS2.out w8 hS8
              have z3 := CS3.out w8 hS8
              have g0 := hU8.free 0
              have y0 := hU8.cell (i := 0) (by simp)
              have g1 := hU8.free 1
              have y1 := hU8.cell (i := 1) (by simp)
              have g2 := hU8.free 2
              have y2 := hU8.cell (i := 2) (by simp)
              have g3 := hU8.free 3
              have y3 := hU8.cell (i := 3) (by simp)
              have n1 : (wr.heap.size = w.heap.size) = False := eq_false (Ne.symm N1.out)
              have n2 : (w.heap.size = wr.heap.size) = False := eq_false N1.out
              go_region_held3 (fun W => W.cell? ⟨w.heap.size, 0, none⟩ = some (.int .u64 a0) ∧ W.cell? ⟨w.heap.size, 1, none⟩ = some (.int .u64 a1) ∧ W.cell? ⟨w.heap.size, 2, none⟩ = some (.int .u64 a2) ∧ W.cell? ⟨w.heap.size, 3, none⟩ = some (.int .u64 a3)) (go_keep) (fail)
              rename_i hh
              clear hh
              clear z0 g0 y0 z1 g1 y1 z2 g2 y2 z3 g3 y3 n1 n2
              have hU10q := ((((hU8.set 0 ((IntKind.u64.wrap (a0 + s0)).tmod 4294967296)).set 1 ((IntKind.u64.wrap (a1 + s1)).tmod 4294967296)).set 2 ((IntKind.u64.wrap (a2 + s2)).tmod 4294967296)).set 3 ((IntKind.u64.wrap (a3 + s3)).tmod 4294967296))
              simp only [List.set_cons_zero, List.set_cons_succ] at hU10q
              have hS10q := ((((hS8.other 0 (Value.int .u64 ((IntKind.u64.wrap (a0 + s0)).tmod 4294967296)) N1.out).other 1 (Value.int .u64 ((IntKind.u64.wrap (a1 + s1)).tmod 4294967296)) N1.out).other 2 (Value.int .u64 ((IntKind.u64.wrap (a2 + s2)).tmod 4294967296)) N1.out).other 3 (Value.int .u64 ((IntKind.u64.wrap (a3 + s3)).tmod 4294967296)) N1.out)
              have hO10q := ((((hO8.other 0 (Value.int .u64 ((IntKind.u64.wrap (a0 + s0)).tmod 4294967296)) N2.out).other 1 (Value.int .u64 ((IntKind.u64.wrap (a1 + s1)).tmod 4294967296)) N2.out).other 2 (Value.int .u64 ((IntKind.u64.wrap (a2 + s2)).tmod 4294967296)) N2.out).other 3 (Value.int .u64 ((IntKind.u64.wrap (a3 + s3)).tmod 4294967296)) N2.out)
              have hB10q := (show Below w.heap.size w ((((w8.setCell ⟨wr.heap.size, 0, none⟩ (Value.int .u64 ((IntKind.u64.wrap (a0 + s0)).tmod 4294967296))).setCell ⟨wr.heap.size, 1, none⟩ (Value.int .u64 ((IntKind.u64.wrap (a1 + s1)).tmod 4294967296))).setCell ⟨wr.heap.size, 2, none⟩ (Value.int .u64 ((IntKind.u64.wrap (a2 + s2)).tmod 4294967296))).setCell ⟨wr.heap.size, 3, none⟩ (Value.int .u64 ((IntKind.u64.wrap (a3 + s3)).tmod 4294967296))) from (show Below w.heap.size w (((w8.setCell ⟨wr.heap.size, 0, none⟩ (Value.int .u64 ((IntKind.u64.wrap (a0 + s0)).tmod 4294967296))).setCell ⟨wr.heap.size, 1, none⟩ (Value.int .u64 ((IntKind.u64.wrap (a1 + s1)).tmod 4294967296))).setCell ⟨wr.heap.size, 2, none⟩ (Value.int .u64 ((IntKind.u64.wrap (a2 + s2)).tmod 4294967296))) from (show Below w.heap.size w ((w8.setCell ⟨wr.heap.size, 0, none⟩ (Value.int .u64 ((IntKind.u64.wrap (a0 + s0)).tmod 4294967296))).setCell ⟨wr.heap.size, 1, none⟩ (Value.int .u64 ((IntKind.u64.wrap (a1 + s1)).tmod 4294967296))) from (show Below w.heap.size w (w8.setCell ⟨wr.heap.size, 0, none⟩ (Value.int .u64 ((IntKind.u64.wrap (a0 + s0)).tmod 4294967296))) from hB8.setCell N3.out (Value.int .u64 ((IntKind.u64.wrap (a0 + s0)).tmod 4294967296))).setCell N3.out (Value.int .u64 ((IntKind.u64.wrap (a1 + s1)).tmod 4294967296))).setCell N3.out (Value.int .u64 ((IntKind.u64.wrap (a2 + s2)).tmod 4294967296))).setCell N3.out (Value.int .u64 ((IntKind.u64.wrap (a3 + s3)).tmod 4294967296)))
              clear hU8 hS8 hO8 hB8
              obtain ⟨w10q, hqw10q⟩ : ∃ w10q, ((((w8.setCell ⟨wr.heap.size, 0, none⟩ (Value.int .u64 ((IntKind.u64.wrap (a0 + s0)).tmod 4294967296))).setCell ⟨wr.heap.size, 1, none⟩ (Value.int .u64 ((IntKind.u64.wrap (a1 + s1)).tmod 4294967296))).setCell ⟨wr.heap.size, 2, none⟩ (Value.int .u64 ((IntKind.u64.wrap (a2 + s2)).tmod 4294967296))).setCell ⟨wr.heap.size, 3, none⟩ (Value.int .u64 ((IntKind.u64.wrap (a3 + s3)).tmod 4294967296))) = w10q := ⟨_, rfl⟩
              rw [hqw10q] at hU10q hS10q hO10q hB10q
              rw [hqw10q]
              clear hqw10q
              obtain ⟨w10, hqw10⟩ : ∃ w10, w10q.drew = w10 := ⟨_, rfl⟩
              have hU10 : Arr w10 wr.heap.size .u64 32 _ := hqw10 ▸ (show Arr w10q.drew wr.heap.size .u64 32 _ from hU10q)
              have hS10 : Arr w10 w.heap.size .u64 32 st := hqw10 ▸ (show Arr w10q.drew w.heap.size .u64 32 st from hS10q)
              have hO10 : Arr w10 (w.heap.size + 1) .u64 32 (List.replicate 8 0) := hqw10 ▸ (show Arr w10q.drew (w.heap.size + 1) .u64 32 (List.replicate 8 0) from hO10q)
              have hB10 : Below w.heap.size w w10 := hqw10 ▸ pw_below_drewN hB10q 1
              rw [hqw10]
              clear hqw10 hU10q hS10q hO10q hB10q
              go_wp2
              have z4 := CS4.out w10 hS10
              have z5 := CS5.out w10 hS10
              have z6 := CS6.out w10 hS10
              have z7 := CS7.out w10 hS10
              have g4 := hU10.free 4
              have y4 := hU10.cell (i := 4) (by simp)
              have g5 := hU10.free 5
              have y5 := hU10.cell (i := 5) (by simp)
              have g6 := hU10.free 6
              have y6 := hU10.cell (i := 6) (by simp)
              have g7 := hU10.free 7
              have y7 := hU10.cell (i := 7) (by simp)
              have n1 : (wr.heap.size = w.heap.size) = False := eq_false (Ne.symm N1.out)
              have n2 : (w.heap.size = wr.heap.size) = False := eq_false N1.out
              go_region_held3 (fun W => W.cell? ⟨w.heap.size, 4, none⟩ = some (.int .u64 a4) ∧ W.cell? ⟨w.heap.size, 5, none⟩ = some (.int .u64 a5) ∧ W.cell? ⟨w.heap.size, 6, none⟩ = some (.int .u64 a6) ∧ W.cell? ⟨w.heap.size, 7, none⟩ = some (.int .u64 a7)) (go_keep) (fail)
              rename_i hh
              clear hh
              clear z4 g4 y4 z5 g5 y5 z6 g6 y6 z7 g7 y7 n1 n2
              have hU12q := ((((hU10.set 4 ((IntKind.u64.wrap (a4 + s4)).tmod 4294967296)).set 5 ((IntKind.u64.wrap (a5 + s5)).tmod 4294967296)).set 6 ((IntKind.u64.wrap (a6 + s6)).tmod 4294967296)).set 7 ((IntKind.u64.wrap (a7 + s7)).tmod 4294967296))
              simp only [List.set_cons_zero, List.set_cons_succ] at hU12q
              have hS12q := ((((hS10.other 4 (Value.int .u64 ((IntKind.u64.wrap (a4 + s4)).tmod 4294967296)) N1.out).other 5 (Value.int .u64 ((IntKind.u64.wrap (a5 + s5)).tmod 4294967296)) N1.out).other 6 (Value.int .u64 ((IntKind.u64.wrap (a6 + s6)).tmod 4294967296)) N1.out).other 7 (Value.int .u64 ((IntKind.u64.wrap (a7 + s7)).tmod 4294967296)) N1.out)
              have hO12q := ((((hO10.other 4 (Value.int .u64 ((IntKind.u64.wrap (a4 + s4)).tmod 4294967296)) N2.out).other 5 (Value.int .u64 ((IntKind.u64.wrap (a5 + s5)).tmod 4294967296)) N2.out).other 6 (Value.int .u64 ((IntKind.u64.wrap (a6 + s6)).tmod 4294967296)) N2.out).other 7 (Value.int .u64 ((IntKind.u64.wrap (a7 + s7)).tmod 4294967296)) N2.out)
              have hB12q := (show Below w.heap.size w ((((w10.setCell ⟨wr.heap.size, 4, none⟩ (Value.int .u64 ((IntKind.u64.wrap (a4 + s4)).tmod 4294967296))).setCell ⟨wr.heap.size, 5, none⟩ (Value.int .u64 ((IntKind.u64.wrap (a5 + s5)).tmod 4294967296))).setCell ⟨wr.heap.size, 6, none⟩ (Value.int .u64 ((IntKind.u64.wrap (a6 + s6)).tmod 4294967296))).setCell ⟨wr.heap.size, 7, none⟩ (Value.int .u64 ((IntKind.u64.wrap (a7 + s7)).tmod 4294967296))) from (show Below w.heap.size w (((w10.setCell ⟨wr.heap.size, 4, none⟩ (Value.int .u64 ((IntKind.u64.wrap (a4 + s4)).tmod 4294967296))).setCell ⟨wr.heap.size, 5, none⟩ (Value.int .u64 ((IntKind.u64.wrap (a5 + s5)).tmod 4294967296))).setCell ⟨wr.heap.size, 6, none⟩ (Value.int .u64 ((IntKind.u64.wrap (a6 + s6)).tmod 4294967296))) from (show Below w.heap.size w ((w10.setCell ⟨wr.heap.size, 4, none⟩ (Value.int .u64 ((IntKind.u64.wrap (a4 + s4)).tmod 4294967296))).setCell ⟨wr.heap.size, 5, none⟩ (Value.int .u64 ((IntKind.u64.wrap (a5 + s5)).tmod 4294967296))) from (show Below w.heap.size w (w10.setCell ⟨wr.heap.size, 4, none⟩ (Value.int .u64 ((IntKind.u64.wrap (a4 + s4)).tmod 4294967296))) from hB10.setCell N3.out (Value.int .u64 ((IntKind.u64.wrap (a4 + s4)).tmod 4294967296))).setCell N3.out (Value.int .u64 ((IntKind.u64.wrap (a5 + s5)).tmod 4294967296))).setCell N3.out (Value.int .u64 ((IntKind.u64.wrap (a6 + s6)).tmod 4294967296))).setCell N3.out (Value.int .u64 ((IntKind.u64.wrap (a7 + s7)).tmod 4294967296)))
              clear hU10 hS10 hO10 hB10
              obtain ⟨w12q, hqw12q⟩ : ∃ w12q, ((((w10.setCell ⟨wr.heap.size, 4, none⟩ (Value.int .u64 ((IntKind.u64.wrap (a4 + s4)).tmod 4294967296))).setCell ⟨wr.heap.size, 5, none⟩ (Value.int .u64 ((IntKind.u64.wrap (a5 + s5)).tmod 4294967296))).setCell ⟨wr.heap.size, 6, none⟩ (Value.int .u64 ((IntKind.u64.wrap (a6 + s6)).tmod 4294967296))).setCell ⟨wr.heap.size, 7, none⟩ (Value.int .u64 ((IntKind.u64.wrap (a7 + s7)).tmod 4294967296))) = w12q := ⟨_, rfl⟩
              rw [hqw12q] at hU12q hS12q hO12q hB12q
              rw [hqw12q]
              clear hqw12q
              obtain ⟨w12, hqw12⟩ : ∃ w12, w12q.drew = w12 := ⟨_, rfl⟩
              have hU12 : Arr w12 wr.heap.size .u64 32 _ := hqw12 ▸ (show Arr w12q.drew wr.heap.size .u64 32 _ from hU12q)
              have hS12 : Arr w12 w.heap.size .u64 32 st := hqw12 ▸ (show Arr w12q.drew w.heap.size .u64 32 st from hS12q)
              have hO12 : Arr w12 (w.heap.size + 1) .u64 32 (List.replicate 8 0) := hqw12 ▸ (show Arr w12q.drew (w.heap.size + 1) .u64 32 (List.replicate 8 0) from hO12q)
              have hB12 : Below w.heap.size w w12 := hqw12 ▸ pw_below_drewN hB12q 1
              rw [hqw12]
              clear hqw12 hU12q hS12q hO12q hB12q
              have hU13 : Arr w12 wr.heap.size .u64 32 ys := by rw [Hyv.out]; exact hU12
              have Hyl := Aside0.mk (show ys.length = 8 by rw [Hyv.out]; rfl)
              clear hU12
              go_wp2_with (first
                | (refine load_arr rfl 32 24 rfl wr.heap.size rfl hU13 Tryd.underlying32 (by rw [Hyl.out]; kernel_rfl) ?_; refine store_arr rfl 32 4 217 rfl rfl (w.heap.size + 1) rfl rfl hO12 (by rw [Hyl.out]; rfl) (by rw [Hyl.out]; kernel_rfl) ?_; intro w13 hg13 hs13 hA13; apply wpList_nil; rename_i hKK; refine hKK _ _ ?_; refine wp_ret ?_; exact ret_arr 4 32 (by kernel_rfl) rfl hA13 Tryd.underlying32 (by rw [Hyl.out]; kernel_rfl) rfl ⟨rfl, hB12.grown hg13 (Nat.le_trans (Nat.le_succ _) (Nat.le_of_lt hO12.lt)) (fun j e => by cases e; exact Nat.le_succ _)⟩))
end Go.Proofs.YtalghfnjelcpnaaDoor
