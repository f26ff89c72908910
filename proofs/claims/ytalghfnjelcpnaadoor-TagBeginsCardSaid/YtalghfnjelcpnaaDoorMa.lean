/- mac.Block: what the call returns, for every key. Condition: the table 'rounds' holds what the program's text lays. mac.with, mac.New: what the calls return. Condition: the table 'rounds' holds what the program's text lays. mac.New: what the call returns. Condition: the table 'rounds' holds what the program's text lays. mac.Seal: what the call returns. Condition: the table 'rounds' holds what the program's text lays. mac.Sum: what the call returns. Condition: the table 'rounds' holds what the program's text lays. Layer 4's laws' great and wakes: what the calls return. Condition: the table 'rounds' holds what the program's text lays. Layer 4's example: what the call returns. Condition: the table 'rounds' holds what the program's text lays. -/
import Derived.Test.YtalghfnjelcpnaaDoorSd
import Derived.Laws.CopyOwn
import Derived.Deep.RegionHeld
import Derived.Deep.MidRow
import Derived.Lib.SlBytesConst
namespace Go.Proofs.YtalghfnjelcpnaaDoor
set_option linter.unusedVariables false
set_option linter.unusedSimpArgs false
open Go.RowKit Go.Proofs.YtalghfnjelcpnaaDoorW.PrintWords Go.Proofs.YtalghfnjelcpnaaDoor.Db

section
variable {o : Oper} {ops : Array Oper} {rest : List Oper} {a : Act} {Q : Exit → Act → World → Prop} {w : World} {T : TypeId}
theorem copy_arr (hgd : o.guard = none) (s x : Operand) (ho : o.op = .call { callee := .builtin .copy, args := #[s, x], argTypes := #[22, 22] }) (g n m c : Nat) (A : Option Addr) (xs ys : List Int)
    (hs : a.eval s = .slice (some ⟨g, 0, none⟩) n n) (hx : a.eval x = .slice A m c) (hm : ys.length = m) (h : Arr w g .u8 T xs) (hl : xs.length = n) (hle : ys.length ≤ n) (hC : Kd.C (Kd.int .u8) w A ys.length ys)
    (K : ∀ w', w.grownBy w' (some g) → w'.heap.size = w.heap.size → Arr w' g .u8 T (ys ++ xs.drop ys.length) → wpList Tryd.prog ops Q rest (a.put o.dst (goInt ys.length)) w') : wpList Tryd.prog ops Q (o :: rest) a w := by
  subst hm
  rcases Nat.eq_zero_or_pos ys.length with h0 | h0
  · obtain rfl := List.eq_nil_of_length_eq_zero h0
    refine wpList_copy_nothing hgd s x 22 22 ho 5 Tryd.underlying22 (by kernel_rfl) _ _ n n _ c hs hx (by simp) ?_
    exact K w ⟨rfl, rfl, rfl, Nat.le_refl _, fun _ _ _ => rfl⟩ rfl h
  · obtain ⟨ad, rfl, hc⟩ := (Kd.reads_of_C (d := (0 : Int)) hC).2.2 h0
    refine wpList_copy_own hgd s x 22 22 ho 5 Tryd.underlying22 (by kernel_rfl) g 0 n n ad ys.length c hs hx _ T h (ys.map (Value.int .u8)) (by rw [List.length_map]; exact (Nat.min_eq_left hle).symm) (fun j v hv => ?_) (by simp; omega) (one_cells _) ?_
    · have hj : j < ys.length := by have := (List.getElem?_eq_some_iff.1 hv).1; simpa using this
      rw [hc j hj, ← hv, List.getElem?_map, List.getElem?_eq_getElem hj]
      simp [List.getD_eq_getElem?_getD, List.getElem?_eq_getElem hj]
    · rw [List.length_map]
      refine K _ (setRow_grown w g _) (setRow_size w g _) ?_
      exact (setRow_heap w g _ _ T (0, 0) h).trans (by simp)
end
/-- A key's bytes that count. -/
def keyL (l : List Int) : List Int := if 64 < l.length then sumL l else l
/-- A key's block. -/
def blk (l : List Int) : List Int := keyL l ++ List.replicate (64 - (keyL l).length) 0
theorem keyL_le (l : List Int) : (keyL l).length ≤ 64 := by
  unfold keyL
  split
  · rw [sumL_len]; omega
  · omega
theorem blk_len (l : List Int) : (blk l).length = 64 := by
  unfold blk
  rw [List.length_append, List.length_replicate]
  have := keyL_le l
  omega
theorem blk_of (l k : List Int) (h : keyL l = k) : blk l = k ++ (List.replicate 64 0).drop k.length := by
  rw [blk, h, List.drop_replicate]
theorem slice_arr24 (g : Nat) (W : World) : (Instr.sliceAt 24 (.pointer (some ⟨g, 0, none⟩)) none none none).run Tryd.prog W = .ok (.slice (some ⟨g, 0, none⟩) 32 32) W := by kernel_rfl
theorem two_blocks (w : World) : Below w.heap.size w ((w.alloc (.cells ((List.replicate 64 0).map (Value.int .u8)).toArray 30)).alloc (.cells ((List.replicate 64 0).map (Value.int .u8)).toArray 30)) ∧ Arr ((w.alloc (.cells ((List.replicate 64 0).map (Value.int .u8)).toArray 30)).alloc (.cells ((List.replicate 64 0).map (Value.int .u8)).toArray 30)) w.heap.size .u8 30 (List.replicate 64 0) ∧ Arr ((w.alloc (.cells ((List.replicate 64 0).map (Value.int .u8)).toArray 30)).alloc (.cells ((List.replicate 64 0).map (Value.int .u8)).toArray 30)) (w.heap.size + 1) .u8 30 (List.replicate 64 0) ∧ ((w.alloc (.cells ((List.replicate 64 0).map (Value.int .u8)).toArray 30)).alloc (.cells ((List.replicate 64 0).map (Value.int .u8)).toArray 30)).heap.size = w.heap.size + 1 + 1 :=
  ⟨((Below.refl _ w).alloc (Nat.le_refl _) _).alloc (by rw [World.size_alloc]; omega) _, (Arr.new_at (k := .u8) (T := 30) (xs := List.replicate 64 0) (w := w) rfl rfl).alloc _, Arr.new_at (k := .u8) (T := 30) (xs := List.replicate 64 0) (World.size_alloc _ _) rfl, by rw [World.size_alloc, World.size_alloc]⟩
theorem keyL_C {w : World} {g : Nat} {zs : List Int} (h : Arr w g .u8 24 zs) (hl : zs.length = 32) : Kd.C (Kd.int .u8) w (some ⟨g, 0, none⟩) zs.length zs := lit_C h (by omega)
set_option maxHeartbeats 4000000 in
set_option maxRecDepth 100000 in
theorem Block_any (A : Option Addr) (cap : Nat) (l : List Int) (w : World) (hR : Rounds w) (hC : Kd.C (Kd.int .u8) w A l.length l) (hc : l.length ≤ cap) (hl : l.length < 1073741824) :
    Calls Tryd.prog 41 #[.slice A l.length cap] w fun e w' => e = .returned (AV .u8 (blk l)) ∧ Below w.heap.size w w' := by
  have HR := Aside0.mk hR
  have hpos := Aside0.mk hR.pos
  have HC := Aside0.mk hC
  have Hc := Aside0.mk hc
  have Hl := Aside0.mk hl
  obtain ⟨ys, hys⟩ : ∃ ys, blk l = ys := ⟨_, rfl⟩
  have hyl : ys.length = 64 := by rw [← hys]; exact blk_len l
  have Hyl := Aside0.mk hyl
  rw [hys]
  obtain ⟨hB0, hO0, hX0, hs0⟩ := two_blocks w
  have HB0 := Aside0.mk hB0
  have HO0 := Aside0.mk hO0
  have HX0 := Aside0.mk hX0
  have Hs0 := Aside0.mk hs0
  by_cases h : 64 < l.length
  · have d1 : decide (64 < (l.length : Int)) = true := by simp; omega
    obtain ⟨zs, hzs⟩ : ∃ zs, sumL l = zs := ⟨_, rfl⟩
    have hzl : zs.length = 32 := by rw [← hzs]; exact sumL_len _
    have hyz := Aside0.mk (show zs ++ (List.replicate 64 0).drop zs.length = ys by rw [← hys, blk_of l zs (by rw [keyL, if_pos h, hzs])])
    have Hzl := Aside0.mk hzl
    have Hzs := Aside0.mk hzs
    have hc0 := arg1_C ((w.alloc (.cells ((List.replicate 64 0).map (Value.int .u8)).toArray 30)).alloc (.cells ((List.replicate 64 0).map (Value.int .u8)).toArray 30)) A cap l hc (Kd.C_below hC hB0)
    rw [hs0] at hc0
    have Hc0 := Aside0.mk hc0
    have HB1 := Aside0.mk (hB0.alloc hB0.size (.cells #[.slice A l.length cap] 22))
    have HO1 := Aside0.mk (hO0.alloc (.cells #[.slice A l.length cap] 22))
    have HX1 := Aside0.mk (hX0.alloc (.cells #[.slice A l.length cap] 22))
    clear hR hC hc hl h hys hyl hzs hzl hB0 hO0 hX0 hs0 hc0
    go_enter Tryd.func41, Tryd.ntmps41
    go_wp2_with (first
      | (go_at_call 21; refine (SSum_any (some ⟨w.heap.size + 1 + 1, 0, none⟩) 1 [l] _ (HR.out.below HB1.out hpos.out) Hc0.out (by have := Hl.out; simp; omega)).mono ?_; rintro e w3 ⟨rfl, hb3⟩; rw [List.flatten_singleton, Hzs.out]; have hB3 := HB1.out.trans (hb3.mono HB1.out.size); have hO3 := HO1.out.below hb3 HO1.out.lt; have hX3 := HX1.out.below hb3 HX1.out.lt; clear hb3)
      | (refine store_arr rfl 24 4 10 rfl rfl w3.heap.size rfl rfl (Arr.new_at (k := .u8) (xs := List.replicate 32 0) rfl rfl) (by rw [Hzl.out]; rfl) (by rw [Hzl.out]; kernel_rfl) ?_; intro w4 hg4 hs4 hA4; have hO4 := (hO3.alloc (.cells ((List.replicate 32 0).map (Value.int .u8)).toArray 24)).grown hg4 (by have := hO3.lt; simp; omega); have hX4 := (hX3.alloc (.cells ((List.replicate 32 0).map (Value.int .u8)).toArray 24)).grown hg4 (by have := hX3.lt; simp; omega); have hB4 := (hB3.alloc hB3.size (.cells ((List.replicate 32 0).map (Value.int .u8)).toArray 24)).grown hg4 (by rw [World.size_alloc]; have := hB3.size; omega) (fun j e => by cases e; exact hB3.size))
      | (refine copy_arr rfl (.tmp 12) (.tmp 13) rfl (w.heap.size + 1) 64 32 32 (some ⟨w3.heap.size, 0, none⟩) (List.replicate 64 0) zs rfl rfl Hzl.out hX4 rfl (by rw [Hzl.out]; decide) (keyL_C hA4 Hzl.out) ?_; intro w5 hg5 hs5 hX5; rw [hyz.out] at hX5; have hO5 := hO4.grown hg5 (by simp); have hB5 := hB4.grown hg5 hB4.size (fun j e => by cases e; omega))
      | (refine load_arr rfl 30 3 rfl (w.heap.size + 1) rfl hX5 Tryd.underlying30 (by rw [Hyl.out]; kernel_rfl) ?_; refine store_arr rfl 30 2 15 rfl rfl w.heap.size rfl rfl hO5 (by rw [Hyl.out]; rfl) (by rw [Hyl.out]; kernel_rfl) ?_; intro w6 hg6 hs6 hA6; apply wpList_nil; rename_i hKK; refine hKK _ _ ?_; refine wp_ret ?_; exact ret_arr 2 30 (by kernel_rfl) rfl hA6 Tryd.underlying30 (by rw [Hyl.out]; kernel_rfl) rfl ⟨rfl, hB5.grown hg6 hB5.size (fun j e => by cases e; omega)⟩))
  · have d1 : decide (64 < (l.length : Int)) = false := by simp; omega
    have hyz := Aside0.mk (show l ++ (List.replicate 64 0).drop l.length = ys by rw [← hys, blk_of l l (by rw [keyL, if_neg h])])
    have Hle := Aside0.mk (show l.length ≤ 64 by omega)
    have HC0 := Aside0.mk (Kd.C_below hC hB0)
    clear hR hC hc hl h hys hyl hB0 hO0 hX0 hs0
    go_enter Tryd.func41, Tryd.ntmps41
    go_wp2_with (first
      | (refine copy_arr rfl (.tmp 12) (.tmp 13) rfl (w.heap.size + 1) 64 l.length cap A (List.replicate 64 0) l rfl rfl rfl HX0.out rfl Hle.out HC0.out ?_; intro w5 hg5 hs5 hX5; rw [hyz.out] at hX5; have hO5 := HO0.out.grown hg5 (by simp); have hB5 := HB0.out.grown hg5 HB0.out.size (fun j e => by cases e; omega))
      | (refine load_arr rfl 30 3 rfl (w.heap.size + 1) rfl hX5 Tryd.underlying30 (by rw [Hyl.out]; kernel_rfl) ?_; refine store_arr rfl 30 2 15 rfl rfl w.heap.size rfl rfl hO5 (by rw [Hyl.out]; rfl) (by rw [Hyl.out]; kernel_rfl) ?_; intro w6 hg6 hs6 hA6; apply wpList_nil; rename_i hKK; refine hKK _ _ ?_; refine wp_ret ?_; exact ret_arr 2 30 (by kernel_rfl) rfl hA6 Tryd.underlying30 (by rw [Hyl.out]; kernel_rfl) rfl ⟨rfl, hB5.grown hg6 hB5.size (fun j e => by cases e; omega)⟩))
end Go.Proofs.YtalghfnjelcpnaaDoor
namespace Go.Proofs.YtalghfnjelcpnaaDoor
set_option linter.unusedVariables false
set_option linter.unusedSimpArgs false
open Go.RowKit Go.Proofs.YtalghfnjelcpnaaDoorW.PrintWords Go.Proofs.YtalghfnjelcpnaaDoor.Db

/-- A block, each byte exclusive or another one. -/
def wit (bs : List Int) (x : Int) : List Int := bs.map fun y => Go.bits .xor .u8 y x
theorem wit_len (bs : List Int) (x : Int) : (wit bs x).length = bs.length := by unfold wit; rw [List.length_map]
theorem wit_at (bs : List Int) (x : Int) (k : Nat) (hk : k < bs.length) : (wit bs x).getD k 0 = Go.bits .xor .u8 (bs.getD k 0) x := by
  unfold wit
  simp [List.getD_eq_getElem?_getD, List.getElem?_eq_getElem hk]
theorem upd_at (xs ys : List Int) (k : Nat) (hk : k < ys.length) (hl : xs.length = ys.length) : (ys.take k ++ xs.drop k).getD k 0 = xs.getD k 0 := by
  rw [List.getD_eq_getElem?_getD, List.getElem?_append_right (by rw [List.length_take]; omega), List.length_take, Nat.min_eq_left (by omega), Nat.sub_self, List.getElem?_drop, Nat.add_zero, ← List.getD_eq_getElem?_getD]
theorem upd_set (xs ys : List Int) (k : Nat) (hk : k < ys.length) (hl : xs.length = ys.length) : (ys.take k ++ xs.drop k).set k (ys.getD k 0) = ys.take (k + 1) ++ xs.drop (k + 1) := by
  have h1 : (ys.take k).length = k := by rw [List.length_take]; omega
  rw [List.set_append_right _ _ (by omega), h1, Nat.sub_self, List.drop_eq_getElem_cons (by omega : k < xs.length), List.set_cons_zero, List.take_succ_eq_append_getElem hk, List.append_assoc]
  simp [List.getD_eq_getElem?_getD, List.getElem?_eq_getElem hk]
set_option maxHeartbeats 4000000 in
set_option maxRecDepth 100000 in
theorem with_any (bs : List Int) (x : Int) (w : World) (hl : bs.length = 64) : Calls Tryd.prog 69 #[AV .u8 bs, .int .u8 x] w fun e w' => e = .returned (AV .u8 (wit bs x)) ∧ Below w.heap.size w w' := by
  obtain ⟨ys, hys⟩ : ∃ ys, wit bs x = ys := ⟨_, rfl⟩
  have hyl : ys.length = 64 := by rw [← hys, wit_len, hl]
  have hya : ∀ k, k < 64 → ys.getD k 0 = Go.bits .xor .u8 (bs.getD k 0) x := fun k hk => by rw [← hys]; exact wit_at bs x k (by omega)
  rw [hys]
  have Hl := Aside0.mk hl
  have Hyl := Aside0.mk hyl
  have Hya := Aside0.mk hya
  clear hys hl hyl hya
  go_enter Tryd.func69, Tryd.ntmps69
  go_wp2_with (first
    | (refine box_arr rfl 30 0 rfl rfl ?_; intro w1 hg1 hs1 hS1; have hb1 : Below w.heap.size w w1 := (Below.refl _ w).grown hg1 (Nat.le_refl _) (by intro k e; cases e)))
  have hX2 : Arr (w1.alloc (.cells ((List.replicate 64 0).map (Value.int .u8)).toArray 30)) w.heap.size .u8 30 (ys.take 0 ++ bs.drop 0) := hS1.alloc _
  have hO2 : Arr (w1.alloc (.cells ((List.replicate 64 0).map (Value.int .u8)).toArray 30)) (w.heap.size + 1) .u8 30 (List.replicate 64 0) := Arr.new_at hs1 rfl
  have hB2 := hb1.alloc hb1.size (.cells ((List.replicate 64 0).map (Value.int .u8)).toArray 30)
  clear hS1 hb1 hg1
  go_loopw [6] (fun v ww => ∃ k : Nat, k ≤ 64 ∧ v = .int .i64 k ∧ Arr ww w.heap.size .u8 30 (ys.take k ++ bs.drop k) ∧ Arr ww (w.heap.size + 1) .u8 30 (List.replicate 64 0) ∧ Below w.heap.size w ww)
    (fun v _ => 64 - (intOf v).toNat)
  case atStart => exact ⟨0, by omega, rfl, hX2, hO2, hB2⟩
  case round =>
    clear hX2 hO2 hB2
    obtain ⟨k, hk, rfl, hX, hO, hB⟩ := hrel
    by_cases hlt : k < 64
    · have d0 : decide ((k : Int) < 64) = true := decide_eq_true (by omega)
      have d1 : (k : Int) < 64 := by omega
      obtain ⟨y, hy⟩ : ∃ y, bs.getD k 0 = y := ⟨_, rfl⟩
      have hul : (ys.take k ++ bs.drop k).length = 64 := by rw [List.length_append, List.length_take, List.length_drop, Hyl.out, Hl.out]; omega
      have c0 := hX.cell (i := k) (by rw [hul]; exact hlt)
      rw [upd_at bs ys k (by rw [Hyl.out]; exact hlt) (by rw [Hyl.out, Hl.out]), hy] at c0
      have g0 := hX.free k
      have hn := upd_set bs ys k (by rw [Hyl.out]; exact hlt) (by rw [Hyl.out, Hl.out])
      rw [Hya.out k hlt, hy] at hn
      have h1 := hX.set k (Go.bits .xor .u8 y x)
      rw [hn] at h1
      have Hlt := Aside0.mk hlt
      clear hn hul hy hlt hk
      go_wp2
      go_roundw
      case rel => exact ⟨k + 1, Hlt.out, rfl, h1, hO.other k _ (by omega), hB.setCell (Nat.le_refl _) _⟩
      case measure =>
        show 64 - (k + 1) < 64 - k
        exact Nat.sub_lt_sub_left Hlt.out (Nat.lt_succ_self k)
    · obtain rfl : k = 64 := by omega
      rw [List.take_of_length_le (Nat.le_of_eq Hyl.out), List.drop_eq_nil_of_le (Nat.le_of_eq Hl.out), List.append_nil] at hX
      clear hk hlt
      go_wp2_with (first
        | (refine load_arr rfl 30 2 rfl _ rfl hX Tryd.underlying30 (by rw [Hyl.out]; kernel_rfl) ?_; refine store_arr rfl 30 4 16 rfl rfl (w.heap.size + 1) rfl rfl hO (by rw [Hyl.out]; rfl) (by rw [Hyl.out]; kernel_rfl) ?_; intro w13 hg13 hs13 hA13; apply wpList_nil; rename_i hKK; refine hKK _ _ ?_; refine wp_ret ?_; exact ret_arr 4 30 (by kernel_rfl) rfl hA13 Tryd.underlying30 (by rw [Hyl.out]; kernel_rfl) rfl ⟨rfl, hB.grown hg13 hB.size (fun j e => by cases e; omega)⟩))
/-- A seal in the making lies there: the digest's address and the key's block. -/
def Ms (w : World) (m h : Nat) (bs : List Int) : Prop := w.heap[m]? = some (.cells (Value.pointer (some ⟨h, 0, none⟩) :: bs.map (Value.int .u8)).toArray 63 (0, 0))
section
variable {w w1 : World} {m h : Nat} {bs : List Int}
theorem Ms.lt (k : Ms w m h bs) : m < w.heap.size := (Array.getElem?_eq_some_iff.1 k).1
theorem Ms.cell (k : Ms w m h bs) (i : Nat) : w.cell? ⟨m, i, none⟩ = (Value.pointer (some ⟨h, 0, none⟩) :: bs.map (Value.int .u8))[i]? := by
  rw [cell_of_row w m i _ 63 (0, 0) k]; simp
theorem Ms.c0 (k : Ms w m h bs) : w.cell? ⟨m, 0, none⟩ = some (.pointer (some ⟨h, 0, none⟩)) := k.cell 0
theorem Ms.rb (k : Ms w m h bs) : w.rangeAt m 1 (bs.map (Value.int .u8)) := fun j v hv => by
  rw [k.cell (1 + j), Nat.add_comm 1 j, List.getElem?_cons_succ, hv]
theorem Ms.below (k : Ms w m h bs) {B : Nat} (hb : Below B w w1) (hB : m < B) : Ms w1 m h bs := (hb.block m hB).trans k
theorem Ms.alloc (k : Ms w m h bs) (o : Obj) : Ms (w.alloc o) m h bs := (Below.heap_alloc w o m k.lt).trans k
theorem Ms.grown (k : Ms w m h bs) {row : Option Nat} (hg : w.grownBy w1 row) (hne : some m ≠ row) : Ms w1 m h bs := (hg.block m k.lt hne).trans k
theorem Ms.drewN (k : Ms w m h bs) (n : Nat) : Ms (w.drewN n) m h bs := k
end
theorem built63 (h : Nat) (bs : List Int) (hl : bs.length = 64) : Tryd.prog.built 63 [(0, .pointer (some ⟨h, 0, none⟩)), (1, AV .u8 bs)] = some (Value.pointer (some ⟨h, 0, none⟩) :: bs.map (Value.int .u8)).toArray := by
  rcases bs with _ | ⟨b0, bs⟩
  · simp at hl
  rcases bs with _ | ⟨b1, bs⟩
  · simp at hl
  rcases bs with _ | ⟨b2, bs⟩
  · simp at hl
  rcases bs with _ | ⟨b3, bs⟩
  · simp at hl
  rcases bs with _ | ⟨b4, bs⟩
  · simp at hl
  rcases bs with _ | ⟨b5, bs⟩
  · simp at hl
  rcases bs with _ | ⟨b6, bs⟩
  · simp at hl
  rcases bs with _ | ⟨b7, bs⟩
  · simp at hl
  rcases bs with _ | ⟨b8, bs⟩
  · simp at hl
  rcases bs with _ | ⟨b9, bs⟩
  · simp at hl
  rcases bs with _ | ⟨b10, bs⟩
  · simp at hl
  rcases bs with _ | ⟨b11, bs⟩
  · simp at hl
  rcases bs with _ | ⟨b12, bs⟩
  · simp at hl
  rcases bs with _ | ⟨b13, bs⟩
  · simp at hl
  rcases bs with _ | ⟨b14, bs⟩
  · simp at hl
  rcases bs with _ | ⟨b15, bs⟩
  · simp at hl
  rcases bs with _ | ⟨b16, bs⟩
  · simp at hl
  rcases bs with _ | ⟨b17, bs⟩
  · simp at hl
  rcases bs with _ | ⟨b18, bs⟩
  · simp at hl
  rcases bs with _ | ⟨b19, bs⟩
  · simp at hl
  rcases bs with _ | ⟨b20, bs⟩
  · simp at hl
  rcases bs with _ | ⟨b21, bs⟩
  · simp at hl
  rcases bs with _ | ⟨b22, bs⟩
  · simp at hl
  rcases bs with _ | ⟨b23, bs⟩
  · simp at hl
  rcases bs with _ | ⟨b24, bs⟩
  · simp at hl
  rcases bs with _ | ⟨b25, bs⟩
  · simp at hl
  rcases bs with _ | ⟨b26, bs⟩
  · simp at hl
  rcases bs with _ | ⟨b27, bs⟩
  · simp at hl
  rcases bs with _ | ⟨b28, bs⟩
  · simp at hl
  rcases bs with _ | ⟨b29, bs⟩
  · simp at hl
  rcases bs with _ | ⟨b30, bs⟩
  · simp at hl
  rcases bs with _ | ⟨b31, bs⟩
  · simp at hl
  rcases bs with _ | ⟨b32, bs⟩
  · simp at hl
  rcases bs with _ | ⟨b33, bs⟩
  · simp at hl
  rcases bs with _ | ⟨b34, bs⟩
  · simp at hl
  rcases bs with _ | ⟨b35, bs⟩
  · simp at hl
  rcases bs with _ | ⟨b36, bs⟩
  · simp at hl
  rcases bs with _ | ⟨b37, bs⟩
  · simp at hl
  rcases bs with _ | ⟨b38, bs⟩
  · simp at hl
  rcases bs with _ | ⟨b39, bs⟩
  · simp at hl
  rcases bs with _ | ⟨b40, bs⟩
  · simp at hl
  rcases bs with _ | ⟨b41, bs⟩
  · simp at hl
  rcases bs with _ | ⟨b42, bs⟩
  · simp at hl
  rcases bs with _ | ⟨b43, bs⟩
  · simp at hl
  rcases bs with _ | ⟨b44, bs⟩
  · simp at hl
  rcases bs with _ | ⟨b45, bs⟩
  · simp at hl
  rcases bs with _ | ⟨b46, bs⟩
  · simp at hl
  rcases bs with _ | ⟨b47, bs⟩
  · simp at hl
  rcases bs with _ | ⟨b48, bs⟩
  · simp at hl
  rcases bs with _ | ⟨b49, bs⟩
  · simp at hl
  rcases bs with _ | ⟨b50, bs⟩
  · simp at hl
  rcases bs with _ | ⟨b51, bs⟩
  · simp at hl
  rcases bs with _ | ⟨b52, bs⟩
  · simp at hl
  rcases bs with _ | ⟨b53, bs⟩
  · simp at hl
  rcases bs with _ | ⟨b54, bs⟩
  · simp at hl
  rcases bs with _ | ⟨b55, bs⟩
  · simp at hl
  rcases bs with _ | ⟨b56, bs⟩
  · simp at hl
  rcases bs with _ | ⟨b57, bs⟩
  · simp at hl
  rcases bs with _ | ⟨b58, bs⟩
  · simp at hl
  rcases bs with _ | ⟨b59, bs⟩
  · simp at hl
  rcases bs with _ | ⟨b60, bs⟩
  · simp at hl
  rcases bs with _ | ⟨b61, bs⟩
  · simp at hl
  rcases bs with _ | ⟨b62, bs⟩
  · simp at hl
  rcases bs with _ | ⟨b63, bs⟩
  · simp at hl
  rcases bs with _ | ⟨b64, bs⟩
  · kernel_rfl
  · simp at hl
section
variable {P : Program} {ops : Array Oper} {rest : List Oper} {o : Oper} {a : Act} {Q : Exit → Act → World → Prop} {w : World}
theorem build63 (hgd : o.guard = none) (x y : Tmp) (ho : o.op = .build 63 #[(0, .tmp x), (1, .tmp y)]) (h : Nat) (bs : List Int) (hl : bs.length = 64) (hx : a.eval (.tmp x) = .pointer (some ⟨h, 0, none⟩)) (hy : a.eval (.tmp y) = AV .u8 bs)
    (K : wpList Tryd.prog ops Q rest (a.put o.dst (.agg (Value.pointer (some ⟨h, 0, none⟩) :: bs.map (Value.int .u8)).toArray)) w) : wpList Tryd.prog ops Q (o :: rest) a w := by
  refine wpList_plain hgd fun K' hK => ?_
  have h : (execOp a.eval o).run Tryd.prog w = .ok (.value (.agg (Value.pointer (some ⟨h, 0, none⟩) :: bs.map (Value.int .u8)).toArray)) w := by
    unfold execOp
    have h1 := run_build (P := Tryd.prog) w 63 #[(0, .pointer (some ⟨h, 0, none⟩)), (1, AV .u8 bs)] _ (built63 h bs hl)
    simp [ho, hx, hy, h1]
  unfold Oper.wp
  rw [h]
  exact hK _ _ K
theorem load_mid (hgd : o.guard = none) (ty : TypeId) (x : Tmp) (ho : o.op = .load ty (.tmp x)) (g off : Nat) (hx : a.eval (.tmp x) = .pointer (some ⟨g, off, none⟩)) {k : IntKind} {xs : List Int} (h : w.rangeAt g off (xs.map (Value.int k))) {n : Nat} {e : TypeId} (hu : P.underlying ty = some (.array n e))
    (hi : (P.info? ty).map (·.size) = some xs.length) (K : wpList P ops Q rest (a.put o.dst (AV k xs)) w) : wpList P ops Q (o :: rest) a w :=
  wpList_plain hgd fun K' hK => wp_load_mid ty (.tmp x) ho g off hx _ _ h hu rfl (by rw [hi]; simp) (hK _ _ K)
end
end Go.Proofs.YtalghfnjelcpnaaDoor
namespace Go.Proofs.YtalghfnjelcpnaaDoor
set_option linter.unusedVariables false
set_option linter.unusedSimpArgs false
open Go.RowKit Go.Proofs.YtalghfnjelcpnaaDoorW.PrintWords Go.Proofs.YtalghfnjelcpnaaDoor.Db

theorem arr_D {w : World} {b : Nat} {T : TypeId} {ds : List Int} (h : Arr w b .u8 T ds) (g : Nat) (hne : b ≠ g) : ∀ i, i < ds.length → ∃ b' o, (some (⟨b, 0, none⟩ : Addr)) = some ⟨b', o, none⟩ ∧ b' ≠ g ∧ b' < w.heap.size ∧ w.cell? ⟨b', o + i, none⟩ = some (.int .u8 (ds.getD i 0)) := fun i hi =>
  ⟨b, 0, rfl, hne, h.lt, by rw [Nat.zero_add]; exact h.cell hi⟩
/-- The digest in a seal of nothing. -/
def dgOf (bl : List Int) : Dg := d0.all (wit bl 54)
theorem dgOf_n (bl : List Int) (h : bl.length = 64) : (dgOf bl).n = 64 := by
  unfold dgOf
  rw [Dg.all_n, wit_len, h]
  rfl
set_option maxHeartbeats 4000000 in
set_option maxRecDepth 100000 in
theorem MNew_any (A : Option Addr) (cap : Nat) (l : List Int) (w : World) (hR : Rounds w) (hC : Kd.C (Kd.int .u8) w A l.length l) (hc : l.length ≤ cap) (hl : l.length < 1073741824) :
    Calls Tryd.prog 43 #[.slice A l.length cap] w fun e w' => ∃ m h, e = .returned (.pointer (some ⟨m, 0, none⟩)) ∧ w.heap.size ≤ h ∧ h < m ∧ Ms w' m h (blk l) ∧ Hs w' h (dgOf (blk l)).st (dgOf (blk l)).bs (dgOf (blk l)).n ∧ Below w.heap.size w w' := by
  have HR := Aside0.mk hR
  have hpos := Aside0.mk hR.pos
  have HC := Aside0.mk hC
  have Hc := Aside0.mk hc
  have Hl := Aside0.mk hl
  obtain ⟨bl, hbl⟩ : ∃ bl, blk l = bl := ⟨_, rfl⟩
  have hbll : bl.length = 64 := by rw [← hbl]; exact blk_len l
  have Hbl := Aside0.mk hbl
  have Hbll := Aside0.mk hbll
  obtain ⟨ib, hib⟩ : ∃ ib, wit bl 54 = ib := ⟨_, rfl⟩
  have Hib := Aside0.mk hib
  have Hibl := Aside0.mk (show ib.length = 64 by rw [← hib, wit_len, hbll])
  rw [hbl]
  have Hn0 := Aside0.mk (show d0.n + ib.length < 4611686018427387904 by rw [Hibl.out]; decide)
  clear hR hC hc hl hbl hbll hib
  go_enter Tryd.func43, Tryd.ntmps43
  go_wp2_with (first
    | (go_at_call 29; refine (New_any _).mono ?_; rintro e w1 ⟨h, rfl, hh, hH1, hb1⟩)
    | (go_at_call 41; refine (Block_any A cap l _ (HR.out.below hb1 hpos.out) (Kd.C_below HC.out hb1) Hc.out Hl.out).mono ?_; rintro e w2 ⟨rfl, hb2⟩; rw [Hbl.out]; have hH2 := hH1.below hb2 hH1.lt; have hB2 := hb1.trans (hb2.mono hb1.size); have Nh := Aside0.mk (Nat.lt_of_lt_of_le hH1.lt hb2.size); have Hh := Aside0.mk hh; clear hb2 hb1 hH1 hh)
    | (refine build63 rfl 5 7 rfl h bl Hbll.out rfl rfl ?_)
    | (refine box_row rfl 63 8 rfl _ rfl ?_; intro w3 hg3 hs3 hr3; have hM3 : Ms w3 w2.heap.size h bl := hr3; have hH3 := hH2.grown hg3 (by simp); have hB3 := hB2.grown hg3 hB2.size (by intro j e; cases e); have HB2 := Aside0.mk hB2.size; clear hg3 hs3 hr3 hH2 hB2)
    | (refine load_mid rfl 30 12 rfl w2.heap.size 1 rfl hM3.rb Tryd.underlying30 (by rw [Hbll.out]; kernel_rfl) ?_)
    | (go_at_call 69; refine (with_any bl 54 _ Hbll.out).mono ?_; rintro e w4 ⟨rfl, hb4⟩; rw [Hib.out]; have hM4 := hM3.below hb4 hM3.lt; have hH4 := hH3.below hb4 hH3.lt; have hB4 := hB3.trans (hb4.mono hB3.size); have N4 := Aside0.mk (Nat.lt_of_lt_of_le hM3.lt hb4.size); clear hb4 hM3 hH3 hB3)
    | (refine store_arr rfl 30 4 14 rfl rfl w4.heap.size rfl rfl (Arr.new_at (k := .u8) (xs := List.replicate 64 0) rfl rfl) (by rw [Hibl.out]; rfl) (by rw [Hibl.out]; kernel_rfl) ?_; intro w5 hg5 hs5 hA5; have hM5 := (hM4.alloc (.cells ((List.replicate 64 0).map (Value.int .u8)).toArray 30)).grown hg5 (by have := N4.out; simp; omega); have hH5 := (hH4.alloc (.cells ((List.replicate 64 0).map (Value.int .u8)).toArray 30)).grown hg5 (by have := hH4.lt; simp; omega); have hB5 := (hB4.alloc hB4.size (.cells ((List.replicate 64 0).map (Value.int .u8)).toArray 30)).grown hg5 (by rw [World.size_alloc]; have := hB4.size; omega) (fun j e => by cases e; exact hB4.size); have N5 := Aside0.mk (hH4.lt); clear hg5 hs5 hM4 hH4 hB4))
  have hc1 : w5.cell? ⟨w2.heap.size, 0, none⟩ = some (.pointer (some ⟨h, 0, none⟩)) := hM5.c0
  go_still_tail 5, (by kernel_rfl)
  change wpList _ _ _ _ _ w5.drew
  obtain ⟨w6, hw6⟩ : ∃ w6, w5.drew = w6 := ⟨_, rfl⟩
  have hM6 : Ms w6 w2.heap.size h bl := by rw [← hw6]; exact hM5
  have hH6 : Hs w6 h start8 (List.replicate 64 0) 0 := by rw [← hw6]; exact hH5.drewN 1
  have hA6 : Arr w6 w4.heap.size .u8 30 ib := by rw [← hw6]; exact hA5
  have hB6 : Below w.heap.size w w6 := by rw [← hw6]; exact pw_below_drewN hB5 1
  rw [hw6]
  clear hw6 hc1 hM5 hH5 hA5 hB5
  have hgp : 0 < h := Nat.lt_of_lt_of_le hpos.out Hh.out
  have HD := Aside0.mk (arr_D hA6 h (by have := N5.out; omega))
  rw [Hibl.out] at HD
  have HL := Aside0.mk (show (Value.slice (some ⟨w4.heap.size, 0, none⟩) 64 64) = Value.slice (some ⟨w4.heap.size, 0, none⟩) ib.length 64 by rw [Hibl.out])
  rw [HL.out]
  go_wp2_with (first
    | (go_at_call 30; refine (Write_any (some ⟨w4.heap.size, 0, none⟩) 64 h ib d0 _ (HR.out.below hB6 hpos.out) hgp hH6 Hn0.out (by rw [Hibl.out]; exact HD.out)).mono ?_; rintro e w7 ⟨rfl, hH7, hb7⟩))
  go_ret
  refine ⟨w2.heap.size, h, rfl, Hh.out, Nh.out, hM6.grown hb7 (by have := Nh.out; simp; omega), ?_, hB6.grown hb7 hB6.size (fun j e => by cases e; exact Hh.out)⟩
  unfold dgOf
  rw [Hib.out]
  exact hH7
end Go.Proofs.YtalghfnjelcpnaaDoor
namespace Go.Proofs.YtalghfnjelcpnaaDoor
set_option linter.unusedVariables false
set_option linter.unusedSimpArgs false
open Go.RowKit Go.Proofs.YtalghfnjelcpnaaDoorW.PrintWords Go.Proofs.YtalghfnjelcpnaaDoor.Db

theorem arg2m_C (w : World) (A B : Option Addr) (ca cb : Nat) (a b : List Int) (h1 : a.length ≤ ca) (h2 : b.length ≤ cb) (hA : Kd.C (Kd.int .u8) w A a.length a) (hB : Kd.C (Kd.int .u8) w B b.length b) :
    Kd.C (Kd.slice 5 (Kd.int .u8)) (w.alloc (.cells #[.slice A a.length ca, .slice B b.length cb] 22)) (some ⟨w.heap.size, 0, none⟩) 2 [a, b] :=
  args_C w [.slice A a.length ca, .slice B b.length cb] [a, b] (show 2 ≤ 9223372036854775807 by decide) fun i p hp => by
    match i with
    | 0 =>
      obtain rfl : a = p := by simpa using hp
      exact ⟨A, ca, rfl, h1, hA⟩
    | 1 =>
      obtain rfl : b = p := by simpa using hp
      exact ⟨B, cb, rfl, h2, hB⟩
    | i + 2 => simp at hp
/-- What stands all the while that a seal is made. -/
def SealS (w0 : World) (m h : Nat) (bl : List Int) (D : Dg) (w' : World) : Prop := Ms w' m h bl ∧ Hs w' h D.st D.bs D.n ∧ Arr w' w0.heap.size .u8 24 (List.replicate 32 0) ∧ Below w0.heap.size w0 w' ∧ m < w0.heap.size ∧ h < w0.heap.size
section
variable {w0 w1 w2 : World} {m h b : Nat} {bl : List Int} {D : Dg}
theorem SealS.ms (k : SealS w0 m h bl D w1) : Ms w1 m h bl := k.1
theorem SealS.hs (k : SealS w0 m h bl D w1) : Hs w1 h D.st D.bs D.n := k.2.1
theorem SealS.arr (k : SealS w0 m h bl D w1) : Arr w1 w0.heap.size .u8 24 (List.replicate 32 0) := k.2.2.1
theorem SealS.be (k : SealS w0 m h bl D w1) : Below w0.heap.size w0 w1 := k.2.2.2.1
theorem SealS.alloc (k : SealS w0 m h bl D w1) (o : Obj) : SealS w0 m h bl D (w1.alloc o) := ⟨k.ms.alloc o, k.hs.alloc o, k.arr.alloc o, k.be.alloc k.be.size o, k.2.2.2.2⟩
theorem SealS.below (k : SealS w0 m h bl D w1) (hb : Below w1.heap.size w1 w2) : SealS w0 m h bl D w2 := ⟨k.ms.below hb k.ms.lt, k.hs.below hb k.hs.lt, k.arr.below hb k.arr.lt, k.be.trans (hb.mono k.be.size), k.2.2.2.2⟩
theorem SealS.grown (k : SealS w0 m h bl D w1) (hg : w1.grownBy w2 (some b)) (hb : w0.heap.size < b) : SealS w0 m h bl D w2 :=
  ⟨k.ms.grown hg (by have := k.2.2.2.2.1; simp; omega), k.hs.grown hg (by have := k.2.2.2.2.2; simp; omega), k.arr.grown hg (by simp; omega), k.be.grown hg k.be.size (fun j e => by cases e; omega), k.2.2.2.2⟩
theorem SealS.drew (k : SealS w0 m h bl D w1) : SealS w0 m h bl D w1.drew := ⟨k.ms, ⟨k.hs.ls, k.hs.lb, k.hs.row⟩, k.arr, pw_below_drewN k.be 1, k.2.2.2.2⟩
end
set_option maxHeartbeats 4000000 in
set_option maxRecDepth 100000 in
theorem Seal_any (m h : Nat) (bl : List Int) (D : Dg) (w : World) (hR : Rounds w) (hM : Ms w m h bl) (hH : Hs w h D.st D.bs D.n) (hbl : bl.length = 64) (hn : D.n < 1152921504606846976) :
    Calls Tryd.prog 44 #[.pointer (some ⟨m, 0, none⟩)] w fun e w' => e = .returned (AV .u8 (sumL (wit bl 92 ++ dig D))) ∧ Below w.heap.size w w' := by
  have HR := Aside0.mk hR
  have hpos := Aside0.mk hR.pos
  have Hbl := Aside0.mk hbl
  have Hn := Aside0.mk hn
  obtain ⟨ds, hds⟩ : ∃ ds, dig D = ds := ⟨_, rfl⟩
  obtain ⟨ob, hob⟩ : ∃ ob, wit bl 92 = ob := ⟨_, rfl⟩
  have Hdl := Aside0.mk (show ds.length = 32 by rw [← hds]; exact dig_len D hH.ls)
  have Hol := Aside0.mk (show ob.length = 64 by rw [← hob, wit_len, hbl])
  rw [hds, hob]
  have Hds := Aside0.mk hds
  have Hob := Aside0.mk hob
  obtain ⟨ys, hys⟩ : ∃ ys, sumL (ob ++ ds) = ys := ⟨_, rfl⟩
  have Hys := Aside0.mk hys
  have Hyl := Aside0.mk (show ys.length = 32 by rw [← hys]; exact sumL_len _)
  rw [hys]
  have hS0 : SealS w m h bl D (w.alloc (.cells ((List.replicate 32 0).map (Value.int .u8)).toArray 24)) := ⟨hM.alloc _, hH.alloc _, Arr.new_at rfl rfl, (Below.refl _ w).alloc (Nat.le_refl _) _, hM.lt, hH.lt⟩
  have HS0 := Aside0.mk hS0
  clear hR hM hH hbl hn hds hob hys hS0
  go_enter Tryd.func44, Tryd.ntmps44
  go_wp2
  rename_i K0 hK0
  have cont : ∀ (b3 b4 : Nat) (w9 : World), SealS w m h bl D w9 → Arr w9 b3 .u8 24 ds → Arr w9 b4 .u8 30 ob → w.heap.size < b3 → w.heap.size < b4 → K0 { tmps := #[Value.pointer (some ⟨m, 0, none⟩), undef, Value.pointer (some ⟨w.heap.size, 0, none⟩), Value.pointer (some ⟨b3, 0, none⟩), Value.pointer (some ⟨b4, 0, none⟩), Value.pointer (some ⟨m, 0, none⟩), Value.pointer (some ⟨m, 0, none⟩), Value.pointer (some ⟨m, 0, none⟩), Value.pointer (some ⟨h, 0, none⟩), AV .u8 ds, Value.pointer (some ⟨m, 0, none⟩), Value.pointer (some ⟨m, 0, none⟩), Value.pointer (some ⟨m, 1, none⟩), AV .u8 bl, AV .u8 ob, undef, undef, undef, undef], defers := [] } w9 := by
    intro b3 b4 w9 hS9 hA3 hA4 n3 n4
    refine hK0 _ _ ?_
    clear hK0
    go_wp2
    rename_i K1 hK1
    refine wp_region_any (by kernel_rfl) ?_
    change wpAny _ _ _ _ _ _ _ (World.drew _)
    obtain ⟨w10, hw10⟩ : ∃ w10, w9.drew = w10 := ⟨_, rfl⟩
    have hS10 : SealS w m h bl D w10 := by rw [← hw10]; exact hS9.drew
    have hA310 : Arr w10 b3 .u8 24 ds := by rw [← hw10]; exact hA3
    have hA410 : Arr w10 b4 .u8 30 ob := by rw [← hw10]; exact hA4
    rw [hw10]
    clear hw10 hS9 hA3 hA4
    refine wpAny_take (i := 0) (oi := { dst := some 15, op := Go.Op.slice 30 (Go.Operand.tmp 4) none none none, type := 22, pos := "mac.go:42", after := #[], guard := none }) (v := ?v0c) rfl (by kernel_rfl) (by kernel_rfl) (by kernel_rfl) (fun _ _ _ h => h) (Or.inl ⟨by rfl, fun w => ?hy0c⟩) ?rest0c
    case hy0c => go_simp; (first | done | (with_reducible rfl))
    simp only [Act.put, List.setIfInBounds_toArray, List.set_cons_zero, List.set_cons_succ]
    refine wpAny_take (i := 1) (oi := { dst := some 16, op := Go.Op.slice 24 (Go.Operand.tmp 3) none none none, type := 22, pos := "mac.go:42", after := #[], guard := none }) (v := ?v1c) rfl (by kernel_rfl) (by kernel_rfl) (by kernel_rfl) (fun _ _ _ h => h) (Or.inl ⟨by rfl, fun w => ?hy1c⟩) ?rest1c
    case hy1c => go_simp; (first | done | (with_reducible rfl))
    simp only [Act.put, List.setIfInBounds_toArray, List.set_cons_zero, List.set_cons_succ]
    have hC := arg2m_C w10 (some ⟨b4, 0, none⟩) (some ⟨b3, 0, none⟩) 64 32 ob ds (Nat.le_of_eq Hol.out) (Nat.le_of_eq Hdl.out) (lit_C hA410 (by rw [Hol.out]; decide)) (lit_C hA310 (by rw [Hdl.out]; decide))
    rw [Hol.out, Hdl.out] at hC
    refine wpAny_ready (rs := [2]) (by kernel_rfl) (by simp) ?_
    refine AllReady.cons (o := { dst := some 17, op := Go.Op.buildSlice 39 2 #[(0, Go.Operand.tmp 15), (1, Go.Operand.tmp 16)], type := 39, pos := "mac.go:42", after := #[{ on := 0, ground := Go.Ground.data }, { on := 1, ground := Go.Ground.data }], guard := none }) rfl (fun K hK => ?_) (AllReady.nil)
    go_simp
    refine hK _ _ ?_
    clear hK K
    try simp only [Act.put, List.setIfInBounds_toArray, List.set_cons_zero, List.set_cons_succ]
    change wpAny _ _ _ _ _ _ _ (World.alloc w10 (.cells #[.slice (some ⟨b4, 0, none⟩) 64 64, .slice (some ⟨b3, 0, none⟩) 32 32] 22))
    have hS11 := hS10.alloc (.cells #[.slice (some ⟨b4, 0, none⟩) 64 64, .slice (some ⟨b3, 0, none⟩) 32 32] 22)
    obtain ⟨w11, hw11⟩ : ∃ w11, World.alloc w10 (.cells #[.slice (some ⟨b4, 0, none⟩) 64 64, .slice (some ⟨b3, 0, none⟩) 32 32] 22) = w11 := ⟨_, rfl⟩
    rw [hw11] at hC hS11
    rw [hw11]
    clear hw11 hA310 hA410
    refine wpAny_ready (rs := [3]) (by kernel_rfl) (by simp) ?_
    refine AllReady.cons (o := { dst := some 18, op := Go.Op.call { callee := Go.Callee.value (Go.Operand.func 21), args := #[Go.Operand.tmp 17], argTypes := #[39] }, type := 24, pos := "mac.go:42", after := #[{ on := 2, ground := Go.Ground.data }], guard := none }) rfl (fun K hK => ?_) (AllReady.nil)
    go_simp
    go_at_call 21
    refine (SSum_any (some ⟨w10.heap.size, 0, none⟩) 2 [ob, ds] w11 (HR.out.below hS11.be hpos.out) hC (by rw [show ([ob, ds] : List (List Int)).flatten = ob ++ ds by simp, List.length_append, Hol.out, Hdl.out]; decide)).mono ?_
    rintro e w12 ⟨rfl, hb12⟩
    rw [show ([ob, ds] : List (List Int)).flatten = ob ++ ds by simp, Hys.out]
    refine hK _ _ ?_
    clear hK K
    try simp only [Act.put, List.setIfInBounds_toArray, List.set_cons_zero, List.set_cons_succ]
    have hS12 := hS11.below hb12
    refine wpAny_ready (rs := [4]) (by kernel_rfl) (by simp) ?_
    refine AllReady.cons (o := { dst := none, op := Go.Op.store 24 (Go.Operand.tmp 2) (Go.Operand.tmp 18), type := 0, pos := "mac.go:42", after := #[{ on := 3, ground := Go.Ground.data }, { on := 3, ground := Go.Ground.chain }, { on := 0, ground := Go.Ground.phase }, { on := 1, ground := Go.Ground.phase }, { on := 2, ground := Go.Ground.phase }, { on := 3, ground := Go.Ground.phase }], guard := none }) rfl (fun K hK => ?_) (AllReady.nil)
    rw [if_pos (by rfl)]
    refine wp_store_arr 24 (.tmp 2) (.tmp 18) rfl w.heap.size rfl rfl hS12.arr (by rw [Hyl.out]; rfl) (by rw [Hyl.out]; kernel_rfl) ?_
    intro w13 hg13 hs13 hA13
    refine hK _ _ ?_
    clear hK K
    try simp only [Act.put, List.setIfInBounds_toArray, List.set_cons_zero, List.set_cons_succ]
    refine wpAny_done (by kernel_rfl) ?_ _
    refine hK1 _ _ ?_
    refine wp_ret ?_
    exact ret_arr 2 24 (by kernel_rfl) rfl hA13 Tryd.underlying24 (by rw [Hyl.out]; kernel_rfl) rfl ⟨rfl, hS12.be.grown hg13 hS12.be.size (fun j e => by cases e; exact Nat.le_refl _)⟩
  refine wp_region_held_drew (S := SealS w m h bl D) (by kernel_rfl) HS0.out.drew (fun hS50 => ?_)
  change wpAnyH _ _ _ _ _ _ _ _ (World.drew (World.alloc w (.cells ((List.replicate 32 0).map (Value.int .u8)).toArray 24)))
  obtain ⟨w50, hw50⟩ : ∃ w50, World.drew (World.alloc w (.cells ((List.replicate 32 0).map (Value.int .u8)).toArray 24)) = w50 := ⟨_, rfl⟩
  replace hS50 : SealS w m h bl D w50 := by rw [← hw50]; exact HS0.out.drew
  rw [hw50]
  clear hw50
  refine wpAnyH_take (i := 0) (oi := { dst := some 5, op := Go.Op.move (Go.Operand.tmp 0), type := 60, pos := "mac.go:41", after := #[], guard := none }) (v := ?v0h) rfl (by kernel_rfl) (by kernel_rfl) (by kernel_rfl) (fun _ _ _ h => h) (Or.inl ⟨by rfl, fun w hSw => ?hy0h⟩) hS50 ?rest0h
  case hy0h => go_simp; (first | done | (with_reducible rfl))
  simp only [Act.put, List.setIfInBounds_toArray, List.set_cons_zero, List.set_cons_succ]
  refine wpAnyH_take (i := 1) (oi := { dst := some 6, op := Go.Op.nilCheck (Go.Operand.tmp 5), type := 0, pos := "mac.go:41", after := #[{ on := 0, ground := Go.Ground.data }], guard := none }) (v := ?v1h) rfl (by kernel_rfl) (by kernel_rfl) (by kernel_rfl) (fun _ _ _ h => h) (Or.inl ⟨by rfl, fun w hSw => ?hy1h⟩) hS50 ?rest1h
  case hy1h => go_simp; (first | done | (with_reducible rfl))
  simp only [Act.put, List.setIfInBounds_toArray, List.set_cons_zero, List.set_cons_succ]
  refine wpAnyH_take (i := 2) (oi := { dst := some 7, op := Go.Op.fieldAddr 63 (Go.Operand.tmp 6) 0, type := 0, pos := "mac.go:41", after := #[{ on := 1, ground := Go.Ground.data }], guard := none }) (v := ?v2h) rfl (by kernel_rfl) (by kernel_rfl) (by kernel_rfl) (fun _ _ _ h => h) (Or.inl ⟨by rfl, fun w hSw => ?hy2h⟩) hS50 ?rest2h
  case hy2h => go_simp; (first | done | (with_reducible rfl))
  simp only [Act.put, List.setIfInBounds_toArray, List.set_cons_zero, List.set_cons_succ]
  refine wpAnyH_take (i := 3) (oi := { dst := some 8, op := Go.Op.load 45 (Go.Operand.tmp 7), type := 45, pos := "mac.go:41", after := #[{ on := 2, ground := Go.Ground.data }], guard := none }) (v := ?v3h) rfl (by kernel_rfl) (by kernel_rfl) (by kernel_rfl) (fun _ _ _ h => h) (Or.inl ⟨by rfl, fun w hSw => ?hy3h⟩) hS50 ?rest3h
  case hy3h => have c0 := hSw.ms.c0; go_simp; (first | done | (with_reducible rfl))
  simp only [Act.put, List.setIfInBounds_toArray, List.set_cons_zero, List.set_cons_succ]
  refine wpAnyH_take (i := 5) (oi := { dst := some 10, op := Go.Op.move (Go.Operand.tmp 0), type := 60, pos := "mac.go:41", after := #[], guard := none }) (v := ?v5h) rfl (by kernel_rfl) (by kernel_rfl) (by kernel_rfl) (fun _ _ _ h => h) (Or.inl ⟨by rfl, fun w hSw => ?hy5h⟩) hS50 ?rest5h
  case hy5h => go_simp; (first | done | (with_reducible rfl))
  simp only [Act.put, List.setIfInBounds_toArray, List.set_cons_zero, List.set_cons_succ]
  refine wpAnyH_take (i := 6) (oi := { dst := some 11, op := Go.Op.nilCheck (Go.Operand.tmp 10), type := 0, pos := "mac.go:41", after := #[{ on := 5, ground := Go.Ground.data }], guard := none }) (v := ?v6h) rfl (by kernel_rfl) (by kernel_rfl) (by kernel_rfl) (fun _ _ _ h => h) (Or.inl ⟨by rfl, fun w hSw => ?hy6h⟩) hS50 ?rest6h
  case hy6h => go_simp; (first | done | (with_reducible rfl))
  simp only [Act.put, List.setIfInBounds_toArray, List.set_cons_zero, List.set_cons_succ]
  refine wpAnyH_take (i := 7) (oi := { dst := some 12, op := Go.Op.fieldAddr 63 (Go.Operand.tmp 11) 1, type := 0, pos := "mac.go:41", after := #[{ on := 6, ground := Go.Ground.data }], guard := none }) (v := ?v7h) rfl (by kernel_rfl) (by kernel_rfl) (by kernel_rfl) (fun _ _ _ h => h) (Or.inl ⟨by rfl, fun w hSw => ?hy7h⟩) hS50 ?rest7h
  case hy7h => go_simp; (first | done | (with_reducible rfl))
  simp only [Act.put, List.setIfInBounds_toArray, List.set_cons_zero, List.set_cons_succ]
  refine wpAnyH_take (i := 8) (oi := { dst := some 13, op := Go.Op.load 30 (Go.Operand.tmp 12), type := 30, pos := "mac.go:41", after := #[{ on := 7, ground := Go.Ground.data }], guard := none }) (v := AV .u8 bl) rfl (by kernel_rfl) (by kernel_rfl) (by kernel_rfl) (fun _ _ _ h => h) (yieldsIf_load_mid (by rfl) 30 (.tmp 12) rfl m 1 rfl (bl.map (Value.int .u8)) _ (fun w hSw => hSw.ms.rb) Tryd.underlying30 rfl (by rw [List.length_map, Hbl.out]; kernel_rfl)) hS50 ?_
  simp only [Act.put, List.setIfInBounds_toArray, List.set_cons_zero, List.set_cons_succ]
  refine wpAnyH_ready (rs := [4, 10, 11]) (by kernel_rfl) (by simp) ?_
  refine AllReadyH.cons (o := { dst := some 9, op := Go.Op.call { callee := Go.Callee.value (Go.Operand.func 31), args := #[Go.Operand.tmp 8], argTypes := #[45] }, type := 24, pos := "mac.go:41", after := #[{ on := 3, ground := Go.Ground.data }], guard := none }) rfl (fun K hK => ?_) (AllReadyH.cons (o := { dst := some 3, op := Go.Op.alloc 24, type := 0, pos := "mac.go:41", after := #[], guard := none }) rfl (fun K hK => ?_) (AllReadyH.cons (o := { dst := some 4, op := Go.Op.alloc 30, type := 0, pos := "mac.go:41", after := #[], guard := none }) rfl (fun K hK => ?_) (AllReadyH.nil)))
  ·
    go_simp
    go_at_call 31
    refine (HSum_any h D w50 (HR.out.below hS50.be hpos.out) hS50.hs Hn.out).mono ?_
    rintro e w101 ⟨rfl, hb101⟩
    rw [Hds.out]
    refine hK.out _ _ (hS50.below hb101) (fun hS101 => ?_)
    clear hK K
    try simp only [Act.put, List.setIfInBounds_toArray, List.set_cons_zero, List.set_cons_succ]
    clear hb101 hS50 
    refine wpAnyH_ready (rs := [9, 10, 11]) (by kernel_rfl) (by simp) ?_
    refine AllReadyH.cons (o := { dst := some 14, op := Go.Op.call { callee := Go.Callee.value (Go.Operand.func 69), args := #[Go.Operand.tmp 13, Go.Operand.const (Go.Value.int Go.IntKind.u8 92)], argTypes := #[30, 5] }, type := 30, pos := "mac.go:41", after := #[{ on := 8, ground := Go.Ground.data }, { on := 4, ground := Go.Ground.chain }], guard := none }) rfl (fun K hK => ?_) (AllReadyH.cons (o := { dst := some 3, op := Go.Op.alloc 24, type := 0, pos := "mac.go:41", after := #[], guard := none }) rfl (fun K hK => ?_) (AllReadyH.cons (o := { dst := some 4, op := Go.Op.alloc 30, type := 0, pos := "mac.go:41", after := #[], guard := none }) rfl (fun K hK => ?_) (AllReadyH.nil)))
    ·
      go_simp
      go_at_call 69
      refine (with_any bl 92 w101 Hbl.out).mono ?_
      rintro e w102 ⟨rfl, hb102⟩
      rw [Hob.out]
      refine hK.out _ _ (hS101.below hb102) (fun hS102 => ?_)
      clear hK K
      try simp only [Act.put, List.setIfInBounds_toArray, List.set_cons_zero, List.set_cons_succ]
      clear hb102 hS101 
      refine wpAnyH_ready (rs := [10, 11]) (by kernel_rfl) (by simp) ?_
      refine AllReadyH.cons (o := { dst := some 3, op := Go.Op.alloc 24, type := 0, pos := "mac.go:41", after := #[], guard := none }) rfl (fun K hK => ?_) (AllReadyH.cons (o := { dst := some 4, op := Go.Op.alloc 30, type := 0, pos := "mac.go:41", after := #[], guard := none }) rfl (fun K hK => ?_) (AllReadyH.nil))
      ·
        go_simp
        refine hK.out _ _ (hS102.alloc (.cells ((List.replicate 32 0).map (Value.int .u8)).toArray 24)) (fun hS103 => ?_)
        clear hK K
        try simp only [Act.put, List.setIfInBounds_toArray, List.set_cons_zero, List.set_cons_succ]
        change wpAnyH _ _ _ _ _ _ _ _ (World.alloc w102 (.cells ((List.replicate 32 0).map (Value.int .u8)).toArray 24))
        replace hS103 : SealS w m h bl D (World.alloc w102 (.cells ((List.replicate 32 0).map (Value.int .u8)).toArray 24)) := hS103
        have hA3_103 : Arr (w102.alloc (.cells ((List.replicate 32 0).map (Value.int .u8)).toArray 24)) w102.heap.size .u8 24 (List.replicate 32 0) := Arr.new_at rfl rfl
        have n3_103 : w.heap.size < w102.heap.size := hS102.arr.lt
        obtain ⟨w103, hw103⟩ : ∃ w103, World.alloc w102 (.cells ((List.replicate 32 0).map (Value.int .u8)).toArray 24) = w103 := ⟨_, rfl⟩
        rw [hw103] at hS103 hA3_103
        rw [hw103]
        obtain ⟨b3_103, hb103⟩ : ∃ b, w102.heap.size = b := ⟨_, rfl⟩
        rw [hb103] at hA3_103 n3_103
        rw [hb103]
        clear hw103 hb103 hS102 
        refine wpAnyH_ready (rs := [11]) (by kernel_rfl) (by simp) ?_
        refine AllReadyH.cons (o := { dst := some 4, op := Go.Op.alloc 30, type := 0, pos := "mac.go:41", after := #[], guard := none }) rfl (fun K hK => ?_) (AllReadyH.nil)
        ·
          go_simp
          refine hK.out _ _ (hS103.alloc (.cells ((List.replicate 64 0).map (Value.int .u8)).toArray 30)) (fun hS104 => ?_)
          clear hK K
          try simp only [Act.put, List.setIfInBounds_toArray, List.set_cons_zero, List.set_cons_succ]
          change wpAnyH _ _ _ _ _ _ _ _ (World.alloc w103 (.cells ((List.replicate 64 0).map (Value.int .u8)).toArray 30))
          replace hS104 : SealS w m h bl D (World.alloc w103 (.cells ((List.replicate 64 0).map (Value.int .u8)).toArray 30)) := hS104
          have hA4_104 : Arr (w103.alloc (.cells ((List.replicate 64 0).map (Value.int .u8)).toArray 30)) w103.heap.size .u8 30 (List.replicate 64 0) := Arr.new_at rfl rfl
          have n4_104 : w.heap.size < w103.heap.size := hS103.arr.lt
          have hA3_104 := hA3_103.alloc (.cells ((List.replicate 64 0).map (Value.int .u8)).toArray 30)
          have ne_104 : b3_103 ≠ w103.heap.size := Nat.ne_of_lt hA3_103.lt
          obtain ⟨w104, hw104⟩ : ∃ w104, World.alloc w103 (.cells ((List.replicate 64 0).map (Value.int .u8)).toArray 30) = w104 := ⟨_, rfl⟩
          rw [hw104] at hS104 hA4_104 hA3_104
          rw [hw104]
          obtain ⟨b4_104, hb104⟩ : ∃ b, w103.heap.size = b := ⟨_, rfl⟩
          rw [hb104] at hA4_104 n4_104 ne_104
          rw [hb104]
          clear hw104 hb104 hS103 hA3_103
          refine wpAnyH_ready (rs := [12]) (by kernel_rfl) (by simp) ?_
          refine AllReadyH.cons (o := { dst := none, op := Go.Op.store 24 (Go.Operand.tmp 3) (Go.Operand.tmp 9), type := 0, pos := "mac.go:41", after := #[{ on := 10, ground := Go.Ground.data }, { on := 4, ground := Go.Ground.data }, { on := 9, ground := Go.Ground.chain }, { on := 0, ground := Go.Ground.phase }, { on := 1, ground := Go.Ground.phase }, { on := 2, ground := Go.Ground.phase }, { on := 3, ground := Go.Ground.phase }, { on := 4, ground := Go.Ground.phase }, { on := 5, ground := Go.Ground.textOnly Go.Departure.lateStores }, { on := 6, ground := Go.Ground.textOnly Go.Departure.lateStoresUnsure }, { on := 7, ground := Go.Ground.textOnly Go.Departure.lateStoresUnsure }, { on := 8, ground := Go.Ground.phase }, { on := 9, ground := Go.Ground.phase }, { on := 10, ground := Go.Ground.phase }, { on := 11, ground := Go.Ground.phase }], guard := none }) rfl (fun K hK => ?_) (AllReadyH.nil)
          ·
            rw [if_pos (by rfl)]
            refine wp_store_arr 24 (.tmp 3) (.tmp 9) rfl b3_103 rfl rfl hA3_104 (by rw [Hdl.out]; rfl) (by rw [Hdl.out]; kernel_rfl) ?_
            intro w105 hg105 hs105 hA3_105
            refine hK.out _ _ (hS104.grown hg105 n3_103) (fun hS105 => ?_)
            clear hK K
            try simp only [Act.put, List.setIfInBounds_toArray, List.set_cons_zero, List.set_cons_succ]
            have hA4_105 := hA4_104.grown hg105 (fun e => ne_104.symm (Option.some.inj e))
            clear hg105 hs105 hS104 hA3_104 hA4_104
            refine wpAnyH_ready (rs := [13]) (by kernel_rfl) (by simp) ?_
            refine AllReadyH.cons (o := { dst := none, op := Go.Op.store 30 (Go.Operand.tmp 4) (Go.Operand.tmp 14), type := 0, pos := "mac.go:41", after := #[{ on := 11, ground := Go.Ground.data }, { on := 9, ground := Go.Ground.data }, { on := 12, ground := Go.Ground.chain }, { on := 0, ground := Go.Ground.phase }, { on := 1, ground := Go.Ground.phase }, { on := 2, ground := Go.Ground.phase }, { on := 3, ground := Go.Ground.phase }, { on := 4, ground := Go.Ground.phase }, { on := 5, ground := Go.Ground.phase }, { on := 6, ground := Go.Ground.phase }, { on := 7, ground := Go.Ground.phase }, { on := 8, ground := Go.Ground.phase }, { on := 9, ground := Go.Ground.phase }, { on := 10, ground := Go.Ground.phase }, { on := 11, ground := Go.Ground.phase }, { on := 12, ground := Go.Ground.phase }], guard := none }) rfl (fun K hK => ?_) (AllReadyH.nil)
            ·
              rw [if_pos (by rfl)]
              refine wp_store_arr 30 (.tmp 4) (.tmp 14) rfl b4_104 rfl rfl hA4_105 (by rw [Hol.out]; rfl) (by rw [Hol.out]; kernel_rfl) ?_
              intro w106 hg106 hs106 hA4_106
              refine hK.out _ _ (hS105.grown hg106 n4_104) (fun hS106 => ?_)
              clear hK K
              try simp only [Act.put, List.setIfInBounds_toArray, List.set_cons_zero, List.set_cons_succ]
              have hA3_106 := hA3_105.grown hg106 (fun e => ne_104 (Option.some.inj e))
              clear hg106 hs106 hS105 hA3_105 hA4_105
              refine wpAnyH_done (by kernel_rfl) ?_ _
              exact cont b3_103 b4_104 _ hS106 hA3_106 hA4_106 n3_103 n4_104
      ·
        go_simp
        refine hK.out _ _ (hS102.alloc (.cells ((List.replicate 64 0).map (Value.int .u8)).toArray 30)) (fun hS107 => ?_)
        clear hK K
        try simp only [Act.put, List.setIfInBounds_toArray, List.set_cons_zero, List.set_cons_succ]
        change wpAnyH _ _ _ _ _ _ _ _ (World.alloc w102 (.cells ((List.replicate 64 0).map (Value.int .u8)).toArray 30))
        replace hS107 : SealS w m h bl D (World.alloc w102 (.cells ((List.replicate 64 0).map (Value.int .u8)).toArray 30)) := hS107
        have hA4_107 : Arr (w102.alloc (.cells ((List.replicate 64 0).map (Value.int .u8)).toArray 30)) w102.heap.size .u8 30 (List.replicate 64 0) := Arr.new_at rfl rfl
        have n4_107 : w.heap.size < w102.heap.size := hS102.arr.lt
        obtain ⟨w107, hw107⟩ : ∃ w107, World.alloc w102 (.cells ((List.replicate 64 0).map (Value.int .u8)).toArray 30) = w107 := ⟨_, rfl⟩
        rw [hw107] at hS107 hA4_107
        rw [hw107]
        obtain ⟨b4_107, hb107⟩ : ∃ b, w102.heap.size = b := ⟨_, rfl⟩
        rw [hb107] at hA4_107 n4_107
        rw [hb107]
        clear hw107 hb107 hS102 
        refine wpAnyH_ready (rs := [10]) (by kernel_rfl) (by simp) ?_
        refine AllReadyH.cons (o := { dst := some 3, op := Go.Op.alloc 24, type := 0, pos := "mac.go:41", after := #[], guard := none }) rfl (fun K hK => ?_) (AllReadyH.nil)
        ·
          go_simp
          refine hK.out _ _ (hS107.alloc (.cells ((List.replicate 32 0).map (Value.int .u8)).toArray 24)) (fun hS108 => ?_)
          clear hK K
          try simp only [Act.put, List.setIfInBounds_toArray, List.set_cons_zero, List.set_cons_succ]
          change wpAnyH _ _ _ _ _ _ _ _ (World.alloc w107 (.cells ((List.replicate 32 0).map (Value.int .u8)).toArray 24))
          replace hS108 : SealS w m h bl D (World.alloc w107 (.cells ((List.replicate 32 0).map (Value.int .u8)).toArray 24)) := hS108
          have hA3_108 : Arr (w107.alloc (.cells ((List.replicate 32 0).map (Value.int .u8)).toArray 24)) w107.heap.size .u8 24 (List.replicate 32 0) := Arr.new_at rfl rfl
          have n3_108 : w.heap.size < w107.heap.size := hS107.arr.lt
          have hA4_108 := hA4_107.alloc (.cells ((List.replicate 32 0).map (Value.int .u8)).toArray 24)
          have ne_108 : b4_107 ≠ w107.heap.size := Nat.ne_of_lt hA4_107.lt
          obtain ⟨w108, hw108⟩ : ∃ w108, World.alloc w107 (.cells ((List.replicate 32 0).map (Value.int .u8)).toArray 24) = w108 := ⟨_, rfl⟩
          rw [hw108] at hS108 hA3_108 hA4_108
          rw [hw108]
          obtain ⟨b3_108, hb108⟩ : ∃ b, w107.heap.size = b := ⟨_, rfl⟩
          rw [hb108] at hA3_108 n3_108 ne_108
          rw [hb108]
          clear hw108 hb108 hS107 hA4_107
          refine wpAnyH_ready (rs := [12]) (by kernel_rfl) (by simp) ?_
          refine AllReadyH.cons (o := { dst := none, op := Go.Op.store 24 (Go.Operand.tmp 3) (Go.Operand.tmp 9), type := 0, pos := "mac.go:41", after := #[{ on := 10, ground := Go.Ground.data }, { on := 4, ground := Go.Ground.data }, { on := 9, ground := Go.Ground.chain }, { on := 0, ground := Go.Ground.phase }, { on := 1, ground := Go.Ground.phase }, { on := 2, ground := Go.Ground.phase }, { on := 3, ground := Go.Ground.phase }, { on := 4, ground := Go.Ground.phase }, { on := 5, ground := Go.Ground.textOnly Go.Departure.lateStores }, { on := 6, ground := Go.Ground.textOnly Go.Departure.lateStoresUnsure }, { on := 7, ground := Go.Ground.textOnly Go.Departure.lateStoresUnsure }, { on := 8, ground := Go.Ground.phase }, { on := 9, ground := Go.Ground.phase }, { on := 10, ground := Go.Ground.phase }, { on := 11, ground := Go.Ground.phase }], guard := none }) rfl (fun K hK => ?_) (AllReadyH.nil)
          ·
            rw [if_pos (by rfl)]
            refine wp_store_arr 24 (.tmp 3) (.tmp 9) rfl b3_108 rfl rfl hA3_108 (by rw [Hdl.out]; rfl) (by rw [Hdl.out]; kernel_rfl) ?_
            intro w109 hg109 hs109 hA3_109
            refine hK.out _ _ (hS108.grown hg109 n3_108) (fun hS109 => ?_)
            clear hK K
            try simp only [Act.put, List.setIfInBounds_toArray, List.set_cons_zero, List.set_cons_succ]
            have hA4_109 := hA4_108.grown hg109 (fun e => ne_108 (Option.some.inj e))
            clear hg109 hs109 hS108 hA3_108 hA4_108
            refine wpAnyH_ready (rs := [13]) (by kernel_rfl) (by simp) ?_
            refine AllReadyH.cons (o := { dst := none, op := Go.Op.store 30 (Go.Operand.tmp 4) (Go.Operand.tmp 14), type := 0, pos := "mac.go:41", after := #[{ on := 11, ground := Go.Ground.data }, { on := 9, ground := Go.Ground.data }, { on := 12, ground := Go.Ground.chain }, { on := 0, ground := Go.Ground.phase }, { on := 1, ground := Go.Ground.phase }, { on := 2, ground := Go.Ground.phase }, { on := 3, ground := Go.Ground.phase }, { on := 4, ground := Go.Ground.phase }, { on := 5, ground := Go.Ground.phase }, { on := 6, ground := Go.Ground.phase }, { on := 7, ground := Go.Ground.phase }, { on := 8, ground := Go.Ground.phase }, { on := 9, ground := Go.Ground.phase }, { on := 10, ground := Go.Ground.phase }, { on := 11, ground := Go.Ground.phase }, { on := 12, ground := Go.Ground.phase }], guard := none }) rfl (fun K hK => ?_) (AllReadyH.nil)
            ·
              rw [if_pos (by rfl)]
              refine wp_store_arr 30 (.tmp 4) (.tmp 14) rfl b4_107 rfl rfl hA4_109 (by rw [Hol.out]; rfl) (by rw [Hol.out]; kernel_rfl) ?_
              intro w110 hg110 hs110 hA4_110
              refine hK.out _ _ (hS109.grown hg110 n4_107) (fun hS110 => ?_)
              clear hK K
              try simp only [Act.put, List.setIfInBounds_toArray, List.set_cons_zero, List.set_cons_succ]
              have hA3_110 := hA3_109.grown hg110 (fun e => ne_108.symm (Option.some.inj e))
              clear hg110 hs110 hS109 hA3_109 hA4_109
              refine wpAnyH_done (by kernel_rfl) ?_ _
              exact cont b3_108 b4_107 _ hS110 hA3_110 hA4_110 n3_108 n4_107
    ·
      go_simp
      refine hK.out _ _ (hS101.alloc (.cells ((List.replicate 32 0).map (Value.int .u8)).toArray 24)) (fun hS111 => ?_)
      clear hK K
      try simp only [Act.put, List.setIfInBounds_toArray, List.set_cons_zero, List.set_cons_succ]
      change wpAnyH _ _ _ _ _ _ _ _ (World.alloc w101 (.cells ((List.replicate 32 0).map (Value.int .u8)).toArray 24))
      replace hS111 : SealS w m h bl D (World.alloc w101 (.cells ((List.replicate 32 0).map (Value.int .u8)).toArray 24)) := hS111
      have hA3_111 : Arr (w101.alloc (.cells ((List.replicate 32 0).map (Value.int .u8)).toArray 24)) w101.heap.size .u8 24 (List.replicate 32 0) := Arr.new_at rfl rfl
      have n3_111 : w.heap.size < w101.heap.size := hS101.arr.lt
      obtain ⟨w111, hw111⟩ : ∃ w111, World.alloc w101 (.cells ((List.replicate 32 0).map (Value.int .u8)).toArray 24) = w111 := ⟨_, rfl⟩
      rw [hw111] at hS111 hA3_111
      rw [hw111]
      obtain ⟨b3_111, hb111⟩ : ∃ b, w101.heap.size = b := ⟨_, rfl⟩
      rw [hb111] at hA3_111 n3_111
      rw [hb111]
      clear hw111 hb111 hS101 
      refine wpAnyH_ready (rs := [9, 11]) (by kernel_rfl) (by simp) ?_
      refine AllReadyH.cons (o := { dst := some 14, op := Go.Op.call { callee := Go.Callee.value (Go.Operand.func 69), args := #[Go.Operand.tmp 13, Go.Operand.const (Go.Value.int Go.IntKind.u8 92)], argTypes := #[30, 5] }, type := 30, pos := "mac.go:41", after := #[{ on := 8, ground := Go.Ground.data }, { on := 4, ground := Go.Ground.chain }], guard := none }) rfl (fun K hK => ?_) (AllReadyH.cons (o := { dst := some 4, op := Go.Op.alloc 30, type := 0, pos := "mac.go:41", after := #[], guard := none }) rfl (fun K hK => ?_) (AllReadyH.nil))
      ·
        go_simp
        go_at_call 69
        refine (with_any bl 92 w111 Hbl.out).mono ?_
        rintro e w112 ⟨rfl, hb112⟩
        rw [Hob.out]
        refine hK.out _ _ (hS111.below hb112) (fun hS112 => ?_)
        clear hK K
        try simp only [Act.put, List.setIfInBounds_toArray, List.set_cons_zero, List.set_cons_succ]
        have hA3_112 := hA3_111.below hb112 hA3_111.lt
        clear hb112 hS111 hA3_111
        refine wpAnyH_ready (rs := [11]) (by kernel_rfl) (by simp) ?_
        refine AllReadyH.cons (o := { dst := some 4, op := Go.Op.alloc 30, type := 0, pos := "mac.go:41", after := #[], guard := none }) rfl (fun K hK => ?_) (AllReadyH.nil)
        ·
          go_simp
          refine hK.out _ _ (hS112.alloc (.cells ((List.replicate 64 0).map (Value.int .u8)).toArray 30)) (fun hS113 => ?_)
          clear hK K
          try simp only [Act.put, List.setIfInBounds_toArray, List.set_cons_zero, List.set_cons_succ]
          change wpAnyH _ _ _ _ _ _ _ _ (World.alloc w112 (.cells ((List.replicate 64 0).map (Value.int .u8)).toArray 30))
          replace hS113 : SealS w m h bl D (World.alloc w112 (.cells ((List.replicate 64 0).map (Value.int .u8)).toArray 30)) := hS113
          have hA4_113 : Arr (w112.alloc (.cells ((List.replicate 64 0).map (Value.int .u8)).toArray 30)) w112.heap.size .u8 30 (List.replicate 64 0) := Arr.new_at rfl rfl
          have n4_113 : w.heap.size < w112.heap.size := hS112.arr.lt
          have hA3_113 := hA3_112.alloc (.cells ((List.replicate 64 0).map (Value.int .u8)).toArray 30)
          have ne_113 : b3_111 ≠ w112.heap.size := Nat.ne_of_lt hA3_112.lt
          obtain ⟨w113, hw113⟩ : ∃ w113, World.alloc w112 (.cells ((List.replicate 64 0).map (Value.int .u8)).toArray 30) = w113 := ⟨_, rfl⟩
          rw [hw113] at hS113 hA4_113 hA3_113
          rw [hw113]
          obtain ⟨b4_113, hb113⟩ : ∃ b, w112.heap.size = b := ⟨_, rfl⟩
          rw [hb113] at hA4_113 n4_113 ne_113
          rw [hb113]
          clear hw113 hb113 hS112 hA3_112
          refine wpAnyH_ready (rs := [12]) (by kernel_rfl) (by simp) ?_
          refine AllReadyH.cons (o := { dst := none, op := Go.Op.store 24 (Go.Operand.tmp 3) (Go.Operand.tmp 9), type := 0, pos := "mac.go:41", after := #[{ on := 10, ground := Go.Ground.data }, { on := 4, ground := Go.Ground.data }, { on := 9, ground := Go.Ground.chain }, { on := 0, ground := Go.Ground.phase }, { on := 1, ground := Go.Ground.phase }, { on := 2, ground := Go.Ground.phase }, { on := 3, ground := Go.Ground.phase }, { on := 4, ground := Go.Ground.phase }, { on := 5, ground := Go.Ground.textOnly Go.Departure.lateStores }, { on := 6, ground := Go.Ground.textOnly Go.Departure.lateStoresUnsure }, { on := 7, ground := Go.Ground.textOnly Go.Departure.lateStoresUnsure }, { on := 8, ground := Go.Ground.phase }, { on := 9, ground := Go.Ground.phase }, { on := 10, ground := Go.Ground.phase }, { on := 11, ground := Go.Ground.phase }], guard := none }) rfl (fun K hK => ?_) (AllReadyH.nil)
          ·
            rw [if_pos (by rfl)]
            refine wp_store_arr 24 (.tmp 3) (.tmp 9) rfl b3_111 rfl rfl hA3_113 (by rw [Hdl.out]; rfl) (by rw [Hdl.out]; kernel_rfl) ?_
            intro w114 hg114 hs114 hA3_114
            refine hK.out _ _ (hS113.grown hg114 n3_111) (fun hS114 => ?_)
            clear hK K
            try simp only [Act.put, List.setIfInBounds_toArray, List.set_cons_zero, List.set_cons_succ]
            have hA4_114 := hA4_113.grown hg114 (fun e => ne_113.symm (Option.some.inj e))
            clear hg114 hs114 hS113 hA3_113 hA4_113
            refine wpAnyH_ready (rs := [13]) (by kernel_rfl) (by simp) ?_
            refine AllReadyH.cons (o := { dst := none, op := Go.Op.store 30 (Go.Operand.tmp 4) (Go.Operand.tmp 14), type := 0, pos := "mac.go:41", after := #[{ on := 11, ground := Go.Ground.data }, { on := 9, ground := Go.Ground.data }, { on := 12, ground := Go.Ground.chain }, { on := 0, ground := Go.Ground.phase }, { on := 1, ground := Go.Ground.phase }, { on := 2, ground := Go.Ground.phase }, { on := 3, ground := Go.Ground.phase }, { on := 4, ground := Go.Ground.phase }, { on := 5, ground := Go.Ground.phase }, { on := 6, ground := Go.Ground.phase }, { on := 7, ground := Go.Ground.phase }, { on := 8, ground := Go.Ground.phase }, { on := 9, ground := Go.Ground.phase }, { on := 10, ground := Go.Ground.phase }, { on := 11, ground := Go.Ground.phase }, { on := 12, ground := Go.Ground.phase }], guard := none }) rfl (fun K hK => ?_) (AllReadyH.nil)
            ·
              rw [if_pos (by rfl)]
              refine wp_store_arr 30 (.tmp 4) (.tmp 14) rfl b4_113 rfl rfl hA4_114 (by rw [Hol.out]; rfl) (by rw [Hol.out]; kernel_rfl) ?_
              intro w115 hg115 hs115 hA4_115
              refine hK.out _ _ (hS114.grown hg115 n4_113) (fun hS115 => ?_)
              clear hK K
              try simp only [Act.put, List.setIfInBounds_toArray, List.set_cons_zero, List.set_cons_succ]
              have hA3_115 := hA3_114.grown hg115 (fun e => ne_113 (Option.some.inj e))
              clear hg115 hs115 hS114 hA3_114 hA4_114
              refine wpAnyH_done (by kernel_rfl) ?_ _
              exact cont b3_111 b4_113 _ hS115 hA3_115 hA4_115 n3_111 n4_113
      ·
        go_simp
        refine hK.out _ _ (hS111.alloc (.cells ((List.replicate 64 0).map (Value.int .u8)).toArray 30)) (fun hS116 => ?_)
        clear hK K
        try simp only [Act.put, List.setIfInBounds_toArray, List.set_cons_zero, List.set_cons_succ]
        change wpAnyH _ _ _ _ _ _ _ _ (World.alloc w111 (.cells ((List.replicate 64 0).map (Value.int .u8)).toArray 30))
        replace hS116 : SealS w m h bl D (World.alloc w111 (.cells ((List.replicate 64 0).map (Value.int .u8)).toArray 30)) := hS116
        have hA4_116 : Arr (w111.alloc (.cells ((List.replicate 64 0).map (Value.int .u8)).toArray 30)) w111.heap.size .u8 30 (List.replicate 64 0) := Arr.new_at rfl rfl
        have n4_116 : w.heap.size < w111.heap.size := hS111.arr.lt
        have hA3_116 := hA3_111.alloc (.cells ((List.replicate 64 0).map (Value.int .u8)).toArray 30)
        have ne_116 : b3_111 ≠ w111.heap.size := Nat.ne_of_lt hA3_111.lt
        obtain ⟨w116, hw116⟩ : ∃ w116, World.alloc w111 (.cells ((List.replicate 64 0).map (Value.int .u8)).toArray 30) = w116 := ⟨_, rfl⟩
        rw [hw116] at hS116 hA4_116 hA3_116
        rw [hw116]
        obtain ⟨b4_116, hb116⟩ : ∃ b, w111.heap.size = b := ⟨_, rfl⟩
        rw [hb116] at hA4_116 n4_116 ne_116
        rw [hb116]
        clear hw116 hb116 hS111 hA3_111
        refine wpAnyH_ready (rs := [9]) (by kernel_rfl) (by simp) ?_
        refine AllReadyH.cons (o := { dst := some 14, op := Go.Op.call { callee := Go.Callee.value (Go.Operand.func 69), args := #[Go.Operand.tmp 13, Go.Operand.const (Go.Value.int Go.IntKind.u8 92)], argTypes := #[30, 5] }, type := 30, pos := "mac.go:41", after := #[{ on := 8, ground := Go.Ground.data }, { on := 4, ground := Go.Ground.chain }], guard := none }) rfl (fun K hK => ?_) (AllReadyH.nil)
        ·
          go_simp
          go_at_call 69
          refine (with_any bl 92 w116 Hbl.out).mono ?_
          rintro e w117 ⟨rfl, hb117⟩
          rw [Hob.out]
          refine hK.out _ _ (hS116.below hb117) (fun hS117 => ?_)
          clear hK K
          try simp only [Act.put, List.setIfInBounds_toArray, List.set_cons_zero, List.set_cons_succ]
          have hA3_117 := hA3_116.below hb117 hA3_116.lt
          have hA4_117 := hA4_116.below hb117 hA4_116.lt
          clear hb117 hS116 hA3_116 hA4_116
          refine wpAnyH_ready (rs := [12]) (by kernel_rfl) (by simp) ?_
          refine AllReadyH.cons (o := { dst := none, op := Go.Op.store 24 (Go.Operand.tmp 3) (Go.Operand.tmp 9), type := 0, pos := "mac.go:41", after := #[{ on := 10, ground := Go.Ground.data }, { on := 4, ground := Go.Ground.data }, { on := 9, ground := Go.Ground.chain }, { on := 0, ground := Go.Ground.phase }, { on := 1, ground := Go.Ground.phase }, { on := 2, ground := Go.Ground.phase }, { on := 3, ground := Go.Ground.phase }, { on := 4, ground := Go.Ground.phase }, { on := 5, ground := Go.Ground.textOnly Go.Departure.lateStores }, { on := 6, ground := Go.Ground.textOnly Go.Departure.lateStoresUnsure }, { on := 7, ground := Go.Ground.textOnly Go.Departure.lateStoresUnsure }, { on := 8, ground := Go.Ground.phase }, { on := 9, ground := Go.Ground.phase }, { on := 10, ground := Go.Ground.phase }, { on := 11, ground := Go.Ground.phase }], guard := none }) rfl (fun K hK => ?_) (AllReadyH.nil)
          ·
            rw [if_pos (by rfl)]
            refine wp_store_arr 24 (.tmp 3) (.tmp 9) rfl b3_111 rfl rfl hA3_117 (by rw [Hdl.out]; rfl) (by rw [Hdl.out]; kernel_rfl) ?_
            intro w118 hg118 hs118 hA3_118
            refine hK.out _ _ (hS117.grown hg118 n3_111) (fun hS118 => ?_)
            clear hK K
            try simp only [Act.put, List.setIfInBounds_toArray, List.set_cons_zero, List.set_cons_succ]
            have hA4_118 := hA4_117.grown hg118 (fun e => ne_116.symm (Option.some.inj e))
            clear hg118 hs118 hS117 hA3_117 hA4_117
            refine wpAnyH_ready (rs := [13]) (by kernel_rfl) (by simp) ?_
            refine AllReadyH.cons (o := { dst := none, op := Go.Op.store 30 (Go.Operand.tmp 4) (Go.Operand.tmp 14), type := 0, pos := "mac.go:41", after := #[{ on := 11, ground := Go.Ground.data }, { on := 9, ground := Go.Ground.data }, { on := 12, ground := Go.Ground.chain }, { on := 0, ground := Go.Ground.phase }, { on := 1, ground := Go.Ground.phase }, { on := 2, ground := Go.Ground.phase }, { on := 3, ground := Go.Ground.phase }, { on := 4, ground := Go.Ground.phase }, { on := 5, ground := Go.Ground.phase }, { on := 6, ground := Go.Ground.phase }, { on := 7, ground := Go.Ground.phase }, { on := 8, ground := Go.Ground.phase }, { on := 9, ground := Go.Ground.phase }, { on := 10, ground := Go.Ground.phase }, { on := 11, ground := Go.Ground.phase }, { on := 12, ground := Go.Ground.phase }], guard := none }) rfl (fun K hK => ?_) (AllReadyH.nil)
            ·
              rw [if_pos (by rfl)]
              refine wp_store_arr 30 (.tmp 4) (.tmp 14) rfl b4_116 rfl rfl hA4_118 (by rw [Hol.out]; rfl) (by rw [Hol.out]; kernel_rfl) ?_
              intro w119 hg119 hs119 hA4_119
              refine hK.out _ _ (hS118.grown hg119 n4_116) (fun hS119 => ?_)
              clear hK K
              try simp only [Act.put, List.setIfInBounds_toArray, List.set_cons_zero, List.set_cons_succ]
              have hA3_119 := hA3_118.grown hg119 (fun e => ne_116 (Option.some.inj e))
              clear hg119 hs119 hS118 hA3_118 hA4_118
              refine wpAnyH_done (by kernel_rfl) ?_ _
              exact cont b3_111 b4_116 _ hS119 hA3_119 hA4_119 n3_111 n4_116
    ·
      go_simp
      refine hK.out _ _ (hS101.alloc (.cells ((List.replicate 64 0).map (Value.int .u8)).toArray 30)) (fun hS120 => ?_)
      clear hK K
      try simp only [Act.put, List.setIfInBounds_toArray, List.set_cons_zero, List.set_cons_succ]
      change wpAnyH _ _ _ _ _ _ _ _ (World.alloc w101 (.cells ((List.replicate 64 0).map (Value.int .u8)).toArray 30))
      replace hS120 : SealS w m h bl D (World.alloc w101 (.cells ((List.replicate 64 0).map (Value.int .u8)).toArray 30)) := hS120
      have hA4_120 : Arr (w101.alloc (.cells ((List.replicate 64 0).map (Value.int .u8)).toArray 30)) w101.heap.size .u8 30 (List.replicate 64 0) := Arr.new_at rfl rfl
      have n4_120 : w.heap.size < w101.heap.size := hS101.arr.lt
      obtain ⟨w120, hw120⟩ : ∃ w120, World.alloc w101 (.cells ((List.replicate 64 0).map (Value.int .u8)).toArray 30) = w120 := ⟨_, rfl⟩
      rw [hw120] at hS120 hA4_120
      rw [hw120]
      obtain ⟨b4_120, hb120⟩ : ∃ b, w101.heap.size = b := ⟨_, rfl⟩
      rw [hb120] at hA4_120 n4_120
      rw [hb120]
      clear hw120 hb120 hS101 
      refine wpAnyH_ready (rs := [9, 10]) (by kernel_rfl) (by simp) ?_
      refine AllReadyH.cons (o := { dst := some 14, op := Go.Op.call { callee := Go.Callee.value (Go.Operand.func 69), args := #[Go.Operand.tmp 13, Go.Operand.const (Go.Value.int Go.IntKind.u8 92)], argTypes := #[30, 5] }, type := 30, pos := "mac.go:41", after := #[{ on := 8, ground := Go.Ground.data }, { on := 4, ground := Go.Ground.chain }], guard := none }) rfl (fun K hK => ?_) (AllReadyH.cons (o := { dst := some 3, op := Go.Op.alloc 24, type := 0, pos := "mac.go:41", after := #[], guard := none }) rfl (fun K hK => ?_) (AllReadyH.nil))
      ·
        go_simp
        go_at_call 69
        refine (with_any bl 92 w120 Hbl.out).mono ?_
        rintro e w121 ⟨rfl, hb121⟩
        rw [Hob.out]
        refine hK.out _ _ (hS120.below hb121) (fun hS121 => ?_)
        clear hK K
        try simp only [Act.put, List.setIfInBounds_toArray, List.set_cons_zero, List.set_cons_succ]
        have hA4_121 := hA4_120.below hb121 hA4_120.lt
        clear hb121 hS120 hA4_120
        refine wpAnyH_ready (rs := [10]) (by kernel_rfl) (by simp) ?_
        refine AllReadyH.cons (o := { dst := some 3, op := Go.Op.alloc 24, type := 0, pos := "mac.go:41", after := #[], guard := none }) rfl (fun K hK => ?_) (AllReadyH.nil)
        ·
          go_simp
          refine hK.out _ _ (hS121.alloc (.cells ((List.replicate 32 0).map (Value.int .u8)).toArray 24)) (fun hS122 => ?_)
          clear hK K
          try simp only [Act.put, List.setIfInBounds_toArray, List.set_cons_zero, List.set_cons_succ]
          change wpAnyH _ _ _ _ _ _ _ _ (World.alloc w121 (.cells ((List.replicate 32 0).map (Value.int .u8)).toArray 24))
          replace hS122 : SealS w m h bl D (World.alloc w121 (.cells ((List.replicate 32 0).map (Value.int .u8)).toArray 24)) := hS122
          have hA3_122 : Arr (w121.alloc (.cells ((List.replicate 32 0).map (Value.int .u8)).toArray 24)) w121.heap.size .u8 24 (List.replicate 32 0) := Arr.new_at rfl rfl
          have n3_122 : w.heap.size < w121.heap.size := hS121.arr.lt
          have hA4_122 := hA4_121.alloc (.cells ((List.replicate 32 0).map (Value.int .u8)).toArray 24)
          have ne_122 : b4_120 ≠ w121.heap.size := Nat.ne_of_lt hA4_121.lt
          obtain ⟨w122, hw122⟩ : ∃ w122, World.alloc w121 (.cells ((List.replicate 32 0).map (Value.int .u8)).toArray 24) = w122 := ⟨_, rfl⟩
          rw [hw122] at hS122 hA3_122 hA4_122
          rw [hw122]
          obtain ⟨b3_122, hb122⟩ : ∃ b, w121.heap.size = b := ⟨_, rfl⟩
          rw [hb122] at hA3_122 n3_122 ne_122
          rw [hb122]
          clear hw122 hb122 hS121 hA4_121
          refine wpAnyH_ready (rs := [12]) (by kernel_rfl) (by simp) ?_
          refine AllReadyH.cons (o := { dst := none, op := Go.Op.store 24 (Go.Operand.tmp 3) (Go.Operand.tmp 9), type := 0, pos := "mac.go:41", after := #[{ on := 10, ground := Go.Ground.data }, { on := 4, ground := Go.Ground.data }, { on := 9, ground := Go.Ground.chain }, { on := 0, ground := Go.Ground.phase }, { on := 1, ground := Go.Ground.phase }, { on := 2, ground := Go.Ground.phase }, { on := 3, ground := Go.Ground.phase }, { on := 4, ground := Go.Ground.phase }, { on := 5, ground := Go.Ground.textOnly Go.Departure.lateStores }, { on := 6, ground := Go.Ground.textOnly Go.Departure.lateStoresUnsure }, { on := 7, ground := Go.Ground.textOnly Go.Departure.lateStoresUnsure }, { on := 8, ground := Go.Ground.phase }, { on := 9, ground := Go.Ground.phase }, { on := 10, ground := Go.Ground.phase }, { on := 11, ground := Go.Ground.phase }], guard := none }) rfl (fun K hK => ?_) (AllReadyH.nil)
          ·
            rw [if_pos (by rfl)]
            refine wp_store_arr 24 (.tmp 3) (.tmp 9) rfl b3_122 rfl rfl hA3_122 (by rw [Hdl.out]; rfl) (by rw [Hdl.out]; kernel_rfl) ?_
            intro w123 hg123 hs123 hA3_123
            refine hK.out _ _ (hS122.grown hg123 n3_122) (fun hS123 => ?_)
            clear hK K
            try simp only [Act.put, List.setIfInBounds_toArray, List.set_cons_zero, List.set_cons_succ]
            have hA4_123 := hA4_122.grown hg123 (fun e => ne_122 (Option.some.inj e))
            clear hg123 hs123 hS122 hA3_122 hA4_122
            refine wpAnyH_ready (rs := [13]) (by kernel_rfl) (by simp) ?_
            refine AllReadyH.cons (o := { dst := none, op := Go.Op.store 30 (Go.Operand.tmp 4) (Go.Operand.tmp 14), type := 0, pos := "mac.go:41", after := #[{ on := 11, ground := Go.Ground.data }, { on := 9, ground := Go.Ground.data }, { on := 12, ground := Go.Ground.chain }, { on := 0, ground := Go.Ground.phase }, { on := 1, ground := Go.Ground.phase }, { on := 2, ground := Go.Ground.phase }, { on := 3, ground := Go.Ground.phase }, { on := 4, ground := Go.Ground.phase }, { on := 5, ground := Go.Ground.phase }, { on := 6, ground := Go.Ground.phase }, { on := 7, ground := Go.Ground.phase }, { on := 8, ground := Go.Ground.phase }, { on := 9, ground := Go.Ground.phase }, { on := 10, ground := Go.Ground.phase }, { on := 11, ground := Go.Ground.phase }, { on := 12, ground := Go.Ground.phase }], guard := none }) rfl (fun K hK => ?_) (AllReadyH.nil)
            ·
              rw [if_pos (by rfl)]
              refine wp_store_arr 30 (.tmp 4) (.tmp 14) rfl b4_120 rfl rfl hA4_123 (by rw [Hol.out]; rfl) (by rw [Hol.out]; kernel_rfl) ?_
              intro w124 hg124 hs124 hA4_124
              refine hK.out _ _ (hS123.grown hg124 n4_120) (fun hS124 => ?_)
              clear hK K
              try simp only [Act.put, List.setIfInBounds_toArray, List.set_cons_zero, List.set_cons_succ]
              have hA3_124 := hA3_123.grown hg124 (fun e => ne_122.symm (Option.some.inj e))
              clear hg124 hs124 hS123 hA3_123 hA4_123
              refine wpAnyH_done (by kernel_rfl) ?_ _
              exact cont b3_122 b4_120 _ hS124 hA3_124 hA4_124 n3_122 n4_120
      ·
        go_simp
        refine hK.out _ _ (hS120.alloc (.cells ((List.replicate 32 0).map (Value.int .u8)).toArray 24)) (fun hS125 => ?_)
        clear hK K
        try simp only [Act.put, List.setIfInBounds_toArray, List.set_cons_zero, List.set_cons_succ]
        change wpAnyH _ _ _ _ _ _ _ _ (World.alloc w120 (.cells ((List.replicate 32 0).map (Value.int .u8)).toArray 24))
        replace hS125 : SealS w m h bl D (World.alloc w120 (.cells ((List.replicate 32 0).map (Value.int .u8)).toArray 24)) := hS125
        have hA3_125 : Arr (w120.alloc (.cells ((List.replicate 32 0).map (Value.int .u8)).toArray 24)) w120.heap.size .u8 24 (List.replicate 32 0) := Arr.new_at rfl rfl
        have n3_125 : w.heap.size < w120.heap.size := hS120.arr.lt
        have hA4_125 := hA4_120.alloc (.cells ((List.replicate 32 0).map (Value.int .u8)).toArray 24)
        have ne_125 : b4_120 ≠ w120.heap.size := Nat.ne_of_lt hA4_120.lt
        obtain ⟨w125, hw125⟩ : ∃ w125, World.alloc w120 (.cells ((List.replicate 32 0).map (Value.int .u8)).toArray 24) = w125 := ⟨_, rfl⟩
        rw [hw125] at hS125 hA3_125 hA4_125
        rw [hw125]
        obtain ⟨b3_125, hb125⟩ : ∃ b, w120.heap.size = b := ⟨_, rfl⟩
        rw [hb125] at hA3_125 n3_125 ne_125
        rw [hb125]
        clear hw125 hb125 hS120 hA4_120
        refine wpAnyH_ready (rs := [9]) (by kernel_rfl) (by simp) ?_
        refine AllReadyH.cons (o := { dst := some 14, op := Go.Op.call { callee := Go.Callee.value (Go.Operand.func 69), args := #[Go.Operand.tmp 13, Go.Operand.const (Go.Value.int Go.IntKind.u8 92)], argTypes := #[30, 5] }, type := 30, pos := "mac.go:41", after := #[{ on := 8, ground := Go.Ground.data }, { on := 4, ground := Go.Ground.chain }], guard := none }) rfl (fun K hK => ?_) (AllReadyH.nil)
        ·
          go_simp
          go_at_call 69
          refine (with_any bl 92 w125 Hbl.out).mono ?_
          rintro e w126 ⟨rfl, hb126⟩
          rw [Hob.out]
          refine hK.out _ _ (hS125.below hb126) (fun hS126 => ?_)
          clear hK K
          try simp only [Act.put, List.setIfInBounds_toArray, List.set_cons_zero, List.set_cons_succ]
          have hA3_126 := hA3_125.below hb126 hA3_125.lt
          have hA4_126 := hA4_125.below hb126 hA4_125.lt
          clear hb126 hS125 hA3_125 hA4_125
          refine wpAnyH_ready (rs := [12]) (by kernel_rfl) (by simp) ?_
          refine AllReadyH.cons (o := { dst := none, op := Go.Op.store 24 (Go.Operand.tmp 3) (Go.Operand.tmp 9), type := 0, pos := "mac.go:41", after := #[{ on := 10, ground := Go.Ground.data }, { on := 4, ground := Go.Ground.data }, { on := 9, ground := Go.Ground.chain }, { on := 0, ground := Go.Ground.phase }, { on := 1, ground := Go.Ground.phase }, { on := 2, ground := Go.Ground.phase }, { on := 3, ground := Go.Ground.phase }, { on := 4, ground := Go.Ground.phase }, { on := 5, ground := Go.Ground.textOnly Go.Departure.lateStores }, { on := 6, ground := Go.Ground.textOnly Go.Departure.lateStoresUnsure }, { on := 7, ground := Go.Ground.textOnly Go.Departure.lateStoresUnsure }, { on := 8, ground := Go.Ground.phase }, { on := 9, ground := Go.Ground.phase }, { on := 10, ground := Go.Ground.phase }, { on := 11, ground := Go.Ground.phase }], guard := none }) rfl (fun K hK => ?_) (AllReadyH.nil)
          ·
            rw [if_pos (by rfl)]
            refine wp_store_arr 24 (.tmp 3) (.tmp 9) rfl b3_125 rfl rfl hA3_126 (by rw [Hdl.out]; rfl) (by rw [Hdl.out]; kernel_rfl) ?_
            intro w127 hg127 hs127 hA3_127
            refine hK.out _ _ (hS126.grown hg127 n3_125) (fun hS127 => ?_)
            clear hK K
            try simp only [Act.put, List.setIfInBounds_toArray, List.set_cons_zero, List.set_cons_succ]
            have hA4_127 := hA4_126.grown hg127 (fun e => ne_125 (Option.some.inj e))
            clear hg127 hs127 hS126 hA3_126 hA4_126
            refine wpAnyH_ready (rs := [13]) (by kernel_rfl) (by simp) ?_
            refine AllReadyH.cons (o := { dst := none, op := Go.Op.store 30 (Go.Operand.tmp 4) (Go.Operand.tmp 14), type := 0, pos := "mac.go:41", after := #[{ on := 11, ground := Go.Ground.data }, { on := 9, ground := Go.Ground.data }, { on := 12, ground := Go.Ground.chain }, { on := 0, ground := Go.Ground.phase }, { on := 1, ground := Go.Ground.phase }, { on := 2, ground := Go.Ground.phase }, { on := 3, ground := Go.Ground.phase }, { on := 4, ground := Go.Ground.phase }, { on := 5, ground := Go.Ground.phase }, { on := 6, ground := Go.Ground.phase }, { on := 7, ground := Go.Ground.phase }, { on := 8, ground := Go.Ground.phase }, { on := 9, ground := Go.Ground.phase }, { on := 10, ground := Go.Ground.phase }, { on := 11, ground := Go.Ground.phase }, { on := 12, ground := Go.Ground.phase }], guard := none }) rfl (fun K hK => ?_) (AllReadyH.nil)
            ·
              rw [if_pos (by rfl)]
              refine wp_store_arr 30 (.tmp 4) (.tmp 14) rfl b4_120 rfl rfl hA4_127 (by rw [Hol.out]; rfl) (by rw [Hol.out]; kernel_rfl) ?_
              intro w128 hg128 hs128 hA4_128
              refine hK.out _ _ (hS127.grown hg128 n4_120) (fun hS128 => ?_)
              clear hK K
              try simp only [Act.put, List.setIfInBounds_toArray, List.set_cons_zero, List.set_cons_succ]
              have hA3_128 := hA3_127.grown hg128 (fun e => ne_125.symm (Option.some.inj e))
              clear hg128 hs128 hS127 hA3_127 hA4_127
              refine wpAnyH_done (by kernel_rfl) ?_ _
              exact cont b3_125 b4_120 _ hS128 hA3_128 hA4_128 n3_125 n4_120
  ·
    go_simp
    refine hK.out _ _ (hS50.alloc (.cells ((List.replicate 32 0).map (Value.int .u8)).toArray 24)) (fun hS129 => ?_)
    clear hK K
    try simp only [Act.put, List.setIfInBounds_toArray, List.set_cons_zero, List.set_cons_succ]
    change wpAnyH _ _ _ _ _ _ _ _ (World.alloc w50 (.cells ((List.replicate 32 0).map (Value.int .u8)).toArray 24))
    replace hS129 : SealS w m h bl D (World.alloc w50 (.cells ((List.replicate 32 0).map (Value.int .u8)).toArray 24)) := hS129
    have hA3_129 : Arr (w50.alloc (.cells ((List.replicate 32 0).map (Value.int .u8)).toArray 24)) w50.heap.size .u8 24 (List.replicate 32 0) := Arr.new_at rfl rfl
    have n3_129 : w.heap.size < w50.heap.size := hS50.arr.lt
    obtain ⟨w129, hw129⟩ : ∃ w129, World.alloc w50 (.cells ((List.replicate 32 0).map (Value.int .u8)).toArray 24) = w129 := ⟨_, rfl⟩
    rw [hw129] at hS129 hA3_129
    rw [hw129]
    obtain ⟨b3_129, hb129⟩ : ∃ b, w50.heap.size = b := ⟨_, rfl⟩
    rw [hb129] at hA3_129 n3_129
    rw [hb129]
    clear hw129 hb129 hS50 
    refine wpAnyH_ready (rs := [4, 11]) (by kernel_rfl) (by simp) ?_
    refine AllReadyH.cons (o := { dst := some 9, op := Go.Op.call { callee := Go.Callee.value (Go.Operand.func 31), args := #[Go.Operand.tmp 8], argTypes := #[45] }, type := 24, pos := "mac.go:41", after := #[{ on := 3, ground := Go.Ground.data }], guard := none }) rfl (fun K hK => ?_) (AllReadyH.cons (o := { dst := some 4, op := Go.Op.alloc 30, type := 0, pos := "mac.go:41", after := #[], guard := none }) rfl (fun K hK => ?_) (AllReadyH.nil))
    ·
      go_simp
      go_at_call 31
      refine (HSum_any h D w129 (HR.out.below hS129.be hpos.out) hS129.hs Hn.out).mono ?_
      rintro e w130 ⟨rfl, hb130⟩
      rw [Hds.out]
      refine hK.out _ _ (hS129.below hb130) (fun hS130 => ?_)
      clear hK K
      try simp only [Act.put, List.setIfInBounds_toArray, List.set_cons_zero, List.set_cons_succ]
      have hA3_130 := hA3_129.below hb130 hA3_129.lt
      clear hb130 hS129 hA3_129
      refine wpAnyH_ready (rs := [9, 11]) (by kernel_rfl) (by simp) ?_
      refine AllReadyH.cons (o := { dst := some 14, op := Go.Op.call { callee := Go.Callee.value (Go.Operand.func 69), args := #[Go.Operand.tmp 13, Go.Operand.const (Go.Value.int Go.IntKind.u8 92)], argTypes := #[30, 5] }, type := 30, pos := "mac.go:41", after := #[{ on := 8, ground := Go.Ground.data }, { on := 4, ground := Go.Ground.chain }], guard := none }) rfl (fun K hK => ?_) (AllReadyH.cons (o := { dst := some 4, op := Go.Op.alloc 30, type := 0, pos := "mac.go:41", after := #[], guard := none }) rfl (fun K hK => ?_) (AllReadyH.nil))
      ·
        go_simp
        go_at_call 69
        refine (with_any bl 92 w130 Hbl.out).mono ?_
        rintro e w131 ⟨rfl, hb131⟩
        rw [Hob.out]
        refine hK.out _ _ (hS130.below hb131) (fun hS131 => ?_)
        clear hK K
        try simp only [Act.put, List.setIfInBounds_toArray, List.set_cons_zero, List.set_cons_succ]
        have hA3_131 := hA3_130.below hb131 hA3_130.lt
        clear hb131 hS130 hA3_130
        refine wpAnyH_ready (rs := [11]) (by kernel_rfl) (by simp) ?_
        refine AllReadyH.cons (o := { dst := some 4, op := Go.Op.alloc 30, type := 0, pos := "mac.go:41", after := #[], guard := none }) rfl (fun K hK => ?_) (AllReadyH.nil)
        ·
          go_simp
          refine hK.out _ _ (hS131.alloc (.cells ((List.replicate 64 0).map (Value.int .u8)).toArray 30)) (fun hS132 => ?_)
          clear hK K
          try simp only [Act.put, List.setIfInBounds_toArray, List.set_cons_zero, List.set_cons_succ]
          change wpAnyH _ _ _ _ _ _ _ _ (World.alloc w131 (.cells ((List.replicate 64 0).map (Value.int .u8)).toArray 30))
          replace hS132 : SealS w m h bl D (World.alloc w131 (.cells ((List.replicate 64 0).map (Value.int .u8)).toArray 30)) := hS132
          have hA4_132 : Arr (w131.alloc (.cells ((List.replicate 64 0).map (Value.int .u8)).toArray 30)) w131.heap.size .u8 30 (List.replicate 64 0) := Arr.new_at rfl rfl
          have n4_132 : w.heap.size < w131.heap.size := hS131.arr.lt
          have hA3_132 := hA3_131.alloc (.cells ((List.replicate 64 0).map (Value.int .u8)).toArray 30)
          have ne_132 : b3_129 ≠ w131.heap.size := Nat.ne_of_lt hA3_131.lt
          obtain ⟨w132, hw132⟩ : ∃ w132, World.alloc w131 (.cells ((List.replicate 64 0).map (Value.int .u8)).toArray 30) = w132 := ⟨_, rfl⟩
          rw [hw132] at hS132 hA4_132 hA3_132
          rw [hw132]
          obtain ⟨b4_132, hb132⟩ : ∃ b, w131.heap.size = b := ⟨_, rfl⟩
          rw [hb132] at hA4_132 n4_132 ne_132
          rw [hb132]
          clear hw132 hb132 hS131 hA3_131
          refine wpAnyH_ready (rs := [12]) (by kernel_rfl) (by simp) ?_
          refine AllReadyH.cons (o := { dst := none, op := Go.Op.store 24 (Go.Operand.tmp 3) (Go.Operand.tmp 9), type := 0, pos := "mac.go:41", after := #[{ on := 10, ground := Go.Ground.data }, { on := 4, ground := Go.Ground.data }, { on := 9, ground := Go.Ground.chain }, { on := 0, ground := Go.Ground.phase }, { on := 1, ground := Go.Ground.phase }, { on := 2, ground := Go.Ground.phase }, { on := 3, ground := Go.Ground.phase }, { on := 4, ground := Go.Ground.phase }, { on := 5, ground := Go.Ground.textOnly Go.Departure.lateStores }, { on := 6, ground := Go.Ground.textOnly Go.Departure.lateStoresUnsure }, { on := 7, ground := Go.Ground.textOnly Go.Departure.lateStoresUnsure }, { on := 8, ground := Go.Ground.phase }, { on := 9, ground := Go.Ground.phase }, { on := 10, ground := Go.Ground.phase }, { on := 11, ground := Go.Ground.phase }], guard := none }) rfl (fun K hK => ?_) (AllReadyH.nil)
          ·
            rw [if_pos (by rfl)]
            refine wp_store_arr 24 (.tmp 3) (.tmp 9) rfl b3_129 rfl rfl hA3_132 (by rw [Hdl.out]; rfl) (by rw [Hdl.out]; kernel_rfl) ?_
            intro w133 hg133 hs133 hA3_133
            refine hK.out _ _ (hS132.grown hg133 n3_129) (fun hS133 => ?_)
            clear hK K
            try simp only [Act.put, List.setIfInBounds_toArray, List.set_cons_zero, List.set_cons_succ]
            have hA4_133 := hA4_132.grown hg133 (fun e => ne_132.symm (Option.some.inj e))
            clear hg133 hs133 hS132 hA3_132 hA4_132
            refine wpAnyH_ready (rs := [13]) (by kernel_rfl) (by simp) ?_
            refine AllReadyH.cons (o := { dst := none, op := Go.Op.store 30 (Go.Operand.tmp 4) (Go.Operand.tmp 14), type := 0, pos := "mac.go:41", after := #[{ on := 11, ground := Go.Ground.data }, { on := 9, ground := Go.Ground.data }, { on := 12, ground := Go.Ground.chain }, { on := 0, ground := Go.Ground.phase }, { on := 1, ground := Go.Ground.phase }, { on := 2, ground := Go.Ground.phase }, { on := 3, ground := Go.Ground.phase }, { on := 4, ground := Go.Ground.phase }, { on := 5, ground := Go.Ground.phase }, { on := 6, ground := Go.Ground.phase }, { on := 7, ground := Go.Ground.phase }, { on := 8, ground := Go.Ground.phase }, { on := 9, ground := Go.Ground.phase }, { on := 10, ground := Go.Ground.phase }, { on := 11, ground := Go.Ground.phase }, { on := 12, ground := Go.Ground.phase }], guard := none }) rfl (fun K hK => ?_) (AllReadyH.nil)
            ·
              rw [if_pos (by rfl)]
              refine wp_store_arr 30 (.tmp 4) (.tmp 14) rfl b4_132 rfl rfl hA4_133 (by rw [Hol.out]; rfl) (by rw [Hol.out]; kernel_rfl) ?_
              intro w134 hg134 hs134 hA4_134
              refine hK.out _ _ (hS133.grown hg134 n4_132) (fun hS134 => ?_)
              clear hK K
              try simp only [Act.put, List.setIfInBounds_toArray, List.set_cons_zero, List.set_cons_succ]
              have hA3_134 := hA3_133.grown hg134 (fun e => ne_132 (Option.some.inj e))
              clear hg134 hs134 hS133 hA3_133 hA4_133
              refine wpAnyH_done (by kernel_rfl) ?_ _
              exact cont b3_129 b4_132 _ hS134 hA3_134 hA4_134 n3_129 n4_132
      ·
        go_simp
        refine hK.out _ _ (hS130.alloc (.cells ((List.replicate 64 0).map (Value.int .u8)).toArray 30)) (fun hS135 => ?_)
        clear hK K
        try simp only [Act.put, List.setIfInBounds_toArray, List.set_cons_zero, List.set_cons_succ]
        change wpAnyH _ _ _ _ _ _ _ _ (World.alloc w130 (.cells ((List.replicate 64 0).map (Value.int .u8)).toArray 30))
        replace hS135 : SealS w m h bl D (World.alloc w130 (.cells ((List.replicate 64 0).map (Value.int .u8)).toArray 30)) := hS135
        have hA4_135 : Arr (w130.alloc (.cells ((List.replicate 64 0).map (Value.int .u8)).toArray 30)) w130.heap.size .u8 30 (List.replicate 64 0) := Arr.new_at rfl rfl
        have n4_135 : w.heap.size < w130.heap.size := hS130.arr.lt
        have hA3_135 := hA3_130.alloc (.cells ((List.replicate 64 0).map (Value.int .u8)).toArray 30)
        have ne_135 : b3_129 ≠ w130.heap.size := Nat.ne_of_lt hA3_130.lt
        obtain ⟨w135, hw135⟩ : ∃ w135, World.alloc w130 (.cells ((List.replicate 64 0).map (Value.int .u8)).toArray 30) = w135 := ⟨_, rfl⟩
        rw [hw135] at hS135 hA4_135 hA3_135
        rw [hw135]
        obtain ⟨b4_135, hb135⟩ : ∃ b, w130.heap.size = b := ⟨_, rfl⟩
        rw [hb135] at hA4_135 n4_135 ne_135
        rw [hb135]
        clear hw135 hb135 hS130 hA3_130
        refine wpAnyH_ready (rs := [9]) (by kernel_rfl) (by simp) ?_
        refine AllReadyH.cons (o := { dst := some 14, op := Go.Op.call { callee := Go.Callee.value (Go.Operand.func 69), args := #[Go.Operand.tmp 13, Go.Operand.const (Go.Value.int Go.IntKind.u8 92)], argTypes := #[30, 5] }, type := 30, pos := "mac.go:41", after := #[{ on := 8, ground := Go.Ground.data }, { on := 4, ground := Go.Ground.chain }], guard := none }) rfl (fun K hK => ?_) (AllReadyH.nil)
        ·
          go_simp
          go_at_call 69
          refine (with_any bl 92 w135 Hbl.out).mono ?_
          rintro e w136 ⟨rfl, hb136⟩
          rw [Hob.out]
          refine hK.out _ _ (hS135.below hb136) (fun hS136 => ?_)
          clear hK K
          try simp only [Act.put, List.setIfInBounds_toArray, List.set_cons_zero, List.set_cons_succ]
          have hA3_136 := hA3_135.below hb136 hA3_135.lt
          have hA4_136 := hA4_135.below hb136 hA4_135.lt
          clear hb136 hS135 hA3_135 hA4_135
          refine wpAnyH_ready (rs := [12]) (by kernel_rfl) (by simp) ?_
          refine AllReadyH.cons (o := { dst := none, op := Go.Op.store 24 (Go.Operand.tmp 3) (Go.Operand.tmp 9), type := 0, pos := "mac.go:41", after := #[{ on := 10, ground := Go.Ground.data }, { on := 4, ground := Go.Ground.data }, { on := 9, ground := Go.Ground.chain }, { on := 0, ground := Go.Ground.phase }, { on := 1, ground := Go.Ground.phase }, { on := 2, ground := Go.Ground.phase }, { on := 3, ground := Go.Ground.phase }, { on := 4, ground := Go.Ground.phase }, { on := 5, ground := Go.Ground.textOnly Go.Departure.lateStores }, { on := 6, ground := Go.Ground.textOnly Go.Departure.lateStoresUnsure }, { on := 7, ground := Go.Ground.textOnly Go.Departure.lateStoresUnsure }, { on := 8, ground := Go.Ground.phase }, { on := 9, ground := Go.Ground.phase }, { on := 10, ground := Go.Ground.phase }, { on := 11, ground := Go.Ground.phase }], guard := none }) rfl (fun K hK => ?_) (AllReadyH.nil)
          ·
            rw [if_pos (by rfl)]
            refine wp_store_arr 24 (.tmp 3) (.tmp 9) rfl b3_129 rfl rfl hA3_136 (by rw [Hdl.out]; rfl) (by rw [Hdl.out]; kernel_rfl) ?_
            intro w137 hg137 hs137 hA3_137
            refine hK.out _ _ (hS136.grown hg137 n3_129) (fun hS137 => ?_)
            clear hK K
            try simp only [Act.put, List.setIfInBounds_toArray, List.set_cons_zero, List.set_cons_succ]
            have hA4_137 := hA4_136.grown hg137 (fun e => ne_135.symm (Option.some.inj e))
            clear hg137 hs137 hS136 hA3_136 hA4_136
            refine wpAnyH_ready (rs := [13]) (by kernel_rfl) (by simp) ?_
            refine AllReadyH.cons (o := { dst := none, op := Go.Op.store 30 (Go.Operand.tmp 4) (Go.Operand.tmp 14), type := 0, pos := "mac.go:41", after := #[{ on := 11, ground := Go.Ground.data }, { on := 9, ground := Go.Ground.data }, { on := 12, ground := Go.Ground.chain }, { on := 0, ground := Go.Ground.phase }, { on := 1, ground := Go.Ground.phase }, { on := 2, ground := Go.Ground.phase }, { on := 3, ground := Go.Ground.phase }, { on := 4, ground := Go.Ground.phase }, { on := 5, ground := Go.Ground.phase }, { on := 6, ground := Go.Ground.phase }, { on := 7, ground := Go.Ground.phase }, { on := 8, ground := Go.Ground.phase }, { on := 9, ground := Go.Ground.phase }, { on := 10, ground := Go.Ground.phase }, { on := 11, ground := Go.Ground.phase }, { on := 12, ground := Go.Ground.phase }], guard := none }) rfl (fun K hK => ?_) (AllReadyH.nil)
            ·
              rw [if_pos (by rfl)]
              refine wp_store_arr 30 (.tmp 4) (.tmp 14) rfl b4_135 rfl rfl hA4_137 (by rw [Hol.out]; rfl) (by rw [Hol.out]; kernel_rfl) ?_
              intro w138 hg138 hs138 hA4_138
              refine hK.out _ _ (hS137.grown hg138 n4_135) (fun hS138 => ?_)
              clear hK K
              try simp only [Act.put, List.setIfInBounds_toArray, List.set_cons_zero, List.set_cons_succ]
              have hA3_138 := hA3_137.grown hg138 (fun e => ne_135 (Option.some.inj e))
              clear hg138 hs138 hS137 hA3_137 hA4_137
              refine wpAnyH_done (by kernel_rfl) ?_ _
              exact cont b3_129 b4_135 _ hS138 hA3_138 hA4_138 n3_129 n4_135
    ·
      go_simp
      refine hK.out _ _ (hS129.alloc (.cells ((List.replicate 64 0).map (Value.int .u8)).toArray 30)) (fun hS139 => ?_)
      clear hK K
      try simp only [Act.put, List.setIfInBounds_toArray, List.set_cons_zero, List.set_cons_succ]
      change wpAnyH _ _ _ _ _ _ _ _ (World.alloc w129 (.cells ((List.replicate 64 0).map (Value.int .u8)).toArray 30))
      replace hS139 : SealS w m h bl D (World.alloc w129 (.cells ((List.replicate 64 0).map (Value.int .u8)).toArray 30)) := hS139
      have hA4_139 : Arr (w129.alloc (.cells ((List.replicate 64 0).map (Value.int .u8)).toArray 30)) w129.heap.size .u8 30 (List.replicate 64 0) := Arr.new_at rfl rfl
      have n4_139 : w.heap.size < w129.heap.size := hS129.arr.lt
      have hA3_139 := hA3_129.alloc (.cells ((List.replicate 64 0).map (Value.int .u8)).toArray 30)
      have ne_139 : b3_129 ≠ w129.heap.size := Nat.ne_of_lt hA3_129.lt
      obtain ⟨w139, hw139⟩ : ∃ w139, World.alloc w129 (.cells ((List.replicate 64 0).map (Value.int .u8)).toArray 30) = w139 := ⟨_, rfl⟩
      rw [hw139] at hS139 hA4_139 hA3_139
      rw [hw139]
      obtain ⟨b4_139, hb139⟩ : ∃ b, w129.heap.size = b := ⟨_, rfl⟩
      rw [hb139] at hA4_139 n4_139 ne_139
      rw [hb139]
      clear hw139 hb139 hS129 hA3_129
      refine wpAnyH_ready (rs := [4]) (by kernel_rfl) (by simp) ?_
      refine AllReadyH.cons (o := { dst := some 9, op := Go.Op.call { callee := Go.Callee.value (Go.Operand.func 31), args := #[Go.Operand.tmp 8], argTypes := #[45] }, type := 24, pos := "mac.go:41", after := #[{ on := 3, ground := Go.Ground.data }], guard := none }) rfl (fun K hK => ?_) (AllReadyH.nil)
      ·
        go_simp
        go_at_call 31
        refine (HSum_any h D w139 (HR.out.below hS139.be hpos.out) hS139.hs Hn.out).mono ?_
        rintro e w140 ⟨rfl, hb140⟩
        rw [Hds.out]
        refine hK.out _ _ (hS139.below hb140) (fun hS140 => ?_)
        clear hK K
        try simp only [Act.put, List.setIfInBounds_toArray, List.set_cons_zero, List.set_cons_succ]
        have hA3_140 := hA3_139.below hb140 hA3_139.lt
        have hA4_140 := hA4_139.below hb140 hA4_139.lt
        clear hb140 hS139 hA3_139 hA4_139
        refine wpAnyH_ready (rs := [9]) (by kernel_rfl) (by simp) ?_
        refine AllReadyH.cons (o := { dst := some 14, op := Go.Op.call { callee := Go.Callee.value (Go.Operand.func 69), args := #[Go.Operand.tmp 13, Go.Operand.const (Go.Value.int Go.IntKind.u8 92)], argTypes := #[30, 5] }, type := 30, pos := "mac.go:41", after := #[{ on := 8, ground := Go.Ground.data }, { on := 4, ground := Go.Ground.chain }], guard := none }) rfl (fun K hK => ?_) (AllReadyH.nil)
        ·
          go_simp
          go_at_call 69
          refine (with_any bl 92 w140 Hbl.out).mono ?_
          rintro e w141 ⟨rfl, hb141⟩
          rw [Hob.out]
          refine hK.out _ _ (hS140.below hb141) (fun hS141 => ?_)
          clear hK K
          try simp only [Act.put, List.setIfInBounds_toArray, List.set_cons_zero, List.set_cons_succ]
          have hA3_141 := hA3_140.below hb141 hA3_140.lt
          have hA4_141 := hA4_140.below hb141 hA4_140.lt
          clear hb141 hS140 hA3_140 hA4_140
          refine wpAnyH_ready (rs := [12]) (by kernel_rfl) (by simp) ?_
          refine AllReadyH.cons (o := { dst := none, op := Go.Op.store 24 (Go.Operand.tmp 3) (Go.Operand.tmp 9), type := 0, pos := "mac.go:41", after := #[{ on := 10, ground := Go.Ground.data }, { on := 4, ground := Go.Ground.data }, { on := 9, ground := Go.Ground.chain }, { on := 0, ground := Go.Ground.phase }, { on := 1, ground := Go.Ground.phase }, { on := 2, ground := Go.Ground.phase }, { on := 3, ground := Go.Ground.phase }, { on := 4, ground := Go.Ground.phase }, { on := 5, ground := Go.Ground.textOnly Go.Departure.lateStores }, { on := 6, ground := Go.Ground.textOnly Go.Departure.lateStoresUnsure }, { on := 7, ground := Go.Ground.textOnly Go.Departure.lateStoresUnsure }, { on := 8, ground := Go.Ground.phase }, { on := 9, ground := Go.Ground.phase }, { on := 10, ground := Go.Ground.phase }, { on := 11, ground := Go.Ground.phase }], guard := none }) rfl (fun K hK => ?_) (AllReadyH.nil)
          ·
            rw [if_pos (by rfl)]
            refine wp_store_arr 24 (.tmp 3) (.tmp 9) rfl b3_129 rfl rfl hA3_141 (by rw [Hdl.out]; rfl) (by rw [Hdl.out]; kernel_rfl) ?_
            intro w142 hg142 hs142 hA3_142
            refine hK.out _ _ (hS141.grown hg142 n3_129) (fun hS142 => ?_)
            clear hK K
            try simp only [Act.put, List.setIfInBounds_toArray, List.set_cons_zero, List.set_cons_succ]
            have hA4_142 := hA4_141.grown hg142 (fun e => ne_139.symm (Option.some.inj e))
            clear hg142 hs142 hS141 hA3_141 hA4_141
            refine wpAnyH_ready (rs := [13]) (by kernel_rfl) (by simp) ?_
            refine AllReadyH.cons (o := { dst := none, op := Go.Op.store 30 (Go.Operand.tmp 4) (Go.Operand.tmp 14), type := 0, pos := "mac.go:41", after := #[{ on := 11, ground := Go.Ground.data }, { on := 9, ground := Go.Ground.data }, { on := 12, ground := Go.Ground.chain }, { on := 0, ground := Go.Ground.phase }, { on := 1, ground := Go.Ground.phase }, { on := 2, ground := Go.Ground.phase }, { on := 3, ground := Go.Ground.phase }, { on := 4, ground := Go.Ground.phase }, { on := 5, ground := Go.Ground.phase }, { on := 6, ground := Go.Ground.phase }, { on := 7, ground := Go.Ground.phase }, { on := 8, ground := Go.Ground.phase }, { on := 9, ground := Go.Ground.phase }, { on := 10, ground := Go.Ground.phase }, { on := 11, ground := Go.Ground.phase }, { on := 12, ground := Go.Ground.phase }], guard := none }) rfl (fun K hK => ?_) (AllReadyH.nil)
            ·
              rw [if_pos (by rfl)]
              refine wp_store_arr 30 (.tmp 4) (.tmp 14) rfl b4_139 rfl rfl hA4_142 (by rw [Hol.out]; rfl) (by rw [Hol.out]; kernel_rfl) ?_
              intro w143 hg143 hs143 hA4_143
              refine hK.out _ _ (hS142.grown hg143 n4_139) (fun hS143 => ?_)
              clear hK K
              try simp only [Act.put, List.setIfInBounds_toArray, List.set_cons_zero, List.set_cons_succ]
              have hA3_143 := hA3_142.grown hg143 (fun e => ne_139 (Option.some.inj e))
              clear hg143 hs143 hS142 hA3_142 hA4_142
              refine wpAnyH_done (by kernel_rfl) ?_ _
              exact cont b3_129 b4_139 _ hS143 hA3_143 hA4_143 n3_129 n4_139
  ·
    go_simp
    refine hK.out _ _ (hS50.alloc (.cells ((List.replicate 64 0).map (Value.int .u8)).toArray 30)) (fun hS144 => ?_)
    clear hK K
    try simp only [Act.put, List.setIfInBounds_toArray, List.set_cons_zero, List.set_cons_succ]
    change wpAnyH _ _ _ _ _ _ _ _ (World.alloc w50 (.cells ((List.replicate 64 0).map (Value.int .u8)).toArray 30))
    replace hS144 : SealS w m h bl D (World.alloc w50 (.cells ((List.replicate 64 0).map (Value.int .u8)).toArray 30)) := hS144
    have hA4_144 : Arr (w50.alloc (.cells ((List.replicate 64 0).map (Value.int .u8)).toArray 30)) w50.heap.size .u8 30 (List.replicate 64 0) := Arr.new_at rfl rfl
    have n4_144 : w.heap.size < w50.heap.size := hS50.arr.lt
    obtain ⟨w144, hw144⟩ : ∃ w144, World.alloc w50 (.cells ((List.replicate 64 0).map (Value.int .u8)).toArray 30) = w144 := ⟨_, rfl⟩
    rw [hw144] at hS144 hA4_144
    rw [hw144]
    obtain ⟨b4_144, hb144⟩ : ∃ b, w50.heap.size = b := ⟨_, rfl⟩
    rw [hb144] at hA4_144 n4_144
    rw [hb144]
    clear hw144 hb144 hS50 
    refine wpAnyH_ready (rs := [4, 10]) (by kernel_rfl) (by simp) ?_
    refine AllReadyH.cons (o := { dst := some 9, op := Go.Op.call { callee := Go.Callee.value (Go.Operand.func 31), args := #[Go.Operand.tmp 8], argTypes := #[45] }, type := 24, pos := "mac.go:41", after := #[{ on := 3, ground := Go.Ground.data }], guard := none }) rfl (fun K hK => ?_) (AllReadyH.cons (o := { dst := some 3, op := Go.Op.alloc 24, type := 0, pos := "mac.go:41", after := #[], guard := none }) rfl (fun K hK => ?_) (AllReadyH.nil))
    ·
      go_simp
      go_at_call 31
      refine (HSum_any h D w144 (HR.out.below hS144.be hpos.out) hS144.hs Hn.out).mono ?_
      rintro e w145 ⟨rfl, hb145⟩
      rw [Hds.out]
      refine hK.out _ _ (hS144.below hb145) (fun hS145 => ?_)
      clear hK K
      try simp only [Act.put, List.setIfInBounds_toArray, List.set_cons_zero, List.set_cons_succ]
      have hA4_145 := hA4_144.below hb145 hA4_144.lt
      clear hb145 hS144 hA4_144
      refine wpAnyH_ready (rs := [9, 10]) (by kernel_rfl) (by simp) ?_
      refine AllReadyH.cons (o := { dst := some 14, op := Go.Op.call { callee := Go.Callee.value (Go.Operand.func 69), args := #[Go.Operand.tmp 13, Go.Operand.const (Go.Value.int Go.IntKind.u8 92)], argTypes := #[30, 5] }, type := 30, pos := "mac.go:41", after := #[{ on := 8, ground := Go.Ground.data }, { on := 4, ground := Go.Ground.chain }], guard := none }) rfl (fun K hK => ?_) (AllReadyH.cons (o := { dst := some 3, op := Go.Op.alloc 24, type := 0, pos := "mac.go:41", after := #[], guard := none }) rfl (fun K hK => ?_) (AllReadyH.nil))
      ·
        go_simp
        go_at_call 69
        refine (with_any bl 92 w145 Hbl.out).mono ?_
        rintro e w146 ⟨rfl, hb146⟩
        rw [Hob.out]
        refine hK.out _ _ (hS145.below hb146) (fun hS146 => ?_)
        clear hK K
        try simp only [Act.put, List.setIfInBounds_toArray, List.set_cons_zero, List.set_cons_succ]
        have hA4_146 := hA4_145.below hb146 hA4_145.lt
        clear hb146 hS145 hA4_145
        refine wpAnyH_ready (rs := [10]) (by kernel_rfl) (by simp) ?_
        refine AllReadyH.cons (o := { dst := some 3, op := Go.Op.alloc 24, type := 0, pos := "mac.go:41", after := #[], guard := none }) rfl (fun K hK => ?_) (AllReadyH.nil)
        ·
          go_simp
          refine hK.out _ _ (hS146.alloc (.cells ((List.replicate 32 0).map (Value.int .u8)).toArray 24)) (fun hS147 => ?_)
          clear hK K
          try simp only [Act.put, List.setIfInBounds_toArray, List.set_cons_zero, List.set_cons_succ]
          change wpAnyH _ _ _ _ _ _ _ _ (World.alloc w146 (.cells ((List.replicate 32 0).map (Value.int .u8)).toArray 24))
          replace hS147 : SealS w m h bl D (World.alloc w146 (.cells ((List.replicate 32 0).map (Value.int .u8)).toArray 24)) := hS147
          have hA3_147 : Arr (w146.alloc (.cells ((List.replicate 32 0).map (Value.int .u8)).toArray 24)) w146.heap.size .u8 24 (List.replicate 32 0) := Arr.new_at rfl rfl
          have n3_147 : w.heap.size < w146.heap.size := hS146.arr.lt
          have hA4_147 := hA4_146.alloc (.cells ((List.replicate 32 0).map (Value.int .u8)).toArray 24)
          have ne_147 : b4_144 ≠ w146.heap.size := Nat.ne_of_lt hA4_146.lt
          obtain ⟨w147, hw147⟩ : ∃ w147, World.alloc w146 (.cells ((List.replicate 32 0).map (Value.int .u8)).toArray 24) = w147 := ⟨_, rfl⟩
          rw [hw147] at hS147 hA3_147 hA4_147
          rw [hw147]
          obtain ⟨b3_147, hb147⟩ : ∃ b, w146.heap.size = b := ⟨_, rfl⟩
          rw [hb147] at hA3_147 n3_147 ne_147
          rw [hb147]
          clear hw147 hb147 hS146 hA4_146
          refine wpAnyH_ready (rs := [12]) (by kernel_rfl) (by simp) ?_
          refine AllReadyH.cons (o := { dst := none, op := Go.Op.store 24 (Go.Operand.tmp 3) (Go.Operand.tmp 9), type := 0, pos := "mac.go:41", after := #[{ on := 10, ground := Go.Ground.data }, { on := 4, ground := Go.Ground.data }, { on := 9, ground := Go.Ground.chain }, { on := 0, ground := Go.Ground.phase }, { on := 1, ground := Go.Ground.phase }, { on := 2, ground := Go.Ground.phase }, { on := 3, ground := Go.Ground.phase }, { on := 4, ground := Go.Ground.phase }, { on := 5, ground := Go.Ground.textOnly Go.Departure.lateStores }, { on := 6, ground := Go.Ground.textOnly Go.Departure.lateStoresUnsure }, { on := 7, ground := Go.Ground.textOnly Go.Departure.lateStoresUnsure }, { on := 8, ground := Go.Ground.phase }, { on := 9, ground := Go.Ground.phase }, { on := 10, ground := Go.Ground.phase }, { on := 11, ground := Go.Ground.phase }], guard := none }) rfl (fun K hK => ?_) (AllReadyH.nil)
          ·
            rw [if_pos (by rfl)]
            refine wp_store_arr 24 (.tmp 3) (.tmp 9) rfl b3_147 rfl rfl hA3_147 (by rw [Hdl.out]; rfl) (by rw [Hdl.out]; kernel_rfl) ?_
            intro w148 hg148 hs148 hA3_148
            refine hK.out _ _ (hS147.grown hg148 n3_147) (fun hS148 => ?_)
            clear hK K
            try simp only [Act.put, List.setIfInBounds_toArray, List.set_cons_zero, List.set_cons_succ]
            have hA4_148 := hA4_147.grown hg148 (fun e => ne_147 (Option.some.inj e))
            clear hg148 hs148 hS147 hA3_147 hA4_147
            refine wpAnyH_ready (rs := [13]) (by kernel_rfl) (by simp) ?_
            refine AllReadyH.cons (o := { dst := none, op := Go.Op.store 30 (Go.Operand.tmp 4) (Go.Operand.tmp 14), type := 0, pos := "mac.go:41", after := #[{ on := 11, ground := Go.Ground.data }, { on := 9, ground := Go.Ground.data }, { on := 12, ground := Go.Ground.chain }, { on := 0, ground := Go.Ground.phase }, { on := 1, ground := Go.Ground.phase }, { on := 2, ground := Go.Ground.phase }, { on := 3, ground := Go.Ground.phase }, { on := 4, ground := Go.Ground.phase }, { on := 5, ground := Go.Ground.phase }, { on := 6, ground := Go.Ground.phase }, { on := 7, ground := Go.Ground.phase }, { on := 8, ground := Go.Ground.phase }, { on := 9, ground := Go.Ground.phase }, { on := 10, ground := Go.Ground.phase }, { on := 11, ground := Go.Ground.phase }, { on := 12, ground := Go.Ground.phase }], guard := none }) rfl (fun K hK => ?_) (AllReadyH.nil)
            ·
              rw [if_pos (by rfl)]
              refine wp_store_arr 30 (.tmp 4) (.tmp 14) rfl b4_144 rfl rfl hA4_148 (by rw [Hol.out]; rfl) (by rw [Hol.out]; kernel_rfl) ?_
              intro w149 hg149 hs149 hA4_149
              refine hK.out _ _ (hS148.grown hg149 n4_144) (fun hS149 => ?_)
              clear hK K
              try simp only [Act.put, List.setIfInBounds_toArray, List.set_cons_zero, List.set_cons_succ]
              have hA3_149 := hA3_148.grown hg149 (fun e => ne_147.symm (Option.some.inj e))
              clear hg149 hs149 hS148 hA3_148 hA4_148
              refine wpAnyH_done (by kernel_rfl) ?_ _
              exact cont b3_147 b4_144 _ hS149 hA3_149 hA4_149 n3_147 n4_144
      ·
        go_simp
        refine hK.out _ _ (hS145.alloc (.cells ((List.replicate 32 0).map (Value.int .u8)).toArray 24)) (fun hS150 => ?_)
        clear hK K
        try simp only [Act.put, List.setIfInBounds_toArray, List.set_cons_zero, List.set_cons_succ]
        change wpAnyH _ _ _ _ _ _ _ _ (World.alloc w145 (.cells ((List.replicate 32 0).map (Value.int .u8)).toArray 24))
        replace hS150 : SealS w m h bl D (World.alloc w145 (.cells ((List.replicate 32 0).map (Value.int .u8)).toArray 24)) := hS150
        have hA3_150 : Arr (w145.alloc (.cells ((List.replicate 32 0).map (Value.int .u8)).toArray 24)) w145.heap.size .u8 24 (List.replicate 32 0) := Arr.new_at rfl rfl
        have n3_150 : w.heap.size < w145.heap.size := hS145.arr.lt
        have hA4_150 := hA4_145.alloc (.cells ((List.replicate 32 0).map (Value.int .u8)).toArray 24)
        have ne_150 : b4_144 ≠ w145.heap.size := Nat.ne_of_lt hA4_145.lt
        obtain ⟨w150, hw150⟩ : ∃ w150, World.alloc w145 (.cells ((List.replicate 32 0).map (Value.int .u8)).toArray 24) = w150 := ⟨_, rfl⟩
        rw [hw150] at hS150 hA3_150 hA4_150
        rw [hw150]
        obtain ⟨b3_150, hb150⟩ : ∃ b, w145.heap.size = b := ⟨_, rfl⟩
        rw [hb150] at hA3_150 n3_150 ne_150
        rw [hb150]
        clear hw150 hb150 hS145 hA4_145
        refine wpAnyH_ready (rs := [9]) (by kernel_rfl) (by simp) ?_
        refine AllReadyH.cons (o := { dst := some 14, op := Go.Op.call { callee := Go.Callee.value (Go.Operand.func 69), args := #[Go.Operand.tmp 13, Go.Operand.const (Go.Value.int Go.IntKind.u8 92)], argTypes := #[30, 5] }, type := 30, pos := "mac.go:41", after := #[{ on := 8, ground := Go.Ground.data }, { on := 4, ground := Go.Ground.chain }], guard := none }) rfl (fun K hK => ?_) (AllReadyH.nil)
        ·
          go_simp
          go_at_call 69
          refine (with_any bl 92 w150 Hbl.out).mono ?_
          rintro e w151 ⟨rfl, hb151⟩
          rw [Hob.out]
          refine hK.out _ _ (hS150.below hb151) (fun hS151 => ?_)
          clear hK K
          try simp only [Act.put, List.setIfInBounds_toArray, List.set_cons_zero, List.set_cons_succ]
          have hA3_151 := hA3_150.below hb151 hA3_150.lt
          have hA4_151 := hA4_150.below hb151 hA4_150.lt
          clear hb151 hS150 hA3_150 hA4_150
          refine wpAnyH_ready (rs := [12]) (by kernel_rfl) (by simp) ?_
          refine AllReadyH.cons (o := { dst := none, op := Go.Op.store 24 (Go.Operand.tmp 3) (Go.Operand.tmp 9), type := 0, pos := "mac.go:41", after := #[{ on := 10, ground := Go.Ground.data }, { on := 4, ground := Go.Ground.data }, { on := 9, ground := Go.Ground.chain }, { on := 0, ground := Go.Ground.phase }, { on := 1, ground := Go.Ground.phase }, { on := 2, ground := Go.Ground.phase }, { on := 3, ground := Go.Ground.phase }, { on := 4, ground := Go.Ground.phase }, { on := 5, ground := Go.Ground.textOnly Go.Departure.lateStores }, { on := 6, ground := Go.Ground.textOnly Go.Departure.lateStoresUnsure }, { on := 7, ground := Go.Ground.textOnly Go.Departure.lateStoresUnsure }, { on := 8, ground := Go.Ground.phase }, { on := 9, ground := Go.Ground.phase }, { on := 10, ground := Go.Ground.phase }, { on := 11, ground := Go.Ground.phase }], guard := none }) rfl (fun K hK => ?_) (AllReadyH.nil)
          ·
            rw [if_pos (by rfl)]
            refine wp_store_arr 24 (.tmp 3) (.tmp 9) rfl b3_150 rfl rfl hA3_151 (by rw [Hdl.out]; rfl) (by rw [Hdl.out]; kernel_rfl) ?_
            intro w152 hg152 hs152 hA3_152
            refine hK.out _ _ (hS151.grown hg152 n3_150) (fun hS152 => ?_)
            clear hK K
            try simp only [Act.put, List.setIfInBounds_toArray, List.set_cons_zero, List.set_cons_succ]
            have hA4_152 := hA4_151.grown hg152 (fun e => ne_150 (Option.some.inj e))
            clear hg152 hs152 hS151 hA3_151 hA4_151
            refine wpAnyH_ready (rs := [13]) (by kernel_rfl) (by simp) ?_
            refine AllReadyH.cons (o := { dst := none, op := Go.Op.store 30 (Go.Operand.tmp 4) (Go.Operand.tmp 14), type := 0, pos := "mac.go:41", after := #[{ on := 11, ground := Go.Ground.data }, { on := 9, ground := Go.Ground.data }, { on := 12, ground := Go.Ground.chain }, { on := 0, ground := Go.Ground.phase }, { on := 1, ground := Go.Ground.phase }, { on := 2, ground := Go.Ground.phase }, { on := 3, ground := Go.Ground.phase }, { on := 4, ground := Go.Ground.phase }, { on := 5, ground := Go.Ground.phase }, { on := 6, ground := Go.Ground.phase }, { on := 7, ground := Go.Ground.phase }, { on := 8, ground := Go.Ground.phase }, { on := 9, ground := Go.Ground.phase }, { on := 10, ground := Go.Ground.phase }, { on := 11, ground := Go.Ground.phase }, { on := 12, ground := Go.Ground.phase }], guard := none }) rfl (fun K hK => ?_) (AllReadyH.nil)
            ·
              rw [if_pos (by rfl)]
              refine wp_store_arr 30 (.tmp 4) (.tmp 14) rfl b4_144 rfl rfl hA4_152 (by rw [Hol.out]; rfl) (by rw [Hol.out]; kernel_rfl) ?_
              intro w153 hg153 hs153 hA4_153
              refine hK.out _ _ (hS152.grown hg153 n4_144) (fun hS153 => ?_)
              clear hK K
              try simp only [Act.put, List.setIfInBounds_toArray, List.set_cons_zero, List.set_cons_succ]
              have hA3_153 := hA3_152.grown hg153 (fun e => ne_150.symm (Option.some.inj e))
              clear hg153 hs153 hS152 hA3_152 hA4_152
              refine wpAnyH_done (by kernel_rfl) ?_ _
              exact cont b3_150 b4_144 _ hS153 hA3_153 hA4_153 n3_150 n4_144
    ·
      go_simp
      refine hK.out _ _ (hS144.alloc (.cells ((List.replicate 32 0).map (Value.int .u8)).toArray 24)) (fun hS154 => ?_)
      clear hK K
      try simp only [Act.put, List.setIfInBounds_toArray, List.set_cons_zero, List.set_cons_succ]
      change wpAnyH _ _ _ _ _ _ _ _ (World.alloc w144 (.cells ((List.replicate 32 0).map (Value.int .u8)).toArray 24))
      replace hS154 : SealS w m h bl D (World.alloc w144 (.cells ((List.replicate 32 0).map (Value.int .u8)).toArray 24)) := hS154
      have hA3_154 : Arr (w144.alloc (.cells ((List.replicate 32 0).map (Value.int .u8)).toArray 24)) w144.heap.size .u8 24 (List.replicate 32 0) := Arr.new_at rfl rfl
      have n3_154 : w.heap.size < w144.heap.size := hS144.arr.lt
      have hA4_154 := hA4_144.alloc (.cells ((List.replicate 32 0).map (Value.int .u8)).toArray 24)
      have ne_154 : b4_144 ≠ w144.heap.size := Nat.ne_of_lt hA4_144.lt
      obtain ⟨w154, hw154⟩ : ∃ w154, World.alloc w144 (.cells ((List.replicate 32 0).map (Value.int .u8)).toArray 24) = w154 := ⟨_, rfl⟩
      rw [hw154] at hS154 hA3_154 hA4_154
      rw [hw154]
      obtain ⟨b3_154, hb154⟩ : ∃ b, w144.heap.size = b := ⟨_, rfl⟩
      rw [hb154] at hA3_154 n3_154 ne_154
      rw [hb154]
      clear hw154 hb154 hS144 hA4_144
      refine wpAnyH_ready (rs := [4]) (by kernel_rfl) (by simp) ?_
      refine AllReadyH.cons (o := { dst := some 9, op := Go.Op.call { callee := Go.Callee.value (Go.Operand.func 31), args := #[Go.Operand.tmp 8], argTypes := #[45] }, type := 24, pos := "mac.go:41", after := #[{ on := 3, ground := Go.Ground.data }], guard := none }) rfl (fun K hK => ?_) (AllReadyH.nil)
      ·
        go_simp
        go_at_call 31
        refine (HSum_any h D w154 (HR.out.below hS154.be hpos.out) hS154.hs Hn.out).mono ?_
        rintro e w155 ⟨rfl, hb155⟩
        rw [Hds.out]
        refine hK.out _ _ (hS154.below hb155) (fun hS155 => ?_)
        clear hK K
        try simp only [Act.put, List.setIfInBounds_toArray, List.set_cons_zero, List.set_cons_succ]
        have hA3_155 := hA3_154.below hb155 hA3_154.lt
        have hA4_155 := hA4_154.below hb155 hA4_154.lt
        clear hb155 hS154 hA3_154 hA4_154
        refine wpAnyH_ready (rs := [9]) (by kernel_rfl) (by simp) ?_
        refine AllReadyH.cons (o := { dst := some 14, op := Go.Op.call { callee := Go.Callee.value (Go.Operand.func 69), args := #[Go.Operand.tmp 13, Go.Operand.const (Go.Value.int Go.IntKind.u8 92)], argTypes := #[30, 5] }, type := 30, pos := "mac.go:41", after := #[{ on := 8, ground := Go.Ground.data }, { on := 4, ground := Go.Ground.chain }], guard := none }) rfl (fun K hK => ?_) (AllReadyH.nil)
        ·
          go_simp
          go_at_call 69
          refine (with_any bl 92 w155 Hbl.out).mono ?_
          rintro e w156 ⟨rfl, hb156⟩
          rw [Hob.out]
          refine hK.out _ _ (hS155.below hb156) (fun hS156 => ?_)
          clear hK K
          try simp only [Act.put, List.setIfInBounds_toArray, List.set_cons_zero, List.set_cons_succ]
          have hA3_156 := hA3_155.below hb156 hA3_155.lt
          have hA4_156 := hA4_155.below hb156 hA4_155.lt
          clear hb156 hS155 hA3_155 hA4_155
          refine wpAnyH_ready (rs := [12]) (by kernel_rfl) (by simp) ?_
          refine AllReadyH.cons (o := { dst := none, op := Go.Op.store 24 (Go.Operand.tmp 3) (Go.Operand.tmp 9), type := 0, pos := "mac.go:41", after := #[{ on := 10, ground := Go.Ground.data }, { on := 4, ground := Go.Ground.data }, { on := 9, ground := Go.Ground.chain }, { on := 0, ground := Go.Ground.phase }, { on := 1, ground := Go.Ground.phase }, { on := 2, ground := Go.Ground.phase }, { on := 3, ground := Go.Ground.phase }, { on := 4, ground := Go.Ground.phase }, { on := 5, ground := Go.Ground.textOnly Go.Departure.lateStores }, { on := 6, ground := Go.Ground.textOnly Go.Departure.lateStoresUnsure }, { on := 7, ground := Go.Ground.textOnly Go.Departure.lateStoresUnsure }, { on := 8, ground := Go.Ground.phase }, { on := 9, ground := Go.Ground.phase }, { on := 10, ground := Go.Ground.phase }, { on := 11, ground := Go.Ground.phase }], guard := none }) rfl (fun K hK => ?_) (AllReadyH.nil)
          ·
            rw [if_pos (by rfl)]
            refine wp_store_arr 24 (.tmp 3) (.tmp 9) rfl b3_154 rfl rfl hA3_156 (by rw [Hdl.out]; rfl) (by rw [Hdl.out]; kernel_rfl) ?_
            intro w157 hg157 hs157 hA3_157
            refine hK.out _ _ (hS156.grown hg157 n3_154) (fun hS157 => ?_)
            clear hK K
            try simp only [Act.put, List.setIfInBounds_toArray, List.set_cons_zero, List.set_cons_succ]
            have hA4_157 := hA4_156.grown hg157 (fun e => ne_154 (Option.some.inj e))
            clear hg157 hs157 hS156 hA3_156 hA4_156
            refine wpAnyH_ready (rs := [13]) (by kernel_rfl) (by simp) ?_
            refine AllReadyH.cons (o := { dst := none, op := Go.Op.store 30 (Go.Operand.tmp 4) (Go.Operand.tmp 14), type := 0, pos := "mac.go:41", after := #[{ on := 11, ground := Go.Ground.data }, { on := 9, ground := Go.Ground.data }, { on := 12, ground := Go.Ground.chain }, { on := 0, ground := Go.Ground.phase }, { on := 1, ground := Go.Ground.phase }, { on := 2, ground := Go.Ground.phase }, { on := 3, ground := Go.Ground.phase }, { on := 4, ground := Go.Ground.phase }, { on := 5, ground := Go.Ground.phase }, { on := 6, ground := Go.Ground.phase }, { on := 7, ground := Go.Ground.phase }, { on := 8, ground := Go.Ground.phase }, { on := 9, ground := Go.Ground.phase }, { on := 10, ground := Go.Ground.phase }, { on := 11, ground := Go.Ground.phase }, { on := 12, ground := Go.Ground.phase }], guard := none }) rfl (fun K hK => ?_) (AllReadyH.nil)
            ·
              rw [if_pos (by rfl)]
              refine wp_store_arr 30 (.tmp 4) (.tmp 14) rfl b4_144 rfl rfl hA4_157 (by rw [Hol.out]; rfl) (by rw [Hol.out]; kernel_rfl) ?_
              intro w158 hg158 hs158 hA4_158
              refine hK.out _ _ (hS157.grown hg158 n4_144) (fun hS158 => ?_)
              clear hK K
              try simp only [Act.put, List.setIfInBounds_toArray, List.set_cons_zero, List.set_cons_succ]
              have hA3_158 := hA3_157.grown hg158 (fun e => ne_154.symm (Option.some.inj e))
              clear hg158 hs158 hS157 hA3_157 hA4_157
              refine wpAnyH_done (by kernel_rfl) ?_ _
              exact cont b3_154 b4_144 _ hS158 hA3_158 hA4_158 n3_154 n4_144
end Go.Proofs.YtalghfnjelcpnaaDoor
namespace Go.Proofs.YtalghfnjelcpnaaDoor
set_option linter.unusedVariables false
set_option linter.unusedSimpArgs false
open Go.RowKit Go.Proofs.YtalghfnjelcpnaaDoorW.PrintWords Go.Proofs.YtalghfnjelcpnaaDoor.Db

/-- The seal of bytes under a key. -/
def macL (key msg : List Int) : List Int := sumL (wit (blk key) 92 ++ dig ((dgOf (blk key)).all msg))
theorem macL_len (key msg : List Int) : (macL key msg).length = 32 := sumL_len _
set_option maxHeartbeats 4000000 in
set_option maxRecDepth 100000 in
theorem MSum_any (A : Option Addr) (cap : Nat) (l : List Int) (P : Option Addr) (pc : Nat) (ps : List (List Int)) (w : World) (hR : Rounds w) (hA : Kd.C (Kd.int .u8) w A l.length l) (hc : l.length ≤ cap) (hl : l.length < 1073741824)
    (hC : Kd.C (Kd.slice 5 (Kd.int .u8)) w P ps.length ps) (hs : ps.flatten.length < 1073741824) :
    Calls Tryd.prog 39 #[.slice A l.length cap, .slice P ps.length pc] w fun e w' => e = .returned (AV .u8 (macL l ps.flatten)) ∧ Below w.heap.size w w' := by
  obtain ⟨ys, hys⟩ : ∃ ys, macL l ps.flatten = ys := ⟨_, rfl⟩
  have hyl : ys.length = 32 := by rw [← hys]; exact macL_len _ _
  rw [hys]
  have Hys := Aside0.mk hys
  have Hyl := Aside0.mk hyl
  have HR := Aside0.mk hR
  have hpos := Aside0.mk hR.pos
  have HC := Aside0.mk hC
  have HA := Aside0.mk hA
  have Hc := Aside0.mk hc
  have Hl := Aside0.mk hl
  have HS := Aside0.mk hs
  have Hps := Aside0.mk hC.2.1
  obtain ⟨bl, hbl⟩ : ∃ bl, blk l = bl := ⟨_, rfl⟩
  have Hbl := Aside0.mk hbl
  have Hbll := Aside0.mk (show bl.length = 64 by rw [← hbl]; exact blk_len l)
  obtain ⟨D0, hD0⟩ : ∃ D0, dgOf bl = D0 := ⟨_, rfl⟩
  have HD0 := Aside0.mk hD0
  have HDn := Aside0.mk (show D0.n = 64 by rw [← hD0]; exact dgOf_n bl Hbll.out)
  have HB1 := Aside0.mk ((Below.refl w.heap.size w).alloc (Nat.le_refl _) (.cells ((List.replicate 32 0).map (Value.int .u8)).toArray 24))
  clear hys hyl hR hA hc hl hC hs hbl hD0
  go_enter Tryd.func39, Tryd.ntmps39
  go_wp2_with (first
    | (go_at_call 43; refine (MNew_any A cap l _ (HR.out.below HB1.out hpos.out) (Kd.C_below HA.out HB1.out) Hc.out Hl.out).mono ?_; rintro e w2 ⟨m, h, rfl, hh, hm, hM2, hH2, hb2⟩; rw [Hbl.out] at hM2 hH2; rw [HD0.out] at hH2; have hZ2 : Arr w2 w.heap.size .u8 24 (List.replicate 32 0) := Arr.below (Arr.new_at (k := .u8) (T := 24) (xs := List.replicate 32 0) (w := w) rfl rfl) hb2 (by rw [World.size_alloc]; omega); have hB2 : Below w.heap.size w w2 := HB1.out.trans (hb2.mono HB1.out.size); rw [World.size_alloc] at hh))
  have Hh := Aside0.mk hh
  have Hm := Aside0.mk hm
  clear hb2 hh hm
  go_loopw [12] (fun i wr => ∃ k : Nat, k ≤ ps.length ∧ i = .int .i64 k ∧ Ms wr m h bl ∧ Hs wr h (D0.all (ps.take k).flatten).st (D0.all (ps.take k).flatten).bs (D0.all (ps.take k).flatten).n ∧ Arr wr w.heap.size .u8 24 (List.replicate 32 0) ∧ Below w.heap.size w wr)
    (fun i _ => ps.length - (intOf i).toNat)
  case atStart => exact ⟨0, by omega, rfl, hM2, hH2, hZ2, hB2⟩
  case round =>
    clear hM2 hH2 hZ2 hB2
    obtain ⟨k, hk, rfl, hM, hH, hZ, hB⟩ := hrel
    by_cases hlt : k < ps.length
    · obtain ⟨b, o, p, c, rfl, hbl, hc, hCi⟩ := parts_cell HC.out k hlt
      obtain ⟨q, hq0⟩ : ∃ q, ps.getD k [] = q := ⟨_, rfl⟩
      obtain ⟨D, hD0⟩ : ∃ D, D0.all (ps.take k).flatten = D := ⟨_, rfl⟩
      rw [hq0] at hc hCi
      rw [hD0] at hH
      have hc1 := (hB.cell (p := ⟨b, o + k, none⟩) hbl).trans hc
      have hc2 := hM.c0
      have hDn : D.n + q.length < 4611686018427387904 := by
        have h1 := flat_le ps (k + 1)
        rw [flat_step ps k hlt, List.length_append, hq0] at h1
        rw [← hD0, Dg.all_n]
        have h2 := HDn.out
        have h3 := HS.out
        omega
      have HDn2 := Aside0.mk hDn
      have Hq := Aside0.mk hq0
      have HD := Aside0.mk hD0
      have HCi := Aside0.mk hCi
      have hkl : (k : Int) < ps.length := by omega
      have wk : wrap64 ((k : Int) + 1) = ((k + 1 : Nat) : Int) := by
        have h9 := Hps.out
        rw [w64 (by omega) (by omega)]
        rfl
      have Hlt := Aside0.mk hlt
      clear hDn hq0 hD0 hc hCi hk hlt
      go_wp2_with (first
        | (go_at_call 30; refine (Write_any p c h q D wr (HR.out.below hB hpos.out) (by have := Hh.out; omega) hH HDn2.out (fun i hi => by obtain ⟨b', o', e1, h1, h2⟩ := row_cells HCi.out i hi; exact ⟨b', o', e1, by have := Hh.out; omega, by have := hB.size; omega, (hB.cell (p := ⟨b', o' + i, none⟩) h1).trans h2⟩)).mono ?_; rintro e w5 ⟨rfl, hH5, hb5⟩))
      go_roundw
      case rel =>
        refine ⟨k + 1, Hlt.out, by rw [wk], hM.grown hb5 (by have := Hm.out; simp; omega), ?_, hZ.grown hb5 (by have := Hh.out; simp; omega), hB.grown hb5 (Nat.le_of_lt hZ.lt) (fun j e => by cases e; have := Hh.out; omega)⟩
        rw [flat_step ps k Hlt.out, Dg.all_app, HD.out, Hq.out]
        exact hH5
      case measure =>
        rw [wk]
        show ps.length - (k + 1) < ps.length - k
        exact Nat.sub_lt_sub_left Hlt.out (Nat.lt_succ_self k)
    · obtain rfl : k = ps.length := by omega
      rw [List.take_of_length_le (Nat.le_refl _)] at hH
      have HDn2 := Aside0.mk (show (D0.all ps.flatten).n < 1152921504606846976 by
        rw [Dg.all_n]
        have h2 := HDn.out
        have h3 := HS.out
        omega)
      have Hv := Aside0.mk (show sumL (wit bl 92 ++ dig (D0.all ps.flatten)) = ys by rw [← HD0.out, ← Hbl.out]; exact Hys.out)
      clear hk hlt
      go_wp2_with (first
        | (go_at_call 44; refine (Seal_any m h bl (D0.all ps.flatten) wr (HR.out.below hB hpos.out) hM hH Hbll.out HDn2.out).mono ?_; rintro e w8 ⟨rfl, hb8⟩; have hZ8 := hZ.below hb8 hZ.lt; have hB8 := hB.trans (hb8.mono hB.size); rw [Hv.out])
        | (refine store_arr rfl 24 4 24 rfl rfl w.heap.size rfl rfl hZ8 (by rw [Hyl.out]; rfl) (by rw [Hyl.out]; kernel_rfl) ?_; intro w9 hg9 hs9 hA9))
      exact ret_arr 4 24 (by kernel_rfl) rfl hA9 Tryd.underlying24 (by rw [Hyl.out]; kernel_rfl) rfl ⟨rfl, hB8.grown hg9 (Nat.le_of_lt hZ8.lt) (fun j e => by cases e; omega)⟩
end Go.Proofs.YtalghfnjelcpnaaDoor
namespace Go.Proofs.YtalghfnjelcpnaaDoor
set_option linter.unusedVariables false
set_option linter.unusedSimpArgs false
open Go.RowKit Go.Proofs.YtalghfnjelcpnaaDoorW.PrintWords Go.Proofs.YtalghfnjelcpnaaDoor.Db

/-- More than a statement takes? -/
def gr (ps : List (List Int)) : Bool := ps.any (fun p => decide (300 < p.length)) || decide (20 < ps.length)
theorem gr_big (ps : List (List Int)) (k : Nat) (hk : k < ps.length) (h : 300 < (ps.getD k []).length) : gr ps = true := by
  unfold gr
  rw [Bool.or_eq_true, List.any_eq_true]
  refine .inl ⟨ps[k], List.getElem_mem hk, ?_⟩
  rw [List.getD_eq_getElem?_getD, List.getElem?_eq_getElem hk] at h
  simpa using h
theorem gr_small (ps : List (List Int)) (h : ∀ k, k < ps.length → (ps.getD k []).length ≤ 300) : gr ps = decide (20 < ps.length) := by
  unfold gr
  have : ps.any (fun p => decide (300 < p.length)) = false := by
    rw [Bool.eq_false_iff]
    intro hh
    obtain ⟨p, hp, h1⟩ := List.any_eq_true.1 hh
    obtain ⟨k, hk, rfl⟩ := List.mem_iff_getElem.1 hp
    have := h k hk
    rw [List.getD_eq_getElem?_getD, List.getElem?_eq_getElem hk] at this
    simp at h1 this
    omega
  rw [this, Bool.false_or]
set_option maxHeartbeats 4000000 in
set_option maxRecDepth 100000 in
theorem great4_any (A : Option Addr) (cap : Nat) (ps : List (List Int)) (w : World) (hC : Kd.C (Kd.slice 5 (Kd.int .u8)) w A ps.length ps) :
    Calls Tryd.prog 38 #[.slice A ps.length cap] w fun e w' => e = .returned (.bool (gr ps)) ∧ w' = w := by
  obtain ⟨r, hr⟩ : ∃ r, gr ps = r := ⟨_, rfl⟩
  rw [hr]
  have Hr := Aside0.mk hr
  have HC := Aside0.mk hC
  have Hps := Aside0.mk hC.2.1
  clear hr hC
  go_enter Tryd.func38, Tryd.ntmps38
  go_wp2
  go_loopw [7] (fun i wr => ∃ k : Nat, k ≤ ps.length ∧ i = .int .i64 k ∧ (∀ j, j < k → (ps.getD j []).length ≤ 300) ∧ wr = w)
    (fun i _ => ps.length - (intOf i).toNat)
  case atStart => exact ⟨0, by omega, rfl, fun j hj => by omega, rfl⟩
  case round =>
    obtain ⟨k, hk, rfl, hle, rfl⟩ := hrel
    by_cases hlt : k < ps.length
    · obtain ⟨b, o, p, c, rfl, hbl, hc, hCi⟩ := parts_cell HC.out k hlt
      obtain ⟨q, hq0⟩ : ∃ q, ps.getD k [] = q := ⟨_, rfl⟩
      rw [hq0] at hc
      have hkl : (k : Int) < ps.length := by omega
      have wk : wrap64 ((k : Int) + 1) = ((k + 1 : Nat) : Int) := by
        have h9 := Hps.out
        rw [w64 (by omega) (by omega)]
        rfl
      have Hq := Aside0.mk hq0
      have Hle := Aside0.mk hle
      have Hlt := Aside0.mk hlt
      by_cases hm : 300 < q.length
      · have d2 : decide (300 < (q.length : Int)) = true := by simp; omega
        have hrt := Aside0.mk (show true = r by rw [← Hr.out]; exact (gr_big ps k hlt (by rw [hq0]; exact hm)).symm)
        clear hCi hle hq0 hlt hk hm
        go_wp2
        go_ret
        exact ⟨congrArg (fun x => Ending.returned (Value.bool x)) hrt.out, rfl⟩
      · have d2 : decide (300 < (q.length : Int)) = false := by simp; omega
        have Hm := Aside0.mk (show q.length ≤ 300 by omega)
        clear hCi hle hq0 hlt hk hm
        go_wp2
        go_roundw
        case rel =>
          refine ⟨k + 1, Hlt.out, by rw [wk], ?_, by first | rfl | trivial⟩
          intro j hj
          rcases Nat.lt_or_ge j k with h1 | h1
          · exact Hle.out j h1
          · obtain rfl : j = k := by omega
            rw [Hq.out]; exact Hm.out
        case measure =>
          rw [wk]
          show ps.length - (k + 1) < ps.length - k
          exact Nat.sub_lt_sub_left Hlt.out (Nat.lt_succ_self k)
    · obtain rfl : k = ps.length := by omega
      have hg := gr_small ps hle
      have hrt := Aside0.mk (show decide (20 < (ps.length : Int)) = r by rw [← Hr.out, hg]; exact decide_eq_decide.2 (by omega))
      clear hle hk hlt hg
      go_wp2
      go_ret
      exact ⟨congrArg (fun x => Ending.returned (Value.bool x)) hrt.out, rfl⟩
/-- Twenty bytes 11. -/
theorem rep_set (n k : Nat) (x : Int) (hk : k < n) : (List.replicate k x ++ List.replicate (n - k) 0).set k x = List.replicate (k + 1) x ++ List.replicate (n - (k + 1)) 0 := by
  rw [List.set_append_right _ _ (by rw [List.length_replicate]; omega), List.length_replicate, Nat.sub_self, show n - k = (n - (k + 1)) + 1 by omega, List.replicate_succ, List.set_cons_zero, List.replicate_succ', List.append_assoc]
  rfl
set_option maxHeartbeats 4000000 in
set_option maxRecDepth 100000 in
theorem eleven_any (w : World) : Calls Tryd.prog 68 #[] w fun e w' => e = .returned (.slice (some ⟨w.heap.size, 0, none⟩) 20 20) ∧ Arr w' w.heap.size .u8 5 (List.replicate 20 11) ∧ Below w.heap.size w w' := by
  have mk20 : ∀ w, (Instr.makeSlice 22 (.int .i64 20) (.int .i64 20)).run Tryd.prog w = .ok (.slice (some ⟨w.heap.size, 0, none⟩) 20 20) (w.alloc (.cells ((List.replicate 20 0).map (Value.int .u8)).toArray 5)) := fun w => by kernel_rfl
  go_enter Tryd.func68, Tryd.ntmps68
  go_wp2
  have hA0 : Arr (w.alloc (.cells ((List.replicate 20 0).map (Value.int .u8)).toArray 5)) w.heap.size .u8 5 (List.replicate 0 11 ++ List.replicate (20 - 0) 0) := Arr.new_at rfl rfl
  have hB0 := (Below.refl w.heap.size w).alloc (Nat.le_refl _) (.cells ((List.replicate 20 0).map (Value.int .u8)).toArray 5)
  go_loopw [6] (fun i wr => ∃ k : Nat, k ≤ 20 ∧ i = .int .i64 k ∧ Arr wr w.heap.size .u8 5 (List.replicate k 11 ++ List.replicate (20 - k) 0) ∧ Below w.heap.size w wr)
    (fun i _ => 20 - (intOf i).toNat)
  case atStart => exact ⟨0, by omega, rfl, hA0, hB0⟩
  case round =>
    clear hA0 hB0
    obtain ⟨k, hk, rfl, hA, hB⟩ := hrel
    by_cases hlt : k < 20
    · have d0 : decide ((k : Int) < 20) = true := decide_eq_true (by omega)
      have d1 : (k : Int) < 20 := by omega
      have g1 := hA.cell (i := k) (by simp; omega)
      have g0 := hA.free k
      have h1 := hA.set k 11
      rw [rep_set 20 k 11 hlt] at h1
      have Hlt := Aside0.mk hlt
      clear hlt hk
      go_wp2
      go_roundw
      case rel => exact ⟨k + 1, Hlt.out, rfl, h1, hB.setCell (Nat.le_refl _) _⟩
      case measure =>
        show 20 - (k + 1) < 20 - k
        exact Nat.sub_lt_sub_left Hlt.out (Nat.lt_succ_self k)
    · obtain rfl : k = 20 := by omega
      go_wp2
      go_ret
      exact ⟨rfl, by simpa using hA, hB⟩
theorem hi_0 : (macL (List.replicate 20 11) [72, 105, 32, 84, 104, 101, 114, 101]).getD 0 0 = 176 := by decide +kernel
theorem hi_1 : (macL (List.replicate 20 11) [72, 105, 32, 84, 104, 101, 114, 101]).getD 1 0 = 52 := by decide +kernel
theorem hi_2 : (macL (List.replicate 20 11) [72, 105, 32, 84, 104, 101, 114, 101]).getD 2 0 = 76 := by decide +kernel
theorem hi_3 : (macL (List.replicate 20 11) [72, 105, 32, 84, 104, 101, 114, 101]).getD 3 0 = 97 := by decide +kernel
end Go.Proofs.YtalghfnjelcpnaaDoor
namespace Go.Proofs.YtalghfnjelcpnaaDoor
set_option linter.unusedVariables false
set_option linter.unusedSimpArgs false
open Go.RowKit Go.Proofs.YtalghfnjelcpnaaDoorW.PrintWords Go.Proofs.YtalghfnjelcpnaaDoor.Db

theorem two_al (w : World) (o p : Obj) : Below w.heap.size w ((w.alloc o).alloc p) := ((Below.refl _ w).alloc (Nat.le_refl _) o).alloc (by rw [World.size_alloc]; omega) p
set_option maxHeartbeats 4000000 in
set_option maxRecDepth 100000 in
theorem wakes4_any (w : World) (hR : Rounds w) : Calls Tryd.prog 37 #[] w fun e w' => e = .returned (.bool true) ∧ Below w.heap.size w w' := by
  have HR := Aside0.mk hR
  clear hR
  have hlen : (macL (List.replicate 20 11) [72, 105, 32, 84, 104, 101, 114, 101]).length = 32 := macL_len _ _
  have v0 := hi_0
  have v1 := hi_1
  have v2 := hi_2
  have v3 := hi_3
  obtain ⟨S, hS⟩ : ∃ S, macL (List.replicate 20 11) [72, 105, 32, 84, 104, 101, 114, 101] = S := ⟨_, rfl⟩
  rw [hS] at hlen v0 v1 v2 v3
  have HS := Aside0.mk hS
  have HL := Aside0.mk hlen
  have V0 := Aside0.mk v0
  have V1 := Aside0.mk v1
  have V2 := Aside0.mk v2
  have V3 := Aside0.mk v3
  clear hS hlen v0 v1 v2 v3
  have cv := fun w => Go.Lib.run_convert_bytes_const (P := Tryd.prog) w 22 5 #[.int .u8 72, .int .u8 105, .int .u8 32, .int .u8 84, .int .u8 104, .int .u8 101, .int .u8 114, .int .u8 101] 8 8 Tryd.underlying22 Tryd.underlying5
  have hpos := HR.out.pos
  go_enter Tryd.func37, Tryd.ntmps37
  go_wp2_with (first
    | (go_at_call 68; refine (eleven_any _).mono ?_; rintro e w1 ⟨rfl, hA1, hB1⟩)
    | (go_at_call 39; refine (MSum_any (some ⟨w.heap.size, 0, none⟩) 20 (List.replicate 20 11) (some ⟨w1.heap.size + 1, 0, none⟩) 1 [[72, 105, 32, 84, 104, 101, 114, 101]] _ ((HR.out.below hB1 hpos).below (two_al w1 _ _) (Nat.lt_of_lt_of_le hpos hB1.size)) (Kd.C_below (lit_C hA1 (by decide)) (two_al w1 _ _)) (by decide) (by decide) (one_C w1 [72, 105, 32, 84, 104, 101, 114, 101] (by decide) (8, 9)) (by decide)).mono ?_; rintro e w4 ⟨rfl, hb4⟩; rw [show macL (List.replicate 20 11) ([[72, 105, 32, 84, 104, 101, 114, 101]] : List (List Int)).flatten = S from HS.out]; have hB4 : Below w.heap.size w w4 := (hB1.trans ((two_al w1 _ _).mono hB1.size)).trans (hb4.mono (by rw [World.size_alloc, World.size_alloc]; have := hB1.size; omega)))
    | (refine store_arr rfl 24 1 6 rfl rfl w4.heap.size rfl rfl (Arr.new_at (k := .u8) (xs := List.replicate 32 0) rfl rfl) (by rw [HL.out]; rfl) (by rw [HL.out]; kernel_rfl) ?_; intro w5 hg5 hs5 hA5; rw [World.size_alloc] at hs5; have hB5 : Below w.heap.size w w5 := (hB4.alloc hB4.size _).grown hg5 (by rw [World.size_alloc]; have := hB4.size; omega) (by intro j e; cases e; have := hB4.size; omega); have c0 := (hA5.cell (i := 0) (by rw [HL.out]; omega)).trans (congrArg (fun z => some (Value.int .u8 z)) V0.out); have c1 := (hA5.cell (i := 1) (by rw [HL.out]; omega)).trans (congrArg (fun z => some (Value.int .u8 z)) V1.out); have c2 := (hA5.cell (i := 2) (by rw [HL.out]; omega)).trans (congrArg (fun z => some (Value.int .u8 z)) V2.out); have c3 := (hA5.cell (i := 3) (by rw [HL.out]; omega)).trans (congrArg (fun z => some (Value.int .u8 z)) V3.out)))
  go_ret
  exact ⟨rfl, hB5⟩
end Go.Proofs.YtalghfnjelcpnaaDoor
