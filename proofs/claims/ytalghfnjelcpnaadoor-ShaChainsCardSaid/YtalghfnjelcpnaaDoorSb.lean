/- The document's rounds' numbers: what the calls of ks and K return; of what was there nothing has turned. No conditions. Each round's number, and each word of the beginning, is the fraction of a root: by reckoning. No conditions. ShaRoots: what the call returns. Condition: the table 'rounds' holds what the program's text lays. -/
import Derived.Test.YtalghfnjelcpnaaDoorSa
namespace Go.Proofs.YtalghfnjelcpnaaDoor
open Go.RowKit Go.Proofs.YtalghfnjelcpnaaDoorW.PrintWords Go.Proofs.YtalghfnjelcpnaaDoor.Db

theorem build_const {ops : Array Oper} {rest : List Oper} {o : Oper} {a : Act} {Q : Exit → Act → World → Prop} {w : World} (hgd : o.guard = none) (t : TypeId) (parts : Array (Nat × Operand)) (ho : o.op = .build t parts) (cs : Array Value)
    (hb : Tryd.prog.built t (parts.map fun (i, x) => (i, a.eval x)).toList = some cs) (K : wpList Tryd.prog ops Q rest (a.put o.dst (.agg cs)) w) : wpList Tryd.prog ops Q (o :: rest) a w := by
  refine wpList_plain hgd fun K' hK => ?_
  refine wp_build t parts ho (by rw [hb]; rfl) ?_
  rw [hb]
  exact hK _ _ K
set_option maxHeartbeats 1000000 in
set_option maxRecDepth 100000 in
theorem ks_any (w : World) : Calls Tryd.prog 57 #[] w fun e w' => e = .returned (AV .u64 rs) ∧ Below w.heap.size w w' := by
  go_enter Tryd.func57, Tryd.ntmps57
  go_wp2_with (first
    | (refine build_const rfl 80 _ rfl (rs.map (Value.int .u64)).toArray (by kernel_rfl) ?_)
    | (refine store_arr (xs := rs) rfl 80 0 1 rfl rfl w.heap.size rfl rfl (Arr.new_at (k := .u64) (xs := List.replicate 64 0) rfl rfl) rfl (by kernel_rfl) ?_; intro w2 hg2 hs2 hA2))
  exact ret_arr 0 80 (by kernel_rfl) rfl hA2 Tryd.underlying80 (by kernel_rfl) rfl ⟨rfl, ((Below.refl _ w).alloc (Nat.le_refl _) _).grown hg2 (by rw [World.size_alloc]; omega) (by intro j e; cases e; omega)⟩
end Go.Proofs.YtalghfnjelcpnaaDoor
namespace Go.Proofs.YtalghfnjelcpnaaDoor
open Go.Proofs.YtalghfnjelcpnaaDoor.Db
theorem roots3 : ∀ i : Fin 64, ((incognitoref02_Nth.f 2000 (i.val : Int)).bind fun p => incognitoref02_Fits.f 2000 p 3 (rs.getD i.val 0)) = some true := by decide +kernel
theorem roots2 : ∀ i : Fin 8, ((incognitoref02_Nth.f 2000 (i.val : Int)).bind fun p => incognitoref02_Fits.f 2000 p 2 (start8.getD i.val 0)) = some true := by decide +kernel
theorem rs_bd : ∀ i : Fin 64, 0 ≤ rs.getD i.val 0 ∧ rs.getD i.val 0 < 4294967296 := by decide +kernel
end Go.Proofs.YtalghfnjelcpnaaDoor
namespace Go.Proofs.YtalghfnjelcpnaaDoor
open Go.RowKit Go.Proofs.YtalghfnjelcpnaaDoorW.PrintWords Go.Proofs.YtalghfnjelcpnaaDoor.Db

set_option maxHeartbeats 1000000 in
set_option maxRecDepth 100000 in
theorem refK_any (k : Nat) (hk : k < 64) (w : World) : Calls Tryd.prog 35 #[.int .i64 k] w fun e w' => e = .returned (.int .u32 (rs.getD k 0)) ∧ Below w.heap.size w w' := by
  have hb := rs_bd ⟨k, hk⟩
  dsimp only at hb
  obtain ⟨x, hx⟩ : ∃ x, rs.getD k 0 = x := ⟨_, rfl⟩
  have hw : IntKind.u32.wrap x = x := by
    rw [hx] at hb
    show x % 4294967296 = x
    omega
  rw [hx]
  have Hx := Aside0.mk hx
  have d1 : decide ((k : Int) < 0) = false := decide_eq_false (by omega)
  have d2 : decide (63 < (k : Int)) = false := decide_eq_false (by omega)
  have d3 : (k : Int) < 64 := by omega
  clear hx hb
  go_enter Tryd.func35, Tryd.ntmps35
  go_wp2_with (first
    | (go_at_call 57; refine (ks_any _).mono ?_; rintro e w1 ⟨rfl, hb1⟩)
    | (refine store_arr (xs := rs) rfl 80 3 10 rfl rfl w1.heap.size rfl rfl (Arr.new_at (k := .u64) (xs := List.replicate 64 0) rfl rfl) rfl (by kernel_rfl) ?_; intro w2 hg2 hs2 hA2; have c0 := hA2.cell (i := k) hk; rw [Hx.out] at c0))
  go_ret
  exact ⟨by first | rfl | rw [hw], (hb1.alloc hb1.size _).grown hg2 (by rw [World.size_alloc]; have := hb1.size; omega) (by intro j e; cases e; have := hb1.size; omega)⟩
theorem run_index_av {xs : List Int} (k : Nat) (hl : xs.length = 8) (hk : k < 8) (w : World) : (Instr.index 29 (AV .u32 xs) (.int .i64 k)).run Tryd.prog w = .ok (.int .u32 (xs.getD k 0)) w := by
  have hs : (sizeOf 28).run Tryd.prog w = .ok 1 w := by kernel_rfl
  have hp : (part 28 (xs.map (Value.int .u32)).toArray k).run Tryd.prog w = .ok (.int .u32 (xs.getD k 0)) w := by
    have hag : (isAgg 28).run Tryd.prog w = .ok false w := by kernel_rfl
    unfold part
    simp [Sem.run_bind, hag, List.getD_eq_getElem?_getD, List.getElem?_eq_getElem (show k < xs.length by omega)]
  unfold AV
  simp [Instr.index, asIntOf, run_underlying Tryd.underlying29, Sem.run_bind, hs, hk, hp]
set_option maxHeartbeats 2000000 in
set_option maxRecDepth 100000 in
theorem roots_any (i : Int) (w : World) (hR : Rounds w) : Calls Tryd.prog 9 #[.int .i64 i] w fun e w' => e = .returned (.bool true) ∧ Below w.heap.size w w' := by
  have HR := Aside0.mk hR
  have hB0 := Below.refl w.heap.size w
  have hpos := hR.pos
  clear hR
  by_cases c1 : i < 0
  · have hK : KI i = 0 := by unfold KI; rw [if_neg (by omega)]
    have d1 : decide (i < 0) = true := by simpa using c1
    clear c1
    go_enter Tryd.func9, Tryd.ntmps9
    go_wp2_with (first
      | (go_at_call 20; refine (wakes3_any _ HR.out).mono ?_; rintro e w1 ⟨rfl, hB⟩)
      | (go_at_call 33; refine (k_any i _ (HR.out.below hB hpos)).mono ?_; rintro e w2 ⟨rfl, rfl⟩; rw [hK]))
    go_ret
    exact ⟨rfl, hB⟩
  by_cases c2 : 63 < i
  · have hK : KI i = 0 := by unfold KI; rw [if_neg (by omega)]
    have d1 : decide (i < 0) = false := by simp; omega
    have d2 : decide (63 < i) = true := by simpa using c2
    clear c1 c2
    go_enter Tryd.func9, Tryd.ntmps9
    go_wp2_with (first
      | (go_at_call 20; refine (wakes3_any _ HR.out).mono ?_; rintro e w1 ⟨rfl, hB⟩)
      | (go_at_call 33; refine (k_any i _ (HR.out.below hB hpos)).mono ?_; rintro e w2 ⟨rfl, rfl⟩; rw [hK]))
    go_ret
    exact ⟨rfl, hB⟩
  · obtain ⟨k, rfl⟩ : ∃ k : Nat, i = k := ⟨i.toNat, by omega⟩
    have hk : k < 64 := by omega
    have hK : KI (k : Int) = rs.getD k 0 := by unfold KI; rw [if_pos (by omega), Int.toNat_natCast]
    have h3 := roots3 ⟨k, hk⟩
    obtain ⟨p, hp, h3⟩ := Option.bind_eq_some_iff.mp h3
    obtain ⟨x, hx⟩ : ∃ x, rs.getD k 0 = x := ⟨_, rfl⟩
    dsimp only at hp h3
    rw [hx] at hK h3
    have HP := Aside0.mk hp
    have F3 := Aside0.mk h3
    have Hx := Aside0.mk hx
    have d1 : decide ((k : Int) < 0) = false := decide_eq_false (by omega)
    have d2 : decide (63 < (k : Int)) = false := decide_eq_false (by omega)
    by_cases c7 : 7 < k
    · have d3 : decide (7 < (k : Int)) = true := by simp; omega
      clear c1 c2 h3 hp hx
      go_enter Tryd.func9, Tryd.ntmps9
      go_wp2_with (first
        | (go_at_call 20; refine (wakes3_any _ HR.out).mono ?_; rintro e w1 ⟨rfl, hB⟩)
        | (go_at_call 34; refine (incognitoref02_Nth.calls 2000 _ p _ HP.out).mono ?_; rintro e w2 ⟨rfl, ⟨nd, rfl⟩⟩; replace hB := pw_below_drewN hB nd)
        | (go_at_call 33; refine (k_any _ _ (HR.out.below hB hpos)).mono ?_; rintro e w3 ⟨rfl, rfl⟩; rw [hK])
        | (go_at_call 35; refine (refK_any k hk _).mono ?_; rintro e w4 ⟨rfl, hb4⟩; replace hB := hB.trans (hb4.mono hB.size); clear hb4; rw [Hx.out])
        | (go_at_call 36; refine (incognitoref02_Fits.calls 2000 _ _ _ true _ (by with_reducible exact F3.out)).mono ?_; rintro e w5 ⟨rfl, hb5⟩; replace hB := hB.trans (hb5.mono hB.size); clear hb5))
      go_ret
      exact ⟨rfl, hB⟩
    · have h2 := roots2 ⟨k, by omega⟩
      obtain ⟨p', hp', h2⟩ := Option.bind_eq_some_iff.mp h2
      dsimp only at hp' h2
      obtain rfl : p = p' := Option.some.inj (hp.symm.trans hp')
      obtain ⟨y, hy⟩ : ∃ y, start8.getD k 0 = y := ⟨_, rfl⟩
      rw [hy] at h2
      have F2 := Aside0.mk h2
      have d3 : decide (7 < (k : Int)) = false := by simp; omega
      have hidx : ∀ W : World, (Instr.index 29 (AV .u32 start8) (.int .i64 k)).run Tryd.prog W = .ok (.int .u32 y) W := fun W => by
        rw [← hy]; exact run_index_av (xs := start8) k rfl (by omega) W
      have C12 := Aside0.mk (And.intro c1 c2)
      clear h3 hp hx h2 hp' hy
      go_enter Tryd.func9, Tryd.ntmps9
      go_wp2_with (first
        | (go_at_call 20; refine (wakes3_any _ HR.out).mono ?_; rintro e w1 ⟨rfl, hB⟩)
        | (go_at_call 34; refine (incognitoref02_Nth.calls 2000 _ p _ HP.out).mono ?_; rintro e w2 ⟨rfl, ⟨nd, rfl⟩⟩; replace hB := pw_below_drewN hB nd)
        | (go_at_call 33; refine (k_any _ _ (HR.out.below hB hpos)).mono ?_; rintro e w3 ⟨rfl, rfl⟩; rw [hK])
        | (go_at_call 35; refine (refK_any k hk _).mono ?_; rintro e w4 ⟨rfl, hb4⟩; replace hB := hB.trans (hb4.mono hB.size); clear hb4; rw [Hx.out])
        | (go_at_call 36; refine (incognitoref02_Fits.calls 2000 _ _ _ true _ (by first | (with_reducible exact F3.out) | (with_reducible exact F2.out))).mono ?_; rintro e w5 ⟨rfl, hb5⟩; replace hB := hB.trans (hb5.mono hB.size); clear hb5)
        | (go_at_call 28; refine (start_any _).mono ?_; rintro e w6 ⟨rfl, hb6⟩; replace hB := hB.trans (hb6.mono hB.size); clear hb6))
      go_ret
      exact ⟨rfl, hB⟩
end Go.Proofs.YtalghfnjelcpnaaDoor
