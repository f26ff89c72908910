/- prime.Nth: what the call returns, for every number; of what was there nothing has turned. No conditions. -/
import Derived.Test.YtalghfnjelcpnaaPb1
import Derived.RangeFuncNested
import Derived.RangeFuncBound
import Derived.RangeFuncCalls
import Derived.RangeFuncLeaves
import Derived.RangeFuncFrom
import Derived.Shelf.Abstract
import Derived.WalkKit
import Derived.OwnWalkIn
import Derived.TacticsInMore
import Derived.LoopNIn
import Derived.LoopIn
import Derived.Handy
namespace Go.Proofs.Ytalghfnjelcpnaa
open Go.RowKit Go.Shelf Go.Proofs.YtalghfnjelcpnaaW.PrintWords Go.Proofs.Ytalghfnjelcpnaa.Pb
attribute [local go_sem] Oper.semAt_some

/-- A prime, below 600. -/
def isP (n : Nat) : Bool := (prime_Is.f 40 (n : Int)).getD false
theorem isP_all : ∀ k : Fin 600, prime_Is.f 40 (k.val : Int) = some (isP k.val) := by decide +kernel
theorem isP_at (k : Nat) (h : k < 600) : prime_Is.f 40 (k : Int) = some (isP k) := isP_all ⟨k, h⟩
/-- The primes below n, each with its number. -/
def prs : Nat → List (Int × Int)
  | 0 => []
  | n + 1 => if isP n = true then prs n ++ [(((prs n).length : Int), (n : Int))] else prs n
def nthI (i : Int) : Int := if 0 ≤ i ∧ i ≤ 99 then ((prs 600).getD i.toNat (0, 0)).2 else 0
theorem prs_yes (n : Nat) (h : isP n = true) : prs (n + 1) = prs n ++ [(((prs n).length : Int), (n : Int))] := by rw [prs, if_pos h]
theorem prs_no (n : Nat) (h : isP n = false) : prs (n + 1) = prs n := by rw [prs, if_neg (by rw [h]; decide)]
theorem prs_le (n : Nat) : (prs n).length ≤ n := by
  induction n with
  | zero => exact Nat.le_refl _
  | succ n ih =>
    cases h : isP n with
    | true => rw [prs_yes n h, List.length_append]; simp; omega
    | false => rw [prs_no n h]; omega
theorem prs_pre (n m : Nat) (h : n ≤ m) : prs n <+: prs m := by
  induction m with
  | zero => obtain rfl : n = 0 := by omega
            exact List.prefix_refl _
  | succ m ih =>
    by_cases e : n = m + 1
    · subst e; exact List.prefix_refl _
    · refine (ih (by omega)).trans ?_
      cases h : isP m with
      | true => rw [prs_yes m h]; exact List.prefix_append _ _
      | false => rw [prs_no m h]; exact List.prefix_refl _
theorem prs2 : prs 2 = [] := by decide +kernel
theorem grown_drewN (w : World) (m : Nat) : w.grownBy (w.drewN m) none := ⟨rfl, rfl, rfl, Nat.le_refl _, fun _ _ _ => rfl⟩
abbrev encP (p : Int × Int) : Array Value := #[.int .i64 p.1, .int .i64 p.2]

set_option maxHeartbeats 2000000 in
set_option maxRecDepth 100000 in
theorem all1_stops (n : Nat) (hn : 1 ≤ n) (n₀ : Nat) (w : World) :
    SeqStopsK Fence.wide n Try.prog 36 #[] encP (Below n₀) (fun xs => xs = prs 600) (fun pre => pre <+: prs 600) 600 w := fun l J Jx W hW hJ hJx hY h0 => by
  refine callsIn_of_wp Try.func36 rfl trivial ?_ rfl
  simp only [Try.ntmps36, List.size_toArray, List.length_cons, List.length_nil, Nat.reduceAdd, Nat.reduceSub, Array.replicate_succ, Array.replicate_zero, List.push_toArray, List.append_toArray, List.nil_append, List.cons_append]
  gi_wp2
  gi_loopw [2, 3] (fun i p wr => ∃ k : Nat, 2 ≤ k ∧ k ≤ 600 ∧ i = .int .i64 (prs k).length ∧ p = .int .i64 k ∧ J (prs k) wr) (fun _ p _ => 600 - (intOf p).toNat)
  case atStart => exact ⟨2, by omega, by omega, by rw [prs2]; rfl, rfl, by rw [prs2]; exact h0⟩
  case round =>
    obtain ⟨k, hk2, hk, rfl, rfl, hJs⟩ := hrel
    by_cases hlt : k < 600
    · have hle := prs_le k
      have hIs := fun ws => prime_Is.calls 40 (k : Int) (isP k) ws (isP_at k hlt)
      have HI := Aside0.mk hIs
      clear hIs
      cases hp : isP k with
      | false =>
        have Hp := Aside0.mk hp
        rw [hp] at HI
        clear hp
        gi_wp2_with (refine ⟨trivial, ?_⟩; gi_at_call 24; refine (callsIn_wide.2 (HI.out _)).mono ?_; rintro e w' ⟨rfl, ⟨m, rfl⟩⟩)
        go_roundw
        case rel => exact ⟨k + 1, by omega, by omega, by rw [prs_no k Hp.out], by go_num, by rw [prs_no k Hp.out]; exact hJ _ _ _ none hJs (grown_drewN _ _) (fun r h => by cases h)⟩
        case measure => simp [intOf]; omega
      | true =>
        have Hp := Aside0.mk hp
        rw [hp] at HI
        clear hp
        gi_wp2_with (first | (refine ⟨trivial, ?_⟩; gi_at_call 24; refine (callsIn_wide.2 (HI.out _)).mono ?_; rintro e w' ⟨rfl, ⟨m, rfl⟩⟩; obtain ⟨fn, tmps, assign, body, hy, hR⟩ := hY (prs k) (((prs k).length : Int), (k : Int)) _ (hJ _ _ _ none hJs (grown_drewN _ m) (fun r h => by cases h)) (by omega); dsimp only [encP] at hy))
        refine hR.mono ?_
        rintro e W3 (⟨rfl, hJ3, hk3⟩ | ⟨rfl, hJx3⟩)
        · gi_wp2
          go_roundw
          case rel => exact ⟨k + 1, by omega, by omega, by rw [prs_yes k Hp.out, List.length_append]; go_num, by go_num, by rw [prs_yes k Hp.out]; exact hJ3⟩
          case measure => simp [intOf]; omega
        · gi_wp2
          refine bodyPost_ret (results_none rfl _ _ _) rfl ?_
          exact ⟨⟨_, rfl⟩, .inr ⟨prs (k + 1), prs_pre _ _ (by omega), by rw [prs_yes k Hp.out]; exact hJx3⟩⟩
    · obtain rfl : k = 600 := by omega
      gi_wp2
      go_end0
      exact ⟨⟨_, rfl⟩, .inl ⟨prs 600, rfl, hJs⟩⟩

theorem cell_new_l (W : World) (v : Value) (t : TypeId) : (W.alloc (.cells #[v] t)).cell? ⟨W.heap.size, 0, none⟩ = some v ∧ (W.alloc (.cells #[v] t)).frozen? ⟨W.heap.size, 0, none⟩ = false := ⟨by simp, by simp⟩
theorem cell_alloc_l {W : World} {a : Addr} {v : Value} (o : Obj) (h : W.cell? a = some v) : (W.alloc o).cell? a = some v := Go.cell_kept h (World.grownBy_alloc W o none) (fun r e => by cases e)
/-- The first pair whose number is i. -/
def at_ (i : Int) (ps : List (Int × Int)) : Option (Int × Int) := ps.find? fun p => p.1 == i
theorem at_hit {i : Int} {pre : List (Int × Int)} {x : Int × Int} (h : at_ i pre = none) (hx : x.1 = i) : at_ i (pre ++ [x]) = some x := by
  unfold at_ at *; rw [List.find?_append, h]; simp [hx]
theorem at_miss {i : Int} {pre : List (Int × Int)} {x : Int × Int} (h : at_ i pre = none) (hx : x.1 ≠ i) : at_ i (pre ++ [x]) = none := by
  unfold at_ at *; rw [List.find?_append, h]; simp [hx]
theorem at_pre {i : Int} {pre qs : List (Int × Int)} {x : Int × Int} (h : pre <+: qs) (hx : at_ i pre = some x) : at_ i qs = some x := by
  obtain ⟨t, rfl⟩ := h
  unfold at_ at *; rw [List.find?_append, hx]; rfl
theorem at_all : ∀ k : Fin 100, (at_ (k.val : Int) (prs 600)).map (·.2) = some (nthI (k.val : Int)) := by decide +kernel
theorem at_neg (i : Int) (h : i < 0) : ∀ n, at_ i (prs n) = none := by
  intro n
  induction n with
  | zero => rfl
  | succ n ih =>
    cases hp : isP n with
    | false => rw [prs_no n hp]; exact ih
    | true => rw [prs_yes n hp]; exact at_miss ih (by simp; omega)
theorem nth_some (i : Int) (h : i ≤ 99) {p : Int × Int} (hp : at_ i (prs 600) = some p) : nthI i = p.2 := by
  by_cases h0 : 0 ≤ i
  · have := at_all ⟨i.toNat, by omega⟩
    simp only [Int.toNat_of_nonneg h0] at this
    rw [hp] at this
    simpa using this.symm
  · rw [at_neg i (by omega)] at hp; cases hp
theorem nth_none (i : Int) (h : i ≤ 99) (hp : at_ i (prs 600) = none) : nthI i = 0 := by
  by_cases h0 : 0 ≤ i
  · have := at_all ⟨i.toNat, by omega⟩
    simp only [Int.toNat_of_nonneg h0] at this
    rw [hp] at this
    cases this
  · exact if_neg (by omega)

theorem all_any (w : World) : Calls Try.prog 31 #[] w fun e w' => e = .returned (.func (.func 36) #[] #[]) ∧ w = w' := by
  go_enter Try.func31, Try.ntmps31
  go_wp2
  go_ret
  exact ⟨rfl, rfl⟩

set_option maxRecDepth 100000 in
set_option maxHeartbeats 2000000 in
theorem nth_in (i : Int) (hi : i ≤ 99) (w : World) : CallsIn Fence.wide 3 Try.prog 26 #[.int .i64 i] w fun e W' => e = .returned (.int .i64 (nthI i)) ∧ Below w.heap.size w W' := by
  have h1 : 1 ≤ 3 := by omega
  have g1 : decide (99 < i) = false := by simp; omega
  refine callsIn_of_wp_marks Try.func26 rfl trivial ?_ rfl
  simp only [Try.ntmps26, List.size_toArray, List.length_cons, List.length_nil, Nat.reduceAdd, Nat.reduceSub, Array.replicate_succ, Array.replicate_zero, List.push_toArray, List.append_toArray, List.nil_append, List.cons_append]
  gi_wp2_with (refine ⟨trivial, ?_⟩; gi_at_call 31; refine (callsIn_wide.2 (all_any _)).mono ?_; rintro e w' ⟨rfl, rfl⟩)
  have c0 := cell_new_l w (.int .i64 i) 3
  have c1 := cell_new_l (w.alloc (.cells #[.int .i64 i] 3)) (.int .i64 0) 3
  simp only [World.size_alloc] at c1
  have hB0 : Below w.heap.size w ((w.alloc (.cells #[.int .i64 i] 3)).alloc (.cells #[.int .i64 0] 3)) := ((Below.refl _ w).alloc (Nat.le_refl _) _).alloc (by simp) _
  refine wpIn_rangeFunc_ownF (F := Fence.wide) rfl h1 (gf := 36) (lb := #[]) rfl trivial (enters_of Try.func36 (by kernel_rfl) rfl)
    (all1_stops 2 (by omega) w.heap.size _) belowK_t (belowK_b (by simp; omega)) (Below.refl _ _) (fun _ => rfl)
    (fun pre W => (at_ i pre = none ∧ W.cell? ⟨w.heap.size, 0, none⟩ = some (.int .i64 i) ∧ W.cell? ⟨w.heap.size + 1, 0, none⟩ = some (.int .i64 0) ∧ W.frozen? ⟨w.heap.size + 1, 0, none⟩ = false) ∧ Below w.heap.size w W)
    (fun c pre W => (c = .ret ∧ ∃ p, at_ i pre = some p ∧ W.cell? ⟨w.heap.size + 1, 0, none⟩ = some (.int .i64 p.2)) ∧ Below w.heap.size w W)
    (OwnFrom.and (Own.from (fun s A B row hs hg hr => ⟨hs.1, Go.cell_kept hs.2.1 hg hr, Go.cell_kept hs.2.2.1 hg hr, (Go.frozen_kept hs.2.2.1 hg hr).trans hs.2.2.2⟩) _) (ownFrom_below (Nat.le_refl _) (by simp; omega)))
    (fun c => OwnFrom.and (Own.from (fun s A B row hs hg hr => ⟨hs.1, by obtain ⟨_, p, hp, hc⟩ := hs; exact ⟨p, hp, Go.cell_kept hc hg hr⟩⟩) _) (ownFrom_below (Nat.le_refl _) (by simp; omega)))
    ⟨⟨rfl, cell_alloc_l _ c0.1, c1.1, c1.2⟩, hB0⟩
    (fun x => { tmps := #[.int .i64 i, .pointer (some ⟨w.heap.size, 0, none⟩), .pointer (some ⟨w.heap.size + 1, 0, none⟩), .int .i64 x.1, .int .i64 x.2, .int .i64 i, .bool false, .func (.func 36) #[] #[], .int .i64 x.1, .int .i64 x.2, undef, undef, undef, undef], defers := [] }) ?assign ?body ?done ?stop
  case assign =>
    intro l x W K hK
    gi_wp2
    exact hK
  case body =>
    rintro l pre x W ⟨⟨hp, hcw, hcr, hfr⟩, hB⟩ _
    gi_wp2
    · rename_i hx
      have hx : x.1 = i := eq_of_beq hx
      exact ⟨KeepsOthers.setCell _ _ _, ⟨rfl, x, at_hit hp hx, World.cell?_setCell_same' _ _ _ (by rw [hcr]; rfl)⟩, hB.setCell (p := ⟨w.heap.size + 1, 0, none⟩) (by simp) _⟩
    · rename_i hx
      exact ⟨KeepsOthers.refl _, Below.refl _ _, ⟨at_miss hp (fun h => by simp [h] at hx), hcw, hcr, hfr⟩, hB⟩
  case done =>
    rintro D ys W hD rfl ⟨⟨hne, _, hcr, hfr⟩, hB⟩ hK
    gi_wp2
    have hK' := (KeepsOthers.setCell W ⟨w.heap.size + 1, 0, none⟩ (.int .i64 0)).same D _ hK rfl
    refine ⟨by simp, .inl ⟨_, _, rfl, run_takeDeferred hK', ?_⟩⟩
    have hc5 := Go.cell_kept (World.cell?_setCell_same' W ⟨w.heap.size + 1, 0, none⟩ (.int .i64 0) (by rw [hcr]; rfl)) (grownBy_putObj' _ D (.deferred none)) (fun r e => by cases e; exact ⟨_, hK', rfl⟩)
    refine ⟨.int .i64 0, ?_, by rw [nth_none i hi hne], (hB.setCell (p := ⟨w.heap.size + 1, 0, none⟩) (by simp) _).trans (belowK_b (w := w) (Nat.le_refl _) _ D _ _ (by simp at hD; omega) hK' rfl rfl)⟩
    simp [results, Try.f26, go_sem, hc5]
  case stop =>
    rintro D c pre W hD hpre ⟨⟨rfl, p, hin, hcr⟩, hB⟩ hK
    gi_wp2
    refine ⟨by simp, .inl ⟨_, _, rfl, run_takeDeferred hK, ?_⟩⟩
    have hc5 := Go.cell_kept hcr (grownBy_putObj' _ D (.deferred none)) (fun r e => by cases e; exact ⟨_, hK, rfl⟩)
    refine ⟨.int .i64 p.2, ?_, by rw [nth_some i hi (at_pre hpre hin)], hB.trans (belowK_b (w := w) (Nat.le_refl _) W D _ _ (by simp at hD; omega) hK rfl rfl)⟩
    simp [results, Try.f26, go_sem, hc5]

theorem nth_big (i : Int) (hi : 99 < i) (w : World) : Calls Try.prog 26 #[.int .i64 i] w fun e W' => e = .returned (.int .i64 (nthI i)) ∧ Below w.heap.size w W' := by
  have g1 : decide (99 < i) = true := by simpa using hi
  have hv := Aside0.mk (show nthI i = 0 from if_neg (by omega))
  go_enter Try.func26, Try.ntmps26
  go_wp2
  go_returns
  rw [hv.out]
  exact ⟨rfl, ((((Below.refl _ w).alloc (Nat.le_refl _) _).alloc (by simp) _))⟩

def prime_Nth.f (a0 : Int) : Option Int := some (nthI a0)
theorem prime_Nth.calls (a0 : Int) (r : Int) (w : World) (h : prime_Nth.f a0 = some r) :
    Calls Try.prog 26 #[.int .i64 a0] w fun e w' => e = .returned (.int .i64 r) ∧ Below w.heap.size w w' := by
  obtain rfl := Option.some.inj h
  by_cases hi : a0 ≤ 99
  · exact callsIn_wide.1 (nth_in a0 hi w)
  · exact nth_big a0 (by omega) w
end Go.Proofs.Ytalghfnjelcpnaa
