/- prime.Nth: what the call returns, for every number; of what was there nothing has turned. No conditions. Arrays of numbers in memory, and the first functions of sha: what the calls return, for every input; of what was there nothing has turned. Condition: the table 'rounds' holds what the program's text lays. Arrays of numbers in memory: one more law. No conditions. sha.Start: what the call returns; of what was there nothing has turned. No conditions. sha.turn: what the calls return, for every number; of what was there nothing has turned. No conditions. sha.spread: what the calls return, for every block; of what was there nothing has turned. No conditions. sha.Turn: what the calls return, for every eight words and block; of what was there nothing has turned. Condition: the table 'rounds' holds what the program's text lays. A digest in the making, in memory: laws. No conditions. Hash.Write: what the calls return and turn, for every digest in the making and all bytes. Condition: the table 'rounds' holds what the program's text lays. sha.New, and how a digest in the making is laid, read and copied in memory. No conditions. Plain laws of sha.Pad and hex.Big, and laws of memory for Hash.Sum. No conditions. Hash.Sum: what the call returns, for every digest in the making; of what was there nothing has turned. Condition: the table 'rounds' holds what the program's text lays. Hash.Len and sha.Sum: what the calls return, for parts of less than 2^60 bytes together; of what was there nothing has turned. Condition: the table 'rounds' holds what the program's text lays. The example of layer 3: what the call returns; of what was there nothing has turned. Condition: the table 'rounds' holds what the program's text lays. The example of layer 3, as the printed texts take it. Condition: the table 'rounds' holds what the program's text lays. -/
import Derived.Test.YtalghfnjelcpnaaDoorDb
import Derived.RangeFuncNested
import Derived.RangeFuncBound
import Derived.RangeFuncCalls
import Derived.RangeFuncLeaves
import Derived.RangeFuncFrom
import Derived.Shelf.Abstract
import Derived.WalkKit
import Derived.OwnWalkIn
import Derived.TacticsInMore
import Derived.LoopNIn
import Derived.LoopIn
import Derived.Handy
import Derived.Laws.CopyRow
import Derived.Laws.Rows
import Derived.WalkSpells
import Derived.WalkLawsBesides
import Derived.Deep.LoopGhost
import Derived.BigQuiet
import Derived.Deep.QuietTactic
import Derived.Deep.RegionLaw
import Derived.Laws.ShiftsVar
import Derived.StillTailTactics
import Derived.IntWalk
import Derived.Deep.MidRow
import Derived.Deep.RegionHeld3
import Derived.Laws.IdiomCopy
import Derived.DataReads
import Derived.Lib.SlBytesConst
namespace Go.Proofs.YtalghfnjelcpnaaDoor
open Go.RowKit Go.Shelf Go.Proofs.YtalghfnjelcpnaaDoorW.PrintWords Go.Proofs.YtalghfnjelcpnaaDoor.Db
attribute [local go_sem] Oper.semAt_some

/-- A prime, below 600. -/
def isP (n : Nat) : Bool := (prime_Is.f 40 (n : Int)).getD false
theorem isP_all : ∀ k : Fin 600, prime_Is.f 40 (k.val : Int) = some (isP k.val) := by decide +kernel
theorem isP_at (k : Nat) (h : k < 600) : prime_Is.f 40 (k : Int) = some (isP k) := isP_all ⟨k, h⟩
/-- The primes below n, each with its number. -/
def prs : Nat → List (Int × Int)
  | 0 => []
  | n + 1 => if isP n = true then prs n ++ [(((prs n).length : Int), (n : Int))] else prs n
def nthI (i : Int) : Int := if 0 ≤ i ∧ i ≤ 99 then ((prs 600).getD i.toNat (0, 0)).2 else 0
theorem prs_yes (n : Nat) (h : isP n = true) : prs (n + 1) = prs n ++ [(((prs n).length : Int), (n : Int))] := by rw [prs, if_pos h]
theorem prs_no (n : Nat) (h : isP n = false) : prs (n + 1) = prs n := by rw [prs, if_neg (by rw [h]; decide)]
theorem prs_le (n : Nat) : (prs n).length ≤ n := by
  induction n with
  | zero => exact Nat.le_refl _
  | succ n ih =>
    cases h : isP n with
    | true => rw [prs_yes n h, List.length_append]; simp; omega
    | false => rw [prs_no n h]; omega
theorem prs_pre (n m : Nat) (h : n ≤ m) : prs n <+: prs m := by
  induction m with
  | zero => obtain rfl : n = 0 := by omega
            exact List.prefix_refl _
  | succ m ih =>
    by_cases e : n = m + 1
    · subst e; exact List.prefix_refl _
    · refine (ih (by omega)).trans ?_
      cases h : isP m with
      | true => rw [prs_yes m h]; exact List.prefix_append _ _
      | false => rw [prs_no m h]; exact List.prefix_refl _
theorem prs2 : prs 2 = [] := by decide +kernel
theorem grown_drewN (w : World) (m : Nat) : w.grownBy (w.drewN m) none := ⟨rfl, rfl, rfl, Nat.le_refl _, fun _ _ _ => rfl⟩
abbrev encP (p : Int × Int) : Array Value := #[.int .i64 p.1, .int .i64 p.2]

set_option maxHeartbeats 2000000 in
set_option maxRecDepth 100000 in
theorem all1_stops (n : Nat) (hn : 1 ≤ n) (n₀ : Nat) (w : World) :
    SeqStopsK Fence.wide n Tryd.prog 82 #[] encP (Below n₀) (fun xs => xs = prs 600) (fun pre => pre <+: prs 600) 600 w := fun l J Jx W hW hJ hJx hY h0 => by
  refine callsIn_of_wp Tryd.func82 rfl trivial ?_ rfl
  simp only [Tryd.ntmps82, List.size_toArray, List.length_cons, List.length_nil, Nat.reduceAdd, Nat.reduceSub, Array.replicate_succ, Array.replicate_zero, List.push_toArray, List.append_toArray, List.nil_append, List.cons_append]
  gi_wp2
  gi_loopw [2, 3] (fun i p wr => ∃ k : Nat, 2 ≤ k ∧ k ≤ 600 ∧ i = .int .i64 (prs k).length ∧ p = .int .i64 k ∧ J (prs k) wr) (fun _ p _ => 600 - (intOf p).toNat)
  case atStart => exact ⟨2, by omega, by omega, by rw [prs2]; rfl, rfl, by rw [prs2]; exact h0⟩
  case round =>
    obtain ⟨k, hk2, hk, rfl, rfl, hJs⟩ := hrel
    by_cases hlt : k < 600
    · have hle := prs_le k
      have hIs := fun ws => prime_Is.calls 40 (k : Int) (isP k) ws (isP_at k hlt)
      have HI := Aside0.mk hIs
      clear hIs
      cases hp : isP k with
      | false =>
        have Hp := Aside0.mk hp
        rw [hp] at HI
        clear hp
        gi_wp2_with (refine ⟨trivial, ?_⟩; gi_at_call 83; refine (callsIn_wide.2 (HI.out _)).mono ?_; rintro e w' ⟨rfl, ⟨m, rfl⟩⟩)
        go_roundw
        case rel => exact ⟨k + 1, by omega, by omega, by rw [prs_no k Hp.out], by go_num, by rw [prs_no k Hp.out]; exact hJ _ _ _ none hJs (grown_drewN _ _) (fun r h => by cases h)⟩
        case measure => simp [intOf]; omega
      | true =>
        have Hp := Aside0.mk hp
        rw [hp] at HI
        clear hp
        gi_wp2_with (first | (refine ⟨trivial, ?_⟩; gi_at_call 83; refine (callsIn_wide.2 (HI.out _)).mono ?_; rintro e w' ⟨rfl, ⟨m, rfl⟩⟩; obtain ⟨fn, tmps, assign, body, hy, hR⟩ := hY (prs k) (((prs k).length : Int), (k : Int)) _ (hJ _ _ _ none hJs (grown_drewN _ m) (fun r h => by cases h)) (by omega); dsimp only [encP] at hy))
        refine hR.mono ?_
        rintro e W3 (⟨rfl, hJ3, hk3⟩ | ⟨rfl, hJx3⟩)
        · gi_wp2
          go_roundw
          case rel => exact ⟨k + 1, by omega, by omega, by rw [prs_yes k Hp.out, List.length_append]; go_num, by go_num, by rw [prs_yes k Hp.out]; exact hJ3⟩
          case measure => simp [intOf]; omega
        · gi_wp2
          refine bodyPost_ret (results_none rfl _ _ _) rfl ?_
          exact ⟨⟨_, rfl⟩, .inr ⟨prs (k + 1), prs_pre _ _ (by omega), by rw [prs_yes k Hp.out]; exact hJx3⟩⟩
    · obtain rfl : k = 600 := by omega
      gi_wp2
      go_end0
      exact ⟨⟨_, rfl⟩, .inl ⟨prs 600, rfl, hJs⟩⟩

theorem cell_new_l (W : World) (v : Value) (t : TypeId) : (W.alloc (.cells #[v] t)).cell? ⟨W.heap.size, 0, none⟩ = some v ∧ (W.alloc (.cells #[v] t)).frozen? ⟨W.heap.size, 0, none⟩ = false := ⟨by simp, by simp⟩
theorem cell_alloc_l {W : World} {a : Addr} {v : Value} (o : Obj) (h : W.cell? a = some v) : (W.alloc o).cell? a = some v := Go.cell_kept h (World.grownBy_alloc W o none) (fun r e => by cases e)
/-- The first pair whose number is i. -/
def at_ (i : Int) (ps : List (Int × Int)) : Option (Int × Int) := ps.find? fun p => p.1 == i
theorem at_hit {i : Int} {pre : List (Int × Int)} {x : Int × Int} (h : at_ i pre = none) (hx : x.1 = i) : at_ i (pre ++ [x]) = some x := by
  unfold at_ at *; rw [List.find?_append, h]; simp [hx]
theorem at_miss {i : Int} {pre : List (Int × Int)} {x : Int × Int} (h : at_ i pre = none) (hx : x.1 ≠ i) : at_ i (pre ++ [x]) = none := by
  unfold at_ at *; rw [List.find?_append, h]; simp [hx]
theorem at_pre {i : Int} {pre qs : List (Int × Int)} {x : Int × Int} (h : pre <+: qs) (hx : at_ i pre = some x) : at_ i qs = some x := by
  obtain ⟨t, rfl⟩ := h
  unfold at_ at *; rw [List.find?_append, hx]; rfl
theorem at_all : ∀ k : Fin 100, (at_ (k.val : Int) (prs 600)).map (·.2) = some (nthI (k.val : Int)) := by decide +kernel
theorem at_neg (i : Int) (h : i < 0) : ∀ n, at_ i (prs n) = none := by
  intro n
  induction n with
  | zero => rfl
  | succ n ih =>
    cases hp : isP n with
    | false => rw [prs_no n hp]; exact ih
    | true => rw [prs_yes n hp]; exact at_miss ih (by simp; omega)
theorem nth_some (i : Int) (h : i ≤ 99) {p : Int × Int} (hp : at_ i (prs 600) = some p) : nthI i = p.2 := by
  by_cases h0 : 0 ≤ i
  · have := at_all ⟨i.toNat, by omega⟩
    simp only [Int.toNat_of_nonneg h0] at this
    rw [hp] at this
    simpa using this.symm
  · rw [at_neg i (by omega)] at hp; cases hp
theorem nth_none (i : Int) (h : i ≤ 99) (hp : at_ i (prs 600) = none) : nthI i = 0 := by
  by_cases h0 : 0 ≤ i
  · have := at_all ⟨i.toNat, by omega⟩
    simp only [Int.toNat_of_nonneg h0] at this
    rw [hp] at this
    cases this
  · exact if_neg (by omega)

theorem all_any (w : World) : Calls Tryd.prog 77 #[] w fun e w' => e = .returned (.func (.func 82) #[] #[]) ∧ w = w' := by
  go_enter Tryd.func77, Tryd.ntmps77
  go_wp2
  go_ret
  exact ⟨rfl, rfl⟩

set_option maxRecDepth 100000 in
set_option maxHeartbeats 2000000 in
theorem nth_in (i : Int) (hi : i ≤ 99) (w : World) : CallsIn Fence.wide 3 Tryd.prog 63 #[.int .i64 i] w fun e W' => e = .returned (.int .i64 (nthI i)) ∧ Below w.heap.size w W' := by
  have h1 : 1 ≤ 3 := by omega
  have g1 : decide (99 < i) = false := by simp; omega
  refine callsIn_of_wp_marks Tryd.func63 rfl trivial ?_ rfl
  simp only [Tryd.ntmps63, List.size_toArray, List.length_cons, List.length_nil, Nat.reduceAdd, Nat.reduceSub, Array.replicate_succ, Array.replicate_zero, List.push_toArray, List.append_toArray, List.nil_append, List.cons_append]
  gi_wp2_with (refine ⟨trivial, ?_⟩; gi_at_call 77; refine (callsIn_wide.2 (all_any _)).mono ?_; rintro e w' ⟨rfl, rfl⟩)
  have c0 := cell_new_l w (.int .i64 i) 3
  have c1 := cell_new_l (w.alloc (.cells #[.int .i64 i] 3)) (.int .i64 0) 3
  simp only [World.size_alloc] at c1
  have hB0 : Below w.heap.size w ((w.alloc (.cells #[.int .i64 i] 3)).alloc (.cells #[.int .i64 0] 3)) := ((Below.refl _ w).alloc (Nat.le_refl _) _).alloc (by simp) _
  refine wpIn_rangeFunc_ownF (F := Fence.wide) rfl h1 (gf := 82) (lb := #[]) rfl trivial (enters_of Tryd.func82 (by kernel_rfl) rfl)
    (all1_stops 2 (by omega) w.heap.size _) belowK_t (belowK_b (by simp; omega)) (Below.refl _ _) (fun _ => rfl)
    (fun pre W => (at_ i pre = none ∧ W.cell? ⟨w.heap.size, 0, none⟩ = some (.int .i64 i) ∧ W.cell? ⟨w.heap.size + 1, 0, none⟩ = some (.int .i64 0) ∧ W.frozen? ⟨w.heap.size + 1, 0, none⟩ = false) ∧ Below w.heap.size w W)
    (fun c pre W => (c = .ret ∧ ∃ p, at_ i pre = some p ∧ W.cell? ⟨w.heap.size + 1, 0, none⟩ = some (.int .i64 p.2)) ∧ Below w.heap.size w W)
    (OwnFrom.and (Own.from (fun s A B row hs hg hr => ⟨hs.1, Go.cell_kept hs.2.1 hg hr, Go.cell_kept hs.2.2.1 hg hr, (Go.frozen_kept hs.2.2.1 hg hr).trans hs.2.2.2⟩) _) (ownFrom_below (Nat.le_refl _) (by simp; omega)))
    (fun c => OwnFrom.and (Own.from (fun s A B row hs hg hr => ⟨hs.1, by obtain ⟨_, p, hp, hc⟩ := hs; exact ⟨p, hp, Go.cell_kept hc hg hr⟩⟩) _) (ownFrom_below (Nat.le_refl _) (by simp; omega)))
    ⟨⟨rfl, cell_alloc_l _ c0.1, c1.1, c1.2⟩, hB0⟩
    (fun x => { tmps := #[.int .i64 i, .pointer (some ⟨w.heap.size, 0, none⟩), .pointer (some ⟨w.heap.size + 1, 0, none⟩), .int .i64 x.1, .int .i64 x.2, .int .i64 i, .bool false, .func (.func 82) #[] #[], .int .i64 x.1, .int .i64 x.2, undef, undef, undef, undef], defers := [] }) ?assign ?body ?done ?stop
  case assign =>
    intro l x W K hK
    gi_wp2
    exact hK
  case body =>
    rintro l pre x W ⟨⟨hp, hcw, hcr, hfr⟩, hB⟩ _
    gi_wp2
    · rename_i hx
      have hx : x.1 = i := eq_of_beq hx
      exact ⟨KeepsOthers.setCell _ _ _, ⟨rfl, x, at_hit hp hx, World.cell?_setCell_same' _ _ _ (by rw [hcr]; rfl)⟩, hB.setCell (p := ⟨w.heap.size + 1, 0, none⟩) (by simp) _⟩
    · rename_i hx
      exact ⟨KeepsOthers.refl _, Below.refl _ _, ⟨at_miss hp (fun h => by simp [h] at hx), hcw, hcr, hfr⟩, hB⟩
  case done =>
    rintro D ys W hD rfl ⟨⟨hne, _, hcr, hfr⟩, hB⟩ hK
    gi_wp2
    have hK' := (KeepsOthers.setCell W ⟨w.heap.size + 1, 0, none⟩ (.int .i64 0)).same D _ hK rfl
    refine ⟨by simp, .inl ⟨_, _, rfl, run_takeDeferred hK', ?_⟩⟩
    have hc5 := Go.cell_kept (World.cell?_setCell_same' W ⟨w.heap.size + 1, 0, none⟩ (.int .i64 0) (by rw [hcr]; rfl)) (grownBy_putObj' _ D (.deferred none)) (fun r e => by cases e; exact ⟨_, hK', rfl⟩)
    refine ⟨.int .i64 0, ?_, by rw [nth_none i hi hne], (hB.setCell (p := ⟨w.heap.size + 1, 0, none⟩) (by simp) _).trans (belowK_b (w := w) (Nat.le_refl _) _ D _ _ (by simp at hD; omega) hK' rfl rfl)⟩
    simp [results, Tryd.f63, go_sem, hc5]
  case stop =>
    rintro D c pre W hD hpre ⟨⟨rfl, p, hin, hcr⟩, hB⟩ hK
    gi_wp2
    refine ⟨by simp, .inl ⟨_, _, rfl, run_takeDeferred hK, ?_⟩⟩
    have hc5 := Go.cell_kept hcr (grownBy_putObj' _ D (.deferred none)) (fun r e => by cases e; exact ⟨_, hK, rfl⟩)
    refine ⟨.int .i64 p.2, ?_, by rw [nth_some i hi (at_pre hpre hin)], hB.trans (belowK_b (w := w) (Nat.le_refl _) W D _ _ (by simp at hD; omega) hK rfl rfl)⟩
    simp [results, Tryd.f63, go_sem, hc5]

theorem nth_big (i : Int) (hi : 99 < i) (w : World) : Calls Tryd.prog 63 #[.int .i64 i] w fun e W' => e = .returned (.int .i64 (nthI i)) ∧ Below w.heap.size w W' := by
  have g1 : decide (99 < i) = true := by simpa using hi
  have hv := Aside0.mk (show nthI i = 0 from if_neg (by omega))
  go_enter Tryd.func63, Tryd.ntmps63
  go_wp2
  go_returns
  rw [hv.out]
  exact ⟨rfl, ((((Below.refl _ w).alloc (Nat.le_refl _) _).alloc (by simp) _))⟩

def prime_Nth.f (a0 : Int) : Option Int := some (nthI a0)
theorem prime_Nth.calls (a0 : Int) (r : Int) (w : World) (h : prime_Nth.f a0 = some r) :
    Calls Tryd.prog 63 #[.int .i64 a0] w fun e w' => e = .returned (.int .i64 r) ∧ Below w.heap.size w w' := by
  obtain rfl := Option.some.inj h
  by_cases hi : a0 ≤ 99
  · exact callsIn_wide.1 (nth_in a0 hi w)
  · exact nth_big a0 (by omega) w
end Go.Proofs.YtalghfnjelcpnaaDoor
namespace Go.Proofs.YtalghfnjelcpnaaDoor
open Go.RowKit Go.Proofs.YtalghfnjelcpnaaDoorW.PrintWords Go.Proofs.YtalghfnjelcpnaaDoor.Db

/-- The rounds' numbers. -/
def rs : List Int := [1116352408, 1899447441, 3049323471, 3921009573, 961987163, 1508970993, 2453635748, 2870763221, 3624381080, 310598401, 607225278, 1426881987, 1925078388, 2162078206, 2614888103, 3248222580, 3835390401, 4022224774, 264347078, 604807628, 770255983, 1249150122, 1555081692, 1996064986, 2554220882, 2821834349, 2952996808, 3210313671, 3336571891, 3584528711, 113926993, 338241895, 666307205, 773529912, 1294757372, 1396182291, 1695183700, 1986661051, 2177026350, 2456956037, 2730485921, 2820302411, 3259730800, 3345764771, 3516065817, 3600352804, 4094571909, 275423344, 430227734, 506948616, 659060556, 883997877, 958139571, 1322822218, 1537002063, 1747873779, 1955562222, 2024104815, 2227730452, 2361852424, 2428436474, 2756734187, 3204031479, 3329325298]
/-- The table holds them. -/
def Rounds (w : World) : Prop := ∀ i, i < 64 → w.cell? ⟨0, i, none⟩ = some (.int .u32 (rs.getD i 0))
theorem Rounds.pos {w : World} (h : Rounds w) : 0 < w.heap.size := World.block_lt_of_cell? w _ (h 0 (by omega))
theorem Rounds.below {w w1 : World} {B : Nat} (h : Rounds w) (hb : Below B w w1) (hB : 0 < B) : Rounds w1 := fun i hi => (hb.cell (p := ⟨0, i, none⟩) hB).trans (h i hi)

/-- Block g holds these numbers. -/
def Arr (w : World) (g : Nat) (k : IntKind) (T : TypeId) (xs : List Int) : Prop := w.heap[g]? = some (.cells (xs.map (Value.int k)).toArray T (0, 0))

theorem ret_int {k : IntKind} {a b : Int} (h : a = b) : Ending.returned (.int k a) = .returned (.int k b) := by rw [h]
/-- The round's number i. -/
def KI (i : Int) : Int := if 0 ≤ i ∧ i ≤ 63 then rs.getD i.toNat 0 else 0
set_option maxHeartbeats 400000 in
theorem k_any (i : Int) (w : World) (hR : Rounds w) : Calls Tryd.prog 33 #[.int .i64 i] w fun e w' => e = .returned (.int .u32 (KI i)) ∧ w = w' := by
  by_cases c : 0 ≤ i ∧ i ≤ 63
  · have hc := hR i.toNat (by omega)
    have d1 : decide (i < 0) = false := by simp; omega
    have d2 : decide (63 < i) = false := by simp; omega
    have h0 : 0 ≤ i := c.1
    have h1 : i < 64 := by omega
    have C := Aside0.mk (show KI i = rs.getD i.toNat 0 from if_pos c)
    clear hR c
    go_enter Tryd.func33, Tryd.ntmps33
    go_wp2
    go_ret
    exact ⟨ret_int (by rw [C.out]; simp), rfl⟩
  · have C := Aside0.mk (show KI i = 0 from if_neg c)
    by_cases c0 : i < 0
    · have d1 : decide (i < 0) = true := by simpa using c0
      clear hR c
      go_enter Tryd.func33, Tryd.ntmps33
      go_wp2
      go_ret
      exact ⟨ret_int C.out.symm, rfl⟩
    · have d1 : decide (i < 0) = false := by simpa using c0
      have d2 : decide (63 < i) = true := by simp; omega
      clear hR c
      go_enter Tryd.func33, Tryd.ntmps33
      go_wp2
      go_ret
      exact ⟨ret_int C.out.symm, rfl⟩

/-! ### arrays -/
theorem Arr.cell {w : World} {g : Nat} {k : IntKind} {T : TypeId} {xs : List Int} (h : Arr w g k T xs) {i : Nat} (hi : i < xs.length) : w.cell? ⟨g, i, none⟩ = some (.int k (xs.getD i 0)) := by
  rw [cell_of_row w g i _ T (0, 0) h]
  simp [List.getElem?_eq_getElem hi, List.getD_eq_getElem?_getD]
theorem Arr.free {w : World} {g : Nat} {k : IntKind} {T : TypeId} {xs : List Int} (h : Arr w g k T xs) (i : Nat) : w.frozen? ⟨g, i, none⟩ = false := frozen_of_row w g i _ T h
theorem Arr.set {w : World} {g : Nat} {k : IntKind} {T : TypeId} {xs : List Int} (h : Arr w g k T xs) (i : Nat) (v : Int) : Arr (w.setCell ⟨g, i, none⟩ (.int k v)) g k T (xs.set i v) := by
  unfold Arr
  rw [heap_setCell_same w g i _ T _ h]
  simp [List.map_set]
theorem Arr.other {w : World} {g g2 : Nat} {k : IntKind} {T : TypeId} {xs : List Int} (h : Arr w g k T xs) (i : Nat) (v : Value) (hne : g ≠ g2) : Arr (w.setCell ⟨g2, i, none⟩ v) g k T xs :=
  (heap_setCell_other w ⟨g2, i, none⟩ g v hne).trans h
theorem Arr.lt {w : World} {g : Nat} {k : IntKind} {T : TypeId} {xs : List Int} (h : Arr w g k T xs) : g < w.heap.size := (Array.getElem?_eq_some_iff.1 h).1
theorem Arr.below {w w1 : World} {B g : Nat} {k : IntKind} {T : TypeId} {xs : List Int} (h : Arr w g k T xs) (hb : Below B w w1) (hB : g < B) : Arr w1 g k T xs := (hb.block g hB).trans h
theorem Arr.alloc {w : World} {g : Nat} {k : IntKind} {T : TypeId} {xs : List Int} (h : Arr w g k T xs) (o : Obj) : Arr (w.alloc o) g k T xs := (Below.heap_alloc w o g h.lt).trans h
theorem Arr.drewN {w : World} {g : Nat} {k : IntKind} {T : TypeId} {xs : List Int} (h : Arr w g k T xs) (n : Nat) : Arr (w.drewN n) g k T xs := h
/-- A number's array as a value. -/
def AV (k : IntKind) (xs : List Int) : Value := .agg (xs.map (Value.int k)).toArray
theorem Arr.new (w : World) (k : IntKind) (T : TypeId) (xs : List Int) : Arr (w.alloc (.cells (xs.map (Value.int k)).toArray T)) w.heap.size k T xs := by
  unfold Arr
  exact Go.heap_alloc_new w _
theorem Arr.grown {w w1 : World} {g : Nat} {row : Option Nat} {k : IntKind} {T : TypeId} {xs : List Int} (h : Arr w g k T xs) (hg : w.grownBy w1 row) (hne : some g ≠ row) : Arr w1 g k T xs := (hg.block g h.lt hne).trans h
theorem setRow_grown (w : World) (g : Nat) (cs : Array Value) : w.grownBy (w.setRow g cs) (some g) :=
  ⟨rfl, rfl, rfl, by rw [setRow_size]; exact Nat.le_refl _, fun i _ hne => setRow_other w g i cs (fun e => hne (by rw [e]))⟩
section
variable {P : Program} {ops : Array Oper} {rest : List Oper} {o : Oper} {a : Act} {Q : Exit → Act → World → Prop} {w : World} {k : IntKind} {T ty e : TypeId} {n : Nat} {xs ys : List Int}
theorem load_arr (hgd : o.guard = none) (ty : TypeId) (x : Tmp) (ho : o.op = .load ty (.tmp x)) (g : Nat) (hx : a.eval (.tmp x) = .pointer (some ⟨g, 0, none⟩)) (h : Arr w g k T xs) (hu : P.underlying ty = some (.array n e)) (hi : (P.info? ty).map (·.size) = some xs.length)
    (K : wpList P ops Q rest (a.put o.dst (AV k xs)) w) : wpList P ops Q (o :: rest) a w :=
  wpList_load_row hgd ty (.tmp x) ho g hx T _ (0, 0) _ h hu rfl (by rw [hi]; simp) K
theorem store_arr (hgd : o.guard = none) (ty : TypeId) (x v : Tmp) (ho : o.op = .store ty (.tmp x) (.tmp v)) (hN : o.dst = none) (g : Nat) (hx : a.eval (.tmp x) = .pointer (some ⟨g, 0, none⟩)) (hv : a.eval (.tmp v) = AV k xs) (h : Arr w g k T ys) (hl : ys.length = xs.length)
    (hi : (P.info? ty).map (·.size) = some xs.length) (K : ∀ w', w.grownBy w' (some g) → w'.heap.size = w.heap.size → Arr w' g k T xs → wpList P ops Q rest a w') : wpList P ops Q (o :: rest) a w := by
  refine wpList_plain hgd fun K' hK => ?_
  refine wp_store_row ty (.tmp x) (.tmp v) ho g _ hx hv T _ h (by rw [hi]; simp) (by simp [hl]) ?_ ?_
  · rw [Array.all_eq_true_iff_forall_mem]
    intro u hu
    simp only [List.mem_toArray, List.mem_map] at hu
    obtain ⟨z, _, rfl⟩ := hu
    rfl
  · rw [hN]
    exact hK _ _ (K _ (setRow_grown w g _) (setRow_size w g _) (setRow_heap w g _ _ T (0, 0) h))
theorem box_arr (hgd : o.guard = none) (ty : TypeId) (x : Tmp) (ho : o.op = .box ty (.tmp x)) (hv : a.eval (.tmp x) = AV k xs)
    (K : ∀ w', w.grownBy w' none → w'.heap.size = w.heap.size + 1 → Arr w' w.heap.size k ty xs → wpList P ops Q rest (a.put o.dst (.pointer (some ⟨w.heap.size, 0, none⟩))) w') : wpList P ops Q (o :: rest) a w := by
  refine wpList_plain hgd fun K' hK => ?_
  unfold Oper.wp execOp
  simp only [ho, hv, AV, Instr.box, newVar, Value.cells]
  exact hK _ _ (K _ (World.grownBy_alloc w _ none) (World.size_alloc _ _) (Arr.new w k ty xs))
end
end Go.Proofs.YtalghfnjelcpnaaDoor
namespace Go.Proofs.YtalghfnjelcpnaaDoor
open Go.RowKit Go.Proofs.YtalghfnjelcpnaaDoorW.PrintWords Go.Proofs.YtalghfnjelcpnaaDoor.Db
theorem alloc_arr {P : Program} {ops : Array Oper} {rest : List Oper} {o : Oper} {a : Act} {Q : Exit → Act → World → Prop} {w : World} {k : IntKind} {xs : List Int} (hgd : o.guard = none) (ty : TypeId) (ho : o.op = .alloc ty) (hz : (P.info? ty).bind (·.zero) = some (AV k xs))
    (K : ∀ w', w.grownBy w' none → w'.heap.size = w.heap.size + 1 → Arr w' w.heap.size k ty xs → wpList P ops Q rest (a.put o.dst (.pointer (some ⟨w.heap.size, 0, none⟩))) w') : wpList P ops Q (o :: rest) a w := by
  obtain ⟨ie, hie, hz⟩ := Option.bind_eq_some_iff.mp hz
  refine wpList_plain hgd fun K' hK => ?_
  have h : (execOp a.eval o).run P w = .ok (.value (.pointer (some ⟨w.heap.size, 0, none⟩))) (w.alloc (.cells (xs.map (Value.int k)).toArray ty)) := by
    unfold execOp
    simp [ho, Instr.alloc, zeroValue, typeInfo, hie, hz, newVar, Value.cells, AV, newRow]
  unfold Oper.wp
  rw [h]
  exact hK _ _ (K _ (World.grownBy_alloc w _ none) (World.size_alloc _ _) (Arr.new w k ty xs))
theorem Arr.new_at {w : World} {o : Obj} {g : Nat} {k : IntKind} {T : TypeId} {xs : List Int} (h : w.heap.size = g) (ho : o = .cells (xs.map (Value.int k)).toArray T) : Arr (w.alloc o) g k T xs := by
  subst h ho
  exact Arr.new w k T xs
theorem ret_arr {P : Program} {fn : Func} {R : Ending → World → Prop} {a : Act} {w : World} {k : IntKind} {xs : List Int} {T e : TypeId} {n : Nat} {g : Nat} (p : Tmp) (ty : TypeId) (h : fn.results = #[.cell p ty]) (hp : a.tmps.getD p undef = .pointer (some ⟨g, 0, none⟩)) (hA : Arr w g k T xs) (hu : P.underlying ty = some (.array n e))
    (hi : (P.info? ty).map (·.size) = some xs.length) (hd : a.defers = []) (hR : R (.returned (AV k xs)) w) : bodyPost P fn R .ret a w :=
  bodyPost_ret (v := AV k xs) (results_cell_row h a.tmps w g T _ (0, 0) _ hp hA hu rfl (by rw [hi]; simp)) hd hR
end Go.Proofs.YtalghfnjelcpnaaDoor
namespace Go.Proofs.YtalghfnjelcpnaaDoor
open Go.RowKit Go.Proofs.YtalghfnjelcpnaaDoorW.PrintWords Go.Proofs.YtalghfnjelcpnaaDoor.Db

def start8 : List Int := [1779033703, 3144134277, 1013904242, 2773480762, 1359893119, 2600822924, 528734635, 1541459225]
theorem root_all : ∀ i : Fin 8, prime_Root.f 50 (nthI (i.val : Int)) 2 = some (start8.getD i.val 0, 0) := by decide +kernel
theorem start_set : ∀ k : Fin 8, (start8.take k.val ++ List.replicate (8 - k.val) 0).set k.val (start8.getD k.val 0) = start8.take (k.val + 1) ++ List.replicate (8 - (k.val + 1)) 0 := by decide
set_option maxHeartbeats 1000000 in
set_option maxRecDepth 100000 in
theorem start_any (w : World) : Calls Tryd.prog 28 #[] w fun e w' => e = .returned (AV .u32 start8) ∧ Below w.heap.size w w' := by
  go_enter Tryd.func28, Tryd.ntmps28
  go_wp2
  go_loopw [3] (fun i wr => ∃ k : Nat, k ≤ 8 ∧ i = .int .i64 k ∧ Arr wr (w.heap.size + 1) .u32 29 (start8.take k ++ List.replicate (8 - k) 0) ∧ Arr wr w.heap.size .u32 29 (List.replicate 8 0) ∧ Below w.heap.size w wr)
    (fun i _ => 8 - (intOf i).toNat)
  case atStart =>
    refine ⟨0, by omega, rfl, ?_, ?_, ((Below.refl _ w).alloc (Nat.le_refl _) _).alloc (by simp) _⟩
    · have := Arr.new (w.alloc (.cells #[.int .u32 0, .int .u32 0, .int .u32 0, .int .u32 0, .int .u32 0, .int .u32 0, .int .u32 0, .int .u32 0] 29)) .u32 29 (List.replicate 8 0)
      rw [World.size_alloc] at this
      exact this
    · exact (Arr.new w .u32 29 (List.replicate 8 0)).alloc _
  case round =>
    obtain ⟨k, hk, rfl, hA, hZ, hB⟩ := hrel
    have hsz := hZ.lt
    by_cases hlt : k < 8
    · have hr := Aside0.mk (root_all ⟨k, hlt⟩)
      have hn := Aside0.mk (fun ws => prime_Nth.calls (k : Int) (nthI k) ws rfl)
      obtain ⟨xs, hxs⟩ : ∃ xs, start8.take k ++ List.replicate (8 - k) 0 = xs := ⟨_, rfl⟩
      have hxl : xs.length = 8 := by rw [← hxs]; simp [start8]; omega
      rw [hxs] at hA
      have Hxs := Aside0.mk hxs
      have Hxl := Aside0.mk hxl
      have hkx : k < xs.length := by omega
      clear hxs hxl
      go_wp2_with (first | (go_at_call 63; refine (hn.out _).mono ?_; rintro e w1 ⟨rfl, hb1⟩; have HA := Arr.below hA hb1 hA.lt; have HZ := Arr.below hZ hb1 hZ.lt; have HB := Aside0.mk (hB.trans (hb1.mono hB.size)); have hc := HA.cell hkx; have hf := HA.free k) | (go_at_call 62; refine (prime_Root.calls 50 (nthI k) 2 _ _ _ hr.out).mono ?_; rintro e w2 ⟨rfl, ⟨m, rfl⟩⟩))
      go_roundw
      case rel =>
        have h1 := (HA.drewN m).set k (start8.getD k 0)
        have h2 := (HZ.drewN m).other (g2 := w.heap.size + 1) k (.int .u32 (start8.getD k 0)) (by omega)
        have h3 : Below w.heap.size w ((w1.drewN m).setCell ⟨w.heap.size + 1, k, none⟩ (.int .u32 (start8.getD k 0))) := (pw_below_drewN HB.out m).setCell (p := ⟨w.heap.size + 1, k, none⟩) (by simp) _
        rw [← Hxs.out, start_set ⟨k, hlt⟩] at h1
        rw [List.getD_eq_getElem?_getD] at h1 h2 h3
        exact ⟨k + 1, by omega, by go_num, h1, h2, h3⟩
      case measure => simp [intOf]; omega
    · obtain rfl : k = 8 := by omega
      have hA2 : Arr wr (w.heap.size + 1) .u32 29 start8 := hA
      clear hA
      go_wp2_with (first | (refine load_arr rfl 29 1 rfl (w.heap.size + 1) rfl hA2 Tryd.underlying29 (by kernel_rfl) ?_) | (refine store_arr rfl 29 0 15 rfl rfl w.heap.size rfl rfl hZ rfl (by kernel_rfl) ?_; intro w5 hg5 hs5 hA5))
      refine bodyPost_ret (v := AV .u32 start8) (results_cell_row rfl _ _ w.heap.size 29 _ (0, 0) _ rfl hA5 Tryd.underlying29 rfl (by kernel_rfl)) rfl ⟨rfl, hB.grown hg5 (by omega) (fun k e => by cases e; exact Nat.le_refl _)⟩
end Go.Proofs.YtalghfnjelcpnaaDoor
namespace Go.Proofs.YtalghfnjelcpnaaDoor
open Go.RowKit Go.Proofs.YtalghfnjelcpnaaDoorW.PrintWords Go.Proofs.YtalghfnjelcpnaaDoorW.PrintLast Go.Proofs.YtalghfnjelcpnaaDoorW.PrintMore Go.Proofs.YtalghfnjelcpnaaDoor.Db

/-- A word turned right. -/
def tn (x : Int) (n : Nat) : Int := Go.bits .or .u32 (IntKind.u32.wrap (x * 2 ^ (32 - n))) (x / 2 ^ n)
theorem rot_a : ∀ n : Fin 32, 0 < n.val → Go.bits .and .u64 (IntKind.u64.wrap (wrap64 (-(n.val : Int)))) 31 = 32 - (n.val : Int) := by decide +kernel
theorem turn_f (x : Int) (n : Nat) (h0 : 0 < n) (h1 : n < 32) : sha_turn.f x n = some (tn x n) := by
  have e := rot_a ⟨n, h1⟩ h0
  simp only at e
  unfold sha_turn.f bits_RotateLeft32.f
  rw [e]
  have e2 : IntKind.u64.wrap (32 - (32 - (n : Int))) = n := by
    have : (32 : Int) - (32 - (n : Int)) = n := by omega
    rw [this]
    show (n : Int) % _ = _
    exact Int.emod_eq_of_lt (by omega) (by have : (n : Int) < 32 := by omega
                                           exact Int.lt_trans this (by decide))
  rw [e2, if_pos (by omega), if_pos (by omega)]
  have e3 : (32 : Int) - (n : Int) = ((32 - n : Nat) : Int) := by omega
  rw [e3]
  have s1 : shl .u32 x ((32 - n : Nat) : Int) = IntKind.u32.wrap (x * 2 ^ (32 - n)) := by
    have := shl_small (k := .u32) (x := x) (y := ((32 - n : Nat) : Int)) rfl
    exact (this (by show ((32 - n : Nat) : Int) ≤ 32; omega)).symm
  have s2 : shr .u32 x (n : Int) = x / 2 ^ n := by
    have := shr_small (k := .u32) (x := x) (y := (n : Int)) rfl
    exact (this (by show (n : Int) ≤ 32; omega)).symm
  rw [s1, s2]
  rfl
set_option maxHeartbeats 8000000 in
set_option maxRecDepth 100000 in
theorem bits_RotateLeft32.same (a0 : Int) (a1 : Int) (r : Int) (w : World) (h : bits_RotateLeft32.f a0 a1 = some r) :
    Calls Tryd.prog 75 #[.int .u32 a0, .int .i64 a1] w fun e w' => e = .returned (.int .u32 r) ∧ w = w' := by
  have H : (if 0 ≤ (Go.bits .and .u64 (IntKind.u64.wrap (a1)) 31) then (if 0 ≤ (IntKind.u64.wrap (32 - (Go.bits .and .u64 (IntKind.u64.wrap (a1)) 31))) then (some (Go.bits .or .u32 (shl .u32 a0 (Go.bits .and .u64 (IntKind.u64.wrap (a1)) 31)) (shr .u32 a0 (IntKind.u64.wrap (32 - (Go.bits .and .u64 (IntKind.u64.wrap (a1)) 31)))))) else (none)) else (none)) = some r := h
  clear h
  obtain ⟨ji3, hji3⟩ : ∃ j_ : Int, (Go.bits .and .u64 (IntKind.u64.wrap (a1)) 31) = j_ := ⟨_, rfl⟩
  replace H : (if 0 ≤ (ji3) then (if 0 ≤ (IntKind.u64.wrap (32 - (ji3))) then (some (Go.bits .or .u32 (shl .u32 a0 (ji3)) (shr .u32 a0 (IntKind.u64.wrap (32 - (ji3)))))) else (none)) else (none)) = some r := by first | (rw [hji3] at H; exact H) | (simp only [hji3] at H ⊢; exact H)
  by_cases c4 : 0 ≤ (ji3)
  · rw [if_pos c4] at H
    have c4b0 := eq_true c4
    have c4b1 : decide (0 ≤ (ji3)) = true := decide_eq_true c4
    clear c4
    obtain ⟨ji5, hji5⟩ : ∃ j_ : Int, (shl .u32 a0 (ji3)) = j_ := ⟨_, rfl⟩
    replace H : (if 0 ≤ (IntKind.u64.wrap (32 - (ji3))) then (some (Go.bits .or .u32 (ji5) (shr .u32 a0 (IntKind.u64.wrap (32 - (ji3)))))) else (none)) = some r := by first | (rw [hji5] at H; exact H) | (simp only [hji5] at H ⊢; exact H)
    have hji5_ : (IntKind.u32.wrap (a0 * 2 ^ min (ji3).toNat 32)) = ji5 := hji5
    have hji5z : (ji3) ≤ 32 → (IntKind.u32.wrap (a0 * 2 ^ (ji3).toNat)) = ji5 := shl_small hji5
    obtain ⟨ji6, hji6⟩ : ∃ j_ : Int, (IntKind.u64.wrap (32 - (ji3))) = j_ := ⟨_, rfl⟩
    replace H : (if 0 ≤ (ji6) then (some (Go.bits .or .u32 (ji5) (shr .u32 a0 (ji6)))) else (none)) = some r := by first | (rw [hji6] at H; exact H) | (simp only [hji6] at H ⊢; exact H)
    by_cases c7 : 0 ≤ (ji6)
    · rw [if_pos c7] at H
      have c7b0 := eq_true c7
      have c7b1 : decide (0 ≤ (ji6)) = true := decide_eq_true c7
      clear c7
      obtain ⟨ji8, hji8⟩ : ∃ j_ : Int, (shr .u32 a0 (ji6)) = j_ := ⟨_, rfl⟩
      replace H : (some (Go.bits .or .u32 (ji5) (ji8))) = some r := by first | (rw [hji8] at H; exact H) | (simp only [hji8] at H ⊢; exact H)
      have hji8_ : (a0 / 2 ^ min (ji6).toNat 32) = ji8 := hji8
      have hji8z : (ji6) ≤ 32 → (a0 / 2 ^ (ji6).toNat) = ji8 := shr_small hji8
      obtain rfl := Option.some.inj H
      go_enter Tryd.func75, Tryd.ntmps75
      go_wp2
      go_ret
      exact ⟨by first | rfl | (simp; done) | (simp only [← hji3, ← hji5, ← hji6, ← hji8] <;> (first | rfl | simp)) | (simp [*]; done), rfl⟩
    · rw [if_neg c7] at H
      exact absurd H (by simp)
  · rw [if_neg c4] at H
    exact absurd H (by simp)

set_option maxHeartbeats 8000000 in
set_option maxRecDepth 100000 in
theorem sha_turn.same (a0 : Int) (a1 : Int) (r : Int) (w : World) (h : sha_turn.f a0 a1 = some r) :
    Calls Tryd.prog 60 #[.int .u32 a0, .int .i64 a1] w fun e w' => e = .returned (.int .u32 r) ∧ w = w' := by
  have H : ((bits_RotateLeft32.f a0 (wrap64 (-a1))).bind fun t110 => (some t110)) = some r := h
  clear h
  replace H := Option.bind_eq_some_iff.mp H
  obtain ⟨t110, A30, H⟩ := H
  replace H : (some t110) = some r := H
  have A3 := Aside0.mk A30
  clear A30
  obtain rfl := Option.some.inj H
  go_enter Tryd.func60, Tryd.ntmps60
  go_wp2_with (first | ((with_reducible refine gate_callee (f := 75) rfl ?_); refine goesL_ (some 8) rfl rfl Tryd.func75 (by kernel_rfl) rfl #[.int .u32 a0, .int .i64 (wrap64 (-a1))] rfl (by (try simp only [List.map_toArray, List.map_cons, List.map_nil]); first | done | rfl | (simp only [List.length_drop, List.length_take]; rfl)) ?_; (with_reducible refine (bits_RotateLeft32.same a0 (wrap64 (-a1)) t110 _ A3.out).mono ?_); rintro e w' ⟨rfl, rfl⟩; refine ⟨_, rfl, ?_⟩))
  go_ret
  exact ⟨by first | rfl | (simp; done) | (simp [*]; done), rfl⟩
theorem turn_any (x : Int) (n : Nat) (h0 : 0 < n) (h1 : n < 32) (w : World) : Calls Tryd.prog 60 #[.int .u32 x, .int .i64 n] w fun e w' => e = .returned (.int .u32 (tn x n)) ∧ w' = w :=
  (sha_turn.same x n _ w (turn_f x n h0 h1)).mono fun _ _ h => ⟨h.1, h.2.symm⟩
end Go.Proofs.YtalghfnjelcpnaaDoor
namespace Go.Proofs.YtalghfnjelcpnaaDoor
open Go.RowKit Go.Proofs.YtalghfnjelcpnaaDoorW.PrintWords Go.Proofs.YtalghfnjelcpnaaDoor.Db

/-- Word k of the block. -/
def wd (bs : List Int) (k : Nat) : Int := Go.bits .or .u32 (Go.bits .or .u32 (Go.bits .or .u32 (bs[4 * k]?.getD 0 % 4294967296 * 16777216 % 4294967296) (bs[4 * k + 1]?.getD 0 % 4294967296 * 65536 % 4294967296)) (bs[4 * k + 2]?.getD 0 % 4294967296 * 256 % 4294967296)) (bs[4 * k + 3]?.getD 0 % 4294967296)
/-- A later word. -/
def nx (xs : List Int) (k : Nat) : Int :=
  (xs[k - 16]?.getD 0 + xs[k - 7]?.getD 0 + Go.bits .xor .u32 (Go.bits .xor .u32 (tn (xs[k - 15]?.getD 0) 7) (tn (xs[k - 15]?.getD 0) 18)) (xs[k - 15]?.getD 0 / 8)
    + Go.bits .xor .u32 (Go.bits .xor .u32 (tn (xs[k - 2]?.getD 0) 17) (tn (xs[k - 2]?.getD 0) 19)) (xs[k - 2]?.getD 0 / 1024)) % 4294967296
/-- The words so far. -/
def sp (bs : List Int) : Nat → List Int
  | 0 => List.replicate 64 0
  | k + 1 => (sp bs k).set k (if k < 16 then wd bs k else nx (sp bs k) k)
theorem sp_len (bs : List Int) (k : Nat) : (sp bs k).length = 64 := by
  induction k with
  | zero => rfl
  | succ k ih => simp [sp, ih]
theorem slice_blk (g k : Nat) (hk : k < 16) (W : World) : (Instr.sliceAt 30 (.pointer (some ⟨g, 0, none⟩)) (some (.int .i64 (4 * (k : Int)))) (some (.int .i64 (4 * (k : Int) + 4))) none).run Tryd.prog W = .ok (.slice (some ⟨g, 4 * k, none⟩) 4 (64 - 4 * k)) W := by
  have hal : Tryd.prog.arrayLen 30 = 64 := by kernel_rfl
  rw [run_sliceAt_array_lh W 30 ⟨g, 0, none⟩ (by kernel_rfl) .i64 .i64 (4 * (k : Int)) (4 * (k : Int) + 4) (by omega) (by omega) (by rw [hal]; omega)]
  have e1 : (4 * (k : Int)).toNat = 4 * k := by omega
  have e2 : (4 * (k : Int) + 4).toNat = 4 * k + 4 := by omega
  rw [e1, e2, hal]
  have hs : (sizeOf (Tryd.prog.elem 30)).run Tryd.prog W = .ok 1 W := by kernel_rfl
  rw [hs]
  unfold Result.andThen slicedAt
  simp only [Addr.add, Nat.mul_one, Nat.zero_add]
  have e3 : 4 * k + 4 - 4 * k = 4 := by omega
  rw [if_neg (by omega), e3]
  by_cases c : 4 * k = 0
  · simp only [c, if_true]
  · simp only [c, if_false]
set_option maxHeartbeats 4000000 in
set_option maxRecDepth 100000 in
theorem spread_any (bs : List Int) (hbl : bs.length = 64) (w : World) : Calls Tryd.prog 59 #[AV .u8 bs] w fun e w' => e = .returned (AV .u32 (sp bs 64)) ∧ Below w.heap.size w w' := by
  obtain ⟨ys, hys⟩ : ∃ ys, sp bs 64 = ys := ⟨_, rfl⟩
  have hyl : ys.length = 64 := by rw [← hys]; exact sp_len bs 64
  rw [hys]
  have Hys := Aside0.mk hys
  have Hyl := Aside0.mk hyl
  clear hys hyl
  go_enter Tryd.func59, Tryd.ntmps59
  go_wp2_with (first | (refine box_arr rfl 30 0 rfl rfl ?_; intro w1 hg1 hs1 hB1))
  go_loopw [9] (fun i wr => ∃ k : Nat, k ≤ 16 ∧ i = .int .i64 k ∧ Arr wr (w.heap.size + 1 + 1) .u32 84 (sp bs k) ∧ Arr wr (w.heap.size + 1) .u32 84 (List.replicate 64 0) ∧ Arr wr w.heap.size .u8 30 bs ∧ Below w.heap.size w wr)
    (fun i _ => 16 - (intOf i).toNat)
  case atStart =>
    refine ⟨0, by omega, rfl, Arr.new_at (by rw [World.size_alloc, hs1]) rfl, (Arr.new_at (T := 84) (k := .u32) (xs := List.replicate 64 0) hs1 rfl).alloc _, (hB1.alloc _).alloc _, ?_⟩
    have hb1 : Below w.heap.size w w1 := (Below.refl _ w).grown hg1 (Nat.le_refl _) (by intro k e; cases e)
    refine (hb1.alloc ?_ _).alloc ?_ _
    · omega
    · rw [World.size_alloc]; omega
  case round =>
    obtain ⟨k, hk, rfl, hA, hZ, hX, hB⟩ := hrel
    have hsz := hZ.lt
    by_cases hlt : k < 16
    · have d1 : IntKind.i64.wrap (4 * (k : Int)) = 4 * k := Go.IntWalk.i64_in _ (by omega)
      have d2 : IntKind.i64.wrap (4 * (k : Int) + 4) = 4 * k + 4 := Go.IntWalk.i64_in _ (by omega)
      have sl := slice_blk w.heap.size k hlt
      have c0 := hX.cell (i := 4 * k) (by omega)
      have c1 := hX.cell (i := 4 * k + 1) (by omega)
      have c2 := hX.cell (i := 4 * k + 2) (by omega)
      have c3 := hX.cell (i := 4 * k + 3) (by omega)
      clear hbl
      have e0 := hA.free k
      have h64 : (k : Int) < 64 := by omega
      have f0 := hA.cell (i := k) (by rw [sp_len]; omega)
      go_wp2
      go_still_tail 24, (by kernel_rfl)
      change wpList _ _ _ _ _ wr.drew
      have hA2 : Arr wr.drew (w.heap.size + 1 + 1) .u32 84 (sp bs k) := hA
      have hZ2 : Arr wr.drew (w.heap.size + 1) .u32 84 (List.replicate 64 0) := hZ
      have hX2 : Arr wr.drew w.heap.size .u8 30 bs := hX
      have hB2 : Below w.heap.size w wr.drew := pw_below_drewN hB 1
      clear hA hZ hX hB e0 f0 c0 c1 c2 c3
      generalize wr.drew = w2 at *
      have e0 := hA2.free k
      have f0 := hA2.cell (i := k) (by rw [sp_len]; omega)
      go_wp2
      go_roundw
      case rel =>
        have h1 := hA2.set k (wd bs k)
        have h2 : sp bs (k + 1) = (sp bs k).set k (wd bs k) := by
          show (sp bs k).set k (if k < 16 then wd bs k else _) = _
          rw [if_pos hlt]
        rw [← h2] at h1
        exact ⟨k + 1, by omega, by go_num, h1, hZ2.other k _ (by omega), hX2.other k _ (by omega), hB2.setCell (by show _ ≤ w.heap.size + 1 + 1; omega) _⟩
      case measure => simp [intOf]; omega
    · have hk16 := Aside0.mk (show k = 16 by omega)
      have dk : decide ((k : Int) < 16) = false := by simp; omega
      clear hk hlt
      go_wp2
      clear dk
      go_loopw [6] (fun i wr => ∃ k : Nat, 16 ≤ k ∧ k ≤ 64 ∧ i = .int .i64 k ∧ Arr wr (w.heap.size + 1 + 1) .u32 84 (sp bs k) ∧ Arr wr (w.heap.size + 1) .u32 84 (List.replicate 64 0) ∧ Below w.heap.size w wr)
        (fun i _ => 64 - (intOf i).toNat)
      case atStart =>
        exact ⟨16, by omega, by omega, rfl, hk16.out ▸ hA, hZ, hB⟩
      case round =>
        clear hA hZ hX hB hsz hk16
        obtain ⟨k, hk0, hk, rfl, hA, hZ, hB⟩ := hrel
        have hsz := hZ.lt
        by_cases hlt : k < 64
        · have d0 : IntKind.i64.wrap ((k : Int) - 16) = k - 16 := IntWalk.i64_in _ (by omega)
          have d1 : IntKind.i64.wrap ((k : Int) - 15) = k - 15 := IntWalk.i64_in _ (by omega)
          have d2 : IntKind.i64.wrap ((k : Int) - 7) = k - 7 := IntWalk.i64_in _ (by omega)
          have d3 : IntKind.i64.wrap ((k : Int) - 2) = k - 2 := IntWalk.i64_in _ (by omega)
          have n0 : ((k : Int) - 16).toNat = k - 16 := by omega
          have n1 : ((k : Int) - 15).toNat = k - 15 := by omega
          have n2 : ((k : Int) - 7).toNat = k - 7 := by omega
          have n3 : ((k : Int) - 2).toNat = k - 2 := by omega
          have c0 := hA.cell (i := k - 16) (by rw [sp_len]; omega)
          have c1 := hA.cell (i := k - 15) (by rw [sp_len]; omega)
          have c2 := hA.cell (i := k - 7) (by rw [sp_len]; omega)
          have c3 := hA.cell (i := k - 2) (by rw [sp_len]; omega)
          go_wp2
          go_quiet (fail)
          obtain ⟨w3, hw3⟩ : ∃ w3, wr.drewN nq = w3 := ⟨_, rfl⟩
          have hA2 : Arr w3 (w.heap.size + 1 + 1) .u32 84 (sp bs k) := by rw [← hw3]; exact hA
          have hZ2 : Arr w3 (w.heap.size + 1) .u32 84 (List.replicate 64 0) := by rw [← hw3]; exact hZ
          have hB2 : Below w.heap.size w w3 := by rw [← hw3]; exact pw_below_drewN hB nq
          rw [hw3]
          clear c0 c1 c2 c3 hA hZ hB hw3
          have c0 := hA2.cell (i := k - 16) (by rw [sp_len]; omega)
          have c2 := hA2.cell (i := k - 7) (by rw [sp_len]; omega)
          have b0 : 16 ≤ (k : Int) := by omega
          have b1 : 7 ≤ (k : Int) := by omega
          have b2 : (k : Int) - 16 < 64 := by omega
          have b3 : (k : Int) - 7 < 64 := by omega
          go_wp2
          go_still_tail 29, (by kernel_rfl)
          still_call (turn_any _ 7 (by omega) (by omega) _)
          repeat still_step
          still_call (turn_any _ 18 (by omega) (by omega) _)
          repeat still_step
          still_call (turn_any _ 17 (by omega) (by omega) _)
          repeat still_step
          still_call (turn_any _ 19 (by omega) (by omega) _)
          repeat still_step
          refine wpStill_nil ?_
          change wpList _ _ _ _ _ w3.drew
          have hA3 : Arr w3.drew (w.heap.size + 1 + 1) .u32 84 (sp bs k) := hA2
          have hZ3 : Arr w3.drew (w.heap.size + 1) .u32 84 (List.replicate 64 0) := hZ2
          have hB3 : Below w.heap.size w w3.drew := pw_below_drewN hB2 1
          clear hA2 hZ2 hB2 c0 c2
          generalize w3.drew = w4 at *
          have e0 := hA3.free k
          have f0 := hA3.cell (i := k) (by rw [sp_len]; omega)
          go_wp2
          go_roundw
          case rel =>
            have h1 := hA3.set k (nx (sp bs k) k)
            have h2 : sp bs (k + 1) = (sp bs k).set k (nx (sp bs k) k) := by
              show (sp bs k).set k (if k < 16 then _ else nx (sp bs k) k) = _
              rw [if_neg (by omega)]
            rw [← h2] at h1
            exact ⟨k + 1, by omega, by omega, by go_num, h1, hZ3.other k _ (by omega), hB3.setCell (by show _ ≤ w.heap.size + 1 + 1; omega) _⟩
          case measure => simp [intOf]; omega
        · obtain rfl : k = 64 := by omega
          have hA7 := Hys.out ▸ hA
          clear hA
          go_wp2_with (first | (refine load_arr rfl 84 3 rfl (w.heap.size + 1 + 1) rfl hA7 Tryd.underlying84 (by rw [Hyl.out]; kernel_rfl) ?_) | (refine store_arr rfl 84 2 84 rfl rfl (w.heap.size + 1) rfl rfl hZ (by rw [Hyl.out]; rfl) (by rw [Hyl.out]; kernel_rfl) ?_; intro w5 hg5 hs5 hA5))
          exact ret_arr 2 84 (by kernel_rfl) rfl hA5 Tryd.underlying84 (by rw [Hyl.out]; kernel_rfl) rfl ⟨rfl, hB.grown hg5 (by omega) (fun k e => by cases e; omega)⟩
end Go.Proofs.YtalghfnjelcpnaaDoor
namespace Go.Proofs.YtalghfnjelcpnaaDoor
open Go.RowKit Go.Proofs.YtalghfnjelcpnaaDoorW.PrintWords Go.Proofs.YtalghfnjelcpnaaDoor.Db

theorem turn2 (x : Int) (w : World) : Calls Tryd.prog 60 #[.int .u32 x, .int .i64 2] w fun e w' => e = .returned (.int .u32 (tn x 2)) ∧ w' = w := turn_any x 2 (by omega) (by omega) w
theorem turn6 (x : Int) (w : World) : Calls Tryd.prog 60 #[.int .u32 x, .int .i64 6] w fun e w' => e = .returned (.int .u32 (tn x 6)) ∧ w' = w := turn_any x 6 (by omega) (by omega) w
theorem turn11 (x : Int) (w : World) : Calls Tryd.prog 60 #[.int .u32 x, .int .i64 11] w fun e w' => e = .returned (.int .u32 (tn x 11)) ∧ w' = w := turn_any x 11 (by omega) (by omega) w
theorem turn13 (x : Int) (w : World) : Calls Tryd.prog 60 #[.int .u32 x, .int .i64 13] w fun e w' => e = .returned (.int .u32 (tn x 13)) ∧ w' = w := turn_any x 13 (by omega) (by omega) w
theorem turn22 (x : Int) (w : World) : Calls Tryd.prog 60 #[.int .u32 x, .int .i64 22] w fun e w' => e = .returned (.int .u32 (tn x 22)) ∧ w' = w := turn_any x 22 (by omega) (by omega) w
theorem turn25 (x : Int) (w : World) : Calls Tryd.prog 60 #[.int .u32 x, .int .i64 25] w fun e w' => e = .returned (.int .u32 (tn x 25)) ∧ w' = w := turn_any x 25 (by omega) (by omega) w
/-- A round's first sum. -/
def xx (w r s4 s5 s6 s7 : Int) : Int := IntKind.u32.wrap (IntKind.u32.wrap (IntKind.u32.wrap (IntKind.u32.wrap (s7 + Go.bits .xor .u32 (Go.bits .xor .u32 (tn s4 6) (tn s4 11)) (tn s4 25)) + Go.bits .xor .u32 (Go.bits .and .u32 s4 s5) (Go.bits .and .u32 (Go.bits .xor .u32 (if IntKind.u32.signed = true then -1 else IntKind.u32.max) s4) s6)) + r) + w)
/-- A round's second sum. -/
def yy (s0 s1 s2 : Int) : Int := IntKind.u32.wrap (Go.bits .xor .u32 (Go.bits .xor .u32 (tn s0 2) (tn s0 13)) (tn s0 22) + Go.bits .xor .u32 (Go.bits .xor .u32 (Go.bits .and .u32 s0 s1) (Go.bits .and .u32 s0 s2)) (Go.bits .and .u32 s1 s2))
/-- One round: the words behind it. -/
def rd (w r : Int) (s : List Int) : List Int :=
  let x := xx w r (s.getD 4 0) (s.getD 5 0) (s.getD 6 0) (s.getD 7 0)
  [(x + yy (s.getD 0 0) (s.getD 1 0) (s.getD 2 0)) % 4294967296, s.getD 0 0, s.getD 1 0, s.getD 2 0, (s.getD 3 0 + x) % 4294967296, s.getD 4 0, s.getD 5 0, s.getD 6 0]
/-- The words behind k rounds. -/
def rn (ws st : List Int) : Nat → List Int
  | 0 => st
  | k + 1 => rd (ws.getD k 0) (rs.getD k 0) (rn ws st k)
theorem rn_len (ws st : List Int) (h : st.length = 8) (k : Nat) : (rn ws st k).length = 8 := by
  cases k with
  | zero => exact h
  | succ k => rfl
/-- The sums so far. -/
def sm (st s : List Int) : Nat → List Int
  | 0 => s
  | k + 1 => (sm st s k).set k (((sm st s k).getD k 0 + st.getD k 0) % 4294967296)
theorem sm_len (st s : List Int) (h : s.length = 8) (k : Nat) : (sm st s k).length = 8 := by
  induction k with
  | zero => exact h
  | succ k ih => simp [sm, ih]
/-- The words behind a block. -/
def tr (st bs : List Int) : List Int := sm st (rn (sp bs 64) st 64) 8
set_option maxHeartbeats 4000000 in
set_option maxRecDepth 100000 in
theorem Turn_any (st bs : List Int) (hsl : st.length = 8) (hbl : bs.length = 64) (w : World) (hR : Rounds w) : Calls Tryd.prog 24 #[AV .u32 st, AV .u8 bs] w fun e w' => e = .returned (AV .u32 (tr st bs)) ∧ Below w.heap.size w w' := by
  obtain ⟨ys, hys⟩ : ∃ ys, tr st bs = ys := ⟨_, rfl⟩
  obtain ⟨ws, hws⟩ : ∃ ws, sp bs 64 = ws := ⟨_, rfl⟩
  have hwl : ws.length = 64 := by rw [← hws]; exact sp_len bs 64
  have C := Aside0.mk (fun w => hws ▸ spread_any bs hbl w)
  rw [hys]
  have Hys := Aside0.mk hys
  have Hws := Aside0.mk hws
  have Hwl := Aside0.mk hwl
  have Hsl := Aside0.mk hsl
  have HR := Aside0.mk hR
  have Hbl := Aside0.mk hbl
  clear hys hws hwl hsl hR hbl
  go_enter Tryd.func24, Tryd.ntmps24
  go_wp2_with (first
    | (refine box_arr rfl 29 0 rfl rfl ?_; intro w1 hg1 hs1 hS1; have hb1 : Below w.heap.size w w1 := (Below.refl _ w).grown hg1 (Nat.le_refl _) (by intro k e; cases e))
    | (refine box_arr rfl 30 1 rfl rfl ?_; intro w2 hg2 hs2 hB2; rw [hs1] at hB2 hs2; have hb2 := hb1.grown hg2 (by omega) (by intro k e; cases e); have hS2 := hS1.grown hg2 (by simp); clear hS1 hg2 hg1 hb1)
    | (refine load_arr rfl 30 3 rfl _ rfl (hB2.alloc _) Tryd.underlying30 (by rw [Hbl.out]; kernel_rfl) ?_)
    | (go_at_call 59; refine (C.out _).mono ?_; rintro e w4 ⟨rfl, hb4⟩
       have hl4 := hb4.size
       rw [World.size_alloc, hs2] at hl4
       have hS4 := Arr.below (hS2.alloc _) hb4 (by rw [World.size_alloc, hs2]; omega)
       have hO4 := Arr.below (Arr.new_at (k := .u32) (T := 29) (xs := List.replicate 8 0) hs2 rfl) hb4 (by rw [World.size_alloc, hs2]; omega)
       have hbw4 := Aside0.mk ((hb2.alloc (by omega) _).trans (hb4.mono (by rw [World.size_alloc, hs2]; omega)))
       clear hb4)
    | (refine store_arr (xs := ws) rfl 84 5 14 rfl rfl w4.heap.size rfl rfl (Arr.new_at (xs := List.replicate 64 0) rfl rfl) (by rw [Hwl.out]; rfl) (by rw [Hwl.out]; kernel_rfl) ?_; intro w5 hg5 hs5 hW5
       rw [World.size_alloc] at hs5
       have hS5 := (hS4.alloc _).grown hg5 (by simp; omega)
       have hO5 := (hO4.alloc _).grown hg5 (by simp; omega)
       have hbw5 := Aside0.mk ((hbw4.out.alloc (by omega) _).grown hg5 (by rw [World.size_alloc]; omega) (by intro k e; cases e; omega))
       clear hg5)
    | (refine load_arr rfl 29 2 rfl _ rfl hS5 Tryd.underlying29 (by rw [Hsl.out]; kernel_rfl) ?_)
    | (refine store_arr (xs := st) rfl 29 6 15 rfl rfl _ rfl rfl (Arr.new_at (xs := List.replicate 8 0) hs5 rfl) (by rw [Hsl.out]; rfl) (by rw [Hsl.out]; kernel_rfl) ?_; intro w6 hg6 hs6 hT6
       have hS6 := (hS5.alloc _).grown hg6 (by simp; omega)
       have hO6 := (hO5.alloc _).grown hg6 (by simp; omega)
       have hW6 := (hW5.alloc _).grown hg6 (by simp)
       have hbw6 := Aside0.mk ((hbw5.out.alloc (by omega) _).grown hg6 (by rw [World.size_alloc]; omega) (by intro k e; cases e; omega))
       clear hg6))
  clear hS2 hB2 hb2 hs1 hs2 hS4 hO4 hbw4 hW5 hS5 hO5 hbw5
  go_loopw [16] (fun i wr => ∃ k : Nat, k ≤ 64 ∧ i = .int .i64 k ∧ Arr wr (w4.heap.size + 1) .u32 29 (rn ws st k) ∧ Arr wr w4.heap.size .u32 84 ws ∧ Arr wr w.heap.size .u32 29 st ∧ Arr wr (w.heap.size + 1 + 1) .u32 29 (List.replicate 8 0) ∧ Below w.heap.size w wr)
    (fun i _ => 64 - (intOf i).toNat)
  case atStart => exact ⟨0, by omega, rfl, hT6, hW6, hS6, hO6, hbw6.out⟩
  case round =>
    clear hS6 hO6 hW6 hT6 hbw6 hs5 hs6
    obtain ⟨k, hk, rfl, hT, hW, hS, hO, hB⟩ := hrel
    by_cases hlt : k < 64
    · obtain ⟨xs, hxs⟩ : ∃ xs, rn ws st k = xs := ⟨_, rfl⟩
      have hxl : xs.length = 8 := by rw [← hxs]; exact rn_len ws st Hsl.out k
      rw [hxs] at hT
      have Hxs := Aside0.mk hxs
      clear hxs
      obtain ⟨s0, s1, s2, s3, s4, s5, s6, s7, rfl⟩ : ∃ s0 s1 s2 s3 s4 s5 s6 s7, xs = [s0, s1, s2, s3, s4, s5, s6, s7] := by
        match xs, hxl with
        | [s0, s1, s2, s3, s4, s5, s6, s7], _ => exact ⟨s0, s1, s2, s3, s4, s5, s6, s7, rfl⟩
      clear hxl
      obtain ⟨wk, hwk0⟩ : ∃ wk, ws.getD k 0 = wk := ⟨_, rfl⟩
      have hwk := Aside0.mk hwk0
      obtain ⟨rk, hrk0⟩ : ∃ rk, rs.getD k 0 = rk := ⟨_, rfl⟩
      have hrk := Aside0.mk hrk0
      clear hwk0 hrk0
      have h64 : (k : Int) < 64 := by omega
      have c0 : wr.cell? ⟨w4.heap.size + 1, 0, none⟩ = some (.int .u32 s0) := hT.cell (i := 0) (by simp)
      have c1 : wr.cell? ⟨w4.heap.size + 1, 1, none⟩ = some (.int .u32 s1) := hT.cell (i := 1) (by simp)
      have c2 : wr.cell? ⟨w4.heap.size + 1, 2, none⟩ = some (.int .u32 s2) := hT.cell (i := 2) (by simp)
      have c3 : wr.cell? ⟨w4.heap.size + 1, 3, none⟩ = some (.int .u32 s3) := hT.cell (i := 3) (by simp)
      have c4 : wr.cell? ⟨w4.heap.size + 1, 4, none⟩ = some (.int .u32 s4) := hT.cell (i := 4) (by simp)
      have c5 : wr.cell? ⟨w4.heap.size + 1, 5, none⟩ = some (.int .u32 s5) := hT.cell (i := 5) (by simp)
      have c6 : wr.cell? ⟨w4.heap.size + 1, 6, none⟩ = some (.int .u32 s6) := hT.cell (i := 6) (by simp)
      have c7 : wr.cell? ⟨w4.heap.size + 1, 7, none⟩ = some (.int .u32 s7) := hT.cell (i := 7) (by simp)
      have cW : wr.cell? ⟨w4.heap.size, k, none⟩ = some (.int .u32 wk) := by rw [← hwk.out]; exact hW.cell (i := k) (by rw [Hwl.out]; omega)
      have cR : wr.cell? ⟨0, k, none⟩ = some (.int .u32 rk) := by rw [← hrk.out]; exact HR.out.below hB HR.out.pos k hlt
      go_wp2
      go_quiet (fail)
      obtain ⟨w7, hw7⟩ : ∃ w7, wr.drewN nq = w7 := ⟨_, rfl⟩
      have hTq : Arr w7 (w4.heap.size + 1) .u32 29 [s0, s1, s2, s3, s4, s5, s6, s7] := by rw [← hw7]; exact hT
      have hWq : Arr w7 w4.heap.size .u32 84 ws := by rw [← hw7]; exact hW
      have hSq : Arr w7 w.heap.size .u32 29 st := by rw [← hw7]; exact hS
      have hOq : Arr w7 (w.heap.size + 1 + 1) .u32 29 (List.replicate 8 0) := by rw [← hw7]; exact hO
      have hBq : Below w.heap.size w w7 := by rw [← hw7]; exact pw_below_drewN hB nq
      rw [hw7]
      clear hT hW hS hO hB hw7 c0 c1 c2 c3 c4 c5 c6 c7 cW cR
      have c0 : w7.cell? ⟨w4.heap.size + 1, 0, none⟩ = some (.int .u32 s0) := hTq.cell (i := 0) (by simp)
      have c1 : w7.cell? ⟨w4.heap.size + 1, 1, none⟩ = some (.int .u32 s1) := hTq.cell (i := 1) (by simp)
      have c2 : w7.cell? ⟨w4.heap.size + 1, 2, none⟩ = some (.int .u32 s2) := hTq.cell (i := 2) (by simp)
      have c3 : w7.cell? ⟨w4.heap.size + 1, 3, none⟩ = some (.int .u32 s3) := hTq.cell (i := 3) (by simp)
      have c4 : w7.cell? ⟨w4.heap.size + 1, 4, none⟩ = some (.int .u32 s4) := hTq.cell (i := 4) (by simp)
      have c5 : w7.cell? ⟨w4.heap.size + 1, 5, none⟩ = some (.int .u32 s5) := hTq.cell (i := 5) (by simp)
      have c6 : w7.cell? ⟨w4.heap.size + 1, 6, none⟩ = some (.int .u32 s6) := hTq.cell (i := 6) (by simp)
      have c7 : w7.cell? ⟨w4.heap.size + 1, 7, none⟩ = some (.int .u32 s7) := hTq.cell (i := 7) (by simp)
      have cW : w7.cell? ⟨w4.heap.size, k, none⟩ = some (.int .u32 wk) := by rw [← hwk.out]; exact hWq.cell (i := k) (by rw [Hwl.out]; omega)
      have cR : w7.cell? ⟨0, k, none⟩ = some (.int .u32 rk) := by rw [← hrk.out]; exact HR.out.below hBq HR.out.pos k hlt
      go_wp2
      refine wp_region_still_lit (by kernel_rfl) (by kernel_rfl) ?_
      repeat still_step
      still_call (turn6 _ _)
      repeat still_step
      still_call (turn11 _ _)
      repeat still_step
      still_call (turn25 _ _)
      repeat still_step
      refine wpStill_nil ?_
      change Exit.then _ _ _ _ w7.drew
      rw [show IntKind.u32.wrap (IntKind.u32.wrap (IntKind.u32.wrap (IntKind.u32.wrap (s7 + Go.bits .xor .u32 (Go.bits .xor .u32 (tn s4 6) (tn s4 11)) (tn s4 25)) + Go.bits .xor .u32 (Go.bits .and .u32 s4 s5) (Go.bits .and .u32 (Go.bits .xor .u32 (if IntKind.u32.signed = true then -1 else IntKind.u32.max) s4) s6)) + rk) + wk) = xx wk rk s4 s5 s6 s7 from rfl]
      obtain ⟨x, hx0⟩ : ∃ x, xx wk rk s4 s5 s6 s7 = x := ⟨_, rfl⟩
      rw [hx0]
      have hx := Aside0.mk hx0
      clear hx0
      obtain ⟨w8, hw8⟩ : ∃ w8, w7.drew = w8 := ⟨_, rfl⟩
      have hTqq : Arr w8 (w4.heap.size + 1) .u32 29 [s0, s1, s2, s3, s4, s5, s6, s7] := by rw [← hw8]; exact hTq
      have hWqq : Arr w8 w4.heap.size .u32 84 ws := by rw [← hw8]; exact hWq
      have hSqq : Arr w8 w.heap.size .u32 29 st := by rw [← hw8]; exact hSq
      have hOqq : Arr w8 (w.heap.size + 1 + 1) .u32 29 (List.replicate 8 0) := by rw [← hw8]; exact hOq
      have hBqq : Below w.heap.size w w8 := by rw [← hw8]; exact pw_below_drewN hBq 1
      rw [hw8]
      clear hTq hWq hSq hOq hBq hw8 c0 c1 c2 c3 c4 c5 c6 c7 cW cR
      have c0 : w8.cell? ⟨w4.heap.size + 1, 0, none⟩ = some (.int .u32 s0) := hTqq.cell (i := 0) (by simp)
      have c1 : w8.cell? ⟨w4.heap.size + 1, 1, none⟩ = some (.int .u32 s1) := hTqq.cell (i := 1) (by simp)
      have c2 : w8.cell? ⟨w4.heap.size + 1, 2, none⟩ = some (.int .u32 s2) := hTqq.cell (i := 2) (by simp)
      have c3 : w8.cell? ⟨w4.heap.size + 1, 3, none⟩ = some (.int .u32 s3) := hTqq.cell (i := 3) (by simp)
      have c4 : w8.cell? ⟨w4.heap.size + 1, 4, none⟩ = some (.int .u32 s4) := hTqq.cell (i := 4) (by simp)
      have c5 : w8.cell? ⟨w4.heap.size + 1, 5, none⟩ = some (.int .u32 s5) := hTqq.cell (i := 5) (by simp)
      have c6 : w8.cell? ⟨w4.heap.size + 1, 6, none⟩ = some (.int .u32 s6) := hTqq.cell (i := 6) (by simp)
      have c7 : w8.cell? ⟨w4.heap.size + 1, 7, none⟩ = some (.int .u32 s7) := hTqq.cell (i := 7) (by simp)
      go_wp2
      refine wp_region_still_lit (by kernel_rfl) (by kernel_rfl) ?_
      repeat still_step
      still_call (turn2 _ _)
      repeat still_step
      still_call (turn13 _ _)
      repeat still_step
      still_call (turn22 _ _)
      repeat still_step
      refine wpStill_nil ?_
      change Exit.then _ _ _ _ w8.drew
      rw [show IntKind.u32.wrap (Go.bits .xor .u32 (Go.bits .xor .u32 (tn s0 2) (tn s0 13)) (tn s0 22) + Go.bits .xor .u32 (Go.bits .xor .u32 (Go.bits .and .u32 s0 s1) (Go.bits .and .u32 s0 s2)) (Go.bits .and .u32 s1 s2)) = yy s0 s1 s2 from rfl]
      obtain ⟨y, hy0⟩ : ∃ y, yy s0 s1 s2 = y := ⟨_, rfl⟩
      rw [hy0]
      have hy := Aside0.mk hy0
      clear hy0
      obtain ⟨w9, hw9⟩ : ∃ w9, w8.drew = w9 := ⟨_, rfl⟩
      have hTqqq : Arr w9 (w4.heap.size + 1) .u32 29 [s0, s1, s2, s3, s4, s5, s6, s7] := by rw [← hw9]; exact hTqq
      have hWqqq : Arr w9 w4.heap.size .u32 84 ws := by rw [← hw9]; exact hWqq
      have hSqqq : Arr w9 w.heap.size .u32 29 st := by rw [← hw9]; exact hSqq
      have hOqqq : Arr w9 (w.heap.size + 1 + 1) .u32 29 (List.replicate 8 0) := by rw [← hw9]; exact hOqq
      have hBqqq : Below w.heap.size w w9 := by rw [← hw9]; exact pw_below_drewN hBqq 1
      rw [hw9]
      clear hTqq hWqq hSqq hOqq hBqq hw9 c0 c1 c2 c3 c4 c5 c6 c7 
      have c0 : w9.cell? ⟨w4.heap.size + 1, 0, none⟩ = some (.int .u32 s0) := hTqqq.cell (i := 0) (by simp)
      have c1 : w9.cell? ⟨w4.heap.size + 1, 1, none⟩ = some (.int .u32 s1) := hTqqq.cell (i := 1) (by simp)
      have c2 : w9.cell? ⟨w4.heap.size + 1, 2, none⟩ = some (.int .u32 s2) := hTqqq.cell (i := 2) (by simp)
      have c3 : w9.cell? ⟨w4.heap.size + 1, 3, none⟩ = some (.int .u32 s3) := hTqqq.cell (i := 3) (by simp)
      have c4 : w9.cell? ⟨w4.heap.size + 1, 4, none⟩ = some (.int .u32 s4) := hTqqq.cell (i := 4) (by simp)
      have c5 : w9.cell? ⟨w4.heap.size + 1, 5, none⟩ = some (.int .u32 s5) := hTqqq.cell (i := 5) (by simp)
      have c6 : w9.cell? ⟨w4.heap.size + 1, 6, none⟩ = some (.int .u32 s6) := hTqqq.cell (i := 6) (by simp)
      have c7 : w9.cell? ⟨w4.heap.size + 1, 7, none⟩ = some (.int .u32 s7) := hTqqq.cell (i := 7) (by simp)
      go_wp2_with (first
        | (refine store_arr (xs := [(x + y) % 4294967296, s0, s1, s2, (s3 + x) % 4294967296, s4, s5, s6]) rfl 29 6 94 rfl rfl (w4.heap.size + 1) rfl rfl hTqqq rfl (by kernel_rfl) ?_; intro w10 hg10 hs10 hT10))
      go_roundw
      case rel =>
        have hn : rn ws st (k + 1) = [(x + y) % 4294967296, s0, s1, s2, (s3 + x) % 4294967296, s4, s5, s6] := by
          show rd (ws.getD k 0) (rs.getD k 0) (rn ws st k) = _
          rw [Hxs.out, hwk.out, hrk.out]
          show [(xx wk rk s4 s5 s6 s7 + yy s0 s1 s2) % 4294967296, s0, s1, s2, (s3 + xx wk rk s4 s5 s6 s7) % 4294967296, s4, s5, s6] = _
          rw [hx.out, hy.out]
        rw [← hn] at hT10
        exact ⟨k + 1, by omega, by go_num, hT10, hWqqq.grown hg10 (by simp), hSqqq.grown hg10 (by simp; omega), hOqqq.grown hg10 (by simp; omega), hBqqq.grown hg10 (by have := hOqqq.lt; omega) (by intro k e; cases e; omega)⟩
      case measure => simp [intOf]; omega
    · have hk64 := Aside0.mk (show k = 64 by omega)
      have dk : decide ((k : Int) < 64) = false := by simp; omega
      have hT0 := hk64.out ▸ hT
      have hT1 : Arr wr (w4.heap.size + 1) .u32 29 (sm st (rn ws st 64) 0) := hT0
      clear hk hlt hT hT0 hW
      go_wp2
      clear dk
      go_loopw [96] (fun i wr => ∃ k : Nat, k ≤ 8 ∧ i = .int .i64 k ∧ Arr wr (w4.heap.size + 1) .u32 29 (sm st (rn ws st 64) k) ∧ Arr wr w.heap.size .u32 29 st ∧ Arr wr (w.heap.size + 1 + 1) .u32 29 (List.replicate 8 0) ∧ Below w.heap.size w wr)
        (fun i _ => 8 - (intOf i).toNat)
      case atStart => exact ⟨0, by omega, rfl, hT1, hS, hO, hB⟩
      case round =>
        clear hT1 hS hO hB hk64
        obtain ⟨k, hk, rfl, hT, hS, hO, hB⟩ := hrel
        by_cases hlt : k < 8
        · have hln := sm_len st (rn ws st 64) (rn_len ws st Hsl.out 64) k
          obtain ⟨xs, hxs⟩ : ∃ xs, sm st (rn ws st 64) k = xs := ⟨_, rfl⟩
          rw [hxs] at hT hln
          have Hxs := Aside0.mk hxs
          have c0 := hT.cell (i := k) (by omega)
          have c1 := hS.cell (i := k) (by rw [Hsl.out]; omega)
          have h8 : (k : Int) < 8 := by omega
          obtain ⟨xk, hxk0⟩ : ∃ xk, xs.getD k 0 = xk := ⟨_, rfl⟩
          obtain ⟨tk, htk0⟩ : ∃ tk, st.getD k 0 = tk := ⟨_, rfl⟩
          rw [hxk0] at c0
          rw [htk0] at c1
          have hxk := Aside0.mk hxk0
          have htk := Aside0.mk htk0
          have Hln := Aside0.mk hln
          clear hxs hxk0 htk0 hln
          go_wp2
          go_still_tail 8, (by kernel_rfl)
          change wpList _ _ _ _ _ wr.drew
          have hT3 : Arr wr.drew (w4.heap.size + 1) .u32 29 xs := hT
          have hS3 : Arr wr.drew w.heap.size .u32 29 st := hS
          have hO3 : Arr wr.drew (w.heap.size + 1 + 1) .u32 29 (List.replicate 8 0) := hO
          have hB3 : Below w.heap.size w wr.drew := pw_below_drewN hB 1
          clear hT hS hO hB c0 c1
          generalize wr.drew = w7 at *
          have e0 := hT3.free k
          have f0 := hT3.cell (i := k) (by rw [Hln.out]; omega)
          go_wp2
          go_roundw
          case rel =>
            have h1 := hT3.set k ((xk + tk) % 4294967296)
            have h2 : sm st (rn ws st 64) (k + 1) = xs.set k ((xk + tk) % 4294967296) := by
              show (sm st (rn ws st 64) k).set k (((sm st (rn ws st 64) k).getD k 0 + st.getD k 0) % 4294967296) = _
              rw [Hxs.out, hxk.out, htk.out]
            rw [← h2] at h1
            exact ⟨k + 1, by omega, by go_num, h1, hS3.other k _ (by omega), hO3.other k _ (by omega), hB3.setCell (by show _ ≤ w4.heap.size + 1; omega) _⟩
          case measure => simp [intOf]; omega
        · obtain rfl : k = 8 := by omega
          have e : sm st (rn ws st 64) 8 = ys := by rw [← Hws.out]; exact Hys.out
          have hyl : ys.length = 8 := by rw [← e]; exact sm_len st _ (rn_len ws st Hsl.out 64) 8
          rw [e] at hT
          have Hyl := Aside0.mk hyl
          clear e hyl
          go_wp2_with (first | (refine load_arr rfl 29 6 rfl (w4.heap.size + 1) rfl hT Tryd.underlying29 (by rw [Hyl.out]; kernel_rfl) ?_) | (refine store_arr rfl 29 4 108 rfl rfl (w.heap.size + 1 + 1) rfl rfl hO (by rw [Hyl.out]; rfl) (by rw [Hyl.out]; kernel_rfl) ?_; intro w8 hg8 hs8 hA8))
          exact ret_arr 4 29 (by kernel_rfl) rfl hA8 Tryd.underlying29 (by rw [Hyl.out]; kernel_rfl) rfl ⟨rfl, hB.grown hg8 (by have := hO.lt; omega) (fun k e => by cases e; omega)⟩
end Go.Proofs.YtalghfnjelcpnaaDoor
namespace Go.Proofs.YtalghfnjelcpnaaDoor
open Go.RowKit Go.Proofs.YtalghfnjelcpnaaDoorW.PrintWords Go.Proofs.YtalghfnjelcpnaaDoor.Db

/-- Its cells. -/
def HC (st bs : List Int) (n : Int) : List Value := st.map (Value.int .u32) ++ (bs.map (Value.int .u8) ++ [.int .u64 n])
/-- Block g holds it. -/
structure Hs (w : World) (g : Nat) (st bs : List Int) (n : Int) : Prop where
  ls : st.length = 8
  lb : bs.length = 64
  row : w.heap[g]? = some (.cells (HC st bs n).toArray 91 (0, 0))

theorem HC_len {st bs : List Int} {n : Int} (h1 : st.length = 8) (h2 : bs.length = 64) : (HC st bs n).length = 73 := by simp [HC, h1, h2]
theorem HC_s {st bs : List Int} {n : Int} (h1 : st.length = 8) {i : Nat} (hi : i < 8) : (HC st bs n)[i]? = some (.int .u32 (st.getD i 0)) := by
  unfold HC
  rw [List.getElem?_append_left (by simp; omega), List.getElem?_map, List.getElem?_eq_getElem (by omega)]
  simp [List.getD_eq_getElem?_getD, List.getElem?_eq_getElem (show i < st.length by omega)]
theorem HC_b {st bs : List Int} {n : Int} (h1 : st.length = 8) (h2 : bs.length = 64) {i : Nat} (hi : i < 64) : (HC st bs n)[8 + i]? = some (.int .u8 (bs.getD i 0)) := by
  unfold HC
  rw [List.getElem?_append_right (by simp; omega), List.getElem?_append_left (by simp; omega), List.getElem?_map]
  have e : 8 + i - (st.map (Value.int .u32)).length = i := by simp; omega
  rw [e, List.getElem?_eq_getElem (by omega)]
  simp [List.getD_eq_getElem?_getD, List.getElem?_eq_getElem (show i < bs.length by omega)]
theorem HC_n {st bs : List Int} {n : Int} (h1 : st.length = 8) (h2 : bs.length = 64) : (HC st bs n)[72]? = some (.int .u64 n) := by
  unfold HC
  rw [List.getElem?_append_right (by simp; omega), List.getElem?_append_right (by simp; omega)]
  simp [h1, h2]
theorem HC_setB {st bs : List Int} {n : Int} (h1 : st.length = 8) (h2 : bs.length = 64) {i : Nat} (hi : i < 64) (v : Int) : (HC st bs n).set (8 + i) (.int .u8 v) = HC st (bs.set i v) n := by
  unfold HC
  rw [List.set_append_right _ _ (by simp; omega), List.set_append_left _ _ (by simp; omega)]
  have e : 8 + i - (st.map (Value.int .u32)).length = i := by simp; omega
  rw [e, List.map_set]
theorem HC_setN {st bs : List Int} {n : Int} (h1 : st.length = 8) (h2 : bs.length = 64) (v : Int) : (HC st bs n).set 72 (.int .u64 v) = HC st bs v := by
  unfold HC
  rw [List.set_append_right _ _ (by simp; omega), List.set_append_right _ _ (by simp; omega)]
  simp [h1, h2]

section
variable {w w1 : World} {g : Nat} {st bs : List Int} {n : Int}
theorem Hs.lt (h : Hs w g st bs n) : g < w.heap.size := (Array.getElem?_eq_some_iff.1 h.row).1
theorem Hs.cell (h : Hs w g st bs n) (i : Nat) : w.cell? ⟨g, i, none⟩ = (HC st bs n)[i]? := by
  rw [cell_of_row w g i _ 91 (0, 0) h.row]; simp
theorem Hs.cn (h : Hs w g st bs n) : w.cell? ⟨g, 72, none⟩ = some (.int .u64 n) := (h.cell 72).trans (HC_n h.ls h.lb)
theorem Hs.cb (h : Hs w g st bs n) {i : Nat} (hi : i < 64) : w.cell? ⟨g, 8 + i, none⟩ = some (.int .u8 (bs.getD i 0)) := (h.cell _).trans (HC_b h.ls h.lb hi)
theorem Hs.cs (h : Hs w g st bs n) {i : Nat} (hi : i < 8) : w.cell? ⟨g, i, none⟩ = some (.int .u32 (st.getD i 0)) := (h.cell _).trans (HC_s h.ls hi)
theorem Hs.free (h : Hs w g st bs n) (i : Nat) : w.frozen? ⟨g, i, none⟩ = false := frozen_of_row w g i _ 91 h.row
theorem Hs.rs (h : Hs w g st bs n) : w.rangeAt g 0 (st.map (Value.int .u32)) := fun j v hv => by
  have hj : j < st.length := by have := (List.getElem?_eq_some_iff.1 hv).1; simpa using this
  rw [Nat.zero_add, h.cs (by have := h.ls; omega), ← hv, List.getElem?_map, List.getElem?_eq_getElem hj]
  simp [List.getD_eq_getElem?_getD, List.getElem?_eq_getElem hj]
theorem Hs.rb (h : Hs w g st bs n) : w.rangeAt g 8 (bs.map (Value.int .u8)) := fun j v hv => by
  have hj : j < bs.length := by have := (List.getElem?_eq_some_iff.1 hv).1; simpa using this
  rw [h.cb (by have := h.lb; omega), ← hv, List.getElem?_map, List.getElem?_eq_getElem hj]
  simp [List.getD_eq_getElem?_getD, List.getElem?_eq_getElem hj]
theorem Hs.there (h : Hs w g st bs n) : w.there g 0 8 := fun j hj => by
  rw [Nat.zero_add]
  exact ⟨by rw [h.cs hj]; rfl, h.free j⟩
theorem Hs.setB (h : Hs w g st bs n) {i : Nat} (hi : i < 64) (v : Int) : Hs (w.setCell ⟨g, 8 + i, none⟩ (.int .u8 v)) g st (bs.set i v) n := by
  refine ⟨h.ls, by simp [h.lb], ?_⟩
  rw [heap_setCell_same w g _ _ 91 _ h.row, ← HC_setB h.ls h.lb hi v]
  simp
theorem Hs.setN (h : Hs w g st bs n) (v : Int) : Hs (w.setCell ⟨g, 72, none⟩ (.int .u64 v)) g st bs v := by
  refine ⟨h.ls, h.lb, ?_⟩
  rw [heap_setCell_same w g _ _ 91 _ h.row, ← HC_setN (n := n) h.ls h.lb v]
  simp
theorem heap_setCells (T : TypeId) (vs : List Value) : ∀ (pre old post : List Value) (w : World), old.length = vs.length → w.heap[g]? = some (.cells (pre ++ (old ++ post)).toArray T (0, 0)) → (w.setCells g pre.length vs).heap[g]? = some (.cells (pre ++ (vs ++ post)).toArray T (0, 0)) := by
  induction vs with
  | nil =>
    intro pre old post w hl h
    cases old with
    | nil => exact h
    | cons a r => cases hl
  | cons v r ih =>
    intro pre old post w hl h
    cases old with
    | nil => cases hl
    | cons a o =>
      rw [World.setCells]
      have h1 := heap_setCell_same w g pre.length _ T v h
      have e : (pre ++ (a :: o ++ post)).toArray.setIfInBounds pre.length v = ((pre ++ [v]) ++ (o ++ post)).toArray := by
        rw [List.setIfInBounds_toArray]
        congr 1
        rw [List.set_append_right _ _ (Nat.le_refl _)]
        simp
      rw [e] at h1
      have h2 := ih (pre ++ [v]) o post _ (by simpa using hl) h1
      have e2 : (pre ++ [v]).length = pre.length + 1 := by simp
      rw [e2] at h2
      simpa using h2
theorem Hs.setS (h : Hs w g st bs n) (ys : List Int) (hy : ys.length = 8) : Hs (w.setCells g 0 (ys.map (Value.int .u32))) g ys bs n :=
  ⟨hy, h.lb, heap_setCells 91 (ys.map (Value.int .u32)) [] (st.map (Value.int .u32)) _ w (by simp [h.ls, hy]) h.row⟩
theorem Hs.grown (h : Hs w g st bs n) {row : Option Nat} (hg : w.grownBy w1 row) (hne : some g ≠ row) : Hs w1 g st bs n := ⟨h.ls, h.lb, (hg.block g h.lt hne).trans h.row⟩
theorem Hs.below (h : Hs w g st bs n) {B : Nat} (hb : Below B w w1) (hB : g < B) : Hs w1 g st bs n := ⟨h.ls, h.lb, (hb.block g hB).trans h.row⟩
theorem Hs.alloc (h : Hs w g st bs n) (o : Obj) : Hs (w.alloc o) g st bs n := ⟨h.ls, h.lb, (Below.heap_alloc w o g h.lt).trans h.row⟩
theorem Hs.drewN (h : Hs w g st bs n) (m : Nat) : Hs (w.drewN m) g st bs n := ⟨h.ls, h.lb, h.row⟩
end
/-- Nothing has turned but one block. -/
theorem only_trans {a b c : World} {g : Nat} (h : a.grownBy b (some g)) (k : b.grownBy c (some g)) : a.grownBy c (some g) :=
  ⟨k.os.trans h.os, k.tape.trans h.tape, k.output.trans h.output, Nat.le_trans h.size k.size, fun i hi hne => (k.block i (Nat.lt_of_lt_of_le hi h.size) hne).trans (h.block i hi hne)⟩
theorem only_of_below {a b : World} (g : Nat) (h : Below a.heap.size a b) : a.grownBy b (some g) := ⟨h.os, h.tape, h.output, h.size, fun i hi _ => h.block i hi⟩
theorem only_refl (a : World) (g : Nat) : a.grownBy a (some g) := ⟨rfl, rfl, rfl, Nat.le_refl _, fun _ _ _ => rfl⟩
theorem only_setCell {a b : World} {g : Nat} (h : a.grownBy b (some g)) (i : Nat) (v : Value) : a.grownBy (b.setCell ⟨g, i, none⟩ v) (some g) := by
  have h1 : Below 0 b (b.setCell ⟨g, i, none⟩ v) := (Below.refl 0 b).setCell (Nat.zero_le _) v
  exact ⟨h1.os.trans h.os, h1.tape.trans h.tape, h1.output.trans h.output, Nat.le_trans h.size h1.size, fun k hk hne => (Below.heap_setCell b ⟨g, i, none⟩ v k (fun e => hne (by rw [e]))).trans (h.block k hk hne)⟩
theorem only_drewN {a b : World} {g : Nat} (h : a.grownBy b (some g)) (m : Nat) : a.grownBy (b.drewN m) (some g) := ⟨h.os, h.tape, h.output, h.size, h.block⟩
theorem only_setCells {a : World} {g : Nat} (vs : List Value) : ∀ (o : Nat) (b : World), a.grownBy b (some g) → a.grownBy (b.setCells g o vs) (some g) := by
  induction vs with
  | nil => intro o b h; exact h
  | cons v r ih => intro o b h; rw [World.setCells]; exact ih _ _ (only_setCell h o v)
theorem only_below {a b : World} {g B : Nat} (h : a.grownBy b (some g)) (hB : B ≤ g) (hs : B ≤ a.heap.size) : Below B a b := ⟨h.os, h.tape, h.output, h.size, fun k hk => h.block k (Nat.lt_of_lt_of_le hk hs) (fun e => by cases e; omega)⟩
end Go.Proofs.YtalghfnjelcpnaaDoor
namespace Go.Proofs.YtalghfnjelcpnaaDoor
set_option linter.unusedSimpArgs false
open Go.RowKit Go.Proofs.YtalghfnjelcpnaaDoorW.PrintWords Go.Proofs.YtalghfnjelcpnaaDoor.Db

/-- The digest in the making. -/
structure Dg where
  st : List Int
  bs : List Int
  n : Nat
/-- One byte more. -/
def Dg.one (d : Dg) (c : Int) : Dg :=
  if (d.n + 1) % 64 = 0 then ⟨tr d.st (d.bs.set (d.n % 64) c), d.bs.set (d.n % 64) c, d.n + 1⟩ else ⟨d.st, d.bs.set (d.n % 64) c, d.n + 1⟩
/-- More bytes. -/
def Dg.all (d : Dg) (cs : List Int) : Dg := cs.foldl Dg.one d
theorem Dg.one_n (d : Dg) (c : Int) : (d.one c).n = d.n + 1 := by unfold Dg.one; split <;> rfl
theorem Dg.all_n (cs : List Int) : ∀ d : Dg, (d.all cs).n = d.n + cs.length := by
  induction cs with
  | nil => intro d; rfl
  | cons c r ih => intro d; show ((d.one c).all r).n = _; rw [ih, Dg.one_n]; simp; omega
theorem Dg.all_step (d : Dg) (cs : List Int) (k : Nat) (hk : k < cs.length) : d.all (cs.take (k + 1)) = (d.all (cs.take k)).one (cs.getD k 0) := by
  unfold Dg.all
  rw [List.take_succ_eq_append_getElem hk, List.foldl_append]
  simp [List.getD_eq_getElem?_getD, List.getElem?_eq_getElem hk]
theorem Rounds.only {w w1 : World} {g : Nat} (h : Rounds w) (hb : w.grownBy w1 (some g)) (hg : 0 < g) : Rounds w1 := fun i hi => (World.cell?_of_block (hb.block 0 h.pos (by simp; omega))).trans (h i hi)
theorem list8 : ∀ xs : List Int, xs.length = 8 → ∃ a0 a1 a2 a3 a4 a5 a6 a7, xs = [a0, a1, a2, a3, a4, a5, a6, a7]
  | [a0, a1, a2, a3, a4, a5, a6, a7], _ => ⟨a0, a1, a2, a3, a4, a5, a6, a7, rfl⟩
theorem tr_len (st bs : List Int) (h : st.length = 8) : (tr st bs).length = 8 := by
  unfold tr
  exact sm_len st _ (rn_len _ st h 64) 8
attribute [local irreducible] tr
theorem one_cells {k : IntKind} (xs : List Int) : ∀ v ∈ xs.map (Value.int k), v.oneCell' = true := by
  intro v hv
  simp only [List.mem_map] at hv
  obtain ⟨z, _, rfl⟩ := hv
  rfl
set_option maxHeartbeats 1000000 in
set_option maxRecDepth 100000 in
theorem Write_any (p : Option Addr) (cap g : Nat) (ds : List Int) (d : Dg) (w : World) (hR : Rounds w) (hg : 0 < g) (hH : Hs w g d.st d.bs d.n) (hn : d.n + ds.length < 4611686018427387904)
    (hD : ∀ i, i < ds.length → ∃ b o, p = some ⟨b, o, none⟩ ∧ b ≠ g ∧ b < w.heap.size ∧ w.cell? ⟨b, o + i, none⟩ = some (.int .u8 (ds.getD i 0))) :
    Calls Tryd.prog 30 #[.pointer (some ⟨g, 0, none⟩), .slice p ds.length cap] w fun e w' => e = .returned (.tuple #[]) ∧ Hs w' g (d.all ds).st (d.all ds).bs (d.all ds).n ∧ w.grownBy w' (some g) := by
  have HR := Aside0.mk hR
  have HD := Aside0.mk hD
  have Hn := Aside0.mk hn
  clear hR hD hn
  go_enter Tryd.func30, Tryd.ntmps30
  go_wp2
  go_loopw [8] (fun i wr => ∃ k : Nat, k ≤ ds.length ∧ i = .int .i64 k ∧ Hs wr g (d.all (ds.take k)).st (d.all (ds.take k)).bs (d.all (ds.take k)).n ∧ w.grownBy wr (some g))
    (fun i _ => ds.length - (intOf i).toNat)
  case atStart => exact ⟨0, by omega, rfl, hH, only_refl w g⟩
  case round =>
    obtain ⟨k, hk, rfl, hK, hB⟩ := hrel
    by_cases hlt : k < ds.length
    · obtain ⟨b, o, rfl, hbg, hbw, hc⟩ := HD.out k hlt
      obtain ⟨dk, hdk⟩ : ∃ dk, d.all (ds.take k) = dk := ⟨_, rfl⟩
      have hkn : dk.n < 4611686018427387904 := by
        have h0 := Hn.out
        rw [← hdk, Dg.all_n]
        simp; omega
      rw [hdk] at hK
      have Hdk := Aside0.mk hdk
      obtain ⟨c, hc0⟩ : ∃ c, ds.getD k 0 = c := ⟨_, rfl⟩
      rw [hc0] at hc
      have Hc := Aside0.mk hc0
      clear hdk hc0
      have hc1 : wr.cell? ⟨b, o + k, none⟩ = some (.int .u8 c) := (World.cell?_of_block (hB.block b hbw (by simpa using hbg))).trans hc
      clear hc
      have c72 := hK.cn
      have hkl : (k : Int) < ds.length := by omega
      obtain ⟨m, hm⟩ : ∃ m, dk.n % 64 = m := ⟨_, rfl⟩
      have hm64 : m < 64 := by omega
      have r1 : Int.tmod (dk.n : Int) 64 = m := by
        rw [Int.tmod_eq_emod_of_nonneg (by omega)]; omega
      have r2 : (m : Int) < 64 := by omega
      have Hm := Aside0.mk hm
      clear hm
      go_wp2
      go_still_tail 10, (by kernel_rfl)
      change wpList _ _ _ _ _ wr.drew
      have hK2 : Hs wr.drew g dk.st dk.bs dk.n := hK.drewN 1
      have hB2 : w.grownBy wr.drew (some g) := only_drewN hB 1
      clear hK hB c72 hc1
      generalize wr.drew = w2 at *
      have f1 := hK2.free (8 + m)
      have f1c := hK2.cb hm64
      have hK3 := hK2.setB hm64 c
      have hB3 := only_setCell hB2 (8 + m) (.int .u8 c)
      have c3 := hK3.cn
      have f3 := hK3.free 72
      have hK4 := hK3.setN ((dk.n : Int) + 1)
      have hB4 := only_setCell hB3 72 (.int .u64 ((dk.n : Int) + 1))
      have c4 := hK4.cn
      have wn : IntKind.u64.wrap ((dk.n : Int) + 1) = dk.n + 1 := by
        show ((dk.n : Int) + 1) % _ = _
        exact Int.emod_eq_of_lt (by omega) (by have : (dk.n : Int) + 1 < 4611686018427387905 := by omega
                                               exact Int.lt_trans this (by decide))
      obtain ⟨m1, hm1⟩ : ∃ m1, (dk.n + 1) % 64 = m1 := ⟨_, rfl⟩
      have r3 : Int.tmod ((dk.n : Int) + 1) 64 = m1 := by
        rw [Int.tmod_eq_emod_of_nonneg (by omega)]; omega
      have Hm1 := Aside0.mk hm1
      have Hkn := Aside0.mk hkn
      clear hm1 hkn r1
      by_cases cm : m1 = 0
      · have d1 : ((m1 : Int) == 0) = true := by simp; omega
        have Cm := Aside0.mk cm
        clear cm
        go_wp2
        obtain ⟨bb, hbb0⟩ : ∃ bb, dk.bs.set m c = bb := ⟨_, rfl⟩
        rw [hbb0] at hK4
        have Hbb := Aside0.mk hbb0
        clear hbb0
        have HK4 := Aside0.mk hK4
        have HB4 := Aside0.mk hB4
        clear hK2 hK3 hK4 hB2 hB3 hB4 f1 f1c c3 f3 c4
        generalize (w2.setCell ⟨g, 8 + m, none⟩ (Value.int IntKind.u8 c)).setCell ⟨g, 72, none⟩ (Value.int IntKind.u64 ((dk.n : Int) + 1)) = w3 at *
        obtain ⟨a0, a1, a2, a3, a4, a5, a6, a7, hst⟩ : ∃ a0 a1 a2 a3 a4 a5 a6 a7, dk.st = [a0, a1, a2, a3, a4, a5, a6, a7] := list8 _ HK4.out.ls
        have hyl : (tr dk.st bb).length = 8 := tr_len _ _ HK4.out.ls
        obtain ⟨y0, y1, y2, y3, y4, y5, y6, y7, hyt⟩ : ∃ y0 y1 y2 y3 y4 y5 y6 y7, tr dk.st bb = [y0, y1, y2, y3, y4, y5, y6, y7] := list8 _ hyl
        have T := Aside0.mk (fun w hR => hyt ▸ Turn_any dk.st bb HK4.out.ls HK4.out.lb w hR)
        rw [hst] at T
        have Hyt := Aside0.mk hyt
        have Hst := Aside0.mk hst
        have s0 : w3.cell? ⟨g, 0, none⟩ = some (.int .u32 a0) := by
          have := HK4.out.cs (i := 0) (by omega)
          rw [hst] at this
          exact this
        have s1 : w3.cell? ⟨g, 1, none⟩ = some (.int .u32 a1) := by
          have := HK4.out.cs (i := 1) (by omega)
          rw [hst] at this
          exact this
        have s2 : w3.cell? ⟨g, 2, none⟩ = some (.int .u32 a2) := by
          have := HK4.out.cs (i := 2) (by omega)
          rw [hst] at this
          exact this
        have s3 : w3.cell? ⟨g, 3, none⟩ = some (.int .u32 a3) := by
          have := HK4.out.cs (i := 3) (by omega)
          rw [hst] at this
          exact this
        have s4 : w3.cell? ⟨g, 4, none⟩ = some (.int .u32 a4) := by
          have := HK4.out.cs (i := 4) (by omega)
          rw [hst] at this
          exact this
        have s5 : w3.cell? ⟨g, 5, none⟩ = some (.int .u32 a5) := by
          have := HK4.out.cs (i := 5) (by omega)
          rw [hst] at this
          exact this
        have s6 : w3.cell? ⟨g, 6, none⟩ = some (.int .u32 a6) := by
          have := HK4.out.cs (i := 6) (by omega)
          rw [hst] at this
          exact this
        have s7 : w3.cell? ⟨g, 7, none⟩ = some (.int .u32 a7) := by
          have := HK4.out.cs (i := 7) (by omega)
          rw [hst] at this
          exact this
        have q2 := HK4.out.rb
        have l2 := HK4.out.lb
        have hl3 := HK4.out.lt
        have u1 := Tryd.underlying29
        have u2 := Tryd.underlying30
        have i2 : (Tryd.prog.info? 30).map (·.size) = some (bb.map (Value.int .u8)).length := by rw [List.length_map, l2]; kernel_rfl
        clear hst hyt hyl
        have R3 : Rounds w3.drew := HR.out.only (only_drewN HB4.out 1) hg
        have HC := Aside0.mk (show Calls Tryd.prog 24 #[.agg #[.int .u32 a0, .int .u32 a1, .int .u32 a2, .int .u32 a3, .int .u32 a4, .int .u32 a5, .int .u32 a6, .int .u32 a7], .agg (bb.map (Value.int .u8)).toArray] w3.drew (fun e w' => e = .returned (.agg ([y0, y1, y2, y3, y4, y5, y6, y7].map (Value.int .u32)).toArray) ∧ Below w3.heap.size w3.drew w') from T.out w3.drew R3)
        clear R3
        have e0 : w3.drew.cell? ⟨g, 0, none⟩ = some (.int .u32 a0) := s0
        have e1 : w3.drew.cell? ⟨g, 1, none⟩ = some (.int .u32 a1) := s1
        have e2 : w3.drew.cell? ⟨g, 2, none⟩ = some (.int .u32 a2) := s2
        have e3 : w3.drew.cell? ⟨g, 3, none⟩ = some (.int .u32 a3) := s3
        have e4 : w3.drew.cell? ⟨g, 4, none⟩ = some (.int .u32 a4) := s4
        have e5 : w3.drew.cell? ⟨g, 5, none⟩ = some (.int .u32 a5) := s5
        have e6 : w3.drew.cell? ⟨g, 6, none⟩ = some (.int .u32 a6) := s6
        have e7 : w3.drew.cell? ⟨g, 7, none⟩ = some (.int .u32 a7) := s7
        have eq2 : w3.drew.rangeAt g 8 (bb.map (Value.int .u8)) := q2
        have i1 : (Tryd.prog.info? 29).map (·.size) = some ([a0, a1, a2, a3, a4, a5, a6, a7].map (Value.int .u32)).length := by rw [List.length_map]; kernel_rfl
        have eq1 : w3.drew.rangeAt g 0 ([a0, a1, a2, a3, a4, a5, a6, a7].map (Value.int .u32)) := Hst.out ▸ (HK4.out.drewN 1).rs
        have hp3 : g < w3.heap.size := HK4.out.lt
        clear e0 e1 e2 e3 e4 e5 e6 e7 q2 s0 s1 s2 s3 s4 s5 s6 s7
        refine wp_region_any (by kernel_rfl) ?_
        change wpAny _ _ _ _ _ _ _ (World.drew _)
        refine wpAny_take (i := 0) (oi := { dst := some 35, op := Go.Op.move (Go.Operand.tmp 0), type := 45, pos := "sha.go:95", after := #[], guard := none }) (v := ?v0) rfl (by kernel_rfl) (by kernel_rfl) (by kernel_rfl) (fun _ _ _ h => h) (Or.inl ⟨by rfl, fun w => ?hy0⟩) ?rest0
        case hy0 => go_simp; (first | done | (with_reducible rfl))
        simp only [Act.put, List.setIfInBounds_toArray, List.set_cons_zero, List.set_cons_succ]
        refine wpAny_take (i := 1) (oi := { dst := some 36, op := Go.Op.move (Go.Operand.tmp 0), type := 45, pos := "sha.go:95", after := #[], guard := none }) (v := ?v1) rfl (by kernel_rfl) (by kernel_rfl) (by kernel_rfl) (fun _ _ _ h => h) (Or.inl ⟨by rfl, fun w => ?hy1⟩) ?rest1
        case hy1 => go_simp; (first | done | (with_reducible rfl))
        simp only [Act.put, List.setIfInBounds_toArray, List.set_cons_zero, List.set_cons_succ]
        refine wpAny_take (i := 2) (oi := { dst := some 37, op := Go.Op.nilCheck (Go.Operand.tmp 36), type := 0, pos := "sha.go:95", after := #[{ on := 1, ground := Go.Ground.data }], guard := none }) (v := ?v2) rfl (by kernel_rfl) (by kernel_rfl) (by kernel_rfl) (fun _ _ _ h => h) (Or.inl ⟨by rfl, fun w => ?hy2⟩) ?rest2
        case hy2 => go_simp; (first | done | (with_reducible rfl))
        simp only [Act.put, List.setIfInBounds_toArray, List.set_cons_zero, List.set_cons_succ]
        refine wpAny_take (i := 3) (oi := { dst := some 38, op := Go.Op.fieldAddr 91 (Go.Operand.tmp 37) 0, type := 0, pos := "sha.go:95", after := #[{ on := 2, ground := Go.Ground.data }], guard := none }) (v := ?v3) rfl (by kernel_rfl) (by kernel_rfl) (by kernel_rfl) (fun _ _ _ h => h) (Or.inl ⟨by rfl, fun w => ?hy3⟩) ?rest3
        case hy3 => go_simp; (first | done | (with_reducible rfl))
        simp only [Act.put, List.setIfInBounds_toArray, List.set_cons_zero, List.set_cons_succ]
        refine wpAny_take (i := 5) (oi := { dst := some 40, op := Go.Op.move (Go.Operand.tmp 0), type := 45, pos := "sha.go:95", after := #[], guard := none }) (v := ?v5) rfl (by kernel_rfl) (by kernel_rfl) (by kernel_rfl) (fun _ _ _ h => h) (Or.inl ⟨by rfl, fun w => ?hy5⟩) ?rest5
        case hy5 => go_simp; (first | done | (with_reducible rfl))
        simp only [Act.put, List.setIfInBounds_toArray, List.set_cons_zero, List.set_cons_succ]
        refine wpAny_take (i := 6) (oi := { dst := some 41, op := Go.Op.nilCheck (Go.Operand.tmp 40), type := 0, pos := "sha.go:95", after := #[{ on := 5, ground := Go.Ground.data }], guard := none }) (v := ?v6) rfl (by kernel_rfl) (by kernel_rfl) (by kernel_rfl) (fun _ _ _ h => h) (Or.inl ⟨by rfl, fun w => ?hy6⟩) ?rest6
        case hy6 => go_simp; (first | done | (with_reducible rfl))
        simp only [Act.put, List.setIfInBounds_toArray, List.set_cons_zero, List.set_cons_succ]
        refine wpAny_take (i := 7) (oi := { dst := some 42, op := Go.Op.fieldAddr 91 (Go.Operand.tmp 41) 1, type := 0, pos := "sha.go:95", after := #[{ on := 6, ground := Go.Ground.data }], guard := none }) (v := ?v7) rfl (by kernel_rfl) (by kernel_rfl) (by kernel_rfl) (fun _ _ _ h => h) (Or.inl ⟨by rfl, fun w => ?hy7⟩) ?rest7
        case hy7 => go_simp; (first | done | (with_reducible rfl))
        simp only [Act.put, List.setIfInBounds_toArray, List.set_cons_zero, List.set_cons_succ]
        refine wpAny_ready (rs := [4, 8]) (by kernel_rfl) (by simp) ?_
        refine AllReady.cons (o := { dst := some 39, op := Go.Op.load 29 (Go.Operand.tmp 38), type := 29, pos := "sha.go:95", after := #[{ on := 3, ground := Go.Ground.data }], guard := none }) rfl (fun K hK => ?_) (AllReady.cons (o := { dst := some 43, op := Go.Op.load 30 (Go.Operand.tmp 42), type := 30, pos := "sha.go:95", after := #[{ on := 7, ground := Go.Ground.data }], guard := none }) rfl (fun K hK => ?_) (AllReady.nil))
        rw [if_pos (by rfl)]
        refine wp_load_mid 29 (.tmp 38) rfl g 0 rfl _ _ eq1 u1 rfl i1 ?_
        refine hK _ _ ?_
        clear hK K
        simp only [Act.put, List.setIfInBounds_toArray, List.set_cons_zero, List.set_cons_succ]
        refine wpAny_ready (rs := [8]) (by kernel_rfl) (by simp) ?_
        refine AllReady.cons (o := { dst := some 43, op := Go.Op.load 30 (Go.Operand.tmp 42), type := 30, pos := "sha.go:95", after := #[{ on := 7, ground := Go.Ground.data }], guard := none }) rfl (fun K hK => ?_) (AllReady.nil)
        rw [if_pos (by rfl)]
        refine wp_load_mid 30 (.tmp 42) rfl g 8 rfl _ _ eq2 u2 rfl i2 ?_
        refine hK _ _ ?_
        clear hK K
        simp only [Act.put, List.setIfInBounds_toArray, List.set_cons_zero, List.set_cons_succ]
        rotate_left
        rw [if_pos (by rfl)]
        refine wp_load_mid 30 (.tmp 42) rfl g 8 rfl _ _ eq2 u2 rfl i2 ?_
        refine hK _ _ ?_
        clear hK K
        simp only [Act.put, List.setIfInBounds_toArray, List.set_cons_zero, List.set_cons_succ]
        refine wpAny_ready (rs := [4]) (by kernel_rfl) (by simp) ?_
        refine AllReady.cons (o := { dst := some 39, op := Go.Op.load 29 (Go.Operand.tmp 38), type := 29, pos := "sha.go:95", after := #[{ on := 3, ground := Go.Ground.data }], guard := none }) rfl (fun K hK => ?_) (AllReady.nil)
        rw [if_pos (by rfl)]
        refine wp_load_mid 29 (.tmp 38) rfl g 0 rfl _ _ eq1 u1 rfl i1 ?_
        refine hK _ _ ?_
        clear hK K
        simp only [Act.put, List.setIfInBounds_toArray, List.set_cons_zero, List.set_cons_succ]
        · refine wpAny_ready (rs := [9]) (by kernel_rfl) (by simp) ?_
          refine AllReady.cons (o := { dst := some 44, op := Go.Op.call { callee := Go.Callee.value (Go.Operand.func 24), args := #[Go.Operand.tmp 39, Go.Operand.tmp 43], argTypes := #[29, 30] }, type := 29, pos := "sha.go:95", after := #[{ on := 4, ground := Go.Ground.data }, { on := 8, ground := Go.Ground.data }], guard := none }) rfl (fun K hK => ?_) (AllReady.nil)
          go_simp
          go_at_call 24
          refine HC.out.mono ?_
          rintro e w5 ⟨rfl, hb5⟩
          refine hK _ _ ?_
          clear hK K
          try simp only [Act.put, List.setIfInBounds_toArray, List.set_cons_zero, List.set_cons_succ]
          have H5 := (HK4.out.drewN 1).below hb5 HK4.out.lt
          refine wpAny_take (i := 10) (oi := { dst := some 45, op := Go.Op.nilCheck (Go.Operand.tmp 35), type := 0, pos := "sha.go:95", after := #[{ on := 0, ground := Go.Ground.data }, { on := 0, ground := Go.Ground.phase }, { on := 1, ground := Go.Ground.phase }, { on := 2, ground := Go.Ground.phase }, { on := 3, ground := Go.Ground.phase }, { on := 4, ground := Go.Ground.phase }, { on := 5, ground := Go.Ground.phase }, { on := 6, ground := Go.Ground.phase }, { on := 7, ground := Go.Ground.phase }, { on := 8, ground := Go.Ground.phase }, { on := 9, ground := Go.Ground.phase }], guard := none }) (v := ?v10a) rfl (by kernel_rfl) (by kernel_rfl) (by kernel_rfl) (fun _ _ _ h => h) (Or.inl ⟨by rfl, fun w => ?hy10a⟩) ?rest10a
          case hy10a => go_simp; (first | done | (with_reducible rfl))
          simp only [Act.put, List.setIfInBounds_toArray, List.set_cons_zero, List.set_cons_succ]
          refine wpAny_take (i := 11) (oi := { dst := some 46, op := Go.Op.fieldAddr 91 (Go.Operand.tmp 45) 0, type := 0, pos := "sha.go:95", after := #[{ on := 10, ground := Go.Ground.data }, { on := 0, ground := Go.Ground.phase }, { on := 1, ground := Go.Ground.phase }, { on := 2, ground := Go.Ground.phase }, { on := 3, ground := Go.Ground.phase }, { on := 4, ground := Go.Ground.phase }, { on := 5, ground := Go.Ground.phase }, { on := 6, ground := Go.Ground.phase }, { on := 7, ground := Go.Ground.phase }, { on := 8, ground := Go.Ground.phase }, { on := 9, ground := Go.Ground.phase }], guard := none }) (v := ?v11a) rfl (by kernel_rfl) (by kernel_rfl) (by kernel_rfl) (fun _ _ _ h => h) (Or.inl ⟨by rfl, fun w => ?hy11a⟩) ?rest11a
          case hy11a => go_simp; (first | done | (with_reducible rfl))
          simp only [Act.put, List.setIfInBounds_toArray, List.set_cons_zero, List.set_cons_succ]
          refine wpAny_ready (rs := [12]) (by kernel_rfl) (by simp) ?_
          refine AllReady.cons (o := { dst := none, op := Go.Op.store 29 (Go.Operand.tmp 46) (Go.Operand.tmp 44), type := 0, pos := "sha.go:95", after := #[{ on := 11, ground := Go.Ground.data }, { on := 9, ground := Go.Ground.data }, { on := 9, ground := Go.Ground.chain }, { on := 0, ground := Go.Ground.phase }, { on := 1, ground := Go.Ground.phase }, { on := 2, ground := Go.Ground.phase }, { on := 3, ground := Go.Ground.phase }, { on := 4, ground := Go.Ground.phase }, { on := 5, ground := Go.Ground.phase }, { on := 6, ground := Go.Ground.phase }, { on := 7, ground := Go.Ground.phase }, { on := 8, ground := Go.Ground.phase }, { on := 9, ground := Go.Ground.phase }], guard := none }) rfl (fun K hK => ?_) (AllReady.nil)
          rw [if_pos (by rfl)]
          refine wp_store_mid 29 (.tmp 46) (.tmp 44) rfl g 0 ([y0, y1, y2, y3, y4, y5, y6, y7].map (Value.int .u32)).toArray rfl rfl H5.there (by rw [List.size_toArray, List.length_map]; kernel_rfl) (all_oneCell_toArray (one_cells _)) ?_
          refine hK _ _ ?_
          clear hK K
          simp only [Act.put, List.setIfInBounds_toArray, List.set_cons_zero, List.set_cons_succ]
          refine wpAny_done (by kernel_rfl) ?_ _
          have H6 := H5.setS [y0, y1, y2, y3, y4, y5, y6, y7] rfl
          have B6 := only_setCells ([y0, y1, y2, y3, y4, y5, y6, y7].map (Value.int .u32)) 0 _ (only_trans (only_drewN HB4.out 1) (only_of_below g hb5))
          clear H5
          obtain ⟨w6, hw6⟩ : ∃ w6, w5.setCells g 0 ([y0, y1, y2, y3, y4, y5, y6, y7].map (Value.int .u32)) = w6 := ⟨_, rfl⟩
          rw [hw6] at H6 B6
          have hw7 : w5.setCells g 0 ([y0, y1, y2, y3, y4, y5, y6, y7].map (Value.int .u32)).toArray.toList = w6 := hw6
          rw [hw7]
          clear hw6 hw7
          have hds : ds.length < 4611686018427387904 := by have := Hn.out; omega
          have wk : wrap64 ((k : Int) + 1) = ((k + 1 : Nat) : Int) := by rw [IntWalk.wrap64_in _ (by omega)]; omega
          clear hb5 hbw hbg hm64 r2 r3 wn d1 hkl
          go_wp2
          go_roundw
          case rel =>
            have hn1 : d.all (ds.take (k + 1)) = ⟨[y0, y1, y2, y3, y4, y5, y6, y7], bb, dk.n + 1⟩ := by
              rw [Dg.all_step d ds k hlt, Hdk.out, Hc.out]
              unfold Dg.one
              rw [if_pos (by rw [Hm1.out]; exact Cm.out), Hm.out, Hbb.out, Hyt.out]
            refine ⟨k + 1, hlt, rfl, ?_, B6⟩
            rw [hn1]
            have hca : ((dk.n + 1 : Nat) : Int) = (dk.n : Int) + 1 := by omega
            dsimp only
            rw [hca]
            exact H6
          case measure =>
            show ds.length - (k + 1) < ds.length - k
            exact Nat.sub_lt_sub_left hlt (Nat.lt_succ_self k)
        · refine wpAny_ready (rs := [9]) (by kernel_rfl) (by simp) ?_
          refine AllReady.cons (o := { dst := some 44, op := Go.Op.call { callee := Go.Callee.value (Go.Operand.func 24), args := #[Go.Operand.tmp 39, Go.Operand.tmp 43], argTypes := #[29, 30] }, type := 29, pos := "sha.go:95", after := #[{ on := 4, ground := Go.Ground.data }, { on := 8, ground := Go.Ground.data }], guard := none }) rfl (fun K hK => ?_) (AllReady.nil)
          go_simp
          go_at_call 24
          refine HC.out.mono ?_
          rintro e w5 ⟨rfl, hb5⟩
          refine hK _ _ ?_
          clear hK K
          try simp only [Act.put, List.setIfInBounds_toArray, List.set_cons_zero, List.set_cons_succ]
          have H5 := (HK4.out.drewN 1).below hb5 HK4.out.lt
          refine wpAny_take (i := 10) (oi := { dst := some 45, op := Go.Op.nilCheck (Go.Operand.tmp 35), type := 0, pos := "sha.go:95", after := #[{ on := 0, ground := Go.Ground.data }, { on := 0, ground := Go.Ground.phase }, { on := 1, ground := Go.Ground.phase }, { on := 2, ground := Go.Ground.phase }, { on := 3, ground := Go.Ground.phase }, { on := 4, ground := Go.Ground.phase }, { on := 5, ground := Go.Ground.phase }, { on := 6, ground := Go.Ground.phase }, { on := 7, ground := Go.Ground.phase }, { on := 8, ground := Go.Ground.phase }, { on := 9, ground := Go.Ground.phase }], guard := none }) (v := ?v10b) rfl (by kernel_rfl) (by kernel_rfl) (by kernel_rfl) (fun _ _ _ h => h) (Or.inl ⟨by rfl, fun w => ?hy10b⟩) ?rest10b
          case hy10b => go_simp; (first | done | (with_reducible rfl))
          simp only [Act.put, List.setIfInBounds_toArray, List.set_cons_zero, List.set_cons_succ]
          refine wpAny_take (i := 11) (oi := { dst := some 46, op := Go.Op.fieldAddr 91 (Go.Operand.tmp 45) 0, type := 0, pos := "sha.go:95", after := #[{ on := 10, ground := Go.Ground.data }, { on := 0, ground := Go.Ground.phase }, { on := 1, ground := Go.Ground.phase }, { on := 2, ground := Go.Ground.phase }, { on := 3, ground := Go.Ground.phase }, { on := 4, ground := Go.Ground.phase }, { on := 5, ground := Go.Ground.phase }, { on := 6, ground := Go.Ground.phase }, { on := 7, ground := Go.Ground.phase }, { on := 8, ground := Go.Ground.phase }, { on := 9, ground := Go.Ground.phase }], guard := none }) (v := ?v11b) rfl (by kernel_rfl) (by kernel_rfl) (by kernel_rfl) (fun _ _ _ h => h) (Or.inl ⟨by rfl, fun w => ?hy11b⟩) ?rest11b
          case hy11b => go_simp; (first | done | (with_reducible rfl))
          simp only [Act.put, List.setIfInBounds_toArray, List.set_cons_zero, List.set_cons_succ]
          refine wpAny_ready (rs := [12]) (by kernel_rfl) (by simp) ?_
          refine AllReady.cons (o := { dst := none, op := Go.Op.store 29 (Go.Operand.tmp 46) (Go.Operand.tmp 44), type := 0, pos := "sha.go:95", after := #[{ on := 11, ground := Go.Ground.data }, { on := 9, ground := Go.Ground.data }, { on := 9, ground := Go.Ground.chain }, { on := 0, ground := Go.Ground.phase }, { on := 1, ground := Go.Ground.phase }, { on := 2, ground := Go.Ground.phase }, { on := 3, ground := Go.Ground.phase }, { on := 4, ground := Go.Ground.phase }, { on := 5, ground := Go.Ground.phase }, { on := 6, ground := Go.Ground.phase }, { on := 7, ground := Go.Ground.phase }, { on := 8, ground := Go.Ground.phase }, { on := 9, ground := Go.Ground.phase }], guard := none }) rfl (fun K hK => ?_) (AllReady.nil)
          rw [if_pos (by rfl)]
          refine wp_store_mid 29 (.tmp 46) (.tmp 44) rfl g 0 ([y0, y1, y2, y3, y4, y5, y6, y7].map (Value.int .u32)).toArray rfl rfl H5.there (by rw [List.size_toArray, List.length_map]; kernel_rfl) (all_oneCell_toArray (one_cells _)) ?_
          refine hK _ _ ?_
          clear hK K
          simp only [Act.put, List.setIfInBounds_toArray, List.set_cons_zero, List.set_cons_succ]
          refine wpAny_done (by kernel_rfl) ?_ _
          have H6 := H5.setS [y0, y1, y2, y3, y4, y5, y6, y7] rfl
          have B6 := only_setCells ([y0, y1, y2, y3, y4, y5, y6, y7].map (Value.int .u32)) 0 _ (only_trans (only_drewN HB4.out 1) (only_of_below g hb5))
          clear H5
          obtain ⟨w6, hw6⟩ : ∃ w6, w5.setCells g 0 ([y0, y1, y2, y3, y4, y5, y6, y7].map (Value.int .u32)) = w6 := ⟨_, rfl⟩
          rw [hw6] at H6 B6
          have hw7 : w5.setCells g 0 ([y0, y1, y2, y3, y4, y5, y6, y7].map (Value.int .u32)).toArray.toList = w6 := hw6
          rw [hw7]
          clear hw6 hw7
          have hds : ds.length < 4611686018427387904 := by have := Hn.out; omega
          have wk : wrap64 ((k : Int) + 1) = ((k + 1 : Nat) : Int) := by rw [IntWalk.wrap64_in _ (by omega)]; omega
          clear hb5 hbw hbg hm64 r2 r3 wn d1 hkl
          go_wp2
          go_roundw
          case rel =>
            have hn1 : d.all (ds.take (k + 1)) = ⟨[y0, y1, y2, y3, y4, y5, y6, y7], bb, dk.n + 1⟩ := by
              rw [Dg.all_step d ds k hlt, Hdk.out, Hc.out]
              unfold Dg.one
              rw [if_pos (by rw [Hm1.out]; exact Cm.out), Hm.out, Hbb.out, Hyt.out]
            refine ⟨k + 1, hlt, rfl, ?_, B6⟩
            rw [hn1]
            have hca : ((dk.n + 1 : Nat) : Int) = (dk.n : Int) + 1 := by omega
            dsimp only
            rw [hca]
            exact H6
          case measure =>
            show ds.length - (k + 1) < ds.length - k
            exact Nat.sub_lt_sub_left hlt (Nat.lt_succ_self k)
      · have d1 : ((m1 : Int) == 0) = false := by simp; omega
        have Cm := Aside0.mk cm
        clear cm
        go_wp2
        have hds : ds.length < 4611686018427387904 := by have := Hn.out; omega
        have wk : wrap64 ((k : Int) + 1) = ((k + 1 : Nat) : Int) := by rw [IntWalk.wrap64_in _ (by omega)]; omega
        go_roundw
        case rel =>
          have hn1 : d.all (ds.take (k + 1)) = ⟨dk.st, dk.bs.set m c, dk.n + 1⟩ := by
            rw [Dg.all_step d ds k hlt, Hdk.out, Hc.out]
            unfold Dg.one
            rw [if_neg (by rw [Hm1.out]; exact Cm.out), Hm.out]
          refine ⟨k + 1, hlt, by rw [wk], ?_, hB4⟩
          rw [hn1]
          have hca : ((dk.n + 1 : Nat) : Int) = (dk.n : Int) + 1 := by omega
          dsimp only
          rw [hca]
          exact hK4
        case measure => rw [wk]; exact Nat.sub_lt_sub_left hlt (Nat.lt_succ_self k)
    · obtain rfl : k = ds.length := by omega
      rw [List.take_length] at hK
      go_wp2
      go_end0
      exact ⟨rfl, hK, hB⟩
end Go.Proofs.YtalghfnjelcpnaaDoor
namespace Go.Proofs.YtalghfnjelcpnaaDoor
open Go.RowKit Go.Proofs.YtalghfnjelcpnaaDoorW.PrintWords Go.Proofs.YtalghfnjelcpnaaDoor.Db

section
variable {P : Program} {ops : Array Oper} {rest : List Oper} {o : Oper} {a : Act} {Q : Exit → Act → World → Prop} {w : World}
theorem build91 (hgd : o.guard = none) (x : Tmp) (ho : o.op = .build 91 #[(0, .tmp x)]) (hv : a.eval (.tmp x) = AV .u32 start8)
    (K : wpList Tryd.prog ops Q rest (a.put o.dst (.agg (HC start8 (List.replicate 64 0) 0).toArray)) w) : wpList Tryd.prog ops Q (o :: rest) a w := by
  have hb : Tryd.prog.built 91 [(0, AV .u32 start8)] = some (HC start8 (List.replicate 64 0) 0).toArray := by kernel_rfl
  refine wpList_plain hgd fun K' hK => ?_
  have h : (execOp a.eval o).run Tryd.prog w = .ok (.value (.agg (HC start8 (List.replicate 64 0) 0).toArray)) w := by
    unfold execOp
    have h1 := run_build (P := Tryd.prog) w 91 #[(0, AV .u32 start8)] _ hb
    simp [ho, hv, h1]
  unfold Oper.wp
  rw [h]
  exact hK _ _ K
theorem box_row (hgd : o.guard = none) (ty : TypeId) (x : Tmp) (ho : o.op = .box ty (.tmp x)) (cs : Array Value) (hv : a.eval (.tmp x) = .agg cs)
    (K : ∀ w', w.grownBy w' none → w'.heap.size = w.heap.size + 1 → w'.heap[w.heap.size]? = some (.cells cs ty (0, 0)) → wpList P ops Q rest (a.put o.dst (.pointer (some ⟨w.heap.size, 0, none⟩))) w') : wpList P ops Q (o :: rest) a w := by
  refine wpList_plain hgd fun K' hK => ?_
  unfold Oper.wp execOp
  simp only [ho, hv, Instr.box, newVar, Value.cells]
  exact hK _ _ (K _ (World.grownBy_alloc w _ none) (World.size_alloc _ _) (Go.heap_alloc_new w _))
end
/-- The digest of nothing. -/
def d0 : Dg := ⟨start8, List.replicate 64 0, 0⟩
set_option maxRecDepth 100000 in
theorem New_any (w : World) : Calls Tryd.prog 29 #[] w fun e w' => ∃ g, e = .returned (.pointer (some ⟨g, 0, none⟩)) ∧ w.heap.size ≤ g ∧ Hs w' g start8 (List.replicate 64 0) 0 ∧ Below w.heap.size w w' := by
  go_enter Tryd.func29, Tryd.ntmps29
  go_wp2_with (first
    | (go_at_call 28; refine (start_any _).mono ?_; rintro e w1 ⟨rfl, hb1⟩)
    | (refine build91 rfl 1 rfl rfl ?_)
    | (refine box_row rfl 91 2 rfl _ rfl ?_; intro w2 hg2 hs2 hr2))
  go_ret
  exact ⟨w1.heap.size, rfl, hb1.size, ⟨rfl, rfl, hr2⟩, hb1.grown hg2 hb1.size (by intro k e; cases e)⟩
end Go.Proofs.YtalghfnjelcpnaaDoor
namespace Go.Proofs.YtalghfnjelcpnaaDoor
open Go.RowKit Go.Proofs.YtalghfnjelcpnaaDoorW.PrintWords Go.Proofs.YtalghfnjelcpnaaDoor.Db

theorem w64 {x : Int} (h0 : -9223372036854775808 ≤ x) (h1 : x ≤ 9223372036854775807) : wrap64 x = x := by unfold wrap64; omega
theorem wu64 {x : Int} (h0 : 0 ≤ x) (h1 : x < 18446744073709551616) : IntKind.u64.wrap x = x := IntWalk.u64_in _ (by omega)
/-! ### Big -/
def bigL (n : Int) : Nat → List Int
  | 0 => []
  | t + 1 => (n / 256 ^ t) % 256 :: bigL n t
theorem bigL_length (n : Int) (t : Nat) : (bigL n t).length = t := by induction t with
  | zero => rfl
  | succ t ih => simp [bigL, ih]
theorem set_rep (m : Nat) (v : Int) (r : List Int) : (List.replicate (m + 1) 0 ++ r).set m v = List.replicate m 0 ++ v :: r := by
  rw [List.replicate_succ', List.append_assoc, List.set_append_right _ _ (by simp)]
  simp
theorem div_pow_succ (n : Int) (t : Nat) : n / 256 ^ t / 256 = n / 256 ^ (t + 1) := by
  rw [Int.ediv_ediv_of_nonneg (Int.pow_nonneg (by decide)), ← Int.pow_succ]
theorem big_go (n : Int) (m : Nat) (hm : m ≤ 8) (d : Nat) : ∀ (k t : Nat), t ≤ m → m - t = d → d < k →
    hex_Big.l0 k (n / 256 ^ t) (List.replicate (m - t) 0 ++ bigL n t) ((m : Int) - t - 1) = some (bigL n m) := by
  induction d with
  | zero =>
    intro k t h0 h1 hk
    obtain ⟨k, rfl⟩ : ∃ m, k = m + 1 := ⟨k - 1, by omega⟩
    obtain rfl : t = m := by omega
    simp only [hex_Big.l0]
    rw [if_neg (by omega)]
    simp
  | succ d ih =>
    intro k t h0 h1 hk
    obtain ⟨k, rfl⟩ : ∃ m, k = m + 1 := ⟨k - 1, by omega⟩
    simp only [hex_Big.l0]
    rw [if_pos (by omega), if_pos (by omega), if_pos (by simp only [List.length_append, List.length_replicate, bigL_length]; omega), w64 (by omega) (by omega), div_pow_succ,
      show ((m : Int) - t - 1).toNat = m - (t + 1) by omega, show m - t = m - (t + 1) + 1 by omega, set_rep]
    have := ih k (t + 1) (by omega) (by omega) (by omega)
    rw [show (m : Int) - t - 1 - 1 = (m : Int) - ((t + 1 : Nat) : Int) - 1 by omega]
    exact this
theorem big_ev (n : Int) (s : Int) (h0 : -9223372036854775808 ≤ s) : ∀ k, 9 < k → hex_Big.f k n s = some (bigL n (min s.toNat 8)) := by
  intro k hk
  unfold hex_Big.f
  by_cases c : s < 1
  · rw [if_pos c, show s.toNat = 0 by omega]; rfl
  · rw [if_neg c]
    have e : mn s 8 = ((min s.toNat 8 : Nat) : Int) := by unfold mn; split <;> omega
    rw [e, if_pos (by omega), if_pos (by omega)]
    simp only [Option.bind_some, Int.toNat_natCast, List.length_replicate]
    rw [w64 (by omega) (by omega)]
    have := big_go n (min s.toNat 8) (by omega) (min s.toNat 8) k 0 (by omega) (by omega) (by omega)
    simpa [bigL] using this
theorem bs' {α β : Type} (a : α) (f : α → Option β) : (some a).bind f = f a := by
  cases h : f a <;> simp [h]
/-- The padding of n bytes. -/
def pl (n : Nat) : List Int := (List.replicate (1 + (119 - n % 64) % 64) 0).set 0 128 ++ bigL (8 * n : Nat) 8
theorem pl_len (n : Nat) : (pl n).length = 9 + (119 - n % 64) % 64 := by unfold pl; simp [bigL_length]; omega
theorem pad_ev (n : Nat) (hn : n < 1152921504606846976) (k : Nat) (hk : 9 < k) : sha_Pad.f k (n : Int) = some (pl n) := by
  have e0 : Int.tmod (n : Int) 64 = ((n % 64 : Nat) : Int) := by rw [Int.tmod_eq_emod_of_nonneg (by omega)]; omega
  obtain ⟨m, hm⟩ : ∃ m, n % 64 = m := ⟨_, rfl⟩
  have hm64 : m < 64 := by omega
  have e1 : IntKind.u64.wrap (119 - (m : Int)) = ((119 - m : Nat) : Int) := by rw [wu64 (by omega) (by omega)]; omega
  have e2 : Int.tmod ((119 - m : Nat) : Int) 64 = (((119 - m) % 64 : Nat) : Int) := by rw [Int.tmod_eq_emod_of_nonneg (by omega)]; omega
  obtain ⟨q, hq⟩ : ∃ q, (119 - m) % 64 = q := ⟨_, rfl⟩
  have hq64 : q < 64 := by omega
  have e3 : IntKind.u64.wrap (1 + (q : Int)) = ((1 + q : Nat) : Int) := by rw [wu64 (by omega) (by omega)]; omega
  have e4 : IntKind.u64.wrap (8 * (n : Int)) = ((8 * n : Nat) : Int) := by rw [wu64 (by omega) (by omega)]; omega
  unfold sha_Pad.f
  rw [e0, hm, e1, e2, hq, e3, e4, if_pos (by omega), if_pos (by omega)]
  simp only [Int.toNat_natCast, bs']
  rw [if_pos (by simp; omega), big_ev _ 8 (by omega) k hk]
  simp only [bs']
  rw [if_pos (by simp [bigL_length]; omega)]
  unfold pl
  rw [hm, hq]
  rfl
/-- A digest's bytes. -/
def outs (l : List Int) : List Int := l.flatMap fun x => bigL x 4
theorem outs_len (l : List Int) : (outs l).length = 4 * l.length := by
  induction l with
  | nil => rfl
  | cons x l ih => simp only [outs, List.flatMap_cons, List.length_append, bigL_length, List.length_cons] at ih ⊢; omega
theorem outs_take (l : List Int) (k : Nat) (h : k < l.length) : outs (l.take (k + 1)) = outs (l.take k) ++ bigL (l.getD k 0) 4 := by
  unfold outs
  rw [List.take_succ_eq_append_getElem h, List.flatMap_append, List.getD_eq_getElem?_getD, List.getElem?_eq_getElem h]
  simp only [List.flatMap_cons, List.flatMap_nil, List.append_nil, Option.getD_some]
/-- The digest of what was written. -/
def dig (d : Dg) : List Int := outs (d.all (pl d.n)).st

section
variable {P : Program} {ops : Array Oper} {rest : List Oper} {o : Oper} {a : Act} {Q : Exit → Act → World → Prop} {K' : Act → World → Prop} {w w1 : World} {st bs xs : List Int} {n : Int} {g : Nat}
theorem load_hs (hgd : o.guard = none) (x : Tmp) (ho : o.op = .load 91 (.tmp x)) (g : Nat) (hx : a.eval (.tmp x) = .pointer (some ⟨g, 0, none⟩)) (h : Hs w g st bs n)
    (K : wpList Tryd.prog ops Q rest (a.put o.dst (.agg (HC st bs n).toArray)) w) : wpList Tryd.prog ops Q (o :: rest) a w :=
  wpList_load_row hgd 91 (.tmp x) ho g hx 91 _ (0, 0) _ h.row Tryd.underlying91 rfl (by rw [List.size_toArray, HC_len h.ls h.lb]; kernel_rfl) K
theorem HC_one {st bs : List Int} {n : Int} : ∀ v ∈ HC st bs n, v.oneCell' = true := by
  intro v hv
  unfold HC at hv
  simp only [List.mem_append, List.mem_map, List.mem_singleton] at hv
  rcases hv with ⟨z, _, rfl⟩ | ⟨z, _, rfl⟩ | rfl <;> rfl
theorem store_hs (hgd : o.guard = none) (x v : Tmp) (ho : o.op = .store 91 (.tmp x) (.tmp v)) (hN : o.dst = none) (g : Nat) (hx : a.eval (.tmp x) = .pointer (some ⟨g, 0, none⟩)) (hv : a.eval (.tmp v) = .agg (HC st bs n).toArray) (h1 : st.length = 8) (h2 : bs.length = 64)
    (old : Array Value) (h : w.heap[g]? = some (.cells old 91 (0, 0))) (hl : old.size = 73)
    (K : ∀ w', w.grownBy w' (some g) → w'.heap.size = w.heap.size → Hs w' g st bs n → wpList Tryd.prog ops Q rest a w') : wpList Tryd.prog ops Q (o :: rest) a w := by
  refine wpList_plain hgd fun K' hK => ?_
  refine wp_store_row 91 (.tmp x) (.tmp v) ho g _ hx hv 91 _ h (by rw [List.size_toArray, HC_len h1 h2]; kernel_rfl) (hl.trans (by rw [List.size_toArray, HC_len h1 h2])) (all_oneCell_toArray HC_one) ?_
  rw [hN]
  exact hK _ _ (K _ (setRow_grown w g _) (setRow_size w g _) ⟨h1, h2, setRow_heap w g _ _ 91 (0, 0) h⟩)
theorem index_arr (hgd : o.guard = none) (x i : Tmp) (ho : o.op = .index 29 (.tmp x) (.tmp i)) (k : Nat) (hx : a.eval (.tmp x) = AV .u32 xs) (hi : a.eval (.tmp i) = .int .i64 k) (hl : xs.length = 8) (hk : k < 8)
    (K : wpList Tryd.prog ops Q rest (a.put o.dst (.int .u32 (xs.getD k 0))) w) : wpList Tryd.prog ops Q (o :: rest) a w := by
  have h : (Instr.index 29 (AV .u32 xs) (.int .i64 k)).run Tryd.prog w = .ok (.int .u32 (xs.getD k 0)) w := by
    have hs : (sizeOf 28).run Tryd.prog w = .ok 1 w := by kernel_rfl
    have hp : (part 28 (xs.map (Value.int .u32)).toArray k).run Tryd.prog w = .ok (.int .u32 (xs.getD k 0)) w := by
      have hag : (isAgg 28).run Tryd.prog w = .ok false w := by kernel_rfl
      unfold part
      simp [Sem.run_bind, hag, List.getD_eq_getElem?_getD, List.getElem?_eq_getElem (show k < xs.length by omega)]
    unfold AV
    simp [Instr.index, asIntOf, run_underlying Tryd.underlying29, Sem.run_bind, hs, hk, hp]
  refine wpList_plain hgd fun K' hK => ?_
  unfold Oper.wp execOp
  simp only [ho, hx, hi, Sem.run_bind, h, Result.andThen_ok]
  exact hK _ _ K
theorem wp_copy (s x : Operand) (ho : o.op = .call { callee := .builtin .copy, args := #[s, x], argTypes := #[22, 22] }) (b off dLen dCap : Nat) (ad : Addr) (m c : Nat) (news : List Value) (hs : a.eval s = .slice (some ⟨b, off, none⟩) dLen dCap) (hx : a.eval x = .slice (some ad) m c)
    (hn : news.length = Nat.min m dLen) (hsrc : ∀ j v, news[j]? = some v → w.cell? (ad.add j) = some v) (hc : ∀ j, j < news.length → (w.cell? ⟨b, off + j, none⟩).isSome = true) (hf : ∀ j, j < news.length → w.frozen? ⟨b, off + j, none⟩ = false) (h1 : ∀ v ∈ news, v.oneCell' = true)
    (h : K' (a.put o.dst (goInt news.length)) (w.setCells b off news)) : o.wp Tryd.prog a w K' Q := by
  have hrun := run_copy_cells (P := Tryd.prog) w 22 22 o.type 5 b off dLen dCap ad m c news Tryd.underlying22 (by kernel_rfl) hn hsrc hc hf h1
  unfold Oper.wp
  simp [execOp, ho, resolve, invoke, builtin, hs, hx, hrun, Result.andThen]
  exact h
end
theorem slice_out (g k : Nat) (hk : k < 8) (W : World) : (Instr.sliceAt 24 (.pointer (some ⟨g, 0, none⟩)) (some (.int .i64 (4 * (k : Int)))) none none).run Tryd.prog W = .ok (.slice (some ⟨g, 4 * k, none⟩) (32 - 4 * k) (32 - 4 * k)) W := by
  have hal : Tryd.prog.arrayLen 24 = 32 := by kernel_rfl
  rw [run_sliceAt_array_l W 24 ⟨g, 0, none⟩ (by kernel_rfl) .i64 (4 * (k : Int)) (by omega) (by rw [hal]; omega)]
  have e1 : (4 * (k : Int)).toNat = 4 * k := by omega
  rw [e1, hal]
  have hs : (sizeOf (Tryd.prog.elem 24)).run Tryd.prog W = .ok 1 W := by kernel_rfl
  rw [hs]
  unfold Result.andThen slicedAt
  simp only [Addr.add, Nat.mul_one, Nat.zero_add]
  rw [if_neg (by omega)]
  by_cases c : 4 * k = 0
  · simp only [c, if_true]
  · simp only [c, if_false]
/-- The cells of a row of bytes of the call's own. -/
theorem R_cells {w : World} {base : Nat} {ok : Nat → Prop} {v : Value} {r : List Int} (h : Kd.R (Kd.int .u8) 5 w base ok v r) :
    ∃ p c, v = .slice p r.length c ∧ ∀ i, i < r.length → ∃ b o, p = some ⟨b, o, none⟩ ∧ base ≤ b ∧ b < w.heap.size ∧ w.cell? ⟨b, o + i, none⟩ = some (.int .u8 (r.getD i 0)) := by
  have hb := Kd.R_base h
  have hlt := Kd.R_lt h
  obtain ⟨p, c, rfl, hl, hr⟩ := Kd.R_reads h
  refine ⟨p, c, rfl, fun i hi => ?_⟩
  have hh := Kd.reads_of_C (d := (0 : Int)) hr
  obtain ⟨ad, rfl, hc⟩ := hh.2.2 (by omega)
  have hc1 := hc i (by omega)
  obtain ⟨b, rfl⟩ := Kd.R_head h
  exact ⟨b, 0, rfl, hb b (by simp [Value.ownBlock]), hlt b (by simp [Value.ownBlock]), by rw [Addr.add_mid] at hc1; exact hc1⟩
theorem below_setCells {B : Nat} {a : World} {g : Nat} (hB : B ≤ g) (vs : List Value) : ∀ (o : Nat) (b : World), Below B a b → Below B a (b.setCells g o vs) := by
  induction vs with
  | nil => intro o b h; exact h
  | cons v r ih => intro o b h; rw [World.setCells]; exact ih _ _ (h.setCell hB v)
theorem Arr.setCells {w : World} {g : Nat} {k : IntKind} {T : TypeId} (pre old post vs : List Int) (hl : old.length = vs.length) (h : Arr w g k T (pre ++ (old ++ post))) : Arr (w.setCells g pre.length (vs.map (Value.int k))) g k T (pre ++ (vs ++ post)) := by
  unfold Arr at h ⊢
  have := heap_setCells T (vs.map (Value.int k)) (pre.map (Value.int k)) (old.map (Value.int k)) (post.map (Value.int k)) w (by simp [hl]) (by rw [h]; simp)
  rw [List.length_map] at this
  rw [this]
  simp
end Go.Proofs.YtalghfnjelcpnaaDoor
namespace Go.Proofs.YtalghfnjelcpnaaDoor
set_option linter.unusedSimpArgs false
open Go.RowKit Go.Proofs.YtalghfnjelcpnaaDoorW.PrintWords Go.Proofs.YtalghfnjelcpnaaDoor.Db

theorem bigL_wrap (x : Int) : bigL (IntKind.u64.wrap x) (min (4 : Int).toNat 8) = bigL x 4 := by
  show bigL (x % 18446744073709551616) 4 = bigL x 4
  simp only [bigL]
  refine List.cons_eq_cons.2 ⟨by omega, List.cons_eq_cons.2 ⟨by omega, List.cons_eq_cons.2 ⟨by omega, List.cons_eq_cons.2 ⟨by omega, rfl⟩⟩⟩⟩
theorem Hs.new_at {w : World} {o : Obj} {g : Nat} {st bs : List Int} {n : Int} (h : w.heap.size = g) (h1 : st.length = 8) (h2 : bs.length = 64) (ho : o = .cells (HC st bs n).toArray 91) : Hs (w.alloc o) g st bs n := by
  subst h ho
  exact ⟨h1, h2, Go.heap_alloc_new w _⟩
set_option maxHeartbeats 4000000 in
set_option maxRecDepth 100000 in
theorem HSum_any (g : Nat) (d : Dg) (w : World) (hR : Rounds w) (hH : Hs w g d.st d.bs d.n) (hn : d.n < 1152921504606846976) :
    Calls Tryd.prog 31 #[.pointer (some ⟨g, 0, none⟩)] w fun e w' => e = .returned (AV .u8 (dig d)) ∧ Below w.heap.size w w' := by
  obtain ⟨ys, hys⟩ : ∃ ys, dig d = ys := ⟨_, rfl⟩
  obtain ⟨E, hE0⟩ : ∃ E, d.all (pl d.n) = E := ⟨_, rfl⟩
  have hyE : outs E.st = ys := by rw [← hE0]; exact hys
  rw [hys]
  have Hys := Aside0.mk hyE
  have HE := Aside0.mk hE0
  have HR := Aside0.mk hR
  have Hn := Aside0.mk hn
  have hgl := Aside0.mk hH.lt
  clear hys hyE hE0 hR hn
  go_enter Tryd.func31, Tryd.ntmps31
  go_wp2_with (first
    | (refine load_hs rfl 8 rfl g rfl (hH.alloc _) ?_)
    | (refine store_hs rfl 3 9 rfl rfl (w.heap.size + 1) rfl rfl hH.ls hH.lb _ (Hs.new_at (st := List.replicate 8 0) (bs := List.replicate 64 0) (n := 0) (World.size_alloc _ _) rfl rfl rfl).row rfl ?_; intro w3 hg3 hs3 hH3; rw [World.size_alloc, World.size_alloc] at hs3; have hG3 : Hs w3 g d.st d.bs d.n := ((hH.alloc _).alloc _).grown hg3 (by have := hgl.out; simp; omega); have c3 := hG3.cn; have hZ3 : Arr w3 w.heap.size .u8 24 (List.replicate 32 0) := Arr.grown ((Arr.new_at (k := .u8) (T := 24) (xs := List.replicate 32 0) (w := w) rfl rfl).alloc _) hg3 (by simp); have hb3 : Below w.heap.size w w3 := ((((Below.refl _ w).alloc (Nat.le_refl _) _).alloc (by simp) _)).grown hg3 (by simp; omega) (by intro k e; cases e; omega))
    | (go_at_call 25; refine (sha_Pad.calls 100 d.n (pl d.n) _ (pad_ev d.n Hn.out 100 (by omega))).mono ?_; rintro e w4 ⟨v4, rfl, ho4, hb4⟩; obtain ⟨p4, c4, rfl, hc4⟩ := R_cells ho4)
    | (go_at_call 30; refine (Write_any p4 c4 (w.heap.size + 1) (pl d.n) d w4 (HR.out.below (hb3.trans (hb4.mono hb3.size)) HR.out.pos) (by omega) (hH3.below hb4 (by omega)) (by have := Hn.out; rw [pl_len]; omega) (fun i hi => by obtain ⟨b, o, e1, h1, h2, h3⟩ := hc4 i hi; exact ⟨b, o, e1, by omega, h2, h3⟩)).mono ?_; rintro e w5 ⟨rfl, hH5, hb5⟩; rw [HE.out] at hH5; have hZ5 : Arr w5 w.heap.size .u8 24 (List.replicate 32 0) := (hZ3.below hb4 (by omega)).grown hb5 (by simp); have hB5 : Below w.heap.size w w5 := (hb3.trans (hb4.mono hb3.size)).grown hb5 (by have := hb3.size; have := hb4.size; omega) (by intro k e; cases e; omega); have hsz5 : w.heap.size + 1 < w5.heap.size := hH5.lt)
    | (refine wpList_load_mid rfl 29 (.tmp 16) rfl (w.heap.size + 1) 0 rfl (E.st.map (Value.int .u32)) _ (hH5.alloc _).rs Tryd.underlying29 rfl (by rw [List.length_map, hH5.ls]; kernel_rfl) ?_))
  have hEl := Aside0.mk hH5.ls
  have hA6 : Arr (w5.alloc (.cells ((List.replicate 32 0).map (Value.int .u8)).toArray 24)) w5.heap.size .u8 24 (List.replicate 32 0) := Arr.new_at rfl rfl
  have hZ6 : Arr (w5.alloc (.cells ((List.replicate 32 0).map (Value.int .u8)).toArray 24)) w.heap.size .u8 24 (List.replicate 32 0) := hZ5.alloc _
  have hB6 : Below w.heap.size w (w5.alloc (.cells ((List.replicate 32 0).map (Value.int .u8)).toArray 24)) := hB5.alloc hB5.size _
  have Hsz5 := Aside0.mk hsz5
  clear hH3 hG3 c3 hZ3 hb3 hs3 hg3 ho4 hb4 hc4 hb5 hZ5 hB5 hH5 hH hsz5
  go_loopw [18] (fun i wr => ∃ k : Nat, k ≤ 8 ∧ i = .int .i64 k ∧ Arr wr w5.heap.size .u8 24 (outs (E.st.take k) ++ List.replicate (32 - 4 * k) 0) ∧ Arr wr w.heap.size .u8 24 (List.replicate 32 0) ∧ Below w.heap.size w wr)
    (fun i _ => 8 - (intOf i).toNat)
  case atStart => exact ⟨0, by omega, rfl, hA6, hZ6, hB6⟩
  case round =>
    clear hA6 hZ6 hB6
    obtain ⟨k, hk, rfl, hA, hZ, hB⟩ := hrel
    by_cases hlt : k < 8
    · obtain ⟨x, hx0⟩ : ∃ x, E.st.getD k 0 = x := ⟨_, rfl⟩
      have hx := Aside0.mk hx0
      have d1 : ((k : Int) < 8) := by omega
      have d2 : IntKind.i64.wrap (4 * (k : Int)) = 4 * k := IntWalk.i64_in _ (by omega)
      have d3 : wrap64 (4 * (k : Int)) = 4 * k := IntWalk.wrap64_in _ (by omega)
      have sl := slice_out w5.heap.size k hlt
      clear hx0
      go_wp2_with (first | (refine index_arr rfl 17 18 rfl k rfl rfl hEl.out hlt ?_; rw [hx.out]))
      have e32 : List.replicate (32 - 4 * k) (0 : Int) = List.replicate 4 0 ++ List.replicate (28 - 4 * k) 0 := by rw [List.replicate_append_replicate]; congr 1; omega
      rw [e32] at hA
      have hAq : Arr wr.drew w5.heap.size .u8 24 (outs (E.st.take k) ++ (List.replicate 4 0 ++ List.replicate (28 - 4 * k) 0)) := hA
      have hZq : Arr wr.drew w.heap.size .u8 24 (List.replicate 32 0) := hZ
      have hBq : Below w.heap.size w wr.drew := pw_below_drewN hB 1
      have hBlt : w5.heap.size < wr.drew.heap.size := hAq.lt
      have hZlt : w.heap.size < wr.drew.heap.size := hZq.lt
      clear hA hZ hB e32
      refine wp_region_any (by kernel_rfl) ?_
      change wpAny _ _ _ _ _ _ _ (World.drew _)
      refine wpAny_take (i := 0) (oi := { dst := some 22, op := Go.Op.move (Go.Operand.tmp 5), type := 3, pos := "sha.go:109", after := #[], guard := none }) (v := ?v0) rfl (by kernel_rfl) (by kernel_rfl) (by kernel_rfl) (fun _ _ _ h => h) (Or.inl ⟨by rfl, fun w => ?hy0⟩) ?rest0
      case hy0 => go_simp; (first | done | (with_reducible rfl))
      simp only [Act.put, List.setIfInBounds_toArray, List.set_cons_zero, List.set_cons_succ]
      refine wpAny_take (i := 1) (oi := { dst := some 23, op := Go.Op.binOp Go.BinOp.mul 3 (Go.Operand.const (Go.Value.int Go.IntKind.i64 4)) (Go.Operand.tmp 22) 3, type := 3, pos := "sha.go:109", after := #[{ on := 0, ground := Go.Ground.data }], guard := none }) (v := ?v1) rfl (by kernel_rfl) (by kernel_rfl) (by kernel_rfl) (fun _ _ _ h => h) (Or.inl ⟨by rfl, fun w => ?hy1⟩) ?rest1
      case hy1 => go_simp; (first | done | (with_reducible rfl))
      simp only [Act.put, List.setIfInBounds_toArray, List.set_cons_zero, List.set_cons_succ]
      refine wpAny_take (i := 2) (oi := { dst := some 24, op := Go.Op.slice 24 (Go.Operand.tmp 4) (some (Go.Operand.tmp 23)) none none, type := 22, pos := "sha.go:109", after := #[{ on := 1, ground := Go.Ground.data }], guard := none }) (v := ?v2) rfl (by kernel_rfl) (by kernel_rfl) (by kernel_rfl) (fun _ _ _ h => h) (Or.inl ⟨by rfl, fun w => ?hy2⟩) ?rest2
      case hy2 => go_simp; (first | done | (with_reducible rfl))
      simp only [Act.put, List.setIfInBounds_toArray, List.set_cons_zero, List.set_cons_succ]
      refine wpAny_take (i := 3) (oi := { dst := some 25, op := Go.Op.move (Go.Operand.tmp 6), type := 28, pos := "sha.go:109", after := #[], guard := none }) (v := ?v3) rfl (by kernel_rfl) (by kernel_rfl) (by kernel_rfl) (fun _ _ _ h => h) (Or.inl ⟨by rfl, fun w => ?hy3⟩) ?rest3
      case hy3 => go_simp; (first | done | (with_reducible rfl))
      simp only [Act.put, List.setIfInBounds_toArray, List.set_cons_zero, List.set_cons_succ]
      refine wpAny_take (i := 4) (oi := { dst := some 26, op := Go.Op.convert 28 31 (Go.Operand.tmp 25), type := 31, pos := "sha.go:109", after := #[{ on := 3, ground := Go.Ground.data }], guard := none }) (v := ?v4) rfl (by kernel_rfl) (by kernel_rfl) (by kernel_rfl) (fun _ _ _ h => h) (Or.inl ⟨by rfl, fun w => ?hy4⟩) ?rest4
      case hy4 => go_simp; (first | done | (with_reducible rfl))
      simp only [Act.put, List.setIfInBounds_toArray, List.set_cons_zero, List.set_cons_succ]
      refine wpAny_ready (rs := [5]) (by kernel_rfl) (by simp) ?_
      refine AllReady.cons (o := { dst := some 27, op := Go.Op.call { callee := Go.Callee.value (Go.Operand.func 61), args := #[Go.Operand.tmp 26, Go.Operand.const (Go.Value.int Go.IntKind.i64 4)], argTypes := #[31, 3] }, type := 22, pos := "sha.go:109", after := #[{ on := 4, ground := Go.Ground.data }], guard := none }) rfl (fun K hK => ?_) (AllReady.nil)
      go_simp
      go_at_call 61
      refine (hex_Big.calls 100 (IntKind.u64.wrap x) 4 (bigL x 4) _ (by rw [big_ev _ 4 (by omega) 100 (by omega), bigL_wrap])).mono ?_
      rintro e w8 ⟨v8, rfl, ho8, hb8⟩
      obtain ⟨p8, c8, rfl, hc8⟩ := R_cells ho8
      refine hK _ _ ?_
      clear hK K
      try simp only [Act.put, List.setIfInBounds_toArray, List.set_cons_zero, List.set_cons_succ]
      refine wpAny_ready (rs := [6]) (by kernel_rfl) (by simp) ?_
      refine AllReady.cons (o := { dst := some 28, op := Go.Op.call { callee := Go.Callee.builtin Go.Builtin.copy, args := #[Go.Operand.tmp 24, Go.Operand.tmp 27], argTypes := #[22, 22] }, type := 3, pos := "sha.go:109", after := #[{ on := 2, ground := Go.Ground.data }, { on := 5, ground := Go.Ground.data }, { on := 5, ground := Go.Ground.chain }], guard := none }) rfl (fun K hK => ?_) (AllReady.nil)
      have hA8 : Arr w8 w5.heap.size .u8 24 (outs (E.st.take k) ++ (List.replicate 4 0 ++ List.replicate (28 - 4 * k) 0)) := hAq.below hb8 hBlt
      have hZ8 : Arr w8 w.heap.size .u8 24 (List.replicate 32 0) := hZq.below hb8 hZlt
      have hB8 : Below w.heap.size w w8 := hBq.trans (hb8.mono hBq.size)
      obtain ⟨b8, o8, rfl, _, _, _⟩ := hc8 0 (by rw [bigL_length]; omega)
      have hs8 : ∀ j v, ((bigL x 4).map (Value.int .u8))[j]? = some v → w8.cell? ((⟨b8, o8, none⟩ : Addr).add j) = some v := by
        intro j v hv
        have hj : j < (bigL x 4).length := by have := (List.getElem?_eq_some_iff.1 hv).1; simpa using this
        obtain ⟨b, o, e, _, _, hcc⟩ := hc8 j hj
        cases e
        rw [Addr.add_mid, hcc, ← hv, List.getElem?_map, List.getElem?_eq_getElem hj]
        simp [List.getD_eq_getElem?_getD, List.getElem?_eq_getElem hj]
      have hol : (outs (E.st.take k)).length = 4 * k := by rw [outs_len, List.length_take, hEl.out]; omega
      have hin : ∀ j, j < ((bigL x 4).map (Value.int .u8)).length → (w8.cell? ⟨w5.heap.size, 4 * k + j, none⟩).isSome = true := by
        intro j hj
        rw [List.length_map, bigL_length] at hj
        rw [hA8.cell (i := 4 * k + j) (by simp [hol]; omega)]
        rfl
      have hfr : ∀ j, j < ((bigL x 4).map (Value.int .u8)).length → w8.frozen? ⟨w5.heap.size, 4 * k + j, none⟩ = false := fun j _ => hA8.free _
      have hnn : ((bigL x 4).map (Value.int .u8)).length = Nat.min 4 (32 - 4 * k) := by
        rw [List.length_map, bigL_length]
        exact (Nat.min_eq_left (by omega)).symm
      have hA9 := hA8.setCells _ _ _ (bigL x 4) (by rw [bigL_length]; rfl)
      rw [hol] at hA9
      have h55 := Hsz5.out
      have hZ9 := hZ8.grown (only_setCells ((bigL x 4).map (Value.int .u8)) (4 * k) w8 (only_refl w8 w5.heap.size)) (by simp; omega)
      have hB9 := below_setCells (g := w5.heap.size) (by omega) ((bigL x 4).map (Value.int .u8)) (4 * k) w8 hB8
      rw [if_pos (by rfl)]
      refine wp_copy (.tmp 24) (.tmp 27) rfl w5.heap.size (4 * k) (32 - 4 * k) (32 - 4 * k) ⟨b8, o8, none⟩ 4 c8 ((bigL x 4).map (Value.int .u8)) rfl rfl hnn hs8 hin hfr (one_cells _) ?_
      refine hK _ _ ?_
      clear hK K
      try simp only [Act.put, List.setIfInBounds_toArray, List.set_cons_zero, List.set_cons_succ]
      refine wpAny_done (by kernel_rfl) ?_ _
      obtain ⟨w9, hw9⟩ : ∃ w9, w8.setCells w5.heap.size (4 * k) ((bigL x 4).map (Value.int .u8)) = w9 := ⟨_, rfl⟩
      rw [hw9] at hA9 hZ9 hB9
      rw [hw9]
      clear hw9 hA8 hZ8 hB8 hs8 hin hfr hnn hc8 ho8 hb8
      go_wp2
      go_roundw
      case rel =>
        refine ⟨k + 1, hlt, rfl, ?_, hZ9, hB9⟩
        rw [outs_take E.st k (by rw [hEl.out]; exact hlt), hx.out, List.append_assoc, show 32 - 4 * (k + 1) = 28 - 4 * k by omega]
        exact hA9
      case measure =>
        show 8 - (k + 1) < 8 - k
        exact Nat.sub_lt_sub_left hlt (Nat.lt_succ_self k)
    · obtain rfl : k = 8 := by omega
      have hl8 := hEl.out
      rw [List.take_of_length_le (by omega), Hys.out, show 32 - 4 * 8 = 0 from rfl, List.replicate_zero, List.append_nil] at hA
      have hyl : ys.length = 32 := by rw [← Hys.out, outs_len, hl8]
      have Hyl := Aside0.mk hyl
      clear hl8 hyl
      go_wp2_with (first | (refine load_arr rfl 24 4 rfl w5.heap.size rfl hA Tryd.underlying24 (by rw [Hyl.out]; kernel_rfl) ?_) | (refine store_arr rfl 24 2 30 rfl rfl w.heap.size rfl rfl hZ (by rw [Hyl.out]; rfl) (by rw [Hyl.out]; kernel_rfl) ?_; intro w8 hg8 hs8 hA8))
      exact ret_arr 2 24 (by kernel_rfl) rfl hA8 Tryd.underlying24 (by rw [Hyl.out]; kernel_rfl) rfl ⟨rfl, hB.grown hg8 (Nat.le_of_lt hZ.lt) (fun k e => by cases e; omega)⟩
end Go.Proofs.YtalghfnjelcpnaaDoor
namespace Go.Proofs.YtalghfnjelcpnaaDoor
open Go.RowKit Go.Proofs.YtalghfnjelcpnaaDoorW.PrintWords Go.Proofs.YtalghfnjelcpnaaDoor.Db

theorem Len_any (g : Nat) (st bs : List Int) (n : Int) (w : World) (hH : Hs w g st bs n) : Calls Tryd.prog 32 #[.pointer (some ⟨g, 0, none⟩)] w fun e w' => e = .returned (.int .u64 n) ∧ w' = w := by
  have c := hH.cn
  clear hH
  go_enter Tryd.func32, Tryd.ntmps32
  go_wp2
  go_ret
  exact ⟨rfl, rfl⟩
/-- The digest of bytes. -/
def sumL (l : List Int) : List Int := dig (d0.all l)
theorem Dg.one_len (d : Dg) (c : Int) (h : d.st.length = 8) : (d.one c).st.length = 8 := by
  unfold Dg.one
  split
  · exact tr_len _ _ h
  · exact h
theorem Dg.all_len (cs : List Int) : ∀ d : Dg, d.st.length = 8 → (d.all cs).st.length = 8 := by
  induction cs with
  | nil => intro d h; exact h
  | cons c r ih => intro d h; exact ih (d.one c) (Dg.one_len d c h)
theorem dig_len (d : Dg) (h : d.st.length = 8) : (dig d).length = 32 := by
  unfold dig
  rw [outs_len, Dg.all_len _ _ h]
theorem sumL_len (l : List Int) : (sumL l).length = 32 := dig_len _ (Dg.all_len _ _ rfl)
theorem Dg.all_app (d : Dg) (a b : List Int) : d.all (a ++ b) = (d.all a).all b := by unfold Dg.all; rw [List.foldl_append]
theorem row_cells {w : World} {A : Option Addr} {n : Nat} {xs : List Int} (h : Kd.C (Kd.int .u8) w A n xs) (i : Nat) (hi : i < n) :
    ∃ b o, A = some ⟨b, o, none⟩ ∧ b < w.heap.size ∧ w.cell? ⟨b, o + i, none⟩ = some (.int .u8 (xs.getD i 0)) := by
  have hh := Kd.reads_of_C (d := (0 : Int)) h
  obtain ⟨ad, rfl, hc⟩ := hh.2.2 (by omega)
  have c0 := hc 0 (by omega)
  have ci := hc i hi
  have e0 : ad.add 0 = ad := by simp [Addr.add]
  rw [e0] at c0
  have hsp := World.cell?_spot c0
  obtain ⟨b, o, s⟩ := ad
  cases hsp
  rw [Addr.add_mid] at ci
  exact ⟨b, o, rfl, World.block_lt_of_cell? w _ c0, ci⟩
theorem parts_cell {w : World} {A : Option Addr} {n : Nat} {ps : List (List Int)} (h : Kd.C (Kd.slice 5 (Kd.int .u8)) w A n ps) (i : Nat) (hi : i < n) :
    ∃ b o p c, A = some ⟨b, o, none⟩ ∧ b < w.heap.size ∧ w.cell? ⟨b, o + i, none⟩ = some (.slice p (ps.getD i []).length c) ∧ Kd.C (Kd.int .u8) w p (ps.getD i []).length (ps.getD i []) := by
  obtain ⟨ad0, c0, e0, _, hK0, hc0⟩ := Kd.C_get h [] 0 (by omega) (by omega)
  obtain ⟨A0, k0, rfl, _, _⟩ := hK0
  have h0 := hc0 0 _ rfl
  obtain ⟨ad, c, e, _, hK, hc⟩ := Kd.C_get h [] (i : Int) (by omega) (by omega)
  obtain ⟨A1, c1, rfl, hl, hr⟩ := hK
  have h1 := hc 0 _ rfl
  rw [e0] at e
  cases e
  have e1 : ad0.add ((0 : Int).toNat * (Kd.slice 5 (Kd.int .u8)).sz + 0) = ad0 := by simp [Addr.add]
  rw [e1] at h0
  have hsp := World.cell?_spot h0
  obtain ⟨b, o, s⟩ := ad0
  cases hsp
  rw [Addr.add_mid, show ((i : Int).toNat * (Kd.slice 5 (Kd.int .u8)).sz + 0) = i by simp [Kd.slice]] at h1
  exact ⟨b, o, A1, c1, e0, World.block_lt_of_cell? w _ h0, h1, hr⟩
theorem flat_step (ps : List (List Int)) (k : Nat) (h : k < ps.length) : (ps.take (k + 1)).flatten = (ps.take k).flatten ++ ps.getD k [] := by
  rw [List.take_succ_eq_append_getElem h, List.flatten_append, List.getD_eq_getElem?_getD, List.getElem?_eq_getElem h]
  simp only [List.flatten_cons, List.flatten_nil, List.append_nil, Option.getD_some]
theorem flat_le (ps : List (List Int)) (k : Nat) : (ps.take k).flatten.length ≤ ps.flatten.length := by
  have h : ps.flatten = (ps.take k).flatten ++ (ps.drop k).flatten := by rw [← List.flatten_append, List.take_append_drop]
  rw [h, List.length_append]
  omega
set_option maxHeartbeats 4000000 in
set_option maxRecDepth 100000 in
theorem SSum_any (A : Option Addr) (cap : Nat) (ps : List (List Int)) (w : World) (hR : Rounds w) (hC : Kd.C (Kd.slice 5 (Kd.int .u8)) w A ps.length ps) (hs : ps.flatten.length < 1152921504606846976) :
    Calls Tryd.prog 21 #[.slice A ps.length cap] w fun e w' => e = .returned (AV .u8 (sumL ps.flatten)) ∧ Below w.heap.size w w' := by
  obtain ⟨ys, hys⟩ : ∃ ys, sumL ps.flatten = ys := ⟨_, rfl⟩
  have hyl : ys.length = 32 := by
    rw [← hys]
    exact sumL_len _
  rw [hys]
  have Hys := Aside0.mk hys
  have Hyl := Aside0.mk hyl
  have HR := Aside0.mk hR
  have HC := Aside0.mk hC
  have HS := Aside0.mk hs
  have hps := hC.2.1
  have Hps := Aside0.mk hps
  clear hys hyl hR hC hs hps
  go_enter Tryd.func21, Tryd.ntmps21
  go_wp2_with (first
    | (go_at_call 29; refine (New_any _).mono ?_; rintro e w2 ⟨g, rfl, hg, hH2, hb2⟩; have hZ2 : Arr w2 w.heap.size .u8 24 (List.replicate 32 0) := Arr.below (Arr.new_at (k := .u8) (T := 24) (xs := List.replicate 32 0) (w := w) rfl rfl) hb2 (by rw [World.size_alloc]; omega); have hB2 : Below w.heap.size w w2 := ((Below.refl _ w).alloc (Nat.le_refl _) _).trans (hb2.mono (by rw [World.size_alloc]; omega)); rw [World.size_alloc] at hg))
  have Hg := Aside0.mk hg
  clear hb2 hg
  go_loopw [9] (fun i wr => ∃ k : Nat, k ≤ ps.length ∧ i = .int .i64 k ∧ Hs wr g (d0.all (ps.take k).flatten).st (d0.all (ps.take k).flatten).bs (d0.all (ps.take k).flatten).n ∧ Arr wr w.heap.size .u8 24 (List.replicate 32 0) ∧ Below w.heap.size w wr)
    (fun i _ => ps.length - (intOf i).toNat)
  case atStart => exact ⟨0, by omega, rfl, hH2, hZ2, hB2⟩
  case round =>
    clear hH2 hZ2 hB2
    obtain ⟨k, hk, rfl, hH, hZ, hB⟩ := hrel
    by_cases hlt : k < ps.length
    · obtain ⟨b, o, p, c, rfl, hbl, hc, hCi⟩ := parts_cell HC.out k hlt
      obtain ⟨q, hq0⟩ : ∃ q, ps.getD k [] = q := ⟨_, rfl⟩
      obtain ⟨D, hD0⟩ : ∃ D, d0.all (ps.take k).flatten = D := ⟨_, rfl⟩
      rw [hq0] at hc hCi
      rw [hD0] at hH
      have hc1 := (hB.cell (p := ⟨b, o + k, none⟩) hbl).trans hc
      have hDn : D.n + q.length < 1152921504606846976 := by
        have h1 := flat_le ps (k + 1)
        rw [flat_step ps k hlt, List.length_append, hq0] at h1
        rw [← hD0, Dg.all_n]
        have h2 : d0.n = 0 := rfl
        have h3 := HS.out
        omega
      have HDn := Aside0.mk hDn
      have Hq := Aside0.mk hq0
      have HD := Aside0.mk hD0
      have HCi := Aside0.mk hCi
      have hkl : (k : Int) < ps.length := by omega
      clear hDn hq0 hD0 hc hCi
      go_wp2_with (first
        | (go_at_call 30; refine (Write_any p c g q D wr (HR.out.below hB HR.out.pos) (by have := Hg.out; omega) hH (by have := HDn.out; omega) (fun i hi => by obtain ⟨b', o', e1, h1, h2⟩ := row_cells HCi.out i hi; exact ⟨b', o', e1, by have := Hg.out; omega, by have := hB.size; omega, (hB.cell (p := ⟨b', o' + i, none⟩) h1).trans h2⟩)).mono ?_; rintro e w5 ⟨rfl, hH5, hb5⟩))
      have wk : wrap64 ((k : Int) + 1) = ((k + 1 : Nat) : Int) := by
        have h9 := Hps.out
        rw [w64 (by omega) (by omega)]
        rfl
      go_roundw
      case rel =>
        refine ⟨k + 1, hlt, by rw [wk], ?_, hZ.grown hb5 (by have := Hg.out; simp; omega), hB.grown hb5 (Nat.le_of_lt hZ.lt) (fun j e => by cases e; have := Hg.out; omega)⟩
        rw [flat_step ps k hlt, Dg.all_app, HD.out, Hq.out]
        exact hH5
      case measure =>
        rw [wk]
        show ps.length - (k + 1) < ps.length - k
        exact Nat.sub_lt_sub_left hlt (Nat.lt_succ_self k)
    · obtain rfl : k = ps.length := by omega
      rw [List.take_of_length_le (Nat.le_refl _)] at hH
      have hDn : (d0.all ps.flatten).n < 1152921504606846976 := by
        rw [Dg.all_n]
        have h2 : d0.n = 0 := rfl
        have h3 := HS.out
        omega
      have HDn := Aside0.mk hDn
      clear hDn
      go_wp2_with (first
        | (go_at_call 31; refine (HSum_any g (d0.all ps.flatten) wr (HR.out.below hB HR.out.pos) hH HDn.out).mono ?_; rintro e w8 ⟨rfl, hb8⟩; have hZ8 := hZ.below hb8 hZ.lt; have hB8 := hB.trans (hb8.mono hB.size); rw [show dig (d0.all ps.flatten) = ys from Hys.out])
        | (refine store_arr rfl 24 2 18 rfl rfl w.heap.size rfl rfl hZ8 (by rw [Hyl.out]; rfl) (by rw [Hyl.out]; kernel_rfl) ?_; intro w9 hg9 hs9 hA9))
      exact ret_arr 2 24 (by kernel_rfl) rfl hA9 Tryd.underlying24 (by rw [Hyl.out]; kernel_rfl) rfl ⟨rfl, hB8.grown hg9 (Nat.le_of_lt hZ8.lt) (fun j e => by cases e; omega)⟩
end Go.Proofs.YtalghfnjelcpnaaDoor
namespace Go.Proofs.YtalghfnjelcpnaaDoor
open Go.RowKit Go.Proofs.YtalghfnjelcpnaaDoorW.PrintWords Go.Proofs.YtalghfnjelcpnaaDoor.Db

theorem lit_C {w : World} {g : Nat} {bs : List Int} {T : TypeId} {fr : Nat × Nat} (h : w.heap[g]? = some (.cells (bs.map (Value.int .u8)).toArray T fr)) (hl : bs.length ≤ 9223372036854775807) : Kd.C (Kd.int .u8) w (some ⟨g, 0, none⟩) bs.length bs := by
  refine ⟨rfl, hl, fun _ => ⟨_, rfl, fun j p hj => ⟨[.int .u8 p], rfl, rfl, fun i u hu => ?_⟩⟩⟩
  match i with
  | 0 =>
    obtain rfl : Value.int .u8 p = u := by simpa using hu
    have hc := cell_of_row w g j _ T fr h
    rw [show j * (Kd.int .u8).sz + 0 = j by simp [Kd.int, Kd.scalar], Addr.add_mid, Nat.zero_add, hc]
    simp [hj]
  | i + 1 => simp at hu
theorem rows_lit {w : World} {g : Nat} {vs : List Value} {T : TypeId} {fr : Nat × Nat} {ps : List (List Int)} (h : w.heap[g]? = some (.cells vs.toArray T fr)) (hl : ps.length ≤ 9223372036854775807)
    (hv : ∀ (i : Nat) (p : List Int), ps[i]? = some p → ∃ A c, vs[i]? = some (Value.slice A p.length c) ∧ p.length ≤ c ∧ Kd.C (Kd.int .u8) w A p.length p) : Kd.C (Kd.slice 5 (Kd.int .u8)) w (some ⟨g, 0, none⟩) ps.length ps := by
  refine ⟨rfl, hl, fun _ => ⟨_, rfl, fun j p hj => ?_⟩⟩
  obtain ⟨A, c, hvj, hc, hC⟩ := hv j p hj
  refine ⟨[.slice A p.length c], rfl, ⟨A, c, rfl, hc, hC⟩, fun i u hu => ?_⟩
  match i with
  | 0 =>
    obtain rfl : Value.slice A p.length c = u := by simpa using hu
    have hc := cell_of_row w g j _ T fr h
    rw [show j * (Kd.slice 5 (Kd.int .u8)).sz + 0 = j by simp [Kd.slice], Addr.add_mid, Nat.zero_add, hc]
    simp [hvj]
  | i + 1 => simp at hu
theorem row_new (w : World) (o : Obj) : (w.alloc o).heap[w.heap.size]? = some o := by
  show (w.heap.push _)[_]? = _
  rw [Array.getElem?_push, if_pos (by simp)]
theorem row_old (w : World) (o : Obj) (g : Nat) (h : g < w.heap.size) : (w.alloc o).heap[g]? = w.heap[g]? := by
  show (w.heap.push _)[_]? = _
  rw [Array.getElem?_push, if_neg (by omega)]
/-- A list of one constant text. -/
theorem one_C (w : World) (bs : List Int) (hl : bs.length ≤ 9223372036854775807) (fr : Nat × Nat) : Kd.C (Kd.slice 5 (Kd.int .u8)) ((w.alloc (.cells (bs.map (Value.int .u8)).toArray 5 fr)).alloc (.cells #[.slice (some ⟨w.heap.size, 0, none⟩) bs.length bs.length] 22)) (some ⟨w.heap.size + 1, 0, none⟩) [bs].length [bs] := by
  have r1 : ((w.alloc (.cells (bs.map (Value.int .u8)).toArray 5 fr)).alloc (.cells #[.slice (some ⟨w.heap.size, 0, none⟩) bs.length bs.length] 22)).heap[w.heap.size + 1]? = some (.cells #[.slice (some ⟨w.heap.size, 0, none⟩) bs.length bs.length] 22 (0, 0)) := by
    have := row_new (w.alloc (.cells (bs.map (Value.int .u8)).toArray 5 fr)) (.cells #[.slice (some ⟨w.heap.size, 0, none⟩) bs.length bs.length] 22)
    rw [World.size_alloc] at this
    exact this
  have r2 : ((w.alloc (.cells (bs.map (Value.int .u8)).toArray 5 fr)).alloc (.cells #[.slice (some ⟨w.heap.size, 0, none⟩) bs.length bs.length] 22)).heap[w.heap.size]? = some (.cells (bs.map (Value.int .u8)).toArray 5 fr) := by
    rw [row_old _ _ _ (by rw [World.size_alloc]; omega), row_new]
  refine rows_lit (vs := [.slice (some ⟨w.heap.size, 0, none⟩) bs.length bs.length]) r1 (by simp) (fun i p hp => ?_)
  match i with
  | 0 =>
    obtain rfl : bs = p := by simpa using hp
    exact ⟨_, _, rfl, Nat.le_refl _, lit_C r2 hl⟩
  | i + 1 => simp at hp
theorem pad_at (n m : Nat) (hn : n < 1152921504606846976) (hm : (pl n).length = m) (w : World) : Calls Tryd.prog 25 #[.int .u64 (n : Int)] w fun e w' => ∃ p c, e = .returned (.slice p m c) ∧ Below w.heap.size w w' := by
  refine (sha_Pad.calls 100 n (pl n) w (pad_ev n hn 100 (by omega))).mono ?_
  rintro e w' ⟨v, rfl, ho, hb⟩
  obtain ⟨p, c, rfl, _⟩ := R_cells ho
  exact ⟨p, c, by rw [hm], hb⟩
theorem pad55 (w : World) : Calls Tryd.prog 25 #[.int .u64 55] w fun e w' => ∃ p c, e = .returned (.slice p 9 c) ∧ Below w.heap.size w w' := pad_at 55 9 (by omega) (pl_len 55) w
theorem pad56 (w : World) : Calls Tryd.prog 25 #[.int .u64 56] w fun e w' => ∃ p c, e = .returned (.slice p 72 c) ∧ Below w.heap.size w w' := pad_at 56 72 (by omega) (pl_len 56) w
theorem pad_two (n : Int) (h : n = 55 ∨ n = 56) (w : World) : Calls Tryd.prog 25 #[.int .u64 n] w fun e w' => ∃ p c, e = .returned (.slice p (if n = 55 then 9 else 72) c) ∧ Below w.heap.size w w' := by
  rcases h with rfl | rfl
  · exact pad55 w
  · exact pad56 w
theorem abc0 : (sumL [97, 98, 99]).getD 0 0 = 186 := by decide +kernel
theorem abc1 : (sumL [97, 98, 99]).getD 1 0 = 120 := by decide +kernel
theorem abc2 : (sumL [97, 98, 99]).getD 2 0 = 22 := by decide +kernel
theorem abc3 : (sumL [97, 98, 99]).getD 3 0 = 191 := by decide +kernel
set_option maxHeartbeats 4000000 in
set_option maxRecDepth 100000 in
theorem wakes3_any (w : World) (hR : Rounds w) : Calls Tryd.prog 20 #[] w fun e w' => e = .returned (.bool true) ∧ Below w.heap.size w w' := by
  have HR := Aside0.mk hR
  clear hR
  have hlen : (sumL [97, 98, 99]).length = 32 := sumL_len _
  have v0 := abc0
  have v1 := abc1
  have v2 := abc2
  have v3 := abc3
  obtain ⟨S, hS⟩ : ∃ S, sumL [97, 98, 99] = S := ⟨_, rfl⟩
  rw [hS] at hlen v0 v1 v2 v3
  have HS := Aside0.mk hS
  have HL := Aside0.mk hlen
  have V0 := Aside0.mk v0
  have V1 := Aside0.mk v1
  have V2 := Aside0.mk v2
  have V3 := Aside0.mk v3
  clear hS hlen v0 v1 v2 v3
  have cv := fun w => Go.Lib.run_convert_bytes_const (P := Tryd.prog) w 22 5 #[.int .u8 97, .int .u8 98, .int .u8 99] 3 3 Tryd.underlying22 Tryd.underlying5
  have hpos := HR.out.pos
  go_enter Tryd.func20, Tryd.ntmps20
  go_wp2_with (first
    | (go_at_call 21; refine (SSum_any (some ⟨w.heap.size + 1, 0, none⟩) 1 [[97, 98, 99]] _ ((HR.out.below ((Below.refl _ w).alloc (Nat.le_refl _) _) hpos).below ((Below.refl _ _).alloc (Nat.le_refl _) _) (by rw [World.size_alloc]; omega)) (one_C w [97, 98, 99] (by decide) (3, 4)) (by decide)).mono ?_; rintro e w4 ⟨rfl, hb4⟩; rw [show sumL ([[97, 98, 99]] : List (List Int)).flatten = S from HS.out]; rw [World.size_alloc, World.size_alloc] at hb4; have hB4 : Below w.heap.size w w4 := (((Below.refl _ w).alloc (Nat.le_refl _) _).alloc (by rw [World.size_alloc]; omega) _).trans (hb4.mono (by omega)))
    | (refine store_arr rfl 24 1 5 rfl rfl w4.heap.size rfl rfl (Arr.new_at (k := .u8) (xs := List.replicate 32 0) rfl rfl) (by rw [HL.out]; rfl) (by rw [HL.out]; kernel_rfl) ?_; intro w5 hg5 hs5 hA5; rw [World.size_alloc] at hs5; have hB5 : Below w.heap.size w w5 := (hB4.alloc hB4.size _).grown hg5 (by rw [World.size_alloc]; have := hB4.size; omega) (by intro j e; cases e; have := hB4.size; omega); have c0 := (hA5.cell (i := 0) (by rw [HL.out]; omega)).trans (congrArg (fun z => some (Value.int .u8 z)) V0.out); have c1 := (hA5.cell (i := 1) (by rw [HL.out]; omega)).trans (congrArg (fun z => some (Value.int .u8 z)) V1.out); have c2 := (hA5.cell (i := 2) (by rw [HL.out]; omega)).trans (congrArg (fun z => some (Value.int .u8 z)) V2.out); have c3 := (hA5.cell (i := 3) (by rw [HL.out]; omega)).trans (congrArg (fun z => some (Value.int .u8 z)) V3.out))
    | (go_at_call 25; refine (pad_two _ (by decide) _).mono ?_; rintro e w6 ⟨p6, c6, rfl, hb6⟩; replace hB5 := hB5.trans (hb6.mono hB5.size); clear hb6; first | rw [if_pos rfl] | rw [if_neg (by decide)]))
  go_ret
  exact ⟨rfl, hB5⟩
end Go.Proofs.YtalghfnjelcpnaaDoor
namespace Go.Proofs.YtalghfnjelcpnaaDoor
open Go.RowKit
def incognitolaw03_wakes.f : Option Bool := some true
theorem incognitolaw03_wakes.calls (r : Bool) (w : World) (hR : Rounds w) (h : incognitolaw03_wakes.f = some r) : Calls Tryd.prog 20 #[] w fun e w' => e = .returned (.bool r) ∧ Below w.heap.size w w' := by
  obtain rfl : true = r := Option.some.inj h
  exact wakes3_any w hR
end Go.Proofs.YtalghfnjelcpnaaDoor
