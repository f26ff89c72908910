/- hex.Digit and hex.Decode: what the calls return, for every text of at most 2^47 bytes; of what was there nothing has turned. -/
import Derived.Test.YtalghfnjelcpnaaProg
import Derived.Test.YtalghfnjelcpnaaXw
import Derived.Test.YtalghfnjelcpnaaWLast
import Derived.Test.YtalghfnjelcpnaaWMore
import Derived.WalkKit
import Derived.WalkSpells
import Derived.Deep.LoopGhost
import Derived.Lib.OthersKept
import Derived.Laws.RangeAny
import Derived.BigQuiet
import Derived.Deep.QuietTactic
import Derived.Deep.RegionHeld3
import Derived.Handy
import Derived.Deep.RegionLaw
import Derived.Deep.AppendLies
namespace Go.Proofs.Ytalghfnjelcpnaa
open Go.RowKit

/-- What a digit stands for. -/
def dgI (n : Int) : Int := if 48 ≤ n ∧ n ≤ 57 then n - 48 else if 97 ≤ n ∧ n ≤ 102 then n - 87 else -1

theorem ret_i64 {a b : Int} (h : a = b) : Ending.returned (.int .i64 a) = .returned (.int .i64 b) := by rw [h]

set_option maxHeartbeats 400000 in
theorem digit_any (n : Int) (w : World) (h0 : 0 ≤ n) (h1 : n ≤ 255) :
    Calls Try.prog 18 #[.int .u8 n] w fun e w' => e = .returned (.int .i64 (dgI n)) ∧ w = w' := by
  by_cases c1 : 48 ≤ n
  · by_cases c2 : n ≤ 57
    · have d1 : decide (48 ≤ n) = true := by simpa using c1
      have d2 : decide (n ≤ 57) = true := by simpa using c2
      go_enter Try.func18, Try.ntmps18
      go_wp2
      go_ret
      exact ⟨ret_i64 (by unfold dgI; rw [if_pos ⟨by omega, by omega⟩]), rfl⟩
    · by_cases c3 : 97 ≤ n
      · by_cases c4 : n ≤ 102
        · have d1 : decide (48 ≤ n) = true := by simpa using c1
          have d2 : decide (n ≤ 57) = false := by simpa using c2
          have d3 : decide (97 ≤ n) = true := by simpa using c3
          have d4 : decide (n ≤ 102) = true := by simpa using c4
          go_enter Try.func18, Try.ntmps18
          go_wp2
          go_ret
          exact ⟨ret_i64 (by unfold dgI; rw [if_neg (by omega), if_pos ⟨by omega, by omega⟩]; omega), rfl⟩
        · have d1 : decide (48 ≤ n) = true := by simpa using c1
          have d2 : decide (n ≤ 57) = false := by simpa using c2
          have d3 : decide (97 ≤ n) = true := by simpa using c3
          have d4 : decide (n ≤ 102) = false := by simpa using c4
          go_enter Try.func18, Try.ntmps18
          go_wp2
          go_ret
          exact ⟨ret_i64 (by unfold dgI; rw [if_neg (by omega), if_neg (by omega)]), rfl⟩
      · have d1 : decide (48 ≤ n) = true := by simpa using c1
        have d2 : decide (n ≤ 57) = false := by simpa using c2
        have d3 : decide (97 ≤ n) = false := by simpa using c3
        go_enter Try.func18, Try.ntmps18
        go_wp2
        go_ret
        exact ⟨ret_i64 (by unfold dgI; rw [if_neg (by omega), if_neg (by omega)]), rfl⟩
  · have d1 : decide (48 ≤ n) = false := by simpa using c1
    have d3 : decide (97 ≤ n) = false := by simp; omega
    go_enter Try.func18, Try.ntmps18
    go_wp2
    go_ret
    exact ⟨ret_i64 (by unfold dgI; rw [if_neg (by omega), if_neg (by omega)]), rfl⟩

open Go.Proofs.YtalghfnjelcpnaaW.PrintWords

theorem info5 : (Try.prog.info? 5).map (fun i => (i.zero, i.size, i.bytes)) = some (some (.int .u8 0), 1, 1) := by kernel_rfl

theorem own_iterAt {w : World} {B e size n : Nat} {v : Value} {xs : List Value} {k : Nat} {s : ByteArray} {pos : Nat} (h : w.ownsRow B e size v n xs) (hk : w.heap[k]? = some (.stringIter s pos)) (pos' : Nat) : (w.iterAt k s pos').ownsRow B e size v n xs := by
  refine ⟨h.1, ?_⟩
  rcases h.2 with h0 | ⟨g, cap, cur, hv, hb, hg, rest⟩
  · exact .inl h0
  · refine .inr ⟨g, cap, cur, hv, hb, ?_, rest⟩
    rw [Lib.iterAt_other _ _ _ _ _ (fun e => by subst e; rw [hk] at hg; cases hg)]
    exact hg

theorem own_iterAt0 {w : World} {B e size n : Nat} {v : Value} {xs : List Value} (h : w.ownsRow B e size v n xs) (s : ByteArray) : (w.iter s 0).ownsRow B e size v n xs := h.alloc _
theorem iterPos_of {w : World} {k : Nat} {s : ByteArray} {p : Nat} (h : w.heap[k]? = some (.stringIter s p)) : w.iterPos k = p := by simp [World.iterPos, h]

theorem own_cell_at {w : World} {B n : Nat} {v : Value} {xs : List Int} (h : w.ownsRow B 5 1 v n (encs (Value.int .u8) xs)) {i : Nat} (hi : i < xs.length) :
    ∃ g cap, v = .slice (some ⟨g, 0, none⟩) n cap ∧ w.cell? ⟨g, i, none⟩ = some (.int .u8 (xs.getD i 0)) ∧ w.frozen? ⟨g, i, none⟩ = false := by
  have hn : xs.length = n := by have := h.1; simpa [encs] using this
  obtain ⟨g, cap, rfl, _, _⟩ := h.form (by omega)
  exact ⟨g, cap, rfl, (h.cellAt i (by omega)).trans (by simp [encs, List.getElem?_eq_getElem hi, List.getD_eq_getElem?_getD]), h.frozenAt i⟩

/-- What is in the bytes when i signs have been read. -/
def stepO (v d : Int) : Int := Go.bits .or .u8 (IntKind.u8.wrap (v * 16)) d
def decO (s : ByteArray) : Nat → List Int
  | 0 => List.replicate (s.size / 2) 0
  | i + 1 => (decO s i).set (i / 2) (stepO ((decO s i).getD (i / 2) 0) (dgI (bt s i)))
theorem iter_setCell {w : World} {k g j pos : Nat} {s : ByteArray} {v : Value} (hit : w.heap[k]? = some (.stringIter s pos)) (hc : w.cell? ⟨g, j, none⟩ = some v) (u : Value) : (w.setCell ⟨g, j, none⟩ u).heap[k]? = some (.stringIter s pos) := by
  have hne : g ≠ k := by
    rintro rfl
    simp [World.cell?, hit] at hc
  rw [← hit]
  exact Below.heap_setCell w ⟨g, j, none⟩ u k (fun e => hne e.symm)
theorem own_ge {w : World} {B n g cap : Nat} {xs : List Value} (h : w.ownsRow B 5 1 (.slice (some ⟨g, 0, none⟩) n cap) n xs) : B ≤ g := own_base h g (by simp [Value.ownBlock])
def allDg (s : ByteArray) : Bool := (List.range s.size).all fun j => decide (0 ≤ dgI (bt s j))
theorem decO_length (s : ByteArray) (i : Nat) : (decO s i).length = s.size / 2 := by
  induction i with
  | zero => simp [decO]
  | succ i ih => simp [decO, ih]
def hex_Decode.f (a0 : ByteArray) : Option (List Int × Int) :=
  if a0.size ≤ 140737488351232 then some (if a0.size % 2 = 0 ∧ allDg a0 = true then (decO a0 a0.size, 0) else ([], 2)) else none

theorem next_own {w : World} {B : Nat} {s : ByteArray} {v : Value} {pos j : Nat} {c x : Int} (h : w.ownsRow B 5 1 v (decO s pos).length ((encs (Value.int .u8) (decO s pos)).set j (Value.int .u8 (stepO c (dgI x))))) (hj : pos / 2 = j) (hc : (decO s pos).getD j 0 = c) (hx : x = bt s pos) :
    w.drew.ownsRow B 5 1 v (decO s (pos + 1)).length (encs (Value.int .u8) (decO s (pos + 1))) := by
  have e : decO s (pos + 1) = (decO s pos).set j (stepO c (dgI x)) := by rw [decO, hj, hc, hx]
  rw [e, List.length_set]
  have e2 : encs (Value.int .u8) ((decO s pos).set j (stepO c (dgI x))) = (encs (Value.int .u8) (decO s pos)).set j (Value.int .u8 (stepO c (dgI x))) := by simp [encs, List.map_set]
  rw [e2]
  exact h.drew
theorem hid_next {s : ByteArray} {pos : Nat} {x : Int} (h : Hid (∀ j, j < pos → 0 ≤ dgI (bt s j))) (hx : x = bt s pos) (h0 : 0 ≤ dgI x) : Hid (∀ j, j < pos + 1 → 0 ≤ dgI (bt s j)) := by
  intro j hj
  by_cases e : j = pos
  · rw [e, ← hx]; exact h0
  · exact h j (by omega)
def PostD (s : ByteArray) (w : World) (e : Ending) (w' : World) : Prop := ∀ r1 r2, hex_Decode.f s = some (r1, r2) → ∃ v0_ : Value, e = .returned (.tuple #[v0_, .int .i64 r2]) ∧ Kd.R (Kd.int .u8) 5 w' w.heap.size (fun _ => True) v0_ r1 ∧ Below w.heap.size w w'

theorem post_no {s : ByteArray} {w w' : World} (h : ¬ (s.size % 2 = 0 ∧ allDg s = true)) (hb : Below w.heap.size w w') : PostD s w (.returned (.tuple #[.slice none 0 0, .int .i64 2])) w' := by
  intro r1 r2 hf
  unfold hex_Decode.f at hf
  split at hf
  · simp only [Option.some.injEq, Prod.mk.injEq] at hf
    obtain ⟨rfl, rfl⟩ := hf
    exact ⟨_, rfl, Kd.R_nil _ _ _ _ _, hb⟩
  · cases hf
theorem post_yes {s : ByteArray} {w w' : World} {v : Value} (h : s.size % 2 = 0) (ha : ∀ j, j < s.size → 0 ≤ dgI (bt s j)) (ho : w'.ownsRow w.heap.size 5 1 v (decO s s.size).length (encs (Value.int .u8) (decO s s.size))) (hb : Below w.heap.size w w') : PostD s w (.returned (.tuple #[v, .int .i64 0])) w' := by
  intro r1 r2 hf
  unfold hex_Decode.f at hf
  split at hf
  · rw [if_pos ⟨h, by unfold allDg; rw [List.all_eq_true]; intro j hj; simpa using ha j (List.mem_range.1 hj)⟩] at hf
    simp only [Option.some.injEq, Prod.mk.injEq] at hf
    obtain ⟨rfl, rfl⟩ := hf
    exact ⟨_, rfl, Kd.R_of_own ho (fun _ _ => trivial), hb⟩
  · cases hf

set_option maxHeartbeats 1000000 in
set_option maxRecDepth 100000 in
theorem decode_any (s : ByteArray) (w : World) (hs : s.size ≤ 140737488351232) : Calls Try.prog 14 #[.string s] w (PostD s w) := by
  by_cases hodd : s.size % 2 = 0
  · have HB := Below.refl w.heap.size w
    go_enter Try.func14, Try.ntmps14
    go_wp2_with (first | ((with_reducible refine gate_dst (N := 14) rfl ?_); (refine Kd.R_make (Kd.int .u8) _ 5 rfl (N := 14) rfl 22 _ _ rfl ((s.size : Int) / 2) rfl rfl Try.underlying22 (.int .u8 0) 1 info5 rfl (by decide) (by omega) 0 (ok := fun _ => True) (okp := fun _ => True) rfl (fun _ hk => hk) trivial (by omega) (by omega) (Below.refl _ _) (Nat.le_refl _) ?_); intro v w7 ho hb hg_ hnew_; clear hg_ hnew_))
    have hown0 := Kd.own_of_R ho
    have hsz := hb.size
    clear ho
    go_loopw [5] (fun _ wr => ∃ pos : Nat, pos ≤ s.size ∧ wr.heap[w7.heap.size]? = some (.stringIter s pos) ∧ wr.ownsRow w.heap.size 5 1 v (decO s pos).length (encs (Value.int .u8) (decO s pos)) ∧ Below w.heap.size w wr ∧ Hid (∀ j, j < pos → 0 ≤ dgI (bt s j)))
      (fun _ wr => s.size - wr.iterPos w7.heap.size)
    case atStart =>
      refine ⟨0, Nat.zero_le _, World.iter_heap w7 s 0, ?_, hb.alloc hsz _, fun j hj => absurd hj (by omega)⟩
      have h := own_iterAt0 hown0 s
      have e2 : ((s.size : Int) / 2).toNat = s.size / 2 := by omega
      simpa [decO, e2] using h
    case round =>
      obtain ⟨pos, hpos, hit, hown, hbw, hall⟩ := hrel
      have hpos0 := iterPos_of hit
      by_cases hp : pos < s.size
      · have hnx : ∀ ty, (Instr.next (.pointer (some ⟨w7.heap.size, 0, none⟩)) true ty).run Try.prog wr = _ := fun ty => Lib.run_next_any_at wr w7.heap.size s pos ty hit hp
        by_cases ha : (s[pos]'hp).toNat < 128
        · have hbt := bt_at s pos (by simpa using hp)
          simp only [Int.toNat_natCast] at hbt
          rw [decode_ascii s pos hp ha] at hnx
          obtain ⟨x, hx⟩ : ∃ x : Int, ((s[pos]'hp).toNat : Int) = x := ⟨_, rfl⟩
          simp only [hx] at hnx hbt
          have hx0 : 0 ≤ x := by omega
          have hx1 : x ≤ 127 := by omega
          clear hx
          have Hbt := Aside0.mk hbt
          clear hbt
          have hit2 := Lib.iterAt_heap wr w7.heap.size s pos (pos + 1) hit
          have hbw2 := Lib.below_iterAt hbw (k := w7.heap.size) (by omega) s (pos + 1)
          have hown2 := own_iterAt hown hit (pos + 1)
          have hsz2 : w.heap.size ≤ (wr.iterAt w7.heap.size s (pos + 1)).heap.size := by have := hbw2.size; omega
          obtain ⟨W1, hW1⟩ : ∃ W1, wr.iterAt w7.heap.size s (pos + 1) = W1 := ⟨_, rfl⟩
          rw [hW1] at hit2 hbw2 hown2 hsz2
          simp only [hW1] at hnx
          clear hit hown hbw
          have g1 : decide (127 < x) = false := by simp; omega
          have hw8 : IntKind.u8.wrap x = x := IntWalk.u8_in _ (by omega)
          by_cases hd : dgI x < 0
          · have g2 : decide (dgI x < 0) = true := by simpa using hd
            have Hn := Aside0.mk hw8
            clear hw8 hW1 hpos0
            go_wp2_with (go_at_call 18; refine (digit_any x _ (by omega) (by omega)).mono ?_; rintro e w' ⟨rfl, rfl⟩)
            go_ret2
            refine post_no ?_ hbw2
            rintro ⟨_, hal⟩
            unfold allDg at hal
            have := List.all_eq_true.1 hal pos (List.mem_range.2 hp)
            rw [← Hbt.out] at this
            have h4 : 0 ≤ dgI x := of_decide_eq_true this
            omega
          · have g2 : decide (dgI x < 0) = false := by simpa using hd
            have hlen := decO_length s pos
            have hi2 : pos / 2 < (decO s pos).length := by omega
            obtain ⟨j, hj⟩ : ∃ j, pos / 2 = j := ⟨_, rfl⟩
            have hj2 : IntKind.i64.wrap ((pos : Int) / 2) = (j : Int) := by rw [IntWalk.i64_in _ (by omega)]; omega
            rw [hj] at hi2
            obtain ⟨g, cap, rfl, hcs, hfs⟩ := own_cell_at hown2 hi2
            obtain ⟨c, hc⟩ : ∃ c, (decO s pos).getD j 0 = c := ⟨_, rfl⟩
            rw [hc] at hcs
            have Hc := Aside0.mk hc
            have Hn := Aside0.mk hw8
            have Hl := Aside0.mk hlen
            have p1 : (0 : Int) ≤ (j : Int) := by omega
            have p2 : (j : Int) < ((decO s pos).length : Int) := by omega
            have Hj2 := Aside0.mk hj2
            have Hj := Aside0.mk hj
            have Hps := Aside0.mk hpos0
            clear hw8 hW1 hpos0 hc hlen hj2 hj
            go_wp2_with (go_at_call 18; refine (digit_any x _ (by omega) (by omega)).mono ?_; rintro e w' ⟨rfl, rfl⟩)
            have hw2 : IntKind.i64.wrap (dgI x) = dgI x := IntWalk.i64_in _ (by unfold dgI; split <;> (try split) <;> omega)
            have hw3 : IntKind.u8.wrap (dgI x) = dgI x := IntWalk.u8_in _ (by have : dgI x ≤ 127 := by { unfold dgI; split <;> (try split) <;> omega }; omega)
            have hd0 : 0 ≤ dgI x := by omega
            have hd1 : dgI x ≤ 15 := by unfold dgI; split <;> (try split) <;> omega
            have hj2 := Hj2.out
            have hw8 := Hn.out
            go_region_law (first | (go_simp; go_at_call 18; refine (digit_any x _ (by omega) (by omega)).mono ?_; rintro e w' ⟨rfl, rfl⟩))
            all_goals
              go_wp2
              go_roundw
              case rel =>
                obtain ⟨hst, hgr⟩ := hown2.stored j (Value.int .u8 (stepO c (dgI x)))
                refine ⟨pos + 1, by omega, ?_, ?_, ?_, ?_⟩
                · exact iter_setCell hit2 hcs _
                · exact next_own hst Hj.out Hc.out Hbt.out
                · exact (hbw2.grown hgr hsz2 (fun k e => by cases e; exact own_ge hown2)).drew
                · exact hid_next hall Hbt.out (by omega)
              case measure =>
                have e1 := iterPos_of (iter_setCell hit2 hcs (Value.int .u8 (stepO c (dgI x))))
                have e2 : (W1.setCell ⟨g, j, none⟩ (.int .u8 (stepO c (dgI x)))).drew.iterPos w7.heap.size = pos + 1 := e1
                unfold stepO at e2
                have e3 := Hps.out
                omega
        · have hnx2 := decode_high s pos hp (by omega)
          obtain ⟨R, hR⟩ : ∃ R, (Utf8.decode s pos).1 = R := ⟨_, rfl⟩
          obtain ⟨K, hK⟩ : ∃ K, (Utf8.decode s pos).2 = K := ⟨_, rfl⟩
          rw [hR, hK] at hnx2
          simp only [hR, hK] at hnx
          clear hR hK
          have hbw2 := Lib.below_iterAt hbw (k := w7.heap.size) (by omega) s (pos + K)
          obtain ⟨W1, hW1⟩ : ∃ W1, wr.iterAt w7.heap.size s (pos + K) = W1 := ⟨_, rfl⟩
          rw [hW1] at hbw2
          simp only [hW1] at hnx
          clear hit hown hbw hW1 hpos0
          have g1 : decide ((127 : Int) < (R : Int)) = true := by simp; omega
          go_wp2
          go_ret2
          refine post_no ?_ hbw2
          rintro ⟨_, hal⟩
          unfold allDg at hal
          have := of_decide_eq_true (List.all_eq_true.1 hal pos (List.mem_range.2 hp))
          have hbt := bt_at s pos (by simpa using hp)
          simp only [Int.toNat_natCast] at hbt
          rw [← hbt] at this
          unfold dgI at this
          split at this
          · omega
          · split at this <;> omega
      · obtain rfl : pos = s.size := by omega
        have hnx : ∀ ty, (Instr.next (.pointer (some ⟨w7.heap.size, 0, none⟩)) true ty).run Try.prog wr = _ := fun ty => Lib.run_next_end_at wr w7.heap.size s s.size ty hit hp
        have Hev := Aside0.mk hodd
        clear hpos0 hodd
        go_wp2
        go_ret2
        exact post_yes Hev.out hall hown hbw
  · have g1 : ((s.size : Int) % 2 != 0) = true := by rw [bne_iff_ne]; omega
    have Hev := Aside0.mk hodd
    clear hodd
    go_enter Try.func14, Try.ntmps14
    go_wp2
    go_ret2
    exact post_no (fun h => Hev.out h.1) (Below.refl _ _)

theorem hex_Decode.calls (a0 : ByteArray) (r1 : List Int) (r2 : Int) (w : World) (h : hex_Decode.f a0 = some (r1, r2)) :
    Calls Try.prog 14 #[.string a0] w fun e w' => ∃ v0_ : Value, e = .returned (.tuple #[v0_, .int .i64 r2]) ∧ Kd.R (Kd.int .u8) 5 w' w.heap.size (fun _ => True) v0_ r1 ∧ Below w.heap.size w w' := by
  have hs : a0.size ≤ 140737488351232 := by
    unfold hex_Decode.f at h
    split at h
    · assumption
    · cases h
  exact (decode_any a0 w hs).mono fun e w' hp => hp r1 r2 h
end Go.Proofs.Ytalghfnjelcpnaa
