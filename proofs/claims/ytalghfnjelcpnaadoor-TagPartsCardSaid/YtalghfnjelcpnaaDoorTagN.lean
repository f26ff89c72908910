/- The example of layer 5: what the call returns; of what was there nothing has turned. No conditions. -/
import Derived.Test.YtalghfnjelcpnaaDoorTagM
import Derived.Test.YtalghfnjelcpnaaDoorTc1
import Derived.Lib.SlBytesConst
namespace Go.Proofs.YtalghfnjelcpnaaDoor
open Go.RowKit Go.Proofs.YtalghfnjelcpnaaDoorW.PrintWords

theorem two_C (w : World) : Kd.C (Kd.slice 5 (Kd.int .u8)) ((w.alloc (.cells #[.int .u8 97] 5 (1, 2))).alloc (.cells #[.slice (some ⟨w.heap.size, 0, none⟩) 1 1, .slice none 0 0] 22)) (some ⟨w.heap.size + 1, 0, none⟩) 2 [[97], []] := by
  have r1 : ((w.alloc (.cells #[.int .u8 97] 5 (1, 2))).alloc (.cells #[.slice (some ⟨w.heap.size, 0, none⟩) 1 1, .slice none 0 0] 22)).heap[w.heap.size + 1]? = some (.cells #[.slice (some ⟨w.heap.size, 0, none⟩) 1 1, .slice none 0 0] 22 (0, 0)) := by
    show ((w.heap.push _).push _)[_]? = _
    rw [Array.getElem?_push, if_pos (by simp)]
  have r2 : ((w.alloc (.cells #[.int .u8 97] 5 (1, 2))).alloc (.cells #[.slice (some ⟨w.heap.size, 0, none⟩) 1 1, .slice none 0 0] 22)).heap[w.heap.size]? = some (.cells #[.int .u8 97] 5 (1, 2)) := by
    show ((w.heap.push _).push _)[_]? = _
    simp [Array.getElem?_push]
  have c0 := cell_of_row _ _ 0 _ _ _ r1
  have c1 := cell_of_row _ _ 1 _ _ _ r1
  have c2 := cell_of_row _ _ 0 _ _ _ r2
  clear r1 r2
  generalize ((w.alloc (.cells #[.int .u8 97] 5 (1, 2))).alloc (.cells #[.slice (some ⟨w.heap.size, 0, none⟩) 1 1, .slice none 0 0] 22)) = W at *
  refine ⟨rfl, by decide, fun _ => ⟨_, rfl, fun j p hj => ?_⟩⟩
  match j with
  | 0 =>
    obtain rfl : [97] = p := by simpa using hj
    refine ⟨[.slice (some ⟨w.heap.size, 0, none⟩) 1 1], rfl, ⟨_, 1, rfl, Nat.le_refl _, rfl, by decide, fun _ => ⟨_, rfl, fun j p hj => ?_⟩⟩, fun i u hu => ?_⟩
    · match j with
      | 0 =>
        obtain rfl : 97 = p := by simpa using hj
        refine ⟨[.int .u8 97], rfl, rfl, fun i u hu => ?_⟩
        match i with
        | 0 =>
          obtain rfl : Value.int .u8 97 = u := by simpa using hu
          exact c2
        | i + 1 => simp at hu
      | j + 1 => simp at hj
    · match i with
      | 0 =>
        obtain rfl : Value.slice (some ⟨w.heap.size, 0, none⟩) 1 1 = u := by simpa using hu
        exact c0
      | i + 1 => simp at hu
  | 1 =>
    obtain rfl : [] = p := by simpa using hj
    refine ⟨[.slice none 0 0], rfl, ⟨_, 0, rfl, Nat.le_refl _, rfl, by decide, fun h => absurd h (by decide)⟩, fun i u hu => ?_⟩
    match i with
    | 0 =>
      obtain rfl : Value.slice none 0 0 = u := by simpa using hu
      exact c1
    | i + 1 => simp at hu
  | j + 2 => simp at hj
theorem frame_two : Tc.tag_Frame.f 100 [[97], []] = some [0, 0, 0, 0, 0, 0, 0, 1, 97, 0, 0, 0, 0, 0, 0, 0, 0] := by decide +kernel
/-- The example of layer 5. -/
def incognitolaw05_wakes.f : Option Bool := some true
theorem incognitolaw05_wakes.calls (r : Bool) (w : World) (h : incognitolaw05_wakes.f = some r) :
    Calls Tryd.prog 46 #[] w fun e w' => e = .returned (.bool r) ∧ Below w.heap.size w w' := by
  obtain rfl : true = r := Option.some.inj h
  clear h
  have cv := fun w => Go.Lib.run_convert_bytes_const (P := Tryd.prog) w 22 5 #[.int .u8 97] 1 1 Tryd.underlying22 Tryd.underlying5
  go_enter Tryd.func46, Tryd.ntmps46
  go_wp2_with (first
    | (go_at_call 48; refine (tag_Of.calls none 0 [] ⟨#[118]⟩ 0 ⟨#[97]⟩ ⟨#[]⟩ 1 _ (Kd.C_nil _ _) (Nat.le_refl _) rfl).mono ?_; rintro e w5 ⟨rfl, hb⟩)
    | (go_at_call 50; refine (Tc.tag_Frame.calls 100 (some ⟨w5.heap.size + 1, 0, none⟩) 2 [[97], []] _ _ (two_C w5) (Nat.le_refl _) frame_two).mono ?_; rintro e w7 ⟨v0, rfl, ho, hb7⟩; obtain ⟨A, c, rfl, hl, hr⟩ := Kd.R_reads ho))
  go_ret
  refine ⟨rfl, ?_⟩
  have h5 := hb.size
  refine (((hb.alloc h5 _).alloc (by rw [World.size_alloc]; omega) _).trans (hb7.mono ?_))
  rw [World.size_alloc, World.size_alloc]; omega
end Go.Proofs.YtalghfnjelcpnaaDoor
