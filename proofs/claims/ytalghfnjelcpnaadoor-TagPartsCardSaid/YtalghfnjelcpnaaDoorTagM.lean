/- tag.Of at a size below 1: what the call returns, for every key and text; nothing has turned. -/
import Derived.Test.YtalghfnjelcpnaaDoorProg
import Derived.Test.YtalghfnjelcpnaaDoorXw
import Derived.Test.YtalghfnjelcpnaaDoorWLast
import Derived.Test.YtalghfnjelcpnaaDoorWMore
import Derived.WalkKit
import Derived.WalkSpells
import Derived.Handy
namespace Go.Proofs.YtalghfnjelcpnaaDoor
open Go.RowKit Go.Proofs.YtalghfnjelcpnaaDoorW.PrintWords

/-- What tag.Of tells of a size below 1. -/
def tag_Of.f (_ : List Int) (_ : ByteArray) (a2 : Int) (_ : ByteArray) : Option (ByteArray × Int) := if a2 < 1 then some (⟨#[]⟩, 1) else none
theorem tag_Of.calls (A0 : Option Addr) (c0 : Nat) (l0 : List Int) (a1 : ByteArray) (a2 : Int) (a3 : ByteArray) (r1 : ByteArray) (r2 : Int) (w : World) (_ : Kd.C (Kd.int .u8) w A0 l0.length l0) (_ : l0.length ≤ c0) (h : tag_Of.f l0 a1 a2 a3 = some (r1, r2)) :
    Calls Tryd.prog 48 #[.slice A0 l0.length c0, .string a1, .int .i64 a2, .string a3] w fun e w' => e = .returned (.tuple #[.string r1, .int .i64 r2]) ∧ Below w.heap.size w w' := by
  unfold tag_Of.f at h
  by_cases c : a2 < 1
  · rw [if_pos c] at h
    obtain ⟨rfl, rfl⟩ : (⟨#[]⟩ : ByteArray) = r1 ∧ (1 : Int) = r2 := by simpa using h
    have d1 : decide (a2 < 1) = true := by simpa using c
    clear h c
    go_enter Tryd.func48, Tryd.ntmps48
    go_wp2
    go_ret2
    exact ⟨rfl, Below.refl _ _⟩
  · rw [if_neg c] at h
    cases h
end Go.Proofs.YtalghfnjelcpnaaDoor
