/- TagBegins: a shorter tag is what a longer one of the same value begins with: for every input. Condition: the table reads as the program's text lays it (the card ties it). -/
import Derived.Test.YtalghfnjelcpnaaDoorCards
import Derived.Test.YtalghfnjelcpnaaDoorTie
import Derived.Test.YtalghfnjelcpnaaDoorMt
import Derived.Test.YtalghfnjelcpnaaDoorLawX
import Derived.WalkKit
import Derived.ProofKit
import Derived.OpenShut
import Derived.ShutString
import Derived.ChangeOld
import Derived.Below
import Derived.SizedLaws
import Derived.Deep.DeepHandedRow
import Derived.Lib.LaidTab
namespace Go.Proofs.YtalghfnjelcpnaaDoor.tagBegins
open Go.ChangeShapes Go.WideShapes Go.ChangeAt Go.RowKit Go.Proofs.YtalghfnjelcpnaaDoorW.PrintWords
set_option maxRecDepth 100000

theorem contract (H : Type) (enc : TypeId × Value → H) (W : World) (base : Nat) (args : Array Value) (ds gs : List (DataW H)) (before : List MemPlace)
    (hval : ∀ (j : Nat) t v, Tryd.f16.params[j]? = some t → args[j]? = some v → Value.okWide Tryd.prog W .any base t v)
    (hW : DataW.Whole enc Tryd.prog Tryd.f16.params.toList Rows.tagBeginsSpec.vars false W args.toList ds gs before) (hL : laidMetH Tryd.prog Rows.tagBeginsRow.laid W) :
    Calls Tryd.prog 16 args W fun e W' => ∃ v, e = .returned v ∧ Rows.tagBeginsSpec.post enc Tryd.prog Tryd.f16 false true false false W args v W' := by
  have hW' := hW
  obtain ⟨p, q, hA0, hV, rfl, hfz, hnd⟩ := hW
  have hA : DataW.TrodAll enc Tryd.prog W 0 (fun _ => true) true Tryd.f16.params.toList args.toList ds p := hA0
  rw [Tryd.params16] at hA hval
  obtain ⟨v0, vs0, d0, ds0, p0, q0, hargs, rfl, rfl, h0, r0⟩ := trodAll_cons hA
  obtain ⟨v1, vs1, d1, ds1, p1, q1, rfl, rfl, rfl, h1, r1⟩ := trodAll_cons r0
  obtain ⟨v2, vs2, d2, ds2, p2, q2, rfl, rfl, rfl, h2, r2⟩ := trodAll_cons r1
  obtain ⟨rfl, rfl, rfl⟩ := trodAll_nil r2
  obtain rfl : args = #[v0, v1, v2] := by cases args; simp_all
  obtain ⟨rfl, rfl⟩ := trodVars_none hV
  obtain ⟨n1, rfl, rfl, rfl, w1⟩ := open_int Tryd.underlying5 (hval 1 5 v1 rfl rfl) h1
  obtain ⟨n2, rfl, rfl, rfl, w2⟩ := open_int Tryd.underlying5 (hval 2 5 v2 rfl rfl) h2
  have k0 := h0
  have lt0 : ∀ x ∈ p0, x.block < W.heap.size := by obtain ⟨m, hm⟩ := k0; exact DataW.trod_lt m _ _ _ hm
  obtain ⟨va, vb, vc, ya, yb, yc, nn, rfl, _, _, t0, t1, t2⟩ := Go.Joins.open_agg3 Tryd.underlying65 (by kernel_rfl) (by kernel_rfl) (hval 0 65 v0 rfl rfl) h0
  obtain ⟨a0, l0, cap0, rfl, hC0, hc0, hm0, hw0⟩ := bytes_open1 t0
  obtain ⟨dom0, e1, _, _⟩ := DataW.trod_string Tryd.underlying9 t1
  obtain rfl : vb = .string dom0 := by simpa using e1
  obtain ⟨val0, e2, _, _⟩ := DataW.trod_string Tryd.underlying9 t2
  obtain rfl : vc = .string val0 := by simpa using e2
  clear hA0 
  have hR := rounds_of_laid hL   -- RoundsOf
  have b1 := bounds_u8 w1
  have b2 := bounds_u8 w2
  refine (tagBegins_any a0 cap0 l0 dom0 val0 n1 n2 W hR (fun x hx => bounds_u8 (hw0 x hx)) hC0 hc0 b1.1 (by omega) b2.1 (by omega)).mono fun e W' ⟨he, bel⟩ => ?_
  subst he
  exact ⟨_, rfl, _, _, _, [], _, [], hW', trodAll_mk1 (shut_bool Tryd.underlying4 _), (trodAll_cons_mk (Below.trod laidOut (by kernel_rfl) (of_decide_eq_true (by kernel_rfl)) k0 bel lt0) (trodAll_cons_mk (shut_int Tryd.underlying5 w1) (trodAll_cons_mk (shut_int Tryd.underlying5 w2) trodAll_mk0))), rfl, bel.frame _, fun h => by cases h⟩

theorem laid_met (os : Os) : laidMet Tryd.prog Rows.tagBeginsRow.laid ((laidWorld os).forCall (fun _ _ => 0) ⟨#[], #[.agg #[.slice none 0 0, .string ⟨#[]⟩, .string ⟨#[]⟩], .int .u8 0, .int .u8 0], []⟩).memory :=
  laidMet_of_run' 8 (by kernel_rfl) (by kernel_rfl)
theorem reads (os : Os) {H : Type} (enc : TypeId × Value → H) : ∃ places, DataW.whole enc Tryd.prog ((laidWorld os).forCall (fun _ _ => 0) ⟨#[], #[.agg #[.slice none 0 0, .string ⟨#[]⟩, .string ⟨#[]⟩], .int .u8 0, .int .u8 0], []⟩).memory Tryd.f16.params.toList Rows.tagBeginsSpec.vars false #[Value.agg #[Value.slice none 0 0, .string ⟨#[]⟩, .string ⟨#[]⟩], .int .u8 0, .int .u8 0].toList 8 = some ([.agg [.nil, .lit (.string []), .lit (.string [])], .lit (.int .u8 0), .lit (.int .u8 0)], [], places) :=
  ⟨[], by kernel_rfl⟩
theorem lifted (os : Os) (started : os.Started) (H : Type) (enc : TypeId × Value → H) (F : Stop.Interp) :
    ReturnsInHanded {} Tryd.checked os 16 .any ((OpenSpec.ofChange Rows.tagBeginsSpec).preRow enc Tryd.prog Tryd.f16 Rows.tagBeginsRow.domain false Rows.tagBeginsRow.laid) (((OpenSpec.ofChange Rows.tagBeginsSpec).at F).post enc Tryd.prog Tryd.f16 false true false false) := by
  obtain ⟨places, hx⟩ := reads os enc
  refine returnsInHanded_of_row (C := Tryd.checked) (s := OpenSpec.ofChange Rows.tagBeginsSpec) own started (by kernel_rfl) Tryd.func16
    (witness_row_at (enc := enc) (C := Tryd.checked) false (laidWorld os) #[.agg #[.slice none 0 0, .string ⟨#[]⟩, .string ⟨#[]⟩], .int .u8 0, .int .u8 0] rfl (by kernel_rfl) (by kernel_rfl) (by kernel_rfl)
      (OpenSpec.preRow_of_cond 8 hx (by kernel_rfl) (fun k hk => by cases hk) (by kernel_rfl) (laid_met os))) ?_
  intro W base args ds gs before hval hW _ _ _ hL _ _
  exact contract H enc W base args ds gs before hval hW hL
theorem said : Rows.TagBeginsSaid :=
  OpenClaim.holds_of_cond 16 Tryd.f16 rfl rfl rfl rfl rfl rfl rfl ⟨rfl, rfl, rfl, rfl, rfl⟩ rfl rfl rfl rfl rfl (by kernel_rfl) Tryd.func16 (by kernel_rfl)
    (of_decide_eq_true (by kernel_rfl)) (by unfold Func.isWrapper; first | (rw [if_pos (by decide +kernel)]; kernel_rfl) | (rw [if_neg (by decide +kernel)]; exact ⟨rfl, rfl⟩))
    (fun os started H enc _ F => by rw [OpenClaim.pre_eq_preRow]; exact lifted os started H enc F)
theorem plain (f : FuncId) (fn : Func) (hf : Tryd.pinned.checked.prog.funcNamed "incognito/incognitolaw05.TagBegins" = some f) (hfn : Tryd.pinned.checked.prog.funcs[f]? = some fn) :
    false = Tryd.pinned.checked.prog.looks [] ∧ ∀ (j : Nat) t, fn.params[j]? = some t → Tryd.pinned.checked.prog.wantsStandIn t = false := by
  obtain rfl : f = 16 := Option.some.inj ((show Tryd.prog.funcNamed "incognito/incognitolaw05.TagBegins" = some 16 by kernel_rfl).symm.trans hf) |>.symm
  obtain rfl : fn = Tryd.f16 := (Option.some.inj (Tryd.func16.symm.trans hfn)).symm
  refine ⟨by kernel_rfl, fun j t ht => ?_⟩
  rw [Tryd.params16] at ht
  have h : t = 65 ∨ t = 5 ∨ t = 5 := by simpa using Array.mem_of_getElem? ht
  rcases h with rfl | rfl | rfl
  · exact (show Tryd.prog.wantsStandIn 65 = false by kernel_rfl)
  · exact (show Tryd.prog.wantsStandIn 5 = false by kernel_rfl)
  · exact (show Tryd.prog.wantsStandIn 5 = false by kernel_rfl)
theorem card : Rows.TagBeginsCardSaid :=
  Claim7.holds_tied_plain_at .later [] _ _ _ _ said (fun _ h => by cases h) (by kernel_rfl) (fun _ h => by cases h) tagBegins_row_tie rfl ⟨rfl, rfl⟩ (by kernel_rfl) rfl plain (by kernel_rfl)
#print axioms card
end Go.Proofs.YtalghfnjelcpnaaDoor.tagBegins
namespace Go.Proofs.YtalghfnjelcpnaaDoor
/-- The card, under a short name, for the claim. -/
theorem tagBegins_card : Rows.TagBeginsCardSaid := tagBegins.card
end Go.Proofs.YtalghfnjelcpnaaDoor
