/-
  CourtNil: for every input that the law's row speaks of, the call returns true and the arguments stay as they were.
  Conditions: none beside those that the given statement itself says.
-/
import Derived.Test.YtkbkpgnngfemnaaGreatDoorCards
import Derived.Test.YtkbkpgnngfemnaaGreatDoorTie
import Derived.Test.YtkbkpgnngfemnaaGreatDoorKa
set_option linter.all false
namespace Go.Proofs.YtkbkpgnngfemnaaGreatDoor.fnCourtNil
open Go Go.E Go.ChangeShapes Go.WideShapes Go.RowKit
set_option maxRecDepth 100000
theorem own : ownKnob Tryz.prog.godebug = none := by kernel_rfl
theorem okP : allOk Tryz.prog = true := by kernel_rfl
theorem laidOutP : laidOutB Tryz.prog = true := by kernel_rfl
theorem mapsP : mapsRowed Tryz.prog = true := by kernel_rfl
theorem slicesP : slicesOk Tryz.prog = true := by kernel_rfl
theorem paramsOk : Tryz.f3.params.toList.all (fun t => decide (t < Tryz.prog.types.size) && (ty Tryz.prog t).dat) = true := by kernel_rfl
theorem laidP : laidOk Tryz.prog Rows.courtNilRow.laid = true := by kernel_rfl
theorem resP : Tryz.f3.resultTypes = #[4] := by kernel_rfl
theorem boolP : Tryz.prog.underlying 4 = some .bool := by kernel_rfl
/-- What the run on abstract data gives. -/
theorem contract (H : Type) (enc : TypeId × Value → H) (W : World) (base : Nat) (args : Array Value) (ds gs : List (DataW H)) (before : List MemPlace)
    (hval : ∀ (j : Nat) t v, Tryz.f3.params[j]? = some t → args[j]? = some v → Value.okWide Tryz.prog W .any base t v)
    (hW : DataW.Whole enc Tryz.prog Tryz.f3.params.toList Rows.courtNilSpec.vars false W args.toList ds gs before)
    (hwt : (DataW.weightsEach Tryz.prog Tryz.f3.params.toList ds).all (· ≤ reachBytes) = true) (hL : laidMetH Tryz.prog Rows.courtNilRow.laid W) :
    Calls Tryz.prog 3 args W fun e W' => ∃ v, e = .returned v ∧ Rows.courtNilSpec.post enc Tryz.prog Tryz.f3 false true false false W args v W' := by
  have hg : gs = [] := by
    obtain ⟨p, q, _, hV, _⟩ := hW
    exact (trodVars_none hV).1
  have hd : ds.length = 1 := by
    obtain ⟨p, q, hA, _⟩ := hW
    exact (trodAll_len hA).2.trans (by kernel_rfl)
  subst hg
  match ds, hd, hW, hwt with
  | [d0], _, hW, hwt =>
    refine law_contract (s := Rows.courtNilSpec) okP laidOutP mapsP slicesP paramsOk resP boolP rfl hval hW hwt (glOk_met okP laidP (by kernel_rfl) hL) rfl rfl rfl ?_
    rw [show Tryz.f3.params.toList.map (ty Tryz.prog) = [(.int .i64)] by kernel_rfl]
    exact run_CourtNil (gl := glOf Tryz.prog Rows.courtNilRow.laid)  (cOf d0)
/-- A world for the witness: what the program's own initialisers lay. -/
noncomputable def w0 (os : Os) : World := World.doorLaid Tryz.prog 400 os
theorem reads (os : Os) {H : Type} (enc : TypeId × Value → H) : ∃ places, DataW.whole enc Tryz.prog ((w0 os).forCall (fun _ _ => 0) ⟨#[], #[Value.int .i64 0], []⟩).memory Tryz.f3.params.toList Rows.courtNilSpec.vars false (#[Value.int .i64 0] : Array Value).toList 12 = some ([.lit (.int .i64 0)], [], places) :=
  ⟨[], by kernel_rfl⟩
theorem met (os : Os) : laidMetH Tryz.prog Rows.courtNilRow.laid ((w0 os).forCall (fun _ _ => 0) ⟨#[], #[Value.int .i64 0], []⟩).memory :=
  laidMetH_of_parts3 (fuel := 8) (laidMet_of_run' 8 (by kernel_rfl) (by kernel_rfl)) (by kernel_rfl) (by kernel_rfl)
theorem lifted (os : Os) (started : os.Started) (H : Type) (enc : TypeId × Value → H) (F : Stop.Interp) :
    ReturnsInHanded {} Tryz.checked os 3 .any ((OpenSpec.ofChange Rows.courtNilSpec).preRow enc Tryz.prog Tryz.f3 Rows.courtNilRow.domain false Rows.courtNilRow.laid) (((OpenSpec.ofChange Rows.courtNilSpec).at F).post enc Tryz.prog Tryz.f3 false true false false) := by
  obtain ⟨places, hx⟩ := reads os enc
  refine returnsInHanded_of_row (C := Tryz.checked) (s := OpenSpec.ofChange Rows.courtNilSpec) own started (by kernel_rfl) Tryz.func3
    (witness_row_at (enc := enc) (C := Tryz.checked) false (w0 os) #[Value.int .i64 0] rfl (by kernel_rfl) (by kernel_rfl) (by kernel_rfl)
      (OpenSpec.preRow_of_cond 12 hx (by kernel_rfl) (fun k hk => by cases hk) (by kernel_rfl) (met os))) ?_
  intro W base args ds gs before hval hW _ _ hwt hL _ _
  have hg : gs = [] := by
    obtain ⟨p, q, _, hV, _⟩ := hW
    exact (trodVars_none hV).1
  subst hg
  refine contract H enc W base args ds [] before hval hW ?_ hL
  have e : Tryz.f3.params.toList ++ (OpenSpec.ofChange Rows.courtNilSpec).bare.plain.varTypes Tryz.checked.prog = Tryz.f3.params.toList := by kernel_rfl
  rw [e, List.append_nil] at hwt
  exact hwt
theorem said : Rows.CourtNilSaid :=
  OpenClaim.holds_of_cond 3 Tryz.f3 rfl rfl rfl rfl rfl rfl rfl ⟨rfl, rfl, rfl, rfl, rfl⟩ rfl rfl rfl rfl rfl (by kernel_rfl) Tryz.func3 (by kernel_rfl)
    (of_decide_eq_true (by kernel_rfl)) (by unfold Func.isWrapper; first | (rw [if_pos (by decide +kernel)]; kernel_rfl) | (rw [if_neg (by decide +kernel)]; exact ⟨rfl, rfl⟩))
    (fun os started H enc _ F => by rw [OpenClaim.pre_eq_preRow]; exact lifted os started H enc F)
theorem plain (f : FuncId) (fn : Func) (hf : Tryz.pinned.checked.prog.funcNamed Rows.courtNilRow.func = some f) (hfn : Tryz.pinned.checked.prog.funcs[f]? = some fn) :
    false = Tryz.pinned.checked.prog.looks [] ∧ ∀ (j : Nat) t, fn.params[j]? = some t → Tryz.pinned.checked.prog.wantsStandIn t = false := by
  obtain rfl : f = 3 := Option.some.inj ((show Tryz.prog.funcNamed Rows.courtNilRow.func = some 3 by kernel_rfl).symm.trans hf) |>.symm
  obtain rfl : fn = Tryz.f3 := (Option.some.inj (Tryz.func3.symm.trans hfn)).symm
  refine ⟨by kernel_rfl, fun j t ht => ?_⟩
  have hm : t ∈ Tryz.f3.params.toList := by simpa using Array.mem_of_getElem? ht
  have hall : (Tryz.f3.params.toList.all fun u => !Tryz.prog.wantsStandIn u) = true := by kernel_rfl
  exact (show Tryz.prog.wantsStandIn t = false by simpa using List.all_eq_true.1 hall t hm)
/-- The card. -/
theorem card : Rows.CourtNilCardSaid :=
  Claim7.holds_tied_plain_at .later [] _ _ _ _ said (fun _ h => by cases h) (by kernel_rfl) (fun _ h => by cases h) courtNil_row_tie rfl ⟨rfl, rfl⟩ (by kernel_rfl) rfl plain (by kernel_rfl)
end Go.Proofs.YtkbkpgnngfemnaaGreatDoor.fnCourtNil
