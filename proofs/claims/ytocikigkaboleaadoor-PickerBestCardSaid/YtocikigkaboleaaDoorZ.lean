/-
  PickerBest: for every input that the law's row speaks of, the call returns true and the arguments stay as they were.
  Conditions: none beside those that the given statement itself says.
-/
import Derived.Test.YtocikigkaboleaaDoorCards
import Derived.Test.YtocikigkaboleaaDoorTie
import Derived.Test.YtocikigkaboleaaDoorKb
set_option linter.all false
namespace Go.Proofs.YtocikigkaboleaaDoor.fnPickerBest
open Go Go.E Go.ChangeShapes Go.WideShapes Go.RowKit
set_option maxRecDepth 100000
theorem own : ownKnob Tryd.prog.godebug = none := by kernel_rfl
theorem okP : allOk Tryd.prog = true := by kernel_rfl
theorem laidOutP : laidOutB Tryd.prog = true := by kernel_rfl
theorem mapsP : mapsRowed Tryd.prog = true := by kernel_rfl
theorem slicesP : slicesOk Tryd.prog = true := by kernel_rfl
theorem paramsOk : Tryd.f3.params.toList.all (fun t => decide (t < Tryd.prog.types.size) && (ty Tryd.prog t).dat) = true := by kernel_rfl
theorem laidP : laidOk Tryd.prog Rows.pickerBestRow.laid = true := by kernel_rfl
theorem resP : Tryd.f3.resultTypes = #[4] := by kernel_rfl
theorem boolP : Tryd.prog.underlying 4 = some .bool := by kernel_rfl
/-- What the run on abstract data gives. -/
theorem contract (H : Type) (enc : TypeId × Value → H) (W : World) (base : Nat) (args : Array Value) (ds gs : List (DataW H)) (before : List MemPlace)
    (hval : ∀ (j : Nat) t v, Tryd.f3.params[j]? = some t → args[j]? = some v → Value.okWide Tryd.prog W .any base t v)
    (hW : DataW.Whole enc Tryd.prog Tryd.f3.params.toList Rows.pickerBestSpec.vars false W args.toList ds gs before)
    (hwt : (DataW.weightsEach Tryd.prog Tryd.f3.params.toList ds).all (· ≤ reachBytes) = true) (hL : laidMetH Tryd.prog Rows.pickerBestRow.laid W) :
    Calls Tryd.prog 3 args W fun e W' => ∃ v, e = .returned v ∧ Rows.pickerBestSpec.post enc Tryd.prog Tryd.f3 false true false false W args v W' := by
  have hg : gs = [] := by
    obtain ⟨p, q, _, hV, _⟩ := hW
    exact (trodVars_none hV).1
  have hd : ds.length = 2 := by
    obtain ⟨p, q, hA, _⟩ := hW
    exact (trodAll_len hA).2.trans (by kernel_rfl)
  subst hg
  match ds, hd, hW, hwt with
  | [d0, d1], _, hW, hwt =>
    refine law_contract (s := Rows.pickerBestSpec) okP laidOutP mapsP slicesP paramsOk resP boolP rfl hval hW hwt (glOk_met okP laidP (by kernel_rfl) hL) rfl rfl rfl ?_
    rw [show Tryd.f3.params.toList.map (ty Tryd.prog) = [(.slice 2368 tTx), (.int .i64)] by kernel_rfl]
    exact run_PickerBest (gl := glOf Tryd.prog Rows.pickerBestRow.laid) (show _ = _ by kernel_rfl) (cOf d0) (cOf d1)
/-- A world for the witness: what the program's own initialisers lay. -/
noncomputable def w0 (os : Os) : World := World.doorLaid Tryd.prog 400 os
theorem reads (os : Os) {H : Type} (enc : TypeId × Value → H) : ∃ places, DataW.whole enc Tryd.prog ((w0 os).forCall (fun _ _ => 0) ⟨#[], #[Value.slice none 0 0, .int .i64 0], []⟩).memory Tryd.f3.params.toList Rows.pickerBestSpec.vars false (#[Value.slice none 0 0, .int .i64 0] : Array Value).toList 12 = some ([.nil, .lit (.int .i64 0)], [], places) :=
  ⟨[], by kernel_rfl⟩
theorem met (os : Os) : laidMetH Tryd.prog Rows.pickerBestRow.laid ((w0 os).forCall (fun _ _ => 0) ⟨#[], #[Value.slice none 0 0, .int .i64 0], []⟩).memory :=
  laidMetH_of_parts3 (fuel := 8) (laidMet_of_run' 8 (by kernel_rfl) (by kernel_rfl)) (by kernel_rfl) (by kernel_rfl)
theorem lifted (os : Os) (started : os.Started) (H : Type) (enc : TypeId × Value → H) (F : Stop.Interp) :
    ReturnsInHanded {} Tryd.checked os 3 .any ((OpenSpec.ofChange Rows.pickerBestSpec).preRow enc Tryd.prog Tryd.f3 Rows.pickerBestRow.domain false Rows.pickerBestRow.laid) (((OpenSpec.ofChange Rows.pickerBestSpec).at F).post enc Tryd.prog Tryd.f3 false true false false) := by
  obtain ⟨places, hx⟩ := reads os enc
  refine returnsInHanded_of_row (C := Tryd.checked) (s := OpenSpec.ofChange Rows.pickerBestSpec) own started (by kernel_rfl) Tryd.func3
    (witness_row_at (enc := enc) (C := Tryd.checked) false (w0 os) #[Value.slice none 0 0, .int .i64 0] rfl (by kernel_rfl) (by kernel_rfl) (by kernel_rfl)
      (OpenSpec.preRow_of_cond 12 hx (by kernel_rfl) (fun k hk => by cases hk) (by kernel_rfl) (met os))) ?_
  intro W base args ds gs before hval hW _ _ hwt hL _ _
  have hg : gs = [] := by
    obtain ⟨p, q, _, hV, _⟩ := hW
    exact (trodVars_none hV).1
  subst hg
  refine contract H enc W base args ds [] before hval hW ?_ hL
  have e : Tryd.f3.params.toList ++ (OpenSpec.ofChange Rows.pickerBestSpec).bare.plain.varTypes Tryd.checked.prog = Tryd.f3.params.toList := by kernel_rfl
  rw [e, List.append_nil] at hwt
  exact hwt
theorem said : Rows.PickerBestSaid :=
  OpenClaim.holds_of_cond 3 Tryd.f3 rfl rfl rfl rfl rfl rfl rfl ⟨rfl, rfl, rfl, rfl, rfl⟩ rfl rfl rfl rfl rfl (by kernel_rfl) Tryd.func3 (by kernel_rfl)
    (of_decide_eq_true (by kernel_rfl)) (by unfold Func.isWrapper; first | (rw [if_pos (by decide +kernel)]; kernel_rfl) | (rw [if_neg (by decide +kernel)]; exact ⟨rfl, rfl⟩))
    (fun os started H enc _ F => by rw [OpenClaim.pre_eq_preRow]; exact lifted os started H enc F)
theorem plain (f : FuncId) (fn : Func) (hf : Tryd.pinned.checked.prog.funcNamed Rows.pickerBestRow.func = some f) (hfn : Tryd.pinned.checked.prog.funcs[f]? = some fn) :
    false = Tryd.pinned.checked.prog.looks [] ∧ ∀ (j : Nat) t, fn.params[j]? = some t → Tryd.pinned.checked.prog.wantsStandIn t = false := by
  obtain rfl : f = 3 := Option.some.inj ((show Tryd.prog.funcNamed Rows.pickerBestRow.func = some 3 by kernel_rfl).symm.trans hf) |>.symm
  obtain rfl : fn = Tryd.f3 := (Option.some.inj (Tryd.func3.symm.trans hfn)).symm
  refine ⟨by kernel_rfl, fun j t ht => ?_⟩
  have hm : t ∈ Tryd.f3.params.toList := by simpa using Array.mem_of_getElem? ht
  have hall : (Tryd.f3.params.toList.all fun u => !Tryd.prog.wantsStandIn u) = true := by kernel_rfl
  exact (show Tryd.prog.wantsStandIn t = false by simpa using List.all_eq_true.1 hall t hm)
/-- The card. -/
theorem card : Rows.PickerBestCardSaid :=
  Claim7.holds_tied_plain_at .later [] _ _ _ _ said (fun _ h => by cases h) (by kernel_rfl) (fun _ h => by cases h) pickerBest_row_tie rfl ⟨rfl, rfl⟩ (by kernel_rfl) rfl plain (by kernel_rfl)
end Go.Proofs.YtocikigkaboleaaDoor.fnPickerBest
