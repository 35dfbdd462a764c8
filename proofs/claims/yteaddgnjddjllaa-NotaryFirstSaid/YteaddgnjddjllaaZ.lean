/-
  NotaryFirst: for every input that the law's row speaks of, the call returns true and the arguments stay as they were.
  Conditions: none beside those that the given statement itself says.
-/
import Derived.Test.YteaddgnjddjllaaKb
set_option linter.all false
namespace Go.Proofs.Yteaddgnjddjllaa.fnNotaryFirst
open Go Go.E Go.ChangeShapes Go.WideShapes Go.RowKit
set_option maxRecDepth 100000
set_option maxHeartbeats 2000000
theorem own : ownKnob Try.prog.godebug = none := by kernel_rfl
theorem okP : allOk Try.prog = true := by kernel_rfl
theorem laidOutP : laidOutB Try.prog = true := by kernel_rfl
theorem mapsP : mapsRowed Try.prog = true := by kernel_rfl
theorem slicesP : slicesOk Try.prog = true := by kernel_rfl
theorem paramsOk : Try.f3.params.toList.all (fun t => decide (t < Try.prog.types.size) && (ty Try.prog t).dat) = true := by kernel_rfl
theorem laidP : laidOk Try.prog Rows.notaryFirstRow.laid = true := by kernel_rfl
theorem resP : Try.f3.resultTypes = #[4] := by kernel_rfl
theorem boolP : Try.prog.underlying 4 = some .bool := by kernel_rfl
def wArgs : Array Value := #[Value.agg #[.int .u8 0, .int .u8 0, .int .u8 0, .int .u8 0, .int .u8 0, .int .u8 0, .int .u8 0, .int .u8 0, .int .u8 0, .int .u8 0, .int .u8 0, .int .u8 0, .int .u8 0, .int .u8 0, .int .u8 0, .int .u8 0, .int .u8 0, .int .u8 0, .int .u8 0, .int .u8 0, .int .u8 0, .int .u8 0, .int .u8 0, .int .u8 0, .int .u8 0, .int .u8 0, .int .u8 0, .int .u8 0, .int .u8 0, .int .u8 0, .int .u8 0, .int .u8 0], .int .u64 0, .int .u64 0]
def wRead (H : Type) : List (DataW H) := [.agg [.lit (.int .u8 0), .lit (.int .u8 0), .lit (.int .u8 0), .lit (.int .u8 0), .lit (.int .u8 0), .lit (.int .u8 0), .lit (.int .u8 0), .lit (.int .u8 0), .lit (.int .u8 0), .lit (.int .u8 0), .lit (.int .u8 0), .lit (.int .u8 0), .lit (.int .u8 0), .lit (.int .u8 0), .lit (.int .u8 0), .lit (.int .u8 0), .lit (.int .u8 0), .lit (.int .u8 0), .lit (.int .u8 0), .lit (.int .u8 0), .lit (.int .u8 0), .lit (.int .u8 0), .lit (.int .u8 0), .lit (.int .u8 0), .lit (.int .u8 0), .lit (.int .u8 0), .lit (.int .u8 0), .lit (.int .u8 0), .lit (.int .u8 0), .lit (.int .u8 0), .lit (.int .u8 0), .lit (.int .u8 0)], .lit (.int .u64 0), .lit (.int .u64 0)]
theorem contract (H : Type) (enc : TypeId × Value → H) (W : World) (base : Nat) (args : Array Value) (ds gs : List (DataW H)) (before : List MemPlace)
    (hval : ∀ (j : Nat) t v, Try.f3.params[j]? = some t → args[j]? = some v → Value.okWide Try.prog W .any base t v)
    (hW : DataW.Whole enc Try.prog Try.f3.params.toList Rows.notaryFirstSpec.vars false W args.toList ds gs before)
    (hwt : (DataW.weightsEach Try.prog Try.f3.params.toList ds).all (· ≤ reachBytes) = true) (hL : laidMetH Try.prog Rows.notaryFirstRow.laid W) :
    Calls Try.prog 3 args W fun e W' => ∃ v, e = .returned v ∧ Rows.notaryFirstSpec.post enc Try.prog Try.f3 false true false false W args v W' := by
  have hg : gs = [] := by
    obtain ⟨p, q, _, hV, _⟩ := hW
    exact (trodVars_none hV).1
  have hd : ds.length = 3 := by
    obtain ⟨p, q, hA, _⟩ := hW
    exact (trodAll_len hA).2.trans (by kernel_rfl)
  subst hg
  match ds, hd, hW, hwt with
  | [d0, d1, d2], _, hW, hwt =>
    refine law_contract (s := Rows.notaryFirstSpec) okP laidOutP mapsP slicesP paramsOk resP boolP rfl hval hW hwt (glOk_sub (glOk_met okP laidP (by kernel_rfl) hL) (gl0_sub _ (show _ = _ by kernel_rfl))) rfl rfl rfl ?_
    rw [show Try.f3.params.toList.map (ty Try.prog) = [(.arr 32 (.int .u8)), (.int .u64), (.int .u64)] by kernel_rfl]
    exact run_NotaryFirst (fun _ => none)  (cOf d0) (cOf d1) (cOf d2)
noncomputable def w0 (os : Os) : World := World.doorLaid Try.prog 400 os
theorem reads (os : Os) {H : Type} (enc : TypeId × Value → H) : ∃ places, DataW.whole enc Try.prog ((w0 os).forCall (fun _ _ => 0) ⟨#[], wArgs, []⟩).memory Try.f3.params.toList Rows.notaryFirstSpec.vars false (wArgs : Array Value).toList 12 = some (wRead H, [], places) :=
  ⟨[], by kernel_rfl⟩
theorem met (os : Os) : laidMetH Try.prog Rows.notaryFirstRow.laid ((w0 os).forCall (fun _ _ => 0) ⟨#[], wArgs, []⟩).memory :=
  laidMetH_of_parts3 (fuel := 8) (laidMet_of_run' 8 (by kernel_rfl) (by kernel_rfl)) (by kernel_rfl) (by kernel_rfl)
def rowL (P : Program) (w : World) (t : TypeId) (cs : Array Value) : Bool :=
  match P.cellTypes P.depth t with
  | some ts => ts.length == cs.toList.length && (ts.zip cs.toList).all fun p => Cell.okWideB P w p.1 p.2
  | none => false
theorem rowL_ok {P : Program} {w : World} {t : TypeId} {cs : Array Value} (h : rowL P w t cs = true) : Cell.okWideRowB P w t cs = true := by
  unfold rowL at h
  unfold Cell.okWideRowB
  split at h
  · rename_i ts hts
    simp only [Bool.and_eq_true, beq_iff_eq, List.all_eq_true] at h
    obtain ⟨hl, hz⟩ := h
    have hl' : ts.length = cs.size := by simpa using hl
    simp only [hts, Bool.and_eq_true, beq_iff_eq, List.all_eq_true, List.mem_range]
    refine ⟨by rw [hl']; exact Nat.mod_self _, fun i hi => ?_⟩
    have hi2 : i < ts.length := by omega
    rw [Nat.mod_eq_of_lt hi2, Array.getElem?_eq_getElem hi, List.getElem?_eq_getElem hi2]
    refine hz (ts[i], cs[i]) ?_
    rw [List.mem_iff_getElem]
    refine ⟨i, by simp; omega, ?_⟩
    simp
  · cases h
def argL (P : Program) (w : World) (t : TypeId) (v : Value) : Bool :=
  match P.underlying t with
  | some (.struct _) | some (.array _ _) =>
    match v with
    | .agg cs => cs.size == P.cellsOf t && rowL P w t cs
    | _ => false
  | _ => Cell.okWideB P w t v
theorem argL_ok {P : Program} {w : World} {t : TypeId} {v : Value} (h : argL P w t v = true) : Value.okWideB P w t v = true := by
  unfold argL at h
  unfold Value.okWideB
  split at h
  · rename_i fs hu
    simp only [hu]
    cases v <;> simp at h
    simp only [Bool.and_eq_true, beq_iff_eq]
    exact ⟨h.1, rowL_ok h.2⟩
  · rename_i n e hu
    simp only [hu]
    cases v <;> simp at h
    simp only [Bool.and_eq_true, beq_iff_eq]
    exact ⟨h.1, rowL_ok h.2⟩
  · rename_i h1 h2
    split
    · rename_i fs hu; exact absurd hu (h1 fs)
    · rename_i n e hu; exact absurd hu (h2 n e)
    · exact h
def argsL (P : Program) (w : World) : List TypeId → List Value → Bool
  | [], [] => true
  | t :: ts, v :: vs => argL P w t v && argsL P w ts vs
  | _, _ => false
theorem argsL_at {P : Program} {w : World} : ∀ {ts : List TypeId} {vs : List Value}, argsL P w ts vs = true → ∀ {j : Nat}, j < ts.length → ∃ t v, ts[j]? = some t ∧ vs[j]? = some v ∧ Value.okWideB P w t v = true
  | [], [], _, _, hj => by simp at hj
  | [], _ :: _, h, _, _ => by simp [argsL] at h
  | _ :: _, [], h, _, _ => by simp [argsL] at h
  | t :: ts, v :: vs, h, 0, _ => by
    simp only [argsL, Bool.and_eq_true] at h
    exact ⟨t, v, rfl, rfl, argL_ok h.1⟩
  | t :: ts, v :: vs, h, j + 1, hj => by
    simp only [argsL, Bool.and_eq_true] at h
    have := argsL_at h.2 (j := j) (by simpa using hj)
    simpa using this
theorem ok_of_argsL {P : Program} {w : World} {f : FuncId} {fn : Func} {args : Array Value} (hfn : P.funcs[f]? = some fn) (hi : (P.inits.idxOf? f).isNone = true)
    (h1 : (fn.body.isSome && !fn.ours && fn.nfree == 0 && args.size == fn.params.size) = true) (h : argsL P w fn.params.toList args.toList = true) : Input.okWideB P w f ⟨#[], args, []⟩ = true := by
  unfold Input.okWideB
  simp only [hfn, hi, Bool.and_eq_true] at h1 ⊢
  refine ⟨⟨⟨by simp, by simp⟩, trivial⟩, h1, ?_⟩
  rw [List.all_eq_true]
  intro j hj
  obtain ⟨t, v, ht, hv, hk⟩ := argsL_at h (j := j) (by simpa using hj)
  rw [Array.getElem?_toList] at ht hv
  rw [ht, hv]
  exact hk
theorem heldVars (os : Os) : ((w0 os).forCall (fun _ _ => 0) ⟨#[], wArgs, []⟩).variablesB Try.checked.prog = true := by kernel_rfl
theorem heldStrings (os : Os) : ((((w0 os).forCall (fun _ _ => 0) ⟨#[], wArgs, []⟩).heap.toList.drop Try.checked.prog.globals.size).take ((begin Try.checked.prog (fun _ _ => 0) default).world.heap.size - Try.checked.prog.globals.size)) =
      (begin Try.checked.prog (fun _ _ => 0) default).world.heap.toList.drop Try.checked.prog.globals.size := by kernel_rfl
theorem heldArgs (os : Os) : Input.okWideB Try.checked.prog ((w0 os).forCall (fun _ _ => 0) ⟨#[], wArgs, []⟩) 3 ⟨#[], wArgs, []⟩ = true :=
  ok_of_argsL Try.func3 (by kernel_rfl) (by kernel_rfl) (by kernel_rfl)
theorem lifted (os : Os) (started : os.Started) (H : Type) (enc : TypeId × Value → H) (F : Stop.Interp) :
    ReturnsInHanded {} Try.checked os 3 .any ((OpenSpec.ofChange Rows.notaryFirstSpec).preRow enc Try.prog Try.f3 Rows.notaryFirstRow.domain false Rows.notaryFirstRow.laid) (((OpenSpec.ofChange Rows.notaryFirstSpec).at F).post enc Try.prog Try.f3 false true false false) := by
  obtain ⟨places, hx⟩ := reads os enc
  refine returnsInHanded_of_row (C := Try.checked) (s := OpenSpec.ofChange Rows.notaryFirstSpec) own started (by as_aux_lemma => kernel_rfl) Try.func3
    (witness_row_at (enc := enc) (C := Try.checked) false (w0 os) wArgs rfl (heldVars os) (heldStrings os) (heldArgs os)
      (OpenSpec.preRow_of_cond 12 hx (by as_aux_lemma => kernel_rfl) (fun k hk => by cases hk) (by as_aux_lemma => kernel_rfl) (met os))) ?_
  intro W base args ds gs before hval hW _ _ hwt hL _ _
  have hg : gs = [] := by
    obtain ⟨p, q, _, hV, _⟩ := hW
    exact (trodVars_none hV).1
  subst hg
  refine contract H enc W base args ds [] before hval hW ?_ hL
  have e : Try.f3.params.toList ++ (OpenSpec.ofChange Rows.notaryFirstSpec).bare.plain.varTypes Try.checked.prog = Try.f3.params.toList := by as_aux_lemma => kernel_rfl
  rw [e, List.append_nil] at hwt
  exact hwt
theorem said : Rows.NotaryFirstSaid :=
  OpenClaim.holds_of_cond 3 Try.f3 rfl rfl rfl rfl rfl rfl rfl ⟨rfl, rfl, rfl, rfl, rfl⟩ rfl rfl rfl rfl rfl (by kernel_rfl) Try.func3 (by kernel_rfl)
    (of_decide_eq_true (by kernel_rfl)) (by unfold Func.isWrapper; first | (rw [if_pos (by decide +kernel)]; kernel_rfl) | (rw [if_neg (by decide +kernel)]; exact ⟨rfl, rfl⟩))
    (fun os started H enc _ F => by rw [OpenClaim.pre_eq_preRow]; exact lifted os started H enc F)
end Go.Proofs.Yteaddgnjddjllaa.fnNotaryFirst
