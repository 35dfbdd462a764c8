/-
  JournalTexts: for every input that the law's row speaks of, the call returns true and the arguments stay as they were.
  Conditions: none beside those that the given statement itself says.
-/
import Derived.Test.YtefppgmopnnphaaDoorCards
import Derived.Test.YtefppgmopnnphaaDoorTie
import Derived.Lay
import Derived.LaidSub
import Derived.Test.YtefppgmopnnphaaDoorKb
set_option linter.all false
namespace Go.Proofs.YtefppgmopnnphaaDoor.fnJournalTexts
open Go Go.E Go.ChangeShapes Go.WideShapes Go.RowKit
set_option maxRecDepth 100000
set_option maxHeartbeats 2000000
theorem own : ownKnob Tryd.prog.godebug = none := by kernel_rfl
theorem okP : allOk Tryd.prog = true := by kernel_rfl
theorem laidOutP : laidOutB Tryd.prog = true := by kernel_rfl
theorem mapsP : mapsRowed Tryd.prog = true := by kernel_rfl
theorem slicesP : slicesOk Tryd.prog = true := by kernel_rfl
theorem paramsOk : Tryd.f6.params.toList.all (fun t => decide (t < Tryd.prog.types.size) && (ty Tryd.prog t).dat) = true := by kernel_rfl
def keep (x : String × DataW Unit) : Bool := !["strconv.ErrRange", "strconv.ErrSyntax"].contains x.1
theorem laidP : laidOkA Tryd.prog Rows.journalTextsRow.laid = true := by kernel_rfl
theorem resP : Tryd.f6.resultTypes = #[4] := by kernel_rfl
theorem boolP : Tryd.prog.underlying 4 = some .bool := by kernel_rfl
def wArgs : Array Value := #[Value.slice none 0 0, .string ⟨#[]⟩]
def wRead (H : Type) : List (DataW H) := [.nil, .lit (.string [])]
theorem contract (H : Type) (enc : TypeId × Value → H) (W : World) (base : Nat) (args : Array Value) (ds gs : List (DataW H)) (before : List MemPlace)
    (hval : ∀ (j : Nat) t v, Tryd.f6.params[j]? = some t → args[j]? = some v → Value.okWide Tryd.prog W .any base t v)
    (hW : DataW.Whole enc Tryd.prog Tryd.f6.params.toList Rows.journalTextsSpec.vars false W args.toList ds gs before)
    (hwt : (DataW.weightsEach Tryd.prog Tryd.f6.params.toList ds).all (· ≤ reachBytes) = true) (hL : laidMetH Tryd.prog Rows.journalTextsRow.laid W) :
    Calls Tryd.prog 6 args W fun e W' => ∃ v, e = .returned v ∧ Rows.journalTextsSpec.post enc Tryd.prog Tryd.f6 false true false false W args v W' := by
  have hg : gs = [] := by
    obtain ⟨p, q, _, hV, _⟩ := hW
    exact (trodVars_none hV).1
  have hd : ds.length = 2 := by
    obtain ⟨p, q, hA, _⟩ := hW
    exact (trodAll_len hA).2.trans (by kernel_rfl)
  subst hg
  match ds, hd, hW, hwt with
  | [d0, d1], _, hW, hwt =>
    refine law_contract (s := Rows.journalTextsSpec) okP laidOutP mapsP slicesP paramsOk resP boolP rfl hval hW hwt (glOk_sub (glOkA_met okP laidP (by kernel_rfl) hL) (gl0_sub _ (show _ = _ by kernel_rfl))) rfl rfl rfl ?_
    rw [show Tryd.f6.params.toList.map (ty Tryd.prog) = [(.slice 32 tEntry3), .str] by kernel_rfl]
    exact run_JournalTexts (fun _ => none)  (cOf d0) (cOf d1)
noncomputable def w0 (os : Os) : World := World.laidAll Tryd.prog os Rows.journalTextsRow.laid
theorem reads (os : Os) {H : Type} (enc : TypeId × Value → H) : ∃ places, DataW.whole enc Tryd.prog ((w0 os).forCall (fun _ _ => 0) ⟨#[], wArgs, []⟩).memory Tryd.f6.params.toList Rows.journalTextsSpec.vars false (wArgs : Array Value).toList 12 = some (wRead H, [], places) :=
  ⟨[], by kernel_rfl⟩
theorem met (os : Os) : laidMetH Tryd.prog Rows.journalTextsRow.laid ((w0 os).forCall (fun _ _ => 0) ⟨#[], wArgs, []⟩).memory :=
  by rw [MakeChecks.laidMetH_plain _ _ _ (by kernel_rfl)]; exact laidMet_laidAll _ (by kernel_rfl) (by kernel_rfl)
def rowL (P : Program) (w : World) (t : TypeId) (cs : Array Value) : Bool :=
  match P.cellTypes P.depth t with
  | some ts => ts.length == cs.toList.length && (ts.zip cs.toList).all fun p => Cell.okWideB P w p.1 p.2
  | none => false
theorem rowL_ok {P : Program} {w : World} {t : TypeId} {cs : Array Value} (h : rowL P w t cs = true) : Cell.okWideRowB P w t cs = true := by
  unfold rowL at h
  unfold Cell.okWideRowB
  split at h
  · rename_i ts hts
    simp only [Bool.and_eq_true, beq_iff_eq, List.all_eq_true] at h
    obtain ⟨hl, hz⟩ := h
    have hl' : ts.length = cs.size := by simpa using hl
    simp only [hts, Bool.and_eq_true, beq_iff_eq, List.all_eq_true, List.mem_range]
    refine ⟨by rw [hl']; exact Nat.mod_self _, fun i hi => ?_⟩
    have hi2 : i < ts.length := by omega
    rw [Nat.mod_eq_of_lt hi2, Array.getElem?_eq_getElem hi, List.getElem?_eq_getElem hi2]
    refine hz (ts[i], cs[i]) ?_
    rw [List.mem_iff_getElem]
    refine ⟨i, by simp; omega, ?_⟩
    simp
  · cases h
def argL (P : Program) (w : World) (t : TypeId) (v : Value) : Bool :=
  match P.underlying t with
  | some (.struct _) | some (.array _ _) =>
    match v with
    | .agg cs => cs.size == P.cellsOf t && rowL P w t cs
    | _ => false
  | _ => Cell.okWideB P w t v
theorem argL_ok {P : Program} {w : World} {t : TypeId} {v : Value} (h : argL P w t v = true) : Value.okWideB P w t v = true := by
  unfold argL at h
  unfold Value.okWideB
  split at h
  · rename_i fs hu
    simp only [hu]
    cases v <;> simp at h
    simp only [Bool.and_eq_true, beq_iff_eq]
    exact ⟨h.1, rowL_ok h.2⟩
  · rename_i n e hu
    simp only [hu]
    cases v <;> simp at h
    simp only [Bool.and_eq_true, beq_iff_eq]
    exact ⟨h.1, rowL_ok h.2⟩
  · rename_i h1 h2
    split
    · rename_i fs hu; exact absurd hu (h1 fs)
    · rename_i n e hu; exact absurd hu (h2 n e)
    · exact h
def argsL (P : Program) (w : World) : List TypeId → List Value → Bool
  | [], [] => true
  | t :: ts, v :: vs => argL P w t v && argsL P w ts vs
  | _, _ => false
theorem argsL_at {P : Program} {w : World} : ∀ {ts : List TypeId} {vs : List Value}, argsL P w ts vs = true → ∀ {j : Nat}, j < ts.length → ∃ t v, ts[j]? = some t ∧ vs[j]? = some v ∧ Value.okWideB P w t v = true
  | [], [], _, _, hj => by simp at hj
  | [], _ :: _, h, _, _ => by simp [argsL] at h
  | _ :: _, [], h, _, _ => by simp [argsL] at h
  | t :: ts, v :: vs, h, 0, _ => by
    simp only [argsL, Bool.and_eq_true] at h
    exact ⟨t, v, rfl, rfl, argL_ok h.1⟩
  | t :: ts, v :: vs, h, j + 1, hj => by
    simp only [argsL, Bool.and_eq_true] at h
    have := argsL_at h.2 (j := j) (by simpa using hj)
    simpa using this
theorem ok_of_argsL {P : Program} {w : World} {f : FuncId} {fn : Func} {args : Array Value} (hfn : P.funcs[f]? = some fn) (hi : (P.inits.idxOf? f).isNone = true)
    (h1 : (fn.body.isSome && !fn.ours && fn.nfree == 0 && args.size == fn.params.size) = true) (h : argsL P w fn.params.toList args.toList = true) : Input.okWideB P w f ⟨#[], args, []⟩ = true := by
  unfold Input.okWideB
  simp only [hfn, hi, Bool.and_eq_true] at h1 ⊢
  refine ⟨⟨⟨by simp, by simp⟩, trivial⟩, h1, ?_⟩
  rw [List.all_eq_true]
  intro j hj
  obtain ⟨t, v, ht, hv, hk⟩ := argsL_at h (j := j) (by simpa using hj)
  rw [Array.getElem?_toList] at ht hv
  rw [ht, hv]
  exact hk
theorem heldVars (os : Os) : ((w0 os).forCall (fun _ _ => 0) ⟨#[], wArgs, []⟩).variablesZipB Tryd.checked.prog = true := by kernel_rfl
theorem heldStrings (os : Os) : ((((w0 os).forCall (fun _ _ => 0) ⟨#[], wArgs, []⟩).heap.toList.drop Tryd.checked.prog.globals.size).take ((begin Tryd.checked.prog (fun _ _ => 0) default).world.heap.size - Tryd.checked.prog.globals.size)) =
      (begin Tryd.checked.prog (fun _ _ => 0) default).world.heap.toList.drop Tryd.checked.prog.globals.size := by kernel_rfl
theorem heldArgs (os : Os) : Input.okWideB Tryd.checked.prog ((w0 os).forCall (fun _ _ => 0) ⟨#[], wArgs, []⟩) 6 ⟨#[], wArgs, []⟩ = true :=
  ok_of_argsL Tryd.func6 (by kernel_rfl) (by kernel_rfl) (by kernel_rfl)
theorem lifted (os : Os) (started : os.Started) (H : Type) (enc : TypeId × Value → H) (F : Stop.Interp) :
    ReturnsInHanded {} Tryd.checked os 6 .any ((OpenSpec.ofChange Rows.journalTextsSpec).preRow enc Tryd.prog Tryd.f6 Rows.journalTextsRow.domain false Rows.journalTextsRow.laid) (((OpenSpec.ofChange Rows.journalTextsSpec).at F).post enc Tryd.prog Tryd.f6 false true false false) := by
  obtain ⟨places, hx⟩ := reads os enc
  refine returnsInHanded_of_row (C := Tryd.checked) (s := OpenSpec.ofChange Rows.journalTextsSpec) own started (by as_aux_lemma => kernel_rfl) Tryd.func6
    ⟨w0 os, fun _ _ => 0, ⟨#[], wArgs, []⟩, World.laidAll_os _ _ _, World.shaped_of_ZipB (heldVars os) (heldStrings os), (Input.okWide_of_okWideB (base := 0) (heldArgs os)).1, (Input.okWide_of_okWideB (heldArgs os)).2,
      OpenSpec.preRow_of_cond 12 hx (by as_aux_lemma => kernel_rfl) (fun k hk => by cases hk) (by as_aux_lemma => kernel_rfl) (met os), by simp [Assume.holds]⟩ ?_
  intro W base args ds gs before hval hW _ _ hwt hL _ _
  have hg : gs = [] := by
    obtain ⟨p, q, _, hV, _⟩ := hW
    exact (trodVars_none hV).1
  subst hg
  refine contract H enc W base args ds [] before hval hW ?_ hL
  have e : Tryd.f6.params.toList ++ (OpenSpec.ofChange Rows.journalTextsSpec).bare.plain.varTypes Tryd.checked.prog = Tryd.f6.params.toList := by as_aux_lemma => kernel_rfl
  rw [e, List.append_nil] at hwt
  exact hwt
theorem said : Rows.JournalTextsSaid :=
  OpenClaim.holds_of_cond 6 Tryd.f6 rfl rfl rfl rfl rfl rfl rfl ⟨rfl, rfl, rfl, rfl, rfl⟩ rfl rfl rfl rfl rfl (by kernel_rfl) Tryd.func6 (by kernel_rfl)
    (of_decide_eq_true (by kernel_rfl)) (by unfold Func.isWrapper; first | (rw [if_pos (by decide +kernel)]; kernel_rfl) | (rw [if_neg (by decide +kernel)]; exact ⟨rfl, rfl⟩))
    (fun os started H enc _ F => by rw [OpenClaim.pre_eq_preRow]; exact lifted os started H enc F)
theorem plain (f : FuncId) (fn : Func) (hf : Tryd.pinned.checked.prog.funcNamed Rows.journalTextsRow.func = some f) (hfn : Tryd.pinned.checked.prog.funcs[f]? = some fn) :
    true = Tryd.pinned.checked.prog.looks [] ∧ ∀ (j : Nat) t, fn.params[j]? = some t → Tryd.pinned.checked.prog.wantsStandIn t = false := by
  obtain rfl : f = 6 := Option.some.inj ((show Tryd.prog.funcNamed Rows.journalTextsRow.func = some 6 by kernel_rfl).symm.trans hf) |>.symm
  obtain rfl : fn = Tryd.f6 := (Option.some.inj (Tryd.func6.symm.trans hfn)).symm
  refine ⟨by kernel_rfl, fun j t ht => ?_⟩
  have hm : t ∈ Tryd.f6.params.toList := by simpa using Array.mem_of_getElem? ht
  have hall : (Tryd.f6.params.toList.all fun u => !Tryd.prog.wantsStandIn u) = true := by kernel_rfl
  exact (show Tryd.prog.wantsStandIn t = false by simpa using List.all_eq_true.1 hall t hm)
theorem card : Rows.JournalTextsCardSaid :=
  Claim7.holds_tied_plain_at .later [] _ _ _ _ said (fun _ h => by cases h) (by kernel_rfl) (fun _ h => by cases h) journalTexts_row_tie rfl ⟨rfl, rfl⟩ (by kernel_rfl) rfl plain (by kernel_rfl)
end Go.Proofs.YtefppgmopnnphaaDoor.fnJournalTexts
