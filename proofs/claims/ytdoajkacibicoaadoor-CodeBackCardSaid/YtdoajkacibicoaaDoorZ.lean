/-
 CodeBack: for every input that the law's row speaks of, the call returns true and the arguments stay as they were.
 Conditions: none beside those that the given statement itself says.
-/
import Derived.Test.YtdoajkacibicoaaDoorCards
import Derived.Test.YtdoajkacibicoaaDoorTie
import Derived.Lay
import Derived.LaidSub
import Derived.Test.YtdoajkacibicoaaDoorKc
set_option linter.all false
namespace Go.Proofs.YtdoajkacibicoaaDoor.fnCodeBack
open Go Go.E Go.ChangeShapes Go.WideShapes Go.RowKit
set_option maxRecDepth 100000
set_option maxHeartbeats 2000000
theorem own : ownKnob Tryd.prog.godebug = none := by kernel_rfl
theorem okP : x5 Tryd.prog = true := by kernel_rfl
theorem y3P : laidOutB Tryd.prog = true := by kernel_rfl
theorem y7n : mapsRowed Tryd.prog = true := by kernel_rfl
theorem y5a : z11 Tryd.prog = true := by kernel_rfl
theorem y3v : Tryd.f4.params.toList.all (fun t => decide (t < Tryd.prog.types.size) && (ty Tryd.prog t).dat) = true := by kernel_rfl
def W4 (x : String × DataW Unit) : Bool := !["strconv.ErrRange", "strconv.ErrSyntax"].contains x.1
theorem y7o : z05 Tryd.prog Rows.codeBackRow.laid = true := by kernel_rfl
theorem y7Z : Tryd.f4.resultTypes = #[4] := by kernel_rfl
theorem y7v : Tryd.prog.underlying 4 = some .bool := by kernel_rfl
def q6X : Array Value := #[Value.slice none 0 0, .string ⟨#[]⟩]
def y7a (H : Type) : List (DataW H) := [.nil, .lit (.string [])]
theorem y4o (H : Type) (enc : TypeId × Value → H) (W : World) (base : Nat) (args : Array Value) (ds gs : List (DataW H)) (before : List MemPlace)
  (hval : ∀ (j : Nat) t v, Tryd.f4.params[j]? = some t → args[j]? = some v → Value.okWide Tryd.prog W .any base t v)
  (hW : DataW.Whole enc Tryd.prog Tryd.f4.params.toList Rows.codeBackSpec.vars false W args.toList ds gs before)
  (hwt : (DataW.weightsEach Tryd.prog Tryd.f4.params.toList ds).all (· ≤ reachBytes) = true) (hL : laidMetH Tryd.prog Rows.codeBackRow.laid W) :
  Calls Tryd.prog 4 args W fun e W' => ∃ v, e = .returned v ∧ Rows.codeBackSpec.post enc Tryd.prog Tryd.f4 false true false false W args v W' := by
 have hg : gs = [] := by
  obtain ⟨p, q, _, hV, _⟩ := hW
  exact (trodVars_none hV).1
 have hd : ds.length = 2 := by
  obtain ⟨p, q, hA, _⟩ := hW
  exact (q7o hA).2.trans (by kernel_rfl)
 subst hg
 match ds, hd, hW, hwt with
 | [d0, d1], _, hW, hwt =>
  refine z7R (s := Rows.codeBackSpec) okP y3P y7n y5a y3v y7Z y7v rfl hval hW hwt (y3T (y2q okP y7o (by kernel_rfl) hL) (y5x _ (show _ = _ by kernel_rfl))) rfl rfl rfl ?_
  rw [show Tryd.f4.params.toList.map (ty Tryd.prog) = [(.slice 1 (.int .u8)), .str] by kernel_rfl]
  exact z6V (fun _ => none)  (cOf d0) (cOf d1)
noncomputable def w0 (os : Os) : World := World.laidAll Tryd.prog os Rows.codeBackRow.laid
theorem reads (os : Os) {H : Type} (enc : TypeId × Value → H) : ∃ places, DataW.whole enc Tryd.prog ((w0 os).forCall (fun _ _ => 0) ⟨#[], q6X, []⟩).memory Tryd.f4.params.toList Rows.codeBackSpec.vars false (q6X : Array Value).toList 12 = some (y7a H, [], places) :=
 ⟨[], by kernel_rfl⟩
theorem met (os : Os) : laidMetH Tryd.prog Rows.codeBackRow.laid ((w0 os).forCall (fun _ _ => 0) ⟨#[], q6X, []⟩).memory :=
 by rw [MakeChecks.laidMetH_plain _ _ _ (by kernel_rfl)]; exact laidMet_laidAll _ (by kernel_rfl) (by kernel_rfl)
def y3o (P : Program) (w : World) (t : TypeId) (cs : Array Value) : Bool :=
 match P.cellTypes P.depth t with
 | some ts => ts.length == cs.toList.length && (ts.zip cs.toList).all fun p => Cell.okWideB P w p.1 p.2
 | none => false
theorem z9y {P : Program} {w : World} {t : TypeId} {cs : Array Value} (h : y3o P w t cs = true) : Cell.okWideRowB P w t cs = true := by
 unfold y3o at h
 unfold Cell.okWideRowB
 split at h
 ·rename_i ts hts
  simp only [Bool.and_eq_true, beq_iff_eq, List.all_eq_true] at h
  obtain ⟨hl, hz⟩ := h
  have hl' : ts.length = cs.size := by simpa using hl
  simp only [hts, Bool.and_eq_true, beq_iff_eq, List.all_eq_true, List.mem_range]
  refine ⟨by rw [hl']; exact Nat.mod_self _, fun i hi => ?_⟩
  have hi2 : i < ts.length := by omega
  rw [Nat.mod_eq_of_lt hi2, Array.getElem?_eq_getElem hi, List.getElem?_eq_getElem hi2]
  refine hz (ts[i], cs[i]) ?_
  rw [List.mem_iff_getElem]
  refine ⟨i, by simp; omega, ?_⟩
  simp
 ·cases h
def y4w (P : Program) (w : World) (t : TypeId) (v : Value) : Bool :=
 match P.underlying t with
 | some (.struct _) | some (.array _ _) =>
  match v with
  | .agg cs => cs.size == P.cellsOf t && y3o P w t cs
  | _ => false
 | _ => Cell.okWideB P w t v
theorem y5Z {P : Program} {w : World} {t : TypeId} {v : Value} (h : y4w P w t v = true) : Value.okWideB P w t v = true := by
 unfold y4w at h
 unfold Value.okWideB
 split at h
 ·rename_i fs hu
  simp only [hu]
  cases v <;> simp at h
  simp only [Bool.and_eq_true, beq_iff_eq]
  exact ⟨h.1, z9y h.2⟩
 ·rename_i n e hu
  simp only [hu]
  cases v <;> simp at h
  simp only [Bool.and_eq_true, beq_iff_eq]
  exact ⟨h.1, z9y h.2⟩
 ·rename_i h1 h2
  split
  ·rename_i fs hu; exact absurd hu (h1 fs)
  ·rename_i n e hu; exact absurd hu (h2 n e)
  ·exact h
def q83 (P : Program) (w : World) : List TypeId → List Value → Bool
 | [], [] => true
 | t :: ts, v :: vs => y4w P w t v && q83 P w ts vs
 | _, _ => false
theorem z8J {P : Program} {w : World} : ∀ {ts : List TypeId} {vs : List Value}, q83 P w ts vs = true → ∀ {j : Nat}, j < ts.length → ∃ t v, ts[j]? = some t ∧ vs[j]? = some v ∧ Value.okWideB P w t v = true
 | [], [], _, _, hj => by simp at hj
 | [], _ :: _, h, _, _ => by simp [q83] at h
 | _ :: _, [], h, _, _ => by simp [q83] at h
 | t :: ts, v :: vs, h, 0, _ => by
  simp only [q83, Bool.and_eq_true] at h
  exact ⟨t, v, rfl, rfl, y5Z h.1⟩
 | t :: ts, v :: vs, h, j + 1, hj => by
  simp only [q83, Bool.and_eq_true] at h
  have := z8J h.2 (j := j) (by simpa using hj)
  simpa using this
theorem z82 {P : Program} {w : World} {f : FuncId} {fn : Func} {args : Array Value} (hfn : P.funcs[f]? = some fn) (hi : (P.inits.idxOf? f).isNone = true)
  (h1 : (fn.body.isSome && !fn.ours && fn.nfree == 0 && args.size == fn.params.size) = true) (h : q83 P w fn.params.toList args.toList = true) : Input.okWideB P w f ⟨#[], args, []⟩ = true := by
 unfold Input.okWideB
 simp only [hfn, hi, Bool.and_eq_true] at h1 ⊢
 refine ⟨⟨⟨by simp, by simp⟩, trivial⟩, h1, ?_⟩
 rw [List.all_eq_true]
 intro j hj
 obtain ⟨t, v, ht, hv, hk⟩ := z8J h (j := j) (by simpa using hj)
 rw [Array.getElem?_toList] at ht hv
 rw [ht, hv]
 exact hk
theorem y3S (os : Os) : ((w0 os).forCall (fun _ _ => 0) ⟨#[], q6X, []⟩).variablesZipB Tryd.checked.prog = true := by kernel_rfl
theorem z9j (os : Os) : ((((w0 os).forCall (fun _ _ => 0) ⟨#[], q6X, []⟩).heap.toList.drop Tryd.checked.prog.globals.size).take ((begin Tryd.checked.prog (fun _ _ => 0) default).world.heap.size - Tryd.checked.prog.globals.size)) =
   (begin Tryd.checked.prog (fun _ _ => 0) default).world.heap.toList.drop Tryd.checked.prog.globals.size := by kernel_rfl
theorem z7V (os : Os) : Input.okWideB Tryd.checked.prog ((w0 os).forCall (fun _ _ => 0) ⟨#[], q6X, []⟩) 4 ⟨#[], q6X, []⟩ = true :=
 z82 Tryd.func4 (by kernel_rfl) (by kernel_rfl) (by kernel_rfl)
theorem lifted (os : Os) (started : os.Started) (H : Type) (enc : TypeId × Value → H) (F : Stop.Interp) :
  ReturnsInHanded {} Tryd.checked os 4 .any ((OpenSpec.ofChange Rows.codeBackSpec).preRow enc Tryd.prog Tryd.f4 Rows.codeBackRow.domain false Rows.codeBackRow.laid) (((OpenSpec.ofChange Rows.codeBackSpec).at F).post enc Tryd.prog Tryd.f4 false true false false) := by
 obtain ⟨places, hx⟩ := reads os enc
 refine returnsInHanded_of_row (C := Tryd.checked) (s := OpenSpec.ofChange Rows.codeBackSpec) own started (by as_aux_lemma => kernel_rfl) Tryd.func4
  ⟨w0 os, fun _ _ => 0, ⟨#[], q6X, []⟩, World.laidAll_os _ _ _, World.shaped_of_ZipB (y3S os) (z9j os), (Input.okWide_of_okWideB (base := 0) (z7V os)).1, (Input.okWide_of_okWideB (z7V os)).2,
   OpenSpec.preRow_of_cond 12 hx (by as_aux_lemma => kernel_rfl) (fun k hk => by cases hk) (by as_aux_lemma => kernel_rfl) (met os), by simp [Assume.holds]⟩ ?_
 intro W base args ds gs before hval hW _ _ hwt hL _ _
 have hg : gs = [] := by
  obtain ⟨p, q, _, hV, _⟩ := hW
  exact (trodVars_none hV).1
 subst hg
 refine y4o H enc W base args ds [] before hval hW ?_ hL
 have e : Tryd.f4.params.toList ++ (OpenSpec.ofChange Rows.codeBackSpec).bare.plain.varTypes Tryd.checked.prog = Tryd.f4.params.toList := by as_aux_lemma => kernel_rfl
 rw [e, List.append_nil] at hwt
 exact hwt
theorem said : Rows.CodeBackSaid :=
 OpenClaim.holds_of_cond 4 Tryd.f4 rfl rfl rfl rfl rfl rfl rfl ⟨rfl, rfl, rfl, rfl, rfl⟩ rfl rfl rfl rfl rfl (by kernel_rfl) Tryd.func4 (by kernel_rfl)
  (of_decide_eq_true (by kernel_rfl)) (by unfold Func.isWrapper; first | (rw [if_pos (by decide +kernel)]; kernel_rfl) | (rw [if_neg (by decide +kernel)]; exact ⟨rfl, rfl⟩))
  (fun os started H enc _ F => by rw [OpenClaim.pre_eq_preRow]; exact lifted os started H enc F)
theorem plain (f : FuncId) (fn : Func) (hf : Tryd.pinned.checked.prog.funcNamed Rows.codeBackRow.func = some f) (hfn : Tryd.pinned.checked.prog.funcs[f]? = some fn) :
  true = Tryd.pinned.checked.prog.looks [] ∧ ∀ (j : Nat) t, fn.params[j]? = some t → Tryd.pinned.checked.prog.wantsStandIn t = false := by
 obtain rfl : f = 4 := Option.some.inj ((show Tryd.prog.funcNamed Rows.codeBackRow.func = some 4 by kernel_rfl).symm.trans hf) |>.symm
 obtain rfl : fn = Tryd.f4 := (Option.some.inj (Tryd.func4.symm.trans hfn)).symm
 refine ⟨by kernel_rfl, fun j t ht => ?_⟩
 have hm : t ∈ Tryd.f4.params.toList := by simpa using Array.mem_of_getElem? ht
 have hall : (Tryd.f4.params.toList.all fun u => !Tryd.prog.wantsStandIn u) = true := by kernel_rfl
 exact (show Tryd.prog.wantsStandIn t = false by simpa using List.all_eq_true.1 hall t hm)
theorem card : Rows.CodeBackCardSaid :=
 Claim7.holds_tied_plain_at .later [] _ _ _ _ said (fun _ h => by cases h) (by kernel_rfl) (fun _ h => by cases h) codeBack_row_tie rfl ⟨rfl, rfl⟩ (by kernel_rfl) rfl plain (by kernel_rfl)
end Go.Proofs.YtdoajkacibicoaaDoor.fnCodeBack
