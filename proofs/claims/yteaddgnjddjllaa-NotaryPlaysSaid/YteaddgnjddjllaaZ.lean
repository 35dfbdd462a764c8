/-
 NotaryPlays: for every input that the law's row speaks of, the call returns true and the arguments stay as they were.
 Conditions: none beside those that the given statement itself says.
-/
import Derived.Test.YteaddgnjddjllaaKc
set_option linter.all false
namespace Go.Proofs.Yteaddgnjddjllaa.fnNotaryPlays
open Go Go.E Go.ChangeShapes Go.WideShapes Go.RowKit
set_option maxRecDepth 100000
set_option maxHeartbeats 2000000
theorem own : ownKnob Try.prog.godebug = none := by kernel_rfl
theorem okP : u6 Try.prog = true := by kernel_rfl
theorem y64 : laidOutB Try.prog = true := by kernel_rfl
theorem x14 : mapsRowed Try.prog = true := by kernel_rfl
theorem y8P : z5c Try.prog = true := by kernel_rfl
theorem y6O : Try.f4.params.toList.all (fun t => decide (t < Try.prog.types.size) && (ty Try.prog t).dat) = true := by kernel_rfl
theorem x15 : z6y Try.prog Rows.notaryPlaysRow.laid = true := by kernel_rfl
theorem x2C : Try.f4.resultTypes = #[4] := by kernel_rfl
theorem x2h : Try.prog.underlying 4 = some .bool := by kernel_rfl
def q9q : Array Value := #[Value.slice none 0 0, .slice none 0 0, .int .u64 0]
def x1G (H : Type) : List (DataW H) := [.nil, .nil, .lit (.int .u64 0)]
theorem y7E (H : Type) (enc : TypeId × Value → H) (W : World) (base : Nat) (args : Array Value) (ds gs : List (DataW H)) (before : List MemPlace)
  (hval : ∀ (j : Nat) t v, Try.f4.params[j]? = some t → args[j]? = some v → Value.okWide Try.prog W .any base t v)
  (hW : DataW.Whole enc Try.prog Try.f4.params.toList Rows.notaryPlaysSpec.vars false W args.toList ds gs before)
  (hwt : (DataW.weightsEach Try.prog Try.f4.params.toList ds).all (· ≤ reachBytes) = true) (hL : laidMetH Try.prog Rows.notaryPlaysRow.laid W) :
  Calls Try.prog 4 args W fun e W' => ∃ v, e = .returned v ∧ Rows.notaryPlaysSpec.post enc Try.prog Try.f4 false true false false W args v W' := by
 have hg : gs = [] := by
  obtain ⟨p, q, _, hV, _⟩ := hW
  exact (trodVars_none hV).1
 have hd : ds.length = 3 := by
  obtain ⟨p, q, hA, _⟩ := hW
  exact (q9T hA).2.trans (by kernel_rfl)
 subst hg
 match ds, hd, hW, hwt with
 | [d0, d1, d2], _, hW, hwt =>
  refine y08 (s := Rows.notaryPlaysSpec) okP y64 x14 y8P y6O x2C x2h rfl hval hW hwt (y7c (y7d okP x15 (by kernel_rfl) hL) (y9e _ (show _ = _ by kernel_rfl))) rfl rfl rfl ?_
  rw [show Try.f4.params.toList.map (ty Try.prog) = [(.slice 40 z7), (.slice 64 Y0), (.int .u64)] by kernel_rfl]
  exact z5Z (fun _ => none)  (cOf d0) (cOf d1) (cOf d2)
noncomputable def w0 (os : Os) : World := World.doorLaid Try.prog 400 os
theorem reads (os : Os) {H : Type} (enc : TypeId × Value → H) : ∃ places, DataW.whole enc Try.prog ((w0 os).forCall (fun _ _ => 0) ⟨#[], q9q, []⟩).memory Try.f4.params.toList Rows.notaryPlaysSpec.vars false (q9q : Array Value).toList 12 = some (x1G H, [], places) :=
 ⟨[], by kernel_rfl⟩
theorem met (os : Os) : laidMetH Try.prog Rows.notaryPlaysRow.laid ((w0 os).forCall (fun _ _ => 0) ⟨#[], q9q, []⟩).memory :=
 laidMetH_of_parts3 (fuel := 8) (laidMet_of_run' 8 (by kernel_rfl) (by kernel_rfl)) (by kernel_rfl) (by kernel_rfl)
def y6H (P : Program) (w : World) (t : TypeId) (cs : Array Value) : Bool :=
 match P.cellTypes P.depth t with
 | some ts => ts.length == cs.toList.length && (ts.zip cs.toList).all fun p => Cell.okWideB P w p.1 p.2
 | none => false
theorem y2J {P : Program} {w : World} {t : TypeId} {cs : Array Value} (h : y6H P w t cs = true) : Cell.okWideRowB P w t cs = true := by
 unfold y6H at h
 unfold Cell.okWideRowB
 split at h
 ·rename_i ts hts
  simp only [Bool.and_eq_true, beq_iff_eq, List.all_eq_true] at h
  obtain ⟨hl, hz⟩ := h
  have hl' : ts.length = cs.size := by simpa using hl
  simp only [hts, Bool.and_eq_true, beq_iff_eq, List.all_eq_true, List.mem_range]
  refine ⟨by rw [hl']; exact Nat.mod_self _, fun i hi => ?_⟩
  have hi2 : i < ts.length := by omega
  rw [Nat.mod_eq_of_lt hi2, Array.getElem?_eq_getElem hi, List.getElem?_eq_getElem hi2]
  refine hz (ts[i], cs[i]) ?_
  rw [List.mem_iff_getElem]
  refine ⟨i, by simp; omega, ?_⟩
  simp
 ·cases h
def y7O (P : Program) (w : World) (t : TypeId) (v : Value) : Bool :=
 match P.underlying t with
 | some (.struct _) | some (.array _ _) =>
  match v with
  | .agg cs => cs.size == P.cellsOf t && y6H P w t cs
  | _ => false
 | _ => Cell.okWideB P w t v
theorem y9F {P : Program} {w : World} {t : TypeId} {v : Value} (h : y7O P w t v = true) : Value.okWideB P w t v = true := by
 unfold y7O at h
 unfold Value.okWideB
 split at h
 ·rename_i fs hu
  simp only [hu]
  cases v <;> simp at h
  simp only [Bool.and_eq_true, beq_iff_eq]
  exact ⟨h.1, y2J h.2⟩
 ·rename_i n e hu
  simp only [hu]
  cases v <;> simp at h
  simp only [Bool.and_eq_true, beq_iff_eq]
  exact ⟨h.1, y2J h.2⟩
 ·rename_i h1 h2
  split
  ·rename_i fs hu; exact absurd hu (h1 fs)
  ·rename_i n e hu; exact absurd hu (h2 n e)
  ·exact h
def z1S (P : Program) (w : World) : List TypeId → List Value → Bool
 | [], [] => true
 | t :: ts, v :: vs => y7O P w t v && z1S P w ts vs
 | _, _ => false
theorem y1T {P : Program} {w : World} : ∀ {ts : List TypeId} {vs : List Value}, z1S P w ts vs = true → ∀ {j : Nat}, j < ts.length → ∃ t v, ts[j]? = some t ∧ vs[j]? = some v ∧ Value.okWideB P w t v = true
 | [], [], _, _, hj => by simp at hj
 | [], _ :: _, h, _, _ => by simp [z1S] at h
 | _ :: _, [], h, _, _ => by simp [z1S] at h
 | t :: ts, v :: vs, h, 0, _ => by
  simp only [z1S, Bool.and_eq_true] at h
  exact ⟨t, v, rfl, rfl, y9F h.1⟩
 | t :: ts, v :: vs, h, j + 1, hj => by
  simp only [z1S, Bool.and_eq_true] at h
  have := y1T h.2 (j := j) (by simpa using hj)
  simpa using this
theorem y2d {P : Program} {w : World} {f : FuncId} {fn : Func} {args : Array Value} (hfn : P.funcs[f]? = some fn) (hi : (P.inits.idxOf? f).isNone = true)
  (h1 : (fn.body.isSome && !fn.ours && fn.nfree == 0 && args.size == fn.params.size) = true) (h : z1S P w fn.params.toList args.toList = true) : Input.okWideB P w f ⟨#[], args, []⟩ = true := by
 unfold Input.okWideB
 simp only [hfn, hi, Bool.and_eq_true] at h1 ⊢
 refine ⟨⟨⟨by simp, by simp⟩, trivial⟩, h1, ?_⟩
 rw [List.all_eq_true]
 intro j hj
 obtain ⟨t, v, ht, hv, hk⟩ := y1T h (j := j) (by simpa using hj)
 rw [Array.getElem?_toList] at ht hv
 rw [ht, hv]
 exact hk
theorem y69 (os : Os) : ((w0 os).forCall (fun _ _ => 0) ⟨#[], q9q, []⟩).variablesB Try.checked.prog = true := by kernel_rfl
theorem y2u (os : Os) : ((((w0 os).forCall (fun _ _ => 0) ⟨#[], q9q, []⟩).heap.toList.drop Try.checked.prog.globals.size).take ((begin Try.checked.prog (fun _ _ => 0) default).world.heap.size - Try.checked.prog.globals.size)) =
   (begin Try.checked.prog (fun _ _ => 0) default).world.heap.toList.drop Try.checked.prog.globals.size := by kernel_rfl
theorem y7a (os : Os) : Input.okWideB Try.checked.prog ((w0 os).forCall (fun _ _ => 0) ⟨#[], q9q, []⟩) 4 ⟨#[], q9q, []⟩ = true :=
 y2d Try.func4 (by kernel_rfl) (by kernel_rfl) (by kernel_rfl)
theorem lifted (os : Os) (started : os.Started) (H : Type) (enc : TypeId × Value → H) (F : Stop.Interp) :
  ReturnsInHanded {} Try.checked os 4 .any ((OpenSpec.ofChange Rows.notaryPlaysSpec).preRow enc Try.prog Try.f4 Rows.notaryPlaysRow.domain false Rows.notaryPlaysRow.laid) (((OpenSpec.ofChange Rows.notaryPlaysSpec).at F).post enc Try.prog Try.f4 false true false false) := by
 obtain ⟨places, hx⟩ := reads os enc
 refine returnsInHanded_of_row (C := Try.checked) (s := OpenSpec.ofChange Rows.notaryPlaysSpec) own started (by as_aux_lemma => kernel_rfl) Try.func4
  (witness_row_at (enc := enc) (C := Try.checked) false (w0 os) q9q rfl (y69 os) (y2u os) (y7a os)
   (OpenSpec.preRow_of_cond 12 hx (by as_aux_lemma => kernel_rfl) (fun k hk => by cases hk) (by as_aux_lemma => kernel_rfl) (met os))) ?_
 intro W base args ds gs before hval hW _ _ hwt hL _ _
 have hg : gs = [] := by
  obtain ⟨p, q, _, hV, _⟩ := hW
  exact (trodVars_none hV).1
 subst hg
 refine y7E H enc W base args ds [] before hval hW ?_ hL
 have e : Try.f4.params.toList ++ (OpenSpec.ofChange Rows.notaryPlaysSpec).bare.plain.varTypes Try.checked.prog = Try.f4.params.toList := by as_aux_lemma => kernel_rfl
 rw [e, List.append_nil] at hwt
 exact hwt
theorem said : Rows.NotaryPlaysSaid :=
 OpenClaim.holds_of_cond 4 Try.f4 rfl rfl rfl rfl rfl rfl rfl ⟨rfl, rfl, rfl, rfl, rfl⟩ rfl rfl rfl rfl rfl (by kernel_rfl) Try.func4 (by kernel_rfl)
  (of_decide_eq_true (by kernel_rfl)) (by unfold Func.isWrapper; first | (rw [if_pos (by decide +kernel)]; kernel_rfl) | (rw [if_neg (by decide +kernel)]; exact ⟨rfl, rfl⟩))
  (fun os started H enc _ F => by rw [OpenClaim.pre_eq_preRow]; exact lifted os started H enc F)
end Go.Proofs.Yteaddgnjddjllaa.fnNotaryPlays
