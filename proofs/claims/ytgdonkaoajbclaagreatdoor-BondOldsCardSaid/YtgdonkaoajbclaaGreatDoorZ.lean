/-
 BondOlds: for every input that the law's row speaks of, the call returns true and the arguments stay as they were.
 Conditions: none beside those that the given statement itself says.
-/
import Derived.Test.YtgdonkaoajbclaaGreatDoorCards
import Derived.Test.YtgdonkaoajbclaaGreatDoorTie
import Derived.Test.YtgdonkaoajbclaaGreatDoorKc
set_option linter.all false
namespace Go.Proofs.YtgdonkaoajbclaaGreatDoor.fnBondOlds
open Go Go.E Go.ChangeShapes Go.WideShapes Go.RowKit
set_option maxRecDepth 100000
set_option maxHeartbeats 2000000
theorem own : ownKnob Tryz.prog.godebug = none := by kernel_rfl
theorem okP : v9 Tryz.prog = true := by kernel_rfl
theorem x14 : laidOutB Tryz.prog = true := by kernel_rfl
theorem x7E : mapsRowed Tryz.prog = true := by kernel_rfl
theorem x3u : z8Z Tryz.prog = true := by kernel_rfl
theorem x1R : Tryz.f3.params.toList.all (fun t => decide (t < Tryz.prog.types.size) && (ty Tryz.prog t).dat) = true := by kernel_rfl
theorem x7F : y0x Tryz.prog Rows.bondOldsRow.laid = true := by kernel_rfl
theorem x8b : Tryz.f3.resultTypes = #[4] := by kernel_rfl
theorem x7O : Tryz.prog.underlying 4 = some .bool := by kernel_rfl
def z1v : Array Value := #[Value.agg #[.int .u8 0, .int .u8 0, .int .u8 0, .int .u8 0, .int .u8 0, .int .u8 0, .int .u8 0, .int .u8 0, .int .u8 0, .int .u8 0, .int .u8 0, .int .u8 0, .int .u8 0, .int .u8 0, .int .u8 0, .int .u8 0, .int .u8 0, .int .u8 0, .int .u8 0, .int .u8 0, .int .u8 0, .int .u8 0, .int .u8 0, .int .u8 0, .int .u8 0, .int .u8 0, .int .u8 0, .int .u8 0, .int .u8 0, .int .u8 0, .int .u8 0, .int .u8 0], .agg #[.int .u8 0, .int .u8 0, .int .u8 0, .int .u8 0, .int .u8 0, .int .u8 0, .int .u8 0, .int .u8 0, .int .u8 0, .int .u8 0, .int .u8 0, .int .u8 0, .int .u8 0, .int .u8 0, .int .u8 0, .int .u8 0, .int .u8 0, .int .u8 0, .int .u8 0, .int .u8 0, .int .u8 0, .int .u8 0, .int .u8 0, .int .u8 0, .int .u8 0, .int .u8 0, .int .u8 0, .int .u8 0, .int .u8 0, .int .u8 0, .int .u8 0, .int .u8 0], .agg #[.int .u32 0, .int .u64 0, .int .u64 0, .int .u64 0, .int .u64 0, .int .u64 0, .slice none 0 0], .agg #[.int .u32 0, .int .u64 0, .int .u64 0, .int .u64 0, .int .u64 0, .int .u64 0, .slice none 0 0]]
def x6E (H : Type) : List (DataW H) := [.agg [.lit (.int .u8 0), .lit (.int .u8 0), .lit (.int .u8 0), .lit (.int .u8 0), .lit (.int .u8 0), .lit (.int .u8 0), .lit (.int .u8 0), .lit (.int .u8 0), .lit (.int .u8 0), .lit (.int .u8 0), .lit (.int .u8 0), .lit (.int .u8 0), .lit (.int .u8 0), .lit (.int .u8 0), .lit (.int .u8 0), .lit (.int .u8 0), .lit (.int .u8 0), .lit (.int .u8 0), .lit (.int .u8 0), .lit (.int .u8 0), .lit (.int .u8 0), .lit (.int .u8 0), .lit (.int .u8 0), .lit (.int .u8 0), .lit (.int .u8 0), .lit (.int .u8 0), .lit (.int .u8 0), .lit (.int .u8 0), .lit (.int .u8 0), .lit (.int .u8 0), .lit (.int .u8 0), .lit (.int .u8 0)], .agg [.lit (.int .u8 0), .lit (.int .u8 0), .lit (.int .u8 0), .lit (.int .u8 0), .lit (.int .u8 0), .lit (.int .u8 0), .lit (.int .u8 0), .lit (.int .u8 0), .lit (.int .u8 0), .lit (.int .u8 0), .lit (.int .u8 0), .lit (.int .u8 0), .lit (.int .u8 0), .lit (.int .u8 0), .lit (.int .u8 0), .lit (.int .u8 0), .lit (.int .u8 0), .lit (.int .u8 0), .lit (.int .u8 0), .lit (.int .u8 0), .lit (.int .u8 0), .lit (.int .u8 0), .lit (.int .u8 0), .lit (.int .u8 0), .lit (.int .u8 0), .lit (.int .u8 0), .lit (.int .u8 0), .lit (.int .u8 0), .lit (.int .u8 0), .lit (.int .u8 0), .lit (.int .u8 0), .lit (.int .u8 0)], .agg [.lit (.int .u32 0), .lit (.int .u64 0), .agg [.lit (.int .u64 0), .lit (.int .u64 0)], .agg [.lit (.int .u64 0), .lit (.int .u64 0)], .nil], .agg [.lit (.int .u32 0), .lit (.int .u64 0), .agg [.lit (.int .u64 0), .lit (.int .u64 0)], .agg [.lit (.int .u64 0), .lit (.int .u64 0)], .nil]]
theorem x2w (H : Type) (enc : TypeId × Value → H) (W : World) (base : Nat) (args : Array Value) (ds gs : List (DataW H)) (before : List MemPlace)
  (hval : ∀ (j : Nat) t v, Tryz.f3.params[j]? = some t → args[j]? = some v → Value.okWide Tryz.prog W .any base t v)
  (hW : DataW.Whole enc Tryz.prog Tryz.f3.params.toList Rows.bondOldsSpec.vars false W args.toList ds gs before)
  (hwt : (DataW.weightsEach Tryz.prog Tryz.f3.params.toList ds).all (· ≤ reachBytes) = true) (hL : laidMetH Tryz.prog Rows.bondOldsRow.laid W) :
  Calls Tryz.prog 3 args W fun e W' => ∃ v, e = .returned v ∧ Rows.bondOldsSpec.post enc Tryz.prog Tryz.f3 false true false false W args v W' := by
 have hg : gs = [] := by
  obtain ⟨p, q, _, hV, _⟩ := hW
  exact (trodVars_none hV).1
 have hd : ds.length = 4 := by
  obtain ⟨p, q, hA, _⟩ := hW
  exact (z16 hA).2.trans (by kernel_rfl)
 subst hg
 match ds, hd, hW, hwt with
 | [d0, d1, d2, d3], _, hW, hwt =>
  refine y5S (s := Rows.bondOldsSpec) okP x14 x7E x3u x1R x8b x7O rfl hval hW hwt (x18 (x19 okP x7F (by kernel_rfl) hL) (x3N _ (show _ = _ by kernel_rfl))) rfl rfl rfl ?_
  rw [show Tryz.f3.params.toList.map (ty Tryz.prog) = [(.arr 32 (.int .u8)), (.arr 32 (.int .u8)), w4, w4] by kernel_rfl]
  exact y4M (fun _ => none)  (cOf d0) (cOf d1) (cOf d2) (cOf d3)
noncomputable def w0 (os : Os) : World := World.doorLaid Tryz.prog 400 os
theorem reads (os : Os) {H : Type} (enc : TypeId × Value → H) : ∃ places, DataW.whole enc Tryz.prog ((w0 os).forCall (fun _ _ => 0) ⟨#[], z1v, []⟩).memory Tryz.f3.params.toList Rows.bondOldsSpec.vars false (z1v : Array Value).toList 12 = some (x6E H, [], places) :=
 ⟨[], by kernel_rfl⟩
theorem met (os : Os) : laidMetH Tryz.prog Rows.bondOldsRow.laid ((w0 os).forCall (fun _ _ => 0) ⟨#[], z1v, []⟩).memory :=
 laidMetH_of_parts3 (fuel := 8) (laidMet_of_run' 8 (by kernel_rfl) (by kernel_rfl)) (by kernel_rfl) (by kernel_rfl)
def x1I (P : Program) (w : World) (t : TypeId) (cs : Array Value) : Bool :=
 match P.cellTypes P.depth t with
 | some ts => ts.length == cs.toList.length && (ts.zip cs.toList).all fun p => Cell.okWideB P w p.1 p.2
 | none => false
theorem y7T {P : Program} {w : World} {t : TypeId} {cs : Array Value} (h : x1I P w t cs = true) : Cell.okWideRowB P w t cs = true := by
 unfold x1I at h
 unfold Cell.okWideRowB
 split at h
 ·rename_i ts hts
  simp only [Bool.and_eq_true, beq_iff_eq, List.all_eq_true] at h
  obtain ⟨hl, hz⟩ := h
  have hl' : ts.length = cs.size := by simpa using hl
  simp only [hts, Bool.and_eq_true, beq_iff_eq, List.all_eq_true, List.mem_range]
  refine ⟨by rw [hl']; exact Nat.mod_self _, fun i hi => ?_⟩
  have hi2 : i < ts.length := by omega
  rw [Nat.mod_eq_of_lt hi2, Array.getElem?_eq_getElem hi, List.getElem?_eq_getElem hi2]
  refine hz (ts[i], cs[i]) ?_
  rw [List.mem_iff_getElem]
  refine ⟨i, by simp; omega, ?_⟩
  simp
 ·cases h
def x2C (P : Program) (w : World) (t : TypeId) (v : Value) : Bool :=
 match P.underlying t with
 | some (.struct _) | some (.array _ _) =>
  match v with
  | .agg cs => cs.size == P.cellsOf t && x1I P w t cs
  | _ => false
 | _ => Cell.okWideB P w t v
theorem x4f {P : Program} {w : World} {t : TypeId} {v : Value} (h : x2C P w t v = true) : Value.okWideB P w t v = true := by
 unfold x2C at h
 unfold Value.okWideB
 split at h
 ·rename_i fs hu
  simp only [hu]
  cases v <;> simp at h
  simp only [Bool.and_eq_true, beq_iff_eq]
  exact ⟨h.1, y7T h.2⟩
 ·rename_i n e hu
  simp only [hu]
  cases v <;> simp at h
  simp only [Bool.and_eq_true, beq_iff_eq]
  exact ⟨h.1, y7T h.2⟩
 ·rename_i h1 h2
  split
  ·rename_i fs hu; exact absurd hu (h1 fs)
  ·rename_i n e hu; exact absurd hu (h2 n e)
  ·exact h
def z4f (P : Program) (w : World) : List TypeId → List Value → Bool
 | [], [] => true
 | t :: ts, v :: vs => x2C P w t v && z4f P w ts vs
 | _, _ => false
theorem y6L {P : Program} {w : World} : ∀ {ts : List TypeId} {vs : List Value}, z4f P w ts vs = true → ∀ {j : Nat}, j < ts.length → ∃ t v, ts[j]? = some t ∧ vs[j]? = some v ∧ Value.okWideB P w t v = true
 | [], [], _, _, hj => by simp at hj
 | [], _ :: _, h, _, _ => by simp [z4f] at h
 | _ :: _, [], h, _, _ => by simp [z4f] at h
 | t :: ts, v :: vs, h, 0, _ => by
  simp only [z4f, Bool.and_eq_true] at h
  exact ⟨t, v, rfl, rfl, x4f h.1⟩
 | t :: ts, v :: vs, h, j + 1, hj => by
  simp only [z4f, Bool.and_eq_true] at h
  have := y6L h.2 (j := j) (by simpa using hj)
  simpa using this
theorem y67 {P : Program} {w : World} {f : FuncId} {fn : Func} {args : Array Value} (hfn : P.funcs[f]? = some fn) (hi : (P.inits.idxOf? f).isNone = true)
  (h1 : (fn.body.isSome && !fn.ours && fn.nfree == 0 && args.size == fn.params.size) = true) (h : z4f P w fn.params.toList args.toList = true) : Input.okWideB P w f ⟨#[], args, []⟩ = true := by
 unfold Input.okWideB
 simp only [hfn, hi, Bool.and_eq_true] at h1 ⊢
 refine ⟨⟨⟨by simp, by simp⟩, trivial⟩, h1, ?_⟩
 rw [List.all_eq_true]
 intro j hj
 obtain ⟨t, v, ht, hv, hk⟩ := y6L h (j := j) (by simpa using hj)
 rw [Array.getElem?_toList] at ht hv
 rw [ht, hv]
 exact hk
theorem x16 (os : Os) : ((w0 os).forCall (fun _ _ => 0) ⟨#[], z1v, []⟩).variablesB Tryz.checked.prog = true := by kernel_rfl
theorem y7z (os : Os) : ((((w0 os).forCall (fun _ _ => 0) ⟨#[], z1v, []⟩).heap.toList.drop Tryz.checked.prog.globals.size).take ((begin Tryz.checked.prog (fun _ _ => 0) default).world.heap.size - Tryz.checked.prog.globals.size)) =
   (begin Tryz.checked.prog (fun _ _ => 0) default).world.heap.toList.drop Tryz.checked.prog.globals.size := by kernel_rfl
theorem x17 (os : Os) : Input.okWideB Tryz.checked.prog ((w0 os).forCall (fun _ _ => 0) ⟨#[], z1v, []⟩) 3 ⟨#[], z1v, []⟩ = true :=
 y67 Tryz.func3 (by kernel_rfl) (by kernel_rfl) (by kernel_rfl)
theorem lifted (os : Os) (started : os.Started) (H : Type) (enc : TypeId × Value → H) (F : Stop.Interp) :
  ReturnsInHanded {} Tryz.checked os 3 .any ((OpenSpec.ofChange Rows.bondOldsSpec).preRow enc Tryz.prog Tryz.f3 Rows.bondOldsRow.domain false Rows.bondOldsRow.laid) (((OpenSpec.ofChange Rows.bondOldsSpec).at F).post enc Tryz.prog Tryz.f3 false true false false) := by
 obtain ⟨places, hx⟩ := reads os enc
 refine returnsInHanded_of_row (C := Tryz.checked) (s := OpenSpec.ofChange Rows.bondOldsSpec) own started (by as_aux_lemma => kernel_rfl) Tryz.func3
  (witness_row_at (enc := enc) (C := Tryz.checked) false (w0 os) z1v rfl (x16 os) (y7z os) (x17 os)
   (OpenSpec.preRow_of_cond 12 hx (by as_aux_lemma => kernel_rfl) (fun k hk => by cases hk) (by as_aux_lemma => kernel_rfl) (met os))) ?_
 intro W base args ds gs before hval hW _ _ hwt hL _ _
 have hg : gs = [] := by
  obtain ⟨p, q, _, hV, _⟩ := hW
  exact (trodVars_none hV).1
 subst hg
 refine x2w H enc W base args ds [] before hval hW ?_ hL
 have e : Tryz.f3.params.toList ++ (OpenSpec.ofChange Rows.bondOldsSpec).bare.plain.varTypes Tryz.checked.prog = Tryz.f3.params.toList := by as_aux_lemma => kernel_rfl
 rw [e, List.append_nil] at hwt
 exact hwt
theorem said : Rows.BondOldsSaid :=
 OpenClaim.holds_of_cond 3 Tryz.f3 rfl rfl rfl rfl rfl rfl rfl ⟨rfl, rfl, rfl, rfl, rfl⟩ rfl rfl rfl rfl rfl (by kernel_rfl) Tryz.func3 (by kernel_rfl)
  (of_decide_eq_true (by kernel_rfl)) (by unfold Func.isWrapper; first | (rw [if_pos (by decide +kernel)]; kernel_rfl) | (rw [if_neg (by decide +kernel)]; exact ⟨rfl, rfl⟩))
  (fun os started H enc _ F => by rw [OpenClaim.pre_eq_preRow]; exact lifted os started H enc F)
theorem plain (f : FuncId) (fn : Func) (hf : Tryz.pinned.checked.prog.funcNamed Rows.bondOldsRow.func = some f) (hfn : Tryz.pinned.checked.prog.funcs[f]? = some fn) :
  false = Tryz.pinned.checked.prog.looks [] ∧ ∀ (j : Nat) t, fn.params[j]? = some t → Tryz.pinned.checked.prog.wantsStandIn t = false := by
 obtain rfl : f = 3 := Option.some.inj ((show Tryz.prog.funcNamed Rows.bondOldsRow.func = some 3 by kernel_rfl).symm.trans hf) |>.symm
 obtain rfl : fn = Tryz.f3 := (Option.some.inj (Tryz.func3.symm.trans hfn)).symm
 refine ⟨by kernel_rfl, fun j t ht => ?_⟩
 have hm : t ∈ Tryz.f3.params.toList := by simpa using Array.mem_of_getElem? ht
 have hall : (Tryz.f3.params.toList.all fun u => !Tryz.prog.wantsStandIn u) = true := by kernel_rfl
 exact (show Tryz.prog.wantsStandIn t = false by simpa using List.all_eq_true.1 hall t hm)
theorem card : Rows.BondOldsCardSaid :=
 Claim7.holds_tied_plain_at .later [] _ _ _ _ said (fun _ h => by cases h) (by kernel_rfl) (fun _ h => by cases h) bondOlds_row_tie rfl ⟨rfl, rfl⟩ (by kernel_rfl) rfl plain (by kernel_rfl)
end Go.Proofs.YtgdonkaoajbclaaGreatDoor.fnBondOlds
