/-
 JournalTells: for every input that the law's row speaks of, the call returns true and the arguments stay as they were.
 Conditions: none beside those that the given statement itself says.
-/
import Derived.Test.YtefppgmopnnphaaDoorCards
import Derived.Test.YtefppgmopnnphaaDoorTie
import Derived.Test.YtefppgmopnnphaaDoorKb
set_option linter.all false
namespace Go.Proofs.YtefppgmopnnphaaDoor.fnJournalTells
open Go Go.E Go.ChangeShapes Go.WideShapes Go.RowKit
set_option maxRecDepth 100000
set_option maxHeartbeats 2000000
theorem own : ownKnob Tryd.prog.godebug = none := by kernel_rfl
theorem okP : x6 Tryd.prog = true := by kernel_rfl
theorem y3l : laidOutB Tryd.prog = true := by kernel_rfl
theorem y6T : mapsRowed Tryd.prog = true := by kernel_rfl
theorem y4R : z1f Tryd.prog = true := by kernel_rfl
theorem y28 : Tryd.f5.params.toList.all (fun t => decide (t < Tryd.prog.types.size) && (ty Tryd.prog t).dat) = true := by kernel_rfl
theorem y6U : z2w Tryd.prog Rows.journalTellsUptoRow.laid = true := by kernel_rfl
theorem y7v : Tryd.f5.resultTypes = #[4] := by kernel_rfl
theorem y63 : Tryd.prog.underlying 4 = some .bool := by kernel_rfl
def q6v : Array Value := #[Value.slice none 0 0, .int .u64 0, .string ⟨#[]⟩]
def y6B (H : Type) : List (DataW H) := [.nil, .lit (.int .u64 0), .lit (.string [])]
mutual
theorem y5A {H : Type} : ∀ d : DataW H, X2 (cOf d) ≤ Rows.uptoBulk d
 | .lit (.string l) => by simp [cOf, X2, Rows.uptoBulk]
 | .lit (.bool _) => by simp [cOf, X2, Rows.uptoBulk]
 | .lit (.int _ _) => by simp [cOf, X2, Rows.uptoBulk]
 | .lit (.float .f32 _) => by simp [cOf, X2, Rows.uptoBulk]
 | .lit (.float .f64 _) => by simp [cOf, X2, Rows.uptoBulk]
 | .lit .nil => by simp [cOf, X2, Rows.uptoBulk]
 | .nil => by simp [cOf, X2, J7, Rows.uptoBulk]
 | .slice es sp => by
  have := q8D es
  simp only [cOf, X2, Rows.uptoBulk]; omega
 | .agg ps => by
  have := q8D ps
  simp only [cOf, X2, Rows.uptoBulk]; omega
 | .ptr _ => by simp [cOf, X2, Rows.uptoBulk]
 | .iface _ _ => by simp [cOf, X2, Rows.uptoBulk]
 | .map _ => by simp [cOf, X2, Rows.uptoBulk]
 | .held _ => by simp [cOf, X2, Rows.uptoBulk]
theorem q8D {H : Type} : ∀ ds : List (DataW H), J7 (q31 ds) ≤ Rows.uptoBulkAll ds
 | [] => by simp [q31, J7]
 | d :: ds => by
  have := y5A d
  have := q8D ds
  simp only [q31, J7, Rows.uptoBulkAll]; omega
end
theorem y3X (H : Type) (enc : TypeId × Value → H) (W : World) (base : Nat) (args : Array Value) (ds gs : List (DataW H)) (before : List MemPlace)
  (hval : ∀ (j : Nat) t v, Tryd.f5.params[j]? = some t → args[j]? = some v → Value.okWide Tryd.prog W .any base t v)
  (hW : DataW.Whole enc Tryd.prog Tryd.f5.params.toList Rows.journalTellsSpec.vars false W args.toList ds gs before)
  (hwt : (DataW.weightsEach Tryd.prog Tryd.f5.params.toList ds).all (· ≤ reachBytes) = true) (hbk : Rows.uptoBulkAll ds ≤ 1048576) (hL : laidMetH Tryd.prog Rows.journalTellsUptoRow.laid W) :
  Calls Tryd.prog 5 args W fun e W' => ∃ v, e = .returned v ∧ Rows.journalTellsSpec.post enc Tryd.prog Tryd.f5 false true false false W args v W' := by
 have hg : gs = [] := by
  obtain ⟨p, q, _, hV, _⟩ := hW
  exact (trodVars_none hV).1
 have hd : ds.length = 3 := by
  obtain ⟨p, q, hA, _⟩ := hW
  exact (q60 hA).2.trans (by kernel_rfl)
 subst hg
 match ds, hd, hW, hwt, hbk with
 | [d0, d1, d2], _, hW, hwt, hbk =>
  refine z7d (s := Rows.journalTellsSpec) okP y3l y6T y4R y28 y7v y63 rfl hval hW hwt (y3r (y3s okP y6U (by kernel_rfl) hL) (y47 _ (show _ = _ by kernel_rfl))) rfl rfl rfl ?_
  rw [show Tryd.f5.params.toList.map (ty Tryd.prog) = [(.slice 32 x9), (.int .u64), .str] by kernel_rfl]
  exact z1h (fun _ => none)  (cOf d0) (cOf d1) (cOf d2) (Nat.le_trans (by have := q8D [d0, d1, d2]; simpa only [q31] using this) hbk)
noncomputable def w0 (os : Os) : World := World.doorLaid Tryd.prog 400 os
theorem reads (os : Os) {H : Type} (enc : TypeId × Value → H) : ∃ places, DataW.whole enc Tryd.prog ((w0 os).forCall (fun _ _ => 0) ⟨#[], q6v, []⟩).memory Tryd.f5.params.toList Rows.journalTellsSpec.vars false (q6v : Array Value).toList 12 = some (y6B H, [], places) :=
 ⟨[], by kernel_rfl⟩
theorem met (os : Os) : laidMetH Tryd.prog Rows.journalTellsUptoRow.laid ((w0 os).forCall (fun _ _ => 0) ⟨#[], q6v, []⟩).memory :=
 laidMetH_of_parts3 (fuel := 8) (laidMet_of_run' 8 (by kernel_rfl) (by kernel_rfl)) (by kernel_rfl) (by kernel_rfl)
def y22 (P : Program) (w : World) (t : TypeId) (cs : Array Value) : Bool :=
 match P.cellTypes P.depth t with
 | some ts => ts.length == cs.toList.length && (ts.zip cs.toList).all fun p => Cell.okWideB P w p.1 p.2
 | none => false
theorem z8Y {P : Program} {w : World} {t : TypeId} {cs : Array Value} (h : y22 P w t cs = true) : Cell.okWideRowB P w t cs = true := by
 unfold y22 at h
 unfold Cell.okWideRowB
 split at h
 ·rename_i ts hts
  simp only [Bool.and_eq_true, beq_iff_eq, List.all_eq_true] at h
  obtain ⟨hl, hz⟩ := h
  have hl' : ts.length = cs.size := by simpa using hl
  simp only [hts, Bool.and_eq_true, beq_iff_eq, List.all_eq_true, List.mem_range]
  refine ⟨by rw [hl']; exact Nat.mod_self _, fun i hi => ?_⟩
  have hi2 : i < ts.length := by omega
  rw [Nat.mod_eq_of_lt hi2, Array.getElem?_eq_getElem hi, List.getElem?_eq_getElem hi2]
  refine hz (ts[i], cs[i]) ?_
  rw [List.mem_iff_getElem]
  refine ⟨i, by simp; omega, ?_⟩
  simp
 ·cases h
def y37 (P : Program) (w : World) (t : TypeId) (v : Value) : Bool :=
 match P.underlying t with
 | some (.struct _) | some (.array _ _) =>
  match v with
  | .agg cs => cs.size == P.cellsOf t && y22 P w t cs
  | _ => false
 | _ => Cell.okWideB P w t v
theorem y5F {P : Program} {w : World} {t : TypeId} {v : Value} (h : y37 P w t v = true) : Value.okWideB P w t v = true := by
 unfold y37 at h
 unfold Value.okWideB
 split at h
 ·rename_i fs hu
  simp only [hu]
  cases v <;> simp at h
  simp only [Bool.and_eq_true, beq_iff_eq]
  exact ⟨h.1, z8Y h.2⟩
 ·rename_i n e hu
  simp only [hu]
  cases v <;> simp at h
  simp only [Bool.and_eq_true, beq_iff_eq]
  exact ⟨h.1, z8Y h.2⟩
 ·rename_i h1 h2
  split
  ·rename_i fs hu; exact absurd hu (h1 fs)
  ·rename_i n e hu; exact absurd hu (h2 n e)
  ·exact h
def q8E (P : Program) (w : World) : List TypeId → List Value → Bool
 | [], [] => true
 | t :: ts, v :: vs => y37 P w t v && q8E P w ts vs
 | _, _ => false
theorem z8d {P : Program} {w : World} : ∀ {ts : List TypeId} {vs : List Value}, q8E P w ts vs = true → ∀ {j : Nat}, j < ts.length → ∃ t v, ts[j]? = some t ∧ vs[j]? = some v ∧ Value.okWideB P w t v = true
 | [], [], _, _, hj => by simp at hj
 | [], _ :: _, h, _, _ => by simp [q8E] at h
 | _ :: _, [], h, _, _ => by simp [q8E] at h
 | t :: ts, v :: vs, h, 0, _ => by
  simp only [q8E, Bool.and_eq_true] at h
  exact ⟨t, v, rfl, rfl, y5F h.1⟩
 | t :: ts, v :: vs, h, j + 1, hj => by
  simp only [q8E, Bool.and_eq_true] at h
  have := z8d h.2 (j := j) (by simpa using hj)
  simpa using this
theorem z8w {P : Program} {w : World} {f : FuncId} {fn : Func} {args : Array Value} (hfn : P.funcs[f]? = some fn) (hi : (P.inits.idxOf? f).isNone = true)
  (h1 : (fn.body.isSome && !fn.ours && fn.nfree == 0 && args.size == fn.params.size) = true) (h : q8E P w fn.params.toList args.toList = true) : Input.okWideB P w f ⟨#[], args, []⟩ = true := by
 unfold Input.okWideB
 simp only [hfn, hi, Bool.and_eq_true] at h1 ⊢
 refine ⟨⟨⟨by simp, by simp⟩, trivial⟩, h1, ?_⟩
 rw [List.all_eq_true]
 intro j hj
 obtain ⟨t, v, ht, hv, hk⟩ := z8d h (j := j) (by simpa using hj)
 rw [Array.getElem?_toList] at ht hv
 rw [ht, hv]
 exact hk
theorem y3p (os : Os) : ((w0 os).forCall (fun _ _ => 0) ⟨#[], q6v, []⟩).variablesB Tryd.checked.prog = true := by kernel_rfl
theorem z8K (os : Os) : ((((w0 os).forCall (fun _ _ => 0) ⟨#[], q6v, []⟩).heap.toList.drop Tryd.checked.prog.globals.size).take ((begin Tryd.checked.prog (fun _ _ => 0) default).world.heap.size - Tryd.checked.prog.globals.size)) =
   (begin Tryd.checked.prog (fun _ _ => 0) default).world.heap.toList.drop Tryd.checked.prog.globals.size := by kernel_rfl
theorem y3q (os : Os) : Input.okWideB Tryd.checked.prog ((w0 os).forCall (fun _ _ => 0) ⟨#[], q6v, []⟩) 5 ⟨#[], q6v, []⟩ = true :=
 z8w Tryd.func5 (by kernel_rfl) (by kernel_rfl) (by kernel_rfl)
theorem lifted (os : Os) (started : os.Started) (H : Type) (enc : TypeId × Value → H) (F : Stop.Interp) :
  ReturnsInHanded {} Tryd.checked os 5 .any ((Rows.OpenSpec.upto Rows.journalTellsSpec).preRow enc Tryd.prog Tryd.f5 Rows.journalTellsUptoRow.domain false Rows.journalTellsUptoRow.laid) (((Rows.OpenSpec.upto Rows.journalTellsSpec).at F).post enc Tryd.prog Tryd.f5 false true false false) := by
 obtain ⟨places, hx⟩ := reads os enc
 refine returnsInHanded_of_row (C := Tryd.checked) (s := Rows.OpenSpec.upto Rows.journalTellsSpec) own started (by as_aux_lemma => kernel_rfl) Tryd.func5
  (witness_row_at (enc := enc) (C := Tryd.checked) false (w0 os) q6v rfl (y3p os) (z8K os) (y3q os)
   (OpenSpec.preRow_of_cond 12 hx (by as_aux_lemma => kernel_rfl) (fun k hk => by cases hk; kernel_rfl) (by as_aux_lemma => kernel_rfl) (met os))) ?_
 intro W base args ds gs before hval hW _ hcd hwt hL _ _
 have hg : gs = [] := by
  obtain ⟨p, q, _, hV, _⟩ := hW
  exact (trodVars_none hV).1
 subst hg
 refine y3X H enc W base args ds [] before hval hW ?_ (by have := of_decide_eq_true (hcd _ rfl); simpa using this) hL
 have e : Tryd.f5.params.toList ++ (Rows.OpenSpec.upto Rows.journalTellsSpec).bare.plain.varTypes Tryd.checked.prog = Tryd.f5.params.toList := by as_aux_lemma => kernel_rfl
 rw [e, List.append_nil] at hwt
 exact hwt
theorem said : Rows.JournalTellsUptoSaid :=
 OpenClaim.holds_of_cond 5 Tryd.f5 rfl rfl rfl rfl rfl rfl rfl ⟨rfl, rfl, rfl, rfl, rfl⟩ rfl rfl rfl rfl rfl (by kernel_rfl) Tryd.func5 (by kernel_rfl)
  (of_decide_eq_true (by kernel_rfl)) (by unfold Func.isWrapper; first | (rw [if_pos (by decide +kernel)]; kernel_rfl) | (rw [if_neg (by decide +kernel)]; exact ⟨rfl, rfl⟩))
  (fun os started H enc _ F => by rw [OpenClaim.pre_eq_preRow]; exact lifted os started H enc F)
theorem plain (f : FuncId) (fn : Func) (hf : Tryd.pinned.checked.prog.funcNamed Rows.journalTellsUptoRow.func = some f) (hfn : Tryd.pinned.checked.prog.funcs[f]? = some fn) :
  true = Tryd.pinned.checked.prog.looks [] ∧ ∀ (j : Nat) t, fn.params[j]? = some t → Tryd.pinned.checked.prog.wantsStandIn t = false := by
 obtain rfl : f = 5 := Option.some.inj ((show Tryd.prog.funcNamed Rows.journalTellsUptoRow.func = some 5 by kernel_rfl).symm.trans hf) |>.symm
 obtain rfl : fn = Tryd.f5 := (Option.some.inj (Tryd.func5.symm.trans hfn)).symm
 refine ⟨by kernel_rfl, fun j t ht => ?_⟩
 have hm : t ∈ Tryd.f5.params.toList := by simpa using Array.mem_of_getElem? ht
 have hall : (Tryd.f5.params.toList.all fun u => !Tryd.prog.wantsStandIn u) = true := by kernel_rfl
 exact (show Tryd.prog.wantsStandIn t = false by simpa using List.all_eq_true.1 hall t hm)
theorem card : Rows.JournalTellsUptoCardSaid :=
 Claim7.holds_tied_plain_at .later [] _ _ _ _ said (fun _ h => by cases h) (by kernel_rfl) (fun _ h => by cases h) journalTellsUpto_row_tie rfl ⟨rfl, rfl⟩ (by kernel_rfl) rfl plain (by kernel_rfl)
end Go.Proofs.YtefppgmopnnphaaDoor.fnJournalTells
