/-
 JournalBack: for every input that the law's row speaks of, the call returns true and the arguments stay as they were.
 Conditions: none beside those that the given statement itself says.
-/
import Derived.Test.YtefppgmopnnphaaDoorCards
import Derived.Test.YtefppgmopnnphaaDoorTie
import Derived.Lay
import Derived.LaidSub
import Derived.Test.YtefppgmopnnphaaDoorKc
set_option linter.all false
namespace Go.Proofs.YtefppgmopnnphaaDoor.fnJournalBack
open Go Go.E Go.ChangeShapes Go.WideShapes Go.RowKit
set_option maxRecDepth 100000
set_option maxHeartbeats 2000000
theorem own : ownKnob Tryd.prog.godebug = none := by kernel_rfl
theorem okP : x6 Tryd.prog = true := by kernel_rfl
theorem y6L : laidOutB Tryd.prog = true := by kernel_rfl
theorem x0q : mapsRowed Tryd.prog = true := by kernel_rfl
theorem y8b : z3w Tryd.prog = true := by kernel_rfl
theorem y6w : Tryd.f7.params.toList.all (fun t => decide (t < Tryd.prog.types.size) && (ty Tryd.prog t).dat) = true := by kernel_rfl
def W7 (x : String × DataW Unit) : Bool := !["strconv.ErrRange", "strconv.ErrSyntax"].contains x.1
theorem x0r : z2u Tryd.prog Rows.journalBackRow.laid = true := by kernel_rfl
theorem x02 : Tryd.f7.resultTypes = #[4] := by kernel_rfl
theorem x0z : Tryd.prog.underlying 4 = some .bool := by kernel_rfl
def q72 : Array Value := #[Value.slice none 0 0, .string ⟨#[]⟩, .int .u64 0]
def y95 (H : Type) : List (DataW H) := [.nil, .lit (.string []), .lit (.int .u64 0)]
theorem y7j (H : Type) (enc : TypeId × Value → H) (W : World) (base : Nat) (args : Array Value) (ds gs : List (DataW H)) (before : List MemPlace)
  (hval : ∀ (j : Nat) t v, Tryd.f7.params[j]? = some t → args[j]? = some v → Value.okWide Tryd.prog W .any base t v)
  (hW : DataW.Whole enc Tryd.prog Tryd.f7.params.toList Rows.journalBackSpec.vars false W args.toList ds gs before)
  (hwt : (DataW.weightsEach Tryd.prog Tryd.f7.params.toList ds).all (· ≤ reachBytes) = true) (hL : laidMetH Tryd.prog Rows.journalBackRow.laid W) :
  Calls Tryd.prog 7 args W fun e W' => ∃ v, e = .returned v ∧ Rows.journalBackSpec.post enc Tryd.prog Tryd.f7 false true false false W args v W' := by
 have hg : gs = [] := by
  obtain ⟨p, q, _, hV, _⟩ := hW
  exact (trodVars_none hV).1
 have hd : ds.length = 3 := by
  obtain ⟨p, q, hA, _⟩ := hW
  exact (q8t hA).2.trans (by kernel_rfl)
 subst hg
 match ds, hd, hW, hwt with
 | [d0, d1, d2], _, hW, hwt =>
  refine y0i (s := Rows.journalBackSpec) okP y6L x0q y8b y6w x02 x0z rfl hval hW hwt (y6O (y5j okP x0r (by kernel_rfl) hL) (y8x _ (show _ = _ by kernel_rfl))) rfl rfl rfl ?_
  rw [show Tryd.f7.params.toList.map (ty Tryd.prog) = [(.slice 32 y5), .str, (.int .u64)] by kernel_rfl]
  exact z4z (fun _ => none)  (cOf d0) (cOf d1) (cOf d2)
noncomputable def w0 (os : Os) : World := World.laidAll Tryd.prog os Rows.journalBackRow.laid
theorem reads (os : Os) {H : Type} (enc : TypeId × Value → H) : ∃ places, DataW.whole enc Tryd.prog ((w0 os).forCall (fun _ _ => 0) ⟨#[], q72, []⟩).memory Tryd.f7.params.toList Rows.journalBackSpec.vars false (q72 : Array Value).toList 12 = some (y95 H, [], places) :=
 ⟨[], by kernel_rfl⟩
theorem met (os : Os) : laidMetH Tryd.prog Rows.journalBackRow.laid ((w0 os).forCall (fun _ _ => 0) ⟨#[], q72, []⟩).memory :=
 by rw [MakeChecks.laidMetH_plain _ _ _ (by kernel_rfl)]; exact laidMet_laidAll _ (by kernel_rfl) (by kernel_rfl)
def y6o (P : Program) (w : World) (t : TypeId) (cs : Array Value) : Bool :=
 match P.cellTypes P.depth t with
 | some ts => ts.length == cs.toList.length && (ts.zip cs.toList).all fun p => Cell.okWideB P w p.1 p.2
 | none => false
theorem y14 {P : Program} {w : World} {t : TypeId} {cs : Array Value} (h : y6o P w t cs = true) : Cell.okWideRowB P w t cs = true := by
 unfold y6o at h
 unfold Cell.okWideRowB
 split at h
 ·rename_i ts hts
  simp only [Bool.and_eq_true, beq_iff_eq, List.all_eq_true] at h
  obtain ⟨hl, hz⟩ := h
  have hl' : ts.length = cs.size := by simpa using hl
  simp only [hts, Bool.and_eq_true, beq_iff_eq, List.all_eq_true, List.mem_range]
  refine ⟨by rw [hl']; exact Nat.mod_self _, fun i hi => ?_⟩
  have hi2 : i < ts.length := by omega
  rw [Nat.mod_eq_of_lt hi2, Array.getElem?_eq_getElem hi, List.getElem?_eq_getElem hi2]
  refine hz (ts[i], cs[i]) ?_
  rw [List.mem_iff_getElem]
  refine ⟨i, by simp; omega, ?_⟩
  simp
 ·cases h
def y7r (P : Program) (w : World) (t : TypeId) (v : Value) : Bool :=
 match P.underlying t with
 | some (.struct _) | some (.array _ _) =>
  match v with
  | .agg cs => cs.size == P.cellsOf t && y6o P w t cs
  | _ => false
 | _ => Cell.okWideB P w t v
theorem y83 {P : Program} {w : World} {t : TypeId} {v : Value} (h : y7r P w t v = true) : Value.okWideB P w t v = true := by
 unfold y7r at h
 unfold Value.okWideB
 split at h
 ·rename_i fs hu
  simp only [hu]
  cases v <;> simp at h
  simp only [Bool.and_eq_true, beq_iff_eq]
  exact ⟨h.1, y14 h.2⟩
 ·rename_i n e hu
  simp only [hu]
  cases v <;> simp at h
  simp only [Bool.and_eq_true, beq_iff_eq]
  exact ⟨h.1, y14 h.2⟩
 ·rename_i h1 h2
  split
  ·rename_i fs hu; exact absurd hu (h1 fs)
  ·rename_i n e hu; exact absurd hu (h2 n e)
  ·exact h
def z0s (P : Program) (w : World) : List TypeId → List Value → Bool
 | [], [] => true
 | t :: ts, v :: vs => y7r P w t v && z0s P w ts vs
 | _, _ => false
theorem y1b {P : Program} {w : World} : ∀ {ts : List TypeId} {vs : List Value}, z0s P w ts vs = true → ∀ {j : Nat}, j < ts.length → ∃ t v, ts[j]? = some t ∧ vs[j]? = some v ∧ Value.okWideB P w t v = true
 | [], [], _, _, hj => by simp at hj
 | [], _ :: _, h, _, _ => by simp [z0s] at h
 | _ :: _, [], h, _, _ => by simp [z0s] at h
 | t :: ts, v :: vs, h, 0, _ => by
  simp only [z0s, Bool.and_eq_true] at h
  exact ⟨t, v, rfl, rfl, y83 h.1⟩
 | t :: ts, v :: vs, h, j + 1, hj => by
  simp only [z0s, Bool.and_eq_true] at h
  have := y1b h.2 (j := j) (by simpa using hj)
  simpa using this
theorem y1v {P : Program} {w : World} {f : FuncId} {fn : Func} {args : Array Value} (hfn : P.funcs[f]? = some fn) (hi : (P.inits.idxOf? f).isNone = true)
  (h1 : (fn.body.isSome && !fn.ours && fn.nfree == 0 && args.size == fn.params.size) = true) (h : z0s P w fn.params.toList args.toList = true) : Input.okWideB P w f ⟨#[], args, []⟩ = true := by
 unfold Input.okWideB
 simp only [hfn, hi, Bool.and_eq_true] at h1 ⊢
 refine ⟨⟨⟨by simp, by simp⟩, trivial⟩, h1, ?_⟩
 rw [List.all_eq_true]
 intro j hj
 obtain ⟨t, v, ht, hv, hk⟩ := y1b h (j := j) (by simpa using hj)
 rw [Array.getElem?_toList] at ht hv
 rw [ht, hv]
 exact hk
theorem y6N (os : Os) : ((w0 os).forCall (fun _ _ => 0) ⟨#[], q72, []⟩).variablesZipB Tryd.checked.prog = true := by kernel_rfl
theorem y1L (os : Os) : ((((w0 os).forCall (fun _ _ => 0) ⟨#[], q72, []⟩).heap.toList.drop Tryd.checked.prog.globals.size).take ((begin Tryd.checked.prog (fun _ _ => 0) default).world.heap.size - Tryd.checked.prog.globals.size)) =
   (begin Tryd.checked.prog (fun _ _ => 0) default).world.heap.toList.drop Tryd.checked.prog.globals.size := by kernel_rfl
theorem y0o (os : Os) : Input.okWideB Tryd.checked.prog ((w0 os).forCall (fun _ _ => 0) ⟨#[], q72, []⟩) 7 ⟨#[], q72, []⟩ = true :=
 y1v Tryd.func7 (by kernel_rfl) (by kernel_rfl) (by kernel_rfl)
theorem lifted (os : Os) (started : os.Started) (H : Type) (enc : TypeId × Value → H) (F : Stop.Interp) :
  ReturnsInHanded {} Tryd.checked os 7 .any ((OpenSpec.ofChange Rows.journalBackSpec).preRow enc Tryd.prog Tryd.f7 Rows.journalBackRow.domain false Rows.journalBackRow.laid) (((OpenSpec.ofChange Rows.journalBackSpec).at F).post enc Tryd.prog Tryd.f7 false true false false) := by
 obtain ⟨places, hx⟩ := reads os enc
 refine returnsInHanded_of_row (C := Tryd.checked) (s := OpenSpec.ofChange Rows.journalBackSpec) own started (by as_aux_lemma => kernel_rfl) Tryd.func7
  ⟨w0 os, fun _ _ => 0, ⟨#[], q72, []⟩, World.laidAll_os _ _ _, World.shaped_of_ZipB (y6N os) (y1L os), (Input.okWide_of_okWideB (base := 0) (y0o os)).1, (Input.okWide_of_okWideB (y0o os)).2,
   OpenSpec.preRow_of_cond 12 hx (by as_aux_lemma => kernel_rfl) (fun k hk => by cases hk) (by as_aux_lemma => kernel_rfl) (met os), by simp [Assume.holds]⟩ ?_
 intro W base args ds gs before hval hW _ _ hwt hL _ _
 have hg : gs = [] := by
  obtain ⟨p, q, _, hV, _⟩ := hW
  exact (trodVars_none hV).1
 subst hg
 refine y7j H enc W base args ds [] before hval hW ?_ hL
 have e : Tryd.f7.params.toList ++ (OpenSpec.ofChange Rows.journalBackSpec).bare.plain.varTypes Tryd.checked.prog = Tryd.f7.params.toList := by as_aux_lemma => kernel_rfl
 rw [e, List.append_nil] at hwt
 exact hwt
theorem said : Rows.JournalBackSaid :=
 OpenClaim.holds_of_cond 7 Tryd.f7 rfl rfl rfl rfl rfl rfl rfl ⟨rfl, rfl, rfl, rfl, rfl⟩ rfl rfl rfl rfl rfl (by kernel_rfl) Tryd.func7 (by kernel_rfl)
  (of_decide_eq_true (by kernel_rfl)) (by unfold Func.isWrapper; first | (rw [if_pos (by decide +kernel)]; kernel_rfl) | (rw [if_neg (by decide +kernel)]; exact ⟨rfl, rfl⟩))
  (fun os started H enc _ F => by rw [OpenClaim.pre_eq_preRow]; exact lifted os started H enc F)
theorem plain (f : FuncId) (fn : Func) (hf : Tryd.pinned.checked.prog.funcNamed Rows.journalBackRow.func = some f) (hfn : Tryd.pinned.checked.prog.funcs[f]? = some fn) :
  true = Tryd.pinned.checked.prog.looks [] ∧ ∀ (j : Nat) t, fn.params[j]? = some t → Tryd.pinned.checked.prog.wantsStandIn t = false := by
 obtain rfl : f = 7 := Option.some.inj ((show Tryd.prog.funcNamed Rows.journalBackRow.func = some 7 by kernel_rfl).symm.trans hf) |>.symm
 obtain rfl : fn = Tryd.f7 := (Option.some.inj (Tryd.func7.symm.trans hfn)).symm
 refine ⟨by kernel_rfl, fun j t ht => ?_⟩
 have hm : t ∈ Tryd.f7.params.toList := by simpa using Array.mem_of_getElem? ht
 have hall : (Tryd.f7.params.toList.all fun u => !Tryd.prog.wantsStandIn u) = true := by kernel_rfl
 exact (show Tryd.prog.wantsStandIn t = false by simpa using List.all_eq_true.1 hall t hm)
theorem card : Rows.JournalBackCardSaid :=
 Claim7.holds_tied_plain_at .later [] _ _ _ _ said (fun _ h => by cases h) (by kernel_rfl) (fun _ h => by cases h) journalBack_row_tie rfl ⟨rfl, rfl⟩ (by kernel_rfl) rfl plain (by kernel_rfl)
end Go.Proofs.YtefppgmopnnphaaDoor.fnJournalBack
