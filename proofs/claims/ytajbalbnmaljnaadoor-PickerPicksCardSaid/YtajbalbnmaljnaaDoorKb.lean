/-
  What the functions on the way compute, part 2.
  Conditions: none.
-/
import Derived.Test.YtajbalbnmaljnaaDoorKa
set_option linter.all false
namespace Go.Proofs.YtajbalbnmaljnaaDoor
open Go Go.E
set_option maxRecDepth 10000
set_option maxHeartbeats 4000000
set_option linter.unusedSimpArgs false
variable {gl : Nat → Option (Ty × C)}
def subE (n : Nat) (least : C) (pool : List C) (t : C) : Int := if 64 ≤ pool.length then 4 else if (t.get 1).toInt < 0 ∨ (n : Int) - 1 ≤ (t.get 1).toInt then 1 else if (t.get 3).toInt < least.toInt then 23 else 0
def subP (n : Nat) (least : C) (pool : List C) (t : C) : List C := if subE n least pool t = 0 then pool ++ [t] else pool
theorem court_Submit {A : Key → Option O} {k kt k1 k2 kn : Key} {n : Nat} {cp1 cp2 : Option Nat} {has next : List C} {kept least height : C} {bonds pool events : List C} (T : CourtAt A k kt k1 k2 kn n cp1 cp2 has next kept least height bonds pool events) (hn : n ≤ 16) (t : C) :
    DCalls (X0 gl) 16 [.ptr (.g k) [] tCourt, .d tTx t] A (.d (.int .i64) (.int (subE n least pool t)))
      [(.g k, .box (.agg tCourt [.ptr (.g kt) [] tTill, .ptr (.g kn) [] tNotary2, .d (.int .u64) least, .d (.int .u64) height, .ts 240 tBond bonds, .ts 2368 tTx (subP n least pool t), .ts 40 tEvent events]))] := by
  refine dcalls_intro (n := 56) (ok0 gl) Tryd.func16 rfl rfl (by simp) ?_
  intro A' hA
  have T := T.up hA
  have h := T.c
  refine dc_facts fun W => ?_
  have hw : C.wf tTx t := W.at (t := 1) rfl
  obtain ⟨cs, hcs⟩ : ∃ cs, t.get 9 = .slice cs := ⟨_, (C.slice_eta (C.wf_kid (i := 9) hw rfl rfl rfl)).symm⟩
  refine dc_seq (dc_region (ok0 gl) [] (by kernel_rfl) ?_)
  simp only [go_sem, ↓gx_tt, ↓gx_tf, ↓gx_ft, ↓gx_ff, ↓gx_u2, ↓gk_tt, ↓gk_tf, ↓gk_ff, ↓gk_ft, reduceCtorEq, Nat.reduceEqDiff, ↓reduceIte, Nat.reduceAdd, Nat.reduceSub, Nat.reduceLT, Nat.reduceMul, Nat.reduceBEq, Int.reduceLE, Int.reduceLT, Int.reduceAdd, Int.reduceSub, Int.reduceToNat, Int.reduceNeg, Int.reduceMul, Nat.reduceLeDiff]
  refine dc_seq (dc_block (dc_seq (dc_region (ok0 gl) [] (by kernel_rfl) ?_)))
  simp only [go_sem, ↓gx_tt, ↓gx_tf, ↓gx_ft, ↓gx_ff, ↓gx_u2, ↓gk_tt, ↓gk_tf, ↓gk_ff, ↓gk_ft, reduceCtorEq, Nat.reduceEqDiff, ↓reduceIte, Nat.reduceAdd, Nat.reduceSub, Nat.reduceLT, Nat.reduceMul, Nat.reduceBEq, Int.reduceLE, Int.reduceLT, Int.reduceAdd, Int.reduceSub, Int.reduceToNat, Int.reduceNeg, Int.reduceMul, Nat.reduceLeDiff]
  refine dc_cond _ rfl (fun h => by simp at h) (fun _ => ?_)
  by_cases h1 : 64 ≤ pool.length
  · have e1 : (64 : Int) ≤ (pool.length : Int) := by omega
    refine dc_seq (dc_region (ok0 gl) [] (by kernel_rfl) ?_)
    simp only [go_sem, ↓gx_tt, ↓gx_tf, ↓gx_ft, ↓gx_ff, ↓gx_u2, ↓gk_tt, ↓gk_tf, ↓gk_ff, ↓gk_ft, reduceCtorEq, Nat.reduceEqDiff, ↓reduceIte, Nat.reduceAdd, Nat.reduceSub, Nat.reduceLT, Nat.reduceMul, Nat.reduceBEq, Int.reduceLE, Int.reduceLT, Int.reduceAdd, Int.reduceSub, Int.reduceToNat, Int.reduceNeg, Int.reduceMul, Nat.reduceLeDiff, h, e1]
    refine dc_cond _ rfl (fun _ => ?_) (fun h => by simp at h)
    refine dc_seq (dc_region (ok0 gl) [] (by kernel_rfl) ?_)
    simp only [go_sem, ↓gx_tt, ↓gx_tf, ↓gx_ft, ↓gx_ff, ↓gx_u2, ↓gk_tt, ↓gk_tf, ↓gk_ff, ↓gk_ft, reduceCtorEq, Nat.reduceEqDiff, ↓reduceIte, Nat.reduceAdd, Nat.reduceSub, Nat.reduceLT, Nat.reduceMul, Nat.reduceBEq, Int.reduceLE, Int.reduceLT, Int.reduceAdd, Int.reduceSub, Int.reduceToNat, Int.reduceNeg, Int.reduceMul, Nat.reduceLeDiff]
    refine dc_ret ⟨.inr rfl, ?_⟩
    simp only [retOk, go_sem, ↓gx_tt, ↓gx_tf, ↓gx_ft, ↓gx_ff, ↓gx_u2, ↓gk_tt, ↓gk_tf, ↓gk_ff, ↓gk_ft, reduceCtorEq, Nat.reduceEqDiff, ↓reduceIte, Nat.reduceAdd, Nat.reduceSub, Nat.reduceLT, Nat.reduceMul, Nat.reduceBEq, Int.reduceLE, Int.reduceLT, Int.reduceAdd, Int.reduceSub, Int.reduceToNat, Int.reduceNeg, Int.reduceMul, Nat.reduceLeDiff, Tryd.f16, subE, subP, h1, h] <;> try rfl
  · have e1 : ¬ (64 : Int) ≤ (pool.length : Int) := by omega
    refine dc_seq (dc_region (ok0 gl) [] (by kernel_rfl) ?_)
    simp only [go_sem, ↓gx_tt, ↓gx_tf, ↓gx_ft, ↓gx_ff, ↓gx_u2, ↓gk_tt, ↓gk_tf, ↓gk_ff, ↓gk_ft, reduceCtorEq, Nat.reduceEqDiff, ↓reduceIte, Nat.reduceAdd, Nat.reduceSub, Nat.reduceLT, Nat.reduceMul, Nat.reduceBEq, Int.reduceLE, Int.reduceLT, Int.reduceAdd, Int.reduceSub, Int.reduceToNat, Int.reduceNeg, Int.reduceMul, Nat.reduceLeDiff, h, e1]
    refine dc_cond _ rfl (fun h => by simp at h) (fun _ => ?_)
    by_cases h2 : (t.get 1).toInt < 0
    · have h2' : (t.get 1).toInt < 0 ∨ (n : Int) - 1 ≤ (t.get 1).toInt := .inl h2
      refine dc_seq (dc_drawn (ok0 gl) (mo gl) [] [0, 1, 0, 0, 0, 1, 0, 0, 0, 1, 1, 0, 0, 0, 0] (by kernel_rfl) (by kernel_rfl) ?_)
      simp only [go_sem, ↓gx_tt, ↓gx_tf, ↓gx_ft, ↓gx_ff, ↓gx_u2, ↓gk_tt, ↓gk_tf, ↓gk_ff, ↓gk_ft, reduceCtorEq, Nat.reduceEqDiff, ↓reduceIte, Nat.reduceAdd, Nat.reduceSub, Nat.reduceLT, Nat.reduceMul, Nat.reduceBEq, Int.reduceLE, Int.reduceLT, Int.reduceAdd, Int.reduceSub, Int.reduceToNat, Int.reduceNeg, Int.reduceMul, Nat.reduceLeDiff, h, h2]
      refine dc_cond _ rfl (fun _ => ?_) (fun h => by simp at h)
      refine dc_seq (dc_region (ok0 gl) [] (by kernel_rfl) ?_)
      simp only [go_sem, ↓gx_tt, ↓gx_tf, ↓gx_ft, ↓gx_ff, ↓gx_u2, ↓gk_tt, ↓gk_tf, ↓gk_ff, ↓gk_ft, reduceCtorEq, Nat.reduceEqDiff, ↓reduceIte, Nat.reduceAdd, Nat.reduceSub, Nat.reduceLT, Nat.reduceMul, Nat.reduceBEq, Int.reduceLE, Int.reduceLT, Int.reduceAdd, Int.reduceSub, Int.reduceToNat, Int.reduceNeg, Int.reduceMul, Nat.reduceLeDiff]
      refine dc_ret ⟨.inr rfl, ?_⟩
      simp only [retOk, go_sem, ↓gx_tt, ↓gx_tf, ↓gx_ft, ↓gx_ff, ↓gx_u2, ↓gk_tt, ↓gk_tf, ↓gk_ff, ↓gk_ft, reduceCtorEq, Nat.reduceEqDiff, ↓reduceIte, Nat.reduceAdd, Nat.reduceSub, Nat.reduceLT, Nat.reduceMul, Nat.reduceBEq, Int.reduceLE, Int.reduceLT, Int.reduceAdd, Int.reduceSub, Int.reduceToNat, Int.reduceNeg, Int.reduceMul, Nat.reduceLeDiff, Tryd.f16, subE, subP, h1, h2', h] <;> try rfl
    · have e2 : IntKind.i64.wrap ((n : Int) - 1) = (n : Int) - 1 := IntWalk.i64_in _ (by omega)
      by_cases h3 : (n : Int) - 1 ≤ (t.get 1).toInt
      · have h2' : (t.get 1).toInt < 0 ∨ (n : Int) - 1 ≤ (t.get 1).toInt := .inr h3
        refine dc_seq (dc_drawn (ok0 gl) (mo gl) [] [0, 1, 0, 0, 0, 1, 0, 0, 0, 1, 1, 0, 0, 0, 0] (by kernel_rfl) (by kernel_rfl) (vd_n [(), (), (), (), (), (), (), (), (), ()] ?_))
        simp only [go_sem, ↓gx_tt, ↓gx_tf, ↓gx_ft, ↓gx_ff, ↓gx_u2, ↓gk_tt, ↓gk_tf, ↓gk_ff, ↓gk_ft, reduceCtorEq, Nat.reduceEqDiff, ↓reduceIte, Nat.reduceAdd, Nat.reduceSub, Nat.reduceLT, Nat.reduceMul, Nat.reduceBEq, Int.reduceLE, Int.reduceLT, Int.reduceAdd, Int.reduceSub, Int.reduceToNat, Int.reduceNeg, Int.reduceMul, Nat.reduceLeDiff, h, h2]
        refine vdR_guard [(), (), (), (), ()] false rfl rfl rfl (fun _ => ?_) (fun h => absurd rfl h)
        refine vdO_calli _ (till_Many (T.t.upS (fun _ => rfl) rfl)) rfl rfl (by simp only [go_sem]) rfl ?_ rfl ?_ ?_ ?_ <;> simp only [go_sem, ↓gx_tt, ↓gx_tf, ↓gx_ft, ↓gx_ff, ↓gx_u2, ↓gk_tt, ↓gk_tf, ↓gk_ff, ↓gk_ft, reduceCtorEq, Nat.reduceEqDiff, ↓reduceIte, Nat.reduceAdd, Nat.reduceSub, Nat.reduceLT, Nat.reduceMul, Nat.reduceBEq, Int.reduceLE, Int.reduceLT, Int.reduceAdd, Int.reduceSub, Int.reduceToNat, Int.reduceNeg, Int.reduceMul, Nat.reduceLeDiff, h, h2, e2, h3]
        refine dc_cond _ rfl (fun _ => ?_) (fun h => by simp at h)
        refine dc_seq (dc_region (ok0 gl) [] (by kernel_rfl) ?_)
        simp only [go_sem, ↓gx_tt, ↓gx_tf, ↓gx_ft, ↓gx_ff, ↓gx_u2, ↓gk_tt, ↓gk_tf, ↓gk_ff, ↓gk_ft, reduceCtorEq, Nat.reduceEqDiff, ↓reduceIte, Nat.reduceAdd, Nat.reduceSub, Nat.reduceLT, Nat.reduceMul, Nat.reduceBEq, Int.reduceLE, Int.reduceLT, Int.reduceAdd, Int.reduceSub, Int.reduceToNat, Int.reduceNeg, Int.reduceMul, Nat.reduceLeDiff]
        refine dc_ret ⟨.inr rfl, ?_⟩
        simp only [retOk, go_sem, ↓gx_tt, ↓gx_tf, ↓gx_ft, ↓gx_ff, ↓gx_u2, ↓gk_tt, ↓gk_tf, ↓gk_ff, ↓gk_ft, reduceCtorEq, Nat.reduceEqDiff, ↓reduceIte, Nat.reduceAdd, Nat.reduceSub, Nat.reduceLT, Nat.reduceMul, Nat.reduceBEq, Int.reduceLE, Int.reduceLT, Int.reduceAdd, Int.reduceSub, Int.reduceToNat, Int.reduceNeg, Int.reduceMul, Nat.reduceLeDiff, Tryd.f16, subE, subP, h1, h2', h] <;> try rfl
      · have h2' : ¬ ((t.get 1).toInt < 0 ∨ (n : Int) - 1 ≤ (t.get 1).toInt) := by omega
        refine dc_seq (dc_drawn (ok0 gl) (mo gl) [] [0, 1, 0, 0, 0, 1, 0, 0, 0, 1, 1, 0, 0, 0, 0] (by kernel_rfl) (by kernel_rfl) (vd_n [(), (), (), (), (), (), (), (), (), ()] ?_))
        simp only [go_sem, ↓gx_tt, ↓gx_tf, ↓gx_ft, ↓gx_ff, ↓gx_u2, ↓gk_tt, ↓gk_tf, ↓gk_ff, ↓gk_ft, reduceCtorEq, Nat.reduceEqDiff, ↓reduceIte, Nat.reduceAdd, Nat.reduceSub, Nat.reduceLT, Nat.reduceMul, Nat.reduceBEq, Int.reduceLE, Int.reduceLT, Int.reduceAdd, Int.reduceSub, Int.reduceToNat, Int.reduceNeg, Int.reduceMul, Nat.reduceLeDiff, h, h2]
        refine vdR_guard [(), (), (), (), ()] false rfl rfl rfl (fun _ => ?_) (fun h => absurd rfl h)
        refine vdO_calli _ (till_Many (T.t.upS (fun _ => rfl) rfl)) rfl rfl (by simp only [go_sem]) rfl ?_ rfl ?_ ?_ ?_ <;> simp only [go_sem, ↓gx_tt, ↓gx_tf, ↓gx_ft, ↓gx_ff, ↓gx_u2, ↓gk_tt, ↓gk_tf, ↓gk_ff, ↓gk_ft, reduceCtorEq, Nat.reduceEqDiff, ↓reduceIte, Nat.reduceAdd, Nat.reduceSub, Nat.reduceLT, Nat.reduceMul, Nat.reduceBEq, Int.reduceLE, Int.reduceLT, Int.reduceAdd, Int.reduceSub, Int.reduceToNat, Int.reduceNeg, Int.reduceMul, Nat.reduceLeDiff, h, h2, e2, h3]
        refine dc_cond _ rfl (fun h => by simp at h) (fun _ => ?_)
        by_cases h4 : (t.get 3).toInt < least.toInt
        · refine dc_seq (dc_drawn (ok0 gl) (mo gl) [] [0, 1, 0, 0, 0, 1, 0, 0] (by kernel_rfl) (by kernel_rfl) ?_)
          simp only [go_sem, ↓gx_tt, ↓gx_tf, ↓gx_ft, ↓gx_ff, ↓gx_u2, ↓gk_tt, ↓gk_tf, ↓gk_ff, ↓gk_ft, reduceCtorEq, Nat.reduceEqDiff, ↓reduceIte, Nat.reduceAdd, Nat.reduceSub, Nat.reduceLT, Nat.reduceMul, Nat.reduceBEq, Int.reduceLE, Int.reduceLT, Int.reduceAdd, Int.reduceSub, Int.reduceToNat, Int.reduceNeg, Int.reduceMul, Nat.reduceLeDiff, h, h4]
          refine dc_cond _ rfl (fun _ => ?_) (fun h => by simp at h)
          refine dc_seq (dc_region (ok0 gl) [] (by kernel_rfl) ?_)
          simp only [go_sem, ↓gx_tt, ↓gx_tf, ↓gx_ft, ↓gx_ff, ↓gx_u2, ↓gk_tt, ↓gk_tf, ↓gk_ff, ↓gk_ft, reduceCtorEq, Nat.reduceEqDiff, ↓reduceIte, Nat.reduceAdd, Nat.reduceSub, Nat.reduceLT, Nat.reduceMul, Nat.reduceBEq, Int.reduceLE, Int.reduceLT, Int.reduceAdd, Int.reduceSub, Int.reduceToNat, Int.reduceNeg, Int.reduceMul, Nat.reduceLeDiff]
          refine dc_ret ⟨.inr rfl, ?_⟩
          simp only [retOk, go_sem, ↓gx_tt, ↓gx_tf, ↓gx_ft, ↓gx_ff, ↓gx_u2, ↓gk_tt, ↓gk_tf, ↓gk_ff, ↓gk_ft, reduceCtorEq, Nat.reduceEqDiff, ↓reduceIte, Nat.reduceAdd, Nat.reduceSub, Nat.reduceLT, Nat.reduceMul, Nat.reduceBEq, Int.reduceLE, Int.reduceLT, Int.reduceAdd, Int.reduceSub, Int.reduceToNat, Int.reduceNeg, Int.reduceMul, Nat.reduceLeDiff, Tryd.f16, subE, subP, h1, h2', h4, h] <;> try rfl
        · refine dc_seq (dc_drawn (ok0 gl) (mo gl) [] [0, 1, 0, 0, 0, 1, 0, 0] (by kernel_rfl) (by kernel_rfl) ?_)
          simp only [go_sem, ↓gx_tt, ↓gx_tf, ↓gx_ft, ↓gx_ff, ↓gx_u2, ↓gk_tt, ↓gk_tf, ↓gk_ff, ↓gk_ft, reduceCtorEq, Nat.reduceEqDiff, ↓reduceIte, Nat.reduceAdd, Nat.reduceSub, Nat.reduceLT, Nat.reduceMul, Nat.reduceBEq, Int.reduceLE, Int.reduceLT, Int.reduceAdd, Int.reduceSub, Int.reduceToNat, Int.reduceNeg, Int.reduceMul, Nat.reduceLeDiff, h, h4]
          refine dc_cond _ rfl (fun h => by simp at h) (fun _ => dc_skip ?_)
          refine dc_seq (dc_drawn (ok0 gl) (mo gl) [] [0, 1, 1, 0, 1, 1, 0, 2, 0, 2] (by kernel_rfl) (by kernel_rfl) (vd_n [(), ()] ?_))
          simp only [go_sem, ↓gx_tt, ↓gx_tf, ↓gx_ft, ↓gx_ff, ↓gx_u2, ↓gk_tt, ↓gk_tf, ↓gk_ff, ↓gk_ft, reduceCtorEq, Nat.reduceEqDiff, ↓reduceIte, Nat.reduceAdd, Nat.reduceSub, Nat.reduceLT, Nat.reduceMul, Nat.reduceBEq, Int.reduceLE, Int.reduceLT, Int.reduceAdd, Int.reduceSub, Int.reduceToNat, Int.reduceNeg, Int.reduceMul, Nat.reduceLeDiff, hcs]
          refine vdR_op [(), ()] rfl ?_
          refine vdO_calli _ (clone_Byte _ cs) rfl rfl (by simp only [go_sem]) rfl ?_ rfl ?_ ?_ ?_ <;> simp only [go_sem, ↓gx_tt, ↓gx_tf, ↓gx_ft, ↓gx_ff, ↓gx_u2, ↓gk_tt, ↓gk_tf, ↓gk_ff, ↓gk_ft, reduceCtorEq, Nat.reduceEqDiff, ↓reduceIte, Nat.reduceAdd, Nat.reduceSub, Nat.reduceLT, Nat.reduceMul, Nat.reduceBEq, Int.reduceLE, Int.reduceLT, Int.reduceAdd, Int.reduceSub, Int.reduceToNat, Int.reduceNeg, Int.reduceMul, Nat.reduceLeDiff, hcs]
          refine vdR_op [(), (), (), (), (), (), (), (), ()] rfl ?_
          refine vdO_calli _ (deed_Twin _ (t.get 10)) rfl rfl (by simp only [go_sem]) rfl ?_ rfl ?_ ?_ ?_ <;> simp only [go_sem, ↓gx_tt, ↓gx_tf, ↓gx_ft, ↓gx_ff, ↓gx_u2, ↓gk_tt, ↓gk_tf, ↓gk_ff, ↓gk_ft, reduceCtorEq, Nat.reduceEqDiff, ↓reduceIte, Nat.reduceAdd, Nat.reduceSub, Nat.reduceLT, Nat.reduceMul, Nat.reduceBEq, Int.reduceLE, Int.reduceLT, Int.reduceAdd, Int.reduceSub, Int.reduceToNat, Int.reduceNeg, Int.reduceMul, Nat.reduceLeDiff, hcs]
          have et : C.agg [t.get 0, t.get 1, t.get 2, t.get 3, t.get 4, t.get 5, t.get 6, t.get 7, t.get 8, .slice cs, t.get 10] = t := by rw [← hcs]; exact C.wf_eta hw
          refine DC.weak (weak_keep [0, 3] ?_ ?_ ?_ ?_ ?_) ?_ <;> simp only [go_sem, ↓gx_tt, ↓gx_tf, ↓gx_ft, ↓gx_ff, ↓gx_u2, ↓gk_tt, ↓gk_tf, ↓gk_ff, ↓gk_ft, reduceCtorEq, Nat.reduceEqDiff, ↓reduceIte, Nat.reduceAdd, Nat.reduceSub, Nat.reduceLT, Nat.reduceMul, Nat.reduceBEq, Int.reduceLE, Int.reduceLT, Int.reduceAdd, Int.reduceSub, Int.reduceToNat, Int.reduceNeg, Int.reduceMul, Nat.reduceLeDiff]
          refine DC.weak (weak_fix 3 3 rfl rfl rfl rfl ?_ ?_ ?_ ?_ ?_ ?_) ?_ <;> simp only [go_sem, ↓gx_tt, ↓gx_tf, ↓gx_ft, ↓gx_ff, ↓gx_u2, ↓gk_tt, ↓gk_tf, ↓gk_ff, ↓gk_ft, reduceCtorEq, Nat.reduceEqDiff, ↓reduceIte, Nat.reduceAdd, Nat.reduceSub, Nat.reduceLT, Nat.reduceMul, Nat.reduceBEq, Int.reduceLE, Int.reduceLT, Int.reduceAdd, Int.reduceSub, Int.reduceToNat, Int.reduceNeg, Int.reduceMul, Nat.reduceLeDiff, et]
          have el : (pool ++ [t]).length = pool.length + 1 := by simp
          refine dc_seq (dc_drawn (ok0 gl) (mo gl) [(50, 1)] [0, 0, 0, 0, 2, 0, 0, 2, 0, 0, 2] (by kernel_rfl) (by kernel_rfl) ?_)
          simp only [go_sem, ↓gx_tt, ↓gx_tf, ↓gx_ft, ↓gx_ff, ↓gx_u2, ↓gk_tt, ↓gk_tf, ↓gk_ff, ↓gk_ft, reduceCtorEq, Nat.reduceEqDiff, ↓reduceIte, Nat.reduceAdd, Nat.reduceSub, Nat.reduceLT, Nat.reduceMul, Nat.reduceBEq, Int.reduceLE, Int.reduceLT, Int.reduceAdd, Int.reduceSub, Int.reduceToNat, Int.reduceNeg, Int.reduceMul, Nat.reduceLeDiff, h, et, el]
          refine ⟨rfl, fun y hy => by simp at hy; subst hy; exact ⟨rfl, rfl⟩, by omega, by unfold maxLen; omega, ?_⟩
          refine dc_seq (dc_region (ok0 gl) [] (by kernel_rfl) ?_)
          simp only [go_sem, ↓gx_tt, ↓gx_tf, ↓gx_ft, ↓gx_ff, ↓gx_u2, ↓gk_tt, ↓gk_tf, ↓gk_ff, ↓gk_ft, reduceCtorEq, Nat.reduceEqDiff, ↓reduceIte, Nat.reduceAdd, Nat.reduceSub, Nat.reduceLT, Nat.reduceMul, Nat.reduceBEq, Int.reduceLE, Int.reduceLT, Int.reduceAdd, Int.reduceSub, Int.reduceToNat, Int.reduceNeg, Int.reduceMul, Nat.reduceLeDiff]
          refine dc_ret ⟨.inr rfl, ?_⟩
          simp only [retOk, go_sem, ↓gx_tt, ↓gx_tf, ↓gx_ft, ↓gx_ff, ↓gx_u2, ↓gk_tt, ↓gk_tf, ↓gk_ff, ↓gk_ft, reduceCtorEq, Nat.reduceEqDiff, ↓reduceIte, Nat.reduceAdd, Nat.reduceSub, Nat.reduceLT, Nat.reduceMul, Nat.reduceBEq, Int.reduceLE, Int.reduceLT, Int.reduceAdd, Int.reduceSub, Int.reduceToNat, Int.reduceNeg, Int.reduceMul, Nat.reduceLeDiff, Tryd.f16, subE, subP, h1, h2', h4, h] <;> try rfl
end Go.Proofs.YtajbalbnmaljnaaDoor

namespace Go.Proofs.YtajbalbnmaljnaaDoor
open Go Go.E
set_option maxRecDepth 10000
set_option maxHeartbeats 4000000
set_option linter.unusedSimpArgs false
variable {gl : Nat → Option (Ty × C)}
structure Court15At (A : Key → Option O) (k kt k1 k2 kn : Key) (n : Nat) (cp1 cp2 : Option Nat) (has next : List C) (kept least height : C) (bonds pool events : List C) : Prop where
  c : A k = some (.box (.agg tCourt [.ptr (.g kt) [] tTill, .ptr (.g kn) [] tNotary, .d (.int .u64) least, .d (.int .u64) height, .ts 240 tBond bonds, .ts 2368 tTx pool, .ts 40 tEvent events]))
  t : TillAt A kt k1 k2 n cp1 cp2 has next kept
theorem Court15At.up {A A' : Key → Option O} {k kt k1 k2 kn : Key} {n : Nat} {cp1 cp2 : Option Nat} {has next : List C} {kept least height : C} {bonds pool events : List C} (h : Court15At A k kt k1 k2 kn n cp1 cp2 has next kept least height bonds pool events) (hA : ∀ k o, A k = some o → A' k = some o) :
    Court15At A' k kt k1 k2 kn n cp1 cp2 has next kept least height bonds pool events := ⟨hA _ _ h.c, h.t.up hA⟩
theorem Court15At.upS {e : List (Nat × V)} {l : List (Key × O)} {A : Key → Option O} {tk : List (Nat × Option Nat)} {k kt k1 k2 kn : Key} {n : Nat} {cp1 cp2 : Option Nat} {has next : List C} {kept least height : C} {bonds pool events : List C} (h : Court15At A k kt k1 k2 kn n cp1 cp2 has next kept least height bonds pool events)
    {A' : Key → Option O} (hl : ∀ k, lookK l (.g k) = none) (hA : A' = (S.mk e l A tk).up) : Court15At A' (.g k) (.g kt) (.g k1) (.g k2) (.g kn) n cp1 cp2 has next kept least height bonds pool events := by
  refine ⟨?_, h.t.upS hl hA⟩
  subst hA
  rw [obj_g hl, h.c]
  simp only [go_sem, ↓gx_tt, ↓gx_tf, ↓gx_ft, ↓gx_ff, ↓gx_u2, ↓gk_tt, ↓gk_tf, ↓gk_ff, ↓gk_ft, reduceCtorEq, Nat.reduceEqDiff, ↓reduceIte, Nat.reduceAdd, Nat.reduceSub, Nat.reduceLT, Nat.reduceMul, Nat.reduceBEq, Int.reduceLE, Int.reduceLT, Int.reduceAdd, Int.reduceSub, Int.reduceToNat, Int.reduceNeg, Int.reduceMul, Nat.reduceLeDiff]
section
variable {A : Key → Option O} {k kt k1 k2 kn : Key} {n : Nat} {cp1 cp2 : Option Nat} {has next : List C} {kept least height : C} {bonds pool events : List C}
theorem ref15_user (T : Court15At A k kt k1 k2 kn n cp1 cp2 has next kept least height bonds pool events) (hn : n ≤ 16) (who : C) : DCalls (X0 gl) 35 [.ptr (.g k) [] tCourt, .d (.int .i64) who] A (.d .bool (.bool (decide (¬ (who.toInt < 0 ∨ (n : Int) - 1 ≤ who.toInt))))) [] := by
  refine dcalls_intro (n := 20) (ok0 gl) Tryd.func35 rfl rfl (by simp) ?_
  intro A' hA
  have T := T.up hA
  have h := T.c
  have ht := T.t.t
  have e2 : IntKind.i64.wrap ((n : Int) - 1) = (n : Int) - 1 := IntWalk.i64_in _ (by omega)
  refine dc_seq (dc_region (ok0 gl) [] (by kernel_rfl) ?_)
  simp only [go_sem, ↓gx_tt, ↓gx_tf, ↓gx_ft, ↓gx_ff, ↓gx_u2, ↓gk_tt, ↓gk_tf, ↓gk_ff, ↓gk_ft, reduceCtorEq, Nat.reduceEqDiff, ↓reduceIte, Nat.reduceAdd, Nat.reduceSub, Nat.reduceLT, Nat.reduceMul, Nat.reduceBEq, Int.reduceLE, Int.reduceLT, Int.reduceAdd, Int.reduceSub, Int.reduceToNat, Int.reduceNeg, Int.reduceMul, Nat.reduceLeDiff]
  by_cases h1 : 0 ≤ who.toInt
  · by_cases h2 : who.toInt < (n : Int) - 1
    · have h3 : ¬ (who.toInt < 0 ∨ (n : Int) - 1 ≤ who.toInt) := by omega
      refine dc_seq (dc_region (ok0 gl) [] (by kernel_rfl) ?_)
      simp only [go_sem, ↓gx_tt, ↓gx_tf, ↓gx_ft, ↓gx_ff, ↓gx_u2, ↓gk_tt, ↓gk_tf, ↓gk_ff, ↓gk_ft, reduceCtorEq, Nat.reduceEqDiff, ↓reduceIte, Nat.reduceAdd, Nat.reduceSub, Nat.reduceLT, Nat.reduceMul, Nat.reduceBEq, Int.reduceLE, Int.reduceLT, Int.reduceAdd, Int.reduceSub, Int.reduceToNat, Int.reduceNeg, Int.reduceMul, Nat.reduceLeDiff, h, ht, h1, h2, e2]
      refine dc_ret ⟨.inr rfl, ?_⟩
      simp only [retOk, go_sem, ↓gx_tt, ↓gx_tf, ↓gx_ft, ↓gx_ff, ↓gx_u2, ↓gk_tt, ↓gk_tf, ↓gk_ff, ↓gk_ft, reduceCtorEq, Nat.reduceEqDiff, ↓reduceIte, Nat.reduceAdd, Nat.reduceSub, Nat.reduceLT, Nat.reduceMul, Nat.reduceBEq, Int.reduceLE, Int.reduceLT, Int.reduceAdd, Int.reduceSub, Int.reduceToNat, Int.reduceNeg, Int.reduceMul, Nat.reduceLeDiff, Tryd.f35, h3] <;> try rfl
    · have h3 : (who.toInt < 0 ∨ (n : Int) - 1 ≤ who.toInt) := by omega
      refine dc_seq (dc_region (ok0 gl) [] (by kernel_rfl) ?_)
      simp only [go_sem, ↓gx_tt, ↓gx_tf, ↓gx_ft, ↓gx_ff, ↓gx_u2, ↓gk_tt, ↓gk_tf, ↓gk_ff, ↓gk_ft, reduceCtorEq, Nat.reduceEqDiff, ↓reduceIte, Nat.reduceAdd, Nat.reduceSub, Nat.reduceLT, Nat.reduceMul, Nat.reduceBEq, Int.reduceLE, Int.reduceLT, Int.reduceAdd, Int.reduceSub, Int.reduceToNat, Int.reduceNeg, Int.reduceMul, Nat.reduceLeDiff, h, ht, h1, h2, e2]
      refine dc_ret ⟨.inr rfl, ?_⟩
      simp only [retOk, go_sem, ↓gx_tt, ↓gx_tf, ↓gx_ft, ↓gx_ff, ↓gx_u2, ↓gk_tt, ↓gk_tf, ↓gk_ff, ↓gk_ft, reduceCtorEq, Nat.reduceEqDiff, ↓reduceIte, Nat.reduceAdd, Nat.reduceSub, Nat.reduceLT, Nat.reduceMul, Nat.reduceBEq, Int.reduceLE, Int.reduceLT, Int.reduceAdd, Int.reduceSub, Int.reduceToNat, Int.reduceNeg, Int.reduceMul, Nat.reduceLeDiff, Tryd.f35, h3] <;> try rfl
  · have h3 : (who.toInt < 0 ∨ (n : Int) - 1 ≤ who.toInt) := by omega
    refine dc_seq (dc_region (ok0 gl) [] (by kernel_rfl) ?_)
    simp only [go_sem, ↓gx_tt, ↓gx_tf, ↓gx_ft, ↓gx_ff, ↓gx_u2, ↓gk_tt, ↓gk_tf, ↓gk_ff, ↓gk_ft, reduceCtorEq, Nat.reduceEqDiff, ↓reduceIte, Nat.reduceAdd, Nat.reduceSub, Nat.reduceLT, Nat.reduceMul, Nat.reduceBEq, Int.reduceLE, Int.reduceLT, Int.reduceAdd, Int.reduceSub, Int.reduceToNat, Int.reduceNeg, Int.reduceMul, Nat.reduceLeDiff, h, ht, h1]
    refine dc_ret ⟨.inr rfl, ?_⟩
    simp only [retOk, go_sem, ↓gx_tt, ↓gx_tf, ↓gx_ft, ↓gx_ff, ↓gx_u2, ↓gk_tt, ↓gk_tf, ↓gk_ff, ↓gk_ft, reduceCtorEq, Nat.reduceEqDiff, ↓reduceIte, Nat.reduceAdd, Nat.reduceSub, Nat.reduceLT, Nat.reduceMul, Nat.reduceBEq, Int.reduceLE, Int.reduceLT, Int.reduceAdd, Int.reduceSub, Int.reduceToNat, Int.reduceNeg, Int.reduceMul, Nat.reduceLeDiff, Tryd.f35, h3] <;> try rfl
theorem ref15_Submit (T : Court15At A k kt k1 k2 kn n cp1 cp2 has next kept least height bonds pool events) (hn : n ≤ 16) (t : C) :
    DCalls (X0 gl) 17 [.ptr (.g k) [] tCourt, .d tTx t] A (.d (.int .i64) (.int (subE n least pool t)))
      [(.g k, .box (.agg tCourt [.ptr (.g kt) [] tTill, .ptr (.g kn) [] tNotary, .d (.int .u64) least, .d (.int .u64) height, .ts 240 tBond bonds, .ts 2368 tTx (subP n least pool t), .ts 40 tEvent events]))] := by
  refine dcalls_intro (n := 33) (ok0 gl) Tryd.func17 rfl rfl (by simp) ?_
  intro A' hA
  have T := T.up hA
  have h := T.c
  refine dc_seq (dc_region (ok0 gl) [] (by kernel_rfl) ?_)
  simp only [go_sem, ↓gx_tt, ↓gx_tf, ↓gx_ft, ↓gx_ff, ↓gx_u2, ↓gk_tt, ↓gk_tf, ↓gk_ff, ↓gk_ft, reduceCtorEq, Nat.reduceEqDiff, ↓reduceIte, Nat.reduceAdd, Nat.reduceSub, Nat.reduceLT, Nat.reduceMul, Nat.reduceBEq, Int.reduceLE, Int.reduceLT, Int.reduceAdd, Int.reduceSub, Int.reduceToNat, Int.reduceNeg, Int.reduceMul, Nat.reduceLeDiff]
  by_cases h1 : 64 ≤ pool.length
  · have e1 : (64 : Int) ≤ (pool.length : Int) := by omega
    refine dc_seq (dc_seq (dc_region (ok0 gl) [] (by kernel_rfl) ?_))
    simp only [go_sem, ↓gx_tt, ↓gx_tf, ↓gx_ft, ↓gx_ff, ↓gx_u2, ↓gk_tt, ↓gk_tf, ↓gk_ff, ↓gk_ft, reduceCtorEq, Nat.reduceEqDiff, ↓reduceIte, Nat.reduceAdd, Nat.reduceSub, Nat.reduceLT, Nat.reduceMul, Nat.reduceBEq, Int.reduceLE, Int.reduceLT, Int.reduceAdd, Int.reduceSub, Int.reduceToNat, Int.reduceNeg, Int.reduceMul, Nat.reduceLeDiff, h, e1]
    refine dc_cond _ rfl (fun _ => ?_) (fun h => by simp at h)
    refine dc_seq (dc_region (ok0 gl) [] (by kernel_rfl) ?_)
    simp only [go_sem, ↓gx_tt, ↓gx_tf, ↓gx_ft, ↓gx_ff, ↓gx_u2, ↓gk_tt, ↓gk_tf, ↓gk_ff, ↓gk_ft, reduceCtorEq, Nat.reduceEqDiff, ↓reduceIte, Nat.reduceAdd, Nat.reduceSub, Nat.reduceLT, Nat.reduceMul, Nat.reduceBEq, Int.reduceLE, Int.reduceLT, Int.reduceAdd, Int.reduceSub, Int.reduceToNat, Int.reduceNeg, Int.reduceMul, Nat.reduceLeDiff]
    refine dc_ret ⟨.inr rfl, ?_⟩
    simp only [retOk, go_sem, ↓gx_tt, ↓gx_tf, ↓gx_ft, ↓gx_ff, ↓gx_u2, ↓gk_tt, ↓gk_tf, ↓gk_ff, ↓gk_ft, reduceCtorEq, Nat.reduceEqDiff, ↓reduceIte, Nat.reduceAdd, Nat.reduceSub, Nat.reduceLT, Nat.reduceMul, Nat.reduceBEq, Int.reduceLE, Int.reduceLT, Int.reduceAdd, Int.reduceSub, Int.reduceToNat, Int.reduceNeg, Int.reduceMul, Nat.reduceLeDiff, Tryd.f17, subE, subP, h1, h] <;> try rfl
  · have e1 : ¬ (64 : Int) ≤ (pool.length : Int) := by omega
    refine dc_seq (dc_seq (dc_region (ok0 gl) [] (by kernel_rfl) ?_))
    simp only [go_sem, ↓gx_tt, ↓gx_tf, ↓gx_ft, ↓gx_ff, ↓gx_u2, ↓gk_tt, ↓gk_tf, ↓gk_ff, ↓gk_ft, reduceCtorEq, Nat.reduceEqDiff, ↓reduceIte, Nat.reduceAdd, Nat.reduceSub, Nat.reduceLT, Nat.reduceMul, Nat.reduceBEq, Int.reduceLE, Int.reduceLT, Int.reduceAdd, Int.reduceSub, Int.reduceToNat, Int.reduceNeg, Int.reduceMul, Nat.reduceLeDiff, h, e1]
    refine dc_cond _ rfl (fun h => by simp at h) (fun _ => dc_skip ?_)
    by_cases h2' : ((t.get 1).toInt < 0 ∨ (n : Int) - 1 ≤ (t.get 1).toInt)
    · refine dc_seq (dc_seq (dc_region (ok0 gl) [] (by kernel_rfl) (vc_n [(), (), ()] ?_)))
      simp only [go_sem, ↓gx_tt, ↓gx_tf, ↓gx_ft, ↓gx_ff, ↓gx_u2, ↓gk_tt, ↓gk_tf, ↓gk_ff, ↓gk_ft, reduceCtorEq, Nat.reduceEqDiff, ↓reduceIte, Nat.reduceAdd, Nat.reduceSub, Nat.reduceLT, Nat.reduceMul, Nat.reduceBEq, Int.reduceLE, Int.reduceLT, Int.reduceAdd, Int.reduceSub, Int.reduceToNat, Int.reduceNeg, Int.reduceMul, Nat.reduceLeDiff]
      refine vcR_op [(), (), (), (), (), (), (), (), ()] rfl ?_
      refine vcO_call _ (ref15_user (T.upS (fun _ => rfl) rfl) hn (t.get 1)) rfl (by simp only [go_sem]) rfl ?_ ?_ ?_ ?_ ?_ <;> simp only [go_sem, ↓gx_tt, ↓gx_tf, ↓gx_ft, ↓gx_ff, ↓gx_u2, ↓gk_tt, ↓gk_tf, ↓gk_ff, ↓gk_ft, reduceCtorEq, Nat.reduceEqDiff, ↓reduceIte, Nat.reduceAdd, Nat.reduceSub, Nat.reduceLT, Nat.reduceMul, Nat.reduceBEq, Int.reduceLE, Int.reduceLT, Int.reduceAdd, Int.reduceSub, Int.reduceToNat, Int.reduceNeg, Int.reduceMul, Nat.reduceLeDiff, h2']
      refine dc_cond _ rfl (fun _ => ?_) (fun h => by simp at h)
      refine dc_seq (dc_region (ok0 gl) [] (by kernel_rfl) ?_)
      simp only [go_sem, ↓gx_tt, ↓gx_tf, ↓gx_ft, ↓gx_ff, ↓gx_u2, ↓gk_tt, ↓gk_tf, ↓gk_ff, ↓gk_ft, reduceCtorEq, Nat.reduceEqDiff, ↓reduceIte, Nat.reduceAdd, Nat.reduceSub, Nat.reduceLT, Nat.reduceMul, Nat.reduceBEq, Int.reduceLE, Int.reduceLT, Int.reduceAdd, Int.reduceSub, Int.reduceToNat, Int.reduceNeg, Int.reduceMul, Nat.reduceLeDiff]
      refine dc_ret ⟨.inr rfl, ?_⟩
      simp only [retOk, go_sem, ↓gx_tt, ↓gx_tf, ↓gx_ft, ↓gx_ff, ↓gx_u2, ↓gk_tt, ↓gk_tf, ↓gk_ff, ↓gk_ft, reduceCtorEq, Nat.reduceEqDiff, ↓reduceIte, Nat.reduceAdd, Nat.reduceSub, Nat.reduceLT, Nat.reduceMul, Nat.reduceBEq, Int.reduceLE, Int.reduceLT, Int.reduceAdd, Int.reduceSub, Int.reduceToNat, Int.reduceNeg, Int.reduceMul, Nat.reduceLeDiff, Tryd.f17, subE, subP, h1, h2', h] <;> try rfl
    · refine dc_seq (dc_seq (dc_region (ok0 gl) [] (by kernel_rfl) (vc_n [(), (), ()] ?_)))
      simp only [go_sem, ↓gx_tt, ↓gx_tf, ↓gx_ft, ↓gx_ff, ↓gx_u2, ↓gk_tt, ↓gk_tf, ↓gk_ff, ↓gk_ft, reduceCtorEq, Nat.reduceEqDiff, ↓reduceIte, Nat.reduceAdd, Nat.reduceSub, Nat.reduceLT, Nat.reduceMul, Nat.reduceBEq, Int.reduceLE, Int.reduceLT, Int.reduceAdd, Int.reduceSub, Int.reduceToNat, Int.reduceNeg, Int.reduceMul, Nat.reduceLeDiff]
      refine vcR_op [(), (), (), (), (), (), (), (), ()] rfl ?_
      refine vcO_call _ (ref15_user (T.upS (fun _ => rfl) rfl) hn (t.get 1)) rfl (by simp only [go_sem]) rfl ?_ ?_ ?_ ?_ ?_ <;> simp only [go_sem, ↓gx_tt, ↓gx_tf, ↓gx_ft, ↓gx_ff, ↓gx_u2, ↓gk_tt, ↓gk_tf, ↓gk_ff, ↓gk_ft, reduceCtorEq, Nat.reduceEqDiff, ↓reduceIte, Nat.reduceAdd, Nat.reduceSub, Nat.reduceLT, Nat.reduceMul, Nat.reduceBEq, Int.reduceLE, Int.reduceLT, Int.reduceAdd, Int.reduceSub, Int.reduceToNat, Int.reduceNeg, Int.reduceMul, Nat.reduceLeDiff, h2']
      refine dc_cond _ rfl (fun h => by simp at h) (fun _ => dc_skip ?_)
      by_cases h4 : (t.get 3).toInt < least.toInt
      · refine dc_seq (dc_seq (dc_drawn (ok0 gl) (mo gl) [] [0, 1, 0, 0, 0, 1, 0] (by kernel_rfl) (by kernel_rfl) ?_))
        simp only [go_sem, ↓gx_tt, ↓gx_tf, ↓gx_ft, ↓gx_ff, ↓gx_u2, ↓gk_tt, ↓gk_tf, ↓gk_ff, ↓gk_ft, reduceCtorEq, Nat.reduceEqDiff, ↓reduceIte, Nat.reduceAdd, Nat.reduceSub, Nat.reduceLT, Nat.reduceMul, Nat.reduceBEq, Int.reduceLE, Int.reduceLT, Int.reduceAdd, Int.reduceSub, Int.reduceToNat, Int.reduceNeg, Int.reduceMul, Nat.reduceLeDiff, h, h4]
        refine dc_cond _ rfl (fun _ => ?_) (fun h => by simp at h)
        refine dc_seq (dc_region (ok0 gl) [] (by kernel_rfl) ?_)
        simp only [go_sem, ↓gx_tt, ↓gx_tf, ↓gx_ft, ↓gx_ff, ↓gx_u2, ↓gk_tt, ↓gk_tf, ↓gk_ff, ↓gk_ft, reduceCtorEq, Nat.reduceEqDiff, ↓reduceIte, Nat.reduceAdd, Nat.reduceSub, Nat.reduceLT, Nat.reduceMul, Nat.reduceBEq, Int.reduceLE, Int.reduceLT, Int.reduceAdd, Int.reduceSub, Int.reduceToNat, Int.reduceNeg, Int.reduceMul, Nat.reduceLeDiff]
        refine dc_ret ⟨.inr rfl, ?_⟩
        simp only [retOk, go_sem, ↓gx_tt, ↓gx_tf, ↓gx_ft, ↓gx_ff, ↓gx_u2, ↓gk_tt, ↓gk_tf, ↓gk_ff, ↓gk_ft, reduceCtorEq, Nat.reduceEqDiff, ↓reduceIte, Nat.reduceAdd, Nat.reduceSub, Nat.reduceLT, Nat.reduceMul, Nat.reduceBEq, Int.reduceLE, Int.reduceLT, Int.reduceAdd, Int.reduceSub, Int.reduceToNat, Int.reduceNeg, Int.reduceMul, Nat.reduceLeDiff, Tryd.f17, subE, subP, h1, h2', h4, h] <;> try rfl
      · refine dc_seq (dc_seq (dc_drawn (ok0 gl) (mo gl) [] [0, 1, 0, 0, 0, 1, 0] (by kernel_rfl) (by kernel_rfl) ?_))
        simp only [go_sem, ↓gx_tt, ↓gx_tf, ↓gx_ft, ↓gx_ff, ↓gx_u2, ↓gk_tt, ↓gk_tf, ↓gk_ff, ↓gk_ft, reduceCtorEq, Nat.reduceEqDiff, ↓reduceIte, Nat.reduceAdd, Nat.reduceSub, Nat.reduceLT, Nat.reduceMul, Nat.reduceBEq, Int.reduceLE, Int.reduceLT, Int.reduceAdd, Int.reduceSub, Int.reduceToNat, Int.reduceNeg, Int.reduceMul, Nat.reduceLeDiff, h, h4]
        refine dc_cond _ rfl (fun h => by simp at h) (fun _ => dc_skip ?_)
        refine DC.weak (weak_keep [0, 3] ?_ ?_ ?_ ?_ ?_) ?_ <;> simp only [go_sem, ↓gx_tt, ↓gx_tf, ↓gx_ft, ↓gx_ff, ↓gx_u2, ↓gk_tt, ↓gk_tf, ↓gk_ff, ↓gk_ft, reduceCtorEq, Nat.reduceEqDiff, ↓reduceIte, Nat.reduceAdd, Nat.reduceSub, Nat.reduceLT, Nat.reduceMul, Nat.reduceBEq, Int.reduceLE, Int.reduceLT, Int.reduceAdd, Int.reduceSub, Int.reduceToNat, Int.reduceNeg, Int.reduceMul, Nat.reduceLeDiff]
        refine DC.weak (weak_fix 3 3 rfl rfl rfl rfl ?_ ?_ ?_ ?_ ?_ ?_) ?_ <;> simp only [go_sem, ↓gx_tt, ↓gx_tf, ↓gx_ft, ↓gx_ff, ↓gx_u2, ↓gk_tt, ↓gk_tf, ↓gk_ff, ↓gk_ft, reduceCtorEq, Nat.reduceEqDiff, ↓reduceIte, Nat.reduceAdd, Nat.reduceSub, Nat.reduceLT, Nat.reduceMul, Nat.reduceBEq, Int.reduceLE, Int.reduceLT, Int.reduceAdd, Int.reduceSub, Int.reduceToNat, Int.reduceNeg, Int.reduceMul, Nat.reduceLeDiff]
        have el : (pool ++ [t]).length = pool.length + 1 := by simp
        refine dc_seq (dc_drawn (ok0 gl) (mo gl) [(27, 1)] [0, 0, 0, 0, 2, 0, 0, 2, 0, 0, 2] (by kernel_rfl) (by kernel_rfl) ?_)
        simp only [go_sem, ↓gx_tt, ↓gx_tf, ↓gx_ft, ↓gx_ff, ↓gx_u2, ↓gk_tt, ↓gk_tf, ↓gk_ff, ↓gk_ft, reduceCtorEq, Nat.reduceEqDiff, ↓reduceIte, Nat.reduceAdd, Nat.reduceSub, Nat.reduceLT, Nat.reduceMul, Nat.reduceBEq, Int.reduceLE, Int.reduceLT, Int.reduceAdd, Int.reduceSub, Int.reduceToNat, Int.reduceNeg, Int.reduceMul, Nat.reduceLeDiff, h, el]
        refine ⟨rfl, fun y hy => by simp at hy; subst hy; exact ⟨rfl, rfl⟩, by omega, by unfold maxLen; omega, ?_⟩
        refine dc_seq (dc_region (ok0 gl) [] (by kernel_rfl) ?_)
        simp only [go_sem, ↓gx_tt, ↓gx_tf, ↓gx_ft, ↓gx_ff, ↓gx_u2, ↓gk_tt, ↓gk_tf, ↓gk_ff, ↓gk_ft, reduceCtorEq, Nat.reduceEqDiff, ↓reduceIte, Nat.reduceAdd, Nat.reduceSub, Nat.reduceLT, Nat.reduceMul, Nat.reduceBEq, Int.reduceLE, Int.reduceLT, Int.reduceAdd, Int.reduceSub, Int.reduceToNat, Int.reduceNeg, Int.reduceMul, Nat.reduceLeDiff]
        refine dc_ret ⟨.inr rfl, ?_⟩
        simp only [retOk, go_sem, ↓gx_tt, ↓gx_tf, ↓gx_ft, ↓gx_ff, ↓gx_u2, ↓gk_tt, ↓gk_tf, ↓gk_ff, ↓gk_ft, reduceCtorEq, Nat.reduceEqDiff, ↓reduceIte, Nat.reduceAdd, Nat.reduceSub, Nat.reduceLT, Nat.reduceMul, Nat.reduceBEq, Int.reduceLE, Int.reduceLT, Int.reduceAdd, Int.reduceSub, Int.reduceToNat, Int.reduceNeg, Int.reduceMul, Nat.reduceLeDiff, Tryd.f17, subE, subP, h1, h2', h4, h] <;> try rfl
end
end Go.Proofs.YtajbalbnmaljnaaDoor

namespace Go.Proofs.YtajbalbnmaljnaaDoor
open Go Go.E
set_option maxRecDepth 10000
set_option maxHeartbeats 4000000
set_option linter.unusedSimpArgs false
variable {gl : Nat → Option (Ty × C)}
def has4 : List C := [.int 100, .int 100, .int 100, .int 0]
def greatC (i : Nat) (t : C) : Prop := 60 ≤ i ∨ 300 < (t.get 9).elems.length ∨ 12 < (((t.get 10).get 0).get 4).elems.length
instance (i : Nat) (t : C) : Decidable (greatC i t) := by unfold greatC; infer_instance
def poolF (least : C) : List C → Nat → List C → List C
  | [], _, pool => pool
  | t :: ts, i, pool => if greatC i t then pool else poolF least ts (i + 1) (subP 4 least pool t)
theorem poolF_drop {least : C} {l pool : List C} {i : Nat} (h : i < l.length) : poolF least (l.drop i) i pool = if greatC i (l.getD i .nil) then pool else poolF least (l.drop (i + 1)) (i + 1) (subP 4 least pool (l.getD i .nil)) := by
  rw [List.drop_eq_getElem_cons h]
  simp only [poolF, List.getD_eq_getElem?_getD, List.getElem?_eq_getElem h, Option.getD_some]
def poolL (least tb : C) (pool : List C) : List (Key × O) := [(.l 25027, .box (.agg tCourt [.ptr (.l 41024) [] tTill, .ptr (.l 25024) [] tNotary, .d (.int .u64) least, .d (.int .u64) (.int 0), .ts 240 tBond [], .ts 2368 tTx pool, .ts 40 tEvent []])),
  (.l 25024, .box (.agg tNotary [.d tTables tb, .ts 72 tEntry []])),
  (.l 41024, .box (.agg tTill [.sr (.l 41019) [] 0 4 none 8 (.int .u64), .sr (.l 41022) [] 0 4 (some 4) 8 (.int .u64), .d (.int .u64) (.int 0)])),
  (.l 41022, .box (.d (.arr 4 (.int .u64)) (.agg [.int 0, .int 0, .int 0, .int 0]))), (.l 41019, .box (.d (.arr 4 (.int .u64)) (.agg [.int 100, .int 100, .int 100, .int 0]))),
  (.l 18023, .box (.agg tCourt [.ptr (.l 32023) [] tTill, .ptr (.l 39003) [] tNotary2, .d (.int .u64) least, .d (.int .u64) (.int 0), .ts 240 tBond [], .ts 2368 tTx pool, .ts 40 tEvent []])),
  (.l 39003, .box (.agg tNotary2 [.mp (.l 39001)])), (.l 39001, .map (.arr 32 (.int .u8)) tEntry2 []),
  (.l 32023, .box (.agg tTill [.sr (.l 51007) [] 0 4 none 8 (.int .u64), .sr (.l 32021) [] 0 4 (some 4) 8 (.int .u64), .d (.int .u64) (.int 0)])),
  (.l 32021, .box (.d (.arr 4 (.int .u64)) (.agg [.int 0, .int 0, .int 0, .int 0]))), (.l 51007, .box (.d (.arr 4 (.int .u64)) (.agg [.int 100, .int 100, .int 100, .int 0])))]
abbrev Court4 (A : Key → Option O) (k kt k1 k2 kn : Key) (least : C) (pool : List C) : Prop :=
  CourtAt A k kt k1 k2 kn 4 none (some 4) [.int 100, .int 100, .int 100, .int 0] [.int 0, .int 0, .int 0, .int 0] (.int 0) least (.int 0) [] pool []
abbrev Court154 (A : Key → Option O) (k kt k1 k2 kn : Key) (least : C) (pool : List C) : Prop :=
  Court15At A k kt k1 k2 kn 4 none (some 4) [.int 100, .int 100, .int 100, .int 0] [.int 0, .int 0, .int 0, .int 0] (.int 0) least (.int 0) [] pool []
theorem pooled (gl : Nat → Option (Ty × C)) : ∃ tb, ∀ (A : Key → Option O) (least : C) (l : List C), DCalls (X0 gl) 4 [.d (.int .u64) least, .d (.slice 2368 tTx) (.slice l)] A (.tup [.ptr (.l 18023) [] tCourt, .ptr (.l 25027) [] tCourt]) (poolL least tb (poolF least l 0 [])) := by
  obtain ⟨tb, hMake⟩ := ref03_Make gl
  refine ⟨tb, fun A least l => ?_⟩
  refine dcalls_intro (n := 66) (ok0 gl) Tryd.func4 rfl rfl (by simp) ?_
  intro A' hA
  refine dc_seq (dc_region (ok0 gl) [] (by kernel_rfl) ?_)
  simp only [go_sem, ↓gx_tt, ↓gx_tf, ↓gx_ft, ↓gx_ff, ↓gx_u2, ↓gk_tt, ↓gk_tf, ↓gk_ff, ↓gk_ft, reduceCtorEq, Nat.reduceEqDiff, ↓reduceIte, Nat.reduceAdd, Nat.reduceSub, Nat.reduceLT, Nat.reduceMul, Nat.reduceBEq, Int.reduceLE, Int.reduceLT, Int.reduceAdd, Int.reduceSub, Int.reduceToNat, Int.reduceNeg, Int.reduceMul, Nat.reduceLeDiff]
  refine dc_seq (dc_region (ok0 gl) [] (by kernel_rfl) ?_)
  simp only [go_sem, ↓gx_tt, ↓gx_tf, ↓gx_ft, ↓gx_ff, ↓gx_u2, ↓gk_tt, ↓gk_tf, ↓gk_ff, ↓gk_ft, reduceCtorEq, Nat.reduceEqDiff, ↓reduceIte, Nat.reduceAdd, Nat.reduceSub, Nat.reduceLT, Nat.reduceMul, Nat.reduceBEq, Int.reduceLE, Int.reduceLT, Int.reduceAdd, Int.reduceSub, Int.reduceToNat, Int.reduceNeg, Int.reduceMul, Nat.reduceLeDiff]
  refine ⟨rfl, fun y hy => by simp at hy; rcases hy with rfl | rfl <;> exact ⟨rfl, rfl⟩, ?_⟩
  refine dc_seq (dc_region (ok0 gl) [] (by kernel_rfl) (vc_n [(), ()] ?_))
  simp only [go_sem, ↓gx_tt, ↓gx_tf, ↓gx_ft, ↓gx_ff, ↓gx_u2, ↓gk_tt, ↓gk_tf, ↓gk_ff, ↓gk_ft, reduceCtorEq, Nat.reduceEqDiff, ↓reduceIte, Nat.reduceAdd, Nat.reduceSub, Nat.reduceLT, Nat.reduceMul, Nat.reduceBEq, Int.reduceLE, Int.reduceLT, Int.reduceAdd, Int.reduceSub, Int.reduceToNat, Int.reduceNeg, Int.reduceMul, Nat.reduceLeDiff]
  refine vcR_op [(), (), (), (), (), (), (), (), ()] rfl ?_
  refine vcO_call _ (court_New _ has4 least (by decide) (by decide) 300 (by decide)) rfl (by simp only [go_sem]) rfl ?_ ?_ ?_ ?_ ?_ <;> simp only [go_sem, ↓gx_tt, ↓gx_tf, ↓gx_ft, ↓gx_ff, ↓gx_u2, ↓gk_tt, ↓gk_tf, ↓gk_ff, ↓gk_ft, reduceCtorEq, Nat.reduceEqDiff, ↓reduceIte, Nat.reduceAdd, Nat.reduceSub, Nat.reduceLT, Nat.reduceMul, Nat.reduceBEq, Int.reduceLE, Int.reduceLT, Int.reduceAdd, Int.reduceSub, Int.reduceToNat, Int.reduceNeg, Int.reduceMul, Nat.reduceLeDiff, has4, courtL]
  refine dc_seq (dc_region (ok0 gl) [] (by kernel_rfl) (vc_n [] ?_))
  simp only [go_sem, ↓gx_tt, ↓gx_tf, ↓gx_ft, ↓gx_ff, ↓gx_u2, ↓gk_tt, ↓gk_tf, ↓gk_ff, ↓gk_ft, reduceCtorEq, Nat.reduceEqDiff, ↓reduceIte, Nat.reduceAdd, Nat.reduceSub, Nat.reduceLT, Nat.reduceMul, Nat.reduceBEq, Int.reduceLE, Int.reduceLT, Int.reduceAdd, Int.reduceSub, Int.reduceToNat, Int.reduceNeg, Int.reduceMul, Nat.reduceLeDiff]
  refine vcR_op [(), ()] rfl ?_
  refine vcO_call _ (hMake _) rfl (by simp only [go_sem]) rfl ?_ ?_ ?_ ?_ ?_ <;> simp only [go_sem, ↓gx_tt, ↓gx_tf, ↓gx_ft, ↓gx_ff, ↓gx_u2, ↓gk_tt, ↓gk_tf, ↓gk_ff, ↓gk_ft, reduceCtorEq, Nat.reduceEqDiff, ↓reduceIte, Nat.reduceAdd, Nat.reduceSub, Nat.reduceLT, Nat.reduceMul, Nat.reduceBEq, Int.reduceLE, Int.reduceLT, Int.reduceAdd, Int.reduceSub, Int.reduceToNat, Int.reduceNeg, Int.reduceMul, Nat.reduceLeDiff]
  refine vcR_op [(), (), (), (), (), (), (), (), ()] rfl ?_
  refine vcO_call _ (ref15_New _ has4 least tb (by decide) (by decide) 300 (by decide)) rfl (by simp only [go_sem]) rfl ?_ ?_ ?_ ?_ ?_ <;> simp only [go_sem, ↓gx_tt, ↓gx_tf, ↓gx_ft, ↓gx_ff, ↓gx_u2, ↓gk_tt, ↓gk_tf, ↓gk_ff, ↓gk_ft, reduceCtorEq, Nat.reduceEqDiff, ↓reduceIte, Nat.reduceAdd, Nat.reduceSub, Nat.reduceLT, Nat.reduceMul, Nat.reduceBEq, Int.reduceLE, Int.reduceLT, Int.reduceAdd, Int.reduceSub, Int.reduceToNat, Int.reduceNeg, Int.reduceMul, Nat.reduceLeDiff, has4, court15L]
  refine dc_seq (dc_seq (dc_region (ok0 gl) [] (by kernel_rfl) ?_))
  simp only [go_sem, ↓gx_tt, ↓gx_tf, ↓gx_ft, ↓gx_ff, ↓gx_u2, ↓gk_tt, ↓gk_tf, ↓gk_ff, ↓gk_ft, reduceCtorEq, Nat.reduceEqDiff, ↓reduceIte, Nat.reduceAdd, Nat.reduceSub, Nat.reduceLT, Nat.reduceMul, Nat.reduceBEq, Int.reduceLE, Int.reduceLT, Int.reduceAdd, Int.reduceSub, Int.reduceToNat, Int.reduceNeg, Int.reduceMul, Nat.reduceLeDiff]
  refine dc_cond _ rfl (fun h => by simp at h) (fun _ => dc_skip ?_)
  refine dc_facts fun W => ?_
  have hln : l.length ≤ 9223372036854775807 := (W.at (t := 1) rfl).2.2.1
  refine dc_seq (dc_seq (dc_region (ok0 gl) [] (by kernel_rfl) ?_))
  simp only [go_sem, ↓gx_tt, ↓gx_tf, ↓gx_ft, ↓gx_ff, ↓gx_u2, ↓gk_tt, ↓gk_tf, ↓gk_ff, ↓gk_ft, reduceCtorEq, Nat.reduceEqDiff, ↓reduceIte, Nat.reduceAdd, Nat.reduceSub, Nat.reduceLT, Nat.reduceMul, Nat.reduceBEq, Int.reduceLE, Int.reduceLT, Int.reduceAdd, Int.reduceSub, Int.reduceToNat, Int.reduceNeg, Int.reduceMul, Nat.reduceLeDiff]
  refine dc_block (dc_while (ι := Nat × List C) (fun i => ⟨[(35, .d (.int .i64) (.int i.1)), (34, .d (.int .i64) (.int l.length)), (33, .d (.slice 2368 tTx) (.slice l)), (9, .ptr (.l 25027) [] tCourt), (7, .ptr (.l 18023) [] tCourt)], poolL least tb i.2, A', []⟩) (fun i => l.length - i.1)
    (fun i => i.1 ≤ l.length ∧ poolF least (l.drop i.1) i.1 i.2 = poolF least l 0 []) (0, []) ?_ ⟨Nat.zero_le _, rfl⟩ ?_)
  · refine weak_to rfl ?_ ?_ ?_ ?_ ?_ <;> simp only [go_sem, ↓gx_tt, ↓gx_tf, ↓gx_ft, ↓gx_ff, ↓gx_u2, ↓gk_tt, ↓gk_tf, ↓gk_ff, ↓gk_ft, reduceCtorEq, Nat.reduceEqDiff, ↓reduceIte, Nat.reduceAdd, Nat.reduceSub, Nat.reduceLT, Nat.reduceMul, Nat.reduceBEq, Int.reduceLE, Int.reduceLT, Int.reduceAdd, Int.reduceSub, Int.reduceToNat, Int.reduceNeg, Int.reduceMul, Nat.reduceLeDiff, poolL]
    rfl
  · rintro ⟨i, pool⟩ ⟨hi, hP⟩
    simp only at hi hP
    unfold poolL
    refine dc_seq (dc_region (ok0 gl) [] (by kernel_rfl) ?_)
    simp only [go_sem, ↓gx_tt, ↓gx_tf, ↓gx_ft, ↓gx_ff, ↓gx_u2, ↓gk_tt, ↓gk_tf, ↓gk_ff, ↓gk_ft, reduceCtorEq, Nat.reduceEqDiff, ↓reduceIte, Nat.reduceAdd, Nat.reduceSub, Nat.reduceLT, Nat.reduceMul, Nat.reduceBEq, Int.reduceLE, Int.reduceLT, Int.reduceAdd, Int.reduceSub, Int.reduceToNat, Int.reduceNeg, Int.reduceMul, Nat.reduceLeDiff]
    refine dc_seq (dc_cond _ rfl (fun hlt => dc_skip ?_) (fun hge => dc_exit ?_))
    · have hlt : i < l.length := by simpa using hlt
      have e1 : ((i : Int).toNat) = i := Int.toNat_natCast i
      rw [poolF_drop hlt] at hP
      refine dc_seq (dc_block (dc_seq (dc_region (ok0 gl) [] (by kernel_rfl) ?_)))
      simp only [go_sem, ↓gx_tt, ↓gx_tf, ↓gx_ft, ↓gx_ff, ↓gx_u2, ↓gk_tt, ↓gk_tf, ↓gk_ff, ↓gk_ft, reduceCtorEq, Nat.reduceEqDiff, ↓reduceIte, Nat.reduceAdd, Nat.reduceSub, Nat.reduceLT, Nat.reduceMul, Nat.reduceBEq, Int.reduceLE, Int.reduceLT, Int.reduceAdd, Int.reduceSub, Int.reduceToNat, Int.reduceNeg, Int.reduceMul, Nat.reduceLeDiff, e1]
      refine ⟨by omega, by omega, ?_⟩
      generalize ht : l.getD i .nil = t
      rw [ht] at hP
      by_cases h1 : (60 : Int) ≤ (i : Int)
      · have hg : greatC i t := .inl (by omega)
        rw [if_pos hg] at hP
        refine dc_seq (dc_seq (dc_region (ok0 gl) [] (by kernel_rfl) ?_))
        simp only [go_sem, ↓gx_tt, ↓gx_tf, ↓gx_ft, ↓gx_ff, ↓gx_u2, ↓gk_tt, ↓gk_tf, ↓gk_ff, ↓gk_ft, reduceCtorEq, Nat.reduceEqDiff, ↓reduceIte, Nat.reduceAdd, Nat.reduceSub, Nat.reduceLT, Nat.reduceMul, Nat.reduceBEq, Int.reduceLE, Int.reduceLT, Int.reduceAdd, Int.reduceSub, Int.reduceToNat, Int.reduceNeg, Int.reduceMul, Nat.reduceLeDiff, h1, ht]
        refine dc_cond _ rfl (fun _ => dc_exit ?_) (fun h => by simp at h)
        refine dc_seq (dc_region (ok0 gl) [] (by kernel_rfl) ?_)
        simp only [go_sem, ↓gx_tt, ↓gx_tf, ↓gx_ft, ↓gx_ff, ↓gx_u2, ↓gk_tt, ↓gk_tf, ↓gk_ff, ↓gk_ft, reduceCtorEq, Nat.reduceEqDiff, ↓reduceIte, Nat.reduceAdd, Nat.reduceSub, Nat.reduceLT, Nat.reduceMul, Nat.reduceBEq, Int.reduceLE, Int.reduceLT, Int.reduceAdd, Int.reduceSub, Int.reduceToNat, Int.reduceNeg, Int.reduceMul, Nat.reduceLeDiff]
        refine dc_ret ⟨.inr rfl, ?_⟩
        simp only [retOk, go_sem, ↓gx_tt, ↓gx_tf, ↓gx_ft, ↓gx_ff, ↓gx_u2, ↓gk_tt, ↓gk_tf, ↓gk_ff, ↓gk_ft, reduceCtorEq, Nat.reduceEqDiff, ↓reduceIte, Nat.reduceAdd, Nat.reduceSub, Nat.reduceLT, Nat.reduceMul, Nat.reduceBEq, Int.reduceLE, Int.reduceLT, Int.reduceAdd, Int.reduceSub, Int.reduceToNat, Int.reduceNeg, Int.reduceMul, Nat.reduceLeDiff, Tryd.f4, poolL] <;> try rfl
        rw [← hP]
      · by_cases h2 : (300 : Int) < (((t.get 9).elems.length : Nat) : Int)
        · have hg : greatC i t := .inr (.inl (by omega))
          rw [if_pos hg] at hP
          refine dc_seq (dc_seq (dc_region (ok0 gl) [] (by kernel_rfl) ?_))
          simp only [go_sem, ↓gx_tt, ↓gx_tf, ↓gx_ft, ↓gx_ff, ↓gx_u2, ↓gk_tt, ↓gk_tf, ↓gk_ff, ↓gk_ft, reduceCtorEq, Nat.reduceEqDiff, ↓reduceIte, Nat.reduceAdd, Nat.reduceSub, Nat.reduceLT, Nat.reduceMul, Nat.reduceBEq, Int.reduceLE, Int.reduceLT, Int.reduceAdd, Int.reduceSub, Int.reduceToNat, Int.reduceNeg, Int.reduceMul, Nat.reduceLeDiff, h1, ht, h2]
          refine dc_cond _ rfl (fun _ => dc_exit ?_) (fun h => by simp at h)
          refine dc_seq (dc_region (ok0 gl) [] (by kernel_rfl) ?_)
          simp only [go_sem, ↓gx_tt, ↓gx_tf, ↓gx_ft, ↓gx_ff, ↓gx_u2, ↓gk_tt, ↓gk_tf, ↓gk_ff, ↓gk_ft, reduceCtorEq, Nat.reduceEqDiff, ↓reduceIte, Nat.reduceAdd, Nat.reduceSub, Nat.reduceLT, Nat.reduceMul, Nat.reduceBEq, Int.reduceLE, Int.reduceLT, Int.reduceAdd, Int.reduceSub, Int.reduceToNat, Int.reduceNeg, Int.reduceMul, Nat.reduceLeDiff]
          refine dc_ret ⟨.inr rfl, ?_⟩
          simp only [retOk, go_sem, ↓gx_tt, ↓gx_tf, ↓gx_ft, ↓gx_ff, ↓gx_u2, ↓gk_tt, ↓gk_tf, ↓gk_ff, ↓gk_ft, reduceCtorEq, Nat.reduceEqDiff, ↓reduceIte, Nat.reduceAdd, Nat.reduceSub, Nat.reduceLT, Nat.reduceMul, Nat.reduceBEq, Int.reduceLE, Int.reduceLT, Int.reduceAdd, Int.reduceSub, Int.reduceToNat, Int.reduceNeg, Int.reduceMul, Nat.reduceLeDiff, Tryd.f4, poolL] <;> try rfl
          rw [← hP]
        · by_cases h3 : (12 : Int) < (((((t.get 10).get 0).get 4).elems.length : Nat) : Int)
          · have hg : greatC i t := .inr (.inr (by omega))
            rw [if_pos hg] at hP
            refine dc_seq (dc_seq (dc_region (ok0 gl) [] (by kernel_rfl) ?_))
            simp only [go_sem, ↓gx_tt, ↓gx_tf, ↓gx_ft, ↓gx_ff, ↓gx_u2, ↓gk_tt, ↓gk_tf, ↓gk_ff, ↓gk_ft, reduceCtorEq, Nat.reduceEqDiff, ↓reduceIte, Nat.reduceAdd, Nat.reduceSub, Nat.reduceLT, Nat.reduceMul, Nat.reduceBEq, Int.reduceLE, Int.reduceLT, Int.reduceAdd, Int.reduceSub, Int.reduceToNat, Int.reduceNeg, Int.reduceMul, Nat.reduceLeDiff, h1, ht, h2, h3]
            refine dc_cond _ rfl (fun _ => dc_exit ?_) (fun h => by simp at h)
            refine dc_seq (dc_region (ok0 gl) [] (by kernel_rfl) ?_)
            simp only [go_sem, ↓gx_tt, ↓gx_tf, ↓gx_ft, ↓gx_ff, ↓gx_u2, ↓gk_tt, ↓gk_tf, ↓gk_ff, ↓gk_ft, reduceCtorEq, Nat.reduceEqDiff, ↓reduceIte, Nat.reduceAdd, Nat.reduceSub, Nat.reduceLT, Nat.reduceMul, Nat.reduceBEq, Int.reduceLE, Int.reduceLT, Int.reduceAdd, Int.reduceSub, Int.reduceToNat, Int.reduceNeg, Int.reduceMul, Nat.reduceLeDiff]
            refine dc_ret ⟨.inr rfl, ?_⟩
            simp only [retOk, go_sem, ↓gx_tt, ↓gx_tf, ↓gx_ft, ↓gx_ff, ↓gx_u2, ↓gk_tt, ↓gk_tf, ↓gk_ff, ↓gk_ft, reduceCtorEq, Nat.reduceEqDiff, ↓reduceIte, Nat.reduceAdd, Nat.reduceSub, Nat.reduceLT, Nat.reduceMul, Nat.reduceBEq, Int.reduceLE, Int.reduceLT, Int.reduceAdd, Int.reduceSub, Int.reduceToNat, Int.reduceNeg, Int.reduceMul, Nat.reduceLeDiff, Tryd.f4, poolL] <;> try rfl
            rw [← hP]
          · have hg : ¬ greatC i t := by unfold greatC; omega
            rw [if_neg hg] at hP
            refine dc_seq (dc_seq (dc_region (ok0 gl) [] (by kernel_rfl) ?_))
            simp only [go_sem, ↓gx_tt, ↓gx_tf, ↓gx_ft, ↓gx_ff, ↓gx_u2, ↓gk_tt, ↓gk_tf, ↓gk_ff, ↓gk_ft, reduceCtorEq, Nat.reduceEqDiff, ↓reduceIte, Nat.reduceAdd, Nat.reduceSub, Nat.reduceLT, Nat.reduceMul, Nat.reduceBEq, Int.reduceLE, Int.reduceLT, Int.reduceAdd, Int.reduceSub, Int.reduceToNat, Int.reduceNeg, Int.reduceMul, Nat.reduceLeDiff, h1, ht, h2, h3]
            refine dc_cond _ rfl (fun h => by simp at h) (fun _ => dc_skip ?_)
            refine dc_seq (dc_region (ok0 gl) [] (by kernel_rfl) (vc_n [(), ()] ?_))
            simp only [go_sem, ↓gx_tt, ↓gx_tf, ↓gx_ft, ↓gx_ff, ↓gx_u2, ↓gk_tt, ↓gk_tf, ↓gk_ff, ↓gk_ft, reduceCtorEq, Nat.reduceEqDiff, ↓reduceIte, Nat.reduceAdd, Nat.reduceSub, Nat.reduceLT, Nat.reduceMul, Nat.reduceBEq, Int.reduceLE, Int.reduceLT, Int.reduceAdd, Int.reduceSub, Int.reduceToNat, Int.reduceNeg, Int.reduceMul, Nat.reduceLeDiff]
            refine vcR_op [] rfl ?_
            refine vcO_call _ (law15_To _ t) rfl (by simp only [go_sem]) rfl ?_ ?_ ?_ ?_ ?_ <;> simp only [go_sem, ↓gx_tt, ↓gx_tf, ↓gx_ft, ↓gx_ff, ↓gx_u2, ↓gk_tt, ↓gk_tf, ↓gk_ff, ↓gk_ft, reduceCtorEq, Nat.reduceEqDiff, ↓reduceIte, Nat.reduceAdd, Nat.reduceSub, Nat.reduceLT, Nat.reduceMul, Nat.reduceBEq, Int.reduceLE, Int.reduceLT, Int.reduceAdd, Int.reduceSub, Int.reduceToNat, Int.reduceNeg, Int.reduceMul, Nat.reduceLeDiff]
            refine vcR_op [(), (), (), (), (), (), (), (), ()] rfl ?_
            refine vcO_call _ (court_Submit (⟨by simp only [go_sem, ↓gx_tt, ↓gx_tf, ↓gx_ft, ↓gx_ff, ↓gx_u2, ↓gk_tt, ↓gk_tf, ↓gk_ff, ↓gk_ft, reduceCtorEq, Nat.reduceEqDiff, ↓reduceIte, Nat.reduceAdd, Nat.reduceSub, Nat.reduceLT, Nat.reduceMul, Nat.reduceBEq, Int.reduceLE, Int.reduceLT, Int.reduceAdd, Int.reduceSub, Int.reduceToNat, Int.reduceNeg, Int.reduceMul, Nat.reduceLeDiff], ⟨by simp only [go_sem, ↓gx_tt, ↓gx_tf, ↓gx_ft, ↓gx_ff, ↓gx_u2, ↓gk_tt, ↓gk_tf, ↓gk_ff, ↓gk_ft, reduceCtorEq, Nat.reduceEqDiff, ↓reduceIte, Nat.reduceAdd, Nat.reduceSub, Nat.reduceLT, Nat.reduceMul, Nat.reduceBEq, Int.reduceLE, Int.reduceLT, Int.reduceAdd, Int.reduceSub, Int.reduceToNat, Int.reduceNeg, Int.reduceMul, Nat.reduceLeDiff], by simp only [go_sem, ↓gx_tt, ↓gx_tf, ↓gx_ft, ↓gx_ff, ↓gx_u2, ↓gk_tt, ↓gk_tf, ↓gk_ff, ↓gk_ft, reduceCtorEq, Nat.reduceEqDiff, ↓reduceIte, Nat.reduceAdd, Nat.reduceSub, Nat.reduceLT, Nat.reduceMul, Nat.reduceBEq, Int.reduceLE, Int.reduceLT, Int.reduceAdd, Int.reduceSub, Int.reduceToNat, Int.reduceNeg, Int.reduceMul, Nat.reduceLeDiff], by simp only [go_sem, ↓gx_tt, ↓gx_tf, ↓gx_ft, ↓gx_ff, ↓gx_u2, ↓gk_tt, ↓gk_tf, ↓gk_ff, ↓gk_ft, reduceCtorEq, Nat.reduceEqDiff, ↓reduceIte, Nat.reduceAdd, Nat.reduceSub, Nat.reduceLT, Nat.reduceMul, Nat.reduceBEq, Int.reduceLE, Int.reduceLT, Int.reduceAdd, Int.reduceSub, Int.reduceToNat, Int.reduceNeg, Int.reduceMul, Nat.reduceLeDiff]⟩⟩ : Court4 _ (.l 18023) (.l 32023) (.l 51007) (.l 32021) (.l 39003) least pool) (by decide) t) rfl (by simp only [go_sem]) rfl ?_ ?_ ?_ ?_ ?_ <;> simp only [go_sem, ↓gx_tt, ↓gx_tf, ↓gx_ft, ↓gx_ff, ↓gx_u2, ↓gk_tt, ↓gk_tf, ↓gk_ff, ↓gk_ft, reduceCtorEq, Nat.reduceEqDiff, ↓reduceIte, Nat.reduceAdd, Nat.reduceSub, Nat.reduceLT, Nat.reduceMul, Nat.reduceBEq, Int.reduceLE, Int.reduceLT, Int.reduceAdd, Int.reduceSub, Int.reduceToNat, Int.reduceNeg, Int.reduceMul, Nat.reduceLeDiff]
            refine dc_region (ok0 gl) [] (by kernel_rfl) (vc_n [(), ()] ?_)
            simp only [go_sem, ↓gx_tt, ↓gx_tf, ↓gx_ft, ↓gx_ff, ↓gx_u2, ↓gk_tt, ↓gk_tf, ↓gk_ff, ↓gk_ft, reduceCtorEq, Nat.reduceEqDiff, ↓reduceIte, Nat.reduceAdd, Nat.reduceSub, Nat.reduceLT, Nat.reduceMul, Nat.reduceBEq, Int.reduceLE, Int.reduceLT, Int.reduceAdd, Int.reduceSub, Int.reduceToNat, Int.reduceNeg, Int.reduceMul, Nat.reduceLeDiff]
            refine vcR_op [(), (), (), (), (), (), (), (), ()] rfl ?_
            refine vcO_call _ (ref15_Submit (⟨by simp only [go_sem, ↓gx_tt, ↓gx_tf, ↓gx_ft, ↓gx_ff, ↓gx_u2, ↓gk_tt, ↓gk_tf, ↓gk_ff, ↓gk_ft, reduceCtorEq, Nat.reduceEqDiff, ↓reduceIte, Nat.reduceAdd, Nat.reduceSub, Nat.reduceLT, Nat.reduceMul, Nat.reduceBEq, Int.reduceLE, Int.reduceLT, Int.reduceAdd, Int.reduceSub, Int.reduceToNat, Int.reduceNeg, Int.reduceMul, Nat.reduceLeDiff], ⟨by simp only [go_sem, ↓gx_tt, ↓gx_tf, ↓gx_ft, ↓gx_ff, ↓gx_u2, ↓gk_tt, ↓gk_tf, ↓gk_ff, ↓gk_ft, reduceCtorEq, Nat.reduceEqDiff, ↓reduceIte, Nat.reduceAdd, Nat.reduceSub, Nat.reduceLT, Nat.reduceMul, Nat.reduceBEq, Int.reduceLE, Int.reduceLT, Int.reduceAdd, Int.reduceSub, Int.reduceToNat, Int.reduceNeg, Int.reduceMul, Nat.reduceLeDiff], by simp only [go_sem, ↓gx_tt, ↓gx_tf, ↓gx_ft, ↓gx_ff, ↓gx_u2, ↓gk_tt, ↓gk_tf, ↓gk_ff, ↓gk_ft, reduceCtorEq, Nat.reduceEqDiff, ↓reduceIte, Nat.reduceAdd, Nat.reduceSub, Nat.reduceLT, Nat.reduceMul, Nat.reduceBEq, Int.reduceLE, Int.reduceLT, Int.reduceAdd, Int.reduceSub, Int.reduceToNat, Int.reduceNeg, Int.reduceMul, Nat.reduceLeDiff], by simp only [go_sem, ↓gx_tt, ↓gx_tf, ↓gx_ft, ↓gx_ff, ↓gx_u2, ↓gk_tt, ↓gk_tf, ↓gk_ff, ↓gk_ft, reduceCtorEq, Nat.reduceEqDiff, ↓reduceIte, Nat.reduceAdd, Nat.reduceSub, Nat.reduceLT, Nat.reduceMul, Nat.reduceBEq, Int.reduceLE, Int.reduceLT, Int.reduceAdd, Int.reduceSub, Int.reduceToNat, Int.reduceNeg, Int.reduceMul, Nat.reduceLeDiff]⟩⟩ : Court154 _ (.l 25027) (.l 41024) (.l 41019) (.l 41022) (.l 25024) least pool) (by decide) t) rfl (by simp only [go_sem]) rfl ?_ ?_ ?_ ?_ ?_ <;> simp only [go_sem, ↓gx_tt, ↓gx_tf, ↓gx_ft, ↓gx_ff, ↓gx_u2, ↓gk_tt, ↓gk_tf, ↓gk_ff, ↓gk_ft, reduceCtorEq, Nat.reduceEqDiff, ↓reduceIte, Nat.reduceAdd, Nat.reduceSub, Nat.reduceLT, Nat.reduceMul, Nat.reduceBEq, Int.reduceLE, Int.reduceLT, Int.reduceAdd, Int.reduceSub, Int.reduceToNat, Int.reduceNeg, Int.reduceMul, Nat.reduceLeDiff]
            refine dc_region (ok0 gl) [] (by kernel_rfl) ?_
            simp only [go_sem, ↓gx_tt, ↓gx_tf, ↓gx_ft, ↓gx_ff, ↓gx_u2, ↓gk_tt, ↓gk_tf, ↓gk_ff, ↓gk_ft, reduceCtorEq, Nat.reduceEqDiff, ↓reduceIte, Nat.reduceAdd, Nat.reduceSub, Nat.reduceLT, Nat.reduceMul, Nat.reduceBEq, Int.reduceLE, Int.reduceLT, Int.reduceAdd, Int.reduceSub, Int.reduceToNat, Int.reduceNeg, Int.reduceMul, Nat.reduceLeDiff]
            refine ⟨(i + 1, subP 4 least pool t), ⟨hlt, hP⟩, by simp only; omega, ?_⟩
            refine weak_to rfl ?_ ?_ ?_ ?_ ?_ <;> simp only [go_sem, ↓gx_tt, ↓gx_tf, ↓gx_ft, ↓gx_ff, ↓gx_u2, ↓gk_tt, ↓gk_tf, ↓gk_ff, ↓gk_ft, reduceCtorEq, Nat.reduceEqDiff, ↓reduceIte, Nat.reduceAdd, Nat.reduceSub, Nat.reduceLT, Nat.reduceMul, Nat.reduceBEq, Int.reduceLE, Int.reduceLT, Int.reduceAdd, Int.reduceSub, Int.reduceToNat, Int.reduceNeg, Int.reduceMul, Nat.reduceLeDiff, poolL]
            rw [IntWalk.i64_in _ (by omega)]; rfl
    · have hge : l.length ≤ i := by simpa using hge
      rw [List.drop_eq_nil_of_le hge] at hP
      refine dc_seq (dc_region (ok0 gl) [] (by kernel_rfl) ?_)
      simp only [go_sem, ↓gx_tt, ↓gx_tf, ↓gx_ft, ↓gx_ff, ↓gx_u2, ↓gk_tt, ↓gk_tf, ↓gk_ff, ↓gk_ft, reduceCtorEq, Nat.reduceEqDiff, ↓reduceIte, Nat.reduceAdd, Nat.reduceSub, Nat.reduceLT, Nat.reduceMul, Nat.reduceBEq, Int.reduceLE, Int.reduceLT, Int.reduceAdd, Int.reduceSub, Int.reduceToNat, Int.reduceNeg, Int.reduceMul, Nat.reduceLeDiff]
      refine dc_ret ⟨.inr rfl, ?_⟩
      simp only [retOk, go_sem, ↓gx_tt, ↓gx_tf, ↓gx_ft, ↓gx_ff, ↓gx_u2, ↓gk_tt, ↓gk_tf, ↓gk_ff, ↓gk_ft, reduceCtorEq, Nat.reduceEqDiff, ↓reduceIte, Nat.reduceAdd, Nat.reduceSub, Nat.reduceLT, Nat.reduceMul, Nat.reduceBEq, Int.reduceLE, Int.reduceLT, Int.reduceAdd, Int.reduceSub, Int.reduceToNat, Int.reduceNeg, Int.reduceMul, Nat.reduceLeDiff, Tryd.f4, poolL] <;> try rfl
      rw [← hP]; rfl
end Go.Proofs.YtajbalbnmaljnaaDoor

namespace Go.Proofs.YtajbalbnmaljnaaDoor
open Go Go.E
structure PoolOk (pool : List C) : Prop where
  wf : ∀ t ∈ pool, C.wf tTx t
  rule : ∀ t ∈ pool, (t.get 9).elems.length ≤ 300
  conds : ∀ t ∈ pool, (((t.get 10).get 0).get 4).elems.length ≤ 12
  len : pool.length ≤ 60
theorem subP_mem {n : Nat} {least : C} {pool : List C} {t x : C} (h : x ∈ subP n least pool t) : x ∈ pool ∨ x = t := by
  unfold subP at h
  split at h
  · simpa using h
  · exact .inl h
theorem subP_len (n : Nat) (least : C) (pool : List C) (t : C) : (subP n least pool t).length ≤ pool.length + 1 := by
  unfold subP
  split <;> simp
theorem poolF_props (least : C) (Q : C → Prop) : ∀ (l : List C) (i : Nat) (pool : List C), (∀ t ∈ l, ∀ j, ¬ greatC j t → Q t) → (∀ t ∈ pool, Q t) → pool.length ≤ i → i ≤ 60 →
    (∀ t ∈ poolF least l i pool, Q t) ∧ (poolF least l i pool).length ≤ 60
  | [], i, pool, _, h2, h3, h4 => by simp only [poolF]; exact ⟨h2, by omega⟩
  | t :: ts, i, pool, h1, h2, h3, h4 => by
    simp only [poolF]
    split
    · exact ⟨h2, by omega⟩
    · rename_i hg
      have : i < 60 := by unfold greatC at hg; omega
      refine poolF_props least Q ts (i + 1) _ (fun x hx => h1 x (by simp [hx])) (fun x hx => ?_) ?_ (by omega)
      · rcases subP_mem hx with h | h
        · exact h2 x h
        · subst h; exact h1 x (by simp) i hg
      · have := subP_len 4 least pool t
        omega
theorem poolOk {least : C} {l : List C} (hw : ∀ t ∈ poolF least l 0 [], C.wf tTx t) : PoolOk (poolF least l 0 []) := by
  have h := poolF_props least (fun t => (t.get 9).elems.length ≤ 300 ∧ (((t.get 10).get 0).get 4).elems.length ≤ 12) l 0 [] (fun t _ j hg => by unfold greatC at hg; omega) (fun t ht => by simp at ht) (by simp) (by omega)
  exact ⟨hw, fun t ht => (h.1 t ht).1, fun t ht => (h.1 t ht).2, h.2⟩
section
variable {pool : List C} (O : PoolOk pool)
include O
theorem weight_range {t : C} (ht : t ∈ pool) : 1 ≤ weightC t ∧ weightC t ≤ 29 := by
  have h1 := O.rule t ht
  have h2 := O.conds t ht
  unfold weightC wt
  split
  · omega
  · rename_i h
    have : 1 ≤ (weights.getD (t.get 0).toInt.toNat .nil).toInt := by
      have h3 : (t.get 0).toInt.toNat < 8 := by omega
      generalize (t.get 0).toInt.toNat = i at h3
      match i, h3 with
      | 0, _ | 1, _ | 2, _ | 3, _ | 4, _ | 5, _ | 6, _ | 7, _ => decide
    have h4 := (weights_range (t.get 0).toInt).2
    have h5 : (t.get 9).elems.length / 32 ≤ 9 := by omega
    omega
theorem pays_range {t : C} (ht : t ∈ pool) : 0 ≤ paysC t ∧ paysC t ≤ 1099511627776 := by
  have hf := C.wf_kid (i := 3) (f := .int .u64) (O.wf t ht) rfl rfl rfl
  have : 0 ≤ (t.get 3).toInt := by
    have := hf.2.1
    simpa [IntKind.min, IntKind.signed] using this
  unfold paysC
  split <;> omega
theorem prod_wrap {a b : C} (ha : a ∈ pool) (hb : b ∈ pool) : IntKind.u64.wrap (paysC a * IntKind.u64.wrap (weightC b)) = paysC a * weightC b := by
  obtain ⟨w1, w2⟩ := weight_range O hb
  obtain ⟨p1, p2⟩ := pays_range O ha
  rw [IntWalk.u64_in (weightC b) (by omega)]
  have h1 : 0 ≤ paysC a * weightC b := Int.mul_nonneg p1 (by omega)
  have h2 : paysC a * weightC b ≤ 1099511627776 * 29 := Int.mul_le_mul p2 w2 (by omega) (by omega)
  exact IntWalk.u64_in _ (by omega)
theorem better_eq {a b : C} (ha : a ∈ pool) (hb : b ∈ pool) : betterC a b = decide (paysC b * weightC a < paysC a * weightC b) := by
  unfold betterC
  rw [prod_wrap O ha hb, prod_wrap O hb ha]
theorem better_trans {a b c : C} (ha : a ∈ pool) (hb : b ∈ pool) (hc : c ∈ pool) (h1 : paysC c * weightC b ≤ paysC b * weightC c) (h2 : paysC b * weightC a < paysC a * weightC b) : paysC c * weightC a < paysC a * weightC c := by
  have wa := (weight_range O ha).1
  have wb := (weight_range O hb).1
  have wc := (weight_range O hc).1
  have e1 : paysC c * weightC b * weightC a ≤ paysC b * weightC c * weightC a := Int.mul_le_mul_of_nonneg_right h1 (by omega)
  have e2 : paysC b * weightC a * weightC c < paysC a * weightC b * weightC c := Int.mul_lt_mul_of_pos_right h2 (by omega)
  have e3 : paysC b * weightC c * weightC a = paysC b * weightC a * weightC c := by rw [Int.mul_assoc, Int.mul_comm (weightC c), ← Int.mul_assoc]
  have e4 : paysC c * weightC b * weightC a = paysC c * weightC a * weightC b := by rw [Int.mul_assoc, Int.mul_comm (weightC b), ← Int.mul_assoc]
  have e5 : paysC a * weightC b * weightC c = paysC a * weightC c * weightC b := by rw [Int.mul_assoc, Int.mul_comm (weightC b), ← Int.mul_assoc]
  refine Int.lt_of_mul_lt_mul_right (a := weightC b) ?_ (by omega)
  omega
def Found (pool : List C) (sk : Nat → Bool) (i : Nat) (best : Int) : Prop :=
  (best < 0 ∧ ∀ j, j < i → sk j = true) ∨ ∃ b : Nat, best = b ∧ b < i ∧ sk b = false ∧ ∀ j, j < i → sk j = false →
    paysC (pool.getD j .nil) * weightC (pool.getD b .nil) ≤ paysC (pool.getD b .nil) * weightC (pool.getD j .nil) ∧ (j < b → paysC (pool.getD j .nil) * weightC (pool.getD b .nil) < paysC (pool.getD b .nil) * weightC (pool.getD j .nil))
omit O in
theorem getD_mem' {i : Nat} (h : i < pool.length) : pool.getD i .nil ∈ pool := by
  rw [List.getD_eq_getElem?_getD, List.getElem?_eq_getElem h]
  exact List.getElem_mem h
theorem scan_found (out : List C) (nx : C → C) (room : Int) : ∀ (ts : List C) (i : Nat) (best : Int), ts = pool.drop i → Found pool (fun j => skipC out nx room j (pool.getD j .nil)) i best → i ≤ pool.length →
    Found pool (fun j => skipC out nx room j (pool.getD j .nil)) pool.length (scanC pool out nx room ts i best)
  | [], i, best, h, hF, hi => by
    have : i = pool.length := by
      have := congrArg List.length h
      simp at this
      omega
    subst this
    exact hF
  | t :: ts, i, best, h, hF, hi => by
    have hlt : i < pool.length := by
      have := congrArg List.length h
      simp at this
      omega
    have ht : t = pool.getD i .nil := by
      rw [List.drop_eq_getElem_cons hlt] at h
      cases h
      simp [hlt]
    have hts : ts = pool.drop (i + 1) := by
      rw [List.drop_eq_getElem_cons hlt] at h
      cases h
      rfl
    simp only [scanC]
    refine scan_found out nx room ts (i + 1) _ hts ?_ hlt
    subst ht
    cases hsk : skipC out nx room i (pool.getD i .nil) with
    | true =>
      simp only [cond_true]
      rcases hF with ⟨h1, h2⟩ | ⟨b, rfl, h1, h2, h3⟩
      · refine .inl ⟨h1, fun j hj => ?_⟩
        by_cases e : j = i
        · subst e; exact hsk
        · exact h2 j (by omega)
      · refine .inr ⟨b, rfl, by omega, h2, fun j hj hs => ?_⟩
        by_cases e : j = i
        · subst e; exact absurd (hs.symm.trans hsk) Bool.false_ne_true
        · exact h3 j (by omega) hs
    | false =>
      simp only [cond_false]
      rcases hF with ⟨h1, h2⟩ | ⟨b, rfl, h1, h2, h3⟩
      · have : (decide (best < 0) || betterC (pool.getD i .nil) (pool.getD best.toNat .nil)) = true := by simp [h1]
        rw [this]
        refine .inr ⟨i, rfl, by omega, hsk, fun j hj hs => ?_⟩
        by_cases e : j = i
        · subst e; exact ⟨Int.le_refl _, fun h => by omega⟩
        · exact absurd (hs.symm.trans (h2 j (by omega))) Bool.false_ne_true
      · have hbl : b < pool.length := by omega
        have hb0 : decide ((b : Int) < 0) = false := by simp
        rw [hb0, Bool.false_or, Int.toNat_natCast, better_eq O (getD_mem' hlt) (getD_mem' hbl)]
        by_cases hbt : paysC (pool.getD b .nil) * weightC (pool.getD i .nil) < paysC (pool.getD i .nil) * weightC (pool.getD b .nil)
        · rw [decide_eq_true hbt]
          refine .inr ⟨i, rfl, by omega, hsk, fun j hj hs => ?_⟩
          by_cases e : j = i
          · subst e; exact ⟨Int.le_refl _, fun h => by omega⟩
          · have h4 := (h3 j (by omega) hs).1
            have h5 := better_trans O (getD_mem' hlt) (getD_mem' hbl) (getD_mem' (show j < pool.length by omega)) h4 hbt
            exact ⟨by omega, fun _ => h5⟩
        · rw [decide_eq_false hbt]
          refine .inr ⟨b, rfl, by omega, h2, fun j hj hs => ?_⟩
          by_cases e : j = i
          · subst e; exact ⟨by omega, fun h => by omega⟩
          · exact h3 j (by omega) hs
theorem scan_best (out : List C) (nx : C → C) (room : Int) : Found pool (fun j => skipC out nx room j (pool.getD j .nil)) pool.length (scanC pool out nx room pool 0 (-1)) :=
  scan_found O out nx room pool 0 (-1) (by simp) (.inl ⟨by omega, fun j hj => by omega⟩) (Nat.zero_le _)
end
def sumIf (p : Nat → Bool) : List C → Nat → Int
  | [], _ => 0
  | t :: ts, i => (bif p i then weightC t else 0) + sumIf p ts (i + 1)
theorem sumIf_le {p q : Nat → Bool} : ∀ (l : List C) (i : Nat), (∀ t ∈ l, 0 ≤ weightC t) → (∀ j, p j = true → q j = true) → sumIf p l i ≤ sumIf q l i
  | [], i, _, _ => by simp [sumIf]
  | t :: ts, i, h1, h2 => by
    have ih := sumIf_le ts (i + 1) (fun x hx => h1 x (by simp [hx])) h2
    have := h1 t (by simp)
    simp only [sumIf]
    cases hp : p i with
    | true => rw [h2 i hp]; simp only [cond_true]; omega
    | false => cases hq : q i <;> simp only [cond_true, cond_false] <;> omega
theorem sumIf_same {p q : Nat → Bool} : ∀ (l : List C) (i : Nat), (∀ j, i ≤ j → p j = q j) → sumIf p l i = sumIf q l i
  | [], i, _ => rfl
  | t :: ts, i, h => by
    simp only [sumIf]
    rw [h i (Nat.le_refl _), sumIf_same ts (i + 1) fun j hj => h j (by omega)]
theorem sumIf_add {p q : Nat → Bool} {r : Nat} (hq : ∀ j, q j = (p j || j == r)) (hp : p r = false) : ∀ (l : List C) (i : Nat), i ≤ r → r < i + l.length → sumIf q l i = sumIf p l i + weightC (l.getD (r - i) .nil)
  | [], i, h1, h2 => by simp at h2; omega
  | t :: ts, i, h1, h2 => by
    simp only [sumIf]
    by_cases e : r = i
    · subst e
      have : q r = true := by rw [hq]; simp
      rw [this, hp, sumIf_same (p := q) (q := p) ts (r + 1) fun j hj => by rw [hq]; simp; omega]
      simp only [cond_true, cond_false, Nat.sub_self, List.getD_cons_zero]
      omega
    · have e1 : q i = p i := by rw [hq]; simp; omega
      rw [e1, sumIf_add hq hp ts (i + 1) (by omega) (by simp at h2; omega), show r - i = (r - (i + 1)) + 1 by omega, List.getD_cons_succ]
      omega
theorem sumIf_bound {p : Nat → Bool} : ∀ (l : List C) (i : Nat), (∀ t ∈ l, 0 ≤ weightC t ∧ weightC t ≤ 29) → 0 ≤ sumIf p l i ∧ sumIf p l i ≤ 29 * l.length
  | [], i, _ => by simp [sumIf]
  | t :: ts, i, h => by
    have ih := sumIf_bound (p := p) ts (i + 1) (fun x hx => h x (by simp [hx]))
    have := h t (by simp)
    simp only [sumIf, List.length_cons]
    cases p i <;> simp only [cond_true, cond_false] <;> omega
def inB (out : List C) (j : Nat) : Bool := decide (0 ≤ findI out j 0)
theorem nexts_at (n : Nat) (next : List C) : ∀ (l : List C) (nx : C → C) (t : C), t ∈ l ∨ nx (t.get 1) = nextC n next (t.get 1).toInt → nexts n next l nx (t.get 1) = nextC n next (t.get 1).toInt
  | [], nx, t, h => by simpa [nexts] using h
  | x :: xs, nx, t, h => by
    simp only [nexts]
    refine nexts_at n next xs _ t ?_
    by_cases e : t.get 1 = x.get 1
    · right
      unfold updC
      rw [if_pos (C.eqb_iff.2 e), e]
    · rcases h with h | h
      · rcases List.mem_cons.1 h with rfl | h
        · exact absurd rfl e
        · exact .inl h
      · right
        unfold updC
        rw [if_neg (fun h => e (C.eqb_iff.1 h))]
        exact h
theorem pickC_prefix (pool : List C) : ∀ (f : Nat) (out : List C) (nx : C → C) (room : Int), ∃ rest, pickC pool f out nx room = out ++ rest
  | 0, out, nx, room => ⟨[], by simp [pickC]⟩
  | f + 1, out, nx, room => by
    simp only [pickC]
    split
    · exact ⟨[], by simp⟩
    · obtain ⟨rest, h⟩ := pickC_prefix pool f _ _ _
      rw [h]
      exact ⟨_, by rw [List.append_assoc]⟩
structure PickInv (pool : List C) (nx0 : C → C) (room0 : Int) (out : List C) (nx : C → C) (room : Int) : Prop where
  hroom : room = room0 - sumIf (inB out) pool 0
  hleast : 0 ≤ room
  acc : ∀ a, nx a = nx0 a ∨ ∃ j : Nat, j < pool.length ∧ inB out j = true ∧ (pool.getD j .nil).get 1 = a ∧ ((pool.getD j .nil).get 2).toInt = (nx0 a).toInt
theorem pickC_end {pool : List C} (O : PoolOk pool) {nx0 : C → C} {room0 : Int} (hr0 : room0 ≤ 2000) : ∀ (f : Nat) (out : List C) (nx : C → C) (room : Int), pool.length < f + countC pool.length out → PickInv pool nx0 room0 out nx room →
    ∃ nx' room', PickInv pool nx0 room0 (pickC pool f out nx room) nx' room' ∧ ∀ j, j < pool.length → skipC (pickC pool f out nx room) nx' room' j (pool.getD j .nil) = true
  | 0, out, nx, room, hf, I => by
    have := countC_le pool.length out
    omega
  | f + 1, out, nx, room, hf, I => by
    simp only [pickC]
    rcases scan_best O out nx room with ⟨h1, h2⟩ | ⟨b, h0, h1, h2, _⟩
    · rw [if_pos h1]
      exact ⟨nx, room, I, h2⟩
    · rw [if_neg (by omega), h0, Int.toNat_natCast]
      have hbm : pool.getD b .nil ∈ pool := getD_mem' h1
      obtain ⟨w1, w2⟩ := weight_range O hbm
      simp only [skipC, Bool.or_eq_false_iff, decide_eq_false_iff_not, Bool.not_eq_false', decide_eq_true_eq] at h2
      obtain ⟨h3, h4, h5⟩ := h2
      have hq : ∀ j, inB (out ++ [.int b]) j = (inB out j || j == b) := by
        intro j
        rw [Bool.eq_iff_iff]
        simp only [inB, Bool.or_eq_true, decide_eq_true_eq, beq_iff_eq, findI_append]
        omega
      have hpb : inB out b = false := by simp only [inB, decide_eq_false_iff_not]; exact h3
      have hs := sumIf_add hq hpb pool 0 (Nat.zero_le _) (by omega)
      rw [Nat.sub_zero] at hs
      have hI := I.hroom
      have hl := I.hleast
      have ewr : IntKind.i64.wrap (room - weightC (pool.getD b .nil)) = room - weightC (pool.getD b .nil) := by
        have hb := sumIf_bound (p := inB out) pool 0 (fun t ht => ⟨by have := (weight_range O ht).1; omega, (weight_range O ht).2⟩)
        exact IntWalk.i64_in _ (by omega)
      refine pickC_end O hr0 f _ _ _ ?_ ⟨by rw [ewr, hs, hI]; omega, by rw [ewr]; omega, fun a => ?_⟩
      · have := countC_more (m := pool.length) (out := out) (b := (b : Int)) (by omega) (by omega) (by omega)
        omega
      · have mono : ∀ j, inB out j = true → inB (out ++ [.int b]) j = true := fun j hj => by rw [hq, hj]; rfl
        by_cases e : a = (pool.getD b .nil).get 1
        · rcases I.acc a with h | ⟨j, j1, j2, j3, j4⟩
          · refine .inr ⟨b, h1, by rw [hq]; simp, e.symm, ?_⟩
            rw [h4, ← e, h]
          · exact .inr ⟨j, j1, mono j j2, j3, j4⟩
        · rcases I.acc a with h | ⟨j, j1, j2, j3, j4⟩
          · left
            unfold updC
            rw [if_neg (fun h => e (C.eqb_iff.1 h))]
            exact h
          · exact .inr ⟨j, j1, mono j j2, j3, j4⟩
section
variable {pool : List C} (O : PoolOk pool) {next : List C} {n : Nat} {room : Int}
noncomputable def picks (n : Nat) (next pool : List C) (room : Int) : List C := pickC pool (pool.length + 1) [] (nexts n next pool (fun _ => .int 0)) room
include O
theorem law_first {i : Nat} (hi : i < pool.length) (hn : ((pool.getD i .nil).get 2).toInt = (nextC n next ((pool.getD i .nil).get 1).toInt).toInt) (hw : ¬ room < weightC (pool.getD i .nil)) :
    ∃ (b : Nat) (rest : List C), picks n next pool room = .int b :: rest ∧ b < pool.length ∧
      paysC (pool.getD i .nil) * weightC (pool.getD b .nil) ≤ paysC (pool.getD b .nil) * weightC (pool.getD i .nil) ∧
      (i < b → paysC (pool.getD i .nil) * weightC (pool.getD b .nil) < paysC (pool.getD b .nil) * weightC (pool.getD i .nil)) := by
  have hsk : skipC [] (nexts n next pool (fun _ => .int 0)) room i (pool.getD i .nil) = false := by
    simp only [skipC, findI]
    rw [nexts_at n next pool _ _ (.inl (getD_mem' hi)), hn]
    rw [decide_eq_true rfl, decide_eq_false hw]
    rfl
  unfold picks
  simp only [pickC]
  rcases scan_best O [] (nexts n next pool (fun _ => .int 0)) room with ⟨h1, h2⟩ | ⟨b, h0, h1, h2, h3⟩
  · exact absurd (hsk.symm.trans (h2 i hi)) Bool.false_ne_true
  · rw [if_neg (by omega), h0]
    obtain ⟨rest, hr⟩ := pickC_prefix pool pool.length ([] ++ [.int b]) (updC (nexts n next pool (fun _ => .int 0)) ((pool.getD (b : Int).toNat .nil).get 1) (.int (IntKind.u64.wrap ((nexts n next pool (fun _ => .int 0) ((pool.getD (b : Int).toNat .nil).get 1)).toInt + 1)))) (IntKind.i64.wrap (room - weightC (pool.getD (b : Int).toNat .nil)))
    exact ⟨b, rest, hr, h1, h3 i hi hsk⟩
theorem law_all (hr : 0 ≤ room ∧ room ≤ 2000) (hall : sumIf (fun _ => true) pool 0 ≤ room) {i : Nat} (hi : i < pool.length) (hn : ((pool.getD i .nil).get 2).toInt = (nextC n next ((pool.getD i .nil).get 1).toInt).toInt) (hin : inB (picks n next pool room) i = false) :
    ∃ j, j < pool.length ∧ j ≠ i ∧ (pool.getD j .nil).get 1 = (pool.getD i .nil).get 1 ∧ ((pool.getD j .nil).get 2).toInt = ((pool.getD i .nil).get 2).toInt := by
  have s0 : sumIf (inB []) pool 0 = 0 := by
    have : ∀ (l : List C) (i : Nat), sumIf (inB []) l i = 0 := by
      intro l
      induction l with
      | nil => intro i; rfl
      | cons t ts ih => intro i; simp only [sumIf, ih, inB, findI]; simp
    exact this pool 0
  obtain ⟨nx', room', I, hs⟩ := pickC_end O hr.2 (pool.length + 1) [] (nexts n next pool (fun _ => .int 0)) room (by omega) ⟨by rw [s0]; omega, hr.1, fun a => .inl rfl⟩
  have h1 := hs i hi
  have I1 := I.hroom
  have hin' : inB (pickC pool (pool.length + 1) [] (nexts n next pool (fun _ => .int 0)) room) i = false := hin
  have h2 := sumIf_add (p := inB (pickC pool (pool.length + 1) [] (nexts n next pool (fun _ => .int 0)) room)) (q := fun j => inB (pickC pool (pool.length + 1) [] (nexts n next pool (fun _ => .int 0)) room) j || j == i) (fun j => rfl) hin' pool 0 (Nat.zero_le _) (by omega)
  have h3 := sumIf_le (p := fun j => inB (pickC pool (pool.length + 1) [] (nexts n next pool (fun _ => .int 0)) room) j || j == i) (q := fun _ => true) pool 0 (fun t ht => by have := (weight_range O ht).1; omega) (fun _ _ => rfl)
  rw [Nat.sub_zero] at h2
  have hw : ¬ room' < weightC (pool.getD i .nil) := by omega
  simp only [skipC, Bool.or_eq_true, decide_eq_true_eq, Bool.not_eq_true', decide_eq_false_iff_not] at h1
  have hnin : ¬ (0 : Int) ≤ findI (pickC pool (pool.length + 1) [] (nexts n next pool (fun _ => .int 0)) room) i 0 := by
    simpa only [inB, decide_eq_false_iff_not] using hin'
  have hne : ¬ ((pool.getD i .nil).get 2).toInt = (nx' ((pool.getD i .nil).get 1)).toInt := by
    rcases h1 with h1 | h1 | h1
    · exact absurd h1 hnin
    · exact h1
    · exact absurd h1 hw
  rcases I.acc ((pool.getD i .nil).get 1) with h | ⟨j, j1, j2, j3, j4⟩
  · rw [h, nexts_at n next pool _ _ (.inl (getD_mem' hi))] at hne
    exact absurd hn hne
  · refine ⟨j, j1, fun e => ?_, j3, ?_⟩
    · subst e; rw [hin'] at j2; cases j2
    · rw [j4, nexts_at n next pool _ _ (.inl (getD_mem' hi)), hn]
end
end Go.Proofs.YtajbalbnmaljnaaDoor

namespace Go.Proofs.YtajbalbnmaljnaaDoor
open Go Go.E
theorem poolF_from (least : C) : ∀ (l : List C) (i : Nat) (pool : List C), (∀ t ∈ pool, 0 ≤ (t.get 1).toInt ∧ (t.get 1).toInt < 3) → ∀ t ∈ poolF least l i pool, 0 ≤ (t.get 1).toInt ∧ (t.get 1).toInt < 3
  | [], _, pool, h => by simpa only [poolF] using h
  | t :: ts, i, pool, h => by
    simp only [poolF]
    split
    · exact h
    · refine poolF_from least ts (i + 1) _ fun x hx => ?_
      unfold subP at hx
      split at hx
      · rename_i he
        rcases List.mem_append.1 hx with h1 | h1
        · exact h x h1
        · have hxt : x = t := by simpa using h1
          subst hxt
          unfold subE at he
          split at he
          · omega
          · split at he
            · omega
            · rename_i h2
              omega
      · exact h x hx
end Go.Proofs.YtajbalbnmaljnaaDoor

namespace Go.Proofs.YtajbalbnmaljnaaDoor
open Go Go.E
set_option maxRecDepth 10000
set_option maxHeartbeats 4000000
set_option linter.unusedSimpArgs false
variable {gl : Nat → Option (Ty × C)}
def txC (a b : Int) : C := .agg [.int 0, .int 0, .int a, .int b, .int 0, .int 0, .int 0, zeroC (.arr 32 (.int .u8)), .agg [zeroC (.arr 2 (.arr 32 (.int .u8))), .int 0], .slice [], .agg [.agg [.int 0, .int 0, zeroC (.arr 2 (.int .u64)), zeroC (.arr 2 (.int .u64)), .slice []], zeroC (.arr 2 tSig2)]]
theorem txC_weight (a b : Int) : weightC (txC a b) = 1 := by
  simp [weightC, wt, txC, C.get, C.elems, C.toInt, weights]
theorem txC_from (a b : Int) : (txC a b).get 1 = .int 0 := rfl
theorem txC_nonce (a b : Int) : (txC a b).get 2 = .int a := rfl
theorem txC_fee (a b : Int) : (txC a b).get 3 = .int b := rfl
theorem toInt_int (a : Int) : (C.int a).toInt = a := rfl
theorem wrap_in {a : Int} (h : 0 ≤ a ∧ a ≤ 100) : IntKind.u64.wrap a = a := IntWalk.u64_in _ (by omega)
theorem wrap_ii {a : Int} (h : 0 ≤ a ∧ a ≤ 100) : IntKind.i64.wrap a = a := IntWalk.i64_in _ (by omega)
theorem upd_same (nx : C → C) (c v : C) : updC nx c v c = v := by unfold updC; rw [if_pos (C.eqb_refl c)]
theorem awake_picks : picks 2 [.int 0, .int 0] [txC 1 5, txC 0 1] 9 = [.int 1, .int 0] := by
  have w1 : IntKind.u64.wrap 1 = 1 := by decide
  have w2 : IntKind.u64.wrap 2 = 2 := by decide
  have w3 : IntKind.i64.wrap 8 = 8 := by decide
  have w4 : IntKind.i64.wrap 7 = 7 := by decide
  unfold picks
  simp only [List.length_cons, List.length_nil, pickC, scanC, skipC, findI, nexts, txC_from, txC_nonce, txC_weight, toInt_int, upd_same, nextC]
  simp [toInt_int, upd_same, txC_from, txC_nonce, txC_weight, findI, w1, w2, w3, w4]
theorem txC_fold (a b : Int) : C.agg [.int 0, .int 0, .int a, .int b, .int 0, .int 0, .int 0, zeroC (.arr 32 (.int .u8)), .agg [zeroC (.arr 2 (.arr 32 (.int .u8))), .int 0], .slice [], .agg [.agg [.int 0, .int 0, zeroC (.arr 2 (.int .u64)), zeroC (.arr 2 (.int .u64)), .slice []], zeroC (.arr 2 tSig2)]] = txC a b := rfl
theorem sub1 : subP 2 (.int 0) [] (txC 1 5) = [txC 1 5] := by
  simp [subP, subE, txC_from, txC_fee, toInt_int]
theorem sub2 : subP 2 (.int 0) [txC 1 5] (txC 0 1) = [txC 1 5, txC 0 1] := by
  simp [subP, subE, txC_from, txC_fee, toInt_int]
theorem awake_Pick (hg : GW gl) {A : Key → Option O} (T : CourtAt A (.l 7023) (.l 21023) (.l 40007) (.l 21021) (.l 28003) 2 none (some 2) [.int 9, .int 0] [.int 0, .int 0] (.int 0) (.int 0) (.int 0) [] [txC 1 5, txC 0 1] []) :
    DCalls (X0 gl) 6 [.ptr (.g (.l 7023)) [] tCourt, .d (.int .i64) (.int 9)] A (.ts 8 (.int .i64) [.int 1, .int 0]) [] := by
  have h := picker_Pick hg T 9
  rwa [show pickC [txC 1 5, txC 0 1] ([txC 1 5, txC 0 1].length + 1) [] (nexts 2 [.int 0, .int 0] [txC 1 5, txC 0 1] (fun _ => .int 0)) 9 = [.int 1, .int 0] from awake_picks] at h
theorem awake (hg : GW gl) (A : Key → Option O) : DCalls (X0 gl) 5 [] A (.d .bool (.bool true)) [] := by
  refine dcalls_intro (n := 34) (ok0 gl) Tryd.func5 rfl rfl (by simp) ?_
  intro A' hA
  refine dc_seq (dc_region (ok0 gl) [] (by kernel_rfl) ?_)
  simp only [go_sem, ↓gx_tt, ↓gx_tf, ↓gx_ft, ↓gx_ff, ↓gx_u2, ↓gk_tt, ↓gk_tf, ↓gk_ff, ↓gk_ft, reduceCtorEq, Nat.reduceEqDiff, ↓reduceIte, Nat.reduceAdd, Nat.reduceSub, Nat.reduceLT, Nat.reduceMul, Nat.reduceBEq, Int.reduceLE, Int.reduceLT, Int.reduceAdd, Int.reduceSub, Int.reduceToNat, Int.reduceNeg, Int.reduceMul, Nat.reduceLeDiff]
  refine dc_seq (dc_region (ok0 gl) [] (by kernel_rfl) (vc_n [()] ?_))
  simp only [go_sem, ↓gx_tt, ↓gx_tf, ↓gx_ft, ↓gx_ff, ↓gx_u2, ↓gk_tt, ↓gk_tf, ↓gk_ff, ↓gk_ft, reduceCtorEq, Nat.reduceEqDiff, ↓reduceIte, Nat.reduceAdd, Nat.reduceSub, Nat.reduceLT, Nat.reduceMul, Nat.reduceBEq, Int.reduceLE, Int.reduceLT, Int.reduceAdd, Int.reduceSub, Int.reduceToNat, Int.reduceNeg, Int.reduceMul, Nat.reduceLeDiff]
  refine ⟨rfl, fun y hy => by simp at hy; rcases hy with rfl | rfl <;> exact ⟨rfl, rfl⟩, ?_⟩
  refine vcR_op [(), (), (), (), (), (), (), (), ()] rfl ?_
  refine vcO_call _ (court_New _ [.int 9, .int 0] (.int 0) (by decide) (by decide) 9 (by decide)) rfl (by simp only [go_sem]) rfl ?_ ?_ ?_ ?_ ?_ <;> simp only [go_sem, ↓gx_tt, ↓gx_tf, ↓gx_ft, ↓gx_ff, ↓gx_u2, ↓gk_tt, ↓gk_tf, ↓gk_ff, ↓gk_ft, reduceCtorEq, Nat.reduceEqDiff, ↓reduceIte, Nat.reduceAdd, Nat.reduceSub, Nat.reduceLT, Nat.reduceMul, Nat.reduceBEq, Int.reduceLE, Int.reduceLT, Int.reduceAdd, Int.reduceSub, Int.reduceToNat, Int.reduceNeg, Int.reduceMul, Nat.reduceLeDiff, courtL]
  refine dc_seq (dc_seq (dc_region (ok0 gl) [] (by kernel_rfl) ?_))
  simp only [go_sem, ↓gx_tt, ↓gx_tf, ↓gx_ft, ↓gx_ff, ↓gx_u2, ↓gk_tt, ↓gk_tf, ↓gk_ff, ↓gk_ft, reduceCtorEq, Nat.reduceEqDiff, ↓reduceIte, Nat.reduceAdd, Nat.reduceSub, Nat.reduceLT, Nat.reduceMul, Nat.reduceBEq, Int.reduceLE, Int.reduceLT, Int.reduceAdd, Int.reduceSub, Int.reduceToNat, Int.reduceNeg, Int.reduceMul, Nat.reduceLeDiff]
  refine dc_cond _ rfl (fun h => by simp at h) (fun _ => dc_skip ?_)
  refine dc_seq (dc_region (ok0 gl) [] (by kernel_rfl) (vc_n [(), ()] ?_))
  simp only [go_sem, ↓gx_tt, ↓gx_tf, ↓gx_ft, ↓gx_ff, ↓gx_u2, ↓gk_tt, ↓gk_tf, ↓gk_ff, ↓gk_ft, reduceCtorEq, Nat.reduceEqDiff, ↓reduceIte, Nat.reduceAdd, Nat.reduceSub, Nat.reduceLT, Nat.reduceMul, Nat.reduceBEq, Int.reduceLE, Int.reduceLT, Int.reduceAdd, Int.reduceSub, Int.reduceToNat, Int.reduceNeg, Int.reduceMul, Nat.reduceLeDiff]
  refine vcR_op [(), (), (), (), (), (), (), (), ()] rfl ?_
  refine vcO_call _ (court_Submit (⟨by simp only [go_sem, ↓gx_tt, ↓gx_tf, ↓gx_ft, ↓gx_ff, ↓gx_u2, ↓gk_tt, ↓gk_tf, ↓gk_ff, ↓gk_ft, reduceCtorEq, Nat.reduceEqDiff, ↓reduceIte, Nat.reduceAdd, Nat.reduceSub, Nat.reduceLT, Nat.reduceMul, Nat.reduceBEq, Int.reduceLE, Int.reduceLT, Int.reduceAdd, Int.reduceSub, Int.reduceToNat, Int.reduceNeg, Int.reduceMul, Nat.reduceLeDiff], ⟨by simp only [go_sem, ↓gx_tt, ↓gx_tf, ↓gx_ft, ↓gx_ff, ↓gx_u2, ↓gk_tt, ↓gk_tf, ↓gk_ff, ↓gk_ft, reduceCtorEq, Nat.reduceEqDiff, ↓reduceIte, Nat.reduceAdd, Nat.reduceSub, Nat.reduceLT, Nat.reduceMul, Nat.reduceBEq, Int.reduceLE, Int.reduceLT, Int.reduceAdd, Int.reduceSub, Int.reduceToNat, Int.reduceNeg, Int.reduceMul, Nat.reduceLeDiff], by simp only [go_sem, ↓gx_tt, ↓gx_tf, ↓gx_ft, ↓gx_ff, ↓gx_u2, ↓gk_tt, ↓gk_tf, ↓gk_ff, ↓gk_ft, reduceCtorEq, Nat.reduceEqDiff, ↓reduceIte, Nat.reduceAdd, Nat.reduceSub, Nat.reduceLT, Nat.reduceMul, Nat.reduceBEq, Int.reduceLE, Int.reduceLT, Int.reduceAdd, Int.reduceSub, Int.reduceToNat, Int.reduceNeg, Int.reduceMul, Nat.reduceLeDiff], by simp only [go_sem, ↓gx_tt, ↓gx_tf, ↓gx_ft, ↓gx_ff, ↓gx_u2, ↓gk_tt, ↓gk_tf, ↓gk_ff, ↓gk_ft, reduceCtorEq, Nat.reduceEqDiff, ↓reduceIte, Nat.reduceAdd, Nat.reduceSub, Nat.reduceLT, Nat.reduceMul, Nat.reduceBEq, Int.reduceLE, Int.reduceLT, Int.reduceAdd, Int.reduceSub, Int.reduceToNat, Int.reduceNeg, Int.reduceMul, Nat.reduceLeDiff]⟩⟩ : CourtAt _ (.l 7023) (.l 21023) (.l 40007) (.l 21021) (.l 28003) 2 none (some 2) [.int 9, .int 0] [.int 0, .int 0] (.int 0) (.int 0) (.int 0) [] [] []) (by decide) (txC 1 5)) rfl (by simp only [go_sem]) rfl ?_ ?_ ?_ ?_ ?_ <;> simp only [go_sem, ↓gx_tt, ↓gx_tf, ↓gx_ft, ↓gx_ff, ↓gx_u2, ↓gk_tt, ↓gk_tf, ↓gk_ff, ↓gk_ft, reduceCtorEq, Nat.reduceEqDiff, ↓reduceIte, Nat.reduceAdd, Nat.reduceSub, Nat.reduceLT, Nat.reduceMul, Nat.reduceBEq, Int.reduceLE, Int.reduceLT, Int.reduceAdd, Int.reduceSub, Int.reduceToNat, Int.reduceNeg, Int.reduceMul, Nat.reduceLeDiff, txC_fold, sub1]
  refine dc_seq (dc_region (ok0 gl) [] (by kernel_rfl) (vc_n [(), ()] ?_))
  simp only [go_sem, ↓gx_tt, ↓gx_tf, ↓gx_ft, ↓gx_ff, ↓gx_u2, ↓gk_tt, ↓gk_tf, ↓gk_ff, ↓gk_ft, reduceCtorEq, Nat.reduceEqDiff, ↓reduceIte, Nat.reduceAdd, Nat.reduceSub, Nat.reduceLT, Nat.reduceMul, Nat.reduceBEq, Int.reduceLE, Int.reduceLT, Int.reduceAdd, Int.reduceSub, Int.reduceToNat, Int.reduceNeg, Int.reduceMul, Nat.reduceLeDiff]
  refine vcR_op [(), (), (), (), (), (), (), (), ()] rfl ?_
  refine vcO_call _ (court_Submit (⟨by simp only [go_sem, ↓gx_tt, ↓gx_tf, ↓gx_ft, ↓gx_ff, ↓gx_u2, ↓gk_tt, ↓gk_tf, ↓gk_ff, ↓gk_ft, reduceCtorEq, Nat.reduceEqDiff, ↓reduceIte, Nat.reduceAdd, Nat.reduceSub, Nat.reduceLT, Nat.reduceMul, Nat.reduceBEq, Int.reduceLE, Int.reduceLT, Int.reduceAdd, Int.reduceSub, Int.reduceToNat, Int.reduceNeg, Int.reduceMul, Nat.reduceLeDiff], ⟨by simp only [go_sem, ↓gx_tt, ↓gx_tf, ↓gx_ft, ↓gx_ff, ↓gx_u2, ↓gk_tt, ↓gk_tf, ↓gk_ff, ↓gk_ft, reduceCtorEq, Nat.reduceEqDiff, ↓reduceIte, Nat.reduceAdd, Nat.reduceSub, Nat.reduceLT, Nat.reduceMul, Nat.reduceBEq, Int.reduceLE, Int.reduceLT, Int.reduceAdd, Int.reduceSub, Int.reduceToNat, Int.reduceNeg, Int.reduceMul, Nat.reduceLeDiff], by simp only [go_sem, ↓gx_tt, ↓gx_tf, ↓gx_ft, ↓gx_ff, ↓gx_u2, ↓gk_tt, ↓gk_tf, ↓gk_ff, ↓gk_ft, reduceCtorEq, Nat.reduceEqDiff, ↓reduceIte, Nat.reduceAdd, Nat.reduceSub, Nat.reduceLT, Nat.reduceMul, Nat.reduceBEq, Int.reduceLE, Int.reduceLT, Int.reduceAdd, Int.reduceSub, Int.reduceToNat, Int.reduceNeg, Int.reduceMul, Nat.reduceLeDiff], by simp only [go_sem, ↓gx_tt, ↓gx_tf, ↓gx_ft, ↓gx_ff, ↓gx_u2, ↓gk_tt, ↓gk_tf, ↓gk_ff, ↓gk_ft, reduceCtorEq, Nat.reduceEqDiff, ↓reduceIte, Nat.reduceAdd, Nat.reduceSub, Nat.reduceLT, Nat.reduceMul, Nat.reduceBEq, Int.reduceLE, Int.reduceLT, Int.reduceAdd, Int.reduceSub, Int.reduceToNat, Int.reduceNeg, Int.reduceMul, Nat.reduceLeDiff]⟩⟩ : CourtAt _ (.l 7023) (.l 21023) (.l 40007) (.l 21021) (.l 28003) 2 none (some 2) [.int 9, .int 0] [.int 0, .int 0] (.int 0) (.int 0) (.int 0) [] [txC 1 5] []) (by decide) (txC 0 1)) rfl (by simp only [go_sem]) rfl ?_ ?_ ?_ ?_ ?_ <;> simp only [go_sem, ↓gx_tt, ↓gx_tf, ↓gx_ft, ↓gx_ff, ↓gx_u2, ↓gk_tt, ↓gk_tf, ↓gk_ff, ↓gk_ft, reduceCtorEq, Nat.reduceEqDiff, ↓reduceIte, Nat.reduceAdd, Nat.reduceSub, Nat.reduceLT, Nat.reduceMul, Nat.reduceBEq, Int.reduceLE, Int.reduceLT, Int.reduceAdd, Int.reduceSub, Int.reduceToNat, Int.reduceNeg, Int.reduceMul, Nat.reduceLeDiff, txC_fold, sub2]
  refine dc_seq (dc_region (ok0 gl) [] (by kernel_rfl) (vc_n [()] ?_))
  simp only [go_sem, ↓gx_tt, ↓gx_tf, ↓gx_ft, ↓gx_ff, ↓gx_u2, ↓gk_tt, ↓gk_tf, ↓gk_ff, ↓gk_ft, reduceCtorEq, Nat.reduceEqDiff, ↓reduceIte, Nat.reduceAdd, Nat.reduceSub, Nat.reduceLT, Nat.reduceMul, Nat.reduceBEq, Int.reduceLE, Int.reduceLT, Int.reduceAdd, Int.reduceSub, Int.reduceToNat, Int.reduceNeg, Int.reduceMul, Nat.reduceLeDiff]
  refine vcR_op [(), (), (), (), (), (), (), (), ()] rfl ?_
  refine vcO_call _ (awake_Pick hg ⟨by simp only [go_sem, ↓gx_tt, ↓gx_tf, ↓gx_ft, ↓gx_ff, ↓gx_u2, ↓gk_tt, ↓gk_tf, ↓gk_ff, ↓gk_ft, reduceCtorEq, Nat.reduceEqDiff, ↓reduceIte, Nat.reduceAdd, Nat.reduceSub, Nat.reduceLT, Nat.reduceMul, Nat.reduceBEq, Int.reduceLE, Int.reduceLT, Int.reduceAdd, Int.reduceSub, Int.reduceToNat, Int.reduceNeg, Int.reduceMul, Nat.reduceLeDiff], ⟨by simp only [go_sem, ↓gx_tt, ↓gx_tf, ↓gx_ft, ↓gx_ff, ↓gx_u2, ↓gk_tt, ↓gk_tf, ↓gk_ff, ↓gk_ft, reduceCtorEq, Nat.reduceEqDiff, ↓reduceIte, Nat.reduceAdd, Nat.reduceSub, Nat.reduceLT, Nat.reduceMul, Nat.reduceBEq, Int.reduceLE, Int.reduceLT, Int.reduceAdd, Int.reduceSub, Int.reduceToNat, Int.reduceNeg, Int.reduceMul, Nat.reduceLeDiff], by simp only [go_sem, ↓gx_tt, ↓gx_tf, ↓gx_ft, ↓gx_ff, ↓gx_u2, ↓gk_tt, ↓gk_tf, ↓gk_ff, ↓gk_ft, reduceCtorEq, Nat.reduceEqDiff, ↓reduceIte, Nat.reduceAdd, Nat.reduceSub, Nat.reduceLT, Nat.reduceMul, Nat.reduceBEq, Int.reduceLE, Int.reduceLT, Int.reduceAdd, Int.reduceSub, Int.reduceToNat, Int.reduceNeg, Int.reduceMul, Nat.reduceLeDiff], by simp only [go_sem, ↓gx_tt, ↓gx_tf, ↓gx_ft, ↓gx_ff, ↓gx_u2, ↓gk_tt, ↓gk_tf, ↓gk_ff, ↓gk_ft, reduceCtorEq, Nat.reduceEqDiff, ↓reduceIte, Nat.reduceAdd, Nat.reduceSub, Nat.reduceLT, Nat.reduceMul, Nat.reduceBEq, Int.reduceLE, Int.reduceLT, Int.reduceAdd, Int.reduceSub, Int.reduceToNat, Int.reduceNeg, Int.reduceMul, Nat.reduceLeDiff]⟩⟩) rfl (by simp only [go_sem]) rfl ?_ ?_ ?_ ?_ ?_ <;> simp only [go_sem, ↓gx_tt, ↓gx_tf, ↓gx_ft, ↓gx_ff, ↓gx_u2, ↓gk_tt, ↓gk_tf, ↓gk_ff, ↓gk_ft, reduceCtorEq, Nat.reduceEqDiff, ↓reduceIte, Nat.reduceAdd, Nat.reduceSub, Nat.reduceLT, Nat.reduceMul, Nat.reduceBEq, Int.reduceLE, Int.reduceLT, Int.reduceAdd, Int.reduceSub, Int.reduceToNat, Int.reduceNeg, Int.reduceMul, Nat.reduceLeDiff]
  have z2 : ((2 : Nat) : Int) = 2 := rfl
  refine dc_seq (dc_region (ok0 gl) [] (by kernel_rfl) ?_)
  simp only [go_sem, ↓gx_tt, ↓gx_tf, ↓gx_ft, ↓gx_ff, ↓gx_u2, ↓gk_tt, ↓gk_tf, ↓gk_ff, ↓gk_ft, reduceCtorEq, Nat.reduceEqDiff, ↓reduceIte, Nat.reduceAdd, Nat.reduceSub, Nat.reduceLT, Nat.reduceMul, Nat.reduceBEq, Int.reduceLE, Int.reduceLT, Int.reduceAdd, Int.reduceSub, Int.reduceToNat, Int.reduceNeg, Int.reduceMul, Nat.reduceLeDiff, z2]
  refine dc_ret ⟨.inr rfl, ?_⟩
  simp only [retOk, go_sem, ↓gx_tt, ↓gx_tf, ↓gx_ft, ↓gx_ff, ↓gx_u2, ↓gk_tt, ↓gk_tf, ↓gk_ff, ↓gk_ft, reduceCtorEq, Nat.reduceEqDiff, ↓reduceIte, Nat.reduceAdd, Nat.reduceSub, Nat.reduceLT, Nat.reduceMul, Nat.reduceBEq, Int.reduceLE, Int.reduceLT, Int.reduceAdd, Int.reduceSub, Int.reduceToNat, Int.reduceNeg, Int.reduceMul, Nat.reduceLeDiff, Tryd.f5] <;> try rfl
end Go.Proofs.YtajbalbnmaljnaaDoor

namespace Go.Proofs.YtajbalbnmaljnaaDoor
open Go Go.E
set_option maxRecDepth 10000
set_option maxHeartbeats 4000000
set_option linter.unusedSimpArgs false
variable {gl : Nat → Option (Ty × C)}
def weightG {R : Type} : OvG R := fun xs _ K => match xs with
  | [.d τ t] => if τ = tTx then K (.d (.int .i64) (.int (weightC t))) [] else none
  | _ => none
def betterG {R : Type} : OvG R := fun xs _ K => match xs with
  | [.d τ a, .d τ' b] => if τ = tTx ∧ τ' = tTx then K (.d .bool (.bool (betterC a b))) [] else none
  | _ => none
theorem weightG_ok {R : Type} : GOk (X0 gl) 10 (weightG (R := R)) := by
  intro xs A Kr r hr
  unfold weightG at hr
  split at hr
  · simp only [Option.ite_none_right_eq_some] at hr
    obtain ⟨rfl, hr⟩ := hr
    exact ⟨_, _, ref29_Weight A _, hr⟩
  · cases hr
theorem betterG_ok {R : Type} : GOk (X0 gl) 22 (betterG (R := R)) := by
  intro xs A Kr r hr
  unfold betterG at hr
  split at hr
  · simp only [Option.ite_none_right_eq_some] at hr
    obtain ⟨⟨rfl, rfl⟩, hr⟩ := hr
    exact ⟨_, _, ref29_Better A _ _, hr⟩
  · cases hr
def ovs29 (gl : Nat → Option (Ty × C)) : OvS (X0 gl) where
  g R := (10, weightG) :: (22, betterG) :: (ovs1 gl).g R
  ok R p hp := by
    rcases List.mem_cons.1 hp with rfl | hp
    · exact weightG_ok
    rcases List.mem_cons.1 hp with rfl | hp
    · exact betterG_ok
    exact (ovs1 gl).ok R p hp
section
variable {A : Key → Option O} {k kt k1 k2 kn : Key} {n : Nat} {cp1 cp2 : Option Nat} {has next : List C} {kept least height : C} {bonds pool events : List C}
theorem leA0 (A' : Key → Option O) : leA A0 A' := fun k o h => by cases h
def fromN (t : C) : Nat := (t.get 1).toInt.toNat
theorem getD_set_same {l : List C} {i : Nat} {x d : C} (h : i < l.length) : (l.set i x).getD i d = x := by
  simp [List.getD_eq_getElem?_getD, h]
theorem getD_set_ne {l : List C} {i j : Nat} {x d : C} (h : j ≠ i) : (l.set i x).getD j d = l.getD j d := by
  simp [List.getD_eq_getElem?_getD, List.getElem?_set_ne (Ne.symm h)]
theorem upd_at (nx : C → C) (c v : C) : updC nx c v c = v := by unfold updC; rw [if_pos (C.eqb_refl c)]
theorem upd_ne {nx : C → C} {c v c' : C} (h : c' ≠ c) : updC nx c v c' = nx c' := by unfold updC; rw [if_neg (fun e => h (C.eqb_iff.1 e))]
structure RefInv (n : Nat) (next pool : List C) (room : Int) (out pk nx : List C) (g : C → C) (rm : Int) (f : Nat) : Prop where
  pl : pk.length = pool.length
  pv : ∀ i, i < pool.length → pk.getD i .nil = .bool (decide (0 ≤ findI out i 0))
  nl : nx.length = n
  nv : ∀ t ∈ pool, nx.getD (fromN t) .nil = g (t.get 1)
  lf : pool.length < f + countC pool.length out
  lo : out.length = countC pool.length out
  eq : pickC pool f out g rm = pickC pool (pool.length + 1) [] (nexts n next pool (fun _ => .int 0)) room
noncomputable def refS (A : Key → Option O) (k : Key) (n m : Nat) (out pk nx : List C) (rm : Int) : S :=
  ⟨[(7, .sl 8 (.int .i64) out 73), (6, .sr (.l 25) [] 0 m (some m) 1 .bool), (5, .sr (.l 19) [] 0 n none 8 (.int .u64)), (4, .nilc), (0, .ptr (.g k) [] tCourt), (1, .d (.int .i64) (.int rm))],
   [(.l 25, .box (.d (.arr m .bool) (.agg pk))), (.l 19, .box (.d (.arr n (.int .u64)) (.agg nx)))], A, [(73, some out.length)]⟩
noncomputable def refS2 (A : Key → Option O) (k : Key) (n m : Nat) (out pk nx : List C) (rm b : Int) (i : Nat) : S :=
  ⟨[(9, .d (.int .i64) (.int i)), (8, .d (.int .i64) (.int b)), (7, .sl 8 (.int .i64) out 73), (6, .sr (.l 25) [] 0 m (some m) 1 .bool), (5, .sr (.l 19) [] 0 n none 8 (.int .u64)), (4, .nilc), (0, .ptr (.g k) [] tCourt), (1, .d (.int .i64) (.int rm))],
   [(.l 25, .box (.d (.arr m .bool) (.agg pk))), (.l 19, .box (.d (.arr n (.int .u64)) (.agg nx)))], A, [(73, some out.length)]⟩
theorem ref29_Pick (T : Court15At A k kt k1 k2 kn n cp1 cp2 has next kept least height bonds pool events) (room : Int) (hn : next.length = n) (hn0 : 0 < n) (hnn : n ≤ 16) (hpl : pool.length ≤ 60) (hpool : ∀ t ∈ pool, C.wf tTx t ∧ 0 ≤ (t.get 1).toInt ∧ (t.get 1).toInt < n) :
    DCalls (X0 gl) 7 [.ptr (.g k) [] tCourt, .d (.int .i64) (.int room)] A (.ts 8 (.int .i64) (pickC pool (pool.length + 1) [] (nexts n next pool (fun _ => .int 0)) room)) [] := by
  refine dcalls_intro (n := 118) (ok0 gl) Tryd.func7 rfl rfl (by simp) ?_
  intro A' hA
  have T := T.up hA
  have hc := T.c
  have ht := T.t.t
  have hx := T.t.x
  have e0 : List.take n (List.drop 0 next) = next := by rw [List.drop_zero, ← hn, List.take_length]
  refine dc_seq (dc_region (ok0 gl) [] (by kernel_rfl) ?_)
  simp only [go_sem, ↓gx_tt, ↓gx_tf, ↓gx_ft, ↓gx_ff, ↓gx_u2, ↓gk_tt, ↓gk_tf, ↓gk_ff, ↓gk_ft, reduceCtorEq, Nat.reduceEqDiff, ↓reduceIte, Nat.reduceAdd, Nat.reduceSub, Nat.reduceLT, Nat.reduceMul, Nat.reduceBEq, Int.reduceLE, Int.reduceLT, Int.reduceAdd, Int.reduceSub, Int.reduceToNat, Int.reduceNeg, Int.reduceMul, Nat.reduceLeDiff]
  refine dc_seq (dc_region (ok0 gl) [(19, 3)] (by kernel_rfl) ?_)
  simp only [go_sem, ↓gx_tt, ↓gx_tf, ↓gx_ft, ↓gx_ff, ↓gx_u2, ↓gk_tt, ↓gk_tf, ↓gk_ff, ↓gk_ft, reduceCtorEq, Nat.reduceEqDiff, ↓reduceIte, Nat.reduceAdd, Nat.reduceSub, Nat.reduceLT, Nat.reduceMul, Nat.reduceBEq, Int.reduceLE, Int.reduceLT, Int.reduceAdd, Int.reduceSub, Int.reduceToNat, Int.reduceNeg, Int.reduceMul, Nat.reduceLeDiff, hc, ht, hx, e0, hn]
  refine ⟨by intro e; subst e; simp at hn; omega, ?_⟩
  have ep : ((pool.length : Int)).toNat = pool.length := Int.toNat_natCast _
  refine dc_seq (dc_region (ok0 gl) [] (by kernel_rfl) ?_)
  simp only [go_sem, ↓gx_tt, ↓gx_tf, ↓gx_ft, ↓gx_ff, ↓gx_u2, ↓gk_tt, ↓gk_tf, ↓gk_ff, ↓gk_ft, reduceCtorEq, Nat.reduceEqDiff, ↓reduceIte, Nat.reduceAdd, Nat.reduceSub, Nat.reduceLT, Nat.reduceMul, Nat.reduceBEq, Int.reduceLE, Int.reduceLT, Int.reduceAdd, Int.reduceSub, Int.reduceToNat, Int.reduceNeg, Int.reduceMul, Nat.reduceLeDiff, hc, ep]
  refine ⟨by omega, by omega, by omega, by omega, ?_⟩
  refine dc_seq (dc_region (ok0 gl) [] (by kernel_rfl) ?_)
  simp only [go_sem, ↓gx_tt, ↓gx_tf, ↓gx_ft, ↓gx_ff, ↓gx_u2, ↓gk_tt, ↓gk_tf, ↓gk_ff, ↓gk_ft, reduceCtorEq, Nat.reduceEqDiff, ↓reduceIte, Nat.reduceAdd, Nat.reduceSub, Nat.reduceLT, Nat.reduceMul, Nat.reduceBEq, Int.reduceLE, Int.reduceLT, Int.reduceAdd, Int.reduceSub, Int.reduceToNat, Int.reduceNeg, Int.reduceMul, Nat.reduceLeDiff]
  have h0pk : ∀ i, i < pool.length → (List.replicate pool.length (C.bool false)).getD i .nil = .bool (decide (0 ≤ findI [] i 0)) := by
    intro i hi
    simp [findI, hi]
  have h0nx : ∀ t ∈ pool, next.getD (fromN t) .nil = nexts n next pool (fun _ => .int 0) (t.get 1) := by
    intro t hm
    rw [nexts_at n next pool _ t (.inl hm)]
    obtain ⟨_, h1, h2⟩ := hpool t hm
    unfold nextC fromN
    rw [if_neg (by omega)]
  refine DC.weak (weak_tok (t := 7) (u := 73) (eb := 8) (e := .int .i64) rfl (.inl (by simp only [go_sem, ↓gx_tt, ↓gx_tf, ↓gx_ft, ↓gx_ff, ↓gx_u2, ↓gk_tt, ↓gk_tf, ↓gk_ff, ↓gk_ft, reduceCtorEq, Nat.reduceEqDiff, ↓reduceIte, Nat.reduceAdd, Nat.reduceSub, Nat.reduceLT, Nat.reduceMul, Nat.reduceBEq, Int.reduceLE, Int.reduceLT, Int.reduceAdd, Int.reduceSub, Int.reduceToNat, Int.reduceNeg, Int.reduceMul, Nat.reduceLeDiff]))) ?_
  simp only [go_sem, ↓gx_tt, ↓gx_tf, ↓gx_ft, ↓gx_ff, ↓gx_u2, ↓gk_tt, ↓gk_tf, ↓gk_ff, ↓gk_ft, reduceCtorEq, Nat.reduceEqDiff, ↓reduceIte, Nat.reduceAdd, Nat.reduceSub, Nat.reduceLT, Nat.reduceMul, Nat.reduceBEq, Int.reduceLE, Int.reduceLT, Int.reduceAdd, Int.reduceSub, Int.reduceToNat, Int.reduceNeg, Int.reduceMul, Nat.reduceLeDiff]
  refine dc_block (dc_while (ι := List C × List C × List C × (C → C) × Int × Nat) (fun i => refS A' k n pool.length i.1 i.2.1 i.2.2.1 i.2.2.2.2.1) (fun i => pool.length + 1 - countC pool.length i.1)
    (fun i => RefInv n next pool room i.1 i.2.1 i.2.2.1 i.2.2.2.1 i.2.2.2.2.1 i.2.2.2.2.2) ([], List.replicate pool.length (C.bool false), next, nexts n next pool (fun _ => .int 0), room, pool.length + 1) ?_ ⟨by simp, h0pk, hn, h0nx, by simp only [countC_nil]; omega, by simp only [countC_nil]; rfl, rfl⟩ ?_)
  · refine weak_to rfl ?_ ?_ ?_ ?_ ?_ <;> simp only [go_sem, ↓gx_tt, ↓gx_tf, ↓gx_ft, ↓gx_ff, ↓gx_u2, ↓gk_tt, ↓gk_tf, ↓gk_ff, ↓gk_ft, reduceCtorEq, Nat.reduceEqDiff, ↓reduceIte, Nat.reduceAdd, Nat.reduceSub, Nat.reduceLT, Nat.reduceMul, Nat.reduceBEq, Int.reduceLE, Int.reduceLT, Int.reduceAdd, Int.reduceSub, Int.reduceToNat, Int.reduceNeg, Int.reduceMul, Nat.reduceLeDiff, refS]
  · rintro ⟨out, pk, nx, g, rm, f⟩ I
    simp only at I
    unfold refS
    refine dc_block (dc_seq (dc_region (ok0 gl) [] (by kernel_rfl) ?_))
    simp only [go_sem, ↓gx_tt, ↓gx_tf, ↓gx_ft, ↓gx_ff, ↓gx_u2, ↓gk_tt, ↓gk_tf, ↓gk_ff, ↓gk_ft, reduceCtorEq, Nat.reduceEqDiff, ↓reduceIte, Nat.reduceAdd, Nat.reduceSub, Nat.reduceLT, Nat.reduceMul, Nat.reduceBEq, Int.reduceLE, Int.reduceLT, Int.reduceAdd, Int.reduceSub, Int.reduceToNat, Int.reduceNeg, Int.reduceMul, Nat.reduceLeDiff]
    refine dc_seq (dc_seq (dc_region (ok0 gl) [] (by kernel_rfl) ?_))
    simp only [go_sem, ↓gx_tt, ↓gx_tf, ↓gx_ft, ↓gx_ff, ↓gx_u2, ↓gk_tt, ↓gk_tf, ↓gk_ff, ↓gk_ft, reduceCtorEq, Nat.reduceEqDiff, ↓reduceIte, Nat.reduceAdd, Nat.reduceSub, Nat.reduceLT, Nat.reduceMul, Nat.reduceBEq, Int.reduceLE, Int.reduceLT, Int.reduceAdd, Int.reduceSub, Int.reduceToNat, Int.reduceNeg, Int.reduceMul, Nat.reduceLeDiff]
    refine dc_block (dc_while (ι := Nat × Int) (fun i => refS2 A' k n pool.length out pk nx rm i.2 i.1) (fun i => pool.length - i.1)
      (fun i => i.1 ≤ pool.length ∧ (i.2 < 0 ∨ (0 ≤ i.2 ∧ i.2 < pool.length ∧ findI out i.2 0 < 0)) ∧ scanC pool out g rm (pool.drop i.1) i.1 i.2 = scanC pool out g rm pool 0 (-1)) (0, -1) ?_ ⟨Nat.zero_le _, .inl (by simp), rfl⟩ ?_)
    · refine weak_to rfl ?_ ?_ ?_ ?_ ?_ <;> simp only [go_sem, ↓gx_tt, ↓gx_tf, ↓gx_ft, ↓gx_ff, ↓gx_u2, ↓gk_tt, ↓gk_tf, ↓gk_ff, ↓gk_ft, reduceCtorEq, Nat.reduceEqDiff, ↓reduceIte, Nat.reduceAdd, Nat.reduceSub, Nat.reduceLT, Nat.reduceMul, Nat.reduceBEq, Int.reduceLE, Int.reduceLT, Int.reduceAdd, Int.reduceSub, Int.reduceToNat, Int.reduceNeg, Int.reduceMul, Nat.reduceLeDiff, refS2]
      rfl
    · rintro ⟨i, b⟩ ⟨hi, hb, hS⟩
      simp only at hi hb hS
      unfold refS2
      refine dc_seq (dc_seq (dc_region (ok0 gl) [] (by kernel_rfl) ?_))
      simp only [go_sem, ↓gx_tt, ↓gx_tf, ↓gx_ft, ↓gx_ff, ↓gx_u2, ↓gk_tt, ↓gk_tf, ↓gk_ff, ↓gk_ft, reduceCtorEq, Nat.reduceEqDiff, ↓reduceIte, Nat.reduceAdd, Nat.reduceSub, Nat.reduceLT, Nat.reduceMul, Nat.reduceBEq, Int.reduceLE, Int.reduceLT, Int.reduceAdd, Int.reduceSub, Int.reduceToNat, Int.reduceNeg, Int.reduceMul, Nat.reduceLeDiff, hc]
      refine dc_cond _ rfl (fun hlt => dc_skip ?_) (fun hge => dc_exit ?_)
      · have hlt : i < pool.length := by simpa using hlt
        have ei : ((i : Int).toNat) = i := Int.toNat_natCast i
        rw [scan_drop hlt] at hS
        have hmem : pool.getD i .nil ∈ pool := by rw [List.getD_eq_getElem?_getD, List.getElem?_eq_getElem hlt]; exact List.getElem_mem hlt
        obtain ⟨hw, hf0, hf1⟩ := hpool _ hmem
        refine dc_seq (dc_block (dc_seq (dc_region (ok0 gl) [] (by kernel_rfl) ?_)))
        simp only [go_sem, ↓gx_tt, ↓gx_tf, ↓gx_ft, ↓gx_ff, ↓gx_u2, ↓gk_tt, ↓gk_tf, ↓gk_ff, ↓gk_ft, reduceCtorEq, Nat.reduceEqDiff, ↓reduceIte, Nat.reduceAdd, Nat.reduceSub, Nat.reduceLT, Nat.reduceMul, Nat.reduceBEq, Int.reduceLE, Int.reduceLT, Int.reduceAdd, Int.reduceSub, Int.reduceToNat, Int.reduceNeg, Int.reduceMul, Nat.reduceLeDiff, hc, ei]
        refine ⟨by omega, by omega, ?_⟩
        generalize htt : pool.getD i .nil = t at *
        have hfn : (t.get 1).toInt.toNat < n := by omega
        have hnv : nx.getD (t.get 1).toInt.toNat .nil = g (t.get 1) := I.nv t hmem
        have hpv := I.pv i hlt
        by_cases h1 : 0 ≤ findI out i 0
        · have hsk : skipC out g rm i t = true := by simp only [skipC, h1, decide_true, Bool.true_or]
          rw [hsk] at hS
          rw [decide_eq_true h1] at hpv
          refine dc_seq (dc_seq (dc_drawn (ok0 gl) (mo gl) [] [0, 0, 0, 1, 0, 0, 1, 0, 0, 1, 0, 1, 0, 0, 0, 1, 1, 0, 0, 0] (by kernel_rfl) (by kernel_rfl) ?_))
          simp only [go_sem, ↓gx_tt, ↓gx_tf, ↓gx_ft, ↓gx_ff, ↓gx_u2, ↓gk_tt, ↓gk_tf, ↓gk_ff, ↓gk_ft, reduceCtorEq, Nat.reduceEqDiff, ↓reduceIte, Nat.reduceAdd, Nat.reduceSub, Nat.reduceLT, Nat.reduceMul, Nat.reduceBEq, Int.reduceLE, Int.reduceLT, Int.reduceAdd, Int.reduceSub, Int.reduceToNat, Int.reduceNeg, Int.reduceMul, Nat.reduceLeDiff, hpv, ei, Nat.zero_add]
          refine ⟨by omega, by omega, ?_⟩
          refine dc_cond _ rfl (fun _ => dc_exit ?_) (fun h => by simp at h)
          refine dc_region (ok0 gl) [] (by kernel_rfl) ?_
          simp only [go_sem, ↓gx_tt, ↓gx_tf, ↓gx_ft, ↓gx_ff, ↓gx_u2, ↓gk_tt, ↓gk_tf, ↓gk_ff, ↓gk_ft, reduceCtorEq, Nat.reduceEqDiff, ↓reduceIte, Nat.reduceAdd, Nat.reduceSub, Nat.reduceLT, Nat.reduceMul, Nat.reduceBEq, Int.reduceLE, Int.reduceLT, Int.reduceAdd, Int.reduceSub, Int.reduceToNat, Int.reduceNeg, Int.reduceMul, Nat.reduceLeDiff]
          refine ⟨(i + 1, b), ⟨hlt, hb, hS⟩, by simp only; omega, ?_⟩
          refine weak_to rfl ?_ ?_ ?_ ?_ ?_ <;> simp only [go_sem, ↓gx_tt, ↓gx_tf, ↓gx_ft, ↓gx_ff, ↓gx_u2, ↓gk_tt, ↓gk_tf, ↓gk_ff, ↓gk_ft, reduceCtorEq, Nat.reduceEqDiff, ↓reduceIte, Nat.reduceAdd, Nat.reduceSub, Nat.reduceLT, Nat.reduceMul, Nat.reduceBEq, Int.reduceLE, Int.reduceLT, Int.reduceAdd, Int.reduceSub, Int.reduceToNat, Int.reduceNeg, Int.reduceMul, Nat.reduceLeDiff, refS2]
          rw [IntWalk.i64_in _ (by omega)]; rfl
        · have h1' : findI out i 0 < 0 := by omega
          rw [decide_eq_false h1] at hpv
          by_cases h2 : (t.get 2).toInt = (g (t.get 1)).toInt
          · refine dc_seq (dc_seq (dc_drawn (ok0 gl) (mo gl) [] [0, 0, 0, 1, 0, 0, 1, 0, 0, 1, 0, 1, 0, 0, 0, 1, 1, 0, 0, 0] (by kernel_rfl) (by kernel_rfl) (vd_n [(), (), (), (), (), (), (), (), (), (), (), (), (), (), (), ()] ?_)))
            simp only [go_sem, ↓gx_tt, ↓gx_tf, ↓gx_ft, ↓gx_ff, ↓gx_u2, ↓gk_tt, ↓gk_tf, ↓gk_ff, ↓gk_ft, reduceCtorEq, Nat.reduceEqDiff, ↓reduceIte, Nat.reduceAdd, Nat.reduceSub, Nat.reduceLT, Nat.reduceMul, Nat.reduceBEq, Int.reduceLE, Int.reduceLT, Int.reduceAdd, Int.reduceSub, Int.reduceToNat, Int.reduceNeg, Int.reduceMul, Nat.reduceLeDiff, hpv, ei, Nat.zero_add, hnv, h2]
            refine ⟨by omega, by omega, by omega, by omega, ?_⟩
            refine vdR_guard [(), (), (), (), (), (), (), (), ()] false rfl rfl rfl (fun _ => ?_) (fun h => absurd rfl h)
            refine vdO_calli _ (ref29_Weight _ t) rfl rfl (by simp only [go_sem]) rfl ?_ rfl ?_ ?_ ?_ <;> simp only [go_sem, ↓gx_tt, ↓gx_tf, ↓gx_ft, ↓gx_ff, ↓gx_u2, ↓gk_tt, ↓gk_tf, ↓gk_ff, ↓gk_ft, reduceCtorEq, Nat.reduceEqDiff, ↓reduceIte, Nat.reduceAdd, Nat.reduceSub, Nat.reduceLT, Nat.reduceMul, Nat.reduceBEq, Int.reduceLE, Int.reduceLT, Int.reduceAdd, Int.reduceSub, Int.reduceToNat, Int.reduceNeg, Int.reduceMul, Nat.reduceLeDiff]
            refine dc_cond _ rfl (fun h3 => dc_exit ?_) (fun h3 => dc_skip ?_)
            · have h3 := of_decide_eq_true h3
              have hsk : skipC out g rm i t = true := by simp only [skipC, h3, decide_true, Bool.or_true]
              rw [hsk] at hS
              refine dc_region (ok0 gl) [] (by kernel_rfl) ?_
              simp only [go_sem, ↓gx_tt, ↓gx_tf, ↓gx_ft, ↓gx_ff, ↓gx_u2, ↓gk_tt, ↓gk_tf, ↓gk_ff, ↓gk_ft, reduceCtorEq, Nat.reduceEqDiff, ↓reduceIte, Nat.reduceAdd, Nat.reduceSub, Nat.reduceLT, Nat.reduceMul, Nat.reduceBEq, Int.reduceLE, Int.reduceLT, Int.reduceAdd, Int.reduceSub, Int.reduceToNat, Int.reduceNeg, Int.reduceMul, Nat.reduceLeDiff]
              refine ⟨(i + 1, b), ⟨hlt, hb, hS⟩, by simp only; omega, ?_⟩
              refine weak_to rfl ?_ ?_ ?_ ?_ ?_ <;> simp only [go_sem, ↓gx_tt, ↓gx_tf, ↓gx_ft, ↓gx_ff, ↓gx_u2, ↓gk_tt, ↓gk_tf, ↓gk_ff, ↓gk_ft, reduceCtorEq, Nat.reduceEqDiff, ↓reduceIte, Nat.reduceAdd, Nat.reduceSub, Nat.reduceLT, Nat.reduceMul, Nat.reduceBEq, Int.reduceLE, Int.reduceLT, Int.reduceAdd, Int.reduceSub, Int.reduceToNat, Int.reduceNeg, Int.reduceMul, Nat.reduceLeDiff, refS2]
              rw [IntWalk.i64_in _ (by omega)]; rfl
            · have h3 := of_decide_eq_false h3
              have hsk : skipC out g rm i t = false := by simp only [skipC, h1, h2, h3, decide_true, decide_false, Bool.not_true, Bool.or_false]
              rw [hsk] at hS
              by_cases h4 : b < 0
              · have hbt : (decide (b < 0) || betterC t (pool.getD b.toNat .nil)) = true := by simp only [h4, decide_true, Bool.true_or]
                rw [hbt] at hS
                refine dc_seq (dc_drawn (ok0 gl) (mo gl) [] [0, 0, 0, 1, 0, 0, 0, 1, 0, 0, 1, 1, 0] (by kernel_rfl) (by kernel_rfl) ?_)
                simp only [go_sem, ↓gx_tt, ↓gx_tf, ↓gx_ft, ↓gx_ff, ↓gx_u2, ↓gk_tt, ↓gk_tf, ↓gk_ff, ↓gk_ft, reduceCtorEq, Nat.reduceEqDiff, ↓reduceIte, Nat.reduceAdd, Nat.reduceSub, Nat.reduceLT, Nat.reduceMul, Nat.reduceBEq, Int.reduceLE, Int.reduceLT, Int.reduceAdd, Int.reduceSub, Int.reduceToNat, Int.reduceNeg, Int.reduceMul, Nat.reduceLeDiff, h4]
                refine dc_cond _ rfl (fun _ => ?_) (fun h => by simp at h)
                refine dc_region (ok0 gl) [] (by kernel_rfl) ?_
                simp only [go_sem, ↓gx_tt, ↓gx_tf, ↓gx_ft, ↓gx_ff, ↓gx_u2, ↓gk_tt, ↓gk_tf, ↓gk_ff, ↓gk_ft, reduceCtorEq, Nat.reduceEqDiff, ↓reduceIte, Nat.reduceAdd, Nat.reduceSub, Nat.reduceLT, Nat.reduceMul, Nat.reduceBEq, Int.reduceLE, Int.reduceLT, Int.reduceAdd, Int.reduceSub, Int.reduceToNat, Int.reduceNeg, Int.reduceMul, Nat.reduceLeDiff]
                refine dc_region (ok0 gl) [] (by kernel_rfl) ?_
                simp only [go_sem, ↓gx_tt, ↓gx_tf, ↓gx_ft, ↓gx_ff, ↓gx_u2, ↓gk_tt, ↓gk_tf, ↓gk_ff, ↓gk_ft, reduceCtorEq, Nat.reduceEqDiff, ↓reduceIte, Nat.reduceAdd, Nat.reduceSub, Nat.reduceLT, Nat.reduceMul, Nat.reduceBEq, Int.reduceLE, Int.reduceLT, Int.reduceAdd, Int.reduceSub, Int.reduceToNat, Int.reduceNeg, Int.reduceMul, Nat.reduceLeDiff]
                refine ⟨(i + 1, (i : Int)), ⟨hlt, .inr ⟨by simp only; omega, by simp only; omega, h1'⟩, hS⟩, by simp only; omega, ?_⟩
                refine weak_to rfl ?_ ?_ ?_ ?_ ?_ <;> simp only [go_sem, ↓gx_tt, ↓gx_tf, ↓gx_ft, ↓gx_ff, ↓gx_u2, ↓gk_tt, ↓gk_tf, ↓gk_ff, ↓gk_ft, reduceCtorEq, Nat.reduceEqDiff, ↓reduceIte, Nat.reduceAdd, Nat.reduceSub, Nat.reduceLT, Nat.reduceMul, Nat.reduceBEq, Int.reduceLE, Int.reduceLT, Int.reduceAdd, Int.reduceSub, Int.reduceToNat, Int.reduceNeg, Int.reduceMul, Nat.reduceLeDiff, refS2]
                rw [IntWalk.i64_in _ (by omega)]; rfl
              · have hb' : 0 ≤ b ∧ b < pool.length ∧ findI out b 0 < 0 := by
                  rcases hb with h | h
                  · omega
                  · exact h
                refine dc_seq (dc_drawn (ok0 gl) (mo gl) [] [0, 0, 0, 1, 0, 0, 0, 1, 0, 0, 1, 1, 0] (by kernel_rfl) (by kernel_rfl) (vd_n [(), (), (), (), (), (), (), (), (), (), ()] ?_))
                simp only [go_sem, ↓gx_tt, ↓gx_tf, ↓gx_ft, ↓gx_ff, ↓gx_u2, ↓gk_tt, ↓gk_tf, ↓gk_ff, ↓gk_ft, reduceCtorEq, Nat.reduceEqDiff, ↓reduceIte, Nat.reduceAdd, Nat.reduceSub, Nat.reduceLT, Nat.reduceMul, Nat.reduceBEq, Int.reduceLE, Int.reduceLT, Int.reduceAdd, Int.reduceSub, Int.reduceToNat, Int.reduceNeg, Int.reduceMul, Nat.reduceLeDiff, h4, hc]
                refine ⟨by omega, by omega, ?_⟩
                refine vdR_guard [()] false rfl rfl rfl (fun _ => ?_) (fun h => absurd rfl h)
                refine vdO_calli _ (ref29_Better _ t (pool.getD b.toNat .nil)) rfl rfl (by simp only [go_sem]) rfl ?_ rfl ?_ ?_ ?_ <;> simp only [go_sem, ↓gx_tt, ↓gx_tf, ↓gx_ft, ↓gx_ff, ↓gx_u2, ↓gk_tt, ↓gk_tf, ↓gk_ff, ↓gk_ft, reduceCtorEq, Nat.reduceEqDiff, ↓reduceIte, Nat.reduceAdd, Nat.reduceSub, Nat.reduceLT, Nat.reduceMul, Nat.reduceBEq, Int.reduceLE, Int.reduceLT, Int.reduceAdd, Int.reduceSub, Int.reduceToNat, Int.reduceNeg, Int.reduceMul, Nat.reduceLeDiff]
                refine dc_cond _ rfl (fun h5 => ?_) (fun h5 => dc_skip ?_)
                · have hbt : (decide (b < 0) || betterC t (pool.getD b.toNat .nil)) = true := by rw [h5]; exact Bool.or_true _
                  rw [hbt] at hS
                  refine dc_region (ok0 gl) [] (by kernel_rfl) ?_
                  simp only [go_sem, ↓gx_tt, ↓gx_tf, ↓gx_ft, ↓gx_ff, ↓gx_u2, ↓gk_tt, ↓gk_tf, ↓gk_ff, ↓gk_ft, reduceCtorEq, Nat.reduceEqDiff, ↓reduceIte, Nat.reduceAdd, Nat.reduceSub, Nat.reduceLT, Nat.reduceMul, Nat.reduceBEq, Int.reduceLE, Int.reduceLT, Int.reduceAdd, Int.reduceSub, Int.reduceToNat, Int.reduceNeg, Int.reduceMul, Nat.reduceLeDiff]
                  refine dc_region (ok0 gl) [] (by kernel_rfl) ?_
                  simp only [go_sem, ↓gx_tt, ↓gx_tf, ↓gx_ft, ↓gx_ff, ↓gx_u2, ↓gk_tt, ↓gk_tf, ↓gk_ff, ↓gk_ft, reduceCtorEq, Nat.reduceEqDiff, ↓reduceIte, Nat.reduceAdd, Nat.reduceSub, Nat.reduceLT, Nat.reduceMul, Nat.reduceBEq, Int.reduceLE, Int.reduceLT, Int.reduceAdd, Int.reduceSub, Int.reduceToNat, Int.reduceNeg, Int.reduceMul, Nat.reduceLeDiff]
                  refine ⟨(i + 1, (i : Int)), ⟨hlt, .inr ⟨by simp only; omega, by simp only; omega, h1'⟩, hS⟩, by simp only; omega, ?_⟩
                  refine weak_to rfl ?_ ?_ ?_ ?_ ?_ <;> simp only [go_sem, ↓gx_tt, ↓gx_tf, ↓gx_ft, ↓gx_ff, ↓gx_u2, ↓gk_tt, ↓gk_tf, ↓gk_ff, ↓gk_ft, reduceCtorEq, Nat.reduceEqDiff, ↓reduceIte, Nat.reduceAdd, Nat.reduceSub, Nat.reduceLT, Nat.reduceMul, Nat.reduceBEq, Int.reduceLE, Int.reduceLT, Int.reduceAdd, Int.reduceSub, Int.reduceToNat, Int.reduceNeg, Int.reduceMul, Nat.reduceLeDiff, refS2]
                  rw [IntWalk.i64_in _ (by omega)]; rfl
                · have hbt : (decide (b < 0) || betterC t (pool.getD b.toNat .nil)) = false := by rw [h5]; simp only [h4, decide_false, Bool.or_false]
                  rw [hbt] at hS
                  refine dc_region (ok0 gl) [] (by kernel_rfl) ?_
                  simp only [go_sem, ↓gx_tt, ↓gx_tf, ↓gx_ft, ↓gx_ff, ↓gx_u2, ↓gk_tt, ↓gk_tf, ↓gk_ff, ↓gk_ft, reduceCtorEq, Nat.reduceEqDiff, ↓reduceIte, Nat.reduceAdd, Nat.reduceSub, Nat.reduceLT, Nat.reduceMul, Nat.reduceBEq, Int.reduceLE, Int.reduceLT, Int.reduceAdd, Int.reduceSub, Int.reduceToNat, Int.reduceNeg, Int.reduceMul, Nat.reduceLeDiff]
                  refine ⟨(i + 1, b), ⟨hlt, hb, hS⟩, by simp only; omega, ?_⟩
                  refine weak_to rfl ?_ ?_ ?_ ?_ ?_ <;> simp only [go_sem, ↓gx_tt, ↓gx_tf, ↓gx_ft, ↓gx_ff, ↓gx_u2, ↓gk_tt, ↓gk_tf, ↓gk_ff, ↓gk_ft, reduceCtorEq, Nat.reduceEqDiff, ↓reduceIte, Nat.reduceAdd, Nat.reduceSub, Nat.reduceLT, Nat.reduceMul, Nat.reduceBEq, Int.reduceLE, Int.reduceLT, Int.reduceAdd, Int.reduceSub, Int.reduceToNat, Int.reduceNeg, Int.reduceMul, Nat.reduceLeDiff, refS2]
                  rw [IntWalk.i64_in _ (by omega)]; rfl
          · have hsk : skipC out g rm i t = true := by simp only [skipC, h2, decide_false, Bool.not_false, Bool.true_or, Bool.or_true]
            rw [hsk] at hS
            refine dc_seq (dc_seq (dc_drawn (ok0 gl) (mo gl) [] [0, 0, 0, 1, 0, 0, 1, 0, 0, 1, 0, 1, 0, 0, 0, 1, 1, 0, 0, 0] (by kernel_rfl) (by kernel_rfl) ?_))
            simp only [go_sem, ↓gx_tt, ↓gx_tf, ↓gx_ft, ↓gx_ff, ↓gx_u2, ↓gk_tt, ↓gk_tf, ↓gk_ff, ↓gk_ft, reduceCtorEq, Nat.reduceEqDiff, ↓reduceIte, Nat.reduceAdd, Nat.reduceSub, Nat.reduceLT, Nat.reduceMul, Nat.reduceBEq, Int.reduceLE, Int.reduceLT, Int.reduceAdd, Int.reduceSub, Int.reduceToNat, Int.reduceNeg, Int.reduceMul, Nat.reduceLeDiff, hpv, ei, Nat.zero_add, hnv, h2]
            refine ⟨by omega, by omega, by omega, by omega, ?_⟩
            refine dc_cond _ rfl (fun _ => dc_exit ?_) (fun h => by simp at h)
            refine dc_region (ok0 gl) [] (by kernel_rfl) ?_
            simp only [go_sem, ↓gx_tt, ↓gx_tf, ↓gx_ft, ↓gx_ff, ↓gx_u2, ↓gk_tt, ↓gk_tf, ↓gk_ff, ↓gk_ft, reduceCtorEq, Nat.reduceEqDiff, ↓reduceIte, Nat.reduceAdd, Nat.reduceSub, Nat.reduceLT, Nat.reduceMul, Nat.reduceBEq, Int.reduceLE, Int.reduceLT, Int.reduceAdd, Int.reduceSub, Int.reduceToNat, Int.reduceNeg, Int.reduceMul, Nat.reduceLeDiff]
            refine ⟨(i + 1, b), ⟨hlt, hb, hS⟩, by simp only; omega, ?_⟩
            refine weak_to rfl ?_ ?_ ?_ ?_ ?_ <;> simp only [go_sem, ↓gx_tt, ↓gx_tf, ↓gx_ft, ↓gx_ff, ↓gx_u2, ↓gk_tt, ↓gk_tf, ↓gk_ff, ↓gk_ft, reduceCtorEq, Nat.reduceEqDiff, ↓reduceIte, Nat.reduceAdd, Nat.reduceSub, Nat.reduceLT, Nat.reduceMul, Nat.reduceBEq, Int.reduceLE, Int.reduceLT, Int.reduceAdd, Int.reduceSub, Int.reduceToNat, Int.reduceNeg, Int.reduceMul, Nat.reduceLeDiff, refS2]
            rw [IntWalk.i64_in _ (by omega)]; rfl
      · have hge : pool.length ≤ i := by simpa using hge
        rw [List.drop_eq_nil_of_le hge] at hS
        simp only [scanC] at hS
        refine dc_seq (dc_seq (dc_region (ok0 gl) [] (by kernel_rfl) ?_))
        simp only [go_sem, ↓gx_tt, ↓gx_tf, ↓gx_ft, ↓gx_ff, ↓gx_u2, ↓gk_tt, ↓gk_tf, ↓gk_ff, ↓gk_ft, reduceCtorEq, Nat.reduceEqDiff, ↓reduceIte, Nat.reduceAdd, Nat.reduceSub, Nat.reduceLT, Nat.reduceMul, Nat.reduceBEq, Int.reduceLE, Int.reduceLT, Int.reduceAdd, Int.reduceSub, Int.reduceToNat, Int.reduceNeg, Int.reduceMul, Nat.reduceLeDiff]
        refine dc_cond _ rfl (fun h5 => ?_) (fun h5 => dc_skip ?_)
        · have h5 := of_decide_eq_true h5
          have hR := I.eq
          generalize pickC pool (pool.length + 1) [] (nexts n next pool (fun _ => .int 0)) room = R0 at hR ⊢
          have hlf := I.lf
          have hcl := countC_le pool.length out
          obtain ⟨f, rfl⟩ : ∃ f', f = f' + 1 := ⟨f - 1, by omega⟩
          simp only [pickC, ← hS, if_pos h5] at hR
          refine dc_seq (dc_region (ok0 gl) [] (by kernel_rfl) ?_)
          simp only [go_sem, ↓gx_tt, ↓gx_tf, ↓gx_ft, ↓gx_ff, ↓gx_u2, ↓gk_tt, ↓gk_tf, ↓gk_ff, ↓gk_ft, reduceCtorEq, Nat.reduceEqDiff, ↓reduceIte, Nat.reduceAdd, Nat.reduceSub, Nat.reduceLT, Nat.reduceMul, Nat.reduceBEq, Int.reduceLE, Int.reduceLT, Int.reduceAdd, Int.reduceSub, Int.reduceToNat, Int.reduceNeg, Int.reduceMul, Nat.reduceLeDiff]
          refine dc_ret ⟨.inr rfl, ?_⟩
          simp only [retOk, go_sem, ↓gx_tt, ↓gx_tf, ↓gx_ft, ↓gx_ff, ↓gx_u2, ↓gk_tt, ↓gk_tf, ↓gk_ff, ↓gk_ft, reduceCtorEq, Nat.reduceEqDiff, ↓reduceIte, Nat.reduceAdd, Nat.reduceSub, Nat.reduceLT, Nat.reduceMul, Nat.reduceBEq, Int.reduceLE, Int.reduceLT, Int.reduceAdd, Int.reduceSub, Int.reduceToNat, Int.reduceNeg, Int.reduceMul, Nat.reduceLeDiff, Tryd.f7] <;> try rfl
          rw [← hR]
          exact ⟨rfl, rfl⟩
        · have h5 := of_decide_eq_false h5
          have hb' : 0 ≤ b ∧ b < pool.length ∧ findI out b 0 < 0 := by
            rcases hb with h | h
            · omega
            · exact h
          have hR := I.eq
          generalize hR0 : pickC pool (pool.length + 1) [] (nexts n next pool (fun _ => .int 0)) room = R0 at hR
          have hlf := I.lf
          have hlo := I.lo
          have hpk := I.pl
          have hnl := I.nl
          have hcl := countC_le pool.length out
          have hcm := countC_more hb'.1 hb'.2.1 hb'.2.2
          have hcl2 := countC_le pool.length (out ++ [.int b])
          obtain ⟨f, rfl⟩ : ∃ f', f = f' + 1 := ⟨f - 1, by omega⟩
          simp only [pickC, ← hS, if_neg h5] at hR
          have hmb : pool.getD b.toNat .nil ∈ pool := by
            have : b.toNat < pool.length := by omega
            rw [List.getD_eq_getElem?_getD, List.getElem?_eq_getElem this]; exact List.getElem_mem this
          generalize htb : pool.getD b.toNat .nil = tb at *
          obtain ⟨hbw, hb0, hb1⟩ := hpool tb hmb
          have hbf : (tb.get 1).toInt.toNat < n := by omega
          have hbv : nx.getD (tb.get 1).toInt.toNat .nil = g (tb.get 1) := I.nv tb hmb
          refine dc_seq (dc_region (ok0 gl) [] (by kernel_rfl) ?_)
          simp only [go_sem, ↓gx_tt, ↓gx_tf, ↓gx_ft, ↓gx_ff, ↓gx_u2, ↓gk_tt, ↓gk_tf, ↓gk_ff, ↓gk_ft, reduceCtorEq, Nat.reduceEqDiff, ↓reduceIte, Nat.reduceAdd, Nat.reduceSub, Nat.reduceLT, Nat.reduceMul, Nat.reduceBEq, Int.reduceLE, Int.reduceLT, Int.reduceAdd, Int.reduceSub, Int.reduceToNat, Int.reduceNeg, Int.reduceMul, Nat.reduceLeDiff, Nat.zero_add]
          refine ⟨by omega, by omega, rfl, ?_⟩
          refine dc_seq (dc_region (ok0 gl) [] (by kernel_rfl) ?_)
          simp only [go_sem, ↓gx_tt, ↓gx_tf, ↓gx_ft, ↓gx_ff, ↓gx_u2, ↓gk_tt, ↓gk_tf, ↓gk_ff, ↓gk_ft, reduceCtorEq, Nat.reduceEqDiff, ↓reduceIte, Nat.reduceAdd, Nat.reduceSub, Nat.reduceLT, Nat.reduceMul, Nat.reduceBEq, Int.reduceLE, Int.reduceLT, Int.reduceAdd, Int.reduceSub, Int.reduceToNat, Int.reduceNeg, Int.reduceMul, Nat.reduceLeDiff]
          refine ⟨rfl, fun x hx => ?_, by omega, by unfold maxLen; omega, ?_⟩
          · simp only [List.mem_singleton] at hx
            subst hx
            exact ⟨rfl, rfl⟩
          refine dc_seq (dc_region (ok0 gl) [] (by kernel_rfl) (vc_n [(), (), (), (), (), (), (), ()] ?_))
          simp only [go_sem, ↓gx_tt, ↓gx_tf, ↓gx_ft, ↓gx_ff, ↓gx_u2, ↓gk_tt, ↓gk_tf, ↓gk_ff, ↓gk_ft, reduceCtorEq, Nat.reduceEqDiff, ↓reduceIte, Nat.reduceAdd, Nat.reduceSub, Nat.reduceLT, Nat.reduceMul, Nat.reduceBEq, Int.reduceLE, Int.reduceLT, Int.reduceAdd, Int.reduceSub, Int.reduceToNat, Int.reduceNeg, Int.reduceMul, Nat.reduceLeDiff, hc, htb]
          refine ⟨by omega, by omega, ?_⟩
          refine vcR_op [(), (), (), (), (), (), (), (), ()] rfl ?_
          refine vcO_call _ (ref29_Weight _ tb) rfl (by simp only [go_sem]) rfl ?_ ?_ ?_ ?_ ?_ <;> simp only [go_sem, ↓gx_tt, ↓gx_tf, ↓gx_ft, ↓gx_ff, ↓gx_u2, ↓gk_tt, ↓gk_tf, ↓gk_ff, ↓gk_ft, reduceCtorEq, Nat.reduceEqDiff, ↓reduceIte, Nat.reduceAdd, Nat.reduceSub, Nat.reduceLT, Nat.reduceMul, Nat.reduceBEq, Int.reduceLE, Int.reduceLT, Int.reduceAdd, Int.reduceSub, Int.reduceToNat, Int.reduceNeg, Int.reduceMul, Nat.reduceLeDiff, htb]
          refine dc_drawn (ok0 gl) (mo gl) [] [0, 0, 0, 0, 1, 0, 0, 0, 1, 0, 0, 0, 0, 1, 0, 0, 0, 1, 0, 1, 0, 0, 2] (by kernel_rfl) (by kernel_rfl) ?_
          simp only [go_sem, ↓gx_tt, ↓gx_tf, ↓gx_ft, ↓gx_ff, ↓gx_u2, ↓gk_tt, ↓gk_tf, ↓gk_ff, ↓gk_ft, reduceCtorEq, Nat.reduceEqDiff, ↓reduceIte, Nat.reduceAdd, Nat.reduceSub, Nat.reduceLT, Nat.reduceMul, Nat.reduceBEq, Int.reduceLE, Int.reduceLT, Int.reduceAdd, Int.reduceSub, Int.reduceToNat, Int.reduceNeg, Int.reduceMul, Nat.reduceLeDiff, hc, htb, hbv, Nat.zero_add]
          refine ⟨by omega, by omega, by omega, by omega, by omega, by omega, by omega, by omega, rfl, ?_⟩
          refine ⟨(out ++ [.int b], pk.set b.toNat (.bool true), nx.set (tb.get 1).toInt.toNat (.int (IntKind.u64.wrap ((g (tb.get 1)).toInt + 1))), updC g (tb.get 1) (.int (IntKind.u64.wrap ((g (tb.get 1)).toInt + 1))), IntKind.i64.wrap (rm - weightC tb), f), ⟨by simp only [List.length_set]; exact hpk, ?_, by simp only [List.length_set]; exact hnl, ?_, by simp only; omega, by simp only [List.length_append, List.length_singleton]; omega, by simp only; rw [hR, hR0]⟩, by simp only; omega, ?_⟩
          · intro i hi
            simp only
            by_cases hib : i = b.toNat
            · subst hib
              rw [getD_set_same (by omega)]
              have : 0 ≤ findI (out ++ [.int b]) (b.toNat : Int) 0 := (findI_append out _ b).2 (.inr (by omega))
              rw [decide_eq_true this]
            · rw [getD_set_ne hib, I.pv i hi]
              congr 1
              rw [decide_eq_decide, findI_append]
              constructor
              · exact .inl
              · rintro (h | h)
                · exact h
                · omega
          · intro t' hm'
            simp only
            obtain ⟨hw', h0', h1'⟩ := hpool t' hm'
            by_cases he : t'.get 1 = tb.get 1
            · have : fromN t' = (tb.get 1).toInt.toNat := by unfold fromN; rw [he]
              rw [this, getD_set_same (by omega), he, upd_at]
            · have : fromN t' ≠ (tb.get 1).toInt.toNat := by
                unfold fromN
                intro e
                apply he
                have e1 := (C.wf_kid (i := 1) (f := .int .i64) hw' rfl rfl rfl).1
                have e2 := (C.wf_kid (i := 1) (f := .int .i64) hbw rfl rfl rfl).1
                rw [e1, e2]
                congr 1
                omega
              rw [getD_set_ne this, I.nv t' hm', upd_ne he]
          · refine weak_to rfl ?_ ?_ ?_ ?_ ?_ <;> simp only [go_sem, ↓gx_tt, ↓gx_tf, ↓gx_ft, ↓gx_ff, ↓gx_u2, ↓gk_tt, ↓gk_tf, ↓gk_ff, ↓gk_ft, reduceCtorEq, Nat.reduceEqDiff, ↓reduceIte, Nat.reduceAdd, Nat.reduceSub, Nat.reduceLT, Nat.reduceMul, Nat.reduceBEq, Int.reduceLE, Int.reduceLT, Int.reduceAdd, Int.reduceSub, Int.reduceToNat, Int.reduceNeg, Int.reduceMul, Nat.reduceLeDiff, refS, List.length_append, List.length_singleton]
end
end Go.Proofs.YtajbalbnmaljnaaDoor

namespace Go.Proofs.YtajbalbnmaljnaaDoor
open Go Go.E
set_option maxRecDepth 10000
set_option maxHeartbeats 4000000
set_option linter.unusedSimpArgs false
variable {gl : Nat → Option (Ty × C)}
def ordC (pool : List C) (p : C) : C := pool.getD p.toInt.toNat .nil
def roomC (pool : List C) : List C → Int → Int
  | [], s => s
  | p :: ps, s => roomC pool ps (IntKind.i64.wrap (s + weightC (ordC pool p)))
def leftC (pool : List C) : List C → Int → Int
  | [], s => s
  | p :: ps, s => leftC pool ps (IntKind.i64.wrap (s - weightC (ordC pool p)))
def worstC (pool : List C) : List C → C → C
  | [], w => w
  | p :: ps, w => worstC pool ps (bif betterC w (ordC pool p) then ordC pool p else w)
theorem room_drop {pool ps : List C} {i : Nat} {s : Int} (h : i < ps.length) : roomC pool (ps.drop i) s = roomC pool (ps.drop (i + 1)) (IntKind.i64.wrap (s + weightC (ordC pool (ps.getD i .nil)))) := by
  rw [List.drop_eq_getElem_cons h]
  simp only [roomC, List.getD_eq_getElem?_getD, List.getElem?_eq_getElem h, Option.getD_some]
theorem left_drop {pool ps : List C} {i : Nat} {s : Int} (h : i < ps.length) : leftC pool (ps.drop i) s = leftC pool (ps.drop (i + 1)) (IntKind.i64.wrap (s - weightC (ordC pool (ps.getD i .nil)))) := by
  rw [List.drop_eq_getElem_cons h]
  simp only [leftC, List.getD_eq_getElem?_getD, List.getElem?_eq_getElem h, Option.getD_some]
theorem worst_drop {pool ps : List C} {i : Nat} {w : C} (h : i < ps.length) : worstC pool (ps.drop i) w = worstC pool (ps.drop (i + 1)) (bif betterC w (ordC pool (ps.getD i .nil)) then ordC pool (ps.getD i .nil) else w) := by
  rw [List.drop_eq_getElem_cons h]
  simp only [worstC, List.getD_eq_getElem?_getD, List.getElem?_eq_getElem h, Option.getD_some]
def InPool (pool ps : List C) : Prop := ∀ p ∈ ps, 0 ≤ p.toInt ∧ p.toInt < pool.length
theorem InPool.at {pool ps : List C} (h : InPool pool ps) {i : Nat} (hi : i < ps.length) : 0 ≤ (ps.getD i .nil).toInt ∧ (ps.getD i .nil).toInt < pool.length := by
  refine h _ ?_
  rw [List.getD_eq_getElem?_getD, List.getElem?_eq_getElem hi]
  exact List.getElem_mem hi
theorem ord_mem {pool ps : List C} (h : InPool pool ps) {i : Nat} (hi : i < ps.length) : ordC pool (ps.getD i .nil) ∈ pool := by
  have := h.at hi
  exact getD_mem' (by omega)
theorem pickC_in {pool : List C} (O : PoolOk pool) : ∀ (f : Nat) (out : List C) (nx : C → C) (room : Int), InPool pool out → out.length = countC pool.length out → InPool pool (pickC pool f out nx room) ∧ (pickC pool f out nx room).length = countC pool.length (pickC pool f out nx room)
  | 0, out, nx, room, h1, h2 => ⟨h1, h2⟩
  | f + 1, out, nx, room, h1, h2 => by
    simp only [pickC]
    rcases scan_best O out nx room with ⟨h3, _⟩ | ⟨b, h0, h3, h4, _⟩
    · rw [if_pos h3]; exact ⟨h1, h2⟩
    · rw [if_neg (by omega), h0]
      simp only [skipC, Bool.or_eq_false_iff, decide_eq_false_iff_not] at h4
      refine pickC_in O f _ _ _ (fun p hp => ?_) ?_
      · rcases List.mem_append.1 hp with hp | hp
        · exact h1 p hp
        · have : p = .int b := by simpa using hp
          subst this
          simp only [C.toInt]
          omega
      · rw [List.length_append, List.length_singleton, h2, countC_more (by omega) (by omega) (by omega)]
section
variable {pool : List C} (O : PoolOk pool)
include O
theorem room_sum : ∀ (ps : List C) (s : Int), InPool pool ps → 0 ≤ s → s + 29 * ps.length ≤ 100000 → ∃ d : Int, 0 ≤ d ∧ d ≤ 29 * ps.length ∧ roomC pool ps s = s + d ∧ ∀ r : Int, 29 * ps.length - 100000 ≤ r → r ≤ 100000 → leftC pool ps r = r - d
  | [], s, _, _, _ => ⟨0, by simp, by simp, by simp [roomC], fun r _ _ => by simp [leftC]⟩
  | p :: ps, s, h, h0, h1 => by
    have hm : ordC pool p ∈ pool := by
      have := h p (by simp)
      exact getD_mem' (by omega)
    obtain ⟨w1, w2⟩ := weight_range O hm
    simp only [List.length_cons] at h1
    obtain ⟨d, d1, d2, d3, d4⟩ := room_sum ps (s + weightC (ordC pool p)) (fun q hq => h q (by simp [hq])) (by omega) (by omega)
    refine ⟨weightC (ordC pool p) + d, by omega, by simp only [List.length_cons]; omega, ?_, fun r hr1 hr2 => ?_⟩
    · simp only [roomC]
      rw [IntWalk.i64_in _ (by omega), d3]
      omega
    · simp only [leftC, List.length_cons] at hr1 ⊢
      rw [IntWalk.i64_in _ (by omega), d4 _ (by omega) (by omega)]
      omega
end
section
variable {A : Key → Option O} {k kt k1 k2 kn : Key} {n : Nat} {cp1 cp2 : Option Nat} {has next : List C} {kept least height : C} {bonds pool events : List C}
theorem court_Least (T : CourtAt A k kt k1 k2 kn n cp1 cp2 has next kept least height bonds pool events) : DCalls (X0 gl) 26 [.ptr (.g k) [] tCourt] A (.d (.int .u64) least) [] := by
  refine dcalls_intro (n := 9) (ok0 gl) Tryd.func26 rfl rfl (by simp) ?_
  intro A' hA
  have h := (T.up hA).c
  refine dc_seq (dc_region (ok0 gl) [] (by kernel_rfl) ?_)
  simp only [go_sem, ↓gx_tt, ↓gx_tf, ↓gx_ft, ↓gx_ff, ↓gx_u2, ↓gk_tt, ↓gk_tf, ↓gk_ff, ↓gk_ft, reduceCtorEq, Nat.reduceEqDiff, ↓reduceIte, Nat.reduceAdd, Nat.reduceSub, Nat.reduceLT, Nat.reduceMul, Nat.reduceBEq, Int.reduceLE, Int.reduceLT, Int.reduceAdd, Int.reduceSub, Int.reduceToNat, Int.reduceNeg, Int.reduceMul, Nat.reduceLeDiff]
  refine dc_seq (dc_seq (dc_region (ok0 gl) [] (by kernel_rfl) ?_))
  simp only [go_sem, ↓gx_tt, ↓gx_tf, ↓gx_ft, ↓gx_ff, ↓gx_u2, ↓gk_tt, ↓gk_tf, ↓gk_ff, ↓gk_ft, reduceCtorEq, Nat.reduceEqDiff, ↓reduceIte, Nat.reduceAdd, Nat.reduceSub, Nat.reduceLT, Nat.reduceMul, Nat.reduceBEq, Int.reduceLE, Int.reduceLT, Int.reduceAdd, Int.reduceSub, Int.reduceToNat, Int.reduceNeg, Int.reduceMul, Nat.reduceLeDiff]
  refine dc_cond _ rfl (fun h => by simp at h) (fun _ => dc_skip ?_)
  refine dc_seq (dc_region (ok0 gl) [] (by kernel_rfl) ?_)
  simp only [go_sem, ↓gx_tt, ↓gx_tf, ↓gx_ft, ↓gx_ff, ↓gx_u2, ↓gk_tt, ↓gk_tf, ↓gk_ff, ↓gk_ft, reduceCtorEq, Nat.reduceEqDiff, ↓reduceIte, Nat.reduceAdd, Nat.reduceSub, Nat.reduceLT, Nat.reduceMul, Nat.reduceBEq, Int.reduceLE, Int.reduceLT, Int.reduceAdd, Int.reduceSub, Int.reduceToNat, Int.reduceNeg, Int.reduceMul, Nat.reduceLeDiff, h]
  refine dc_ret ⟨.inr rfl, ?_⟩
  simp only [retOk, go_sem, ↓gx_tt, ↓gx_tf, ↓gx_ft, ↓gx_ff, ↓gx_u2, ↓gk_tt, ↓gk_tf, ↓gk_ff, ↓gk_ft, reduceCtorEq, Nat.reduceEqDiff, ↓reduceIte, Nat.reduceAdd, Nat.reduceSub, Nat.reduceLT, Nat.reduceMul, Nat.reduceBEq, Int.reduceLE, Int.reduceLT, Int.reduceAdd, Int.reduceSub, Int.reduceToNat, Int.reduceNeg, Int.reduceMul, Nat.reduceLeDiff, Tryd.f26, h] <;> try rfl
theorem picker_Room (hg : GW gl) (T : CourtAt A k kt k1 k2 kn n cp1 cp2 has next kept least height bonds pool events) (ps : List C) (hin : InPool pool ps) : DCalls (X0 gl) 25 [.ptr (.g k) [] tCourt, .d (.slice 8 (.int .i64)) (.slice ps)] A (.tup [.d (.int .i64) (.int (roomC pool ps 0)), .d (.int .i64) (.int 0)]) [] := by
  refine dcalls_intro (n := 35) (ok0 gl) Tryd.func25 rfl rfl (by simp) ?_
  intro A' hA
  have T := T.up hA
  refine dc_facts fun W => ?_
  have hl : ps.length ≤ 9223372036854775807 := (W.at (t := 1) rfl).2.2.1
  refine dc_seq (dc_region (ok0 gl) [] (by kernel_rfl) ?_)
  simp only [go_sem, ↓gx_tt, ↓gx_tf, ↓gx_ft, ↓gx_ff, ↓gx_u2, ↓gk_tt, ↓gk_tf, ↓gk_ff, ↓gk_ft, reduceCtorEq, Nat.reduceEqDiff, ↓reduceIte, Nat.reduceAdd, Nat.reduceSub, Nat.reduceLT, Nat.reduceMul, Nat.reduceBEq, Int.reduceLE, Int.reduceLT, Int.reduceAdd, Int.reduceSub, Int.reduceToNat, Int.reduceNeg, Int.reduceMul, Nat.reduceLeDiff]
  refine dc_seq (dc_region (ok0 gl) [] (by kernel_rfl) (vc_n [()] ?_))
  simp only [go_sem, ↓gx_tt, ↓gx_tf, ↓gx_ft, ↓gx_ff, ↓gx_u2, ↓gk_tt, ↓gk_tf, ↓gk_ff, ↓gk_ft, reduceCtorEq, Nat.reduceEqDiff, ↓reduceIte, Nat.reduceAdd, Nat.reduceSub, Nat.reduceLT, Nat.reduceMul, Nat.reduceBEq, Int.reduceLE, Int.reduceLT, Int.reduceAdd, Int.reduceSub, Int.reduceToNat, Int.reduceNeg, Int.reduceMul, Nat.reduceLeDiff]
  refine vcR_op [(), (), (), (), (), (), (), (), ()] rfl ?_
  refine vcO_call _ (court_Pool (T.upS (fun _ => rfl) rfl)) rfl (by simp only [go_sem]) rfl ?_ ?_ ?_ ?_ ?_ <;> simp only [go_sem, ↓gx_tt, ↓gx_tf, ↓gx_ft, ↓gx_ff, ↓gx_u2, ↓gk_tt, ↓gk_tf, ↓gk_ff, ↓gk_ft, reduceCtorEq, Nat.reduceEqDiff, ↓reduceIte, Nat.reduceAdd, Nat.reduceSub, Nat.reduceLT, Nat.reduceMul, Nat.reduceBEq, Int.reduceLE, Int.reduceLT, Int.reduceAdd, Int.reduceSub, Int.reduceToNat, Int.reduceNeg, Int.reduceMul, Nat.reduceLeDiff]
  refine dc_seq (dc_region (ok0 gl) [] (by kernel_rfl) ?_)
  simp only [go_sem, ↓gx_tt, ↓gx_tf, ↓gx_ft, ↓gx_ff, ↓gx_u2, ↓gk_tt, ↓gk_tf, ↓gk_ff, ↓gk_ft, reduceCtorEq, Nat.reduceEqDiff, ↓reduceIte, Nat.reduceAdd, Nat.reduceSub, Nat.reduceLT, Nat.reduceMul, Nat.reduceBEq, Int.reduceLE, Int.reduceLT, Int.reduceAdd, Int.reduceSub, Int.reduceToNat, Int.reduceNeg, Int.reduceMul, Nat.reduceLeDiff]
  refine dc_seq (dc_seq (dc_region (ok0 gl) [] (by kernel_rfl) ?_))
  simp only [go_sem, ↓gx_tt, ↓gx_tf, ↓gx_ft, ↓gx_ff, ↓gx_u2, ↓gk_tt, ↓gk_tf, ↓gk_ff, ↓gk_ft, reduceCtorEq, Nat.reduceEqDiff, ↓reduceIte, Nat.reduceAdd, Nat.reduceSub, Nat.reduceLT, Nat.reduceMul, Nat.reduceBEq, Int.reduceLE, Int.reduceLT, Int.reduceAdd, Int.reduceSub, Int.reduceToNat, Int.reduceNeg, Int.reduceMul, Nat.reduceLeDiff]
  refine dc_block (dc_while (ι := Nat × Int) (fun i => ⟨[(14, .d (.int .i64) (.int i.1)), (13, .d (.int .i64) (.int ps.length)), (12, .d (.slice 8 (.int .i64)) (.slice ps)), (7, .d (.int .i64) (.int i.2)), (6, .d (.slice 2368 tTx) (.slice pool)), (5, .d (.int .i64) (.int 0)), (4, .d (.int .i64) (.int 0))], [], A', []⟩) (fun i => ps.length - i.1)
    (fun i => i.1 ≤ ps.length ∧ roomC pool (ps.drop i.1) i.2 = roomC pool ps 0) (0, 0) ?_ ⟨Nat.zero_le _, rfl⟩ ?_)
  · refine weak_to rfl ?_ ?_ ?_ ?_ ?_ <;> simp only [go_sem, ↓gx_tt, ↓gx_tf, ↓gx_ft, ↓gx_ff, ↓gx_u2, ↓gk_tt, ↓gk_tf, ↓gk_ff, ↓gk_ft, reduceCtorEq, Nat.reduceEqDiff, ↓reduceIte, Nat.reduceAdd, Nat.reduceSub, Nat.reduceLT, Nat.reduceMul, Nat.reduceBEq, Int.reduceLE, Int.reduceLT, Int.reduceAdd, Int.reduceSub, Int.reduceToNat, Int.reduceNeg, Int.reduceMul, Nat.reduceLeDiff]
    rfl
  · rintro ⟨i, s⟩ ⟨hi, hS⟩
    simp only at hi hS
    refine dc_seq (dc_region (ok0 gl) [] (by kernel_rfl) ?_)
    simp only [go_sem, ↓gx_tt, ↓gx_tf, ↓gx_ft, ↓gx_ff, ↓gx_u2, ↓gk_tt, ↓gk_tf, ↓gk_ff, ↓gk_ft, reduceCtorEq, Nat.reduceEqDiff, ↓reduceIte, Nat.reduceAdd, Nat.reduceSub, Nat.reduceLT, Nat.reduceMul, Nat.reduceBEq, Int.reduceLE, Int.reduceLT, Int.reduceAdd, Int.reduceSub, Int.reduceToNat, Int.reduceNeg, Int.reduceMul, Nat.reduceLeDiff]
    refine dc_seq (dc_cond _ rfl (fun hlt => dc_skip ?_) (fun hge => dc_exit ?_))
    · have hlt : i < ps.length := by simpa using hlt
      have ei : ((i : Int).toNat) = i := Int.toNat_natCast i
      rw [room_drop hlt] at hS
      obtain ⟨p0, p1⟩ := hin.at hlt
      unfold ordC at hS
      generalize hp : ps.getD i .nil = p at *
      have q0 : ¬ p.toInt < 0 := by omega
      have q1 : ¬ (pool.length : Int) ≤ p.toInt := by omega
      refine dc_seq (dc_block (dc_seq (dc_region (ok0 gl) [] (by kernel_rfl) ?_)))
      simp only [go_sem, ↓gx_tt, ↓gx_tf, ↓gx_ft, ↓gx_ff, ↓gx_u2, ↓gk_tt, ↓gk_tf, ↓gk_ff, ↓gk_ft, reduceCtorEq, Nat.reduceEqDiff, ↓reduceIte, Nat.reduceAdd, Nat.reduceSub, Nat.reduceLT, Nat.reduceMul, Nat.reduceBEq, Int.reduceLE, Int.reduceLT, Int.reduceAdd, Int.reduceSub, Int.reduceToNat, Int.reduceNeg, Int.reduceMul, Nat.reduceLeDiff, ei, hp]
      refine ⟨by omega, by omega, ?_⟩
      refine dc_seq (dc_seq (dc_region (ok0 gl) [] (by kernel_rfl) ?_))
      simp only [go_sem, ↓gx_tt, ↓gx_tf, ↓gx_ft, ↓gx_ff, ↓gx_u2, ↓gk_tt, ↓gk_tf, ↓gk_ff, ↓gk_ft, reduceCtorEq, Nat.reduceEqDiff, ↓reduceIte, Nat.reduceAdd, Nat.reduceSub, Nat.reduceLT, Nat.reduceMul, Nat.reduceBEq, Int.reduceLE, Int.reduceLT, Int.reduceAdd, Int.reduceSub, Int.reduceToNat, Int.reduceNeg, Int.reduceMul, Nat.reduceLeDiff, q0, q1]
      refine dc_cond _ rfl (fun h => by simp at h) (fun _ => dc_skip ?_)
      refine dc_region (ok0 gl) [] (by kernel_rfl) (vc_n [(), (), (), (), ()] ?_)
      simp only [go_sem, ↓gx_tt, ↓gx_tf, ↓gx_ft, ↓gx_ff, ↓gx_u2, ↓gk_tt, ↓gk_tf, ↓gk_ff, ↓gk_ft, reduceCtorEq, Nat.reduceEqDiff, ↓reduceIte, Nat.reduceAdd, Nat.reduceSub, Nat.reduceLT, Nat.reduceMul, Nat.reduceBEq, Int.reduceLE, Int.reduceLT, Int.reduceAdd, Int.reduceSub, Int.reduceToNat, Int.reduceNeg, Int.reduceMul, Nat.reduceLeDiff]
      refine ⟨by omega, by omega, ?_⟩
      refine vcR_op [(), (), (), (), (), (), (), (), ()] rfl ?_
      refine vcO_call _ (weight hg _ (pool.getD p.toInt.toNat .nil)) rfl (by simp only [go_sem]) rfl ?_ ?_ ?_ ?_ ?_ <;> simp only [go_sem, ↓gx_tt, ↓gx_tf, ↓gx_ft, ↓gx_ff, ↓gx_u2, ↓gk_tt, ↓gk_tf, ↓gk_ff, ↓gk_ft, reduceCtorEq, Nat.reduceEqDiff, ↓reduceIte, Nat.reduceAdd, Nat.reduceSub, Nat.reduceLT, Nat.reduceMul, Nat.reduceBEq, Int.reduceLE, Int.reduceLT, Int.reduceAdd, Int.reduceSub, Int.reduceToNat, Int.reduceNeg, Int.reduceMul, Nat.reduceLeDiff]
      refine dc_region (ok0 gl) [] (by kernel_rfl) ?_
      simp only [go_sem, ↓gx_tt, ↓gx_tf, ↓gx_ft, ↓gx_ff, ↓gx_u2, ↓gk_tt, ↓gk_tf, ↓gk_ff, ↓gk_ft, reduceCtorEq, Nat.reduceEqDiff, ↓reduceIte, Nat.reduceAdd, Nat.reduceSub, Nat.reduceLT, Nat.reduceMul, Nat.reduceBEq, Int.reduceLE, Int.reduceLT, Int.reduceAdd, Int.reduceSub, Int.reduceToNat, Int.reduceNeg, Int.reduceMul, Nat.reduceLeDiff]
      refine ⟨(i + 1, IntKind.i64.wrap (s + weightC (pool.getD p.toInt.toNat .nil))), ⟨hlt, hS⟩, by simp only; omega, ?_⟩
      refine weak_to rfl ?_ ?_ ?_ ?_ ?_ <;> simp only [go_sem, ↓gx_tt, ↓gx_tf, ↓gx_ft, ↓gx_ff, ↓gx_u2, ↓gk_tt, ↓gk_tf, ↓gk_ff, ↓gk_ft, reduceCtorEq, Nat.reduceEqDiff, ↓reduceIte, Nat.reduceAdd, Nat.reduceSub, Nat.reduceLT, Nat.reduceMul, Nat.reduceBEq, Int.reduceLE, Int.reduceLT, Int.reduceAdd, Int.reduceSub, Int.reduceToNat, Int.reduceNeg, Int.reduceMul, Nat.reduceLeDiff]
      rw [IntWalk.i64_in ((i : Int) + 1) (by omega)]; rfl
    · have hge : ps.length ≤ i := by simpa using hge
      rw [List.drop_eq_nil_of_le hge] at hS
      simp only [roomC] at hS
      refine dc_seq (dc_region (ok0 gl) [] (by kernel_rfl) ?_)
      simp only [go_sem, ↓gx_tt, ↓gx_tf, ↓gx_ft, ↓gx_ff, ↓gx_u2, ↓gk_tt, ↓gk_tf, ↓gk_ff, ↓gk_ft, reduceCtorEq, Nat.reduceEqDiff, ↓reduceIte, Nat.reduceAdd, Nat.reduceSub, Nat.reduceLT, Nat.reduceMul, Nat.reduceBEq, Int.reduceLE, Int.reduceLT, Int.reduceAdd, Int.reduceSub, Int.reduceToNat, Int.reduceNeg, Int.reduceMul, Nat.reduceLeDiff]
      refine dc_ret ⟨.inr rfl, ?_⟩
      simp only [retOk, go_sem, ↓gx_tt, ↓gx_tf, ↓gx_ft, ↓gx_ff, ↓gx_u2, ↓gk_tt, ↓gk_tf, ↓gk_ff, ↓gk_ft, reduceCtorEq, Nat.reduceEqDiff, ↓reduceIte, Nat.reduceAdd, Nat.reduceSub, Nat.reduceLT, Nat.reduceMul, Nat.reduceBEq, Int.reduceLE, Int.reduceLT, Int.reduceAdd, Int.reduceSub, Int.reduceToNat, Int.reduceNeg, Int.reduceMul, Nat.reduceLeDiff, Tryd.f25, hS] <;> try rfl
def askI (pool picks : List C) (t : C) : Int := IntKind.u64.wrap (IntKind.u64.wrap ((IntKind.u64.wrap (paysC (worstC pool (picks.drop 1) (ordC pool (picks.getD 0 .nil))) * IntKind.u64.wrap (weightC t))).tdiv (IntKind.u64.wrap (weightC (worstC pool (picks.drop 1) (ordC pool (picks.getD 0 .nil)))))) + 1)
def askC (least : C) (pool picks : List C) (room : Int) (t : C) : C := if picks = [] ∨ IntKind.i64.wrap (roomC pool picks 0 + weightC t) ≤ room then least else .int (if least.toInt < askI pool picks t then askI pool picks t else least.toInt)
theorem worst_mem {pool : List C} : ∀ (ps : List C) (w : C), InPool pool ps → w ∈ pool → worstC pool ps w ∈ pool
  | [], w, _, h => h
  | p :: ps, w, h, hw => by
    simp only [worstC]
    refine worst_mem ps _ (fun q hq => h q (by simp [hq])) ?_
    cases betterC w (ordC pool p)
    · exact hw
    · have := h p (by simp)
      exact getD_mem' (by omega)
theorem picker_Ask (hg : GW gl) (T : CourtAt A k kt k1 k2 kn n cp1 cp2 has next kept least height bonds pool events) (O : PoolOk pool) (room : Int) (t : C) : DCalls (X0 gl) 11 [.ptr (.g k) [] tCourt, .d (.int .i64) (.int room), .d tTx t] A (.d (.int .u64) (askC least pool (picks n next pool room) room t)) [] := by
  have hpk := pickC_in O (pool.length + 1) [] (nexts n next pool (fun _ => .int 0)) room (fun p hp => by simp at hp) (by simp [countC_nil])
  refine dcalls_intro (n := 76) (ok0 gl) Tryd.func11 rfl rfl (by simp) ?_
  intro A' hA
  have T := T.up hA
  refine dc_seq (dc_region (ok0 gl) [] (by kernel_rfl) ?_)
  simp only [go_sem, ↓gx_tt, ↓gx_tf, ↓gx_ft, ↓gx_ff, ↓gx_u2, ↓gk_tt, ↓gk_tf, ↓gk_ff, ↓gk_ft, reduceCtorEq, Nat.reduceEqDiff, ↓reduceIte, Nat.reduceAdd, Nat.reduceSub, Nat.reduceLT, Nat.reduceMul, Nat.reduceBEq, Int.reduceLE, Int.reduceLT, Int.reduceAdd, Int.reduceSub, Int.reduceToNat, Int.reduceNeg, Int.reduceMul, Nat.reduceLeDiff]
  refine dc_seq (dc_region (ok0 gl) [] (by kernel_rfl) (vc_n [(), ()] ?_))
  simp only [go_sem, ↓gx_tt, ↓gx_tf, ↓gx_ft, ↓gx_ff, ↓gx_u2, ↓gk_tt, ↓gk_tf, ↓gk_ff, ↓gk_ft, reduceCtorEq, Nat.reduceEqDiff, ↓reduceIte, Nat.reduceAdd, Nat.reduceSub, Nat.reduceLT, Nat.reduceMul, Nat.reduceBEq, Int.reduceLE, Int.reduceLT, Int.reduceAdd, Int.reduceSub, Int.reduceToNat, Int.reduceNeg, Int.reduceMul, Nat.reduceLeDiff]
  refine vcR_op [(), (), (), (), (), (), (), (), ()] rfl ?_
  refine vcO_call _ (picker_Pick hg (T.upS (fun _ => rfl) rfl) room) rfl (by simp only [go_sem]) rfl ?_ ?_ ?_ ?_ ?_ <;> simp only [go_sem, ↓gx_tt, ↓gx_tf, ↓gx_ft, ↓gx_ff, ↓gx_u2, ↓gk_tt, ↓gk_tf, ↓gk_ff, ↓gk_ft, reduceCtorEq, Nat.reduceEqDiff, ↓reduceIte, Nat.reduceAdd, Nat.reduceSub, Nat.reduceLT, Nat.reduceMul, Nat.reduceBEq, Int.reduceLE, Int.reduceLT, Int.reduceAdd, Int.reduceSub, Int.reduceToNat, Int.reduceNeg, Int.reduceMul, Nat.reduceLeDiff]
  unfold picks
  generalize hps : pickC pool (pool.length + 1) [] (nexts n next pool (fun _ => .int 0)) room = ps at *
  refine dc_seq (dc_region (ok0 gl) [] (by kernel_rfl) (vc_n [(), ()] ?_))
  simp only [go_sem, ↓gx_tt, ↓gx_tf, ↓gx_ft, ↓gx_ff, ↓gx_u2, ↓gk_tt, ↓gk_tf, ↓gk_ff, ↓gk_ft, reduceCtorEq, Nat.reduceEqDiff, ↓reduceIte, Nat.reduceAdd, Nat.reduceSub, Nat.reduceLT, Nat.reduceMul, Nat.reduceBEq, Int.reduceLE, Int.reduceLT, Int.reduceAdd, Int.reduceSub, Int.reduceToNat, Int.reduceNeg, Int.reduceMul, Nat.reduceLeDiff]
  refine vcR_op [(), (), (), (), (), (), (), (), ()] rfl ?_
  refine vcO_call _ (picker_Room hg (T.upS (fun _ => rfl) rfl) ps hpk.1) rfl (by simp only [go_sem]) rfl ?_ ?_ ?_ ?_ ?_ <;> simp only [go_sem, ↓gx_tt, ↓gx_tf, ↓gx_ft, ↓gx_ff, ↓gx_u2, ↓gk_tt, ↓gk_tf, ↓gk_ff, ↓gk_ft, reduceCtorEq, Nat.reduceEqDiff, ↓reduceIte, Nat.reduceAdd, Nat.reduceSub, Nat.reduceLT, Nat.reduceMul, Nat.reduceBEq, Int.reduceLE, Int.reduceLT, Int.reduceAdd, Int.reduceSub, Int.reduceToNat, Int.reduceNeg, Int.reduceMul, Nat.reduceLeDiff]
  by_cases h1 : IntKind.i64.wrap (roomC pool ps 0 + weightC t) ≤ room
  · refine dc_seq (dc_seq (dc_region (ok0 gl) [] (by kernel_rfl) (vc_n [(), ()] ?_)))
    simp only [go_sem, ↓gx_tt, ↓gx_tf, ↓gx_ft, ↓gx_ff, ↓gx_u2, ↓gk_tt, ↓gk_tf, ↓gk_ff, ↓gk_ft, reduceCtorEq, Nat.reduceEqDiff, ↓reduceIte, Nat.reduceAdd, Nat.reduceSub, Nat.reduceLT, Nat.reduceMul, Nat.reduceBEq, Int.reduceLE, Int.reduceLT, Int.reduceAdd, Int.reduceSub, Int.reduceToNat, Int.reduceNeg, Int.reduceMul, Nat.reduceLeDiff]
    refine vcR_op [(), (), (), (), (), (), (), (), ()] rfl ?_
    refine vcO_call _ (weight hg _ t) rfl (by simp only [go_sem]) rfl ?_ ?_ ?_ ?_ ?_ <;> simp only [go_sem, ↓gx_tt, ↓gx_tf, ↓gx_ft, ↓gx_ff, ↓gx_u2, ↓gk_tt, ↓gk_tf, ↓gk_ff, ↓gk_ft, reduceCtorEq, Nat.reduceEqDiff, ↓reduceIte, Nat.reduceAdd, Nat.reduceSub, Nat.reduceLT, Nat.reduceMul, Nat.reduceBEq, Int.reduceLE, Int.reduceLT, Int.reduceAdd, Int.reduceSub, Int.reduceToNat, Int.reduceNeg, Int.reduceMul, Nat.reduceLeDiff, h1]
    refine dc_cond _ rfl (fun _ => ?_) (fun h => by simp at h)
    refine dc_seq (dc_region (ok0 gl) [] (by kernel_rfl) (vc_n [()] ?_))
    simp only [go_sem, ↓gx_tt, ↓gx_tf, ↓gx_ft, ↓gx_ff, ↓gx_u2, ↓gk_tt, ↓gk_tf, ↓gk_ff, ↓gk_ft, reduceCtorEq, Nat.reduceEqDiff, ↓reduceIte, Nat.reduceAdd, Nat.reduceSub, Nat.reduceLT, Nat.reduceMul, Nat.reduceBEq, Int.reduceLE, Int.reduceLT, Int.reduceAdd, Int.reduceSub, Int.reduceToNat, Int.reduceNeg, Int.reduceMul, Nat.reduceLeDiff]
    refine vcR_op [()] rfl ?_
    refine vcO_call _ (court_Least (T.upS (fun _ => rfl) rfl)) rfl (by simp only [go_sem]) rfl ?_ ?_ ?_ ?_ ?_ <;> simp only [go_sem, ↓gx_tt, ↓gx_tf, ↓gx_ft, ↓gx_ff, ↓gx_u2, ↓gk_tt, ↓gk_tf, ↓gk_ff, ↓gk_ft, reduceCtorEq, Nat.reduceEqDiff, ↓reduceIte, Nat.reduceAdd, Nat.reduceSub, Nat.reduceLT, Nat.reduceMul, Nat.reduceBEq, Int.reduceLE, Int.reduceLT, Int.reduceAdd, Int.reduceSub, Int.reduceToNat, Int.reduceNeg, Int.reduceMul, Nat.reduceLeDiff]
    refine dc_ret ⟨.inr rfl, ?_⟩
    simp only [retOk, go_sem, ↓gx_tt, ↓gx_tf, ↓gx_ft, ↓gx_ff, ↓gx_u2, ↓gk_tt, ↓gk_tf, ↓gk_ff, ↓gk_ft, reduceCtorEq, Nat.reduceEqDiff, ↓reduceIte, Nat.reduceAdd, Nat.reduceSub, Nat.reduceLT, Nat.reduceMul, Nat.reduceBEq, Int.reduceLE, Int.reduceLT, Int.reduceAdd, Int.reduceSub, Int.reduceToNat, Int.reduceNeg, Int.reduceMul, Nat.reduceLeDiff, Tryd.f11, askC, h1] <;> try rfl
  · by_cases h2 : ps = []
    · subst h2
      refine dc_seq (dc_seq (dc_region (ok0 gl) [] (by kernel_rfl) (vc_n [(), ()] ?_)))
      simp only [go_sem, ↓gx_tt, ↓gx_tf, ↓gx_ft, ↓gx_ff, ↓gx_u2, ↓gk_tt, ↓gk_tf, ↓gk_ff, ↓gk_ft, reduceCtorEq, Nat.reduceEqDiff, ↓reduceIte, Nat.reduceAdd, Nat.reduceSub, Nat.reduceLT, Nat.reduceMul, Nat.reduceBEq, Int.reduceLE, Int.reduceLT, Int.reduceAdd, Int.reduceSub, Int.reduceToNat, Int.reduceNeg, Int.reduceMul, Nat.reduceLeDiff]
      refine vcR_op [(), (), (), (), (), (), (), (), ()] rfl ?_
      refine vcO_call _ (weight hg _ t) rfl (by simp only [go_sem]) rfl ?_ ?_ ?_ ?_ ?_ <;> simp only [go_sem, ↓gx_tt, ↓gx_tf, ↓gx_ft, ↓gx_ff, ↓gx_u2, ↓gk_tt, ↓gk_tf, ↓gk_ff, ↓gk_ft, reduceCtorEq, Nat.reduceEqDiff, ↓reduceIte, Nat.reduceAdd, Nat.reduceSub, Nat.reduceLT, Nat.reduceMul, Nat.reduceBEq, Int.reduceLE, Int.reduceLT, Int.reduceAdd, Int.reduceSub, Int.reduceToNat, Int.reduceNeg, Int.reduceMul, Nat.reduceLeDiff, h1]
      refine dc_cond _ rfl (fun _ => ?_) (fun h => by simp at h)
      refine dc_seq (dc_region (ok0 gl) [] (by kernel_rfl) (vc_n [()] ?_))
      simp only [go_sem, ↓gx_tt, ↓gx_tf, ↓gx_ft, ↓gx_ff, ↓gx_u2, ↓gk_tt, ↓gk_tf, ↓gk_ff, ↓gk_ft, reduceCtorEq, Nat.reduceEqDiff, ↓reduceIte, Nat.reduceAdd, Nat.reduceSub, Nat.reduceLT, Nat.reduceMul, Nat.reduceBEq, Int.reduceLE, Int.reduceLT, Int.reduceAdd, Int.reduceSub, Int.reduceToNat, Int.reduceNeg, Int.reduceMul, Nat.reduceLeDiff]
      refine vcR_op [()] rfl ?_
      refine vcO_call _ (court_Least (T.upS (fun _ => rfl) rfl)) rfl (by simp only [go_sem]) rfl ?_ ?_ ?_ ?_ ?_ <;> simp only [go_sem, ↓gx_tt, ↓gx_tf, ↓gx_ft, ↓gx_ff, ↓gx_u2, ↓gk_tt, ↓gk_tf, ↓gk_ff, ↓gk_ft, reduceCtorEq, Nat.reduceEqDiff, ↓reduceIte, Nat.reduceAdd, Nat.reduceSub, Nat.reduceLT, Nat.reduceMul, Nat.reduceBEq, Int.reduceLE, Int.reduceLT, Int.reduceAdd, Int.reduceSub, Int.reduceToNat, Int.reduceNeg, Int.reduceMul, Nat.reduceLeDiff]
      refine dc_ret ⟨.inr rfl, ?_⟩
      simp only [retOk, go_sem, ↓gx_tt, ↓gx_tf, ↓gx_ft, ↓gx_ff, ↓gx_u2, ↓gk_tt, ↓gk_tf, ↓gk_ff, ↓gk_ft, reduceCtorEq, Nat.reduceEqDiff, ↓reduceIte, Nat.reduceAdd, Nat.reduceSub, Nat.reduceLT, Nat.reduceMul, Nat.reduceBEq, Int.reduceLE, Int.reduceLT, Int.reduceAdd, Int.reduceSub, Int.reduceToNat, Int.reduceNeg, Int.reduceMul, Nat.reduceLeDiff, Tryd.f11, askC] <;> try rfl
    · have h3 : ¬ ((ps.length : Int) = 0) := by
        intro h
        exact h2 (List.length_eq_zero_iff.1 (by omega))
      have hl0 : 0 < ps.length := by omega
      have hlp : ps.length ≤ 60 := by
        have := countC_le pool.length ps
        have := O.len
        omega
      have hq0 := hpk.1.at hl0
      have hpl := O.len
      have ew : worstC pool (ps.drop 1) (ordC pool (ps.getD 0 .nil)) ∈ pool := worst_mem _ _ (fun q hq => hpk.1 q (List.mem_of_mem_drop hq)) (ord_mem hpk.1 hl0)
      obtain ⟨ww1, ww2⟩ := weight_range O ew
      refine dc_seq (dc_seq (dc_region (ok0 gl) [] (by kernel_rfl) (vc_n [(), ()] ?_)))
      simp only [go_sem, ↓gx_tt, ↓gx_tf, ↓gx_ft, ↓gx_ff, ↓gx_u2, ↓gk_tt, ↓gk_tf, ↓gk_ff, ↓gk_ft, reduceCtorEq, Nat.reduceEqDiff, ↓reduceIte, Nat.reduceAdd, Nat.reduceSub, Nat.reduceLT, Nat.reduceMul, Nat.reduceBEq, Int.reduceLE, Int.reduceLT, Int.reduceAdd, Int.reduceSub, Int.reduceToNat, Int.reduceNeg, Int.reduceMul, Nat.reduceLeDiff]
      refine vcR_op [(), (), (), (), (), (), (), (), ()] rfl ?_
      refine vcO_call _ (weight hg _ t) rfl (by simp only [go_sem]) rfl ?_ ?_ ?_ ?_ ?_ <;> simp only [go_sem, ↓gx_tt, ↓gx_tf, ↓gx_ft, ↓gx_ff, ↓gx_u2, ↓gk_tt, ↓gk_tf, ↓gk_ff, ↓gk_ft, reduceCtorEq, Nat.reduceEqDiff, ↓reduceIte, Nat.reduceAdd, Nat.reduceSub, Nat.reduceLT, Nat.reduceMul, Nat.reduceBEq, Int.reduceLE, Int.reduceLT, Int.reduceAdd, Int.reduceSub, Int.reduceToNat, Int.reduceNeg, Int.reduceMul, Nat.reduceLeDiff, h1, h3]
      refine dc_cond _ rfl (fun h => by simp at h) (fun _ => dc_skip ?_)
      refine dc_seq (dc_region (ok0 gl) [] (by kernel_rfl) (vc_n [()] ?_))
      simp only [go_sem, ↓gx_tt, ↓gx_tf, ↓gx_ft, ↓gx_ff, ↓gx_u2, ↓gk_tt, ↓gk_tf, ↓gk_ff, ↓gk_ft, reduceCtorEq, Nat.reduceEqDiff, ↓reduceIte, Nat.reduceAdd, Nat.reduceSub, Nat.reduceLT, Nat.reduceMul, Nat.reduceBEq, Int.reduceLE, Int.reduceLT, Int.reduceAdd, Int.reduceSub, Int.reduceToNat, Int.reduceNeg, Int.reduceMul, Nat.reduceLeDiff]
      refine vcR_op [(), (), (), (), (), (), (), (), ()] rfl ?_
      refine vcO_call _ (court_Pool (T.upS (fun _ => rfl) rfl)) rfl (by simp only [go_sem]) rfl ?_ ?_ ?_ ?_ ?_ <;> simp only [go_sem, ↓gx_tt, ↓gx_tf, ↓gx_ft, ↓gx_ff, ↓gx_u2, ↓gk_tt, ↓gk_tf, ↓gk_ff, ↓gk_ft, reduceCtorEq, Nat.reduceEqDiff, ↓reduceIte, Nat.reduceAdd, Nat.reduceSub, Nat.reduceLT, Nat.reduceMul, Nat.reduceBEq, Int.reduceLE, Int.reduceLT, Int.reduceAdd, Int.reduceSub, Int.reduceToNat, Int.reduceNeg, Int.reduceMul, Nat.reduceLeDiff]
      refine dc_seq (dc_region (ok0 gl) [] (by kernel_rfl) ?_)
      simp only [go_sem, ↓gx_tt, ↓gx_tf, ↓gx_ft, ↓gx_ff, ↓gx_u2, ↓gk_tt, ↓gk_tf, ↓gk_ff, ↓gk_ft, reduceCtorEq, Nat.reduceEqDiff, ↓reduceIte, Nat.reduceAdd, Nat.reduceSub, Nat.reduceLT, Nat.reduceMul, Nat.reduceBEq, Int.reduceLE, Int.reduceLT, Int.reduceAdd, Int.reduceSub, Int.reduceToNat, Int.reduceNeg, Int.reduceMul, Nat.reduceLeDiff, Int.reduceEq]
      refine ⟨by omega, by omega, by omega, ?_⟩
      have en : ((ps.length : Int)).toNat = ps.length := Int.toNat_natCast _
      have et : List.take ps.length ps = ps := List.take_length
      refine dc_seq (dc_seq (dc_region (ok0 gl) [] (by kernel_rfl) ?_))
      simp only [go_sem, ↓gx_tt, ↓gx_tf, ↓gx_ft, ↓gx_ff, ↓gx_u2, ↓gk_tt, ↓gk_tf, ↓gk_ff, ↓gk_ft, reduceCtorEq, Nat.reduceEqDiff, ↓reduceIte, Nat.reduceAdd, Nat.reduceSub, Nat.reduceLT, Nat.reduceMul, Nat.reduceBEq, Int.reduceLE, Int.reduceLT, Int.reduceAdd, Int.reduceSub, Int.reduceToNat, Int.reduceNeg, Int.reduceMul, Nat.reduceLeDiff, en, et]
      refine ⟨by omega, by omega, ?_⟩
      have hqin : InPool pool (ps.drop 1) := fun q hq => hpk.1 q (List.mem_of_mem_drop hq)
      have hql : (ps.drop 1).length ≤ 60 := by simp; omega
      have hA0 : askC least pool ps room t = .int (if least.toInt < askI pool ps t then askI pool ps t else least.toInt) := by unfold askC; rw [if_neg (by simp only [not_or]; exact ⟨h2, h1⟩)]
      rw [hA0]
      have hm0 : ordC pool (ps.getD 0 .nil) ∈ pool := ord_mem hpk.1 hl0
      unfold askI
      rw [show pool.getD (ps.getD 0 .nil).toInt.toNat .nil = ordC pool (ps.getD 0 .nil) from rfl]
      generalize hw0 : ordC pool (ps.getD 0 .nil) = w0 at *
      generalize hqs : ps.drop 1 = qs at *
      refine dc_block (dc_while (ι := Nat × C) (fun i => ⟨[(47, .d (.int .i64) (.int i.1)), (46, .d (.int .i64) (.int qs.length)), (45, .d (.slice 8 (.int .i64)) (.slice qs)), (11, .ptr (.l 11) [] tTx), (10, .d (.slice 2368 tTx) (.slice pool)), (6, .d (.int .u64) (.int 0)), (5, .ptr (.l 5) [] tTx), (0, .ptr (.g k) [] tCourt)], [(.l 11, .box (.d tTx i.2)), (.l 5, .box (.d tTx t))], A', []⟩) (fun i => qs.length - i.1)
        (fun i => i.1 ≤ qs.length ∧ i.2 ∈ pool ∧ worstC pool (qs.drop i.1) i.2 = worstC pool qs w0) (0, w0) ?_ ⟨Nat.zero_le _, hm0, rfl⟩ ?_)
      · refine weak_to rfl ?_ ?_ ?_ ?_ ?_ <;> simp only [go_sem, ↓gx_tt, ↓gx_tf, ↓gx_ft, ↓gx_ff, ↓gx_u2, ↓gk_tt, ↓gk_tf, ↓gk_ff, ↓gk_ft, reduceCtorEq, Nat.reduceEqDiff, ↓reduceIte, Nat.reduceAdd, Nat.reduceSub, Nat.reduceLT, Nat.reduceMul, Nat.reduceBEq, Int.reduceLE, Int.reduceLT, Int.reduceAdd, Int.reduceSub, Int.reduceToNat, Int.reduceNeg, Int.reduceMul, Nat.reduceLeDiff]
        rfl
      · rintro ⟨i, w⟩ ⟨hi, hm, hS⟩
        simp only at hi hm hS
        refine dc_seq (dc_region (ok0 gl) [] (by kernel_rfl) ?_)
        simp only [go_sem, ↓gx_tt, ↓gx_tf, ↓gx_ft, ↓gx_ff, ↓gx_u2, ↓gk_tt, ↓gk_tf, ↓gk_ff, ↓gk_ft, reduceCtorEq, Nat.reduceEqDiff, ↓reduceIte, Nat.reduceAdd, Nat.reduceSub, Nat.reduceLT, Nat.reduceMul, Nat.reduceBEq, Int.reduceLE, Int.reduceLT, Int.reduceAdd, Int.reduceSub, Int.reduceToNat, Int.reduceNeg, Int.reduceMul, Nat.reduceLeDiff]
        refine dc_seq (dc_cond _ rfl (fun hlt => dc_skip ?_) (fun hge => dc_exit ?_))
        · have hlt : i < qs.length := by simpa using hlt
          have ei : ((i : Int).toNat) = i := Int.toNat_natCast i
          rw [worst_drop hlt] at hS
          obtain ⟨p0, p1⟩ := hqin.at hlt
          have hmq := ord_mem hqin hlt
          unfold ordC at hS hmq
          generalize hp : qs.getD i .nil = p at *
          refine dc_seq (dc_block (dc_seq (dc_region (ok0 gl) [] (by kernel_rfl) ?_)))
          simp only [go_sem, ↓gx_tt, ↓gx_tf, ↓gx_ft, ↓gx_ff, ↓gx_u2, ↓gk_tt, ↓gk_tf, ↓gk_ff, ↓gk_ft, reduceCtorEq, Nat.reduceEqDiff, ↓reduceIte, Nat.reduceAdd, Nat.reduceSub, Nat.reduceLT, Nat.reduceMul, Nat.reduceBEq, Int.reduceLE, Int.reduceLT, Int.reduceAdd, Int.reduceSub, Int.reduceToNat, Int.reduceNeg, Int.reduceMul, Nat.reduceLeDiff, ei, hp]
          refine ⟨by omega, by omega, ?_⟩
          refine dc_seq (dc_drawn (ok0 gl) (mo gl) [] [1, 0, 0, 0, 1, 1] (by kernel_rfl) (by kernel_rfl) (vd_n [(), (), (), (), ()] ?_))
          simp only [go_sem, ↓gx_tt, ↓gx_tf, ↓gx_ft, ↓gx_ff, ↓gx_u2, ↓gk_tt, ↓gk_tf, ↓gk_ff, ↓gk_ft, reduceCtorEq, Nat.reduceEqDiff, ↓reduceIte, Nat.reduceAdd, Nat.reduceSub, Nat.reduceLT, Nat.reduceMul, Nat.reduceBEq, Int.reduceLE, Int.reduceLT, Int.reduceAdd, Int.reduceSub, Int.reduceToNat, Int.reduceNeg, Int.reduceMul, Nat.reduceLeDiff]
          refine ⟨by omega, by omega, ?_⟩
          refine vdR_op [(), (), (), (), (), (), (), (), ()] rfl ?_
          refine vdO_calli _ (better hg _ w (pool.getD p.toInt.toNat .nil)) rfl rfl (by simp only [go_sem]) rfl ?_ rfl ?_ ?_ ?_ <;> simp only [go_sem, ↓gx_tt, ↓gx_tf, ↓gx_ft, ↓gx_ff, ↓gx_u2, ↓gk_tt, ↓gk_tf, ↓gk_ff, ↓gk_ft, reduceCtorEq, Nat.reduceEqDiff, ↓reduceIte, Nat.reduceAdd, Nat.reduceSub, Nat.reduceLT, Nat.reduceMul, Nat.reduceBEq, Int.reduceLE, Int.reduceLT, Int.reduceAdd, Int.reduceSub, Int.reduceToNat, Int.reduceNeg, Int.reduceMul, Nat.reduceLeDiff]
          refine dc_cond _ rfl (fun h5 => ?_) (fun h5 => dc_skip ?_)
          · rw [h5] at hS
            refine dc_region (ok0 gl) [] (by kernel_rfl) ?_
            simp only [go_sem, ↓gx_tt, ↓gx_tf, ↓gx_ft, ↓gx_ff, ↓gx_u2, ↓gk_tt, ↓gk_tf, ↓gk_ff, ↓gk_ft, reduceCtorEq, Nat.reduceEqDiff, ↓reduceIte, Nat.reduceAdd, Nat.reduceSub, Nat.reduceLT, Nat.reduceMul, Nat.reduceBEq, Int.reduceLE, Int.reduceLT, Int.reduceAdd, Int.reduceSub, Int.reduceToNat, Int.reduceNeg, Int.reduceMul, Nat.reduceLeDiff]
            refine ⟨by omega, by omega, ?_⟩
            refine dc_region (ok0 gl) [] (by kernel_rfl) ?_
            simp only [go_sem, ↓gx_tt, ↓gx_tf, ↓gx_ft, ↓gx_ff, ↓gx_u2, ↓gk_tt, ↓gk_tf, ↓gk_ff, ↓gk_ft, reduceCtorEq, Nat.reduceEqDiff, ↓reduceIte, Nat.reduceAdd, Nat.reduceSub, Nat.reduceLT, Nat.reduceMul, Nat.reduceBEq, Int.reduceLE, Int.reduceLT, Int.reduceAdd, Int.reduceSub, Int.reduceToNat, Int.reduceNeg, Int.reduceMul, Nat.reduceLeDiff]
            refine ⟨(i + 1, pool.getD p.toInt.toNat .nil), ⟨hlt, hmq, hS⟩, by simp only; omega, ?_⟩
            refine weak_to rfl ?_ ?_ ?_ ?_ ?_ <;> simp only [go_sem, ↓gx_tt, ↓gx_tf, ↓gx_ft, ↓gx_ff, ↓gx_u2, ↓gk_tt, ↓gk_tf, ↓gk_ff, ↓gk_ft, reduceCtorEq, Nat.reduceEqDiff, ↓reduceIte, Nat.reduceAdd, Nat.reduceSub, Nat.reduceLT, Nat.reduceMul, Nat.reduceBEq, Int.reduceLE, Int.reduceLT, Int.reduceAdd, Int.reduceSub, Int.reduceToNat, Int.reduceNeg, Int.reduceMul, Nat.reduceLeDiff]
            rw [IntWalk.i64_in ((i : Int) + 1) (by omega)]; rfl
          · rw [h5] at hS
            refine dc_region (ok0 gl) [] (by kernel_rfl) ?_
            simp only [go_sem, ↓gx_tt, ↓gx_tf, ↓gx_ft, ↓gx_ff, ↓gx_u2, ↓gk_tt, ↓gk_tf, ↓gk_ff, ↓gk_ft, reduceCtorEq, Nat.reduceEqDiff, ↓reduceIte, Nat.reduceAdd, Nat.reduceSub, Nat.reduceLT, Nat.reduceMul, Nat.reduceBEq, Int.reduceLE, Int.reduceLT, Int.reduceAdd, Int.reduceSub, Int.reduceToNat, Int.reduceNeg, Int.reduceMul, Nat.reduceLeDiff]
            refine ⟨(i + 1, w), ⟨hlt, hm, hS⟩, by simp only; omega, ?_⟩
            refine weak_to rfl ?_ ?_ ?_ ?_ ?_ <;> simp only [go_sem, ↓gx_tt, ↓gx_tf, ↓gx_ft, ↓gx_ff, ↓gx_u2, ↓gk_tt, ↓gk_tf, ↓gk_ff, ↓gk_ft, reduceCtorEq, Nat.reduceEqDiff, ↓reduceIte, Nat.reduceAdd, Nat.reduceSub, Nat.reduceLT, Nat.reduceMul, Nat.reduceBEq, Int.reduceLE, Int.reduceLT, Int.reduceAdd, Int.reduceSub, Int.reduceToNat, Int.reduceNeg, Int.reduceMul, Nat.reduceLeDiff]
            rw [IntWalk.i64_in ((i : Int) + 1) (by omega)]; rfl
        · have hge : qs.length ≤ i := by simpa using hge
          rw [List.drop_eq_nil_of_le hge] at hS
          simp only [worstC] at hS
          rw [← hS]
          obtain ⟨wa, wb⟩ := weight_range O hm
          have wne : IntKind.u64.wrap (weightC w) ≠ 0 := by rw [IntWalk.u64_in _ (by omega)]; omega
          refine dc_seq (dc_drawn (ok0 gl) (mo gl) [] [0, 1, 1, 1, 1, 1, 0, 0, 1, 1, 0, 0, 0, 0, 0] (by kernel_rfl) (by kernel_rfl) (vd_n [()] ?_))
          simp only [go_sem, ↓gx_tt, ↓gx_tf, ↓gx_ft, ↓gx_ff, ↓gx_u2, ↓gk_tt, ↓gk_tf, ↓gk_ff, ↓gk_ft, reduceCtorEq, Nat.reduceEqDiff, ↓reduceIte, Nat.reduceAdd, Nat.reduceSub, Nat.reduceLT, Nat.reduceMul, Nat.reduceBEq, Int.reduceLE, Int.reduceLT, Int.reduceAdd, Int.reduceSub, Int.reduceToNat, Int.reduceNeg, Int.reduceMul, Nat.reduceLeDiff]
          refine vdR_op [()] rfl ?_
          refine vdO_calli _ (court_Least (T.upS (fun _ => rfl) rfl)) rfl rfl (by simp only [go_sem]) rfl ?_ rfl ?_ ?_ ?_ <;> simp only [go_sem, ↓gx_tt, ↓gx_tf, ↓gx_ft, ↓gx_ff, ↓gx_u2, ↓gk_tt, ↓gk_tf, ↓gk_ff, ↓gk_ft, reduceCtorEq, Nat.reduceEqDiff, ↓reduceIte, Nat.reduceAdd, Nat.reduceSub, Nat.reduceLT, Nat.reduceMul, Nat.reduceBEq, Int.reduceLE, Int.reduceLT, Int.reduceAdd, Int.reduceSub, Int.reduceToNat, Int.reduceNeg, Int.reduceMul, Nat.reduceLeDiff]
          refine vdR_op [()] rfl ?_
          refine vdO_calli _ (pays _ w) rfl rfl (by simp only [go_sem]) rfl ?_ rfl ?_ ?_ ?_ <;> simp only [go_sem, ↓gx_tt, ↓gx_tf, ↓gx_ft, ↓gx_ff, ↓gx_u2, ↓gk_tt, ↓gk_tf, ↓gk_ff, ↓gk_ft, reduceCtorEq, Nat.reduceEqDiff, ↓reduceIte, Nat.reduceAdd, Nat.reduceSub, Nat.reduceLT, Nat.reduceMul, Nat.reduceBEq, Int.reduceLE, Int.reduceLT, Int.reduceAdd, Int.reduceSub, Int.reduceToNat, Int.reduceNeg, Int.reduceMul, Nat.reduceLeDiff]
          refine vdR_op [(), (), ()] rfl ?_
          refine vdO_calli _ (weight hg _ t) rfl rfl (by simp only [go_sem]) rfl ?_ rfl ?_ ?_ ?_ <;> simp only [go_sem, ↓gx_tt, ↓gx_tf, ↓gx_ft, ↓gx_ff, ↓gx_u2, ↓gk_tt, ↓gk_tf, ↓gk_ff, ↓gk_ft, reduceCtorEq, Nat.reduceEqDiff, ↓reduceIte, Nat.reduceAdd, Nat.reduceSub, Nat.reduceLT, Nat.reduceMul, Nat.reduceBEq, Int.reduceLE, Int.reduceLT, Int.reduceAdd, Int.reduceSub, Int.reduceToNat, Int.reduceNeg, Int.reduceMul, Nat.reduceLeDiff]
          refine vdR_op [(), (), (), (), (), (), (), (), ()] rfl ?_
          refine vdO_calli _ (weight hg _ w) rfl rfl (by simp only [go_sem]) rfl ?_ rfl ?_ ?_ ?_ <;> simp only [go_sem, ↓gx_tt, ↓gx_tf, ↓gx_ft, ↓gx_ff, ↓gx_u2, ↓gk_tt, ↓gk_tf, ↓gk_ff, ↓gk_ft, reduceCtorEq, Nat.reduceEqDiff, ↓reduceIte, Nat.reduceAdd, Nat.reduceSub, Nat.reduceLT, Nat.reduceMul, Nat.reduceBEq, Int.reduceLE, Int.reduceLT, Int.reduceAdd, Int.reduceSub, Int.reduceToNat, Int.reduceNeg, Int.reduceMul, Nat.reduceLeDiff]
          refine ⟨wne, ?_⟩
          refine dc_ret ⟨.inr rfl, ?_⟩
          simp only [retOk, go_sem, ↓gx_tt, ↓gx_tf, ↓gx_ft, ↓gx_ff, ↓gx_u2, ↓gk_tt, ↓gk_tf, ↓gk_ff, ↓gk_ft, reduceCtorEq, Nat.reduceEqDiff, ↓reduceIte, Nat.reduceAdd, Nat.reduceSub, Nat.reduceLT, Nat.reduceMul, Nat.reduceBEq, Int.reduceLE, Int.reduceLT, Int.reduceAdd, Int.reduceSub, Int.reduceToNat, Int.reduceNeg, Int.reduceMul, Nat.reduceLeDiff, Tryd.f11] <;> try rfl
end
end Go.Proofs.YtajbalbnmaljnaaDoor

namespace Go.Proofs.YtajbalbnmaljnaaDoor
open Go Go.E
set_option maxRecDepth 10000
set_option maxHeartbeats 4000000
set_option linter.unusedSimpArgs false
variable {gl : Nat → Option (Ty × C)}
def raskC (least : C) (pool picks : List C) (room : Int) (t : C) : C := if picks = [] ∨ weightC t ≤ leftC pool picks room then least else if askI pool picks t < least.toInt then least else .int (askI pool picks t)
section
variable {A : Key → Option O} {k kt k1 k2 kn : Key} {n : Nat} {cp1 cp2 : Option Nat} {has next : List C} {kept least height : C} {bonds pool events : List C}
theorem ref29_Ask (T : Court15At A k kt k1 k2 kn n cp1 cp2 has next kept least height bonds pool events) (hn : next.length = n) (hn0 : 0 < n) (hnn : n ≤ 16) (hpool : ∀ t ∈ pool, C.wf tTx t ∧ 0 ≤ (t.get 1).toInt ∧ (t.get 1).toInt < n) (O : PoolOk pool) (room : Int) (t : C) :
    DCalls (X0 gl) 12 [.ptr (.g k) [] tCourt, .d (.int .i64) (.int room), .d tTx t] A (.d (.int .u64) (raskC least pool (picks n next pool room) room t)) [] := by
  have hpk := pickC_in O (pool.length + 1) [] (nexts n next pool (fun _ => .int 0)) room (fun p hp => by simp at hp) (by simp [countC_nil])
  have hpl := O.len
  refine dcalls_intro (n := 108) (ok0 gl) Tryd.func12 rfl rfl (by simp) ?_
  intro A' hA
  have T := T.up hA
  have hc := T.c
  refine dc_seq (dc_region (ok0 gl) [] (by kernel_rfl) ?_)
  simp only [go_sem, ↓gx_tt, ↓gx_tf, ↓gx_ft, ↓gx_ff, ↓gx_u2, ↓gk_tt, ↓gk_tf, ↓gk_ff, ↓gk_ft, reduceCtorEq, Nat.reduceEqDiff, ↓reduceIte, Nat.reduceAdd, Nat.reduceSub, Nat.reduceLT, Nat.reduceMul, Nat.reduceBEq, Int.reduceLE, Int.reduceLT, Int.reduceAdd, Int.reduceSub, Int.reduceToNat, Int.reduceNeg, Int.reduceMul, Nat.reduceLeDiff]
  refine dc_seq (dc_region (ok0 gl) [] (by kernel_rfl) (vc_n [(), ()] ?_))
  simp only [go_sem, ↓gx_tt, ↓gx_tf, ↓gx_ft, ↓gx_ff, ↓gx_u2, ↓gk_tt, ↓gk_tf, ↓gk_ff, ↓gk_ft, reduceCtorEq, Nat.reduceEqDiff, ↓reduceIte, Nat.reduceAdd, Nat.reduceSub, Nat.reduceLT, Nat.reduceMul, Nat.reduceBEq, Int.reduceLE, Int.reduceLT, Int.reduceAdd, Int.reduceSub, Int.reduceToNat, Int.reduceNeg, Int.reduceMul, Nat.reduceLeDiff]
  refine vcR_op [(), (), (), (), (), (), (), (), ()] rfl ?_
  refine vcO_call _ (ref29_Pick (T.upS (fun _ => rfl) rfl) room hn hn0 hnn hpl hpool) rfl (by simp only [go_sem]) rfl ?_ ?_ ?_ ?_ ?_ <;> simp only [go_sem, ↓gx_tt, ↓gx_tf, ↓gx_ft, ↓gx_ff, ↓gx_u2, ↓gk_tt, ↓gk_tf, ↓gk_ff, ↓gk_ft, reduceCtorEq, Nat.reduceEqDiff, ↓reduceIte, Nat.reduceAdd, Nat.reduceSub, Nat.reduceLT, Nat.reduceMul, Nat.reduceBEq, Int.reduceLE, Int.reduceLT, Int.reduceAdd, Int.reduceSub, Int.reduceToNat, Int.reduceNeg, Int.reduceMul, Nat.reduceLeDiff]
  unfold picks
  generalize hps : pickC pool (pool.length + 1) [] (nexts n next pool (fun _ => .int 0)) room = ps at *
  have hlp : ps.length ≤ 60 := by
    have := countC_le pool.length ps
    omega
  refine dc_seq (dc_region (ok0 gl) [] (by kernel_rfl) ?_)
  simp only [go_sem, ↓gx_tt, ↓gx_tf, ↓gx_ft, ↓gx_ff, ↓gx_u2, ↓gk_tt, ↓gk_tf, ↓gk_ff, ↓gk_ft, reduceCtorEq, Nat.reduceEqDiff, ↓reduceIte, Nat.reduceAdd, Nat.reduceSub, Nat.reduceLT, Nat.reduceMul, Nat.reduceBEq, Int.reduceLE, Int.reduceLT, Int.reduceAdd, Int.reduceSub, Int.reduceToNat, Int.reduceNeg, Int.reduceMul, Nat.reduceLeDiff]
  refine dc_seq (dc_seq (dc_region (ok0 gl) [] (by kernel_rfl) ?_))
  simp only [go_sem, ↓gx_tt, ↓gx_tf, ↓gx_ft, ↓gx_ff, ↓gx_u2, ↓gk_tt, ↓gk_tf, ↓gk_ff, ↓gk_ft, reduceCtorEq, Nat.reduceEqDiff, ↓reduceIte, Nat.reduceAdd, Nat.reduceSub, Nat.reduceLT, Nat.reduceMul, Nat.reduceBEq, Int.reduceLE, Int.reduceLT, Int.reduceAdd, Int.reduceSub, Int.reduceToNat, Int.reduceNeg, Int.reduceMul, Nat.reduceLeDiff]
  refine dc_block (dc_while (ι := Nat × Int) (fun i => ⟨[(9, .d (.int .i64) (.int i.1)), (8, .d (.int .i64) (.int i.2)), (7, .d (.slice 8 (.int .i64)) (.slice ps)), (6, .d (.int .u64) (.int 0)), (5, .ptr (.l 5) [] tTx), (0, .ptr (.g k) [] tCourt)], [(.l 5, .box (.d tTx t))], A', []⟩) (fun i => ps.length - i.1)
    (fun i => i.1 ≤ ps.length ∧ leftC pool (ps.drop i.1) i.2 = leftC pool ps room) (0, room) ?_ ⟨Nat.zero_le _, rfl⟩ ?_)
  · refine weak_to rfl ?_ ?_ ?_ ?_ ?_ <;> simp only [go_sem, ↓gx_tt, ↓gx_tf, ↓gx_ft, ↓gx_ff, ↓gx_u2, ↓gk_tt, ↓gk_tf, ↓gk_ff, ↓gk_ft, reduceCtorEq, Nat.reduceEqDiff, ↓reduceIte, Nat.reduceAdd, Nat.reduceSub, Nat.reduceLT, Nat.reduceMul, Nat.reduceBEq, Int.reduceLE, Int.reduceLT, Int.reduceAdd, Int.reduceSub, Int.reduceToNat, Int.reduceNeg, Int.reduceMul, Nat.reduceLeDiff]
    rfl
  · rintro ⟨i, s⟩ ⟨hi, hS⟩
    simp only at hi hS
    refine dc_seq (dc_seq (dc_region (ok0 gl) [] (by kernel_rfl) ?_))
    simp only [go_sem, ↓gx_tt, ↓gx_tf, ↓gx_ft, ↓gx_ff, ↓gx_u2, ↓gk_tt, ↓gk_tf, ↓gk_ff, ↓gk_ft, reduceCtorEq, Nat.reduceEqDiff, ↓reduceIte, Nat.reduceAdd, Nat.reduceSub, Nat.reduceLT, Nat.reduceMul, Nat.reduceBEq, Int.reduceLE, Int.reduceLT, Int.reduceAdd, Int.reduceSub, Int.reduceToNat, Int.reduceNeg, Int.reduceMul, Nat.reduceLeDiff]
    refine dc_cond _ rfl (fun hlt => dc_skip ?_) (fun hge => dc_exit ?_)
    · have hlt : i < ps.length := by simpa using hlt
      have ei : ((i : Int).toNat) = i := Int.toNat_natCast i
      rw [left_drop hlt] at hS
      obtain ⟨p0, p1⟩ := hpk.1.at hlt
      unfold ordC at hS
      generalize hp : ps.getD i .nil = p at *
      refine dc_seq (dc_block (dc_drawn (ok0 gl) (mo gl) [] [0, 0, 0, 0, 1, 0, 0, 0, 1, 0, 1, 1, 0, 0] (by kernel_rfl) (by kernel_rfl) (vd_n [(), (), (), (), (), (), (), (), (), (), ()] ?_)))
      simp only [go_sem, ↓gx_tt, ↓gx_tf, ↓gx_ft, ↓gx_ff, ↓gx_u2, ↓gk_tt, ↓gk_tf, ↓gk_ff, ↓gk_ft, reduceCtorEq, Nat.reduceEqDiff, ↓reduceIte, Nat.reduceAdd, Nat.reduceSub, Nat.reduceLT, Nat.reduceMul, Nat.reduceBEq, Int.reduceLE, Int.reduceLT, Int.reduceAdd, Int.reduceSub, Int.reduceToNat, Int.reduceNeg, Int.reduceMul, Nat.reduceLeDiff, ei, hp, hc]
      refine ⟨by omega, by omega, by omega, by omega, ?_⟩
      refine vdR_op [(), (), (), (), (), (), (), (), ()] rfl ?_
      refine vdO_calli _ (ref29_Weight _ (pool.getD p.toInt.toNat .nil)) rfl rfl (by simp only [go_sem]) rfl ?_ rfl ?_ ?_ ?_ <;> simp only [go_sem, ↓gx_tt, ↓gx_tf, ↓gx_ft, ↓gx_ff, ↓gx_u2, ↓gk_tt, ↓gk_tf, ↓gk_ff, ↓gk_ft, reduceCtorEq, Nat.reduceEqDiff, ↓reduceIte, Nat.reduceAdd, Nat.reduceSub, Nat.reduceLT, Nat.reduceMul, Nat.reduceBEq, Int.reduceLE, Int.reduceLT, Int.reduceAdd, Int.reduceSub, Int.reduceToNat, Int.reduceNeg, Int.reduceMul, Nat.reduceLeDiff]
      refine dc_region (ok0 gl) [] (by kernel_rfl) ?_
      simp only [go_sem, ↓gx_tt, ↓gx_tf, ↓gx_ft, ↓gx_ff, ↓gx_u2, ↓gk_tt, ↓gk_tf, ↓gk_ff, ↓gk_ft, reduceCtorEq, Nat.reduceEqDiff, ↓reduceIte, Nat.reduceAdd, Nat.reduceSub, Nat.reduceLT, Nat.reduceMul, Nat.reduceBEq, Int.reduceLE, Int.reduceLT, Int.reduceAdd, Int.reduceSub, Int.reduceToNat, Int.reduceNeg, Int.reduceMul, Nat.reduceLeDiff]
      refine ⟨(i + 1, IntKind.i64.wrap (s - weightC (pool.getD p.toInt.toNat .nil))), ⟨hlt, hS⟩, by simp only; omega, ?_⟩
      refine weak_to rfl ?_ ?_ ?_ ?_ ?_ <;> simp only [go_sem, ↓gx_tt, ↓gx_tf, ↓gx_ft, ↓gx_ff, ↓gx_u2, ↓gk_tt, ↓gk_tf, ↓gk_ff, ↓gk_ft, reduceCtorEq, Nat.reduceEqDiff, ↓reduceIte, Nat.reduceAdd, Nat.reduceSub, Nat.reduceLT, Nat.reduceMul, Nat.reduceBEq, Int.reduceLE, Int.reduceLT, Int.reduceAdd, Int.reduceSub, Int.reduceToNat, Int.reduceNeg, Int.reduceMul, Nat.reduceLeDiff]
      rw [IntWalk.i64_in ((i : Int) + 1) (by omega)]; rfl
    · have hge : ps.length ≤ i := by simpa using hge
      rw [List.drop_eq_nil_of_le hge] at hS
      simp only [leftC] at hS
      by_cases h2 : ps = []
      · subst h2
        have z0 : ((0 : Nat) : Int) = 0 := rfl
        refine dc_seq (dc_seq (dc_region (ok0 gl) [] (by kernel_rfl) ?_))
        simp only [go_sem, ↓gx_tt, ↓gx_tf, ↓gx_ft, ↓gx_ff, ↓gx_u2, ↓gk_tt, ↓gk_tf, ↓gk_ff, ↓gk_ft, reduceCtorEq, Nat.reduceEqDiff, ↓reduceIte, Nat.reduceAdd, Nat.reduceSub, Nat.reduceLT, Nat.reduceMul, Nat.reduceBEq, Int.reduceLE, Int.reduceLT, Int.reduceAdd, Int.reduceSub, Int.reduceToNat, Int.reduceNeg, Int.reduceMul, Nat.reduceLeDiff, z0]
        refine dc_cond _ rfl (fun _ => ?_) (fun h => by simp at h)
        refine dc_seq (dc_region (ok0 gl) [] (by kernel_rfl) ?_)
        simp only [go_sem, ↓gx_tt, ↓gx_tf, ↓gx_ft, ↓gx_ff, ↓gx_u2, ↓gk_tt, ↓gk_tf, ↓gk_ff, ↓gk_ft, reduceCtorEq, Nat.reduceEqDiff, ↓reduceIte, Nat.reduceAdd, Nat.reduceSub, Nat.reduceLT, Nat.reduceMul, Nat.reduceBEq, Int.reduceLE, Int.reduceLT, Int.reduceAdd, Int.reduceSub, Int.reduceToNat, Int.reduceNeg, Int.reduceMul, Nat.reduceLeDiff, hc]
        refine dc_ret ⟨.inr rfl, ?_⟩
        simp only [retOk, go_sem, ↓gx_tt, ↓gx_tf, ↓gx_ft, ↓gx_ff, ↓gx_u2, ↓gk_tt, ↓gk_tf, ↓gk_ff, ↓gk_ft, reduceCtorEq, Nat.reduceEqDiff, ↓reduceIte, Nat.reduceAdd, Nat.reduceSub, Nat.reduceLT, Nat.reduceMul, Nat.reduceBEq, Int.reduceLE, Int.reduceLT, Int.reduceAdd, Int.reduceSub, Int.reduceToNat, Int.reduceNeg, Int.reduceMul, Nat.reduceLeDiff, Tryd.f12, raskC] <;> try rfl
      · have h3 : ¬ ((ps.length : Int) = 0) := by
          intro h
          exact h2 (List.length_eq_zero_iff.1 (by omega))
        have hl0 : 0 < ps.length := by omega
        have hq0 := hpk.1.at hl0
        refine dc_seq (dc_seq (dc_region (ok0 gl) [] (by kernel_rfl) (vc_n [(), (), (), (), (), ()] ?_)))
        simp only [go_sem, ↓gx_tt, ↓gx_tf, ↓gx_ft, ↓gx_ff, ↓gx_u2, ↓gk_tt, ↓gk_tf, ↓gk_ff, ↓gk_ft, reduceCtorEq, Nat.reduceEqDiff, ↓reduceIte, Nat.reduceAdd, Nat.reduceSub, Nat.reduceLT, Nat.reduceMul, Nat.reduceBEq, Int.reduceLE, Int.reduceLT, Int.reduceAdd, Int.reduceSub, Int.reduceToNat, Int.reduceNeg, Int.reduceMul, Nat.reduceLeDiff, h3]
        refine vcR_guard [(), (), (), (), (), (), (), (), ()] false rfl rfl rfl (fun _ => ?_) (fun h => absurd rfl h)
        refine vcO_call _ (ref29_Weight _ t) rfl (by simp only [go_sem]) rfl ?_ ?_ ?_ ?_ ?_ <;> simp only [go_sem, ↓gx_tt, ↓gx_tf, ↓gx_ft, ↓gx_ff, ↓gx_u2, ↓gk_tt, ↓gk_tf, ↓gk_ff, ↓gk_ft, reduceCtorEq, Nat.reduceEqDiff, ↓reduceIte, Nat.reduceAdd, Nat.reduceSub, Nat.reduceLT, Nat.reduceMul, Nat.reduceBEq, Int.reduceLE, Int.reduceLT, Int.reduceAdd, Int.reduceSub, Int.reduceToNat, Int.reduceNeg, Int.reduceMul, Nat.reduceLeDiff]
        refine dc_cond _ rfl (fun h4 => ?_) (fun h4 => dc_skip ?_)
        · have h4 := of_decide_eq_true h4
          rw [hS] at h4
          refine dc_seq (dc_region (ok0 gl) [] (by kernel_rfl) ?_)
          simp only [go_sem, ↓gx_tt, ↓gx_tf, ↓gx_ft, ↓gx_ff, ↓gx_u2, ↓gk_tt, ↓gk_tf, ↓gk_ff, ↓gk_ft, reduceCtorEq, Nat.reduceEqDiff, ↓reduceIte, Nat.reduceAdd, Nat.reduceSub, Nat.reduceLT, Nat.reduceMul, Nat.reduceBEq, Int.reduceLE, Int.reduceLT, Int.reduceAdd, Int.reduceSub, Int.reduceToNat, Int.reduceNeg, Int.reduceMul, Nat.reduceLeDiff, hc]
          refine dc_ret ⟨.inr rfl, ?_⟩
          simp only [retOk, go_sem, ↓gx_tt, ↓gx_tf, ↓gx_ft, ↓gx_ff, ↓gx_u2, ↓gk_tt, ↓gk_tf, ↓gk_ff, ↓gk_ft, reduceCtorEq, Nat.reduceEqDiff, ↓reduceIte, Nat.reduceAdd, Nat.reduceSub, Nat.reduceLT, Nat.reduceMul, Nat.reduceBEq, Int.reduceLE, Int.reduceLT, Int.reduceAdd, Int.reduceSub, Int.reduceToNat, Int.reduceNeg, Int.reduceMul, Nat.reduceLeDiff, Tryd.f12, raskC, h4] <;> try rfl
        · have h4 := of_decide_eq_false h4
          rw [hS] at h4
          have hA0 : raskC least pool ps room t = if askI pool ps t < least.toInt then least else .int (askI pool ps t) := by unfold raskC; rw [if_neg (by simp only [not_or]; exact ⟨h2, h4⟩)]
          rw [hA0]
          have hm0 : ordC pool (ps.getD 0 .nil) ∈ pool := ord_mem hpk.1 hl0
          have ew : worstC pool (ps.drop 1) (ordC pool (ps.getD 0 .nil)) ∈ pool := worst_mem _ _ (fun q hq => hpk.1 q (List.mem_of_mem_drop hq)) hm0
          unfold askI
          refine dc_seq (dc_drawn (ok0 gl) (mo gl) [] [0, 0, 0, 1, 0, 0, 1, 0, 1, 1, 2] (by kernel_rfl) (by kernel_rfl) ?_)
          simp only [go_sem, ↓gx_tt, ↓gx_tf, ↓gx_ft, ↓gx_ff, ↓gx_u2, ↓gk_tt, ↓gk_tf, ↓gk_ff, ↓gk_ft, reduceCtorEq, Nat.reduceEqDiff, ↓reduceIte, Nat.reduceAdd, Nat.reduceSub, Nat.reduceLT, Nat.reduceMul, Nat.reduceBEq, Int.reduceLE, Int.reduceLT, Int.reduceAdd, Int.reduceSub, Int.reduceToNat, Int.reduceNeg, Int.reduceMul, Nat.reduceLeDiff, hc, Int.reduceEq]
          refine ⟨by omega, by omega, by omega, ?_⟩
          rw [show pool.getD (ps.getD 0 .nil).toInt.toNat .nil = ordC pool (ps.getD 0 .nil) from rfl]
          generalize hw0 : ordC pool (ps.getD 0 .nil) = w0 at *
          refine dc_seq (dc_seq (dc_region (ok0 gl) [] (by kernel_rfl) ?_))
          simp only [go_sem, ↓gx_tt, ↓gx_tf, ↓gx_ft, ↓gx_ff, ↓gx_u2, ↓gk_tt, ↓gk_tf, ↓gk_ff, ↓gk_ft, reduceCtorEq, Nat.reduceEqDiff, ↓reduceIte, Nat.reduceAdd, Nat.reduceSub, Nat.reduceLT, Nat.reduceMul, Nat.reduceBEq, Int.reduceLE, Int.reduceLT, Int.reduceAdd, Int.reduceSub, Int.reduceToNat, Int.reduceNeg, Int.reduceMul, Nat.reduceLeDiff]
          refine dc_block (dc_while (ι := Nat × C) (fun i => ⟨[(11, .d (.int .i64) (.int i.1)), (10, .ptr (.l 10) [] tTx), (7, .d (.slice 8 (.int .i64)) (.slice ps)), (6, .d (.int .u64) (.int 0)), (5, .ptr (.l 5) [] tTx), (0, .ptr (.g k) [] tCourt)], [(.l 10, .box (.d tTx i.2)), (.l 5, .box (.d tTx t))], A', []⟩) (fun i => ps.length - i.1)
            (fun i => i.1 ≤ ps.length ∧ i.2 ∈ pool ∧ worstC pool (ps.drop i.1) i.2 = worstC pool (ps.drop 1) w0) (1, w0) ?_ ⟨hl0, hm0, rfl⟩ ?_)
          · refine weak_to rfl ?_ ?_ ?_ ?_ ?_ <;> simp only [go_sem, ↓gx_tt, ↓gx_tf, ↓gx_ft, ↓gx_ff, ↓gx_u2, ↓gk_tt, ↓gk_tf, ↓gk_ff, ↓gk_ft, reduceCtorEq, Nat.reduceEqDiff, ↓reduceIte, Nat.reduceAdd, Nat.reduceSub, Nat.reduceLT, Nat.reduceMul, Nat.reduceBEq, Int.reduceLE, Int.reduceLT, Int.reduceAdd, Int.reduceSub, Int.reduceToNat, Int.reduceNeg, Int.reduceMul, Nat.reduceLeDiff]
            rfl
          · rintro ⟨i, w⟩ ⟨hi, hm, hS⟩
            simp only at hi hm hS
            refine dc_seq (dc_seq (dc_region (ok0 gl) [] (by kernel_rfl) ?_))
            simp only [go_sem, ↓gx_tt, ↓gx_tf, ↓gx_ft, ↓gx_ff, ↓gx_u2, ↓gk_tt, ↓gk_tf, ↓gk_ff, ↓gk_ft, reduceCtorEq, Nat.reduceEqDiff, ↓reduceIte, Nat.reduceAdd, Nat.reduceSub, Nat.reduceLT, Nat.reduceMul, Nat.reduceBEq, Int.reduceLE, Int.reduceLT, Int.reduceAdd, Int.reduceSub, Int.reduceToNat, Int.reduceNeg, Int.reduceMul, Nat.reduceLeDiff]
            refine dc_cond _ rfl (fun hlt => dc_skip ?_) (fun hge => dc_exit ?_)
            · have hlt : i < ps.length := by simpa using hlt
              have ei : ((i : Int).toNat) = i := Int.toNat_natCast i
              rw [worst_drop hlt] at hS
              obtain ⟨p0, p1⟩ := hpk.1.at hlt
              have hmq := ord_mem hpk.1 hlt
              unfold ordC at hS hmq
              generalize hp : ps.getD i .nil = p at *
              refine dc_seq (dc_block (dc_seq (dc_drawn (ok0 gl) (mo gl) [] [1, 0, 0, 0, 1, 0, 0, 0, 1, 0, 1, 1] (by kernel_rfl) (by kernel_rfl) (vd_n [(), (), (), (), (), (), (), (), (), (), ()] ?_))))
              simp only [go_sem, ↓gx_tt, ↓gx_tf, ↓gx_ft, ↓gx_ff, ↓gx_u2, ↓gk_tt, ↓gk_tf, ↓gk_ff, ↓gk_ft, reduceCtorEq, Nat.reduceEqDiff, ↓reduceIte, Nat.reduceAdd, Nat.reduceSub, Nat.reduceLT, Nat.reduceMul, Nat.reduceBEq, Int.reduceLE, Int.reduceLT, Int.reduceAdd, Int.reduceSub, Int.reduceToNat, Int.reduceNeg, Int.reduceMul, Nat.reduceLeDiff, ei, hp, hc]
              refine ⟨by omega, by omega, by omega, by omega, ?_⟩
              refine vdR_op [(), (), (), (), (), (), (), (), ()] rfl ?_
              refine vdO_calli _ (ref29_Better _ w (pool.getD p.toInt.toNat .nil)) rfl rfl (by simp only [go_sem]) rfl ?_ rfl ?_ ?_ ?_ <;> simp only [go_sem, ↓gx_tt, ↓gx_tf, ↓gx_ft, ↓gx_ff, ↓gx_u2, ↓gk_tt, ↓gk_tf, ↓gk_ff, ↓gk_ft, reduceCtorEq, Nat.reduceEqDiff, ↓reduceIte, Nat.reduceAdd, Nat.reduceSub, Nat.reduceLT, Nat.reduceMul, Nat.reduceBEq, Int.reduceLE, Int.reduceLT, Int.reduceAdd, Int.reduceSub, Int.reduceToNat, Int.reduceNeg, Int.reduceMul, Nat.reduceLeDiff]
              refine dc_cond _ rfl (fun h5 => ?_) (fun h5 => dc_skip ?_)
              · rw [h5] at hS
                refine dc_drawn (ok0 gl) (mo gl) [] [0, 0, 0, 1, 0, 0, 0, 1, 0, 1, 2] (by kernel_rfl) (by kernel_rfl) ?_
                simp only [go_sem, ↓gx_tt, ↓gx_tf, ↓gx_ft, ↓gx_ff, ↓gx_u2, ↓gk_tt, ↓gk_tf, ↓gk_ff, ↓gk_ft, reduceCtorEq, Nat.reduceEqDiff, ↓reduceIte, Nat.reduceAdd, Nat.reduceSub, Nat.reduceLT, Nat.reduceMul, Nat.reduceBEq, Int.reduceLE, Int.reduceLT, Int.reduceAdd, Int.reduceSub, Int.reduceToNat, Int.reduceNeg, Int.reduceMul, Nat.reduceLeDiff, hc, ei, hp]
                refine ⟨by omega, by omega, by omega, by omega, ?_⟩
                refine dc_region (ok0 gl) [] (by kernel_rfl) ?_
                simp only [go_sem, ↓gx_tt, ↓gx_tf, ↓gx_ft, ↓gx_ff, ↓gx_u2, ↓gk_tt, ↓gk_tf, ↓gk_ff, ↓gk_ft, reduceCtorEq, Nat.reduceEqDiff, ↓reduceIte, Nat.reduceAdd, Nat.reduceSub, Nat.reduceLT, Nat.reduceMul, Nat.reduceBEq, Int.reduceLE, Int.reduceLT, Int.reduceAdd, Int.reduceSub, Int.reduceToNat, Int.reduceNeg, Int.reduceMul, Nat.reduceLeDiff]
                refine ⟨(i + 1, pool.getD p.toInt.toNat .nil), ⟨hlt, hmq, hS⟩, by simp only; omega, ?_⟩
                refine weak_to rfl ?_ ?_ ?_ ?_ ?_ <;> simp only [go_sem, ↓gx_tt, ↓gx_tf, ↓gx_ft, ↓gx_ff, ↓gx_u2, ↓gk_tt, ↓gk_tf, ↓gk_ff, ↓gk_ft, reduceCtorEq, Nat.reduceEqDiff, ↓reduceIte, Nat.reduceAdd, Nat.reduceSub, Nat.reduceLT, Nat.reduceMul, Nat.reduceBEq, Int.reduceLE, Int.reduceLT, Int.reduceAdd, Int.reduceSub, Int.reduceToNat, Int.reduceNeg, Int.reduceMul, Nat.reduceLeDiff]
                rw [IntWalk.i64_in ((i : Int) + 1) (by omega)]; rfl
              · rw [h5] at hS
                refine dc_region (ok0 gl) [] (by kernel_rfl) ?_
                simp only [go_sem, ↓gx_tt, ↓gx_tf, ↓gx_ft, ↓gx_ff, ↓gx_u2, ↓gk_tt, ↓gk_tf, ↓gk_ff, ↓gk_ft, reduceCtorEq, Nat.reduceEqDiff, ↓reduceIte, Nat.reduceAdd, Nat.reduceSub, Nat.reduceLT, Nat.reduceMul, Nat.reduceBEq, Int.reduceLE, Int.reduceLT, Int.reduceAdd, Int.reduceSub, Int.reduceToNat, Int.reduceNeg, Int.reduceMul, Nat.reduceLeDiff]
                refine ⟨(i + 1, w), ⟨hlt, hm, hS⟩, by simp only; omega, ?_⟩
                refine weak_to rfl ?_ ?_ ?_ ?_ ?_ <;> simp only [go_sem, ↓gx_tt, ↓gx_tf, ↓gx_ft, ↓gx_ff, ↓gx_u2, ↓gk_tt, ↓gk_tf, ↓gk_ff, ↓gk_ft, reduceCtorEq, Nat.reduceEqDiff, ↓reduceIte, Nat.reduceAdd, Nat.reduceSub, Nat.reduceLT, Nat.reduceMul, Nat.reduceBEq, Int.reduceLE, Int.reduceLT, Int.reduceAdd, Int.reduceSub, Int.reduceToNat, Int.reduceNeg, Int.reduceMul, Nat.reduceLeDiff]
                rw [IntWalk.i64_in ((i : Int) + 1) (by omega)]; rfl
            · have hge : ps.length ≤ i := by simpa using hge
              rw [List.drop_eq_nil_of_le hge] at hS
              simp only [worstC] at hS
              rw [← hS]
              obtain ⟨wa, wb⟩ := weight_range O hm
              have wne : IntKind.u64.wrap (weightC w) ≠ 0 := by rw [IntWalk.u64_in _ (by omega)]; omega
              refine dc_seq (dc_drawn (ok0 gl) (mo gl) [] [1, 1, 1, 1, 0, 0, 1, 1, 0, 0, 0, 0] (by kernel_rfl) (by kernel_rfl) (vd_n [()] ?_))
              simp only [go_sem, ↓gx_tt, ↓gx_tf, ↓gx_ft, ↓gx_ff, ↓gx_u2, ↓gk_tt, ↓gk_tf, ↓gk_ff, ↓gk_ft, reduceCtorEq, Nat.reduceEqDiff, ↓reduceIte, Nat.reduceAdd, Nat.reduceSub, Nat.reduceLT, Nat.reduceMul, Nat.reduceBEq, Int.reduceLE, Int.reduceLT, Int.reduceAdd, Int.reduceSub, Int.reduceToNat, Int.reduceNeg, Int.reduceMul, Nat.reduceLeDiff]
              refine vdR_op [()] rfl ?_
              refine vdO_calli _ (ref29_Pays _ w) rfl rfl (by simp only [go_sem]) rfl ?_ rfl ?_ ?_ ?_ <;> simp only [go_sem, ↓gx_tt, ↓gx_tf, ↓gx_ft, ↓gx_ff, ↓gx_u2, ↓gk_tt, ↓gk_tf, ↓gk_ff, ↓gk_ft, reduceCtorEq, Nat.reduceEqDiff, ↓reduceIte, Nat.reduceAdd, Nat.reduceSub, Nat.reduceLT, Nat.reduceMul, Nat.reduceBEq, Int.reduceLE, Int.reduceLT, Int.reduceAdd, Int.reduceSub, Int.reduceToNat, Int.reduceNeg, Int.reduceMul, Nat.reduceLeDiff]
              refine vdR_op [(), (), ()] rfl ?_
              refine vdO_calli _ (ref29_Weight _ t) rfl rfl (by simp only [go_sem]) rfl ?_ rfl ?_ ?_ ?_ <;> simp only [go_sem, ↓gx_tt, ↓gx_tf, ↓gx_ft, ↓gx_ff, ↓gx_u2, ↓gk_tt, ↓gk_tf, ↓gk_ff, ↓gk_ft, reduceCtorEq, Nat.reduceEqDiff, ↓reduceIte, Nat.reduceAdd, Nat.reduceSub, Nat.reduceLT, Nat.reduceMul, Nat.reduceBEq, Int.reduceLE, Int.reduceLT, Int.reduceAdd, Int.reduceSub, Int.reduceToNat, Int.reduceNeg, Int.reduceMul, Nat.reduceLeDiff]
              refine vdR_op [(), (), (), (), (), (), (), (), ()] rfl ?_
              refine vdO_calli _ (ref29_Weight _ w) rfl rfl (by simp only [go_sem]) rfl ?_ rfl ?_ ?_ ?_ <;> simp only [go_sem, ↓gx_tt, ↓gx_tf, ↓gx_ft, ↓gx_ff, ↓gx_u2, ↓gk_tt, ↓gk_tf, ↓gk_ff, ↓gk_ft, reduceCtorEq, Nat.reduceEqDiff, ↓reduceIte, Nat.reduceAdd, Nat.reduceSub, Nat.reduceLT, Nat.reduceMul, Nat.reduceBEq, Int.reduceLE, Int.reduceLT, Int.reduceAdd, Int.reduceSub, Int.reduceToNat, Int.reduceNeg, Int.reduceMul, Nat.reduceLeDiff]
              refine ⟨wne, ?_⟩
              generalize IntKind.u64.wrap (IntKind.u64.wrap ((IntKind.u64.wrap (paysC w * IntKind.u64.wrap (weightC t))).tdiv (IntKind.u64.wrap (weightC w))) + 1) = q
              by_cases h6 : q < least.toInt
              · refine dc_seq (dc_seq (dc_region (ok0 gl) [] (by kernel_rfl) ?_))
                simp only [go_sem, ↓gx_tt, ↓gx_tf, ↓gx_ft, ↓gx_ff, ↓gx_u2, ↓gk_tt, ↓gk_tf, ↓gk_ff, ↓gk_ft, reduceCtorEq, Nat.reduceEqDiff, ↓reduceIte, Nat.reduceAdd, Nat.reduceSub, Nat.reduceLT, Nat.reduceMul, Nat.reduceBEq, Int.reduceLE, Int.reduceLT, Int.reduceAdd, Int.reduceSub, Int.reduceToNat, Int.reduceNeg, Int.reduceMul, Nat.reduceLeDiff, hc, h6]
                refine dc_cond _ rfl (fun _ => ?_) (fun h => by simp at h)
                refine dc_seq (dc_region (ok0 gl) [] (by kernel_rfl) ?_)
                simp only [go_sem, ↓gx_tt, ↓gx_tf, ↓gx_ft, ↓gx_ff, ↓gx_u2, ↓gk_tt, ↓gk_tf, ↓gk_ff, ↓gk_ft, reduceCtorEq, Nat.reduceEqDiff, ↓reduceIte, Nat.reduceAdd, Nat.reduceSub, Nat.reduceLT, Nat.reduceMul, Nat.reduceBEq, Int.reduceLE, Int.reduceLT, Int.reduceAdd, Int.reduceSub, Int.reduceToNat, Int.reduceNeg, Int.reduceMul, Nat.reduceLeDiff, hc]
                refine dc_ret ⟨.inr rfl, ?_⟩
                simp only [retOk, go_sem, ↓gx_tt, ↓gx_tf, ↓gx_ft, ↓gx_ff, ↓gx_u2, ↓gk_tt, ↓gk_tf, ↓gk_ff, ↓gk_ft, reduceCtorEq, Nat.reduceEqDiff, ↓reduceIte, Nat.reduceAdd, Nat.reduceSub, Nat.reduceLT, Nat.reduceMul, Nat.reduceBEq, Int.reduceLE, Int.reduceLT, Int.reduceAdd, Int.reduceSub, Int.reduceToNat, Int.reduceNeg, Int.reduceMul, Nat.reduceLeDiff, Tryd.f12, h6] <;> try rfl
              · refine dc_seq (dc_seq (dc_region (ok0 gl) [] (by kernel_rfl) ?_))
                simp only [go_sem, ↓gx_tt, ↓gx_tf, ↓gx_ft, ↓gx_ff, ↓gx_u2, ↓gk_tt, ↓gk_tf, ↓gk_ff, ↓gk_ft, reduceCtorEq, Nat.reduceEqDiff, ↓reduceIte, Nat.reduceAdd, Nat.reduceSub, Nat.reduceLT, Nat.reduceMul, Nat.reduceBEq, Int.reduceLE, Int.reduceLT, Int.reduceAdd, Int.reduceSub, Int.reduceToNat, Int.reduceNeg, Int.reduceMul, Nat.reduceLeDiff, hc, h6]
                refine dc_cond _ rfl (fun h => by simp at h) (fun _ => dc_skip ?_)
                refine dc_seq (dc_region (ok0 gl) [] (by kernel_rfl) ?_)
                simp only [go_sem, ↓gx_tt, ↓gx_tf, ↓gx_ft, ↓gx_ff, ↓gx_u2, ↓gk_tt, ↓gk_tf, ↓gk_ff, ↓gk_ft, reduceCtorEq, Nat.reduceEqDiff, ↓reduceIte, Nat.reduceAdd, Nat.reduceSub, Nat.reduceLT, Nat.reduceMul, Nat.reduceBEq, Int.reduceLE, Int.reduceLT, Int.reduceAdd, Int.reduceSub, Int.reduceToNat, Int.reduceNeg, Int.reduceMul, Nat.reduceLeDiff]
                refine dc_ret ⟨.inr rfl, ?_⟩
                simp only [retOk, go_sem, ↓gx_tt, ↓gx_tf, ↓gx_ft, ↓gx_ff, ↓gx_u2, ↓gk_tt, ↓gk_tf, ↓gk_ff, ↓gk_ft, reduceCtorEq, Nat.reduceEqDiff, ↓reduceIte, Nat.reduceAdd, Nat.reduceSub, Nat.reduceLT, Nat.reduceMul, Nat.reduceBEq, Int.reduceLE, Int.reduceLT, Int.reduceAdd, Int.reduceSub, Int.reduceToNat, Int.reduceNeg, Int.reduceMul, Nat.reduceLeDiff, Tryd.f12, h6] <;> try rfl
end
end Go.Proofs.YtajbalbnmaljnaaDoor

namespace Go.Proofs.YtajbalbnmaljnaaDoor
open Go Go.E
set_option maxRecDepth 10000
set_option maxHeartbeats 8000000
set_option linter.unusedSimpArgs false
variable {gl : Nat → Option (Ty × C)}
def lawL (least tb : C) (pool : List C) (t : C) : List (Key × O) := [
  (.l 38023, .box (.agg tCourt [.ptr (.l 52023) [] tTill, .ptr (.l 59003) [] tNotary2, .d (.int .u64) least, .d (.int .u64) (.int 0), .ts 240 tBond [], .ts 2368 tTx pool, .ts 40 tEvent []])),
  (.l 59003, .box (.agg tNotary2 [.mp (.l 59001)])), (.l 59001, .map (.arr 32 (.int .u8)) tEntry2 []),
  (.l 52023, .box (.agg tTill [.sr (.l 71007) [] 0 4 none 8 (.int .u64), .sr (.l 52021) [] 0 4 (some 4) 8 (.int .u64), .d (.int .u64) (.int 0)])),
  (.l 52021, .box (.d (.arr 4 (.int .u64)) (.agg [.int 0, .int 0, .int 0, .int 0]))), (.l 71007, .box (.d (.arr 4 (.int .u64)) (.agg [.int 100, .int 100, .int 100, .int 0]))),
  (.l 45027, .box (.agg tCourt [.ptr (.l 61024) [] tTill, .ptr (.l 45024) [] tNotary, .d (.int .u64) least, .d (.int .u64) (.int 0), .ts 240 tBond [], .ts 2368 tTx pool, .ts 40 tEvent []])),
  (.l 45024, .box (.agg tNotary [.d tTables tb, .ts 72 tEntry []])),
  (.l 61024, .box (.agg tTill [.sr (.l 61019) [] 0 4 none 8 (.int .u64), .sr (.l 61022) [] 0 4 (some 4) 8 (.int .u64), .d (.int .u64) (.int 0)])),
  (.l 61022, .box (.d (.arr 4 (.int .u64)) (.agg [.int 0, .int 0, .int 0, .int 0]))), (.l 61019, .box (.d (.arr 4 (.int .u64)) (.agg [.int 100, .int 100, .int 100, .int 0]))),
  (.l 7, .box (.d tTx t))]
def lawE (P : List C) (rm : Int) : List (Nat × V) := [(12, .d (.slice 8 (.int .i64)) (.slice P)), (11, .d (.slice 8 (.int .i64)) (.slice P)), (10, .ptr (.l 45027) [] tCourt), (9, .ptr (.l 38023) [] tCourt), (8, .d .bool (.bool false)), (7, .ptr (.l 7) [] tTx), (2, .d (.int .i64) (.int rm))]
theorem room_range (r : Int) : 0 ≤ IntKind.i64.wrap ((IntKind.u64.wrap r).tmod 2000) ∧ IntKind.i64.wrap ((IntKind.u64.wrap r).tmod 2000) < 2000 := by
  have h : 0 ≤ IntKind.u64.wrap r := by rw [IntKind.wrap_u64]; omega
  rw [Int.tmod_eq_emod_of_nonneg h, IntWalk.i64_in _ (by omega)]
  omega
theorem ask_same {least : C} {pool P : List C} {rm : Int} {t : C} (O : PoolOk pool) (hP : InPool pool P) (hl : P.length ≤ 60) (h0 : 0 ≤ rm) (h1 : rm < 2000) (w0 : 1 ≤ weightC t) (w1 : weightC t ≤ 29) : (askC least pool P rm t).toInt = (raskC least pool P rm t).toInt := by
  obtain ⟨d, d1, d2, d3, d4⟩ := room_sum O P 0 hP (by omega) (by omega)
  have e1 := d4 rm (by omega) (by omega)
  unfold askC raskC
  rw [d3, e1, IntWalk.i64_in _ (by omega)]
  by_cases hp : P = []
  · rw [if_pos (.inl hp), if_pos (.inl hp)]
  · by_cases hq : 0 + d + weightC t ≤ rm
    · rw [if_pos (.inr hq), if_pos (.inr (by omega))]
    · have n1 : ¬ (P = [] ∨ 0 + d + weightC t ≤ rm) := fun h => h.elim hp hq
      have n2 : ¬ (P = [] ∨ weightC t ≤ rm - d) := fun h => h.elim hp (fun h => hq (by omega))
      rw [if_neg n1, if_neg n2]
      by_cases hx : askI pool P t < least.toInt
      · rw [if_pos hx, if_neg (by omega)]; rfl
      · rw [if_neg hx]
        show (if least.toInt < askI pool P t then askI pool P t else least.toInt) = askI pool P t
        split
        · rfl
        · omega
theorem run_PickerPicks (hg : GW gl) (least l room t : C) : DCalls (X0 gl) 3 [.d (.int .u64) least, .d (.slice 2368 tTx) l, .d (.int .i64) room, .d tTx t] (fun _ => none) (.d .bool (.bool true)) [] := by
  obtain ⟨tb, hpool⟩ := pooled gl
  refine dcalls_intro (n := 106) (ok0 gl) Tryd.func3 rfl rfl (by simp) ?_
  intro A' hA
  refine dc_facts fun W => ?_
  obtain ⟨cs, rfl⟩ : ∃ cs, l = .slice cs := ⟨_, (C.slice_eta (W.at (t := 1) rfl)).symm⟩
  obtain ⟨r, rfl⟩ : ∃ r, room = .int r := ⟨_, (W.at (t := 2) rfl).1⟩
  have hcs : ∀ x ∈ cs, C.wf tTx x := (show C.wf (.slice 2368 tTx) (.slice cs) from W.at (t := 1) rfl).2.2.2
  have htw : C.wf tTx t := W.at (t := 3) rfl
  clear W
  refine dc_seq (dc_region (ok0 gl) [] (by kernel_rfl) ?_)
  simp only [go_sem, ↓gx_tt, ↓gx_tf, ↓gx_ft, ↓gx_ff, ↓gx_u2, ↓gk_tt, ↓gk_tf, ↓gk_ff, ↓gk_ft, reduceCtorEq, Nat.reduceEqDiff, ↓reduceIte, Nat.reduceAdd, Nat.reduceSub, Nat.reduceLT, Nat.reduceMul, Nat.reduceBEq, Int.reduceLE, Int.reduceLT, Int.reduceAdd, Int.reduceSub, Int.reduceToNat, Int.reduceNeg, Int.reduceMul, Nat.reduceLeDiff]
  refine dc_seq (dc_region (ok0 gl) [] (by kernel_rfl) (vc_n [(), ()] ?_))
  simp only [go_sem, ↓gx_tt, ↓gx_tf, ↓gx_ft, ↓gx_ff, ↓gx_u2, ↓gk_tt, ↓gk_tf, ↓gk_ff, ↓gk_ft, reduceCtorEq, Nat.reduceEqDiff, ↓reduceIte, Nat.reduceAdd, Nat.reduceSub, Nat.reduceLT, Nat.reduceMul, Nat.reduceBEq, Int.reduceLE, Int.reduceLT, Int.reduceAdd, Int.reduceSub, Int.reduceToNat, Int.reduceNeg, Int.reduceMul, Nat.reduceLeDiff]
  refine vcR_op [(), (), (), (), (), (), (), (), ()] rfl ?_
  refine vcO_call _ (hpool _ least cs) rfl (by simp only [go_sem]) rfl ?_ ?_ ?_ ?_ ?_ <;> simp only [go_sem, ↓gx_tt, ↓gx_tf, ↓gx_ft, ↓gx_ff, ↓gx_u2, ↓gk_tt, ↓gk_tf, ↓gk_ff, ↓gk_ft, reduceCtorEq, Nat.reduceEqDiff, ↓reduceIte, Nat.reduceAdd, Nat.reduceSub, Nat.reduceLT, Nat.reduceMul, Nat.reduceBEq, Int.reduceLE, Int.reduceLT, Int.reduceAdd, Int.reduceSub, Int.reduceToNat, Int.reduceNeg, Int.reduceMul, Nat.reduceLeDiff, poolL]
  have hwf : ∀ x ∈ poolF least cs 0 [], C.wf tTx x := (poolF_props least (C.wf tTx) cs 0 [] (fun x hx _ _ => hcs x hx) (fun x hx => by simp at hx) (by simp) (by omega)).1
  have hfr := poolF_from least cs 0 [] (fun x hx => by simp at hx)
  have O : PoolOk (poolF least cs 0 []) := poolOk hwf
  generalize hpe : poolF least cs 0 [] = pool at *
  have hpl := O.len
  have hpool' : ∀ x ∈ pool, C.wf tTx x ∧ 0 ≤ (x.get 1).toInt ∧ (x.get 1).toInt < (4 : Nat) := fun x hx => ⟨hwf x hx, (hfr x hx).1, by have := (hfr x hx).2; omega⟩
  by_cases c1 : (300 : Int) < (((t.get 9).elems.length : Nat) : Int)
  · refine dc_seq (dc_seq (dc_region (ok0 gl) [] (by kernel_rfl) ?_))
    simp only [go_sem, ↓gx_tt, ↓gx_tf, ↓gx_ft, ↓gx_ff, ↓gx_u2, ↓gk_tt, ↓gk_tf, ↓gk_ff, ↓gk_ft, reduceCtorEq, Nat.reduceEqDiff, ↓reduceIte, Nat.reduceAdd, Nat.reduceSub, Nat.reduceLT, Nat.reduceMul, Nat.reduceBEq, Int.reduceLE, Int.reduceLT, Int.reduceAdd, Int.reduceSub, Int.reduceToNat, Int.reduceNeg, Int.reduceMul, Nat.reduceLeDiff, c1]
    refine dc_cond _ rfl (fun _ => ?_) (fun h => by simp at h)
    refine dc_seq (dc_region (ok0 gl) [] (by kernel_rfl) (vc_n [] ?_))
    simp only [go_sem, ↓gx_tt, ↓gx_tf, ↓gx_ft, ↓gx_ff, ↓gx_u2, ↓gk_tt, ↓gk_tf, ↓gk_ff, ↓gk_ft, reduceCtorEq, Nat.reduceEqDiff, ↓reduceIte, Nat.reduceAdd, Nat.reduceSub, Nat.reduceLT, Nat.reduceMul, Nat.reduceBEq, Int.reduceLE, Int.reduceLT, Int.reduceAdd, Int.reduceSub, Int.reduceToNat, Int.reduceNeg, Int.reduceMul, Nat.reduceLeDiff]
    refine vcR_op [(), (), (), (), (), (), (), (), ()] rfl ?_
    refine vcO_call _ (awake hg _) rfl (by simp only [go_sem]) rfl ?_ ?_ ?_ ?_ ?_ <;> simp only [go_sem, ↓gx_tt, ↓gx_tf, ↓gx_ft, ↓gx_ff, ↓gx_u2, ↓gk_tt, ↓gk_tf, ↓gk_ff, ↓gk_ft, reduceCtorEq, Nat.reduceEqDiff, ↓reduceIte, Nat.reduceAdd, Nat.reduceSub, Nat.reduceLT, Nat.reduceMul, Nat.reduceBEq, Int.reduceLE, Int.reduceLT, Int.reduceAdd, Int.reduceSub, Int.reduceToNat, Int.reduceNeg, Int.reduceMul, Nat.reduceLeDiff]
    refine dc_ret ⟨.inr rfl, ?_⟩
    simp only [retOk, go_sem, ↓gx_tt, ↓gx_tf, ↓gx_ft, ↓gx_ff, ↓gx_u2, ↓gk_tt, ↓gk_tf, ↓gk_ff, ↓gk_ft, reduceCtorEq, Nat.reduceEqDiff, ↓reduceIte, Nat.reduceAdd, Nat.reduceSub, Nat.reduceLT, Nat.reduceMul, Nat.reduceBEq, Int.reduceLE, Int.reduceLT, Int.reduceAdd, Int.reduceSub, Int.reduceToNat, Int.reduceNeg, Int.reduceMul, Nat.reduceLeDiff, Tryd.f3] <;> try rfl
  · by_cases c2 : (12 : Int) < (((((t.get 10).get 0).get 4).elems.length : Nat) : Int)
    · refine dc_seq (dc_seq (dc_region (ok0 gl) [] (by kernel_rfl) ?_))
      simp only [go_sem, ↓gx_tt, ↓gx_tf, ↓gx_ft, ↓gx_ff, ↓gx_u2, ↓gk_tt, ↓gk_tf, ↓gk_ff, ↓gk_ft, reduceCtorEq, Nat.reduceEqDiff, ↓reduceIte, Nat.reduceAdd, Nat.reduceSub, Nat.reduceLT, Nat.reduceMul, Nat.reduceBEq, Int.reduceLE, Int.reduceLT, Int.reduceAdd, Int.reduceSub, Int.reduceToNat, Int.reduceNeg, Int.reduceMul, Nat.reduceLeDiff, c1, c2]
      refine dc_cond _ rfl (fun _ => ?_) (fun h => by simp at h)
      refine dc_seq (dc_region (ok0 gl) [] (by kernel_rfl) (vc_n [] ?_))
      simp only [go_sem, ↓gx_tt, ↓gx_tf, ↓gx_ft, ↓gx_ff, ↓gx_u2, ↓gk_tt, ↓gk_tf, ↓gk_ff, ↓gk_ft, reduceCtorEq, Nat.reduceEqDiff, ↓reduceIte, Nat.reduceAdd, Nat.reduceSub, Nat.reduceLT, Nat.reduceMul, Nat.reduceBEq, Int.reduceLE, Int.reduceLT, Int.reduceAdd, Int.reduceSub, Int.reduceToNat, Int.reduceNeg, Int.reduceMul, Nat.reduceLeDiff]
      refine vcR_op [(), (), (), (), (), (), (), (), ()] rfl ?_
      refine vcO_call _ (awake hg _) rfl (by simp only [go_sem]) rfl ?_ ?_ ?_ ?_ ?_ <;> simp only [go_sem, ↓gx_tt, ↓gx_tf, ↓gx_ft, ↓gx_ff, ↓gx_u2, ↓gk_tt, ↓gk_tf, ↓gk_ff, ↓gk_ft, reduceCtorEq, Nat.reduceEqDiff, ↓reduceIte, Nat.reduceAdd, Nat.reduceSub, Nat.reduceLT, Nat.reduceMul, Nat.reduceBEq, Int.reduceLE, Int.reduceLT, Int.reduceAdd, Int.reduceSub, Int.reduceToNat, Int.reduceNeg, Int.reduceMul, Nat.reduceLeDiff]
      refine dc_ret ⟨.inr rfl, ?_⟩
      simp only [retOk, go_sem, ↓gx_tt, ↓gx_tf, ↓gx_ft, ↓gx_ff, ↓gx_u2, ↓gk_tt, ↓gk_tf, ↓gk_ff, ↓gk_ft, reduceCtorEq, Nat.reduceEqDiff, ↓reduceIte, Nat.reduceAdd, Nat.reduceSub, Nat.reduceLT, Nat.reduceMul, Nat.reduceBEq, Int.reduceLE, Int.reduceLT, Int.reduceAdd, Int.reduceSub, Int.reduceToNat, Int.reduceNeg, Int.reduceMul, Nat.reduceLeDiff, Tryd.f3] <;> try rfl
    · refine dc_seq (dc_seq (dc_region (ok0 gl) [] (by kernel_rfl) ?_))
      simp only [go_sem, ↓gx_tt, ↓gx_tf, ↓gx_ft, ↓gx_ff, ↓gx_u2, ↓gk_tt, ↓gk_tf, ↓gk_ff, ↓gk_ft, reduceCtorEq, Nat.reduceEqDiff, ↓reduceIte, Nat.reduceAdd, Nat.reduceSub, Nat.reduceLT, Nat.reduceMul, Nat.reduceBEq, Int.reduceLE, Int.reduceLT, Int.reduceAdd, Int.reduceSub, Int.reduceToNat, Int.reduceNeg, Int.reduceMul, Nat.reduceLeDiff, c1, c2]
      refine dc_cond _ rfl (fun h => by simp at h) (fun _ => dc_skip ?_)
      refine dc_seq (dc_region (ok0 gl) [] (by kernel_rfl) ?_)
      simp only [go_sem, ↓gx_tt, ↓gx_tf, ↓gx_ft, ↓gx_ff, ↓gx_u2, ↓gk_tt, ↓gk_tf, ↓gk_ff, ↓gk_ft, reduceCtorEq, Nat.reduceEqDiff, ↓reduceIte, Nat.reduceAdd, Nat.reduceSub, Nat.reduceLT, Nat.reduceMul, Nat.reduceBEq, Int.reduceLE, Int.reduceLT, Int.reduceAdd, Int.reduceSub, Int.reduceToNat, Int.reduceNeg, Int.reduceMul, Nat.reduceLeDiff]
      refine ⟨by decide, ?_⟩
      obtain ⟨hr0, hr1⟩ := room_range r
      generalize IntKind.i64.wrap ((IntKind.u64.wrap r).tmod 2000) = rm at hr0 hr1 ⊢
      refine DC.weak (s' := ⟨[(10, .ptr (.l 45027) [] tCourt), (9, .ptr (.l 38023) [] tCourt), (8, .d .bool (.bool false)), (7, .ptr (.l 7) [] tTx), (2, .d (.int .i64) (.int rm))], lawL least tb pool t, A', []⟩) ?_ ?_
      · refine weak_to rfl ?_ ?_ ?_ ?_ ?_ <;> simp only [go_sem, ↓gx_tt, ↓gx_tf, ↓gx_ft, ↓gx_ff, ↓gx_u2, ↓gk_tt, ↓gk_tf, ↓gk_ff, ↓gk_ft, reduceCtorEq, Nat.reduceEqDiff, ↓reduceIte, Nat.reduceAdd, Nat.reduceSub, Nat.reduceLT, Nat.reduceMul, Nat.reduceBEq, Int.reduceLE, Int.reduceLT, Int.reduceAdd, Int.reduceSub, Int.reduceToNat, Int.reduceNeg, Int.reduceMul, Nat.reduceLeDiff, lawL]
      unfold lawL
      refine dc_seq (dc_region (ok0 gl) [] (by kernel_rfl) (vc_n [(), ()] ?_))
      simp only [go_sem, ↓gx_tt, ↓gx_tf, ↓gx_ft, ↓gx_ff, ↓gx_u2, ↓gk_tt, ↓gk_tf, ↓gk_ff, ↓gk_ft, reduceCtorEq, Nat.reduceEqDiff, ↓reduceIte, Nat.reduceAdd, Nat.reduceSub, Nat.reduceLT, Nat.reduceMul, Nat.reduceBEq, Int.reduceLE, Int.reduceLT, Int.reduceAdd, Int.reduceSub, Int.reduceToNat, Int.reduceNeg, Int.reduceMul, Nat.reduceLeDiff]
      refine vcR_op [(), ()] rfl ?_
      refine vcO_call _ (picker_Pick hg (⟨by simp only [go_sem, ↓gx_tt, ↓gx_tf, ↓gx_ft, ↓gx_ff, ↓gx_u2, ↓gk_tt, ↓gk_tf, ↓gk_ff, ↓gk_ft, reduceCtorEq, Nat.reduceEqDiff, ↓reduceIte, Nat.reduceAdd, Nat.reduceSub, Nat.reduceLT, Nat.reduceMul, Nat.reduceBEq, Int.reduceLE, Int.reduceLT, Int.reduceAdd, Int.reduceSub, Int.reduceToNat, Int.reduceNeg, Int.reduceMul, Nat.reduceLeDiff], ⟨by simp only [go_sem, ↓gx_tt, ↓gx_tf, ↓gx_ft, ↓gx_ff, ↓gx_u2, ↓gk_tt, ↓gk_tf, ↓gk_ff, ↓gk_ft, reduceCtorEq, Nat.reduceEqDiff, ↓reduceIte, Nat.reduceAdd, Nat.reduceSub, Nat.reduceLT, Nat.reduceMul, Nat.reduceBEq, Int.reduceLE, Int.reduceLT, Int.reduceAdd, Int.reduceSub, Int.reduceToNat, Int.reduceNeg, Int.reduceMul, Nat.reduceLeDiff], by simp only [go_sem, ↓gx_tt, ↓gx_tf, ↓gx_ft, ↓gx_ff, ↓gx_u2, ↓gk_tt, ↓gk_tf, ↓gk_ff, ↓gk_ft, reduceCtorEq, Nat.reduceEqDiff, ↓reduceIte, Nat.reduceAdd, Nat.reduceSub, Nat.reduceLT, Nat.reduceMul, Nat.reduceBEq, Int.reduceLE, Int.reduceLT, Int.reduceAdd, Int.reduceSub, Int.reduceToNat, Int.reduceNeg, Int.reduceMul, Nat.reduceLeDiff], by simp only [go_sem, ↓gx_tt, ↓gx_tf, ↓gx_ft, ↓gx_ff, ↓gx_u2, ↓gk_tt, ↓gk_tf, ↓gk_ff, ↓gk_ft, reduceCtorEq, Nat.reduceEqDiff, ↓reduceIte, Nat.reduceAdd, Nat.reduceSub, Nat.reduceLT, Nat.reduceMul, Nat.reduceBEq, Int.reduceLE, Int.reduceLT, Int.reduceAdd, Int.reduceSub, Int.reduceToNat, Int.reduceNeg, Int.reduceMul, Nat.reduceLeDiff]⟩⟩ : Court4 _ (.l 38023) (.l 52023) (.l 71007) (.l 52021) (.l 59003) least pool) rm) rfl (by simp only [go_sem]) rfl ?_ ?_ ?_ ?_ ?_ <;> simp only [go_sem, ↓gx_tt, ↓gx_tf, ↓gx_ft, ↓gx_ff, ↓gx_u2, ↓gk_tt, ↓gk_tf, ↓gk_ff, ↓gk_ft, reduceCtorEq, Nat.reduceEqDiff, ↓reduceIte, Nat.reduceAdd, Nat.reduceSub, Nat.reduceLT, Nat.reduceMul, Nat.reduceBEq, Int.reduceLE, Int.reduceLT, Int.reduceAdd, Int.reduceSub, Int.reduceToNat, Int.reduceNeg, Int.reduceMul, Nat.reduceLeDiff]
      refine vcR_op [(), (), (), (), (), (), (), (), ()] rfl ?_
      refine vcO_call _ (ref29_Pick (⟨by simp only [go_sem, ↓gx_tt, ↓gx_tf, ↓gx_ft, ↓gx_ff, ↓gx_u2, ↓gk_tt, ↓gk_tf, ↓gk_ff, ↓gk_ft, reduceCtorEq, Nat.reduceEqDiff, ↓reduceIte, Nat.reduceAdd, Nat.reduceSub, Nat.reduceLT, Nat.reduceMul, Nat.reduceBEq, Int.reduceLE, Int.reduceLT, Int.reduceAdd, Int.reduceSub, Int.reduceToNat, Int.reduceNeg, Int.reduceMul, Nat.reduceLeDiff], ⟨by simp only [go_sem, ↓gx_tt, ↓gx_tf, ↓gx_ft, ↓gx_ff, ↓gx_u2, ↓gk_tt, ↓gk_tf, ↓gk_ff, ↓gk_ft, reduceCtorEq, Nat.reduceEqDiff, ↓reduceIte, Nat.reduceAdd, Nat.reduceSub, Nat.reduceLT, Nat.reduceMul, Nat.reduceBEq, Int.reduceLE, Int.reduceLT, Int.reduceAdd, Int.reduceSub, Int.reduceToNat, Int.reduceNeg, Int.reduceMul, Nat.reduceLeDiff], by simp only [go_sem, ↓gx_tt, ↓gx_tf, ↓gx_ft, ↓gx_ff, ↓gx_u2, ↓gk_tt, ↓gk_tf, ↓gk_ff, ↓gk_ft, reduceCtorEq, Nat.reduceEqDiff, ↓reduceIte, Nat.reduceAdd, Nat.reduceSub, Nat.reduceLT, Nat.reduceMul, Nat.reduceBEq, Int.reduceLE, Int.reduceLT, Int.reduceAdd, Int.reduceSub, Int.reduceToNat, Int.reduceNeg, Int.reduceMul, Nat.reduceLeDiff], by simp only [go_sem, ↓gx_tt, ↓gx_tf, ↓gx_ft, ↓gx_ff, ↓gx_u2, ↓gk_tt, ↓gk_tf, ↓gk_ff, ↓gk_ft, reduceCtorEq, Nat.reduceEqDiff, ↓reduceIte, Nat.reduceAdd, Nat.reduceSub, Nat.reduceLT, Nat.reduceMul, Nat.reduceBEq, Int.reduceLE, Int.reduceLT, Int.reduceAdd, Int.reduceSub, Int.reduceToNat, Int.reduceNeg, Int.reduceMul, Nat.reduceLeDiff]⟩⟩ : Court154 _ (.l 45027) (.l 61024) (.l 61019) (.l 61022) (.l 45024) least pool) rm rfl (by decide) (by decide) hpl hpool') rfl (by simp only [go_sem]) rfl ?_ ?_ ?_ ?_ ?_ <;> simp only [go_sem, ↓gx_tt, ↓gx_tf, ↓gx_ft, ↓gx_ff, ↓gx_u2, ↓gk_tt, ↓gk_tf, ↓gk_ff, ↓gk_ft, reduceCtorEq, Nat.reduceEqDiff, ↓reduceIte, Nat.reduceAdd, Nat.reduceSub, Nat.reduceLT, Nat.reduceMul, Nat.reduceBEq, Int.reduceLE, Int.reduceLT, Int.reduceAdd, Int.reduceSub, Int.reduceToNat, Int.reduceNeg, Int.reduceMul, Nat.reduceLeDiff]
      have hpk := pickC_in O (pool.length + 1) [] (nexts 4 [.int 0, .int 0, .int 0, .int 0] pool (fun _ => .int 0)) rm (fun p hp => by simp at hp) (by simp [countC_nil])
      have hask := fun w0 w1 => ask_same (least := least) (t := t) O hpk.1 (by have := countC_le pool.length (pickC pool (pool.length + 1) [] (nexts 4 [.int 0, .int 0, .int 0, .int 0] pool (fun _ => .int 0)) rm); omega) hr0 hr1 w0 w1
      generalize hP : pickC pool (pool.length + 1) [] (nexts 4 [.int 0, .int 0, .int 0, .int 0] pool (fun _ => .int 0)) rm = P at *
      have hP' : picks 4 [.int 0, .int 0, .int 0, .int 0] pool rm = P := hP
      refine DC.weak (s' := ⟨lawE P rm, lawL least tb pool t, A', []⟩) ?_ ?_
      · refine weak_to rfl ?_ ?_ ?_ ?_ ?_ <;> simp only [go_sem, ↓gx_tt, ↓gx_tf, ↓gx_ft, ↓gx_ff, ↓gx_u2, ↓gk_tt, ↓gk_tf, ↓gk_ff, ↓gk_ft, reduceCtorEq, Nat.reduceEqDiff, ↓reduceIte, Nat.reduceAdd, Nat.reduceSub, Nat.reduceLT, Nat.reduceMul, Nat.reduceBEq, Int.reduceLE, Int.reduceLT, Int.reduceAdd, Int.reduceSub, Int.reduceToNat, Int.reduceNeg, Int.reduceMul, Nat.reduceLeDiff, lawE, lawL]
      refine dc_facts fun W => ?_
      have hPw : C.wf (.slice 8 (.int .i64)) (.slice P) := W.at (t := 11) rfl
      clear W
      have hPl : P.length ≤ 9223372036854775807 := hPw.2.2.1
      unfold lawE lawL
      refine dc_seq (dc_seq (dc_region (ok0 gl) [] (by kernel_rfl) ?_))
      simp only [go_sem, ↓gx_tt, ↓gx_tf, ↓gx_ft, ↓gx_ff, ↓gx_u2, ↓gk_tt, ↓gk_tf, ↓gk_ff, ↓gk_ft, reduceCtorEq, Nat.reduceEqDiff, ↓reduceIte, Nat.reduceAdd, Nat.reduceSub, Nat.reduceLT, Nat.reduceMul, Nat.reduceBEq, Int.reduceLE, Int.reduceLT, Int.reduceAdd, Int.reduceSub, Int.reduceToNat, Int.reduceNeg, Int.reduceMul, Nat.reduceLeDiff]
      refine dc_cond _ rfl (fun h => by simp at h) (fun _ => dc_skip ?_)
      refine dc_seq (dc_seq (dc_region (ok0 gl) [] (by kernel_rfl) ?_))
      simp only [go_sem, ↓gx_tt, ↓gx_tf, ↓gx_ft, ↓gx_ff, ↓gx_u2, ↓gk_tt, ↓gk_tf, ↓gk_ff, ↓gk_ft, reduceCtorEq, Nat.reduceEqDiff, ↓reduceIte, Nat.reduceAdd, Nat.reduceSub, Nat.reduceLT, Nat.reduceMul, Nat.reduceBEq, Int.reduceLE, Int.reduceLT, Int.reduceAdd, Int.reduceSub, Int.reduceToNat, Int.reduceNeg, Int.reduceMul, Nat.reduceLeDiff]
      refine dc_block (dc_count (fun i => ⟨(56, .d (.int .i64) (.int i)) :: (55, .d (.int .i64) (.int P.length)) :: lawE P rm, lawL least tb pool t, A', []⟩) P.length (fun _ => True) ?_ trivial ?_)
      · refine weak_to rfl ?_ ?_ ?_ ?_ ?_ <;> simp only [go_sem, ↓gx_tt, ↓gx_tf, ↓gx_ft, ↓gx_ff, ↓gx_u2, ↓gk_tt, ↓gk_tf, ↓gk_ff, ↓gk_ft, reduceCtorEq, Nat.reduceEqDiff, ↓reduceIte, Nat.reduceAdd, Nat.reduceSub, Nat.reduceLT, Nat.reduceMul, Nat.reduceBEq, Int.reduceLE, Int.reduceLT, Int.reduceAdd, Int.reduceSub, Int.reduceToNat, Int.reduceNeg, Int.reduceMul, Nat.reduceLeDiff, lawE, lawL]
        rfl
      · intro i hi _
        unfold lawE lawL
        refine dc_seq (dc_region (ok0 gl) [] (by kernel_rfl) ?_)
        simp only [go_sem, ↓gx_tt, ↓gx_tf, ↓gx_ft, ↓gx_ff, ↓gx_u2, ↓gk_tt, ↓gk_tf, ↓gk_ff, ↓gk_ft, reduceCtorEq, Nat.reduceEqDiff, ↓reduceIte, Nat.reduceAdd, Nat.reduceSub, Nat.reduceLT, Nat.reduceMul, Nat.reduceBEq, Int.reduceLE, Int.reduceLT, Int.reduceAdd, Int.reduceSub, Int.reduceToNat, Int.reduceNeg, Int.reduceMul, Nat.reduceLeDiff]
        refine dc_seq (dc_cond _ rfl (fun hlt => dc_skip ?_) (fun hge => dc_exit ?_))
        · have hlt : i < P.length := by have := of_decide_eq_true hlt; omega
          have e1 : ((i : Int).toNat) = i := Int.toNat_natCast i
          refine dc_seq (dc_block (dc_seq (dc_region (ok0 gl) [] (by kernel_rfl) ?_)))
          simp only [go_sem, ↓gx_tt, ↓gx_tf, ↓gx_ft, ↓gx_ff, ↓gx_u2, ↓gk_tt, ↓gk_tf, ↓gk_ff, ↓gk_ft, reduceCtorEq, Nat.reduceEqDiff, ↓reduceIte, Nat.reduceAdd, Nat.reduceSub, Nat.reduceLT, Nat.reduceMul, Nat.reduceBEq, Int.reduceLE, Int.reduceLT, Int.reduceAdd, Int.reduceSub, Int.reduceToNat, Int.reduceNeg, Int.reduceMul, Nat.reduceLeDiff]
          refine dc_seq (dc_drawn (ok0 gl) (mo gl) [] [0, 0, 0, 1, 0, 0, 0, 1, 0] (by kernel_rfl) (by kernel_rfl) ?_)
          simp only [go_sem, ↓gx_tt, ↓gx_tf, ↓gx_ft, ↓gx_ff, ↓gx_u2, ↓gk_tt, ↓gk_tf, ↓gk_ff, ↓gk_ft, reduceCtorEq, Nat.reduceEqDiff, ↓reduceIte, Nat.reduceAdd, Nat.reduceSub, Nat.reduceLT, Nat.reduceMul, Nat.reduceBEq, Int.reduceLE, Int.reduceLT, Int.reduceAdd, Int.reduceSub, Int.reduceToNat, Int.reduceNeg, Int.reduceMul, Nat.reduceLeDiff, e1]
          refine ⟨by omega, by omega, by omega, by omega, ?_⟩
          refine dc_cond _ rfl (fun h => by simp at h) (fun _ => dc_skip ?_)
          refine dc_region (ok0 gl) [] (by kernel_rfl) ?_
          simp only [go_sem, ↓gx_tt, ↓gx_tf, ↓gx_ft, ↓gx_ff, ↓gx_u2, ↓gk_tt, ↓gk_tf, ↓gk_ff, ↓gk_ft, reduceCtorEq, Nat.reduceEqDiff, ↓reduceIte, Nat.reduceAdd, Nat.reduceSub, Nat.reduceLT, Nat.reduceMul, Nat.reduceBEq, Int.reduceLE, Int.reduceLT, Int.reduceAdd, Int.reduceSub, Int.reduceToNat, Int.reduceNeg, Int.reduceMul, Nat.reduceLeDiff]
          refine ⟨hlt, ?_⟩
          refine weak_to rfl ?_ ?_ ?_ ?_ ?_ <;> simp only [go_sem, ↓gx_tt, ↓gx_tf, ↓gx_ft, ↓gx_ff, ↓gx_u2, ↓gk_tt, ↓gk_tf, ↓gk_ff, ↓gk_ft, reduceCtorEq, Nat.reduceEqDiff, ↓reduceIte, Nat.reduceAdd, Nat.reduceSub, Nat.reduceLT, Nat.reduceMul, Nat.reduceBEq, Int.reduceLE, Int.reduceLT, Int.reduceAdd, Int.reduceSub, Int.reduceToNat, Int.reduceNeg, Int.reduceMul, Nat.reduceLeDiff, lawE, lawL]
          rw [IntWalk.i64_in ((i : Int) + 1) (by omega)]; rfl
        · refine dc_seq (dc_seq (dc_region (ok0 gl) [] (by kernel_rfl) ?_))
          simp only [go_sem, ↓gx_tt, ↓gx_tf, ↓gx_ft, ↓gx_ff, ↓gx_u2, ↓gk_tt, ↓gk_tf, ↓gk_ff, ↓gk_ft, reduceCtorEq, Nat.reduceEqDiff, ↓reduceIte, Nat.reduceAdd, Nat.reduceSub, Nat.reduceLT, Nat.reduceMul, Nat.reduceBEq, Int.reduceLE, Int.reduceLT, Int.reduceAdd, Int.reduceSub, Int.reduceToNat, Int.reduceNeg, Int.reduceMul, Nat.reduceLeDiff]
          refine dc_block (dc_count (fun i => ⟨(74, .d (.int .i64) (.int i)) :: (73, .d (.int .i64) (.int pool.length)) :: (72, .d (.slice 2368 tTx) (.slice pool)) :: lawE P rm, lawL least tb pool t, A', []⟩) pool.length (fun _ => True) ?_ trivial ?_)
          · refine weak_to rfl ?_ ?_ ?_ ?_ ?_ <;> simp only [go_sem, ↓gx_tt, ↓gx_tf, ↓gx_ft, ↓gx_ff, ↓gx_u2, ↓gk_tt, ↓gk_tf, ↓gk_ff, ↓gk_ft, reduceCtorEq, Nat.reduceEqDiff, ↓reduceIte, Nat.reduceAdd, Nat.reduceSub, Nat.reduceLT, Nat.reduceMul, Nat.reduceBEq, Int.reduceLE, Int.reduceLT, Int.reduceAdd, Int.reduceSub, Int.reduceToNat, Int.reduceNeg, Int.reduceMul, Nat.reduceLeDiff, lawE, lawL]
            rfl
          · intro i hi _
            unfold lawE lawL
            refine dc_seq (dc_region (ok0 gl) [] (by kernel_rfl) ?_)
            simp only [go_sem, ↓gx_tt, ↓gx_tf, ↓gx_ft, ↓gx_ff, ↓gx_u2, ↓gk_tt, ↓gk_tf, ↓gk_ff, ↓gk_ft, reduceCtorEq, Nat.reduceEqDiff, ↓reduceIte, Nat.reduceAdd, Nat.reduceSub, Nat.reduceLT, Nat.reduceMul, Nat.reduceBEq, Int.reduceLE, Int.reduceLT, Int.reduceAdd, Int.reduceSub, Int.reduceToNat, Int.reduceNeg, Int.reduceMul, Nat.reduceLeDiff]
            refine dc_seq (dc_cond _ rfl (fun hlt => dc_skip ?_) (fun hge => dc_exit ?_))
            · have hlt : i < pool.length := by have := of_decide_eq_true hlt; omega
              have e1 : ((i : Int).toNat) = i := Int.toNat_natCast i
              refine dc_seq (dc_block (dc_seq (dc_region (ok0 gl) [] (by kernel_rfl) ?_)))
              simp only [go_sem, ↓gx_tt, ↓gx_tf, ↓gx_ft, ↓gx_ff, ↓gx_u2, ↓gk_tt, ↓gk_tf, ↓gk_ff, ↓gk_ft, reduceCtorEq, Nat.reduceEqDiff, ↓reduceIte, Nat.reduceAdd, Nat.reduceSub, Nat.reduceLT, Nat.reduceMul, Nat.reduceBEq, Int.reduceLE, Int.reduceLT, Int.reduceAdd, Int.reduceSub, Int.reduceToNat, Int.reduceNeg, Int.reduceMul, Nat.reduceLeDiff, e1]
              refine ⟨by omega, by omega, ?_⟩
              generalize hx : pool.getD i .nil = x
              refine dc_seq (dc_drawn (ok0 gl) (mo gl) [] [1, 1, 1, 1, 1, 0] (by kernel_rfl) (by kernel_rfl) (vd_n [()] ?_))
              simp only [go_sem, ↓gx_tt, ↓gx_tf, ↓gx_ft, ↓gx_ff, ↓gx_u2, ↓gk_tt, ↓gk_tf, ↓gk_ff, ↓gk_ft, reduceCtorEq, Nat.reduceEqDiff, ↓reduceIte, Nat.reduceAdd, Nat.reduceSub, Nat.reduceLT, Nat.reduceMul, Nat.reduceBEq, Int.reduceLE, Int.reduceLT, Int.reduceAdd, Int.reduceSub, Int.reduceToNat, Int.reduceNeg, Int.reduceMul, Nat.reduceLeDiff]
              refine vdR_op [] rfl ?_
              refine vdO_calli _ (law15_To _ x) rfl rfl (by simp only [go_sem]) rfl ?_ rfl ?_ ?_ ?_ <;> simp only [go_sem, ↓gx_tt, ↓gx_tf, ↓gx_ft, ↓gx_ff, ↓gx_u2, ↓gk_tt, ↓gk_tf, ↓gk_ff, ↓gk_ft, reduceCtorEq, Nat.reduceEqDiff, ↓reduceIte, Nat.reduceAdd, Nat.reduceSub, Nat.reduceLT, Nat.reduceMul, Nat.reduceBEq, Int.reduceLE, Int.reduceLT, Int.reduceAdd, Int.reduceSub, Int.reduceToNat, Int.reduceNeg, Int.reduceMul, Nat.reduceLeDiff]
              refine vdR_op [()] rfl ?_
              refine vdO_calli _ (weight hg _ x) rfl rfl (by simp only [go_sem]) rfl ?_ rfl ?_ ?_ ?_ <;> simp only [go_sem, ↓gx_tt, ↓gx_tf, ↓gx_ft, ↓gx_ff, ↓gx_u2, ↓gk_tt, ↓gk_tf, ↓gk_ff, ↓gk_ft, reduceCtorEq, Nat.reduceEqDiff, ↓reduceIte, Nat.reduceAdd, Nat.reduceSub, Nat.reduceLT, Nat.reduceMul, Nat.reduceBEq, Int.reduceLE, Int.reduceLT, Int.reduceAdd, Int.reduceSub, Int.reduceToNat, Int.reduceNeg, Int.reduceMul, Nat.reduceLeDiff]
              refine vdR_op [(), (), (), (), (), (), (), (), ()] rfl ?_
              refine vdO_calli _ (ref29_Weight _ x) rfl rfl (by simp only [go_sem]) rfl ?_ rfl ?_ ?_ ?_ <;> simp only [go_sem, ↓gx_tt, ↓gx_tf, ↓gx_ft, ↓gx_ff, ↓gx_u2, ↓gk_tt, ↓gk_tf, ↓gk_ff, ↓gk_ft, reduceCtorEq, Nat.reduceEqDiff, ↓reduceIte, Nat.reduceAdd, Nat.reduceSub, Nat.reduceLT, Nat.reduceMul, Nat.reduceBEq, Int.reduceLE, Int.reduceLT, Int.reduceAdd, Int.reduceSub, Int.reduceToNat, Int.reduceNeg, Int.reduceMul, Nat.reduceLeDiff]
              refine dc_cond _ rfl (fun h => by simp at h) (fun _ => dc_skip ?_)
              refine dc_region (ok0 gl) [] (by kernel_rfl) ?_
              simp only [go_sem, ↓gx_tt, ↓gx_tf, ↓gx_ft, ↓gx_ff, ↓gx_u2, ↓gk_tt, ↓gk_tf, ↓gk_ff, ↓gk_ft, reduceCtorEq, Nat.reduceEqDiff, ↓reduceIte, Nat.reduceAdd, Nat.reduceSub, Nat.reduceLT, Nat.reduceMul, Nat.reduceBEq, Int.reduceLE, Int.reduceLT, Int.reduceAdd, Int.reduceSub, Int.reduceToNat, Int.reduceNeg, Int.reduceMul, Nat.reduceLeDiff]
              refine ⟨hlt, ?_⟩
              refine weak_to rfl ?_ ?_ ?_ ?_ ?_ <;> simp only [go_sem, ↓gx_tt, ↓gx_tf, ↓gx_ft, ↓gx_ff, ↓gx_u2, ↓gk_tt, ↓gk_tf, ↓gk_ff, ↓gk_ft, reduceCtorEq, Nat.reduceEqDiff, ↓reduceIte, Nat.reduceAdd, Nat.reduceSub, Nat.reduceLT, Nat.reduceMul, Nat.reduceBEq, Int.reduceLE, Int.reduceLT, Int.reduceAdd, Int.reduceSub, Int.reduceToNat, Int.reduceNeg, Int.reduceMul, Nat.reduceLeDiff, lawE, lawL]
              rw [IntWalk.i64_in ((i : Int) + 1) (by omega)]; rfl
            · have hwt : 1 ≤ weightC t ∧ weightC t ≤ 29 := by
                unfold weightC wt
                split
                · omega
                · rename_i h
                  have h1 : 1 ≤ (weights.getD (t.get 0).toInt.toNat .nil).toInt := by
                    have h3 : (t.get 0).toInt.toNat < 8 := by omega
                    generalize (t.get 0).toInt.toNat = i at h3
                    match i, h3 with
                    | 0, _ | 1, _ | 2, _ | 3, _ | 4, _ | 5, _ | 6, _ | 7, _ => decide
                  have h4 := (weights_range (t.get 0).toInt).2
                  omega
              have hq := hask hwt.1 hwt.2
              refine dc_seq (dc_drawn (ok0 gl) (mo gl) [] [1, 0, 1, 1, 1, 1, 1, 0, 0, 0, 0, 0, 1, 1, 1, 0, 0, 1, 1, 0, 0, 0] (by kernel_rfl) (by kernel_rfl) (vd_n [] ?_))
              simp only [go_sem, ↓gx_tt, ↓gx_tf, ↓gx_ft, ↓gx_ff, ↓gx_u2, ↓gk_tt, ↓gk_tf, ↓gk_ff, ↓gk_ft, reduceCtorEq, Nat.reduceEqDiff, ↓reduceIte, Nat.reduceAdd, Nat.reduceSub, Nat.reduceLT, Nat.reduceMul, Nat.reduceBEq, Int.reduceLE, Int.reduceLT, Int.reduceAdd, Int.reduceSub, Int.reduceToNat, Int.reduceNeg, Int.reduceMul, Nat.reduceLeDiff]
              refine vdR_op [(), ()] rfl ?_
              refine vdO_calli _ (awake hg _) rfl rfl (by simp only [go_sem]) rfl ?_ rfl ?_ ?_ ?_ <;> simp only [go_sem, ↓gx_tt, ↓gx_tf, ↓gx_ft, ↓gx_ff, ↓gx_u2, ↓gk_tt, ↓gk_tf, ↓gk_ff, ↓gk_ft, reduceCtorEq, Nat.reduceEqDiff, ↓reduceIte, Nat.reduceAdd, Nat.reduceSub, Nat.reduceLT, Nat.reduceMul, Nat.reduceBEq, Int.reduceLE, Int.reduceLT, Int.reduceAdd, Int.reduceSub, Int.reduceToNat, Int.reduceNeg, Int.reduceMul, Nat.reduceLeDiff]
              refine vdR_guard [] true rfl rfl rfl (fun _ => ?_) (fun h => absurd rfl h)
              refine vdO_calli _ (law15_To _ t) rfl rfl (by simp only [go_sem]) rfl ?_ rfl ?_ ?_ ?_ <;> simp only [go_sem, ↓gx_tt, ↓gx_tf, ↓gx_ft, ↓gx_ff, ↓gx_u2, ↓gk_tt, ↓gk_tf, ↓gk_ff, ↓gk_ft, reduceCtorEq, Nat.reduceEqDiff, ↓reduceIte, Nat.reduceAdd, Nat.reduceSub, Nat.reduceLT, Nat.reduceMul, Nat.reduceBEq, Int.reduceLE, Int.reduceLT, Int.reduceAdd, Int.reduceSub, Int.reduceToNat, Int.reduceNeg, Int.reduceMul, Nat.reduceLeDiff]
              refine vdR_guard [()] true rfl rfl rfl (fun _ => ?_) (fun h => absurd rfl h)
              refine vdO_calli _ (weight hg _ t) rfl rfl (by simp only [go_sem]) rfl ?_ rfl ?_ ?_ ?_ <;> simp only [go_sem, ↓gx_tt, ↓gx_tf, ↓gx_ft, ↓gx_ff, ↓gx_u2, ↓gk_tt, ↓gk_tf, ↓gk_ff, ↓gk_ft, reduceCtorEq, Nat.reduceEqDiff, ↓reduceIte, Nat.reduceAdd, Nat.reduceSub, Nat.reduceLT, Nat.reduceMul, Nat.reduceBEq, Int.reduceLE, Int.reduceLT, Int.reduceAdd, Int.reduceSub, Int.reduceToNat, Int.reduceNeg, Int.reduceMul, Nat.reduceLeDiff]
              refine vdR_guard [(), (), (), (), (), ()] true rfl rfl rfl (fun _ => ?_) (fun h => absurd rfl h)
              refine vdO_calli _ (ref29_Weight _ t) rfl rfl (by simp only [go_sem]) rfl ?_ rfl ?_ ?_ ?_ <;> simp only [go_sem, ↓gx_tt, ↓gx_tf, ↓gx_ft, ↓gx_ff, ↓gx_u2, ↓gk_tt, ↓gk_tf, ↓gk_ff, ↓gk_ft, reduceCtorEq, Nat.reduceEqDiff, ↓reduceIte, Nat.reduceAdd, Nat.reduceSub, Nat.reduceLT, Nat.reduceMul, Nat.reduceBEq, Int.reduceLE, Int.reduceLT, Int.reduceAdd, Int.reduceSub, Int.reduceToNat, Int.reduceNeg, Int.reduceMul, Nat.reduceLeDiff]
              refine vdR_guard [] true rfl rfl rfl (fun _ => ?_) (fun h => absurd rfl h)
              refine vdO_calli _ (law15_To _ t) rfl rfl (by simp only [go_sem]) rfl ?_ rfl ?_ ?_ ?_ <;> simp only [go_sem, ↓gx_tt, ↓gx_tf, ↓gx_ft, ↓gx_ff, ↓gx_u2, ↓gk_tt, ↓gk_tf, ↓gk_ff, ↓gk_ft, reduceCtorEq, Nat.reduceEqDiff, ↓reduceIte, Nat.reduceAdd, Nat.reduceSub, Nat.reduceLT, Nat.reduceMul, Nat.reduceBEq, Int.reduceLE, Int.reduceLT, Int.reduceAdd, Int.reduceSub, Int.reduceToNat, Int.reduceNeg, Int.reduceMul, Nat.reduceLeDiff]
              refine vdR_guard [(), (), ()] true rfl rfl rfl (fun _ => ?_) (fun h => absurd rfl h)
              refine vdO_calli _ (picker_Ask hg (⟨by simp only [go_sem, ↓gx_tt, ↓gx_tf, ↓gx_ft, ↓gx_ff, ↓gx_u2, ↓gk_tt, ↓gk_tf, ↓gk_ff, ↓gk_ft, reduceCtorEq, Nat.reduceEqDiff, ↓reduceIte, Nat.reduceAdd, Nat.reduceSub, Nat.reduceLT, Nat.reduceMul, Nat.reduceBEq, Int.reduceLE, Int.reduceLT, Int.reduceAdd, Int.reduceSub, Int.reduceToNat, Int.reduceNeg, Int.reduceMul, Nat.reduceLeDiff], ⟨by simp only [go_sem, ↓gx_tt, ↓gx_tf, ↓gx_ft, ↓gx_ff, ↓gx_u2, ↓gk_tt, ↓gk_tf, ↓gk_ff, ↓gk_ft, reduceCtorEq, Nat.reduceEqDiff, ↓reduceIte, Nat.reduceAdd, Nat.reduceSub, Nat.reduceLT, Nat.reduceMul, Nat.reduceBEq, Int.reduceLE, Int.reduceLT, Int.reduceAdd, Int.reduceSub, Int.reduceToNat, Int.reduceNeg, Int.reduceMul, Nat.reduceLeDiff], by simp only [go_sem, ↓gx_tt, ↓gx_tf, ↓gx_ft, ↓gx_ff, ↓gx_u2, ↓gk_tt, ↓gk_tf, ↓gk_ff, ↓gk_ft, reduceCtorEq, Nat.reduceEqDiff, ↓reduceIte, Nat.reduceAdd, Nat.reduceSub, Nat.reduceLT, Nat.reduceMul, Nat.reduceBEq, Int.reduceLE, Int.reduceLT, Int.reduceAdd, Int.reduceSub, Int.reduceToNat, Int.reduceNeg, Int.reduceMul, Nat.reduceLeDiff], by simp only [go_sem, ↓gx_tt, ↓gx_tf, ↓gx_ft, ↓gx_ff, ↓gx_u2, ↓gk_tt, ↓gk_tf, ↓gk_ff, ↓gk_ft, reduceCtorEq, Nat.reduceEqDiff, ↓reduceIte, Nat.reduceAdd, Nat.reduceSub, Nat.reduceLT, Nat.reduceMul, Nat.reduceBEq, Int.reduceLE, Int.reduceLT, Int.reduceAdd, Int.reduceSub, Int.reduceToNat, Int.reduceNeg, Int.reduceMul, Nat.reduceLeDiff]⟩⟩ : Court4 _ (.l 38023) (.l 52023) (.l 71007) (.l 52021) (.l 59003) least pool) O rm t) rfl rfl (by simp only [go_sem]) rfl ?_ rfl ?_ ?_ ?_ <;> simp only [go_sem, ↓gx_tt, ↓gx_tf, ↓gx_ft, ↓gx_ff, ↓gx_u2, ↓gk_tt, ↓gk_tf, ↓gk_ff, ↓gk_ft, reduceCtorEq, Nat.reduceEqDiff, ↓reduceIte, Nat.reduceAdd, Nat.reduceSub, Nat.reduceLT, Nat.reduceMul, Nat.reduceBEq, Int.reduceLE, Int.reduceLT, Int.reduceAdd, Int.reduceSub, Int.reduceToNat, Int.reduceNeg, Int.reduceMul, Nat.reduceLeDiff, hP']
              refine vdR_guard [(), (), (), (), (), (), (), (), ()] true rfl rfl rfl (fun _ => ?_) (fun h => absurd rfl h)
              refine vdO_calli _ (ref29_Ask (⟨by simp only [go_sem, ↓gx_tt, ↓gx_tf, ↓gx_ft, ↓gx_ff, ↓gx_u2, ↓gk_tt, ↓gk_tf, ↓gk_ff, ↓gk_ft, reduceCtorEq, Nat.reduceEqDiff, ↓reduceIte, Nat.reduceAdd, Nat.reduceSub, Nat.reduceLT, Nat.reduceMul, Nat.reduceBEq, Int.reduceLE, Int.reduceLT, Int.reduceAdd, Int.reduceSub, Int.reduceToNat, Int.reduceNeg, Int.reduceMul, Nat.reduceLeDiff], ⟨by simp only [go_sem, ↓gx_tt, ↓gx_tf, ↓gx_ft, ↓gx_ff, ↓gx_u2, ↓gk_tt, ↓gk_tf, ↓gk_ff, ↓gk_ft, reduceCtorEq, Nat.reduceEqDiff, ↓reduceIte, Nat.reduceAdd, Nat.reduceSub, Nat.reduceLT, Nat.reduceMul, Nat.reduceBEq, Int.reduceLE, Int.reduceLT, Int.reduceAdd, Int.reduceSub, Int.reduceToNat, Int.reduceNeg, Int.reduceMul, Nat.reduceLeDiff], by simp only [go_sem, ↓gx_tt, ↓gx_tf, ↓gx_ft, ↓gx_ff, ↓gx_u2, ↓gk_tt, ↓gk_tf, ↓gk_ff, ↓gk_ft, reduceCtorEq, Nat.reduceEqDiff, ↓reduceIte, Nat.reduceAdd, Nat.reduceSub, Nat.reduceLT, Nat.reduceMul, Nat.reduceBEq, Int.reduceLE, Int.reduceLT, Int.reduceAdd, Int.reduceSub, Int.reduceToNat, Int.reduceNeg, Int.reduceMul, Nat.reduceLeDiff], by simp only [go_sem, ↓gx_tt, ↓gx_tf, ↓gx_ft, ↓gx_ff, ↓gx_u2, ↓gk_tt, ↓gk_tf, ↓gk_ff, ↓gk_ft, reduceCtorEq, Nat.reduceEqDiff, ↓reduceIte, Nat.reduceAdd, Nat.reduceSub, Nat.reduceLT, Nat.reduceMul, Nat.reduceBEq, Int.reduceLE, Int.reduceLT, Int.reduceAdd, Int.reduceSub, Int.reduceToNat, Int.reduceNeg, Int.reduceMul, Nat.reduceLeDiff]⟩⟩ : Court154 _ (.l 45027) (.l 61024) (.l 61019) (.l 61022) (.l 45024) least pool) rfl (by decide) (by decide) hpool' O rm t) rfl rfl (by simp only [go_sem]) rfl ?_ rfl ?_ ?_ ?_ <;> simp only [go_sem, ↓gx_tt, ↓gx_tf, ↓gx_ft, ↓gx_ff, ↓gx_u2, ↓gk_tt, ↓gk_tf, ↓gk_ff, ↓gk_ft, reduceCtorEq, Nat.reduceEqDiff, ↓reduceIte, Nat.reduceAdd, Nat.reduceSub, Nat.reduceLT, Nat.reduceMul, Nat.reduceBEq, Int.reduceLE, Int.reduceLT, Int.reduceAdd, Int.reduceSub, Int.reduceToNat, Int.reduceNeg, Int.reduceMul, Nat.reduceLeDiff, hP', hq]
              refine dc_ret ⟨.inr rfl, ?_⟩
              simp only [retOk, go_sem, ↓gx_tt, ↓gx_tf, ↓gx_ft, ↓gx_ff, ↓gx_u2, ↓gk_tt, ↓gk_tf, ↓gk_ff, ↓gk_ft, reduceCtorEq, Nat.reduceEqDiff, ↓reduceIte, Nat.reduceAdd, Nat.reduceSub, Nat.reduceLT, Nat.reduceMul, Nat.reduceBEq, Int.reduceLE, Int.reduceLT, Int.reduceAdd, Int.reduceSub, Int.reduceToNat, Int.reduceNeg, Int.reduceMul, Nat.reduceLeDiff, Tryd.f3] <;> try rfl
end Go.Proofs.YtajbalbnmaljnaaDoor
