/-
  What the functions on the way compute, part 1.
  Conditions: none.
-/
import Derived.Test.YtkbkpgnngfemnaaGreatDoorTf
import Derived.Laws.Externs
set_option linter.all false
namespace Go.Proofs.YtkbkpgnngfemnaaGreatDoor
open Go Go.E
set_option maxRecDepth 10000
set_option linter.unusedSimpArgs false
variable {gl : Nat → Option (Ty × C)}
/-- A slice alike. -/
theorem clone_Tx (A : Key → Option O) (cs : List C) : DCalls (X0 gl) 25 [.d (.slice 2368 tTx) (.slice cs)] A (.ts 2368 tTx cs) [] := by
  refine dcalls_intro (n := 8) (ok0 gl) Tryz.func25 rfl rfl (by simp) ?_
  intro A' hA
  refine dc_seq (dc_region (ok0 gl) [] (by kernel_rfl) ?_)
  simp only [go_sem, ↓gx_tt, ↓gx_tf, ↓gx_ft, ↓gx_ff, ↓gx_u2, ↓gk_tt, ↓gk_tf, ↓gk_ff, ↓gk_ft, reduceCtorEq, Nat.reduceEqDiff, ↓reduceIte, Nat.reduceAdd, Nat.reduceSub, Nat.reduceLT, Nat.reduceMul, Nat.reduceBEq, Int.reduceLE, Int.reduceLT, Int.reduceAdd, Int.reduceSub, Int.reduceToNat, Int.reduceNeg, Int.reduceMul, Nat.reduceLeDiff]
  refine dc_seq (dc_seq (dc_region (ok0 gl) [] (by kernel_rfl) ?_))
  cases cs with
  | nil =>
    simp only [go_sem, ↓gx_tt, ↓gx_tf, ↓gx_ft, ↓gx_ff, ↓gx_u2, ↓gk_tt, ↓gk_tf, ↓gk_ff, ↓gk_ft, reduceCtorEq, Nat.reduceEqDiff, ↓reduceIte, Nat.reduceAdd, Nat.reduceSub, Nat.reduceLT, Nat.reduceMul, Nat.reduceBEq, Int.reduceLE, Int.reduceLT, Int.reduceAdd, Int.reduceSub, Int.reduceToNat, Int.reduceNeg, Int.reduceMul, Nat.reduceLeDiff]
    refine dc_cond_top rfl ?_ (dc_skip ?_)
    · refine dc_seq (dc_region (ok0 gl) [] (by kernel_rfl) ?_)
      simp only [go_sem, ↓gx_tt, ↓gx_tf, ↓gx_ft, ↓gx_ff, ↓gx_u2, ↓gk_tt, ↓gk_tf, ↓gk_ff, ↓gk_ft, reduceCtorEq, Nat.reduceEqDiff, ↓reduceIte, Nat.reduceAdd, Nat.reduceSub, Nat.reduceLT, Nat.reduceMul, Nat.reduceBEq, Int.reduceLE, Int.reduceLT, Int.reduceAdd, Int.reduceSub, Int.reduceToNat, Int.reduceNeg, Int.reduceMul, Nat.reduceLeDiff]
      refine dc_ret ⟨.inr rfl, ?_⟩
      simp only [retOk, go_sem, ↓gx_tt, ↓gx_tf, ↓gx_ft, ↓gx_ff, ↓gx_u2, ↓gk_tt, ↓gk_tf, ↓gk_ff, ↓gk_ft, reduceCtorEq, Nat.reduceEqDiff, ↓reduceIte, Nat.reduceAdd, Nat.reduceSub, Nat.reduceLT, Nat.reduceMul, Nat.reduceBEq, Int.reduceLE, Int.reduceLT, Int.reduceAdd, Int.reduceSub, Int.reduceToNat, Int.reduceNeg, Int.reduceMul, Nat.reduceLeDiff, Tryz.f25]
    · refine dc_seq (dc_region (ok0 gl) [] (by kernel_rfl) ?_)
      simp only [go_sem, ↓gx_tt, ↓gx_tf, ↓gx_ft, ↓gx_ff, ↓gx_u2, ↓gk_tt, ↓gk_tf, ↓gk_ff, ↓gk_ft, reduceCtorEq, Nat.reduceEqDiff, ↓reduceIte, Nat.reduceAdd, Nat.reduceSub, Nat.reduceLT, Nat.reduceMul, Nat.reduceBEq, Int.reduceLE, Int.reduceLT, Int.reduceAdd, Int.reduceSub, Int.reduceToNat, Int.reduceNeg, Int.reduceMul, Nat.reduceLeDiff]
      refine dc_ret ⟨.inr rfl, ?_⟩
      simp only [retOk, go_sem, ↓gx_tt, ↓gx_tf, ↓gx_ft, ↓gx_ff, ↓gx_u2, ↓gk_tt, ↓gk_tf, ↓gk_ff, ↓gk_ft, reduceCtorEq, Nat.reduceEqDiff, ↓reduceIte, Nat.reduceAdd, Nat.reduceSub, Nat.reduceLT, Nat.reduceMul, Nat.reduceBEq, Int.reduceLE, Int.reduceLT, Int.reduceAdd, Int.reduceSub, Int.reduceToNat, Int.reduceNeg, Int.reduceMul, Nat.reduceLeDiff, Tryz.f25]
  | cons c cs =>
    simp only [go_sem, ↓gx_tt, ↓gx_tf, ↓gx_ft, ↓gx_ff, ↓gx_u2, ↓gk_tt, ↓gk_tf, ↓gk_ff, ↓gk_ft, reduceCtorEq, Nat.reduceEqDiff, ↓reduceIte, Nat.reduceAdd, Nat.reduceSub, Nat.reduceLT, Nat.reduceMul, Nat.reduceBEq, Int.reduceLE, Int.reduceLT, Int.reduceAdd, Int.reduceSub, Int.reduceToNat, Int.reduceNeg, Int.reduceMul, Nat.reduceLeDiff]
    refine dc_cond _ rfl (fun h => by simp at h) (fun _ => dc_skip ?_)
    refine dc_seq (dc_region (ok0 gl) [] (by kernel_rfl) ?_)
    simp only [go_sem, ↓gx_tt, ↓gx_tf, ↓gx_ft, ↓gx_ff, ↓gx_u2, ↓gk_tt, ↓gk_tf, ↓gk_ff, ↓gk_ft, reduceCtorEq, Nat.reduceEqDiff, ↓reduceIte, Nat.reduceAdd, Nat.reduceSub, Nat.reduceLT, Nat.reduceMul, Nat.reduceBEq, Int.reduceLE, Int.reduceLT, Int.reduceAdd, Int.reduceSub, Int.reduceToNat, Int.reduceNeg, Int.reduceMul, Nat.reduceLeDiff]
    refine dc_ret ⟨.inr rfl, ?_⟩
    simp only [retOk, go_sem, ↓gx_tt, ↓gx_tf, ↓gx_ft, ↓gx_ff, ↓gx_u2, ↓gk_tt, ↓gk_tf, ↓gk_ff, ↓gk_ft, reduceCtorEq, Nat.reduceEqDiff, ↓reduceIte, Nat.reduceAdd, Nat.reduceSub, Nat.reduceLT, Nat.reduceMul, Nat.reduceBEq, Int.reduceLE, Int.reduceLT, Int.reduceAdd, Int.reduceSub, Int.reduceToNat, Int.reduceNeg, Int.reduceMul, Nat.reduceLeDiff, Tryz.f25]
/-- The same, as an array of its own. -/
theorem clone_Tx_arr (A : Key → Option O) (cs : List C) (hne : cs ≠ []) : DCalls (X0 gl) 25 [.d (.slice 2368 tTx) (.slice cs)] A (.sr (.l 7) [] 0 cs.length none 2368 tTx) [(.l 7, .box (.d (.arr cs.length tTx) (.agg cs)))] := by
  refine dcalls_intro (n := 8) (ok0 gl) Tryz.func25 rfl rfl (by simp) ?_
  intro A' hA
  refine dc_seq (dc_region (ok0 gl) [] (by kernel_rfl) ?_)
  simp only [go_sem, ↓gx_tt, ↓gx_tf, ↓gx_ft, ↓gx_ff, ↓gx_u2, ↓gk_tt, ↓gk_tf, ↓gk_ff, ↓gk_ft, reduceCtorEq, Nat.reduceEqDiff, ↓reduceIte, Nat.reduceAdd, Nat.reduceSub, Nat.reduceLT, Nat.reduceMul, Nat.reduceBEq, Int.reduceLE, Int.reduceLT, Int.reduceAdd, Int.reduceSub, Int.reduceToNat, Int.reduceNeg, Int.reduceMul, Nat.reduceLeDiff]
  cases cs with
  | nil => exact absurd rfl hne
  | cons c cs =>
    refine dc_seq (dc_seq (dc_region (ok0 gl) [] (by kernel_rfl) ?_))
    simp only [go_sem, ↓gx_tt, ↓gx_tf, ↓gx_ft, ↓gx_ff, ↓gx_u2, ↓gk_tt, ↓gk_tf, ↓gk_ff, ↓gk_ft, reduceCtorEq, Nat.reduceEqDiff, ↓reduceIte, Nat.reduceAdd, Nat.reduceSub, Nat.reduceLT, Nat.reduceMul, Nat.reduceBEq, Int.reduceLE, Int.reduceLT, Int.reduceAdd, Int.reduceSub, Int.reduceToNat, Int.reduceNeg, Int.reduceMul, Nat.reduceLeDiff]
    refine dc_cond _ rfl (fun h => by simp at h) (fun _ => dc_skip ?_)
    refine dc_seq (dc_region (ok0 gl) [(7, 3)] (by kernel_rfl) ?_)
    simp only [go_sem, ↓gx_tt, ↓gx_tf, ↓gx_ft, ↓gx_ff, ↓gx_u2, ↓gk_tt, ↓gk_tf, ↓gk_ff, ↓gk_ft, reduceCtorEq, Nat.reduceEqDiff, ↓reduceIte, Nat.reduceAdd, Nat.reduceSub, Nat.reduceLT, Nat.reduceMul, Nat.reduceBEq, Int.reduceLE, Int.reduceLT, Int.reduceAdd, Int.reduceSub, Int.reduceToNat, Int.reduceNeg, Int.reduceMul, Nat.reduceLeDiff]
    refine dc_ret ⟨.inr rfl, ?_⟩
    simp only [retOk, go_sem, ↓gx_tt, ↓gx_tf, ↓gx_ft, ↓gx_ff, ↓gx_u2, ↓gk_tt, ↓gk_tf, ↓gk_ff, ↓gk_ft, reduceCtorEq, Nat.reduceEqDiff, ↓reduceIte, Nat.reduceAdd, Nat.reduceSub, Nat.reduceLT, Nat.reduceMul, Nat.reduceBEq, Int.reduceLE, Int.reduceLT, Int.reduceAdd, Int.reduceSub, Int.reduceToNat, Int.reduceNeg, Int.reduceMul, Nat.reduceLeDiff, Tryz.f25] <;> try rfl
/-- A slice alike. -/
theorem clone_Byte (A : Key → Option O) (cs : List C) : DCalls (X0 gl) 23 [.d (.slice 1 (.int .u8)) (.slice cs)] A (.ts 1 (.int .u8) cs) [] := by
  refine dcalls_intro (n := 8) (ok0 gl) Tryz.func23 rfl rfl (by simp) ?_
  intro A' hA
  refine dc_seq (dc_region (ok0 gl) [] (by kernel_rfl) ?_)
  simp only [go_sem, ↓gx_tt, ↓gx_tf, ↓gx_ft, ↓gx_ff, ↓gx_u2, ↓gk_tt, ↓gk_tf, ↓gk_ff, ↓gk_ft, reduceCtorEq, Nat.reduceEqDiff, ↓reduceIte, Nat.reduceAdd, Nat.reduceSub, Nat.reduceLT, Nat.reduceMul, Nat.reduceBEq, Int.reduceLE, Int.reduceLT, Int.reduceAdd, Int.reduceSub, Int.reduceToNat, Int.reduceNeg, Int.reduceMul, Nat.reduceLeDiff]
  refine dc_seq (dc_seq (dc_region (ok0 gl) [] (by kernel_rfl) ?_))
  cases cs with
  | nil =>
    simp only [go_sem, ↓gx_tt, ↓gx_tf, ↓gx_ft, ↓gx_ff, ↓gx_u2, ↓gk_tt, ↓gk_tf, ↓gk_ff, ↓gk_ft, reduceCtorEq, Nat.reduceEqDiff, ↓reduceIte, Nat.reduceAdd, Nat.reduceSub, Nat.reduceLT, Nat.reduceMul, Nat.reduceBEq, Int.reduceLE, Int.reduceLT, Int.reduceAdd, Int.reduceSub, Int.reduceToNat, Int.reduceNeg, Int.reduceMul, Nat.reduceLeDiff]
    refine dc_cond_top rfl ?_ (dc_skip ?_)
    · refine dc_seq (dc_region (ok0 gl) [] (by kernel_rfl) ?_)
      simp only [go_sem, ↓gx_tt, ↓gx_tf, ↓gx_ft, ↓gx_ff, ↓gx_u2, ↓gk_tt, ↓gk_tf, ↓gk_ff, ↓gk_ft, reduceCtorEq, Nat.reduceEqDiff, ↓reduceIte, Nat.reduceAdd, Nat.reduceSub, Nat.reduceLT, Nat.reduceMul, Nat.reduceBEq, Int.reduceLE, Int.reduceLT, Int.reduceAdd, Int.reduceSub, Int.reduceToNat, Int.reduceNeg, Int.reduceMul, Nat.reduceLeDiff]
      refine dc_ret ⟨.inr rfl, ?_⟩
      simp only [retOk, go_sem, ↓gx_tt, ↓gx_tf, ↓gx_ft, ↓gx_ff, ↓gx_u2, ↓gk_tt, ↓gk_tf, ↓gk_ff, ↓gk_ft, reduceCtorEq, Nat.reduceEqDiff, ↓reduceIte, Nat.reduceAdd, Nat.reduceSub, Nat.reduceLT, Nat.reduceMul, Nat.reduceBEq, Int.reduceLE, Int.reduceLT, Int.reduceAdd, Int.reduceSub, Int.reduceToNat, Int.reduceNeg, Int.reduceMul, Nat.reduceLeDiff, Tryz.f23]
    · refine dc_seq (dc_region (ok0 gl) [] (by kernel_rfl) ?_)
      simp only [go_sem, ↓gx_tt, ↓gx_tf, ↓gx_ft, ↓gx_ff, ↓gx_u2, ↓gk_tt, ↓gk_tf, ↓gk_ff, ↓gk_ft, reduceCtorEq, Nat.reduceEqDiff, ↓reduceIte, Nat.reduceAdd, Nat.reduceSub, Nat.reduceLT, Nat.reduceMul, Nat.reduceBEq, Int.reduceLE, Int.reduceLT, Int.reduceAdd, Int.reduceSub, Int.reduceToNat, Int.reduceNeg, Int.reduceMul, Nat.reduceLeDiff]
      refine dc_ret ⟨.inr rfl, ?_⟩
      simp only [retOk, go_sem, ↓gx_tt, ↓gx_tf, ↓gx_ft, ↓gx_ff, ↓gx_u2, ↓gk_tt, ↓gk_tf, ↓gk_ff, ↓gk_ft, reduceCtorEq, Nat.reduceEqDiff, ↓reduceIte, Nat.reduceAdd, Nat.reduceSub, Nat.reduceLT, Nat.reduceMul, Nat.reduceBEq, Int.reduceLE, Int.reduceLT, Int.reduceAdd, Int.reduceSub, Int.reduceToNat, Int.reduceNeg, Int.reduceMul, Nat.reduceLeDiff, Tryz.f23]
  | cons c cs =>
    simp only [go_sem, ↓gx_tt, ↓gx_tf, ↓gx_ft, ↓gx_ff, ↓gx_u2, ↓gk_tt, ↓gk_tf, ↓gk_ff, ↓gk_ft, reduceCtorEq, Nat.reduceEqDiff, ↓reduceIte, Nat.reduceAdd, Nat.reduceSub, Nat.reduceLT, Nat.reduceMul, Nat.reduceBEq, Int.reduceLE, Int.reduceLT, Int.reduceAdd, Int.reduceSub, Int.reduceToNat, Int.reduceNeg, Int.reduceMul, Nat.reduceLeDiff]
    refine dc_cond _ rfl (fun h => by simp at h) (fun _ => dc_skip ?_)
    refine dc_seq (dc_region (ok0 gl) [] (by kernel_rfl) ?_)
    simp only [go_sem, ↓gx_tt, ↓gx_tf, ↓gx_ft, ↓gx_ff, ↓gx_u2, ↓gk_tt, ↓gk_tf, ↓gk_ff, ↓gk_ft, reduceCtorEq, Nat.reduceEqDiff, ↓reduceIte, Nat.reduceAdd, Nat.reduceSub, Nat.reduceLT, Nat.reduceMul, Nat.reduceBEq, Int.reduceLE, Int.reduceLT, Int.reduceAdd, Int.reduceSub, Int.reduceToNat, Int.reduceNeg, Int.reduceMul, Nat.reduceLeDiff]
    refine dc_ret ⟨.inr rfl, ?_⟩
    simp only [retOk, go_sem, ↓gx_tt, ↓gx_tf, ↓gx_ft, ↓gx_ff, ↓gx_u2, ↓gk_tt, ↓gk_tf, ↓gk_ff, ↓gk_ft, reduceCtorEq, Nat.reduceEqDiff, ↓reduceIte, Nat.reduceAdd, Nat.reduceSub, Nat.reduceLT, Nat.reduceMul, Nat.reduceBEq, Int.reduceLE, Int.reduceLT, Int.reduceAdd, Int.reduceSub, Int.reduceToNat, Int.reduceNeg, Int.reduceMul, Nat.reduceLeDiff, Tryz.f23]
/-- The same, as an array of its own. -/
theorem clone_Byte_arr (A : Key → Option O) (cs : List C) (hne : cs ≠ []) : DCalls (X0 gl) 23 [.d (.slice 1 (.int .u8)) (.slice cs)] A (.sr (.l 7) [] 0 cs.length none 1 (.int .u8)) [(.l 7, .box (.d (.arr cs.length (.int .u8)) (.agg cs)))] := by
  refine dcalls_intro (n := 8) (ok0 gl) Tryz.func23 rfl rfl (by simp) ?_
  intro A' hA
  refine dc_seq (dc_region (ok0 gl) [] (by kernel_rfl) ?_)
  simp only [go_sem, ↓gx_tt, ↓gx_tf, ↓gx_ft, ↓gx_ff, ↓gx_u2, ↓gk_tt, ↓gk_tf, ↓gk_ff, ↓gk_ft, reduceCtorEq, Nat.reduceEqDiff, ↓reduceIte, Nat.reduceAdd, Nat.reduceSub, Nat.reduceLT, Nat.reduceMul, Nat.reduceBEq, Int.reduceLE, Int.reduceLT, Int.reduceAdd, Int.reduceSub, Int.reduceToNat, Int.reduceNeg, Int.reduceMul, Nat.reduceLeDiff]
  cases cs with
  | nil => exact absurd rfl hne
  | cons c cs =>
    refine dc_seq (dc_seq (dc_region (ok0 gl) [] (by kernel_rfl) ?_))
    simp only [go_sem, ↓gx_tt, ↓gx_tf, ↓gx_ft, ↓gx_ff, ↓gx_u2, ↓gk_tt, ↓gk_tf, ↓gk_ff, ↓gk_ft, reduceCtorEq, Nat.reduceEqDiff, ↓reduceIte, Nat.reduceAdd, Nat.reduceSub, Nat.reduceLT, Nat.reduceMul, Nat.reduceBEq, Int.reduceLE, Int.reduceLT, Int.reduceAdd, Int.reduceSub, Int.reduceToNat, Int.reduceNeg, Int.reduceMul, Nat.reduceLeDiff]
    refine dc_cond _ rfl (fun h => by simp at h) (fun _ => dc_skip ?_)
    refine dc_seq (dc_region (ok0 gl) [(7, 3)] (by kernel_rfl) ?_)
    simp only [go_sem, ↓gx_tt, ↓gx_tf, ↓gx_ft, ↓gx_ff, ↓gx_u2, ↓gk_tt, ↓gk_tf, ↓gk_ff, ↓gk_ft, reduceCtorEq, Nat.reduceEqDiff, ↓reduceIte, Nat.reduceAdd, Nat.reduceSub, Nat.reduceLT, Nat.reduceMul, Nat.reduceBEq, Int.reduceLE, Int.reduceLT, Int.reduceAdd, Int.reduceSub, Int.reduceToNat, Int.reduceNeg, Int.reduceMul, Nat.reduceLeDiff]
    refine dc_ret ⟨.inr rfl, ?_⟩
    simp only [retOk, go_sem, ↓gx_tt, ↓gx_tf, ↓gx_ft, ↓gx_ff, ↓gx_u2, ↓gk_tt, ↓gk_tf, ↓gk_ff, ↓gk_ft, reduceCtorEq, Nat.reduceEqDiff, ↓reduceIte, Nat.reduceAdd, Nat.reduceSub, Nat.reduceLT, Nat.reduceMul, Nat.reduceBEq, Int.reduceLE, Int.reduceLT, Int.reduceAdd, Int.reduceSub, Int.reduceToNat, Int.reduceNeg, Int.reduceMul, Nat.reduceLeDiff, Tryz.f23] <;> try rfl
/-- A slice alike. -/
theorem clone_U64 (A : Key → Option O) (cs : List C) : DCalls (X0 gl) 44 [.d (.slice 8 (.int .u64)) (.slice cs)] A (.ts 8 (.int .u64) cs) [] := by
  refine dcalls_intro (n := 8) (ok0 gl) Tryz.func44 rfl rfl (by simp) ?_
  intro A' hA
  refine dc_seq (dc_region (ok0 gl) [] (by kernel_rfl) ?_)
  simp only [go_sem, ↓gx_tt, ↓gx_tf, ↓gx_ft, ↓gx_ff, ↓gx_u2, ↓gk_tt, ↓gk_tf, ↓gk_ff, ↓gk_ft, reduceCtorEq, Nat.reduceEqDiff, ↓reduceIte, Nat.reduceAdd, Nat.reduceSub, Nat.reduceLT, Nat.reduceMul, Nat.reduceBEq, Int.reduceLE, Int.reduceLT, Int.reduceAdd, Int.reduceSub, Int.reduceToNat, Int.reduceNeg, Int.reduceMul, Nat.reduceLeDiff]
  refine dc_seq (dc_seq (dc_region (ok0 gl) [] (by kernel_rfl) ?_))
  cases cs with
  | nil =>
    simp only [go_sem, ↓gx_tt, ↓gx_tf, ↓gx_ft, ↓gx_ff, ↓gx_u2, ↓gk_tt, ↓gk_tf, ↓gk_ff, ↓gk_ft, reduceCtorEq, Nat.reduceEqDiff, ↓reduceIte, Nat.reduceAdd, Nat.reduceSub, Nat.reduceLT, Nat.reduceMul, Nat.reduceBEq, Int.reduceLE, Int.reduceLT, Int.reduceAdd, Int.reduceSub, Int.reduceToNat, Int.reduceNeg, Int.reduceMul, Nat.reduceLeDiff]
    refine dc_cond_top rfl ?_ (dc_skip ?_)
    · refine dc_seq (dc_region (ok0 gl) [] (by kernel_rfl) ?_)
      simp only [go_sem, ↓gx_tt, ↓gx_tf, ↓gx_ft, ↓gx_ff, ↓gx_u2, ↓gk_tt, ↓gk_tf, ↓gk_ff, ↓gk_ft, reduceCtorEq, Nat.reduceEqDiff, ↓reduceIte, Nat.reduceAdd, Nat.reduceSub, Nat.reduceLT, Nat.reduceMul, Nat.reduceBEq, Int.reduceLE, Int.reduceLT, Int.reduceAdd, Int.reduceSub, Int.reduceToNat, Int.reduceNeg, Int.reduceMul, Nat.reduceLeDiff]
      refine dc_ret ⟨.inr rfl, ?_⟩
      simp only [retOk, go_sem, ↓gx_tt, ↓gx_tf, ↓gx_ft, ↓gx_ff, ↓gx_u2, ↓gk_tt, ↓gk_tf, ↓gk_ff, ↓gk_ft, reduceCtorEq, Nat.reduceEqDiff, ↓reduceIte, Nat.reduceAdd, Nat.reduceSub, Nat.reduceLT, Nat.reduceMul, Nat.reduceBEq, Int.reduceLE, Int.reduceLT, Int.reduceAdd, Int.reduceSub, Int.reduceToNat, Int.reduceNeg, Int.reduceMul, Nat.reduceLeDiff, Tryz.f44]
    · refine dc_seq (dc_region (ok0 gl) [] (by kernel_rfl) ?_)
      simp only [go_sem, ↓gx_tt, ↓gx_tf, ↓gx_ft, ↓gx_ff, ↓gx_u2, ↓gk_tt, ↓gk_tf, ↓gk_ff, ↓gk_ft, reduceCtorEq, Nat.reduceEqDiff, ↓reduceIte, Nat.reduceAdd, Nat.reduceSub, Nat.reduceLT, Nat.reduceMul, Nat.reduceBEq, Int.reduceLE, Int.reduceLT, Int.reduceAdd, Int.reduceSub, Int.reduceToNat, Int.reduceNeg, Int.reduceMul, Nat.reduceLeDiff]
      refine dc_ret ⟨.inr rfl, ?_⟩
      simp only [retOk, go_sem, ↓gx_tt, ↓gx_tf, ↓gx_ft, ↓gx_ff, ↓gx_u2, ↓gk_tt, ↓gk_tf, ↓gk_ff, ↓gk_ft, reduceCtorEq, Nat.reduceEqDiff, ↓reduceIte, Nat.reduceAdd, Nat.reduceSub, Nat.reduceLT, Nat.reduceMul, Nat.reduceBEq, Int.reduceLE, Int.reduceLT, Int.reduceAdd, Int.reduceSub, Int.reduceToNat, Int.reduceNeg, Int.reduceMul, Nat.reduceLeDiff, Tryz.f44]
  | cons c cs =>
    simp only [go_sem, ↓gx_tt, ↓gx_tf, ↓gx_ft, ↓gx_ff, ↓gx_u2, ↓gk_tt, ↓gk_tf, ↓gk_ff, ↓gk_ft, reduceCtorEq, Nat.reduceEqDiff, ↓reduceIte, Nat.reduceAdd, Nat.reduceSub, Nat.reduceLT, Nat.reduceMul, Nat.reduceBEq, Int.reduceLE, Int.reduceLT, Int.reduceAdd, Int.reduceSub, Int.reduceToNat, Int.reduceNeg, Int.reduceMul, Nat.reduceLeDiff]
    refine dc_cond _ rfl (fun h => by simp at h) (fun _ => dc_skip ?_)
    refine dc_seq (dc_region (ok0 gl) [] (by kernel_rfl) ?_)
    simp only [go_sem, ↓gx_tt, ↓gx_tf, ↓gx_ft, ↓gx_ff, ↓gx_u2, ↓gk_tt, ↓gk_tf, ↓gk_ff, ↓gk_ft, reduceCtorEq, Nat.reduceEqDiff, ↓reduceIte, Nat.reduceAdd, Nat.reduceSub, Nat.reduceLT, Nat.reduceMul, Nat.reduceBEq, Int.reduceLE, Int.reduceLT, Int.reduceAdd, Int.reduceSub, Int.reduceToNat, Int.reduceNeg, Int.reduceMul, Nat.reduceLeDiff]
    refine dc_ret ⟨.inr rfl, ?_⟩
    simp only [retOk, go_sem, ↓gx_tt, ↓gx_tf, ↓gx_ft, ↓gx_ff, ↓gx_u2, ↓gk_tt, ↓gk_tf, ↓gk_ff, ↓gk_ft, reduceCtorEq, Nat.reduceEqDiff, ↓reduceIte, Nat.reduceAdd, Nat.reduceSub, Nat.reduceLT, Nat.reduceMul, Nat.reduceBEq, Int.reduceLE, Int.reduceLT, Int.reduceAdd, Int.reduceSub, Int.reduceToNat, Int.reduceNeg, Int.reduceMul, Nat.reduceLeDiff, Tryz.f44]
/-- The same, as an array of its own. -/
theorem clone_U64_arr (A : Key → Option O) (cs : List C) (hne : cs ≠ []) : DCalls (X0 gl) 44 [.d (.slice 8 (.int .u64)) (.slice cs)] A (.sr (.l 7) [] 0 cs.length none 8 (.int .u64)) [(.l 7, .box (.d (.arr cs.length (.int .u64)) (.agg cs)))] := by
  refine dcalls_intro (n := 8) (ok0 gl) Tryz.func44 rfl rfl (by simp) ?_
  intro A' hA
  refine dc_seq (dc_region (ok0 gl) [] (by kernel_rfl) ?_)
  simp only [go_sem, ↓gx_tt, ↓gx_tf, ↓gx_ft, ↓gx_ff, ↓gx_u2, ↓gk_tt, ↓gk_tf, ↓gk_ff, ↓gk_ft, reduceCtorEq, Nat.reduceEqDiff, ↓reduceIte, Nat.reduceAdd, Nat.reduceSub, Nat.reduceLT, Nat.reduceMul, Nat.reduceBEq, Int.reduceLE, Int.reduceLT, Int.reduceAdd, Int.reduceSub, Int.reduceToNat, Int.reduceNeg, Int.reduceMul, Nat.reduceLeDiff]
  cases cs with
  | nil => exact absurd rfl hne
  | cons c cs =>
    refine dc_seq (dc_seq (dc_region (ok0 gl) [] (by kernel_rfl) ?_))
    simp only [go_sem, ↓gx_tt, ↓gx_tf, ↓gx_ft, ↓gx_ff, ↓gx_u2, ↓gk_tt, ↓gk_tf, ↓gk_ff, ↓gk_ft, reduceCtorEq, Nat.reduceEqDiff, ↓reduceIte, Nat.reduceAdd, Nat.reduceSub, Nat.reduceLT, Nat.reduceMul, Nat.reduceBEq, Int.reduceLE, Int.reduceLT, Int.reduceAdd, Int.reduceSub, Int.reduceToNat, Int.reduceNeg, Int.reduceMul, Nat.reduceLeDiff]
    refine dc_cond _ rfl (fun h => by simp at h) (fun _ => dc_skip ?_)
    refine dc_seq (dc_region (ok0 gl) [(7, 3)] (by kernel_rfl) ?_)
    simp only [go_sem, ↓gx_tt, ↓gx_tf, ↓gx_ft, ↓gx_ff, ↓gx_u2, ↓gk_tt, ↓gk_tf, ↓gk_ff, ↓gk_ft, reduceCtorEq, Nat.reduceEqDiff, ↓reduceIte, Nat.reduceAdd, Nat.reduceSub, Nat.reduceLT, Nat.reduceMul, Nat.reduceBEq, Int.reduceLE, Int.reduceLT, Int.reduceAdd, Int.reduceSub, Int.reduceToNat, Int.reduceNeg, Int.reduceMul, Nat.reduceLeDiff]
    refine dc_ret ⟨.inr rfl, ?_⟩
    simp only [retOk, go_sem, ↓gx_tt, ↓gx_tf, ↓gx_ft, ↓gx_ff, ↓gx_u2, ↓gk_tt, ↓gk_tf, ↓gk_ff, ↓gk_ft, reduceCtorEq, Nat.reduceEqDiff, ↓reduceIte, Nat.reduceAdd, Nat.reduceSub, Nat.reduceLT, Nat.reduceMul, Nat.reduceBEq, Int.reduceLE, Int.reduceLT, Int.reduceAdd, Int.reduceSub, Int.reduceToNat, Int.reduceNeg, Int.reduceMul, Nat.reduceLeDiff, Tryz.f44] <;> try rfl
/-- A slice alike. -/
theorem clone_Digest (A : Key → Option O) (cs : List C) : DCalls (X0 gl) 41 [.d (.slice 32 (.arr 32 (.int .u8))) (.slice cs)] A (.ts 32 (.arr 32 (.int .u8)) cs) [] := by
  refine dcalls_intro (n := 8) (ok0 gl) Tryz.func41 rfl rfl (by simp) ?_
  intro A' hA
  refine dc_seq (dc_region (ok0 gl) [] (by kernel_rfl) ?_)
  simp only [go_sem, ↓gx_tt, ↓gx_tf, ↓gx_ft, ↓gx_ff, ↓gx_u2, ↓gk_tt, ↓gk_tf, ↓gk_ff, ↓gk_ft, reduceCtorEq, Nat.reduceEqDiff, ↓reduceIte, Nat.reduceAdd, Nat.reduceSub, Nat.reduceLT, Nat.reduceMul, Nat.reduceBEq, Int.reduceLE, Int.reduceLT, Int.reduceAdd, Int.reduceSub, Int.reduceToNat, Int.reduceNeg, Int.reduceMul, Nat.reduceLeDiff]
  refine dc_seq (dc_seq (dc_region (ok0 gl) [] (by kernel_rfl) ?_))
  cases cs with
  | nil =>
    simp only [go_sem, ↓gx_tt, ↓gx_tf, ↓gx_ft, ↓gx_ff, ↓gx_u2, ↓gk_tt, ↓gk_tf, ↓gk_ff, ↓gk_ft, reduceCtorEq, Nat.reduceEqDiff, ↓reduceIte, Nat.reduceAdd, Nat.reduceSub, Nat.reduceLT, Nat.reduceMul, Nat.reduceBEq, Int.reduceLE, Int.reduceLT, Int.reduceAdd, Int.reduceSub, Int.reduceToNat, Int.reduceNeg, Int.reduceMul, Nat.reduceLeDiff]
    refine dc_cond_top rfl ?_ (dc_skip ?_)
    · refine dc_seq (dc_region (ok0 gl) [] (by kernel_rfl) ?_)
      simp only [go_sem, ↓gx_tt, ↓gx_tf, ↓gx_ft, ↓gx_ff, ↓gx_u2, ↓gk_tt, ↓gk_tf, ↓gk_ff, ↓gk_ft, reduceCtorEq, Nat.reduceEqDiff, ↓reduceIte, Nat.reduceAdd, Nat.reduceSub, Nat.reduceLT, Nat.reduceMul, Nat.reduceBEq, Int.reduceLE, Int.reduceLT, Int.reduceAdd, Int.reduceSub, Int.reduceToNat, Int.reduceNeg, Int.reduceMul, Nat.reduceLeDiff]
      refine dc_ret ⟨.inr rfl, ?_⟩
      simp only [retOk, go_sem, ↓gx_tt, ↓gx_tf, ↓gx_ft, ↓gx_ff, ↓gx_u2, ↓gk_tt, ↓gk_tf, ↓gk_ff, ↓gk_ft, reduceCtorEq, Nat.reduceEqDiff, ↓reduceIte, Nat.reduceAdd, Nat.reduceSub, Nat.reduceLT, Nat.reduceMul, Nat.reduceBEq, Int.reduceLE, Int.reduceLT, Int.reduceAdd, Int.reduceSub, Int.reduceToNat, Int.reduceNeg, Int.reduceMul, Nat.reduceLeDiff, Tryz.f41]
    · refine dc_seq (dc_region (ok0 gl) [] (by kernel_rfl) ?_)
      simp only [go_sem, ↓gx_tt, ↓gx_tf, ↓gx_ft, ↓gx_ff, ↓gx_u2, ↓gk_tt, ↓gk_tf, ↓gk_ff, ↓gk_ft, reduceCtorEq, Nat.reduceEqDiff, ↓reduceIte, Nat.reduceAdd, Nat.reduceSub, Nat.reduceLT, Nat.reduceMul, Nat.reduceBEq, Int.reduceLE, Int.reduceLT, Int.reduceAdd, Int.reduceSub, Int.reduceToNat, Int.reduceNeg, Int.reduceMul, Nat.reduceLeDiff]
      refine dc_ret ⟨.inr rfl, ?_⟩
      simp only [retOk, go_sem, ↓gx_tt, ↓gx_tf, ↓gx_ft, ↓gx_ff, ↓gx_u2, ↓gk_tt, ↓gk_tf, ↓gk_ff, ↓gk_ft, reduceCtorEq, Nat.reduceEqDiff, ↓reduceIte, Nat.reduceAdd, Nat.reduceSub, Nat.reduceLT, Nat.reduceMul, Nat.reduceBEq, Int.reduceLE, Int.reduceLT, Int.reduceAdd, Int.reduceSub, Int.reduceToNat, Int.reduceNeg, Int.reduceMul, Nat.reduceLeDiff, Tryz.f41]
  | cons c cs =>
    simp only [go_sem, ↓gx_tt, ↓gx_tf, ↓gx_ft, ↓gx_ff, ↓gx_u2, ↓gk_tt, ↓gk_tf, ↓gk_ff, ↓gk_ft, reduceCtorEq, Nat.reduceEqDiff, ↓reduceIte, Nat.reduceAdd, Nat.reduceSub, Nat.reduceLT, Nat.reduceMul, Nat.reduceBEq, Int.reduceLE, Int.reduceLT, Int.reduceAdd, Int.reduceSub, Int.reduceToNat, Int.reduceNeg, Int.reduceMul, Nat.reduceLeDiff]
    refine dc_cond _ rfl (fun h => by simp at h) (fun _ => dc_skip ?_)
    refine dc_seq (dc_region (ok0 gl) [] (by kernel_rfl) ?_)
    simp only [go_sem, ↓gx_tt, ↓gx_tf, ↓gx_ft, ↓gx_ff, ↓gx_u2, ↓gk_tt, ↓gk_tf, ↓gk_ff, ↓gk_ft, reduceCtorEq, Nat.reduceEqDiff, ↓reduceIte, Nat.reduceAdd, Nat.reduceSub, Nat.reduceLT, Nat.reduceMul, Nat.reduceBEq, Int.reduceLE, Int.reduceLT, Int.reduceAdd, Int.reduceSub, Int.reduceToNat, Int.reduceNeg, Int.reduceMul, Nat.reduceLeDiff]
    refine dc_ret ⟨.inr rfl, ?_⟩
    simp only [retOk, go_sem, ↓gx_tt, ↓gx_tf, ↓gx_ft, ↓gx_ff, ↓gx_u2, ↓gk_tt, ↓gk_tf, ↓gk_ff, ↓gk_ft, reduceCtorEq, Nat.reduceEqDiff, ↓reduceIte, Nat.reduceAdd, Nat.reduceSub, Nat.reduceLT, Nat.reduceMul, Nat.reduceBEq, Int.reduceLE, Int.reduceLT, Int.reduceAdd, Int.reduceSub, Int.reduceToNat, Int.reduceNeg, Int.reduceMul, Nat.reduceLeDiff, Tryz.f41]
/-- The same, as an array of its own. -/
theorem clone_Digest_arr (A : Key → Option O) (cs : List C) (hne : cs ≠ []) : DCalls (X0 gl) 41 [.d (.slice 32 (.arr 32 (.int .u8))) (.slice cs)] A (.sr (.l 7) [] 0 cs.length none 32 (.arr 32 (.int .u8))) [(.l 7, .box (.d (.arr cs.length (.arr 32 (.int .u8))) (.agg cs)))] := by
  refine dcalls_intro (n := 8) (ok0 gl) Tryz.func41 rfl rfl (by simp) ?_
  intro A' hA
  refine dc_seq (dc_region (ok0 gl) [] (by kernel_rfl) ?_)
  simp only [go_sem, ↓gx_tt, ↓gx_tf, ↓gx_ft, ↓gx_ff, ↓gx_u2, ↓gk_tt, ↓gk_tf, ↓gk_ff, ↓gk_ft, reduceCtorEq, Nat.reduceEqDiff, ↓reduceIte, Nat.reduceAdd, Nat.reduceSub, Nat.reduceLT, Nat.reduceMul, Nat.reduceBEq, Int.reduceLE, Int.reduceLT, Int.reduceAdd, Int.reduceSub, Int.reduceToNat, Int.reduceNeg, Int.reduceMul, Nat.reduceLeDiff]
  cases cs with
  | nil => exact absurd rfl hne
  | cons c cs =>
    refine dc_seq (dc_seq (dc_region (ok0 gl) [] (by kernel_rfl) ?_))
    simp only [go_sem, ↓gx_tt, ↓gx_tf, ↓gx_ft, ↓gx_ff, ↓gx_u2, ↓gk_tt, ↓gk_tf, ↓gk_ff, ↓gk_ft, reduceCtorEq, Nat.reduceEqDiff, ↓reduceIte, Nat.reduceAdd, Nat.reduceSub, Nat.reduceLT, Nat.reduceMul, Nat.reduceBEq, Int.reduceLE, Int.reduceLT, Int.reduceAdd, Int.reduceSub, Int.reduceToNat, Int.reduceNeg, Int.reduceMul, Nat.reduceLeDiff]
    refine dc_cond _ rfl (fun h => by simp at h) (fun _ => dc_skip ?_)
    refine dc_seq (dc_region (ok0 gl) [(7, 3)] (by kernel_rfl) ?_)
    simp only [go_sem, ↓gx_tt, ↓gx_tf, ↓gx_ft, ↓gx_ff, ↓gx_u2, ↓gk_tt, ↓gk_tf, ↓gk_ff, ↓gk_ft, reduceCtorEq, Nat.reduceEqDiff, ↓reduceIte, Nat.reduceAdd, Nat.reduceSub, Nat.reduceLT, Nat.reduceMul, Nat.reduceBEq, Int.reduceLE, Int.reduceLT, Int.reduceAdd, Int.reduceSub, Int.reduceToNat, Int.reduceNeg, Int.reduceMul, Nat.reduceLeDiff]
    refine dc_ret ⟨.inr rfl, ?_⟩
    simp only [retOk, go_sem, ↓gx_tt, ↓gx_tf, ↓gx_ft, ↓gx_ff, ↓gx_u2, ↓gk_tt, ↓gk_tf, ↓gk_ff, ↓gk_ft, reduceCtorEq, Nat.reduceEqDiff, ↓reduceIte, Nat.reduceAdd, Nat.reduceSub, Nat.reduceLT, Nat.reduceMul, Nat.reduceBEq, Int.reduceLE, Int.reduceLT, Int.reduceAdd, Int.reduceSub, Int.reduceToNat, Int.reduceNeg, Int.reduceMul, Nat.reduceLeDiff, Tryz.f41] <;> try rfl
/-- A slice alike. -/
theorem clone_Cond (A : Key → Option O) (cs : List C) : DCalls (X0 gl) 51 [.d (.slice 64 tCond) (.slice cs)] A (.ts 64 tCond cs) [] := by
  refine dcalls_intro (n := 8) (ok0 gl) Tryz.func51 rfl rfl (by simp) ?_
  intro A' hA
  refine dc_seq (dc_region (ok0 gl) [] (by kernel_rfl) ?_)
  simp only [go_sem, ↓gx_tt, ↓gx_tf, ↓gx_ft, ↓gx_ff, ↓gx_u2, ↓gk_tt, ↓gk_tf, ↓gk_ff, ↓gk_ft, reduceCtorEq, Nat.reduceEqDiff, ↓reduceIte, Nat.reduceAdd, Nat.reduceSub, Nat.reduceLT, Nat.reduceMul, Nat.reduceBEq, Int.reduceLE, Int.reduceLT, Int.reduceAdd, Int.reduceSub, Int.reduceToNat, Int.reduceNeg, Int.reduceMul, Nat.reduceLeDiff]
  refine dc_seq (dc_seq (dc_region (ok0 gl) [] (by kernel_rfl) ?_))
  cases cs with
  | nil =>
    simp only [go_sem, ↓gx_tt, ↓gx_tf, ↓gx_ft, ↓gx_ff, ↓gx_u2, ↓gk_tt, ↓gk_tf, ↓gk_ff, ↓gk_ft, reduceCtorEq, Nat.reduceEqDiff, ↓reduceIte, Nat.reduceAdd, Nat.reduceSub, Nat.reduceLT, Nat.reduceMul, Nat.reduceBEq, Int.reduceLE, Int.reduceLT, Int.reduceAdd, Int.reduceSub, Int.reduceToNat, Int.reduceNeg, Int.reduceMul, Nat.reduceLeDiff]
    refine dc_cond_top rfl ?_ (dc_skip ?_)
    · refine dc_seq (dc_region (ok0 gl) [] (by kernel_rfl) ?_)
      simp only [go_sem, ↓gx_tt, ↓gx_tf, ↓gx_ft, ↓gx_ff, ↓gx_u2, ↓gk_tt, ↓gk_tf, ↓gk_ff, ↓gk_ft, reduceCtorEq, Nat.reduceEqDiff, ↓reduceIte, Nat.reduceAdd, Nat.reduceSub, Nat.reduceLT, Nat.reduceMul, Nat.reduceBEq, Int.reduceLE, Int.reduceLT, Int.reduceAdd, Int.reduceSub, Int.reduceToNat, Int.reduceNeg, Int.reduceMul, Nat.reduceLeDiff]
      refine dc_ret ⟨.inr rfl, ?_⟩
      simp only [retOk, go_sem, ↓gx_tt, ↓gx_tf, ↓gx_ft, ↓gx_ff, ↓gx_u2, ↓gk_tt, ↓gk_tf, ↓gk_ff, ↓gk_ft, reduceCtorEq, Nat.reduceEqDiff, ↓reduceIte, Nat.reduceAdd, Nat.reduceSub, Nat.reduceLT, Nat.reduceMul, Nat.reduceBEq, Int.reduceLE, Int.reduceLT, Int.reduceAdd, Int.reduceSub, Int.reduceToNat, Int.reduceNeg, Int.reduceMul, Nat.reduceLeDiff, Tryz.f51]
    · refine dc_seq (dc_region (ok0 gl) [] (by kernel_rfl) ?_)
      simp only [go_sem, ↓gx_tt, ↓gx_tf, ↓gx_ft, ↓gx_ff, ↓gx_u2, ↓gk_tt, ↓gk_tf, ↓gk_ff, ↓gk_ft, reduceCtorEq, Nat.reduceEqDiff, ↓reduceIte, Nat.reduceAdd, Nat.reduceSub, Nat.reduceLT, Nat.reduceMul, Nat.reduceBEq, Int.reduceLE, Int.reduceLT, Int.reduceAdd, Int.reduceSub, Int.reduceToNat, Int.reduceNeg, Int.reduceMul, Nat.reduceLeDiff]
      refine dc_ret ⟨.inr rfl, ?_⟩
      simp only [retOk, go_sem, ↓gx_tt, ↓gx_tf, ↓gx_ft, ↓gx_ff, ↓gx_u2, ↓gk_tt, ↓gk_tf, ↓gk_ff, ↓gk_ft, reduceCtorEq, Nat.reduceEqDiff, ↓reduceIte, Nat.reduceAdd, Nat.reduceSub, Nat.reduceLT, Nat.reduceMul, Nat.reduceBEq, Int.reduceLE, Int.reduceLT, Int.reduceAdd, Int.reduceSub, Int.reduceToNat, Int.reduceNeg, Int.reduceMul, Nat.reduceLeDiff, Tryz.f51]
  | cons c cs =>
    simp only [go_sem, ↓gx_tt, ↓gx_tf, ↓gx_ft, ↓gx_ff, ↓gx_u2, ↓gk_tt, ↓gk_tf, ↓gk_ff, ↓gk_ft, reduceCtorEq, Nat.reduceEqDiff, ↓reduceIte, Nat.reduceAdd, Nat.reduceSub, Nat.reduceLT, Nat.reduceMul, Nat.reduceBEq, Int.reduceLE, Int.reduceLT, Int.reduceAdd, Int.reduceSub, Int.reduceToNat, Int.reduceNeg, Int.reduceMul, Nat.reduceLeDiff]
    refine dc_cond _ rfl (fun h => by simp at h) (fun _ => dc_skip ?_)
    refine dc_seq (dc_region (ok0 gl) [] (by kernel_rfl) ?_)
    simp only [go_sem, ↓gx_tt, ↓gx_tf, ↓gx_ft, ↓gx_ff, ↓gx_u2, ↓gk_tt, ↓gk_tf, ↓gk_ff, ↓gk_ft, reduceCtorEq, Nat.reduceEqDiff, ↓reduceIte, Nat.reduceAdd, Nat.reduceSub, Nat.reduceLT, Nat.reduceMul, Nat.reduceBEq, Int.reduceLE, Int.reduceLT, Int.reduceAdd, Int.reduceSub, Int.reduceToNat, Int.reduceNeg, Int.reduceMul, Nat.reduceLeDiff]
    refine dc_ret ⟨.inr rfl, ?_⟩
    simp only [retOk, go_sem, ↓gx_tt, ↓gx_tf, ↓gx_ft, ↓gx_ff, ↓gx_u2, ↓gk_tt, ↓gk_tf, ↓gk_ff, ↓gk_ft, reduceCtorEq, Nat.reduceEqDiff, ↓reduceIte, Nat.reduceAdd, Nat.reduceSub, Nat.reduceLT, Nat.reduceMul, Nat.reduceBEq, Int.reduceLE, Int.reduceLT, Int.reduceAdd, Int.reduceSub, Int.reduceToNat, Int.reduceNeg, Int.reduceMul, Nat.reduceLeDiff, Tryz.f51]
/-- The same, as an array of its own. -/
theorem clone_Cond_arr (A : Key → Option O) (cs : List C) (hne : cs ≠ []) : DCalls (X0 gl) 51 [.d (.slice 64 tCond) (.slice cs)] A (.sr (.l 7) [] 0 cs.length none 64 tCond) [(.l 7, .box (.d (.arr cs.length tCond) (.agg cs)))] := by
  refine dcalls_intro (n := 8) (ok0 gl) Tryz.func51 rfl rfl (by simp) ?_
  intro A' hA
  refine dc_seq (dc_region (ok0 gl) [] (by kernel_rfl) ?_)
  simp only [go_sem, ↓gx_tt, ↓gx_tf, ↓gx_ft, ↓gx_ff, ↓gx_u2, ↓gk_tt, ↓gk_tf, ↓gk_ff, ↓gk_ft, reduceCtorEq, Nat.reduceEqDiff, ↓reduceIte, Nat.reduceAdd, Nat.reduceSub, Nat.reduceLT, Nat.reduceMul, Nat.reduceBEq, Int.reduceLE, Int.reduceLT, Int.reduceAdd, Int.reduceSub, Int.reduceToNat, Int.reduceNeg, Int.reduceMul, Nat.reduceLeDiff]
  cases cs with
  | nil => exact absurd rfl hne
  | cons c cs =>
    refine dc_seq (dc_seq (dc_region (ok0 gl) [] (by kernel_rfl) ?_))
    simp only [go_sem, ↓gx_tt, ↓gx_tf, ↓gx_ft, ↓gx_ff, ↓gx_u2, ↓gk_tt, ↓gk_tf, ↓gk_ff, ↓gk_ft, reduceCtorEq, Nat.reduceEqDiff, ↓reduceIte, Nat.reduceAdd, Nat.reduceSub, Nat.reduceLT, Nat.reduceMul, Nat.reduceBEq, Int.reduceLE, Int.reduceLT, Int.reduceAdd, Int.reduceSub, Int.reduceToNat, Int.reduceNeg, Int.reduceMul, Nat.reduceLeDiff]
    refine dc_cond _ rfl (fun h => by simp at h) (fun _ => dc_skip ?_)
    refine dc_seq (dc_region (ok0 gl) [(7, 3)] (by kernel_rfl) ?_)
    simp only [go_sem, ↓gx_tt, ↓gx_tf, ↓gx_ft, ↓gx_ff, ↓gx_u2, ↓gk_tt, ↓gk_tf, ↓gk_ff, ↓gk_ft, reduceCtorEq, Nat.reduceEqDiff, ↓reduceIte, Nat.reduceAdd, Nat.reduceSub, Nat.reduceLT, Nat.reduceMul, Nat.reduceBEq, Int.reduceLE, Int.reduceLT, Int.reduceAdd, Int.reduceSub, Int.reduceToNat, Int.reduceNeg, Int.reduceMul, Nat.reduceLeDiff]
    refine dc_ret ⟨.inr rfl, ?_⟩
    simp only [retOk, go_sem, ↓gx_tt, ↓gx_tf, ↓gx_ft, ↓gx_ff, ↓gx_u2, ↓gk_tt, ↓gk_tf, ↓gk_ff, ↓gk_ft, reduceCtorEq, Nat.reduceEqDiff, ↓reduceIte, Nat.reduceAdd, Nat.reduceSub, Nat.reduceLT, Nat.reduceMul, Nat.reduceBEq, Int.reduceLE, Int.reduceLT, Int.reduceAdd, Int.reduceSub, Int.reduceToNat, Int.reduceNeg, Int.reduceMul, Nat.reduceLeDiff, Tryz.f51] <;> try rfl
end Go.Proofs.YtkbkpgnngfemnaaGreatDoor

namespace Go.Proofs.YtkbkpgnngfemnaaGreatDoor
open Go Go.E
set_option maxRecDepth 10000
set_option linter.unusedSimpArgs false
variable {gl : Nat → Option (Ty × C)}
theorem bits_Add64 (a b : C) : EDoes (X0 gl) 52 [.d (.int .u64) a, .d (.int .u64) b, .d (.int .u64) (.int 0)] (.tup [.d (.int .u64) (.int ((a.toInt + b.toInt) % 18446744073709551616)), .d (.int .u64) (.int ((a.toInt + b.toInt) / 18446744073709551616))]) := by
  intro Γ w args hl hr
  have hs : args.size = 3 := hl.symm
  obtain ⟨e1, _, l1, m1⟩ := repV_int (hr 0 _ _ rfl (Array.getElem?_eq_getElem (by omega)))
  obtain ⟨e2, _, l2, m2⟩ := repV_int (hr 1 _ _ rfl (Array.getElem?_eq_getElem (by omega)))
  obtain ⟨e3, _, _, _⟩ := repV_int (hr 2 _ _ rfl (Array.getElem?_eq_getElem (by omega)))
  have ea : args = #[.int .u64 a.toInt, .int .u64 b.toInt, .int .u64 0] := by
    apply Array.ext
    · simpa using hs
    · intro i h1 h2
      match i with
      | 0 => simpa using e1
      | 1 => simpa using e2
      | 2 => simpa [C.toInt] using e3
      | i + 3 => omega
  have z : IntKind.u64.min = 0 := by decide
  have z' : IntKind.u64.max = 18446744073709551615 := by decide
  refine ⟨.tuple #[.int .u64 ((a.toInt + b.toInt) % 18446744073709551616), .int .u64 ((a.toInt + b.toInt) / 18446744073709551616)], ?_, #[_, _], rfl, ?_⟩
  · have hrun := run_callFunc_extern (P := (X0 gl).P) (f := 52) (fn := Tryz.f52) (e := add64Entry) Tryz.func52 (by decide) rfl (by kernel_rfl) (by kernel_rfl) args w
    rw [hrun, ea, run_add64 _ _ _ (by omega) (by omega) (by omega) (by omega)]
    simp
  · refine repCaps_of rfl fun i x u hx hu => ?_
    match i with
    | 0 => simp at hx hu; subst hx; subst hu; exact ⟨rfl, repV_mk_int (by omega) (by omega)⟩
    | 1 => simp at hx hu; subst hx; subst hu; exact ⟨rfl, repV_mk_int (by omega) (by omega)⟩
    | i + 2 => simp at hx
/-- A sum, or that it is too great. -/
def addV (a b : Int) : V := if 18446744073709551616 ≤ a + b then .tup [.d (.int .u64) (.int 0), .d (.int .i64) (.int 11)] else .tup [.d (.int .u64) (.int (a + b)), .d (.int .i64) (.int 0)]
theorem money_Add (A : Key → Option O) (a b : C) : DCalls (X0 gl) 42 [.d (.int .u64) a, .d (.int .u64) b] A (addV a.toInt b.toInt) [] := by
  refine dcalls_intro (n := 17) (ok0 gl) Tryz.func42 rfl rfl (by simp) ?_
  intro A' hA
  refine dc_facts fun W => ?_
  obtain ⟨_, l1, m1⟩ : C.wf (.int .u64) a := W.at (t := 0) rfl
  obtain ⟨_, l2, m2⟩ : C.wf (.int .u64) b := W.at (t := 1) rfl
  have z : IntKind.u64.min = 0 := by decide
  have z' : IntKind.u64.max = 18446744073709551615 := by decide
  refine dc_seq (dc_region (ok0 gl) [] (by kernel_rfl) ?_)
  simp only [go_sem, ↓gx_tt, ↓gx_tf, ↓gx_ft, ↓gx_ff, ↓gx_u2, ↓gk_tt, ↓gk_tf, ↓gk_ff, ↓gk_ft, reduceCtorEq, Nat.reduceEqDiff, ↓reduceIte, Nat.reduceAdd, Nat.reduceSub, Nat.reduceLT, Nat.reduceMul, Nat.reduceBEq, Int.reduceLE, Int.reduceLT, Int.reduceAdd, Int.reduceSub, Int.reduceToNat, Int.reduceNeg, Int.reduceMul, Nat.reduceLeDiff]
  refine dc_seq (dc_region (ok0 gl) [] (by kernel_rfl) (vc_n [(), ()] ?_))
  simp only [go_sem, ↓gx_tt, ↓gx_tf, ↓gx_ft, ↓gx_ff, ↓gx_u2, ↓gk_tt, ↓gk_tf, ↓gk_ff, ↓gk_ft, reduceCtorEq, Nat.reduceEqDiff, ↓reduceIte, Nat.reduceAdd, Nat.reduceSub, Nat.reduceLT, Nat.reduceMul, Nat.reduceBEq, Int.reduceLE, Int.reduceLT, Int.reduceAdd, Int.reduceSub, Int.reduceToNat, Int.reduceNeg, Int.reduceMul, Nat.reduceLeDiff]
  refine vcR_op [(), (), (), (), (), (), (), (), ()] rfl ?_
  refine vcO_ext _ (bits_Add64 a b) (by decide) rfl ?_ ?_ <;> simp only [go_sem, ↓gx_tt, ↓gx_tf, ↓gx_ft, ↓gx_ff, ↓gx_u2, ↓gk_tt, ↓gk_tf, ↓gk_ff, ↓gk_ft, reduceCtorEq, Nat.reduceEqDiff, ↓reduceIte, Nat.reduceAdd, Nat.reduceSub, Nat.reduceLT, Nat.reduceMul, Nat.reduceBEq, Int.reduceLE, Int.reduceLT, Int.reduceAdd, Int.reduceSub, Int.reduceToNat, Int.reduceNeg, Int.reduceMul, Nat.reduceLeDiff]
  by_cases h : 18446744073709551616 ≤ a.toInt + b.toInt
  · have h1 : (a.toInt + b.toInt) / 18446744073709551616 = 1 := by omega
    refine dc_seq (dc_seq (dc_region (ok0 gl) [] (by kernel_rfl) ?_))
    simp only [go_sem, ↓gx_tt, ↓gx_tf, ↓gx_ft, ↓gx_ff, ↓gx_u2, ↓gk_tt, ↓gk_tf, ↓gk_ff, ↓gk_ft, reduceCtorEq, Nat.reduceEqDiff, ↓reduceIte, Nat.reduceAdd, Nat.reduceSub, Nat.reduceLT, Nat.reduceMul, Nat.reduceBEq, Int.reduceLE, Int.reduceLT, Int.reduceAdd, Int.reduceSub, Int.reduceToNat, Int.reduceNeg, Int.reduceMul, Nat.reduceLeDiff, h1]
    refine dc_cond _ rfl (fun _ => ?_) (fun h => by simp at h)
    refine dc_seq (dc_region (ok0 gl) [] (by kernel_rfl) ?_)
    simp only [go_sem, ↓gx_tt, ↓gx_tf, ↓gx_ft, ↓gx_ff, ↓gx_u2, ↓gk_tt, ↓gk_tf, ↓gk_ff, ↓gk_ft, reduceCtorEq, Nat.reduceEqDiff, ↓reduceIte, Nat.reduceAdd, Nat.reduceSub, Nat.reduceLT, Nat.reduceMul, Nat.reduceBEq, Int.reduceLE, Int.reduceLT, Int.reduceAdd, Int.reduceSub, Int.reduceToNat, Int.reduceNeg, Int.reduceMul, Nat.reduceLeDiff]
    refine dc_ret ⟨.inr rfl, ?_⟩
    simp only [retOk, go_sem, ↓gx_tt, ↓gx_tf, ↓gx_ft, ↓gx_ff, ↓gx_u2, ↓gk_tt, ↓gk_tf, ↓gk_ff, ↓gk_ft, reduceCtorEq, Nat.reduceEqDiff, ↓reduceIte, Nat.reduceAdd, Nat.reduceSub, Nat.reduceLT, Nat.reduceMul, Nat.reduceBEq, Int.reduceLE, Int.reduceLT, Int.reduceAdd, Int.reduceSub, Int.reduceToNat, Int.reduceNeg, Int.reduceMul, Nat.reduceLeDiff, Tryz.f42, addV, h] <;> try rfl
  · have h1 : (a.toInt + b.toInt) / 18446744073709551616 = 0 := by omega
    have h2 : (a.toInt + b.toInt) % 18446744073709551616 = a.toInt + b.toInt := by omega
    refine dc_seq (dc_seq (dc_region (ok0 gl) [] (by kernel_rfl) ?_))
    simp only [go_sem, ↓gx_tt, ↓gx_tf, ↓gx_ft, ↓gx_ff, ↓gx_u2, ↓gk_tt, ↓gk_tf, ↓gk_ff, ↓gk_ft, reduceCtorEq, Nat.reduceEqDiff, ↓reduceIte, Nat.reduceAdd, Nat.reduceSub, Nat.reduceLT, Nat.reduceMul, Nat.reduceBEq, Int.reduceLE, Int.reduceLT, Int.reduceAdd, Int.reduceSub, Int.reduceToNat, Int.reduceNeg, Int.reduceMul, Nat.reduceLeDiff, h1, h2]
    refine dc_cond _ rfl (fun h => by simp at h) (fun _ => dc_skip ?_)
    refine dc_seq (dc_region (ok0 gl) [] (by kernel_rfl) ?_)
    simp only [go_sem, ↓gx_tt, ↓gx_tf, ↓gx_ft, ↓gx_ff, ↓gx_u2, ↓gk_tt, ↓gk_tf, ↓gk_ff, ↓gk_ft, reduceCtorEq, Nat.reduceEqDiff, ↓reduceIte, Nat.reduceAdd, Nat.reduceSub, Nat.reduceLT, Nat.reduceMul, Nat.reduceBEq, Int.reduceLE, Int.reduceLT, Int.reduceAdd, Int.reduceSub, Int.reduceToNat, Int.reduceNeg, Int.reduceMul, Nat.reduceLeDiff, h2]
    refine dc_ret ⟨.inr rfl, ?_⟩
    simp only [retOk, go_sem, ↓gx_tt, ↓gx_tf, ↓gx_ft, ↓gx_ff, ↓gx_u2, ↓gk_tt, ↓gk_tf, ↓gk_ff, ↓gk_ft, reduceCtorEq, Nat.reduceEqDiff, ↓reduceIte, Nat.reduceAdd, Nat.reduceSub, Nat.reduceLT, Nat.reduceMul, Nat.reduceBEq, Int.reduceLE, Int.reduceLT, Int.reduceAdd, Int.reduceSub, Int.reduceToNat, Int.reduceNeg, Int.reduceMul, Nat.reduceLeDiff, Tryz.f42, addV, h, h2] <;> try rfl
/-- A sum of many, if it isn't too great. -/
def sumF : List C → Int → Option Int
  | [], s => some s
  | c :: cs, s => if 18446744073709551616 ≤ s + c.toInt then none else sumF cs (s + c.toInt)
def sumV (o : Option Int) : V := match o with
  | none => .tup [.d (.int .u64) (.int 0), .d (.int .i64) (.int 11)]
  | some s => .tup [.d (.int .u64) (.int s), .d (.int .i64) (.int 0)]
theorem sumF_drop {cs : List C} {i : Nat} (s : Int) (h : i < cs.length) : sumF (cs.drop i) s = if 18446744073709551616 ≤ s + (cs.getD i .nil).toInt then none else sumF (cs.drop (i + 1)) (s + (cs.getD i .nil).toInt) := by
  rw [List.drop_eq_getElem_cons h]
  simp only [sumF, List.getD_eq_getElem?_getD, List.getElem?_eq_getElem h, Option.getD_some]
theorem money_Sum (A : Key → Option O) (cs : List C) : DCalls (X0 gl) 28 [.d (.slice 8 (.int .u64)) (.slice cs)] A (sumV (sumF cs 0)) [] := by
  refine dcalls_intro (n := 25) (ok0 gl) Tryz.func28 rfl rfl (by simp) ?_
  intro A' hA
  refine dc_facts fun W => ?_
  have hl : cs.length ≤ 9223372036854775807 := (W.at (t := 0) rfl).2.2.1
  refine dc_seq (dc_region (ok0 gl) [] (by kernel_rfl) ?_)
  simp only [go_sem, ↓gx_tt, ↓gx_tf, ↓gx_ft, ↓gx_ff, ↓gx_u2, ↓gk_tt, ↓gk_tf, ↓gk_ff, ↓gk_ft, reduceCtorEq, Nat.reduceEqDiff, ↓reduceIte, Nat.reduceAdd, Nat.reduceSub, Nat.reduceLT, Nat.reduceMul, Nat.reduceBEq, Int.reduceLE, Int.reduceLT, Int.reduceAdd, Int.reduceSub, Int.reduceToNat, Int.reduceNeg, Int.reduceMul, Nat.reduceLeDiff]
  refine dc_seq (dc_region (ok0 gl) [] (by kernel_rfl) ?_)
  simp only [go_sem, ↓gx_tt, ↓gx_tf, ↓gx_ft, ↓gx_ff, ↓gx_u2, ↓gk_tt, ↓gk_tf, ↓gk_ff, ↓gk_ft, reduceCtorEq, Nat.reduceEqDiff, ↓reduceIte, Nat.reduceAdd, Nat.reduceSub, Nat.reduceLT, Nat.reduceMul, Nat.reduceBEq, Int.reduceLE, Int.reduceLT, Int.reduceAdd, Int.reduceSub, Int.reduceToNat, Int.reduceNeg, Int.reduceMul, Nat.reduceLeDiff]
  refine dc_seq (dc_seq (dc_region (ok0 gl) [] (by kernel_rfl) ?_))
  simp only [go_sem, ↓gx_tt, ↓gx_tf, ↓gx_ft, ↓gx_ff, ↓gx_u2, ↓gk_tt, ↓gk_tf, ↓gk_ff, ↓gk_ft, reduceCtorEq, Nat.reduceEqDiff, ↓reduceIte, Nat.reduceAdd, Nat.reduceSub, Nat.reduceLT, Nat.reduceMul, Nat.reduceBEq, Int.reduceLE, Int.reduceLT, Int.reduceAdd, Int.reduceSub, Int.reduceToNat, Int.reduceNeg, Int.reduceMul, Nat.reduceLeDiff]
  refine dc_block (dc_while (ι := Nat × Int) (fun i => ⟨[(10, .d (.int .i64) (.int i.1)), (9, .d (.int .i64) (.int cs.length)), (8, .d (.slice 8 (.int .u64)) (.slice cs)), (4, .d (.int .u64) (.int i.2)), (2, .d (.int .u64) (.int 0)), (3, .d (.int .i64) (.int 0)), (0, .d (.slice 8 (.int .u64)) (.slice cs))], [], A', []⟩) (fun i => cs.length - i.1)
    (fun i => i.1 ≤ cs.length ∧ sumF (cs.drop i.1) i.2 = sumF cs 0) (0, 0) ?_ ⟨Nat.zero_le _, rfl⟩ ?_)
  · refine weak_to rfl ?_ ?_ ?_ ?_ ?_ <;> simp only [go_sem, ↓gx_tt, ↓gx_tf, ↓gx_ft, ↓gx_ff, ↓gx_u2, ↓gk_tt, ↓gk_tf, ↓gk_ff, ↓gk_ft, reduceCtorEq, Nat.reduceEqDiff, ↓reduceIte, Nat.reduceAdd, Nat.reduceSub, Nat.reduceLT, Nat.reduceMul, Nat.reduceBEq, Int.reduceLE, Int.reduceLT, Int.reduceAdd, Int.reduceSub, Int.reduceToNat, Int.reduceNeg, Int.reduceMul, Nat.reduceLeDiff]
    rfl
  · rintro ⟨i, s⟩ ⟨hi, hS⟩
    simp only at hi hS
    refine dc_seq (dc_region (ok0 gl) [] (by kernel_rfl) ?_)
    simp only [go_sem, ↓gx_tt, ↓gx_tf, ↓gx_ft, ↓gx_ff, ↓gx_u2, ↓gk_tt, ↓gk_tf, ↓gk_ff, ↓gk_ft, reduceCtorEq, Nat.reduceEqDiff, ↓reduceIte, Nat.reduceAdd, Nat.reduceSub, Nat.reduceLT, Nat.reduceMul, Nat.reduceBEq, Int.reduceLE, Int.reduceLT, Int.reduceAdd, Int.reduceSub, Int.reduceToNat, Int.reduceNeg, Int.reduceMul, Nat.reduceLeDiff]
    refine dc_seq (dc_cond _ rfl (fun hlt => dc_skip ?_) (fun hge => dc_exit ?_))
    · have hlt : i < cs.length := by simpa using hlt
      have e1 : ((i : Int).toNat) = i := Int.toNat_natCast i
      rw [sumF_drop _ hlt] at hS
      refine dc_seq (dc_block (dc_seq (dc_region (ok0 gl) [] (by kernel_rfl) ?_)))
      simp only [go_sem, ↓gx_tt, ↓gx_tf, ↓gx_ft, ↓gx_ff, ↓gx_u2, ↓gk_tt, ↓gk_tf, ↓gk_ff, ↓gk_ft, reduceCtorEq, Nat.reduceEqDiff, ↓reduceIte, Nat.reduceAdd, Nat.reduceSub, Nat.reduceLT, Nat.reduceMul, Nat.reduceBEq, Int.reduceLE, Int.reduceLT, Int.reduceAdd, Int.reduceSub, Int.reduceToNat, Int.reduceNeg, Int.reduceMul, Nat.reduceLeDiff, e1]
      refine ⟨by omega, by omega, ?_⟩
      refine dc_seq (dc_region (ok0 gl) [] (by kernel_rfl) ?_)
      simp only [go_sem, ↓gx_tt, ↓gx_tf, ↓gx_ft, ↓gx_ff, ↓gx_u2, ↓gk_tt, ↓gk_tf, ↓gk_ff, ↓gk_ft, reduceCtorEq, Nat.reduceEqDiff, ↓reduceIte, Nat.reduceAdd, Nat.reduceSub, Nat.reduceLT, Nat.reduceMul, Nat.reduceBEq, Int.reduceLE, Int.reduceLT, Int.reduceAdd, Int.reduceSub, Int.reduceToNat, Int.reduceNeg, Int.reduceMul, Nat.reduceLeDiff]
      by_cases h : 18446744073709551616 ≤ s + (cs.getD i .nil).toInt
      · rw [if_pos h] at hS
        have hS' := hS.symm
        refine dc_seq (dc_region (ok0 gl) [] (by kernel_rfl) (vc_n [(), ()] ?_))
        simp only [go_sem, ↓gx_tt, ↓gx_tf, ↓gx_ft, ↓gx_ff, ↓gx_u2, ↓gk_tt, ↓gk_tf, ↓gk_ff, ↓gk_ft, reduceCtorEq, Nat.reduceEqDiff, ↓reduceIte, Nat.reduceAdd, Nat.reduceSub, Nat.reduceLT, Nat.reduceMul, Nat.reduceBEq, Int.reduceLE, Int.reduceLT, Int.reduceAdd, Int.reduceSub, Int.reduceToNat, Int.reduceNeg, Int.reduceMul, Nat.reduceLeDiff]
        refine vcR_op [(), (), (), (), (), (), (), (), ()] rfl ?_
        refine vcO_call _ (money_Add _ (.int s) (cs.getD i .nil)) rfl (by simp only [go_sem]) rfl ?_ ?_ ?_ ?_ ?_ <;> simp only [go_sem, ↓gx_tt, ↓gx_tf, ↓gx_ft, ↓gx_ff, ↓gx_u2, ↓gk_tt, ↓gk_tf, ↓gk_ff, ↓gk_ft, reduceCtorEq, Nat.reduceEqDiff, ↓reduceIte, Nat.reduceAdd, Nat.reduceSub, Nat.reduceLT, Nat.reduceMul, Nat.reduceBEq, Int.reduceLE, Int.reduceLT, Int.reduceAdd, Int.reduceSub, Int.reduceToNat, Int.reduceNeg, Int.reduceMul, Nat.reduceLeDiff, addV, h]
        refine dc_seq (dc_region (ok0 gl) [] (by kernel_rfl) ?_)
        simp only [go_sem, ↓gx_tt, ↓gx_tf, ↓gx_ft, ↓gx_ff, ↓gx_u2, ↓gk_tt, ↓gk_tf, ↓gk_ff, ↓gk_ft, reduceCtorEq, Nat.reduceEqDiff, ↓reduceIte, Nat.reduceAdd, Nat.reduceSub, Nat.reduceLT, Nat.reduceMul, Nat.reduceBEq, Int.reduceLE, Int.reduceLT, Int.reduceAdd, Int.reduceSub, Int.reduceToNat, Int.reduceNeg, Int.reduceMul, Nat.reduceLeDiff]
        refine dc_cond _ rfl (fun _ => ?_) (fun h => by simp at h)
        refine dc_seq (dc_region (ok0 gl) [] (by kernel_rfl) ?_)
        simp only [go_sem, ↓gx_tt, ↓gx_tf, ↓gx_ft, ↓gx_ff, ↓gx_u2, ↓gk_tt, ↓gk_tf, ↓gk_ff, ↓gk_ft, reduceCtorEq, Nat.reduceEqDiff, ↓reduceIte, Nat.reduceAdd, Nat.reduceSub, Nat.reduceLT, Nat.reduceMul, Nat.reduceBEq, Int.reduceLE, Int.reduceLT, Int.reduceAdd, Int.reduceSub, Int.reduceToNat, Int.reduceNeg, Int.reduceMul, Nat.reduceLeDiff]
        simp only [hS', sumV]
        refine dc_ret ⟨.inr rfl, ?_⟩
        simp only [retOk, go_sem, ↓gx_tt, ↓gx_tf, ↓gx_ft, ↓gx_ff, ↓gx_u2, ↓gk_tt, ↓gk_tf, ↓gk_ff, ↓gk_ft, reduceCtorEq, Nat.reduceEqDiff, ↓reduceIte, Nat.reduceAdd, Nat.reduceSub, Nat.reduceLT, Nat.reduceMul, Nat.reduceBEq, Int.reduceLE, Int.reduceLT, Int.reduceAdd, Int.reduceSub, Int.reduceToNat, Int.reduceNeg, Int.reduceMul, Nat.reduceLeDiff, Tryz.f28] <;> try rfl
      · rw [if_neg h] at hS
        refine dc_seq (dc_region (ok0 gl) [] (by kernel_rfl) (vc_n [(), ()] ?_))
        simp only [go_sem, ↓gx_tt, ↓gx_tf, ↓gx_ft, ↓gx_ff, ↓gx_u2, ↓gk_tt, ↓gk_tf, ↓gk_ff, ↓gk_ft, reduceCtorEq, Nat.reduceEqDiff, ↓reduceIte, Nat.reduceAdd, Nat.reduceSub, Nat.reduceLT, Nat.reduceMul, Nat.reduceBEq, Int.reduceLE, Int.reduceLT, Int.reduceAdd, Int.reduceSub, Int.reduceToNat, Int.reduceNeg, Int.reduceMul, Nat.reduceLeDiff]
        refine vcR_op [(), (), (), (), (), (), (), (), ()] rfl ?_
        refine vcO_call _ (money_Add _ (.int s) (cs.getD i .nil)) rfl (by simp only [go_sem]) rfl ?_ ?_ ?_ ?_ ?_ <;> simp only [go_sem, ↓gx_tt, ↓gx_tf, ↓gx_ft, ↓gx_ff, ↓gx_u2, ↓gk_tt, ↓gk_tf, ↓gk_ff, ↓gk_ft, reduceCtorEq, Nat.reduceEqDiff, ↓reduceIte, Nat.reduceAdd, Nat.reduceSub, Nat.reduceLT, Nat.reduceMul, Nat.reduceBEq, Int.reduceLE, Int.reduceLT, Int.reduceAdd, Int.reduceSub, Int.reduceToNat, Int.reduceNeg, Int.reduceMul, Nat.reduceLeDiff, addV, h]
        refine dc_seq (dc_region (ok0 gl) [] (by kernel_rfl) ?_)
        simp only [go_sem, ↓gx_tt, ↓gx_tf, ↓gx_ft, ↓gx_ff, ↓gx_u2, ↓gk_tt, ↓gk_tf, ↓gk_ff, ↓gk_ft, reduceCtorEq, Nat.reduceEqDiff, ↓reduceIte, Nat.reduceAdd, Nat.reduceSub, Nat.reduceLT, Nat.reduceMul, Nat.reduceBEq, Int.reduceLE, Int.reduceLT, Int.reduceAdd, Int.reduceSub, Int.reduceToNat, Int.reduceNeg, Int.reduceMul, Nat.reduceLeDiff]
        refine dc_cond _ rfl (fun h => by simp at h) (fun _ => dc_skip ?_)
        refine dc_region (ok0 gl) [] (by kernel_rfl) ?_
        simp only [go_sem, ↓gx_tt, ↓gx_tf, ↓gx_ft, ↓gx_ff, ↓gx_u2, ↓gk_tt, ↓gk_tf, ↓gk_ff, ↓gk_ft, reduceCtorEq, Nat.reduceEqDiff, ↓reduceIte, Nat.reduceAdd, Nat.reduceSub, Nat.reduceLT, Nat.reduceMul, Nat.reduceBEq, Int.reduceLE, Int.reduceLT, Int.reduceAdd, Int.reduceSub, Int.reduceToNat, Int.reduceNeg, Int.reduceMul, Nat.reduceLeDiff]
        refine ⟨(i + 1, s + (cs.getD i .nil).toInt), ⟨hlt, hS⟩, by simp only; omega, ?_⟩
        refine weak_to rfl ?_ ?_ ?_ ?_ ?_ <;> simp only [go_sem, ↓gx_tt, ↓gx_tf, ↓gx_ft, ↓gx_ff, ↓gx_u2, ↓gk_tt, ↓gk_tf, ↓gk_ff, ↓gk_ft, reduceCtorEq, Nat.reduceEqDiff, ↓reduceIte, Nat.reduceAdd, Nat.reduceSub, Nat.reduceLT, Nat.reduceMul, Nat.reduceBEq, Int.reduceLE, Int.reduceLT, Int.reduceAdd, Int.reduceSub, Int.reduceToNat, Int.reduceNeg, Int.reduceMul, Nat.reduceLeDiff]
        rw [IntWalk.i64_in _ (by omega)]; rfl
    · have hge : cs.length ≤ i := by simpa using hge
      rw [List.drop_eq_nil_of_le hge] at hS
      simp only [sumF] at hS
      refine dc_seq (dc_region (ok0 gl) [] (by kernel_rfl) ?_)
      simp only [go_sem, ↓gx_tt, ↓gx_tf, ↓gx_ft, ↓gx_ff, ↓gx_u2, ↓gk_tt, ↓gk_tf, ↓gk_ff, ↓gk_ft, reduceCtorEq, Nat.reduceEqDiff, ↓reduceIte, Nat.reduceAdd, Nat.reduceSub, Nat.reduceLT, Nat.reduceMul, Nat.reduceBEq, Int.reduceLE, Int.reduceLT, Int.reduceAdd, Int.reduceSub, Int.reduceToNat, Int.reduceNeg, Int.reduceMul, Nat.reduceLeDiff]
      simp only [← hS, sumV]
      refine dc_ret ⟨.inr rfl, ?_⟩
      simp only [retOk, go_sem, ↓gx_tt, ↓gx_tf, ↓gx_ft, ↓gx_ff, ↓gx_u2, ↓gk_tt, ↓gk_tf, ↓gk_ff, ↓gk_ft, reduceCtorEq, Nat.reduceEqDiff, ↓reduceIte, Nat.reduceAdd, Nat.reduceSub, Nat.reduceLT, Nat.reduceMul, Nat.reduceBEq, Int.reduceLE, Int.reduceLT, Int.reduceAdd, Int.reduceSub, Int.reduceToNat, Int.reduceNeg, Int.reduceMul, Nat.reduceLeDiff, Tryz.f28] <;> try rfl
end Go.Proofs.YtkbkpgnngfemnaaGreatDoor

namespace Go.Proofs.YtkbkpgnngfemnaaGreatDoor
open Go Go.E
set_option maxRecDepth 100000
variable {gl : Nat → Option (Ty × C)}
/-- Functions without code that runs use. -/
def ext0 : Ext1 := fun f xs =>
  bif Nat.beq f 52 then (match xs with
    | [.d (.int .u64) a, .d (.int .u64) b, .d (.int .u64) (.int c)] => if c = 0 then some (.tup [.d (.int .u64) (.int ((a.toInt + b.toInt) % 18446744073709551616)), .d (.int .u64) (.int ((a.toInt + b.toInt) / 18446744073709551616))]) else none
    | _ => none)
  else none
theorem ext0_ok (gl : Nat → Option (Ty × C)) : ExtOk (X0 gl) ext0 := by
  intro f xs v h
  unfold ext0 at h
  cases h1 : Nat.beq f 52 with
  | true =>
    rw [h1, cond_true] at h
    obtain rfl := Nat.eq_of_beq_eq_true h1
    split at h
    · simp only [Option.ite_none_right_eq_some, Option.some.injEq] at h
      obtain ⟨rfl, rfl⟩ := h
      exact bits_Add64 _ _
    · cases h
  | false =>
    rw [h1, cond_false] at h
    cases h
/-- Contracts that runs use. -/
def ov0 : Call1 := fun f xs _ =>
  match xs with
  | [.d (.slice eb e) (.slice cs)] => bif Nat.beq f 23 then (if eb = 1 ∧ e = .int .u8 then some (.ts eb e cs, []) else none)
    else bif Nat.beq f 25 then (if eb = 2368 ∧ e = tTx then some (.ts eb e cs, []) else none)
    else bif Nat.beq f 41 then (if eb = 32 ∧ e = .arr 32 (.int .u8) then some (.ts eb e cs, []) else none)
    else bif Nat.beq f 51 then (if eb = 64 ∧ e = tCond then some (.ts eb e cs, []) else none)
    else bif Nat.beq f 44 then (if eb = 8 ∧ e = .int .u64 ∧ cs.isEmpty = false then some (.sr (.l 7) [] 0 cs.length none eb e, [(.l 7, .box (.d (.arr cs.length (.int .u64)) (.agg cs)))]) else none)
    else none
  | _ => none
theorem ov0_ok (gl : Nat → Option (Ty × C)) : CallOk (X0 gl) ov0 := by
  intro f xs A v L h
  unfold ov0 at h
  split at h
  · rename_i eb e cs
    cases h1 : Nat.beq f 23 with
    | true =>
      obtain rfl := Nat.eq_of_beq_eq_true h1
      rw [h1, cond_true] at h
      simp only [Option.ite_none_right_eq_some, Option.some.injEq, Prod.mk.injEq] at h
      obtain ⟨⟨rfl, rfl⟩, rfl, rfl⟩ := h
      exact clone_Byte _ _
    | false =>
    rw [h1, cond_false] at h
    cases h1 : Nat.beq f 25 with
    | true =>
      obtain rfl := Nat.eq_of_beq_eq_true h1
      rw [h1, cond_true] at h
      simp only [Option.ite_none_right_eq_some, Option.some.injEq, Prod.mk.injEq] at h
      obtain ⟨⟨rfl, rfl⟩, rfl, rfl⟩ := h
      exact clone_Tx _ _
    | false =>
    rw [h1, cond_false] at h
    cases h1 : Nat.beq f 41 with
    | true =>
      obtain rfl := Nat.eq_of_beq_eq_true h1
      rw [h1, cond_true] at h
      simp only [Option.ite_none_right_eq_some, Option.some.injEq, Prod.mk.injEq] at h
      obtain ⟨⟨rfl, rfl⟩, rfl, rfl⟩ := h
      exact clone_Digest _ _
    | false =>
    rw [h1, cond_false] at h
    cases h1 : Nat.beq f 51 with
    | true =>
      obtain rfl := Nat.eq_of_beq_eq_true h1
      rw [h1, cond_true] at h
      simp only [Option.ite_none_right_eq_some, Option.some.injEq, Prod.mk.injEq] at h
      obtain ⟨⟨rfl, rfl⟩, rfl, rfl⟩ := h
      exact clone_Cond _ _
    | false =>
    rw [h1, cond_false] at h
    cases h1 : Nat.beq f 44 with
    | true =>
      obtain rfl := Nat.eq_of_beq_eq_true h1
      rw [h1, cond_true] at h
      simp only [Option.ite_none_right_eq_some, Option.some.injEq, Prod.mk.injEq] at h
      obtain ⟨⟨rfl, rfl, h2⟩, rfl, rfl⟩ := h
      exact clone_U64_arr _ _ (by intro e; subst e; simp at h2)
    | false =>
    rw [h1, cond_false] at h
    cases h
  · cases h
/-- A run that the kernel computes is a contract. -/
theorem by_run (gl : Nat → Option (Ty × C)) (tbl : FuncId → Nat → List (Nat × Nat)) (fuel d : Nat) {f : FuncId} {xs : List V} {v : V} {L : List (Key × O)} (h : evF (X0 gl) ov0 ext0 tbl fuel d f xs A0 = some (v, L)) (A : Key → Option O) : DCalls (X0 gl) f xs A v L :=
  (evF_ok (ok0 gl) (mo gl) (ov0_ok gl) (ext0_ok gl) d _ _ _ _ _ h).any A
def tbl0 : FuncId → Nat → List (Nat × Nat) := fun _ _ => []
end Go.Proofs.YtkbkpgnngfemnaaGreatDoor

namespace Go.Proofs.YtkbkpgnngfemnaaGreatDoor
open Go Go.E
set_option maxRecDepth 100000
/-- The law's run, by computation: the account that is asked is the only thing that stays open. -/
theorem run_CourtNil {gl : Nat → Option (Ty × C)} (p : C) : DCalls (X0 gl) 3 [.d (.int .i64) p] (fun _ => none) (.d .bool (.bool true)) [] :=
  by_run gl tbl0 1000 20 (by kernel_rfl) _
end Go.Proofs.YtkbkpgnngfemnaaGreatDoor
