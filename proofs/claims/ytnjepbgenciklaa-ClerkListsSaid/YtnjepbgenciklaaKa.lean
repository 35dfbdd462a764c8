/-
  What the functions on the way compute, part 1.
  Conditions: none.
-/
import Derived.Test.YtnjepbgenciklaaTf
import Derived.Laws.Externs
import Derived.Lib.Bytealg
set_option linter.all false
namespace Go.Proofs.Ytnjepbgenciklaa
open Go Go.E
set_option maxRecDepth 10000
set_option linter.unusedSimpArgs false
variable {gl : Nat → Option (Ty × C)}
theorem clone_Hop (A : Key → Option O) (cs : List C) : DCalls (X0 gl) 38 [.d (.slice 24 tHop) (.slice cs)] A (.ts 24 tHop cs) [] := by
  refine dcalls_intro (n := 8) (ok0 gl) Try.func38 rfl rfl (by simp) ?_
  intro A' hA
  refine dc_seq (dc_region (ok0 gl) [] (by kernel_rfl) ?_)
  simp only [go_sem, ↓gx_tt, ↓gx_tf, ↓gx_ft, ↓gx_ff, ↓gx_u2, ↓gk_tt, ↓gk_tf, ↓gk_ff, ↓gk_ft, reduceCtorEq, Nat.reduceEqDiff, ↓reduceIte, Nat.reduceAdd, Nat.reduceSub, Nat.reduceLT, Nat.reduceMul, Nat.reduceBEq, Int.reduceLE, Int.reduceLT, Int.reduceAdd, Int.reduceSub, Int.reduceToNat, Int.reduceNeg, Int.reduceMul, Nat.reduceLeDiff]
  refine dc_seq (dc_seq (dc_region (ok0 gl) [] (by kernel_rfl) ?_))
  cases cs with
  | nil =>
    simp only [go_sem, ↓gx_tt, ↓gx_tf, ↓gx_ft, ↓gx_ff, ↓gx_u2, ↓gk_tt, ↓gk_tf, ↓gk_ff, ↓gk_ft, reduceCtorEq, Nat.reduceEqDiff, ↓reduceIte, Nat.reduceAdd, Nat.reduceSub, Nat.reduceLT, Nat.reduceMul, Nat.reduceBEq, Int.reduceLE, Int.reduceLT, Int.reduceAdd, Int.reduceSub, Int.reduceToNat, Int.reduceNeg, Int.reduceMul, Nat.reduceLeDiff]
    refine dc_cond_top rfl ?_ (dc_skip ?_)
    · refine dc_seq (dc_region (ok0 gl) [] (by kernel_rfl) ?_)
      simp only [go_sem, ↓gx_tt, ↓gx_tf, ↓gx_ft, ↓gx_ff, ↓gx_u2, ↓gk_tt, ↓gk_tf, ↓gk_ff, ↓gk_ft, reduceCtorEq, Nat.reduceEqDiff, ↓reduceIte, Nat.reduceAdd, Nat.reduceSub, Nat.reduceLT, Nat.reduceMul, Nat.reduceBEq, Int.reduceLE, Int.reduceLT, Int.reduceAdd, Int.reduceSub, Int.reduceToNat, Int.reduceNeg, Int.reduceMul, Nat.reduceLeDiff]
      refine dc_ret ⟨.inr rfl, ?_⟩
      simp only [retOk, go_sem, ↓gx_tt, ↓gx_tf, ↓gx_ft, ↓gx_ff, ↓gx_u2, ↓gk_tt, ↓gk_tf, ↓gk_ff, ↓gk_ft, reduceCtorEq, Nat.reduceEqDiff, ↓reduceIte, Nat.reduceAdd, Nat.reduceSub, Nat.reduceLT, Nat.reduceMul, Nat.reduceBEq, Int.reduceLE, Int.reduceLT, Int.reduceAdd, Int.reduceSub, Int.reduceToNat, Int.reduceNeg, Int.reduceMul, Nat.reduceLeDiff, Try.f38]
    · refine dc_seq (dc_region (ok0 gl) [] (by kernel_rfl) ?_)
      simp only [go_sem, ↓gx_tt, ↓gx_tf, ↓gx_ft, ↓gx_ff, ↓gx_u2, ↓gk_tt, ↓gk_tf, ↓gk_ff, ↓gk_ft, reduceCtorEq, Nat.reduceEqDiff, ↓reduceIte, Nat.reduceAdd, Nat.reduceSub, Nat.reduceLT, Nat.reduceMul, Nat.reduceBEq, Int.reduceLE, Int.reduceLT, Int.reduceAdd, Int.reduceSub, Int.reduceToNat, Int.reduceNeg, Int.reduceMul, Nat.reduceLeDiff]
      refine dc_ret ⟨.inr rfl, ?_⟩
      simp only [retOk, go_sem, ↓gx_tt, ↓gx_tf, ↓gx_ft, ↓gx_ff, ↓gx_u2, ↓gk_tt, ↓gk_tf, ↓gk_ff, ↓gk_ft, reduceCtorEq, Nat.reduceEqDiff, ↓reduceIte, Nat.reduceAdd, Nat.reduceSub, Nat.reduceLT, Nat.reduceMul, Nat.reduceBEq, Int.reduceLE, Int.reduceLT, Int.reduceAdd, Int.reduceSub, Int.reduceToNat, Int.reduceNeg, Int.reduceMul, Nat.reduceLeDiff, Try.f38]
  | cons c cs =>
    simp only [go_sem, ↓gx_tt, ↓gx_tf, ↓gx_ft, ↓gx_ff, ↓gx_u2, ↓gk_tt, ↓gk_tf, ↓gk_ff, ↓gk_ft, reduceCtorEq, Nat.reduceEqDiff, ↓reduceIte, Nat.reduceAdd, Nat.reduceSub, Nat.reduceLT, Nat.reduceMul, Nat.reduceBEq, Int.reduceLE, Int.reduceLT, Int.reduceAdd, Int.reduceSub, Int.reduceToNat, Int.reduceNeg, Int.reduceMul, Nat.reduceLeDiff]
    refine dc_cond _ rfl (fun h => by simp at h) (fun _ => dc_skip ?_)
    refine dc_seq (dc_region (ok0 gl) [] (by kernel_rfl) ?_)
    simp only [go_sem, ↓gx_tt, ↓gx_tf, ↓gx_ft, ↓gx_ff, ↓gx_u2, ↓gk_tt, ↓gk_tf, ↓gk_ff, ↓gk_ft, reduceCtorEq, Nat.reduceEqDiff, ↓reduceIte, Nat.reduceAdd, Nat.reduceSub, Nat.reduceLT, Nat.reduceMul, Nat.reduceBEq, Int.reduceLE, Int.reduceLT, Int.reduceAdd, Int.reduceSub, Int.reduceToNat, Int.reduceNeg, Int.reduceMul, Nat.reduceLeDiff]
    refine dc_ret ⟨.inr rfl, ?_⟩
    simp only [retOk, go_sem, ↓gx_tt, ↓gx_tf, ↓gx_ft, ↓gx_ff, ↓gx_u2, ↓gk_tt, ↓gk_tf, ↓gk_ff, ↓gk_ft, reduceCtorEq, Nat.reduceEqDiff, ↓reduceIte, Nat.reduceAdd, Nat.reduceSub, Nat.reduceLT, Nat.reduceMul, Nat.reduceBEq, Int.reduceLE, Int.reduceLT, Int.reduceAdd, Int.reduceSub, Int.reduceToNat, Int.reduceNeg, Int.reduceMul, Nat.reduceLeDiff, Try.f38]
theorem clone_Wish (A : Key → Option O) (cs : List C) : DCalls (X0 gl) 32 [.d (.slice 112 tWish) (.slice cs)] A (.ts 112 tWish cs) [] := by
  refine dcalls_intro (n := 8) (ok0 gl) Try.func32 rfl rfl (by simp) ?_
  intro A' hA
  refine dc_seq (dc_region (ok0 gl) [] (by kernel_rfl) ?_)
  simp only [go_sem, ↓gx_tt, ↓gx_tf, ↓gx_ft, ↓gx_ff, ↓gx_u2, ↓gk_tt, ↓gk_tf, ↓gk_ff, ↓gk_ft, reduceCtorEq, Nat.reduceEqDiff, ↓reduceIte, Nat.reduceAdd, Nat.reduceSub, Nat.reduceLT, Nat.reduceMul, Nat.reduceBEq, Int.reduceLE, Int.reduceLT, Int.reduceAdd, Int.reduceSub, Int.reduceToNat, Int.reduceNeg, Int.reduceMul, Nat.reduceLeDiff]
  refine dc_seq (dc_seq (dc_region (ok0 gl) [] (by kernel_rfl) ?_))
  cases cs with
  | nil =>
    simp only [go_sem, ↓gx_tt, ↓gx_tf, ↓gx_ft, ↓gx_ff, ↓gx_u2, ↓gk_tt, ↓gk_tf, ↓gk_ff, ↓gk_ft, reduceCtorEq, Nat.reduceEqDiff, ↓reduceIte, Nat.reduceAdd, Nat.reduceSub, Nat.reduceLT, Nat.reduceMul, Nat.reduceBEq, Int.reduceLE, Int.reduceLT, Int.reduceAdd, Int.reduceSub, Int.reduceToNat, Int.reduceNeg, Int.reduceMul, Nat.reduceLeDiff]
    refine dc_cond_top rfl ?_ (dc_skip ?_)
    · refine dc_seq (dc_region (ok0 gl) [] (by kernel_rfl) ?_)
      simp only [go_sem, ↓gx_tt, ↓gx_tf, ↓gx_ft, ↓gx_ff, ↓gx_u2, ↓gk_tt, ↓gk_tf, ↓gk_ff, ↓gk_ft, reduceCtorEq, Nat.reduceEqDiff, ↓reduceIte, Nat.reduceAdd, Nat.reduceSub, Nat.reduceLT, Nat.reduceMul, Nat.reduceBEq, Int.reduceLE, Int.reduceLT, Int.reduceAdd, Int.reduceSub, Int.reduceToNat, Int.reduceNeg, Int.reduceMul, Nat.reduceLeDiff]
      refine dc_ret ⟨.inr rfl, ?_⟩
      simp only [retOk, go_sem, ↓gx_tt, ↓gx_tf, ↓gx_ft, ↓gx_ff, ↓gx_u2, ↓gk_tt, ↓gk_tf, ↓gk_ff, ↓gk_ft, reduceCtorEq, Nat.reduceEqDiff, ↓reduceIte, Nat.reduceAdd, Nat.reduceSub, Nat.reduceLT, Nat.reduceMul, Nat.reduceBEq, Int.reduceLE, Int.reduceLT, Int.reduceAdd, Int.reduceSub, Int.reduceToNat, Int.reduceNeg, Int.reduceMul, Nat.reduceLeDiff, Try.f32]
    · refine dc_seq (dc_region (ok0 gl) [] (by kernel_rfl) ?_)
      simp only [go_sem, ↓gx_tt, ↓gx_tf, ↓gx_ft, ↓gx_ff, ↓gx_u2, ↓gk_tt, ↓gk_tf, ↓gk_ff, ↓gk_ft, reduceCtorEq, Nat.reduceEqDiff, ↓reduceIte, Nat.reduceAdd, Nat.reduceSub, Nat.reduceLT, Nat.reduceMul, Nat.reduceBEq, Int.reduceLE, Int.reduceLT, Int.reduceAdd, Int.reduceSub, Int.reduceToNat, Int.reduceNeg, Int.reduceMul, Nat.reduceLeDiff]
      refine dc_ret ⟨.inr rfl, ?_⟩
      simp only [retOk, go_sem, ↓gx_tt, ↓gx_tf, ↓gx_ft, ↓gx_ff, ↓gx_u2, ↓gk_tt, ↓gk_tf, ↓gk_ff, ↓gk_ft, reduceCtorEq, Nat.reduceEqDiff, ↓reduceIte, Nat.reduceAdd, Nat.reduceSub, Nat.reduceLT, Nat.reduceMul, Nat.reduceBEq, Int.reduceLE, Int.reduceLT, Int.reduceAdd, Int.reduceSub, Int.reduceToNat, Int.reduceNeg, Int.reduceMul, Nat.reduceLeDiff, Try.f32]
  | cons c cs =>
    simp only [go_sem, ↓gx_tt, ↓gx_tf, ↓gx_ft, ↓gx_ff, ↓gx_u2, ↓gk_tt, ↓gk_tf, ↓gk_ff, ↓gk_ft, reduceCtorEq, Nat.reduceEqDiff, ↓reduceIte, Nat.reduceAdd, Nat.reduceSub, Nat.reduceLT, Nat.reduceMul, Nat.reduceBEq, Int.reduceLE, Int.reduceLT, Int.reduceAdd, Int.reduceSub, Int.reduceToNat, Int.reduceNeg, Int.reduceMul, Nat.reduceLeDiff]
    refine dc_cond _ rfl (fun h => by simp at h) (fun _ => dc_skip ?_)
    refine dc_seq (dc_region (ok0 gl) [] (by kernel_rfl) ?_)
    simp only [go_sem, ↓gx_tt, ↓gx_tf, ↓gx_ft, ↓gx_ff, ↓gx_u2, ↓gk_tt, ↓gk_tf, ↓gk_ff, ↓gk_ft, reduceCtorEq, Nat.reduceEqDiff, ↓reduceIte, Nat.reduceAdd, Nat.reduceSub, Nat.reduceLT, Nat.reduceMul, Nat.reduceBEq, Int.reduceLE, Int.reduceLT, Int.reduceAdd, Int.reduceSub, Int.reduceToNat, Int.reduceNeg, Int.reduceMul, Nat.reduceLeDiff]
    refine dc_ret ⟨.inr rfl, ?_⟩
    simp only [retOk, go_sem, ↓gx_tt, ↓gx_tf, ↓gx_ft, ↓gx_ff, ↓gx_u2, ↓gk_tt, ↓gk_tf, ↓gk_ff, ↓gk_ft, reduceCtorEq, Nat.reduceEqDiff, ↓reduceIte, Nat.reduceAdd, Nat.reduceSub, Nat.reduceLT, Nat.reduceMul, Nat.reduceBEq, Int.reduceLE, Int.reduceLT, Int.reduceAdd, Int.reduceSub, Int.reduceToNat, Int.reduceNeg, Int.reduceMul, Nat.reduceLeDiff, Try.f32]
end Go.Proofs.Ytnjepbgenciklaa


namespace Go.Proofs.Ytnjepbgenciklaa
open Go Go.E
set_option maxRecDepth 10000
set_option linter.unusedSimpArgs false
variable {gl : Nat → Option (Ty × C)}
end Go.Proofs.Ytnjepbgenciklaa


namespace Go.Proofs.Ytnjepbgenciklaa
open Go Go.E
set_option maxRecDepth 100000
end Go.Proofs.Ytnjepbgenciklaa


namespace Go.Proofs.Ytnjepbgenciklaa
open Go Go.E
set_option maxRecDepth 100000
def gl0 : Nat → Option (Ty × C) := fun _ => none
theorem gl0_sub (gl : Nat → Option (Ty × C)) (_ : (0 : Nat) = 0) : ∀ g x, gl0 g = some x → gl g = some x := fun _ _ h => by cases h
def extL : List (Nat × (List V → Option V)) := []
def extX : ExtK := extLook extL
theorem extL_ok (gl : Nat → Option (Ty × C)) : ExtLOk (X0 gl) extL := by
  unfold extL
  repeat' refine ExtLOk.append ?_ ⟨?_, trivial⟩
  · exact trivial
theorem extX_ok (gl : Nat → Option (Ty × C)) : ExtKOk (X0 gl) extX := extLook_ok (extL_ok gl)
def noX : FuncId → Nat → List (Nat × Nat) := fun _ _ => []
noncomputable def cl_Hop_g (_ : Nat) {R : Type} : OvG R := cloneG 24 tHop
theorem cl_Hop_ok (N : Nat) {R : Type} : GOk (X0 gl0) 38 (cl_Hop_g N (R := R)) := cloneG_ok fun A cs => clone_Hop A cs
noncomputable def cl_Wish_g (_ : Nat) {R : Type} : OvG R := cloneG 112 tWish
theorem cl_Wish_ok (N : Nat) {R : Type} : GOk (X0 gl0) 32 (cl_Wish_g N (R := R)) := cloneG_ok fun A cs => clone_Wish A cs
end Go.Proofs.Ytnjepbgenciklaa


namespace Go.Proofs.Ytnjepbgenciklaa
open Go Go.E
set_option maxRecDepth 100000
set_option maxHeartbeats 4000000
set_option linter.unusedVariables false
def octet_Out_num_as : List Sh := [.ts 1 (.int .u8), .d (.int .u64), .d (.int .i64)]
def octet_Out_num_os : List (Key × OSh) := []
noncomputable def octet_Out_num_hs : Hints := [([1, 0, 1], ⟨[], [(0, .sl 1 (.int .u8) 5000)], [], [], [], []⟩),
    ([4, 1, 0, 1], ⟨[1], [(0, .sl 1 (.int .u8) 5000), (7, .d (.int .i64))], [], [], [], []⟩),
    ([9], ⟨[], [(6, .sl 1 (.int .u8) 5006)], [], [], [], []⟩)]
noncomputable def octet_Out_num_ov (N : Nat) : OvS (X0 gl0) where
  g R := []
  ok := fun R => fun _ h => nomatch h
noncomputable def octet_Out_num_l1 {R : Type} (N : Nat) (k2 : KD R) : KD R → List C → List Es → Option R := (fun k3 d1 m1 => (bif decide (0 ≤ C.toInt (dk d1 2)) then (if 0 ≤ IntKind.wrap IntKind.i64 (8 * C.toInt (dk d1 2)) then (bif Nat.beq (List.length (C.elems (dk d1 1))) (List.length (C.elems (dk d1 1))) then (if (List.length (C.elems (dk d1 1)) + 1) * 1 ≤ 140737488355328 ∧ List.length (C.elems (dk d1 1)) + 1 ≤ 9223372036854775807 then (bif Nat.beq (List.length (C.elems (dk d1 1)) + 1) (List.length (C.elems (dk d1 1) ++ [C.int (IntKind.wrap IntKind.u8 (Int.fdiv (C.toInt (dk d1 0)) (2 ^ min (Int.toNat (IntKind.wrap IntKind.i64 (8 * C.toInt (dk d1 2)))) 64)))])) then (k3 [dk d1 0, C.slice (C.elems (dk d1 1) ++ [C.int (IntKind.wrap IntKind.u8 (Int.fdiv (C.toInt (dk d1 0)) (2 ^ min (Int.toNat (IntKind.wrap IntKind.i64 (8 * C.toInt (dk d1 2)))) 64)))]), C.int (IntKind.wrap IntKind.i64 (C.toInt (dk d1 2) - 1))] []) else none) else none) else none) else none) else (bif Nat.beq (List.length (C.elems (dk d1 1))) (List.length (C.elems (dk d1 1))) then (k2 [C.slice (C.elems (dk d1 1))] []) else none)))
noncomputable def octet_Out_num_p0 {R : Type} (N : Nat) (a0 a1 a2 : C) (k1 : KD R) : Option R := (jn (fun d1 m1 => (bif Nat.beq (List.length (C.elems (dk d1 0))) (List.length (C.elems (dk d1 0))) then (k1 [C.slice (C.elems (dk d1 0))] []) else none)) (fun k2 => (bif Nat.beq (List.length (C.elems a0)) (List.length (C.elems a0)) then (loopK N (octet_Out_num_l1 N k2) [a1, C.slice (C.elems a0), C.int (IntKind.wrap IntKind.i64 (C.toInt a2 - 1))] []) else none)))
noncomputable def octet_Out_num_p {R : Type} (N : Nat) : C → C → C → KD R → Option R := lid "octet_Out_num_p N" (octet_Out_num_p0 N)
theorem octet_Out_num_pe {R : Type} (N : Nat) (a0 a1 a2 : C) (k : KD R) : octet_Out_num_p N a0 a1 a2 k = octet_Out_num_p0 N a0 a1 a2 k := by unfold octet_Out_num_p; rw [lid_eq]
theorem octet_Out_num_run {R : Type} (N : Nat) (a0 a1 a2 : C) (K : V → List (Key × O) → Option R) : exF (X0 gl0) ((octet_Out_num_ov N).ov R) extX noX (fun f => bif Nat.beq f 65 then octet_Out_num_hs else []) N 400 8 65 (Sh.fills octet_Out_num_as 0 [a0, a1, a2]) (lookK (locFill octet_Out_num_os (Sh.manys octet_Out_num_as) 0 [a0, a1, a2] [])) K =
    octet_Out_num_p N a0 a1 a2 (fun d1 m1 => K (V.ts 1 (Ty.int IntKind.u8) (C.elems (dk d1 0))) []) := by
  rw [octet_Out_num_pe]
  exact (show _ = jn (fun d1 m1 => (bif Nat.beq (List.length (C.elems (dk d1 0))) (List.length (C.elems (dk d1 0))) then
    (K (V.ts 1 (Ty.int IntKind.u8) (C.elems (dk d1 0))) [])
  else
    none)) (octet_Out_num_p0 N a0 a1 a2) by kernel_rfl).trans ((jn_eq _ _).trans (congrArg (octet_Out_num_p0 N a0 a1 a2) (funext fun _ => funext fun _ => by simp only [Nat.beq_refl, cond_true])))
noncomputable def octet_Out_num_g (N : Nat) {R : Type} : OvG R := ptrG octet_Out_num_as octet_Out_num_os fun ds ms K => octet_Out_num_p N (dk ds 0) (dk ds 1) (dk ds 2) (fun d1 m1 => K (V.ts 1 (Ty.int IntKind.u8) (C.elems (dk d1 0))) [])
theorem octet_Out_num_ok (N : Nat) {R : Type} : GOk (X0 gl0) 65 (octet_Out_num_g N (R := R)) := by
  unfold octet_Out_num_g
  refine ptrG_ok fun ds ms K r hr => ?_
  rw [← octet_Out_num_run] at hr
  obtain ⟨v, L, h1, h2⟩ := exF_ok (ok0 gl0) (mo gl0) ((octet_Out_num_ov N).ov_ok _) (extX_ok gl0) _ _ _ _ _ _ hr
  exact ⟨v, L, h1, h2⟩
end Go.Proofs.Ytnjepbgenciklaa


namespace Go.Proofs.Ytnjepbgenciklaa
open Go Go.E
set_option maxRecDepth 100000
set_option maxHeartbeats 4000000
set_option linter.unusedVariables false
def octet_Out_Eight_as : List Sh := [.ts 1 (.int .u8), .d (.slice 8 (.int .u64))]
def octet_Out_Eight_os : List (Key × OSh) := []
noncomputable def octet_Out_Eight_hs : Hints := [([1, 0, 1], ⟨[], [(0, .sl 1 (.int .u8) 5000)], [], [], [], []⟩),
    ([4, 1, 0, 1], ⟨[7, 8], [(0, .sl 1 (.int .u8) 5000), (9, .d (.int .i64))], [], [], [], []⟩),
    ([9], ⟨[], [(4, .sl 1 (.int .u8) 5004)], [], [], [], []⟩)]
noncomputable def octet_Out_Eight_ov (N : Nat) : OvS (X0 gl0) where
  g R := [(65, octet_Out_num_g N)]
  ok := fun R => List.forall_mem_cons.2 ⟨octet_Out_num_ok N, fun _ h => nomatch h⟩
noncomputable def octet_Out_Eight_l1 {R : Type} (N : Nat) (k2 : KD R) : KD R → List C → List Es → Option R := (fun k3 d1 m1 => (bif decide (C.toInt (dk d1 3) < C.toInt (dk d1 1)) then (if 0 ≤ C.toInt (dk d1 3) ∧ C.toInt (dk d1 3) < (↑(List.length (C.elems (dk d1 0))) : Int) then (bif Nat.beq (List.length (C.elems (dk d1 2))) (List.length (C.elems (dk d1 2))) then (octet_Out_num_p N (C.slice (C.elems (dk d1 2))) (List.getD (C.elems (dk d1 0)) (Int.toNat (C.toInt (dk d1 3))) C.nil) (C.int 8) (fun d2 m2 => (bif Nat.beq (List.length (C.elems (dk d2 0))) (List.length (C.elems (dk d2 0))) then (k3 [dk d1 0, dk d1 1, C.slice (C.elems (dk d2 0)), C.int (IntKind.wrap IntKind.i64 (C.toInt (dk d1 3) + 1))] []) else none))) else none) else none) else (bif Nat.beq (List.length (C.elems (dk d1 2))) (List.length (C.elems (dk d1 2))) then (k2 [C.slice (C.elems (dk d1 2))] []) else none)))
noncomputable def octet_Out_Eight_p0 {R : Type} (N : Nat) (a0 a1 : C) (k1 : KD R) : Option R := (jn (fun d1 m1 => (bif Nat.beq (List.length (C.elems (dk d1 0))) (List.length (C.elems (dk d1 0))) then (k1 [C.slice (C.elems (dk d1 0))] []) else none)) (fun k2 => (bif Nat.beq (List.length (C.elems a0)) (List.length (C.elems a0)) then (loopK N (octet_Out_Eight_l1 N k2) [a1, C.int (↑(List.length (C.elems a1)) : Int), C.slice (C.elems a0), C.int 0] []) else none)))
noncomputable def octet_Out_Eight_p {R : Type} (N : Nat) : C → C → KD R → Option R := lid "octet_Out_Eight_p N" (octet_Out_Eight_p0 N)
theorem octet_Out_Eight_pe {R : Type} (N : Nat) (a0 a1 : C) (k : KD R) : octet_Out_Eight_p N a0 a1 k = octet_Out_Eight_p0 N a0 a1 k := by unfold octet_Out_Eight_p; rw [lid_eq]
theorem octet_Out_Eight_run {R : Type} (N : Nat) (a0 a1 : C) (K : V → List (Key × O) → Option R) : exF (X0 gl0) ((octet_Out_Eight_ov N).ov R) extX (fun f r => bif Nat.beq f 55 then (bif Nat.beq r 4 then [(15, 1)] else []) else []) (fun f => bif Nat.beq f 55 then octet_Out_Eight_hs else []) N 400 8 55 (Sh.fills octet_Out_Eight_as 0 [a0, a1]) (lookK (locFill octet_Out_Eight_os (Sh.manys octet_Out_Eight_as) 0 [a0, a1] [])) K =
    octet_Out_Eight_p N a0 a1 (fun d1 m1 => K (V.ts 1 (Ty.int IntKind.u8) (C.elems (dk d1 0))) []) := by
  rw [octet_Out_Eight_pe]
  exact (show _ = jn (fun d1 m1 => (bif Nat.beq (List.length (C.elems (dk d1 0))) (List.length (C.elems (dk d1 0))) then
    (K (V.ts 1 (Ty.int IntKind.u8) (C.elems (dk d1 0))) [])
  else
    none)) (octet_Out_Eight_p0 N a0 a1) by kernel_rfl).trans ((jn_eq _ _).trans (congrArg (octet_Out_Eight_p0 N a0 a1) (funext fun _ => funext fun _ => by simp only [Nat.beq_refl, cond_true])))
noncomputable def octet_Out_Eight_g (N : Nat) {R : Type} : OvG R := ptrG octet_Out_Eight_as octet_Out_Eight_os fun ds ms K => octet_Out_Eight_p N (dk ds 0) (dk ds 1) (fun d1 m1 => K (V.ts 1 (Ty.int IntKind.u8) (C.elems (dk d1 0))) [])
theorem octet_Out_Eight_ok (N : Nat) {R : Type} : GOk (X0 gl0) 55 (octet_Out_Eight_g N (R := R)) := by
  unfold octet_Out_Eight_g
  refine ptrG_ok fun ds ms K r hr => ?_
  rw [← octet_Out_Eight_run] at hr
  obtain ⟨v, L, h1, h2⟩ := exF_ok (ok0 gl0) (mo gl0) ((octet_Out_Eight_ov N).ov_ok _) (extX_ok gl0) _ _ _ _ _ _ hr
  exact ⟨v, L, h1, h2⟩
end Go.Proofs.Ytnjepbgenciklaa


namespace Go.Proofs.Ytnjepbgenciklaa
open Go Go.E
set_option maxRecDepth 100000
set_option maxHeartbeats 4000000
set_option linter.unusedVariables false
def octet_Out_One_as : List Sh := [.ts 1 (.int .u8), .d (.slice 1 (.int .u8))]
def octet_Out_One_os : List (Key × OSh) := []
noncomputable def octet_Out_One_hs : Hints := [([9], ⟨[], [(4, .sl 1 (.int .u8) 5004)], [], [], [], []⟩)]
noncomputable def octet_Out_One_ov (N : Nat) : OvS (X0 gl0) where
  g R := []
  ok := fun R => fun _ h => nomatch h
noncomputable def octet_Out_One_p0 {R : Type} (N : Nat) (a0 a1 : C) (k1 : KD R) : Option R := (bif Nat.beq (List.length (C.elems a0)) (List.length (C.elems a0)) then (if (List.length (C.elems a0) + List.length (C.elems a1)) * 1 ≤ 140737488355328 ∧ List.length (C.elems a0) + List.length (C.elems a1) ≤ 9223372036854775807 then (bif Nat.beq (List.length (C.elems a0) + List.length (C.elems a1)) (List.length (C.elems a0 ++ C.elems a1)) then (k1 [C.slice (C.elems a0 ++ C.elems a1)] []) else none) else none) else none)
noncomputable def octet_Out_One_p {R : Type} (N : Nat) : C → C → KD R → Option R := lid "octet_Out_One_p N" (octet_Out_One_p0 N)
theorem octet_Out_One_pe {R : Type} (N : Nat) (a0 a1 : C) (k : KD R) : octet_Out_One_p N a0 a1 k = octet_Out_One_p0 N a0 a1 k := by unfold octet_Out_One_p; rw [lid_eq]
theorem octet_Out_One_run {R : Type} (N : Nat) (a0 a1 : C) (K : V → List (Key × O) → Option R) : exF (X0 gl0) ((octet_Out_One_ov N).ov R) extX noX (fun f => bif Nat.beq f 33 then octet_Out_One_hs else []) N 400 8 33 (Sh.fills octet_Out_One_as 0 [a0, a1]) (lookK (locFill octet_Out_One_os (Sh.manys octet_Out_One_as) 0 [a0, a1] [])) K =
    octet_Out_One_p N a0 a1 (fun d1 m1 => K (V.ts 1 (Ty.int IntKind.u8) (C.elems (dk d1 0))) []) := by
  rw [octet_Out_One_pe]
  exact (show _ = jn (fun d1 m1 => (bif Nat.beq (List.length (C.elems (dk d1 0))) (List.length (C.elems (dk d1 0))) then
    (K (V.ts 1 (Ty.int IntKind.u8) (C.elems (dk d1 0))) [])
  else
    none)) (octet_Out_One_p0 N a0 a1) by kernel_rfl).trans ((jn_eq _ _).trans (congrArg (octet_Out_One_p0 N a0 a1) (funext fun _ => funext fun _ => by simp only [Nat.beq_refl, cond_true])))
noncomputable def octet_Out_One_g (N : Nat) {R : Type} : OvG R := ptrG octet_Out_One_as octet_Out_One_os fun ds ms K => octet_Out_One_p N (dk ds 0) (dk ds 1) (fun d1 m1 => K (V.ts 1 (Ty.int IntKind.u8) (C.elems (dk d1 0))) [])
theorem octet_Out_One_ok (N : Nat) {R : Type} : GOk (X0 gl0) 33 (octet_Out_One_g N (R := R)) := by
  unfold octet_Out_One_g
  refine ptrG_ok fun ds ms K r hr => ?_
  rw [← octet_Out_One_run] at hr
  obtain ⟨v, L, h1, h2⟩ := exF_ok (ok0 gl0) (mo gl0) ((octet_Out_One_ov N).ov_ok _) (extX_ok gl0) _ _ _ _ _ _ hr
  exact ⟨v, L, h1, h2⟩
end Go.Proofs.Ytnjepbgenciklaa


namespace Go.Proofs.Ytnjepbgenciklaa
open Go Go.E
set_option maxRecDepth 100000
set_option maxHeartbeats 4000000
set_option linter.unusedVariables false
def octet_Out_Four_as : List Sh := [.ts 1 (.int .u8), .d (.slice 4 (.int .u32))]
def octet_Out_Four_os : List (Key × OSh) := []
noncomputable def octet_Out_Four_hs : Hints := [([1, 0, 1], ⟨[], [(0, .sl 1 (.int .u8) 5000)], [], [], [], []⟩),
    ([4, 1, 0, 1], ⟨[7, 8], [(0, .sl 1 (.int .u8) 5000), (9, .d (.int .i64))], [], [], [], []⟩),
    ([9], ⟨[], [(4, .sl 1 (.int .u8) 5004)], [], [], [], []⟩)]
noncomputable def octet_Out_Four_ov (N : Nat) : OvS (X0 gl0) where
  g R := [(65, octet_Out_num_g N)]
  ok := fun R => List.forall_mem_cons.2 ⟨octet_Out_num_ok N, fun _ h => nomatch h⟩
noncomputable def octet_Out_Four_l1 {R : Type} (N : Nat) (k2 : KD R) : KD R → List C → List Es → Option R := (fun k3 d1 m1 => (bif decide (C.toInt (dk d1 3) < C.toInt (dk d1 1)) then (if 0 ≤ C.toInt (dk d1 3) ∧ C.toInt (dk d1 3) < (↑(List.length (C.elems (dk d1 0))) : Int) then (bif Nat.beq (List.length (C.elems (dk d1 2))) (List.length (C.elems (dk d1 2))) then (octet_Out_num_p N (C.slice (C.elems (dk d1 2))) (C.int (IntKind.wrap IntKind.u64 (C.toInt (List.getD (C.elems (dk d1 0)) (Int.toNat (C.toInt (dk d1 3))) C.nil)))) (C.int 4) (fun d2 m2 => (bif Nat.beq (List.length (C.elems (dk d2 0))) (List.length (C.elems (dk d2 0))) then (k3 [dk d1 0, dk d1 1, C.slice (C.elems (dk d2 0)), C.int (IntKind.wrap IntKind.i64 (C.toInt (dk d1 3) + 1))] []) else none))) else none) else none) else (bif Nat.beq (List.length (C.elems (dk d1 2))) (List.length (C.elems (dk d1 2))) then (k2 [C.slice (C.elems (dk d1 2))] []) else none)))
noncomputable def octet_Out_Four_p0 {R : Type} (N : Nat) (a0 a1 : C) (k1 : KD R) : Option R := (jn (fun d1 m1 => (bif Nat.beq (List.length (C.elems (dk d1 0))) (List.length (C.elems (dk d1 0))) then (k1 [C.slice (C.elems (dk d1 0))] []) else none)) (fun k2 => (bif Nat.beq (List.length (C.elems a0)) (List.length (C.elems a0)) then (loopK N (octet_Out_Four_l1 N k2) [a1, C.int (↑(List.length (C.elems a1)) : Int), C.slice (C.elems a0), C.int 0] []) else none)))
noncomputable def octet_Out_Four_p {R : Type} (N : Nat) : C → C → KD R → Option R := lid "octet_Out_Four_p N" (octet_Out_Four_p0 N)
theorem octet_Out_Four_pe {R : Type} (N : Nat) (a0 a1 : C) (k : KD R) : octet_Out_Four_p N a0 a1 k = octet_Out_Four_p0 N a0 a1 k := by unfold octet_Out_Four_p; rw [lid_eq]
theorem octet_Out_Four_run {R : Type} (N : Nat) (a0 a1 : C) (K : V → List (Key × O) → Option R) : exF (X0 gl0) ((octet_Out_Four_ov N).ov R) extX (fun f r => bif Nat.beq f 54 then (bif Nat.beq r 4 then [(16, 1)] else []) else []) (fun f => bif Nat.beq f 54 then octet_Out_Four_hs else []) N 400 8 54 (Sh.fills octet_Out_Four_as 0 [a0, a1]) (lookK (locFill octet_Out_Four_os (Sh.manys octet_Out_Four_as) 0 [a0, a1] [])) K =
    octet_Out_Four_p N a0 a1 (fun d1 m1 => K (V.ts 1 (Ty.int IntKind.u8) (C.elems (dk d1 0))) []) := by
  rw [octet_Out_Four_pe]
  exact (show _ = jn (fun d1 m1 => (bif Nat.beq (List.length (C.elems (dk d1 0))) (List.length (C.elems (dk d1 0))) then
    (K (V.ts 1 (Ty.int IntKind.u8) (C.elems (dk d1 0))) [])
  else
    none)) (octet_Out_Four_p0 N a0 a1) by kernel_rfl).trans ((jn_eq _ _).trans (congrArg (octet_Out_Four_p0 N a0 a1) (funext fun _ => funext fun _ => by simp only [Nat.beq_refl, cond_true])))
noncomputable def octet_Out_Four_g (N : Nat) {R : Type} : OvG R := ptrG octet_Out_Four_as octet_Out_Four_os fun ds ms K => octet_Out_Four_p N (dk ds 0) (dk ds 1) (fun d1 m1 => K (V.ts 1 (Ty.int IntKind.u8) (C.elems (dk d1 0))) [])
theorem octet_Out_Four_ok (N : Nat) {R : Type} : GOk (X0 gl0) 54 (octet_Out_Four_g N (R := R)) := by
  unfold octet_Out_Four_g
  refine ptrG_ok fun ds ms K r hr => ?_
  rw [← octet_Out_Four_run] at hr
  obtain ⟨v, L, h1, h2⟩ := exF_ok (ok0 gl0) (mo gl0) ((octet_Out_Four_ov N).ov_ok _) (extX_ok gl0) _ _ _ _ _ _ hr
  exact ⟨v, L, h1, h2⟩
end Go.Proofs.Ytnjepbgenciklaa


namespace Go.Proofs.Ytnjepbgenciklaa
open Go Go.E
set_option maxRecDepth 100000
set_option maxHeartbeats 4000000
set_option linter.unusedVariables false
def octet_Out_Sum_as : List Sh := [.ts 1 (.int .u8), .d (.slice 32 (.arr 32 (.int .u8)))]
def octet_Out_Sum_os : List (Key × OSh) := []
noncomputable def octet_Out_Sum_hs : Hints := [([1, 0, 1], ⟨[], [(0, .sl 1 (.int .u8) 5000)], [], [], [], []⟩),
    ([4, 1, 0, 1], ⟨[7, 8], [(0, .sl 1 (.int .u8) 5000), (9, .d (.int .i64))], [], [], [], []⟩),
    ([9], ⟨[], [(4, .sl 1 (.int .u8) 5004)], [], [], [], []⟩)]
noncomputable def octet_Out_Sum_ov (N : Nat) : OvS (X0 gl0) where
  g R := []
  ok := fun R => fun _ h => nomatch h
noncomputable def octet_Out_Sum_l1 {R : Type} (N : Nat) (k2 : KD R) : KD R → List C → List Es → Option R := (fun k3 d1 m1 => (bif decide (C.toInt (dk d1 3) < C.toInt (dk d1 1)) then (if 0 ≤ C.toInt (dk d1 3) ∧ C.toInt (dk d1 3) < (↑(List.length (C.elems (dk d1 0))) : Int) then (bif Nat.beq (List.length (C.elems (dk d1 2))) (List.length (C.elems (dk d1 2))) then (if (List.length (C.elems (dk d1 2)) + List.length (List.take 32 (List.drop 0 (C.elems (List.getD (C.elems (dk d1 0)) (Int.toNat (C.toInt (dk d1 3))) C.nil))))) * 1 ≤ 140737488355328 ∧ List.length (C.elems (dk d1 2)) + List.length (List.take 32 (List.drop 0 (C.elems (List.getD (C.elems (dk d1 0)) (Int.toNat (C.toInt (dk d1 3))) C.nil)))) ≤ 9223372036854775807 then (bif Nat.beq (List.length (C.elems (dk d1 2)) + List.length (List.take 32 (List.drop 0 (C.elems (List.getD (C.elems (dk d1 0)) (Int.toNat (C.toInt (dk d1 3))) C.nil))))) (List.length (C.elems (dk d1 2) ++ List.take 32 (List.drop 0 (C.elems (List.getD (C.elems (dk d1 0)) (Int.toNat (C.toInt (dk d1 3))) C.nil))))) then (k3 [dk d1 0, dk d1 1, C.slice (C.elems (dk d1 2) ++ List.take 32 (List.drop 0 (C.elems (List.getD (C.elems (dk d1 0)) (Int.toNat (C.toInt (dk d1 3))) C.nil)))), C.int (IntKind.wrap IntKind.i64 (C.toInt (dk d1 3) + 1))] []) else none) else none) else none) else none) else (bif Nat.beq (List.length (C.elems (dk d1 2))) (List.length (C.elems (dk d1 2))) then (k2 [C.slice (C.elems (dk d1 2))] []) else none)))
noncomputable def octet_Out_Sum_p0 {R : Type} (N : Nat) (a0 a1 a2 : C) (k1 : KD R) : Option R := (jn (fun d1 m1 => (bif Nat.beq (List.length (C.elems (dk d1 0))) (List.length (C.elems (dk d1 0))) then (k1 [C.slice (C.elems (dk d1 0))] []) else none)) (fun k2 => (bif Nat.beq (List.length (C.elems a0)) (List.length (C.elems a0)) then (loopK N (octet_Out_Sum_l1 N k2) [a1, C.int (↑(List.length (C.elems a1)) : Int), C.slice (C.elems a0), C.int 0] []) else none)))
noncomputable def octet_Out_Sum_p {R : Type} (N : Nat) : C → C → C → KD R → Option R := lid "octet_Out_Sum_p N" (octet_Out_Sum_p0 N)
theorem octet_Out_Sum_pe {R : Type} (N : Nat) (a0 a1 a2 : C) (k : KD R) : octet_Out_Sum_p N a0 a1 a2 k = octet_Out_Sum_p0 N a0 a1 a2 k := by unfold octet_Out_Sum_p; rw [lid_eq]
theorem octet_Out_Sum_run {R : Type} (N : Nat) (a0 a1 a2 : C) (K : V → List (Key × O) → Option R) : exF (X0 gl0) ((octet_Out_Sum_ov N).ov R) extX noX (fun f => bif Nat.beq f 66 then octet_Out_Sum_hs else []) N 400 8 66 (Sh.fills octet_Out_Sum_as 0 [a0, a1, a2]) (lookK (locFill octet_Out_Sum_os (Sh.manys octet_Out_Sum_as) 0 [a0, a1, a2] [])) K =
    octet_Out_Sum_p N a0 a1 a2 (fun d1 m1 => K (V.ts 1 (Ty.int IntKind.u8) (C.elems (dk d1 0))) []) := by
  rw [octet_Out_Sum_pe]
  exact (show _ = jn (fun d1 m1 => (bif Nat.beq (List.length (C.elems (dk d1 0))) (List.length (C.elems (dk d1 0))) then
    (K (V.ts 1 (Ty.int IntKind.u8) (C.elems (dk d1 0))) [])
  else
    none)) (octet_Out_Sum_p0 N a0 a1 a2) by kernel_rfl).trans ((jn_eq _ _).trans (congrArg (octet_Out_Sum_p0 N a0 a1 a2) (funext fun _ => funext fun _ => by simp only [Nat.beq_refl, cond_true])))
noncomputable def octet_Out_Sum_g (N : Nat) {R : Type} : OvG R := ptrG octet_Out_Sum_as octet_Out_Sum_os fun ds ms K => octet_Out_Sum_p N (dk ds 0) (dk ds 1) (dk ds 2) (fun d1 m1 => K (V.ts 1 (Ty.int IntKind.u8) (C.elems (dk d1 0))) [])
theorem octet_Out_Sum_ok (N : Nat) {R : Type} : GOk (X0 gl0) 66 (octet_Out_Sum_g N (R := R)) := by
  unfold octet_Out_Sum_g
  refine ptrG_ok fun ds ms K r hr => ?_
  rw [← octet_Out_Sum_run] at hr
  obtain ⟨v, L, h1, h2⟩ := exF_ok (ok0 gl0) (mo gl0) ((octet_Out_Sum_ov N).ov_ok _) (extX_ok gl0) _ _ _ _ _ _ hr
  exact ⟨v, L, h1, h2⟩
end Go.Proofs.Ytnjepbgenciklaa


namespace Go.Proofs.Ytnjepbgenciklaa
open Go Go.E
set_option maxRecDepth 100000
set_option maxHeartbeats 4000000
set_option linter.unusedVariables false
noncomputable def ref01_Num_hs : Hints := [([1, 0, 1, 1], ⟨[0, 7], [], [], [], [], []⟩),
    ([4, 1, 0, 1, 1], ⟨[0, 7], [(1, .d (.int .u64)), (8, .d (.int .i64))], [], [], [], []⟩),
    ([9], ⟨[], [(6, .sl 1 (.int .u8) 5006)], [], [], [], []⟩)]
noncomputable def ref01_Num_ov (N : Nat) : OvS (X0 gl0) where
  g R := []
  ok := fun R => fun _ h => nomatch h
noncomputable def ref01_Num_l1 {R : Type} (N : Nat) (a2 : C) (k2 : KD R) : KD R → List C → List Es → Option R := (fun k3 d1 m1 => (bif decide (0 ≤ C.toInt (dk d1 5)) then (if 0 ≤ C.toInt (dk d1 5) ∧ C.toInt (dk d1 5) < (↑(Int.toNat (C.toInt (dk d1 2))) : Int) then (if Ty.arr (Int.toNat (C.toInt a2)) (Ty.int IntKind.u8) = Ty.arr (Int.toNat (C.toInt a2)) (Ty.int IntKind.u8) then (k3 [dk d1 0, C.int (↑(Int.toNat (C.toInt (dk d1 1))) : Int), C.int (↑(Int.toNat (C.toInt (dk d1 2))) : Int), C.int (↑(Int.toNat (C.toInt (dk d1 3))) : Int), C.int (IntKind.wrap IntKind.u64 (Int.tdiv (C.toInt (dk d1 4)) 256)), C.int (IntKind.wrap IntKind.i64 (C.toInt (dk d1 5) - 1)), C.set (dk d1 6) (Int.toNat (C.toInt (dk d1 1)) + Int.toNat (C.toInt (dk d1 5))) (C.int (IntKind.wrap IntKind.u8 (Int.tmod (C.toInt (dk d1 4)) 256)))] []) else none) else none) else (if Ty.arr (Int.toNat (C.toInt a2)) (Ty.int IntKind.u8) = Ty.arr (Int.toNat (C.toInt a2)) (Ty.int IntKind.u8) then (k2 [dk d1 0, C.int (↑(Int.toNat (C.toInt (dk d1 1))) : Int), C.int (↑(Int.toNat (C.toInt (dk d1 2))) : Int), C.int (↑(Int.toNat (C.toInt (dk d1 3))) : Int), dk d1 6] []) else none)))
noncomputable def ref01_Num_p0 {R : Type} (N : Nat) (a0 a1 a2 : C) (k1 : KD R) : Option R := (if 0 ≤ C.toInt a2 ∧ C.toInt a2 ≤ C.toInt a2 ∧ C.toInt a2 ≤ 9223372036854775807 ∧ Int.toNat (C.toInt a2) * 1 ≤ 140737488355328 then (jn (fun d1 m1 => (bif Nat.beq (List.length (C.elems (dk d1 0))) (List.length (C.elems (dk d1 0))) then (if (List.length (C.elems (dk d1 0)) + List.length (List.take (Int.toNat (C.toInt (dk d1 2))) (List.drop (Int.toNat (C.toInt (dk d1 1))) (C.elems (dk d1 4))))) * 1 ≤ 140737488355328 ∧ List.length (C.elems (dk d1 0)) + List.length (List.take (Int.toNat (C.toInt (dk d1 2))) (List.drop (Int.toNat (C.toInt (dk d1 1))) (C.elems (dk d1 4)))) ≤ 9223372036854775807 then (bif Nat.beq (List.length (C.elems (dk d1 0)) + List.length (List.take (Int.toNat (C.toInt (dk d1 2))) (List.drop (Int.toNat (C.toInt (dk d1 1))) (C.elems (dk d1 4))))) (List.length (C.elems (dk d1 0) ++ List.take (Int.toNat (C.toInt (dk d1 2))) (List.drop (Int.toNat (C.toInt (dk d1 1))) (C.elems (dk d1 4))))) then (k1 [C.slice (C.elems (dk d1 0) ++ List.take (Int.toNat (C.toInt (dk d1 2))) (List.drop (Int.toNat (C.toInt (dk d1 1))) (C.elems (dk d1 4))))] []) else none) else none) else none)) (fun k2 => (if Ty.arr (Int.toNat (C.toInt a2)) (Ty.int IntKind.u8) = Ty.arr (Int.toNat (C.toInt a2)) (Ty.int IntKind.u8) then (loopK N (ref01_Num_l1 N a2 k2) [a0, C.int 0, C.int (↑(Int.toNat (C.toInt a2)) : Int), C.int (↑(Int.toNat (C.toInt a2)) : Int), a1, C.int (IntKind.wrap IntKind.i64 (C.toInt a2 - 1)), C.agg (List.replicate (Int.toNat (C.toInt a2)) (zeroC (Ty.int IntKind.u8)))] []) else none))) else none)
noncomputable def ref01_Num_p {R : Type} (N : Nat) : C → C → C → KD R → Option R := lid "ref01_Num_p N" (ref01_Num_p0 N)
theorem ref01_Num_pe {R : Type} (N : Nat) (a0 a1 a2 : C) (k : KD R) : ref01_Num_p N a0 a1 a2 k = ref01_Num_p0 N a0 a1 a2 k := by unfold ref01_Num_p; rw [lid_eq]
theorem ref01_Num_run {R : Type} (N : Nat) (a0 a1 a2 : C) (K : V → List (Key × O) → Option R) : exF (X0 gl0) ((ref01_Num_ov N).ov R) extX noX (fun f => bif Nat.beq f 57 then ref01_Num_hs else []) N 400 8 57 [.d (.slice 1 (.int .u8)) a0, .d (.int .u64) a1, .d (.int .i64) a2] A0 K =
    ref01_Num_p N a0 a1 a2 (fun d1 m1 => K (V.ts 1 (Ty.int IntKind.u8) (C.elems (dk d1 0))) []) := by
  rw [ref01_Num_pe]
  exact (show _ = jn (fun d1 m1 => (bif Nat.beq (List.length (C.elems (dk d1 0))) (List.length (C.elems (dk d1 0))) then
    (K (V.ts 1 (Ty.int IntKind.u8) (C.elems (dk d1 0))) [])
  else
    none)) (ref01_Num_p0 N a0 a1 a2) by kernel_rfl).trans ((jn_eq _ _).trans (congrArg (ref01_Num_p0 N a0 a1 a2) (funext fun _ => funext fun _ => by simp only [Nat.beq_refl, cond_true])))
noncomputable def ref01_Num_g (N : Nat) {R : Type} : OvG R := fun xs _ K => match xs with
  | [.d t0 a0, .d t1 a1, .d t2 a2] => if t0 = (.slice 1 (.int .u8)) ∧ t1 = (.int .u64) ∧ t2 = (.int .i64) then ref01_Num_p N a0 a1 a2 (fun d1 m1 => K (V.ts 1 (Ty.int IntKind.u8) (C.elems (dk d1 0))) []) else none
  | _ => none
theorem ref01_Num_ok (N : Nat) {R : Type} : GOk (X0 gl0) 57 (ref01_Num_g N (R := R)) := by
  intro xs A Kr r hr
  unfold ref01_Num_g at hr
  split at hr
  · simp only [Option.ite_none_right_eq_some] at hr
    obtain ⟨hty, hr⟩ := hr
    obtain ⟨rfl, rfl, rfl⟩ := hty
    rw [← ref01_Num_run] at hr
    obtain ⟨v, L, h1, h2⟩ := exF_ok (ok0 gl0) (mo gl0) ((ref01_Num_ov N).ov_ok _) (extX_ok gl0) _ _ _ _ _ _ hr
    exact ⟨v, L, h1.mono (leA_none fun _ => rfl), h2⟩
  · cases hr
end Go.Proofs.Ytnjepbgenciklaa


namespace Go.Proofs.Ytnjepbgenciklaa
open Go Go.E
set_option maxRecDepth 100000
set_option maxHeartbeats 4000000
set_option linter.unusedSimpArgs false
variable {R : Type} {N : Nat}
def W64 (a : Int) : Prop := 0 ≤ a ∧ a < 18446744073709551616
theorem wrap_u8 (x : Int) : IntKind.u8.wrap x = x % 256 := by simp [IntKind.wrap, IntKind.bits, IntKind.signed]
theorem wrap_i64 {n : Int} (h : -9223372036854775808 ≤ n) (h2 : n < 9223372036854775808) : IntKind.i64.wrap n = n := IntWalk.i64_in _ (by omega)
def numB : Nat → Int → List C
  | 0, _ => []
  | k + 1, n => numB k (n / 256) ++ [.int (n % 256)]
theorem numB_len : ∀ (k : Nat) (n : Int), (numB k n).length = k
  | 0, _ => rfl
  | k + 1, n => by simp [numB, numB_len k]
theorem numB_cons : ∀ (k : Nat) (n : Int), numB (k + 1) n = .int (n / 256 ^ k % 256) :: numB k n
  | 0, n => by simp [numB]
  | k + 1, n => by
    have e : n / 256 / 256 ^ k = n / 256 ^ (k + 1) := by
      rw [Int.ediv_ediv_of_nonneg (by omega), Int.pow_succ, Int.mul_comm]
    rw [numB, numB_cons k (n / 256), e]
    rfl
theorem out_num_loop (k2 : KD R) (c : C) (hc : 0 ≤ c.toInt) : ∀ (m : Nat) (out : List C) (N' : Nat), m ≤ 8 → m < N' → out.length + m ≤ 1000000000000 →
    loopK N' (octet_Out_num_l1 N k2) [c, .slice out, .int ((m : Int) - 1)] [] = k2 [.slice (out ++ numB m c.toInt)] []
  | 0, out, N', _, hN, _ => by
    obtain ⟨n, rfl⟩ : ∃ n, N' = n + 1 := ⟨N' - 1, by omega⟩
    rw [loopK_succ]
    unfold octet_Out_num_l1
    simp [go_sem, c_int, c_slice, numB]
  | m + 1, out, N', hm, hN, hl => by
    obtain ⟨n, rfl⟩ : ∃ n, N' = n + 1 := ⟨N' - 1, by omega⟩
    have e0 : ((m + 1 : Nat) : Int) - 1 = m := by omega
    have e1 : IntKind.i64.wrap (8 * (m : Int)) = 8 * m := wrap_i64 (by omega) (by omega)
    have e2 : IntKind.i64.wrap ((m : Int) - 1) = m - 1 := wrap_i64 (by omega) (by omega)
    have e3 : min (8 * (m : Int)).toNat 64 = 8 * m := by omega
    have e4 : Int.fdiv c.toInt (2 ^ (8 * m)) = c.toInt / 256 ^ m := by
      rw [Int.fdiv_eq_ediv_of_nonneg _ (Int.pow_nonneg (by omega)), Int.pow_mul]; rfl
    have h1 : (0 : Int) ≤ 8 * m := by omega
    have h2 : (out.length + 1) * 1 ≤ 140737488355328 ∧ out.length + 1 ≤ 9223372036854775807 := by omega
    have hb : ∀ rec : KD R, octet_Out_num_l1 N k2 rec [c, .slice out, .int m] [] = rec [c, .slice (out ++ [.int (c.toInt / 256 ^ m % 256)]), .int ((m : Int) - 1)] [] := by
      intro rec
      unfold octet_Out_num_l1
      simp only [dk_0, dk_1, dk_2, c_int, c_slice, e1, e2, e3, e4, wrap_u8, h1, h2, and_self, if_true, Int.natCast_nonneg, decide_true, cond_true, Nat.beq_refl, List.length_append, List.length_cons, List.length_nil, Nat.zero_add]
    rw [loopK_succ, e0, hb]
    rw [out_num_loop k2 c hc m _ n (by omega) (by omega) (by simp; omega), numB_cons]
    simp
theorem out_num_eq (out : List C) (c : C) (hc : 0 ≤ c.toInt) (m : Nat) (hm : m ≤ 8) (hl : out.length + m ≤ 1000000000000) (hN : 100 < N) (k : KD R) :
    octet_Out_num_p N (.slice out) c (.int m) k = k [.slice (out ++ numB m c.toInt)] [] := by
  rw [octet_Out_num_pe]
  unfold octet_Out_num_p0
  simp only [jn_eq, c_int, c_slice, dk_0, Nat.beq_refl, cond_true]
  rw [wrap_i64 (by omega) (by omega), out_num_loop _ c hc m out N hm (by omega) hl]
  rfl
theorem out_One_eq (out l : List C) (hl : out.length + l.length ≤ 1000000000000) (k : KD R) : octet_Out_One_p N (.slice out) (.slice l) k = k [.slice (out ++ l)] [] := by
  rw [octet_Out_One_pe]
  unfold octet_Out_One_p0
  simp only [c_slice, Nat.beq_refl, cond_true, List.length_append]
  rw [if_pos (by omega)]
def numsB (k : Nat) (l : List C) : List C := l.flatMap fun c => numB k c.toInt
theorem numsB_take {k : Nat} {l : List C} {i : Nat} (h : i < l.length) : numsB k (l.take (i + 1)) = numsB k (l.take i) ++ numB k (l.getD i .nil).toInt := by
  have : l.take (i + 1) = l.take i ++ [l.getD i .nil] := by
    rw [List.take_add_one, List.getElem?_eq_getElem h, List.getD_eq_getElem?_getD, List.getElem?_eq_getElem h]; rfl
  rw [this]; simp [numsB]
theorem numsB_len (k : Nat) : ∀ l : List C, (numsB k l).length = k * l.length
  | [] => rfl
  | c :: l => by
    have := numsB_len k l
    simp only [numsB, List.flatMap_cons, List.length_append, numB_len, List.length_cons] at this ⊢
    rw [this, Nat.mul_succ]; omega
theorem getD_mem {l : List C} {i : Nat} (h : i < l.length) : l.getD i .nil ∈ l := by
  rw [List.getD_eq_getElem?_getD, List.getElem?_eq_getElem h]; exact List.getElem_mem h
theorem out_Eight_eq (out l : List C) (hc : ∀ c ∈ l, 0 ≤ c.toInt) (hl : out.length + 8 * l.length ≤ 1000000000000) (hN : l.length + 100 < N) (k : KD R) :
    octet_Out_Eight_p N (.slice out) (.slice l) k = k [.slice (out ++ numsB 8 l)] [] := by
  rw [octet_Out_Eight_pe]
  unfold octet_Out_Eight_p0
  simp only [jn_eq, c_int, c_slice, dk_0, Nat.beq_refl, cond_true]
  have key := loopK_count (F := octet_Out_Eight_l1 N fun d1 m1 => k [.slice (dk d1 0).elems] []) (fun i => [.slice l, .int l.length, .slice (out ++ numsB 8 (l.take i)), .int i]) (fun _ => []) l.length (k [.slice (out ++ numsB 8 l)] []) ?_ ?_ (N := N) (by omega)
  · simpa [numsB] using key
  · intro i hi rec
    have h1 : (i : Int) < (l.length : Int) := by omega
    unfold octet_Out_Eight_l1
    simp only [dk_0, dk_1, dk_2, dk_3, c_int, c_slice, h1, decide_true, cond_true, Int.natCast_nonneg, and_self, if_true, Nat.beq_refl, Int.toNat_natCast]
    rw [show C.int 8 = C.int ((8 : Nat) : Int) from rfl, out_num_eq _ _ (hc _ (getD_mem hi)) 8 (by omega) (by simp [numsB_len]; omega) (by omega)]
    simp only [dk_0, c_slice, Nat.beq_refl, cond_true, numsB_take hi, wrap_succ (show i < 4611686018427387904 by omega), List.append_assoc]
  · intro rec
    unfold octet_Out_Eight_l1
    simp only [dk_0, dk_1, dk_2, dk_3, c_int, c_slice, Int.lt_irrefl, decide_false, cond_false, Nat.beq_refl, cond_true, List.take_length]
theorem out_Four_eq (out l : List C) (hc : ∀ c ∈ l, 0 ≤ c.toInt ∧ c.toInt < 18446744073709551616) (hl : out.length + 4 * l.length ≤ 1000000000000) (hN : l.length + 100 < N) (k : KD R) :
    octet_Out_Four_p N (.slice out) (.slice l) k = k [.slice (out ++ numsB 4 l)] [] := by
  rw [octet_Out_Four_pe]
  unfold octet_Out_Four_p0
  simp only [jn_eq, c_int, c_slice, dk_0, Nat.beq_refl, cond_true]
  have key := loopK_count (F := octet_Out_Four_l1 N fun d1 m1 => k [.slice (dk d1 0).elems] []) (fun i => [.slice l, .int l.length, .slice (out ++ numsB 4 (l.take i)), .int i]) (fun _ => []) l.length (k [.slice (out ++ numsB 4 l)] []) ?_ ?_ (N := N) (by omega)
  · simpa [numsB] using key
  · intro i hi rec
    have h1 : (i : Int) < (l.length : Int) := by omega
    have h2 := hc _ (getD_mem hi)
    unfold octet_Out_Four_l1
    simp only [dk_0, dk_1, dk_2, dk_3, c_int, c_slice, h1, decide_true, cond_true, Int.natCast_nonneg, and_self, if_true, Nat.beq_refl, Int.toNat_natCast]
    rw [wrap_u64 h2.1 h2.2, show C.int 4 = C.int ((4 : Nat) : Int) from rfl, out_num_eq _ _ (by simpa [c_int] using h2.1) 4 (by omega) (by simp [numsB_len]; omega) (by omega)]
    simp only [dk_0, c_int, c_slice, Nat.beq_refl, cond_true, numsB_take hi, wrap_succ (show i < 4611686018427387904 by omega), List.append_assoc]
  · intro rec
    unfold octet_Out_Four_l1
    simp only [dk_0, dk_1, dk_2, dk_3, c_int, c_slice, Int.lt_irrefl, decide_false, cond_false, Nat.beq_refl, cond_true, List.take_length]
theorem out_Sum_eq (out : List C) (c x : C) (hc : c.elems.length = 32) (hl : out.length + 32 ≤ 1000000000000) (hN : 100 < N) (k : KD R) :
    octet_Out_Sum_p N (.slice out) (.slice [c]) x k = k [.slice (out ++ c.elems)] [] := by
  obtain ⟨n, rfl⟩ : ∃ n, N = n + 2 := ⟨N - 2, by omega⟩
  have e1 : c.elems.take 32 = c.elems := by rw [List.take_of_length_le (by omega)]
  have w1 : IntKind.i64.wrap (0 + 1) = 1 := by decide
  rw [octet_Out_Sum_pe]
  unfold octet_Out_Sum_p0
  simp only [jn_eq, c_int, c_slice, dk_0, Nat.beq_refl, cond_true]
  rw [loopK_succ]
  unfold octet_Out_Sum_l1
  simp only [dk_0, dk_1, dk_2, dk_3, c_int, c_slice, List.length_cons, List.length_nil, Nat.zero_add, List.getD_cons_zero, Int.toNat_zero, List.drop_zero, e1, hc, Nat.beq_refl, cond_true, List.length_append, w1]
  rw [if_pos (by omega), loopK_succ]
  simp [go_sem, c_int, c_slice]
  intro h
  omega
theorem rnum_loop (a0 : C) (S : Nat) (k2 : KD R) : ∀ (m : Nat) (c : C) (X : List C) (N' : Nat), m ≤ S → S ≤ 8 → m < N' → W64 c.toInt →
    loopK N' (ref01_Num_l1 N (.int S) k2) [a0, .int 0, .int S, .int S, c, .int ((m : Int) - 1), .agg (List.replicate m (.int 0) ++ X)] [] = k2 [a0, .int 0, .int S, .int S, .agg (numB m c.toInt ++ X)] []
  | 0, c, X, N', _, _, hN, _ => by
    obtain ⟨n', rfl⟩ : ∃ n, N' = n + 1 := ⟨N' - 1, by omega⟩
    rw [loopK_succ]
    unfold ref01_Num_l1
    simp [go_sem, c_int, c_slice, numB]
  | m + 1, c, X, N', hm, hS, hN, hn => by
    generalize hcn : c.toInt = n at hn ⊢
    obtain ⟨n', rfl⟩ : ∃ n, N' = n + 1 := ⟨N' - 1, by omega⟩
    have e0 : ((m + 1 : Nat) : Int) - 1 = m := by omega
    have e2 : IntKind.i64.wrap ((m : Int) - 1) = m - 1 := wrap_i64 (by omega) (by omega)
    have e3 : Int.tdiv n 256 = n / 256 := Int.tdiv_eq_ediv_of_nonneg hn.1
    have e4 : Int.tmod n 256 = n % 256 := Int.tmod_eq_emod_of_nonneg hn.1
    have e5 : IntKind.u64.wrap (n / 256) = n / 256 := wrap_u64 (by have := hn.1; omega) (by have := hn.2; omega)
    have h1 : (m : Int) < (S : Int) := by omega
    have e6 : C.set (.agg (List.replicate (m + 1) (.int 0) ++ X)) m (.int (n % 256 % 256)) = .agg (List.replicate m (.int 0) ++ (.int (n % 256) :: X)) := by
      have : List.replicate (m + 1) (C.int 0) ++ X = List.replicate m (C.int 0) ++ (.int 0 :: X) := by rw [List.replicate_succ']; simp
      rw [this]
      simp [C.set, List.set_append]
    have hb : ∀ rec : KD R, ref01_Num_l1 N (.int S) k2 rec [a0, .int 0, .int S, .int S, c, .int m, .agg (List.replicate (m + 1) (.int 0) ++ X)] [] =
        rec [a0, .int 0, .int S, .int S, .int (n / 256), .int ((m : Int) - 1), .agg (List.replicate m (.int 0) ++ (.int (n % 256) :: X))] [] := by
      intro rec
      unfold ref01_Num_l1
      simp only [dk_0, dk_1, dk_2, dk_3, dk_4, dk_5, dk_6, c_int, hcn, Int.natCast_nonneg, decide_true, cond_true, Int.toNat_natCast, h1, and_self, if_true, Int.toNat_zero, Nat.zero_add, e2, e3, e4, e5, wrap_u8, e6]
      rfl
    rw [loopK_succ, e0, hb, rnum_loop a0 S k2 m (.int (n / 256)) _ n' (by omega) hS (by omega) (by simp only [c_int]; exact ⟨by have := hn.1; omega, by have := hn.2; omega⟩)]
    simp [numB, c_int]
theorem rNum_eq (out : List C) (c : C) (hn : W64 c.toInt) (S : Nat) (hS : S ≤ 8) (hl : out.length + S ≤ 1000000000000) (hN : 100 < N) (k : KD R) :
    ref01_Num_p N (.slice out) c (.int S) k = k [.slice (out ++ numB S c.toInt)] [] := by
  rw [ref01_Num_pe]
  unfold ref01_Num_p0
  simp only [jn_eq, c_int, c_slice, if_true, Int.toNat_natCast]
  rw [if_pos (by omega), wrap_i64 (by omega) (by omega)]
  have := rnum_loop (N := N) (.slice out) S (fun d1 m1 => (bif Nat.beq (List.length (C.elems (dk d1 0))) (List.length (C.elems (dk d1 0))) then
        (if (List.length (C.elems (dk d1 0)) +
        List.length
          (List.take (Int.toNat (C.toInt (dk d1 2))) (List.drop (Int.toNat (C.toInt (dk d1 1))) (C.elems (dk d1 4))))) *
      1 ≤
    140737488355328 ∧
  List.length (C.elems (dk d1 0)) +
      List.length
        (List.take (Int.toNat (C.toInt (dk d1 2))) (List.drop (Int.toNat (C.toInt (dk d1 1))) (C.elems (dk d1 4)))) ≤
    9223372036854775807 then
          (bif Nat.beq
  (List.length (C.elems (dk d1 0)) +
    List.length
      (List.take (Int.toNat (C.toInt (dk d1 2))) (List.drop (Int.toNat (C.toInt (dk d1 1))) (C.elems (dk d1 4)))))
  (List.length
    (C.elems (dk d1 0) ++
      List.take (Int.toNat (C.toInt (dk d1 2))) (List.drop (Int.toNat (C.toInt (dk d1 1))) (C.elems (dk d1 4))))) then
            (k [C.slice
    (C.elems (dk d1 0) ++
      List.take (Int.toNat (C.toInt (dk d1 2))) (List.drop (Int.toNat (C.toInt (dk d1 1))) (C.elems (dk d1 4))))] [])
          else
            none)
        else
          none)
      else
        none)) S c [] N (Nat.le_refl _) hS (by omega) hn
  rw [List.append_nil] at this
  refine Eq.trans this ?_
  have e1 : (numB S c.toInt).take S = numB S c.toInt := by rw [List.take_of_length_le (by rw [numB_len]; omega)]
  simp only [List.append_nil, dk_0, dk_1, dk_2, dk_4, c_int, c_slice, c_agg, Int.toNat_natCast, Int.toNat_zero, List.drop_zero, e1, List.length_append, numB_len, Nat.beq_refl, cond_true]
  rw [if_pos (by omega)]
end Go.Proofs.Ytnjepbgenciklaa


namespace Go.Proofs.Ytnjepbgenciklaa
open Go Go.E
set_option maxRecDepth 100000
set_option maxHeartbeats 4000000
set_option linter.unusedVariables false
def memo_LayTrail_as : List Sh := [.ts 1 (.int .u8), .d (.slice 24 tHop)]
def memo_LayTrail_os : List (Key × OSh) := []
noncomputable def memo_LayTrail_hs : Hints := [([1, 0, 1, 1], ⟨[], [(0, .sl 1 (.int .u8) 5000)], [], [], [], []⟩),
    ([4, 1, 0, 1, 1], ⟨[13, 14], [(0, .sl 1 (.int .u8) 5000), (15, .d (.int .i64))], [], [], [], []⟩),
    ([9], ⟨[], [(4, .sl 1 (.int .u8) 5004)], [], [], [], []⟩)]
noncomputable def memo_LayTrail_ov (N : Nat) : OvS (X0 gl0) where
  g R := [(33, octet_Out_One_g N), (54, octet_Out_Four_g N), (55, octet_Out_Eight_g N)]
  ok := fun R => List.forall_mem_cons.2 ⟨octet_Out_One_ok N, List.forall_mem_cons.2 ⟨octet_Out_Four_ok N, List.forall_mem_cons.2 ⟨octet_Out_Eight_ok N, fun _ h => nomatch h⟩⟩⟩
noncomputable def memo_LayTrail_l1 {R : Type} (N : Nat) (k2 : KD R) : KD R → List C → List Es → Option R := (fun k3 d2 m2 => (bif decide (C.toInt (dk d2 3) < C.toInt (dk d2 1)) then (if 0 ≤ C.toInt (dk d2 3) ∧ C.toInt (dk d2 3) < (↑(List.length (C.elems (dk d2 0))) : Int) then (bif Nat.beq (List.length (C.elems (dk d2 2))) (List.length (C.elems (dk d2 2))) then (octet_Out_Four_p N (C.slice (C.elems (dk d2 2))) (C.slice [C.get (List.getD (C.elems (dk d2 0)) (Int.toNat (C.toInt (dk d2 3))) C.nil) 0]) (fun d3 m3 => (bif Nat.beq (List.length (C.elems (dk d3 0))) (List.length (C.elems (dk d3 0))) then (octet_Out_Eight_p N (C.slice (C.elems (dk d3 0))) (C.slice [C.get (List.getD (C.elems (dk d2 0)) (Int.toNat (C.toInt (dk d2 3))) C.nil) 1, C.get (List.getD (C.elems (dk d2 0)) (Int.toNat (C.toInt (dk d2 3))) C.nil) 2]) (fun d4 m4 => (bif Nat.beq (List.length (C.elems (dk d4 0))) (List.length (C.elems (dk d4 0))) then (k3 [dk d2 0, dk d2 1, C.slice (C.elems (dk d4 0)), C.int (IntKind.wrap IntKind.i64 (C.toInt (dk d2 3) + 1))] []) else none))) else none))) else none) else none) else (bif Nat.beq (List.length (C.elems (dk d2 2))) (List.length (C.elems (dk d2 2))) then (k2 [C.slice (C.elems (dk d2 2))] []) else none)))
noncomputable def memo_LayTrail_p0 {R : Type} (N : Nat) (a0 a1 : C) (k1 : KD R) : Option R := (bif Nat.beq (List.length (C.elems a0)) (List.length (C.elems a0)) then (octet_Out_One_p N (C.slice (C.elems a0)) (C.slice [C.int (IntKind.wrap IntKind.u8 (↑(List.length (C.elems a1)) : Int))]) (fun d1 m1 => (jn (fun d2 m2 => (bif Nat.beq (List.length (C.elems (dk d2 0))) (List.length (C.elems (dk d2 0))) then (k1 [C.slice (C.elems (dk d2 0))] []) else none)) (fun k2 => (bif Nat.beq (List.length (C.elems (dk d1 0))) (List.length (C.elems (dk d1 0))) then (loopK N (memo_LayTrail_l1 N k2) [a1, C.int (↑(List.length (C.elems a1)) : Int), C.slice (C.elems (dk d1 0)), C.int 0] []) else none))))) else none)
noncomputable def memo_LayTrail_p {R : Type} (N : Nat) : C → C → KD R → Option R := lid "memo_LayTrail_p N" (memo_LayTrail_p0 N)
theorem memo_LayTrail_pe {R : Type} (N : Nat) (a0 a1 : C) (k : KD R) : memo_LayTrail_p N a0 a1 k = memo_LayTrail_p0 N a0 a1 k := by unfold memo_LayTrail_p; rw [lid_eq]
theorem memo_LayTrail_run {R : Type} (N : Nat) (a0 a1 : C) (K : V → List (Key × O) → Option R) : exF (X0 gl0) ((memo_LayTrail_ov N).ov R) extX (fun f r => bif Nat.beq f 34 then (bif Nat.beq r 1 then [(12, 1)] else bif Nat.beq r 5 then [(23, 1), (29, 1), (6, 6)] else []) else []) (fun f => bif Nat.beq f 34 then memo_LayTrail_hs else []) N 400 8 34 (Sh.fills memo_LayTrail_as 0 [a0, a1]) (lookK (locFill memo_LayTrail_os (Sh.manys memo_LayTrail_as) 0 [a0, a1] [])) K =
    memo_LayTrail_p N a0 a1 (fun d1 m1 => K (V.ts 1 (Ty.int IntKind.u8) (C.elems (dk d1 0))) []) := by
  rw [memo_LayTrail_pe]
  exact (show _ = jn (fun d1 m1 => (bif Nat.beq (List.length (C.elems (dk d1 0))) (List.length (C.elems (dk d1 0))) then
    (K (V.ts 1 (Ty.int IntKind.u8) (C.elems (dk d1 0))) [])
  else
    none)) (memo_LayTrail_p0 N a0 a1) by kernel_rfl).trans ((jn_eq _ _).trans (congrArg (memo_LayTrail_p0 N a0 a1) (funext fun _ => funext fun _ => by simp only [Nat.beq_refl, cond_true])))
noncomputable def memo_LayTrail_g (N : Nat) {R : Type} : OvG R := ptrG memo_LayTrail_as memo_LayTrail_os fun ds ms K => memo_LayTrail_p N (dk ds 0) (dk ds 1) (fun d1 m1 => K (V.ts 1 (Ty.int IntKind.u8) (C.elems (dk d1 0))) [])
theorem memo_LayTrail_ok (N : Nat) {R : Type} : GOk (X0 gl0) 34 (memo_LayTrail_g N (R := R)) := by
  unfold memo_LayTrail_g
  refine ptrG_ok fun ds ms K r hr => ?_
  rw [← memo_LayTrail_run] at hr
  obtain ⟨v, L, h1, h2⟩ := exF_ok (ok0 gl0) (mo gl0) ((memo_LayTrail_ov N).ov_ok _) (extX_ok gl0) _ _ _ _ _ _ hr
  exact ⟨v, L, h1, h2⟩
end Go.Proofs.Ytnjepbgenciklaa


namespace Go.Proofs.Ytnjepbgenciklaa
open Go Go.E
set_option maxRecDepth 100000
set_option maxHeartbeats 4000000
set_option linter.unusedVariables false
noncomputable def ref18_Trail_hs : Hints := [([1, 0, 1, 1], ⟨[], [(0, .d (.slice 1 (.int .u8)))], [], [], [], []⟩),
    ([4, 1, 0, 1, 1], ⟨[1], [(0, .d (.slice 1 (.int .u8))), (5, .d (.int .i64))], [], [], [], []⟩),
    ([9], ⟨[], [(4, .d (.slice 1 (.int .u8)))], [], [], [], []⟩)]
noncomputable def ref18_Trail_ov (N : Nat) : OvS (X0 gl0) where
  g R := [(57, ref01_Num_g N)]
  ok := fun R => List.forall_mem_cons.2 ⟨ref01_Num_ok N, fun _ h => nomatch h⟩
noncomputable def ref18_Trail_l1 {R : Type} (N : Nat) (k2 : KD R) : KD R → List C → List Es → Option R := (fun k3 d1 m1 => (bif decide (C.toInt (dk d1 2) < (↑(List.length (C.elems (dk d1 0))) : Int)) then (if 0 ≤ C.toInt (dk d1 2) ∧ C.toInt (dk d1 2) < (↑(List.length (C.elems (dk d1 0))) : Int) then (ref01_Num_p N (dk d1 1) (C.int (IntKind.wrap IntKind.u64 (C.toInt (C.get (List.getD (C.elems (dk d1 0)) (Int.toNat (C.toInt (dk d1 2))) C.nil) 0)))) (C.int 4) (fun d2 m2 => (if 0 ≤ C.toInt (dk d1 2) ∧ C.toInt (dk d1 2) < (↑(List.length (C.elems (dk d1 0))) : Int) then (ref01_Num_p N (C.slice (C.elems (dk d2 0))) (C.get (List.getD (C.elems (dk d1 0)) (Int.toNat (C.toInt (dk d1 2))) C.nil) 1) (C.int 8) (fun d3 m3 => (if 0 ≤ C.toInt (dk d1 2) ∧ C.toInt (dk d1 2) < (↑(List.length (C.elems (dk d1 0))) : Int) then (ref01_Num_p N (C.slice (C.elems (dk d3 0))) (C.get (List.getD (C.elems (dk d1 0)) (Int.toNat (C.toInt (dk d1 2))) C.nil) 2) (C.int 8) (fun d4 m4 => (k3 [dk d1 0, C.slice (C.elems (dk d4 0)), C.int (IntKind.wrap IntKind.i64 (C.toInt (dk d1 2) + 1))] []))) else none))) else none))) else none) else (k2 [dk d1 1] [])))
noncomputable def ref18_Trail_p0 {R : Type} (N : Nat) (a0 a1 : C) (k1 : KD R) : Option R := (bif Nat.beq (List.length (C.elems a0)) (List.length (C.elems a0)) then (if (List.length (C.elems a0) + 1) * 1 ≤ 140737488355328 ∧ List.length (C.elems a0) + 1 ≤ 9223372036854775807 then (jn (fun d1 m1 => (k1 [dk d1 0] [])) (fun k2 => (loopK N (ref18_Trail_l1 N k2) [a1, C.slice (C.elems a0 ++ [C.int (IntKind.wrap IntKind.u8 (↑(List.length (C.elems a1)) : Int))]), C.int 0] []))) else none) else none)
noncomputable def ref18_Trail_p {R : Type} (N : Nat) : C → C → KD R → Option R := lid "ref18_Trail_p N" (ref18_Trail_p0 N)
theorem ref18_Trail_pe {R : Type} (N : Nat) (a0 a1 : C) (k : KD R) : ref18_Trail_p N a0 a1 k = ref18_Trail_p0 N a0 a1 k := by unfold ref18_Trail_p; rw [lid_eq]
theorem ref18_Trail_run {R : Type} (N : Nat) (a0 a1 : C) (K : V → List (Key × O) → Option R) : exF (X0 gl0) ((ref18_Trail_ov N).ov R) extX noX (fun f => bif Nat.beq f 36 then ref18_Trail_hs else []) N 400 8 36 [.d (.slice 1 (.int .u8)) a0, .d (.slice 24 tHop) a1] A0 K =
    ref18_Trail_p N a0 a1 (fun d1 m1 => K (V.d (Ty.slice 1 (Ty.int IntKind.u8)) (dk d1 0)) []) := by
  rw [ref18_Trail_pe]
  exact (show _ = jn (fun d1 m1 => (K (V.d (Ty.slice 1 (Ty.int IntKind.u8)) (dk d1 0)) [])) (ref18_Trail_p0 N a0 a1) by kernel_rfl).trans (jn_eq _ _)
noncomputable def ref18_Trail_g (N : Nat) {R : Type} : OvG R := fun xs _ K => match xs with
  | [.d t0 a0, .d t1 a1] => if t0 = (.slice 1 (.int .u8)) ∧ t1 = (.slice 24 tHop) then ref18_Trail_p N a0 a1 (fun d1 m1 => K (V.d (Ty.slice 1 (Ty.int IntKind.u8)) (dk d1 0)) []) else none
  | _ => none
theorem ref18_Trail_ok (N : Nat) {R : Type} : GOk (X0 gl0) 36 (ref18_Trail_g N (R := R)) := by
  intro xs A Kr r hr
  unfold ref18_Trail_g at hr
  split at hr
  · simp only [Option.ite_none_right_eq_some] at hr
    obtain ⟨hty, hr⟩ := hr
    obtain ⟨rfl, rfl⟩ := hty
    rw [← ref18_Trail_run] at hr
    obtain ⟨v, L, h1, h2⟩ := exF_ok (ok0 gl0) (mo gl0) ((ref18_Trail_ov N).ov_ok _) (extX_ok gl0) _ _ _ _ _ _ hr
    exact ⟨v, L, h1.mono (leA_none fun _ => rfl), h2⟩
  · cases hr
end Go.Proofs.Ytnjepbgenciklaa


namespace Go.Proofs.Ytnjepbgenciklaa
open Go Go.E
set_option maxRecDepth 100000
set_option maxHeartbeats 4000000
set_option linter.unusedVariables false
def deed_layCond_as : List Sh := [.ts 1 (.int .u8), .d tCond]
def deed_layCond_os : List (Key × OSh) := []
noncomputable def deed_layCond_hs : Hints := [([9], ⟨[], [(4, .sl 1 (.int .u8) 5004)], [], [], [], []⟩)]
noncomputable def deed_layCond_ov (N : Nat) : OvS (X0 gl0) where
  g R := [(33, octet_Out_One_g N), (55, octet_Out_Eight_g N), (66, octet_Out_Sum_g N)]
  ok := fun R => List.forall_mem_cons.2 ⟨octet_Out_One_ok N, List.forall_mem_cons.2 ⟨octet_Out_Eight_ok N, List.forall_mem_cons.2 ⟨octet_Out_Sum_ok N, fun _ h => nomatch h⟩⟩⟩
noncomputable def deed_layCond_p0 {R : Type} (N : Nat) (a0 a1 : C) (k1 : KD R) : Option R := (bif Nat.beq (List.length (C.elems a0)) (List.length (C.elems a0)) then (octet_Out_Eight_p N (C.slice (C.elems a0)) (C.slice [C.get a1 0]) (fun d1 m1 => (bif Nat.beq (List.length (C.elems (dk d1 0))) (List.length (C.elems (dk d1 0))) then (octet_Out_One_p N (C.slice (C.elems (dk d1 0))) (C.slice [C.int (IntKind.wrap IntKind.u8 (C.toInt (C.get a1 1)))]) (fun d2 m2 => (bif Nat.beq (List.length (C.elems (dk d2 0))) (List.length (C.elems (dk d2 0))) then (octet_Out_Eight_p N (C.slice (C.elems (dk d2 0))) (C.slice [C.get a1 2]) (fun d3 m3 => (bif Nat.beq (List.length (C.elems (dk d3 0))) (List.length (C.elems (dk d3 0))) then (octet_Out_Sum_p N (C.slice (C.elems (dk d3 0))) (C.slice [C.get a1 3]) C.nil (fun d4 m4 => (bif Nat.beq (List.length (C.elems (dk d4 0))) (List.length (C.elems (dk d4 0))) then (octet_Out_Eight_p N (C.slice (C.elems (dk d4 0))) (C.slice [C.get a1 4]) (fun d5 m5 => (bif Nat.beq (List.length (C.elems (dk d5 0))) (List.length (C.elems (dk d5 0))) then (k1 [C.slice (C.elems (dk d5 0))] []) else none))) else none))) else none))) else none))) else none))) else none)
noncomputable def deed_layCond_p {R : Type} (N : Nat) : C → C → KD R → Option R := lid "deed_layCond_p N" (deed_layCond_p0 N)
theorem deed_layCond_pe {R : Type} (N : Nat) (a0 a1 : C) (k : KD R) : deed_layCond_p N a0 a1 k = deed_layCond_p0 N a0 a1 k := by unfold deed_layCond_p; rw [lid_eq]
theorem deed_layCond_run {R : Type} (N : Nat) (a0 a1 : C) (K : V → List (Key × O) → Option R) : exF (X0 gl0) ((deed_layCond_ov N).ov R) extX (fun f r => bif Nat.beq f 56 then (bif Nat.beq r 0 then [(3, 5)] else bif Nat.beq r 1 then [(9, 1), (14, 1), (18, 1), (22, 1), (26, 1)] else []) else []) (fun f => bif Nat.beq f 56 then deed_layCond_hs else []) N 400 8 56 (Sh.fills deed_layCond_as 0 [a0, a1]) (lookK (locFill deed_layCond_os (Sh.manys deed_layCond_as) 0 [a0, a1] [])) K =
    deed_layCond_p N a0 a1 (fun d1 m1 => K (V.ts 1 (Ty.int IntKind.u8) (C.elems (dk d1 0))) []) := by
  rw [deed_layCond_pe]
  exact (show _ = jn (fun d1 m1 => (bif Nat.beq (List.length (C.elems (dk d1 0))) (List.length (C.elems (dk d1 0))) then
    (K (V.ts 1 (Ty.int IntKind.u8) (C.elems (dk d1 0))) [])
  else
    none)) (deed_layCond_p0 N a0 a1) by kernel_rfl).trans ((jn_eq _ _).trans (congrArg (deed_layCond_p0 N a0 a1) (funext fun _ => funext fun _ => by simp only [Nat.beq_refl, cond_true])))
noncomputable def deed_layCond_g (N : Nat) {R : Type} : OvG R := ptrG deed_layCond_as deed_layCond_os fun ds ms K => deed_layCond_p N (dk ds 0) (dk ds 1) (fun d1 m1 => K (V.ts 1 (Ty.int IntKind.u8) (C.elems (dk d1 0))) [])
theorem deed_layCond_ok (N : Nat) {R : Type} : GOk (X0 gl0) 56 (deed_layCond_g N (R := R)) := by
  unfold deed_layCond_g
  refine ptrG_ok fun ds ms K r hr => ?_
  rw [← deed_layCond_run] at hr
  obtain ⟨v, L, h1, h2⟩ := exF_ok (ok0 gl0) (mo gl0) ((deed_layCond_ov N).ov_ok _) (extX_ok gl0) _ _ _ _ _ _ hr
  exact ⟨v, L, h1, h2⟩
end Go.Proofs.Ytnjepbgenciklaa


namespace Go.Proofs.Ytnjepbgenciklaa
open Go Go.E
set_option maxRecDepth 100000
set_option maxHeartbeats 4000000
set_option linter.unusedVariables false
def deed_LayOp_as : List Sh := [.ts 1 (.int .u8), .d tOp]
def deed_LayOp_os : List (Key × OSh) := []
noncomputable def deed_LayOp_hs : Hints := [([9], ⟨[], [(4, .sl 1 (.int .u8) 5004)], [], [], [], []⟩)]
noncomputable def deed_LayOp_ov (N : Nat) : OvS (X0 gl0) where
  g R := [(33, octet_Out_One_g N), (55, octet_Out_Eight_g N), (56, deed_layCond_g N)]
  ok := fun R => List.forall_mem_cons.2 ⟨octet_Out_One_ok N, List.forall_mem_cons.2 ⟨octet_Out_Eight_ok N, List.forall_mem_cons.2 ⟨deed_layCond_ok N, fun _ h => nomatch h⟩⟩⟩
noncomputable def deed_LayOp_p0 {R : Type} (N : Nat) (a0 a1 : C) (k1 : KD R) : Option R := (bif Nat.beq (List.length (C.elems a0)) (List.length (C.elems a0)) then (octet_Out_One_p N (C.slice (C.elems a0)) (C.slice [C.int (IntKind.wrap IntKind.u8 (C.toInt (C.get a1 0)))]) (fun d1 m1 => (bif Nat.beq (List.length (C.elems (dk d1 0))) (List.length (C.elems (dk d1 0))) then (octet_Out_Eight_p N (C.slice (C.elems (dk d1 0))) (C.slice [C.get a1 1, C.get a1 3]) (fun d2 m2 => (bif Nat.beq (List.length (C.elems (dk d2 0))) (List.length (C.elems (dk d2 0))) then (deed_layCond_p N (C.slice (C.elems (dk d2 0))) (C.get a1 2) (fun d3 m3 => (bif Nat.beq (List.length (C.elems (dk d3 0))) (List.length (C.elems (dk d3 0))) then (k1 [C.slice (C.elems (dk d3 0))] []) else none))) else none))) else none))) else none)
noncomputable def deed_LayOp_p {R : Type} (N : Nat) : C → C → KD R → Option R := lid "deed_LayOp_p N" (deed_LayOp_p0 N)
theorem deed_LayOp_pe {R : Type} (N : Nat) (a0 a1 : C) (k : KD R) : deed_LayOp_p N a0 a1 k = deed_LayOp_p0 N a0 a1 k := by unfold deed_LayOp_p; rw [lid_eq]
theorem deed_LayOp_run {R : Type} (N : Nat) (a0 a1 : C) (K : V → List (Key × O) → Option R) : exF (X0 gl0) ((deed_LayOp_ov N).ov R) extX (fun f r => bif Nat.beq f 35 then (bif Nat.beq r 0 then [(3, 5)] else bif Nat.beq r 1 then [(10, 1), (16, 1), (19, 1)] else []) else []) (fun f => bif Nat.beq f 35 then deed_LayOp_hs else []) N 400 8 35 (Sh.fills deed_LayOp_as 0 [a0, a1]) (lookK (locFill deed_LayOp_os (Sh.manys deed_LayOp_as) 0 [a0, a1] [])) K =
    deed_LayOp_p N a0 a1 (fun d1 m1 => K (V.ts 1 (Ty.int IntKind.u8) (C.elems (dk d1 0))) []) := by
  rw [deed_LayOp_pe]
  exact (show _ = jn (fun d1 m1 => (bif Nat.beq (List.length (C.elems (dk d1 0))) (List.length (C.elems (dk d1 0))) then
    (K (V.ts 1 (Ty.int IntKind.u8) (C.elems (dk d1 0))) [])
  else
    none)) (deed_LayOp_p0 N a0 a1) by kernel_rfl).trans ((jn_eq _ _).trans (congrArg (deed_LayOp_p0 N a0 a1) (funext fun _ => funext fun _ => by simp only [Nat.beq_refl, cond_true])))
noncomputable def deed_LayOp_g (N : Nat) {R : Type} : OvG R := ptrG deed_LayOp_as deed_LayOp_os fun ds ms K => deed_LayOp_p N (dk ds 0) (dk ds 1) (fun d1 m1 => K (V.ts 1 (Ty.int IntKind.u8) (C.elems (dk d1 0))) [])
theorem deed_LayOp_ok (N : Nat) {R : Type} : GOk (X0 gl0) 35 (deed_LayOp_g N (R := R)) := by
  unfold deed_LayOp_g
  refine ptrG_ok fun ds ms K r hr => ?_
  rw [← deed_LayOp_run] at hr
  obtain ⟨v, L, h1, h2⟩ := exF_ok (ok0 gl0) (mo gl0) ((deed_LayOp_ov N).ov_ok _) (extX_ok gl0) _ _ _ _ _ _ hr
  exact ⟨v, L, h1, h2⟩
end Go.Proofs.Ytnjepbgenciklaa


namespace Go.Proofs.Ytnjepbgenciklaa
open Go Go.E
set_option maxRecDepth 100000
set_option maxHeartbeats 4000000
set_option linter.unusedVariables false
noncomputable def ref13_Cond_hs : Hints := [([9], ⟨[], [(4, .sl 1 (.int .u8) 5004)], [], [], [], []⟩)]
noncomputable def ref13_Cond_ov (N : Nat) : OvS (X0 gl0) where
  g R := [(57, ref01_Num_g N)]
  ok := fun R => List.forall_mem_cons.2 ⟨ref01_Num_ok N, fun _ h => nomatch h⟩
noncomputable def ref13_Cond_p0 {R : Type} (N : Nat) (a0 a1 : C) (k1 : KD R) : Option R := (ref01_Num_p N a0 (C.get a1 0) (C.int 8) (fun d1 m1 => (bif Nat.beq (List.length (C.elems (dk d1 0))) (List.length (C.elems (dk d1 0))) then (if (List.length (C.elems (dk d1 0)) + 1) * 1 ≤ 140737488355328 ∧ List.length (C.elems (dk d1 0)) + 1 ≤ 9223372036854775807 then (ref01_Num_p N (C.slice (C.elems (dk d1 0) ++ [C.int (IntKind.wrap IntKind.u8 (C.toInt (C.get a1 1)))])) (C.get a1 2) (C.int 8) (fun d2 m2 => (bif Nat.beq (List.length (C.elems (dk d2 0))) (List.length (C.elems (dk d2 0))) then (if (List.length (C.elems (dk d2 0)) + List.length (cut (C.elems (C.get a1 3)) 0 32)) * 1 ≤ 140737488355328 ∧ List.length (C.elems (dk d2 0)) + List.length (cut (C.elems (C.get a1 3)) 0 32) ≤ 9223372036854775807 then (ref01_Num_p N (C.slice (C.elems (dk d2 0) ++ cut (C.elems (C.get a1 3)) 0 32)) (C.get a1 4) (C.int 8) (fun d3 m3 => (bif Nat.beq (List.length (C.elems (dk d3 0))) (List.length (C.elems (dk d3 0))) then (k1 [C.slice (C.elems (dk d3 0))] []) else none))) else none) else none))) else none) else none)))
noncomputable def ref13_Cond_p {R : Type} (N : Nat) : C → C → KD R → Option R := lid "ref13_Cond_p N" (ref13_Cond_p0 N)
theorem ref13_Cond_pe {R : Type} (N : Nat) (a0 a1 : C) (k : KD R) : ref13_Cond_p N a0 a1 k = ref13_Cond_p0 N a0 a1 k := by unfold ref13_Cond_p; rw [lid_eq]
theorem ref13_Cond_run {R : Type} (N : Nat) (a0 a1 : C) (K : V → List (Key × O) → Option R) : exF (X0 gl0) ((ref13_Cond_ov N).ov R) extX (fun f r => bif Nat.beq f 58 then (bif Nat.beq r 0 then [(3, 5)] else []) else []) (fun f => bif Nat.beq f 58 then ref13_Cond_hs else []) N 400 8 58 [.d (.slice 1 (.int .u8)) a0, .d tCond a1] A0 K =
    ref13_Cond_p N a0 a1 (fun d1 m1 => K (V.ts 1 (Ty.int IntKind.u8) (C.elems (dk d1 0))) []) := by
  rw [ref13_Cond_pe]
  exact (show _ = jn (fun d1 m1 => (bif Nat.beq (List.length (C.elems (dk d1 0))) (List.length (C.elems (dk d1 0))) then
    (K (V.ts 1 (Ty.int IntKind.u8) (C.elems (dk d1 0))) [])
  else
    none)) (ref13_Cond_p0 N a0 a1) by kernel_rfl).trans ((jn_eq _ _).trans (congrArg (ref13_Cond_p0 N a0 a1) (funext fun _ => funext fun _ => by simp only [Nat.beq_refl, cond_true])))
noncomputable def ref13_Cond_g (N : Nat) {R : Type} : OvG R := fun xs _ K => match xs with
  | [.d t0 a0, .d t1 a1] => if t0 = (.slice 1 (.int .u8)) ∧ t1 = tCond then ref13_Cond_p N a0 a1 (fun d1 m1 => K (V.ts 1 (Ty.int IntKind.u8) (C.elems (dk d1 0))) []) else none
  | _ => none
theorem ref13_Cond_ok (N : Nat) {R : Type} : GOk (X0 gl0) 58 (ref13_Cond_g N (R := R)) := by
  intro xs A Kr r hr
  unfold ref13_Cond_g at hr
  split at hr
  · simp only [Option.ite_none_right_eq_some] at hr
    obtain ⟨hty, hr⟩ := hr
    obtain ⟨rfl, rfl⟩ := hty
    rw [← ref13_Cond_run] at hr
    obtain ⟨v, L, h1, h2⟩ := exF_ok (ok0 gl0) (mo gl0) ((ref13_Cond_ov N).ov_ok _) (extX_ok gl0) _ _ _ _ _ _ hr
    exact ⟨v, L, h1.mono (leA_none fun _ => rfl), h2⟩
  · cases hr
end Go.Proofs.Ytnjepbgenciklaa


namespace Go.Proofs.Ytnjepbgenciklaa
open Go Go.E
set_option maxRecDepth 100000
set_option maxHeartbeats 4000000
set_option linter.unusedVariables false
noncomputable def ref13_Op_hs : Hints := [([9], ⟨[], [(4, .d (.slice 1 (.int .u8)))], [], [], [], []⟩)]
noncomputable def ref13_Op_ov (N : Nat) : OvS (X0 gl0) where
  g R := [(57, ref01_Num_g N), (58, ref13_Cond_g N)]
  ok := fun R => List.forall_mem_cons.2 ⟨ref01_Num_ok N, List.forall_mem_cons.2 ⟨ref13_Cond_ok N, fun _ h => nomatch h⟩⟩
noncomputable def ref13_Op_p0 {R : Type} (N : Nat) (a0 a1 : C) (k1 : KD R) : Option R := (bif Nat.beq (List.length (C.elems a0)) (List.length (C.elems a0)) then (if (List.length (C.elems a0) + 1) * 1 ≤ 140737488355328 ∧ List.length (C.elems a0) + 1 ≤ 9223372036854775807 then (ref01_Num_p N (C.slice (C.elems a0 ++ [C.int (IntKind.wrap IntKind.u8 (C.toInt (C.get a1 0)))])) (C.get a1 1) (C.int 8) (fun d1 m1 => (ref01_Num_p N (C.slice (C.elems (dk d1 0))) (C.get a1 3) (C.int 8) (fun d2 m2 => (ref13_Cond_p N (C.slice (C.elems (dk d2 0))) (C.get a1 2) (fun d3 m3 => (k1 [C.slice (C.elems (dk d3 0))] []))))))) else none) else none)
noncomputable def ref13_Op_p {R : Type} (N : Nat) : C → C → KD R → Option R := lid "ref13_Op_p N" (ref13_Op_p0 N)
theorem ref13_Op_pe {R : Type} (N : Nat) (a0 a1 : C) (k : KD R) : ref13_Op_p N a0 a1 k = ref13_Op_p0 N a0 a1 k := by unfold ref13_Op_p; rw [lid_eq]
theorem ref13_Op_run {R : Type} (N : Nat) (a0 a1 : C) (K : V → List (Key × O) → Option R) : exF (X0 gl0) ((ref13_Op_ov N).ov R) extX (fun f r => bif Nat.beq f 37 then (bif Nat.beq r 0 then [(3, 5)] else []) else []) (fun f => bif Nat.beq f 37 then ref13_Op_hs else []) N 400 8 37 [.d (.slice 1 (.int .u8)) a0, .d tOp a1] A0 K =
    ref13_Op_p N a0 a1 (fun d1 m1 => K (V.d (Ty.slice 1 (Ty.int IntKind.u8)) (dk d1 0)) []) := by
  rw [ref13_Op_pe]
  exact (show _ = jn (fun d1 m1 => (K (V.d (Ty.slice 1 (Ty.int IntKind.u8)) (dk d1 0)) [])) (ref13_Op_p0 N a0 a1) by kernel_rfl).trans (jn_eq _ _)
noncomputable def ref13_Op_g (N : Nat) {R : Type} : OvG R := fun xs _ K => match xs with
  | [.d t0 a0, .d t1 a1] => if t0 = (.slice 1 (.int .u8)) ∧ t1 = tOp then ref13_Op_p N a0 a1 (fun d1 m1 => K (V.d (Ty.slice 1 (Ty.int IntKind.u8)) (dk d1 0)) []) else none
  | _ => none
theorem ref13_Op_ok (N : Nat) {R : Type} : GOk (X0 gl0) 37 (ref13_Op_g N (R := R)) := by
  intro xs A Kr r hr
  unfold ref13_Op_g at hr
  split at hr
  · simp only [Option.ite_none_right_eq_some] at hr
    obtain ⟨hty, hr⟩ := hr
    obtain ⟨rfl, rfl⟩ := hty
    rw [← ref13_Op_run] at hr
    obtain ⟨v, L, h1, h2⟩ := exF_ok (ok0 gl0) (mo gl0) ((ref13_Op_ov N).ov_ok _) (extX_ok gl0) _ _ _ _ _ _ hr
    exact ⟨v, L, h1.mono (leA_none fun _ => rfl), h2⟩
  · cases hr
end Go.Proofs.Ytnjepbgenciklaa


namespace Go.Proofs.Ytnjepbgenciklaa
open Go Go.E
set_option maxRecDepth 100000
set_option maxHeartbeats 4000000
set_option linter.unusedSimpArgs false
variable {R : Type} {N : Nat}
structure CondW (c : C) : Prop where
  id : W64 (c.get 0).toInt
  am : W64 (c.get 2).toInt
  hash : (c.get 3).elems.length = 32
  exp : W64 (c.get 4).toInt
structure OpW (o : C) : Prop where
  am : W64 (o.get 1).toInt
  cond : CondW (o.get 2)
  id : W64 (o.get 3).toInt
structure HopW (h : C) : Prop where
  ch : W64 (h.get 0).toInt
  am : W64 (h.get 1).toInt
  id : W64 (h.get 2).toInt
def condB (c : C) : List C := numB 8 (c.get 0).toInt ++ [.int ((c.get 1).toInt % 256)] ++ numB 8 (c.get 2).toInt ++ (c.get 3).elems ++ numB 8 (c.get 4).toInt
def opB (o : C) : List C := [.int ((o.get 0).toInt % 256)] ++ numB 8 (o.get 1).toInt ++ numB 8 (o.get 3).toInt ++ condB (o.get 2)
def hopB (h : C) : List C := numB 4 (h.get 0).toInt ++ numB 8 (h.get 1).toInt ++ numB 8 (h.get 2).toInt
def trailB (l : List C) : List C := [.int ((l.length : Int) % 256)] ++ l.flatMap hopB
theorem condB_len {c : C} (h : CondW c) : (condB c).length = 57 := by simp [condB, numB_len, h.hash]
theorem opB_len {o : C} (h : OpW o) : (opB o).length = 74 := by simp [opB, numB_len, condB_len h.cond]
theorem hopB_len (h : C) : (hopB h).length = 20 := by simp [hopB, numB_len]
theorem hopsB_len : ∀ l : List C, (l.flatMap hopB).length = 20 * l.length
  | [] => rfl
  | h :: l => by
    have := hopsB_len l
    simp only [List.flatMap_cons, List.length_append, hopB_len, List.length_cons] at this ⊢
    omega
theorem trailB_len (l : List C) : (trailB l).length = 20 * l.length + 1 := by simp only [trailB, List.length_append, hopsB_len, List.length_cons, List.length_nil]; omega
theorem numsB_1 (k : Nat) (c : C) : numsB k [c] = numB k c.toInt := by simp [numsB]
theorem numsB_2 (k : Nat) (c d : C) : numsB k [c, d] = numB k c.toInt ++ numB k d.toInt := by simp [numsB]
theorem flat_take {f : C → List C} {l : List C} {i : Nat} (h : i < l.length) : (l.take (i + 1)).flatMap f = (l.take i).flatMap f ++ f (l.getD i .nil) := by
  have : l.take (i + 1) = l.take i ++ [l.getD i .nil] := by
    rw [List.take_add_one, List.getElem?_eq_getElem h, List.getD_eq_getElem?_getD, List.getElem?_eq_getElem h]; rfl
  rw [this]; simp
theorem one1 {c : C} (h : W64 c.toInt) : ∀ x ∈ [c], 0 ≤ x.toInt := by intro x hx; simp at hx; subst hx; exact h.1
theorem two1 {c d : C} (h : W64 c.toInt) (h2 : W64 d.toInt) : ∀ x ∈ [c, d], 0 ≤ x.toInt := by intro x hx; simp at hx; rcases hx with rfl | rfl; exact h.1; exact h2.1
theorem layCond_eq (out : List C) (c : C) (h : CondW c) (hl : out.length ≤ 100000000) (hN : 200 < N) (k : KD R) : deed_layCond_p N (.slice out) c k = k [.slice (out ++ condB c)] [] := by
  rw [deed_layCond_pe]
  unfold deed_layCond_p0
  simp only [c_slice, Nat.beq_refl, cond_true]
  rw [out_Eight_eq _ _ (one1 h.id) (by simp; omega) (by simp; omega)]
  simp only [dk_0, c_slice, Nat.beq_refl, cond_true, wrap_u8, numsB_1]
  rw [out_One_eq _ _ (by simp [numB_len]; omega)]
  simp only [dk_0, c_slice, Nat.beq_refl, cond_true]
  rw [out_Eight_eq _ _ (one1 h.am) (by simp [numB_len]; omega) (by simp; omega)]
  simp only [dk_0, c_slice, Nat.beq_refl, cond_true, numsB_1]
  rw [out_Sum_eq _ _ _ h.hash (by simp [numB_len]; omega) (by omega)]
  simp only [dk_0, c_slice, Nat.beq_refl, cond_true]
  rw [out_Eight_eq _ _ (one1 h.exp) (by simp [numB_len, h.hash]; omega) (by simp; omega)]
  simp only [dk_0, c_slice, Nat.beq_refl, cond_true, numsB_1, condB, List.append_assoc]
theorem LayOp_eq (out : List C) (o : C) (h : OpW o) (hl : out.length ≤ 90000000) (hN : 200 < N) (k : KD R) : deed_LayOp_p N (.slice out) o k = k [.slice (out ++ opB o)] [] := by
  rw [deed_LayOp_pe]
  unfold deed_LayOp_p0
  simp only [c_slice, Nat.beq_refl, cond_true, wrap_u8]
  rw [out_One_eq _ _ (by simp; omega)]
  simp only [dk_0, c_slice, Nat.beq_refl, cond_true]
  rw [out_Eight_eq _ _ (two1 h.am h.id) (by simp; omega) (by simp; omega)]
  simp only [dk_0, c_slice, Nat.beq_refl, cond_true, numsB_2]
  rw [layCond_eq _ _ h.cond (by simp [numB_len]; omega) hN]
  simp only [dk_0, c_slice, Nat.beq_refl, cond_true, opB, List.append_assoc]
theorem rCond_eq (out : List C) (c : C) (h : CondW c) (hl : out.length ≤ 100000000) (hN : 200 < N) (k : KD R) : ref13_Cond_p N (.slice out) c k = k [.slice (out ++ condB c)] [] := by
  have e1 : cut (c.get 3).elems 0 32 = (c.get 3).elems := by
    unfold cut
    rw [List.take_of_length_le (by rw [h.hash]; decide)]; rfl
  have e8 : C.int 8 = C.int ((8 : Nat) : Int) := rfl
  rw [ref13_Cond_pe]
  unfold ref13_Cond_p0
  rw [e8, rNum_eq _ _ h.id 8 (by omega) (by omega) (by omega)]
  simp only [dk_0, c_slice, Nat.beq_refl, cond_true, wrap_u8]
  rw [if_pos (by simp [numB_len]; omega), rNum_eq _ _ h.am 8 (by omega) (by simp [numB_len]; omega) (by omega)]
  simp only [dk_0, c_slice, Nat.beq_refl, cond_true, e1, h.hash]
  rw [if_pos (by simp [numB_len]; omega), rNum_eq _ _ h.exp 8 (by omega) (by simp [numB_len, h.hash]; omega) (by omega)]
  simp only [dk_0, c_slice, Nat.beq_refl, cond_true, condB, List.append_assoc]
theorem rOp_eq (out : List C) (o : C) (h : OpW o) (hl : out.length ≤ 90000000) (hN : 200 < N) (k : KD R) : ref13_Op_p N (.slice out) o k = k [.slice (out ++ opB o)] [] := by
  have e8 : C.int 8 = C.int ((8 : Nat) : Int) := rfl
  rw [ref13_Op_pe]
  unfold ref13_Op_p0
  simp only [c_slice, Nat.beq_refl, cond_true, wrap_u8]
  rw [if_pos (by omega), e8, rNum_eq _ _ h.am 8 (by omega) (by simp; omega) (by omega)]
  simp only [dk_0, c_slice]
  rw [rNum_eq _ _ h.id 8 (by omega) (by simp [numB_len]; omega) (by omega)]
  simp only [dk_0, c_slice]
  rw [rCond_eq _ _ h.cond (by simp [numB_len]; omega) hN]
  simp only [dk_0, c_slice, opB, List.append_assoc]
theorem LayTrail_eq (out l : List C) (h : ∀ c ∈ l, HopW c) (hl : out.length ≤ 90000000) (hll : l.length ≤ 10000) (hN : 20000 < N) (k : KD R) : memo_LayTrail_p N (.slice out) (.slice l) k = k [.slice (out ++ trailB l)] [] := by
  rw [memo_LayTrail_pe]
  unfold memo_LayTrail_p0
  simp only [c_slice, Nat.beq_refl, cond_true, wrap_u8]
  rw [out_One_eq _ _ (by simp; omega)]
  simp only [jn_eq, dk_0, c_slice, Nat.beq_refl, cond_true]
  have key := loopK_count (F := memo_LayTrail_l1 N fun d1 m1 => k [.slice (dk d1 0).elems] []) (fun i => [.slice l, .int l.length, .slice (out ++ [.int ((l.length : Int) % 256)] ++ (l.take i).flatMap hopB), .int i]) (fun _ => []) l.length (k [.slice (out ++ trailB l)] []) ?_ ?_ (N := N) (by omega)
  · simpa using key
  · intro i hi rec
    have h1 : (i : Int) < (l.length : Int) := by omega
    have h2 := h _ (getD_mem hi)
    unfold memo_LayTrail_l1
    simp only [dk_0, dk_1, dk_2, dk_3, c_int, c_slice, h1, decide_true, cond_true, Int.natCast_nonneg, and_self, if_true, Nat.beq_refl, Int.toNat_natCast]
    have l1 : (l.take i).length ≤ 10000 := by simp; omega
    rw [out_Four_eq _ _ (by intro x hx; simp only [List.mem_cons, List.not_mem_nil, or_false] at hx; subst hx; exact h2.ch) (by simp only [List.length_append, hopsB_len, List.length_cons, List.length_nil, numB_len]; omega) (by simp; omega)]
    simp only [dk_0, c_slice, Nat.beq_refl, cond_true, numsB_1]
    rw [out_Eight_eq _ _ (two1 h2.am h2.id) (by simp only [List.length_append, hopsB_len, List.length_cons, List.length_nil, numB_len]; omega) (by simp; omega)]
    simp only [dk_0, c_slice, Nat.beq_refl, cond_true, numsB_2, flat_take hi, wrap_succ (show i < 4611686018427387904 by omega), hopB, List.append_assoc]
  · intro rec
    unfold memo_LayTrail_l1
    simp only [dk_0, dk_1, dk_2, dk_3, c_int, c_slice, Int.lt_irrefl, decide_false, cond_false, Nat.beq_refl, cond_true, List.take_length, trailB, List.append_assoc]
theorem rTrail_eq (out l : List C) (h : ∀ c ∈ l, HopW c) (hl : out.length ≤ 90000000) (hll : l.length ≤ 10000) (hN : 20000 < N) (k : KD R) : ref18_Trail_p N (.slice out) (.slice l) k = k [.slice (out ++ trailB l)] [] := by
  have e8 : C.int 8 = C.int ((8 : Nat) : Int) := rfl
  have e4 : C.int 4 = C.int ((4 : Nat) : Int) := rfl
  rw [ref18_Trail_pe]
  unfold ref18_Trail_p0
  simp only [c_slice, Nat.beq_refl, cond_true, wrap_u8, jn_eq]
  rw [if_pos (by omega)]
  have key := loopK_count (F := ref18_Trail_l1 N fun d1 m1 => k [dk d1 0] []) (fun i => [.slice l, .slice (out ++ [.int ((l.length : Int) % 256)] ++ (l.take i).flatMap hopB), .int i]) (fun _ => []) l.length (k [.slice (out ++ trailB l)] []) ?_ ?_ (N := N) (by omega)
  · simpa using key
  · intro i hi rec
    have h1 : (i : Int) < (l.length : Int) := by omega
    have h2 := h _ (getD_mem hi)
    unfold ref18_Trail_l1
    simp only [dk_0, dk_1, dk_2, dk_3, c_int, c_slice, h1, decide_true, cond_true, Int.natCast_nonneg, and_self, if_true, Nat.beq_refl, Int.toNat_natCast]
    have l1 : (l.take i).length ≤ 10000 := by simp; omega
    rw [e4, e8, wrap_u64 h2.ch.1 h2.ch.2, rNum_eq _ _ (by simpa only [c_int] using h2.ch) 4 (by omega) (by simp only [List.length_append, hopsB_len, List.length_cons, List.length_nil, numB_len]; omega) (by omega)]
    simp only [dk_0, c_slice, c_int]
    rw [rNum_eq _ _ h2.am 8 (by omega) (by simp only [List.length_append, hopsB_len, List.length_cons, List.length_nil, numB_len]; omega) (by omega)]
    simp only [dk_0, c_slice]
    rw [rNum_eq _ _ h2.id 8 (by omega) (by simp only [List.length_append, hopsB_len, List.length_cons, List.length_nil, numB_len]; omega) (by omega)]
    simp only [dk_0, c_slice, flat_take hi, wrap_succ (show i < 4611686018427387904 by omega), hopB, List.append_assoc]
  · intro rec
    unfold ref18_Trail_l1
    simp only [dk_0, dk_1, dk_2, dk_3, c_int, c_slice, Int.lt_irrefl, decide_false, cond_false, Nat.beq_refl, cond_true, List.take_length, trailB, List.append_assoc]
end Go.Proofs.Ytnjepbgenciklaa


namespace Go.Proofs.Ytnjepbgenciklaa
open Go Go.E
set_option maxRecDepth 100000
set_option maxHeartbeats 4000000
set_option linter.unusedVariables false
def octet_In_Fail_as : List Sh := [.as (.ptr (.g (.l 1)) [] tIn2), .d (.int .i64)]
def octet_In_Fail_os : List (Key × OSh) := [(.l 1, .box (.d tIn2))]
noncomputable def octet_In_Fail_hs : Hints := [([0], ⟨[0, 1], [(16, .d .bool)], [.g (.l 1)], [], [], []⟩),
    ([1], ⟨[0], [], [.g (.l 1)], [], [], []⟩),
    ([9], ⟨[], [], [.g (.l 1)], [], [], []⟩)]
noncomputable def octet_In_Fail_ov (N : Nat) : OvS (X0 gl0) where
  g R := []
  ok := fun R => fun _ h => nomatch h
noncomputable def octet_In_Fail_p0 {R : Type} (N : Nat) (a0 b0 : C) (k1 : KD R) : Option R := (jn (fun d1 m1 => (jn (fun d2 m2 => (k1 [dk d2 0] [])) (fun k2 => (bif C.toBool (dk d1 1) then (k2 [C.agg [C.slice [], dk d1 0]] []) else (k2 [dk d1 2] []))))) (fun k2 => (bif decide (C.toInt (C.get b0 1) = 0) then (k2 [a0, C.bool !decide (C.toInt a0 = 0), b0] []) else (k2 [a0, C.bool false, b0] []))))
noncomputable def octet_In_Fail_p {R : Type} (N : Nat) : C → C → KD R → Option R := lid "octet_In_Fail_p N" (octet_In_Fail_p0 N)
theorem octet_In_Fail_pe {R : Type} (N : Nat) (a0 b0 : C) (k : KD R) : octet_In_Fail_p N a0 b0 k = octet_In_Fail_p0 N a0 b0 k := by unfold octet_In_Fail_p; rw [lid_eq]
theorem octet_In_Fail_run {R : Type} (N : Nat) (a0 b0 : C) (K : V → List (Key × O) → Option R) : exF (X0 gl0) ((octet_In_Fail_ov N).ov R) extX noX (fun f => bif Nat.beq f 42 then octet_In_Fail_hs else []) N 400 8 42 (Sh.fills octet_In_Fail_as 0 [a0, b0]) (lookK (locFill octet_In_Fail_os (Sh.manys octet_In_Fail_as) 0 [a0, b0] [])) K =
    octet_In_Fail_p N a0 b0 (fun d1 m1 => K (V.tup []) [(Key.g (Key.l 1), O.box (V.d tIn2 (dk d1 0)))]) := by
  rw [octet_In_Fail_pe]
  exact (show _ = jn (fun d1 m1 => (K (V.tup []) [(Key.g (Key.l 1), O.box (V.d tIn2 (dk d1 0)))])) (octet_In_Fail_p0 N a0 b0) by kernel_rfl).trans (jn_eq _ _)
noncomputable def octet_In_Fail_g (N : Nat) {R : Type} : OvG R := ptrG octet_In_Fail_as octet_In_Fail_os fun ds ms K => octet_In_Fail_p N (dk ds 0) (dk ds 1) (fun d1 m1 => K (V.tup []) [(Key.g (Key.l 1), O.box (V.d tIn2 (dk d1 0)))])
theorem octet_In_Fail_ok (N : Nat) {R : Type} : GOk (X0 gl0) 42 (octet_In_Fail_g N (R := R)) := by
  unfold octet_In_Fail_g
  refine ptrG_ok fun ds ms K r hr => ?_
  rw [← octet_In_Fail_run] at hr
  obtain ⟨v, L, h1, h2⟩ := exF_ok (ok0 gl0) (mo gl0) ((octet_In_Fail_ov N).ov_ok _) (extX_ok gl0) _ _ _ _ _ _ hr
  exact ⟨v, L, h1, h2⟩
end Go.Proofs.Ytnjepbgenciklaa


namespace Go.Proofs.Ytnjepbgenciklaa
open Go Go.E
set_option maxRecDepth 100000
set_option maxHeartbeats 4000000
set_option linter.unusedVariables false
def octet_In_Bad_as : List Sh := [.as (.ptr (.g (.l 1)) [] tIn2)]
def octet_In_Bad_os : List (Key × OSh) := [(.l 1, .box (.d tIn2))]
noncomputable def octet_In_Bad_hs : Hints := [([9], ⟨[], [(2, .d (.int .i64))], [.g (.l 1)], [], [], []⟩)]
noncomputable def octet_In_Bad_ov (N : Nat) : OvS (X0 gl0) where
  g R := []
  ok := fun R => fun _ h => nomatch h
noncomputable def octet_In_Bad_p0 {R : Type} (N : Nat) (b0 : C) (k1 : KD R) : Option R := (k1 [C.get b0 1, b0] [])
noncomputable def octet_In_Bad_p {R : Type} (N : Nat) : C → KD R → Option R := lid "octet_In_Bad_p N" (octet_In_Bad_p0 N)
theorem octet_In_Bad_pe {R : Type} (N : Nat) (b0 : C) (k : KD R) : octet_In_Bad_p N b0 k = octet_In_Bad_p0 N b0 k := by unfold octet_In_Bad_p; rw [lid_eq]
theorem octet_In_Bad_run {R : Type} (N : Nat) (b0 : C) (K : V → List (Key × O) → Option R) : exF (X0 gl0) ((octet_In_Bad_ov N).ov R) extX noX (fun f => bif Nat.beq f 45 then octet_In_Bad_hs else []) N 400 8 45 (Sh.fills octet_In_Bad_as 0 [b0]) (lookK (locFill octet_In_Bad_os (Sh.manys octet_In_Bad_as) 0 [b0] [])) K =
    octet_In_Bad_p N b0 (fun d1 m1 => K (V.d (Ty.int IntKind.i64) (dk d1 0)) [(Key.g (Key.l 1), O.box (V.d tIn2 (dk d1 1)))]) := by
  rw [octet_In_Bad_pe]
  exact (show _ = jn (fun d1 m1 => (K (V.d (Ty.int IntKind.i64) (dk d1 0)) [(Key.g (Key.l 1), O.box (V.d tIn2 (dk d1 1)))])) (octet_In_Bad_p0 N b0) by kernel_rfl).trans (jn_eq _ _)
noncomputable def octet_In_Bad_g (N : Nat) {R : Type} : OvG R := ptrG octet_In_Bad_as octet_In_Bad_os fun ds ms K => octet_In_Bad_p N (dk ds 0) (fun d1 m1 => K (V.d (Ty.int IntKind.i64) (dk d1 0)) [(Key.g (Key.l 1), O.box (V.d tIn2 (dk d1 1)))])
theorem octet_In_Bad_ok (N : Nat) {R : Type} : GOk (X0 gl0) 45 (octet_In_Bad_g N (R := R)) := by
  unfold octet_In_Bad_g
  refine ptrG_ok fun ds ms K r hr => ?_
  rw [← octet_In_Bad_run] at hr
  obtain ⟨v, L, h1, h2⟩ := exF_ok (ok0 gl0) (mo gl0) ((octet_In_Bad_ov N).ov_ok _) (extX_ok gl0) _ _ _ _ _ _ hr
  exact ⟨v, L, h1, h2⟩
end Go.Proofs.Ytnjepbgenciklaa


namespace Go.Proofs.Ytnjepbgenciklaa
open Go Go.E
set_option maxRecDepth 100000
set_option maxHeartbeats 4000000
set_option linter.unusedVariables false
def octet_In_cut_as : List Sh := [.as (.ptr (.g (.l 1)) [] tIn2), .d (.int .i64)]
def octet_In_cut_os : List (Key × OSh) := [(.l 1, .box (.d tIn2))]
noncomputable def octet_In_cut_hs : Hints := [([9], ⟨[], [(4, .d (.slice 1 (.int .u8)))], [.g (.l 1)], [], [], []⟩)]
noncomputable def octet_In_cut_ov (N : Nat) : OvS (X0 gl0) where
  g R := [(42, octet_In_Fail_g N), (45, octet_In_Bad_g N)]
  ok := fun R => List.forall_mem_cons.2 ⟨octet_In_Fail_ok N, List.forall_mem_cons.2 ⟨octet_In_Bad_ok N, fun _ h => nomatch h⟩⟩
noncomputable def octet_In_cut_p0 {R : Type} (N : Nat) (a0 b0 : C) (k1 : KD R) : Option R := (octet_In_Bad_p N b0 (fun d1 m1 => (bif !decide (C.toInt (dk d1 0) = 0) then (k1 [C.slice [], dk d1 1] []) else (bif decide ((↑(List.length (C.elems (C.get (dk d1 1) 0))) : Int) < C.toInt a0) then (octet_In_Fail_p N (C.int 9) (dk d1 1) (fun d2 m2 => (k1 [C.slice [], dk d2 0] []))) else (if Int.ofNat 0 ≤ 0 ∧ 0 ≤ C.toInt a0 ∧ C.toInt a0 ≤ (↑(List.length (C.elems (C.get (dk d1 1) 0))) : Int) then (if 0 ≤ C.toInt a0 ∧ C.toInt a0 ≤ (↑(List.length (C.elems (C.get (dk d1 1) 0))) : Int) ∧ (↑(List.length (C.elems (C.get (dk d1 1) 0))) : Int) ≤ (↑(List.length (C.elems (C.get (dk d1 1) 0))) : Int) then (k1 [C.slice (cut (C.elems (C.get (dk d1 1) 0)) 0 (C.toInt a0)), C.set (dk d1 1) 0 (C.slice (cut (C.elems (C.get (dk d1 1) 0)) (C.toInt a0) (↑(List.length (C.elems (C.get (dk d1 1) 0))) : Int)))] []) else none) else none)))))
noncomputable def octet_In_cut_p {R : Type} (N : Nat) : C → C → KD R → Option R := lid "octet_In_cut_p N" (octet_In_cut_p0 N)
theorem octet_In_cut_pe {R : Type} (N : Nat) (a0 b0 : C) (k : KD R) : octet_In_cut_p N a0 b0 k = octet_In_cut_p0 N a0 b0 k := by unfold octet_In_cut_p; rw [lid_eq]
theorem octet_In_cut_run {R : Type} (N : Nat) (a0 b0 : C) (K : V → List (Key × O) → Option R) : exF (X0 gl0) ((octet_In_cut_ov N).ov R) extX noX (fun f => bif Nat.beq f 67 then octet_In_cut_hs else []) N 400 8 67 (Sh.fills octet_In_cut_as 0 [a0, b0]) (lookK (locFill octet_In_cut_os (Sh.manys octet_In_cut_as) 0 [a0, b0] [])) K =
    octet_In_cut_p N a0 b0 (fun d1 m1 => K (V.d (Ty.slice 1 (Ty.int IntKind.u8)) (dk d1 0)) [(Key.g (Key.l 1), O.box (V.d tIn2 (dk d1 1)))]) := by
  rw [octet_In_cut_pe]
  exact (show _ = jn (fun d1 m1 => (K (V.d (Ty.slice 1 (Ty.int IntKind.u8)) (dk d1 0)) [(Key.g (Key.l 1), O.box (V.d tIn2 (dk d1 1)))])) (octet_In_cut_p0 N a0 b0) by kernel_rfl).trans (jn_eq _ _)
noncomputable def octet_In_cut_g (N : Nat) {R : Type} : OvG R := ptrG octet_In_cut_as octet_In_cut_os fun ds ms K => octet_In_cut_p N (dk ds 0) (dk ds 1) (fun d1 m1 => K (V.d (Ty.slice 1 (Ty.int IntKind.u8)) (dk d1 0)) [(Key.g (Key.l 1), O.box (V.d tIn2 (dk d1 1)))])
theorem octet_In_cut_ok (N : Nat) {R : Type} : GOk (X0 gl0) 67 (octet_In_cut_g N (R := R)) := by
  unfold octet_In_cut_g
  refine ptrG_ok fun ds ms K r hr => ?_
  rw [← octet_In_cut_run] at hr
  obtain ⟨v, L, h1, h2⟩ := exF_ok (ok0 gl0) (mo gl0) ((octet_In_cut_ov N).ov_ok _) (extX_ok gl0) _ _ _ _ _ _ hr
  exact ⟨v, L, h1, h2⟩
end Go.Proofs.Ytnjepbgenciklaa


namespace Go.Proofs.Ytnjepbgenciklaa
open Go Go.E
set_option maxRecDepth 100000
set_option maxHeartbeats 4000000
set_option linter.unusedVariables false
def octet_In_num_as : List Sh := [.as (.ptr (.g (.l 1)) [] tIn2), .d (.int .i64)]
def octet_In_num_os : List (Key × OSh) := [(.l 1, .box (.d tIn2))]
noncomputable def octet_In_num_hs : Hints := [([1, 0, 1, 1], ⟨[0], [(5, .d (.int .u64))], [.g (.l 1)], [], [], []⟩),
    ([4, 1, 0, 1, 1], ⟨[0, 10, 11], [(5, .d (.int .u64)), (12, .d (.int .i64))], [.g (.l 1)], [], [], []⟩),
    ([9], ⟨[], [(4, .d (.int .u64))], [.g (.l 1)], [], [], []⟩)]
noncomputable def octet_In_num_ov (N : Nat) : OvS (X0 gl0) where
  g R := [(67, octet_In_cut_g N)]
  ok := fun R => List.forall_mem_cons.2 ⟨octet_In_cut_ok N, fun _ h => nomatch h⟩
noncomputable def octet_In_num_l1 {R : Type} (N : Nat) (k2 : KD R) : KD R → List C → List Es → Option R := (fun k3 d2 m2 => (bif decide (C.toInt (dk d2 3) < C.toInt (dk d2 1)) then (if 0 ≤ C.toInt (dk d2 3) ∧ C.toInt (dk d2 3) < (↑(List.length (C.elems (dk d2 0))) : Int) then (k3 [dk d2 0, dk d2 1, C.int (bitsC BinOp.or IntKind.u64 (IntKind.wrap IntKind.u64 (C.toInt (dk d2 2) * 2 ^ min (Int.toNat 8) 64)) (IntKind.wrap IntKind.u64 (C.toInt (List.getD (C.elems (dk d2 0)) (Int.toNat (C.toInt (dk d2 3))) C.nil)))), C.int (IntKind.wrap IntKind.i64 (C.toInt (dk d2 3) + 1)), dk d2 4] []) else none) else (k2 [dk d2 2, dk d2 4] [])))
noncomputable def octet_In_num_p0 {R : Type} (N : Nat) (a0 b0 : C) (k1 : KD R) : Option R := (octet_In_cut_p N a0 b0 (fun d1 m1 => (jn (fun d2 m2 => (k1 [dk d2 0, dk d2 1] [])) (fun k2 => (loopK N (octet_In_num_l1 N k2) [dk d1 0, C.int (↑(List.length (C.elems (dk d1 0))) : Int), C.int 0, C.int 0, dk d1 1] [])))))
noncomputable def octet_In_num_p {R : Type} (N : Nat) : C → C → KD R → Option R := lid "octet_In_num_p N" (octet_In_num_p0 N)
theorem octet_In_num_pe {R : Type} (N : Nat) (a0 b0 : C) (k : KD R) : octet_In_num_p N a0 b0 k = octet_In_num_p0 N a0 b0 k := by unfold octet_In_num_p; rw [lid_eq]
theorem octet_In_num_run {R : Type} (N : Nat) (a0 b0 : C) (K : V → List (Key × O) → Option R) : exF (X0 gl0) ((octet_In_num_ov N).ov R) extX noX (fun f => bif Nat.beq f 60 then octet_In_num_hs else []) N 400 8 60 (Sh.fills octet_In_num_as 0 [a0, b0]) (lookK (locFill octet_In_num_os (Sh.manys octet_In_num_as) 0 [a0, b0] [])) K =
    octet_In_num_p N a0 b0 (fun d1 m1 => K (V.d (Ty.int IntKind.u64) (dk d1 0)) [(Key.g (Key.l 1), O.box (V.d tIn2 (dk d1 1)))]) := by
  rw [octet_In_num_pe]
  exact (show _ = jn (fun d1 m1 => (K (V.d (Ty.int IntKind.u64) (dk d1 0)) [(Key.g (Key.l 1), O.box (V.d tIn2 (dk d1 1)))])) (octet_In_num_p0 N a0 b0) by kernel_rfl).trans (jn_eq _ _)
noncomputable def octet_In_num_g (N : Nat) {R : Type} : OvG R := ptrG octet_In_num_as octet_In_num_os fun ds ms K => octet_In_num_p N (dk ds 0) (dk ds 1) (fun d1 m1 => K (V.d (Ty.int IntKind.u64) (dk d1 0)) [(Key.g (Key.l 1), O.box (V.d tIn2 (dk d1 1)))])
theorem octet_In_num_ok (N : Nat) {R : Type} : GOk (X0 gl0) 60 (octet_In_num_g N (R := R)) := by
  unfold octet_In_num_g
  refine ptrG_ok fun ds ms K r hr => ?_
  rw [← octet_In_num_run] at hr
  obtain ⟨v, L, h1, h2⟩ := exF_ok (ok0 gl0) (mo gl0) ((octet_In_num_ov N).ov_ok _) (extX_ok gl0) _ _ _ _ _ _ hr
  exact ⟨v, L, h1, h2⟩
end Go.Proofs.Ytnjepbgenciklaa


namespace Go.Proofs.Ytnjepbgenciklaa
open Go Go.E
set_option maxRecDepth 100000
set_option maxHeartbeats 4000000
set_option linter.unusedVariables false
def octet_In_One_as : List Sh := [.as (.ptr (.g (.l 1)) [] tIn2)]
def octet_In_One_os : List (Key × OSh) := [(.l 1, .box (.d tIn2))]
noncomputable def octet_In_One_hs : Hints := [([9], ⟨[], [(2, .d (.int .u8))], [.g (.l 1)], [], [], []⟩)]
noncomputable def octet_In_One_ov (N : Nat) : OvS (X0 gl0) where
  g R := [(60, octet_In_num_g N)]
  ok := fun R => List.forall_mem_cons.2 ⟨octet_In_num_ok N, fun _ h => nomatch h⟩
noncomputable def octet_In_One_p0 {R : Type} (N : Nat) (b0 : C) (k1 : KD R) : Option R := (octet_In_num_p N (C.int 1) b0 (fun d1 m1 => (k1 [C.int (IntKind.wrap IntKind.u8 (C.toInt (dk d1 0))), dk d1 1] [])))
noncomputable def octet_In_One_p {R : Type} (N : Nat) : C → KD R → Option R := lid "octet_In_One_p N" (octet_In_One_p0 N)
theorem octet_In_One_pe {R : Type} (N : Nat) (b0 : C) (k : KD R) : octet_In_One_p N b0 k = octet_In_One_p0 N b0 k := by unfold octet_In_One_p; rw [lid_eq]
theorem octet_In_One_run {R : Type} (N : Nat) (b0 : C) (K : V → List (Key × O) → Option R) : exF (X0 gl0) ((octet_In_One_ov N).ov R) extX noX (fun f => bif Nat.beq f 41 then octet_In_One_hs else []) N 400 8 41 (Sh.fills octet_In_One_as 0 [b0]) (lookK (locFill octet_In_One_os (Sh.manys octet_In_One_as) 0 [b0] [])) K =
    octet_In_One_p N b0 (fun d1 m1 => K (V.d (Ty.int IntKind.u8) (dk d1 0)) [(Key.g (Key.l 1), O.box (V.d tIn2 (dk d1 1)))]) := by
  rw [octet_In_One_pe]
  exact (show _ = jn (fun d1 m1 => (K (V.d (Ty.int IntKind.u8) (dk d1 0)) [(Key.g (Key.l 1), O.box (V.d tIn2 (dk d1 1)))])) (octet_In_One_p0 N b0) by kernel_rfl).trans (jn_eq _ _)
noncomputable def octet_In_One_g (N : Nat) {R : Type} : OvG R := ptrG octet_In_One_as octet_In_One_os fun ds ms K => octet_In_One_p N (dk ds 0) (fun d1 m1 => K (V.d (Ty.int IntKind.u8) (dk d1 0)) [(Key.g (Key.l 1), O.box (V.d tIn2 (dk d1 1)))])
theorem octet_In_One_ok (N : Nat) {R : Type} : GOk (X0 gl0) 41 (octet_In_One_g N (R := R)) := by
  unfold octet_In_One_g
  refine ptrG_ok fun ds ms K r hr => ?_
  rw [← octet_In_One_run] at hr
  obtain ⟨v, L, h1, h2⟩ := exF_ok (ok0 gl0) (mo gl0) ((octet_In_One_ov N).ov_ok _) (extX_ok gl0) _ _ _ _ _ _ hr
  exact ⟨v, L, h1, h2⟩
end Go.Proofs.Ytnjepbgenciklaa


namespace Go.Proofs.Ytnjepbgenciklaa
open Go Go.E
set_option maxRecDepth 100000
set_option maxHeartbeats 4000000
set_option linter.unusedVariables false
def octet_In_Many_as : List Sh := [.as (.ptr (.g (.l 1)) [] tIn2), .d (.int .i64)]
def octet_In_Many_os : List (Key × OSh) := [(.l 1, .box (.d tIn2))]
noncomputable def octet_In_Many_hs : Hints := [([9], ⟨[], [(4, .d (.int .i64))], [.g (.l 1)], [], [], []⟩)]
noncomputable def octet_In_Many_ov (N : Nat) : OvS (X0 gl0) where
  g R := [(41, octet_In_One_g N), (42, octet_In_Fail_g N)]
  ok := fun R => List.forall_mem_cons.2 ⟨octet_In_One_ok N, List.forall_mem_cons.2 ⟨octet_In_Fail_ok N, fun _ h => nomatch h⟩⟩
noncomputable def octet_In_Many_p0 {R : Type} (N : Nat) (a0 b0 : C) (k1 : KD R) : Option R := (octet_In_One_p N b0 (fun d1 m1 => (bif decide (C.toInt a0 < IntKind.wrap IntKind.i64 (C.toInt (dk d1 0))) then (octet_In_Fail_p N (C.int 8) (dk d1 1) (fun d2 m2 => (k1 [C.int 0, dk d2 0] []))) else (k1 [C.int (IntKind.wrap IntKind.i64 (C.toInt (dk d1 0))), dk d1 1] []))))
noncomputable def octet_In_Many_p {R : Type} (N : Nat) : C → C → KD R → Option R := lid "octet_In_Many_p N" (octet_In_Many_p0 N)
theorem octet_In_Many_pe {R : Type} (N : Nat) (a0 b0 : C) (k : KD R) : octet_In_Many_p N a0 b0 k = octet_In_Many_p0 N a0 b0 k := by unfold octet_In_Many_p; rw [lid_eq]
theorem octet_In_Many_run {R : Type} (N : Nat) (a0 b0 : C) (K : V → List (Key × O) → Option R) : exF (X0 gl0) ((octet_In_Many_ov N).ov R) extX noX (fun f => bif Nat.beq f 21 then octet_In_Many_hs else []) N 400 8 21 (Sh.fills octet_In_Many_as 0 [a0, b0]) (lookK (locFill octet_In_Many_os (Sh.manys octet_In_Many_as) 0 [a0, b0] [])) K =
    octet_In_Many_p N a0 b0 (fun d1 m1 => K (V.d (Ty.int IntKind.i64) (dk d1 0)) [(Key.g (Key.l 1), O.box (V.d tIn2 (dk d1 1)))]) := by
  rw [octet_In_Many_pe]
  exact (show _ = jn (fun d1 m1 => (K (V.d (Ty.int IntKind.i64) (dk d1 0)) [(Key.g (Key.l 1), O.box (V.d tIn2 (dk d1 1)))])) (octet_In_Many_p0 N a0 b0) by kernel_rfl).trans (jn_eq _ _)
noncomputable def octet_In_Many_g (N : Nat) {R : Type} : OvG R := ptrG octet_In_Many_as octet_In_Many_os fun ds ms K => octet_In_Many_p N (dk ds 0) (dk ds 1) (fun d1 m1 => K (V.d (Ty.int IntKind.i64) (dk d1 0)) [(Key.g (Key.l 1), O.box (V.d tIn2 (dk d1 1)))])
theorem octet_In_Many_ok (N : Nat) {R : Type} : GOk (X0 gl0) 21 (octet_In_Many_g N (R := R)) := by
  unfold octet_In_Many_g
  refine ptrG_ok fun ds ms K r hr => ?_
  rw [← octet_In_Many_run] at hr
  obtain ⟨v, L, h1, h2⟩ := exF_ok (ok0 gl0) (mo gl0) ((octet_In_Many_ov N).ov_ok _) (extX_ok gl0) _ _ _ _ _ _ hr
  exact ⟨v, L, h1, h2⟩
end Go.Proofs.Ytnjepbgenciklaa


namespace Go.Proofs.Ytnjepbgenciklaa
open Go Go.E
set_option maxRecDepth 100000
set_option maxHeartbeats 4000000
set_option linter.unusedVariables false
def octet_In_Left_as : List Sh := [.as (.ptr (.g (.l 1)) [] tIn2)]
def octet_In_Left_os : List (Key × OSh) := [(.l 1, .box (.d tIn2))]
noncomputable def octet_In_Left_hs : Hints := [([9], ⟨[], [(2, .d (.int .i64))], [.g (.l 1)], [], [], []⟩)]
noncomputable def octet_In_Left_ov (N : Nat) : OvS (X0 gl0) where
  g R := []
  ok := fun R => fun _ h => nomatch h
noncomputable def octet_In_Left_p0 {R : Type} (N : Nat) (b0 : C) (k1 : KD R) : Option R := (k1 [C.int (↑(List.length (C.elems (C.get b0 0))) : Int), b0] [])
noncomputable def octet_In_Left_p {R : Type} (N : Nat) : C → KD R → Option R := lid "octet_In_Left_p N" (octet_In_Left_p0 N)
theorem octet_In_Left_pe {R : Type} (N : Nat) (b0 : C) (k : KD R) : octet_In_Left_p N b0 k = octet_In_Left_p0 N b0 k := by unfold octet_In_Left_p; rw [lid_eq]
theorem octet_In_Left_run {R : Type} (N : Nat) (b0 : C) (K : V → List (Key × O) → Option R) : exF (X0 gl0) ((octet_In_Left_ov N).ov R) extX noX (fun f => bif Nat.beq f 47 then octet_In_Left_hs else []) N 400 8 47 (Sh.fills octet_In_Left_as 0 [b0]) (lookK (locFill octet_In_Left_os (Sh.manys octet_In_Left_as) 0 [b0] [])) K =
    octet_In_Left_p N b0 (fun d1 m1 => K (V.d (Ty.int IntKind.i64) (dk d1 0)) [(Key.g (Key.l 1), O.box (V.d tIn2 (dk d1 1)))]) := by
  rw [octet_In_Left_pe]
  exact (show _ = jn (fun d1 m1 => (K (V.d (Ty.int IntKind.i64) (dk d1 0)) [(Key.g (Key.l 1), O.box (V.d tIn2 (dk d1 1)))])) (octet_In_Left_p0 N b0) by kernel_rfl).trans (jn_eq _ _)
noncomputable def octet_In_Left_g (N : Nat) {R : Type} : OvG R := ptrG octet_In_Left_as octet_In_Left_os fun ds ms K => octet_In_Left_p N (dk ds 0) (fun d1 m1 => K (V.d (Ty.int IntKind.i64) (dk d1 0)) [(Key.g (Key.l 1), O.box (V.d tIn2 (dk d1 1)))])
theorem octet_In_Left_ok (N : Nat) {R : Type} : GOk (X0 gl0) 47 (octet_In_Left_g N (R := R)) := by
  unfold octet_In_Left_g
  refine ptrG_ok fun ds ms K r hr => ?_
  rw [← octet_In_Left_run] at hr
  obtain ⟨v, L, h1, h2⟩ := exF_ok (ok0 gl0) (mo gl0) ((octet_In_Left_ov N).ov_ok _) (extX_ok gl0) _ _ _ _ _ _ hr
  exact ⟨v, L, h1, h2⟩
end Go.Proofs.Ytnjepbgenciklaa


namespace Go.Proofs.Ytnjepbgenciklaa
open Go Go.E
set_option maxRecDepth 100000
set_option maxHeartbeats 4000000
set_option linter.unusedVariables false
def octet_In_End_as : List Sh := [.as (.ptr (.g (.l 1)) [] tIn2)]
def octet_In_End_os : List (Key × OSh) := [(.l 1, .box (.d tIn2))]
noncomputable def octet_In_End_hs : Hints := [([1, 0, 1], ⟨[0], [], [.g (.l 1)], [], [], []⟩),
    ([9], ⟨[], [(2, .d (.int .i64))], [.g (.l 1)], [], [], []⟩)]
noncomputable def octet_In_End_ov (N : Nat) : OvS (X0 gl0) where
  g R := [(42, octet_In_Fail_g N), (45, octet_In_Bad_g N), (47, octet_In_Left_g N)]
  ok := fun R => List.forall_mem_cons.2 ⟨octet_In_Fail_ok N, List.forall_mem_cons.2 ⟨octet_In_Bad_ok N, List.forall_mem_cons.2 ⟨octet_In_Left_ok N, fun _ h => nomatch h⟩⟩⟩
noncomputable def octet_In_End_p0 {R : Type} (N : Nat) (b0 : C) (k1 : KD R) : Option R := (octet_In_Left_p N b0 (fun d1 m1 => (jn (fun d2 m2 => (octet_In_Bad_p N (dk d2 0) (fun d3 m3 => (k1 [dk d3 0, dk d3 1] [])))) (fun k2 => (bif decide (0 < C.toInt (dk d1 0)) then (octet_In_Fail_p N (C.int 10) (dk d1 1) (fun d2 m2 => (k2 [dk d2 0] []))) else (k2 [dk d1 1] []))))))
noncomputable def octet_In_End_p {R : Type} (N : Nat) : C → KD R → Option R := lid "octet_In_End_p N" (octet_In_End_p0 N)
theorem octet_In_End_pe {R : Type} (N : Nat) (b0 : C) (k : KD R) : octet_In_End_p N b0 k = octet_In_End_p0 N b0 k := by unfold octet_In_End_p; rw [lid_eq]
theorem octet_In_End_run {R : Type} (N : Nat) (b0 : C) (K : V → List (Key × O) → Option R) : exF (X0 gl0) ((octet_In_End_ov N).ov R) extX noX (fun f => bif Nat.beq f 24 then octet_In_End_hs else []) N 400 8 24 (Sh.fills octet_In_End_as 0 [b0]) (lookK (locFill octet_In_End_os (Sh.manys octet_In_End_as) 0 [b0] [])) K =
    octet_In_End_p N b0 (fun d1 m1 => K (V.d (Ty.int IntKind.i64) (dk d1 0)) [(Key.g (Key.l 1), O.box (V.d tIn2 (dk d1 1)))]) := by
  rw [octet_In_End_pe]
  exact (show _ = jn (fun d1 m1 => (K (V.d (Ty.int IntKind.i64) (dk d1 0)) [(Key.g (Key.l 1), O.box (V.d tIn2 (dk d1 1)))])) (octet_In_End_p0 N b0) by kernel_rfl).trans (jn_eq _ _)
noncomputable def octet_In_End_g (N : Nat) {R : Type} : OvG R := ptrG octet_In_End_as octet_In_End_os fun ds ms K => octet_In_End_p N (dk ds 0) (fun d1 m1 => K (V.d (Ty.int IntKind.i64) (dk d1 0)) [(Key.g (Key.l 1), O.box (V.d tIn2 (dk d1 1)))])
theorem octet_In_End_ok (N : Nat) {R : Type} : GOk (X0 gl0) 24 (octet_In_End_g N (R := R)) := by
  unfold octet_In_End_g
  refine ptrG_ok fun ds ms K r hr => ?_
  rw [← octet_In_End_run] at hr
  obtain ⟨v, L, h1, h2⟩ := exF_ok (ok0 gl0) (mo gl0) ((octet_In_End_ov N).ov_ok _) (extX_ok gl0) _ _ _ _ _ _ hr
  exact ⟨v, L, h1, h2⟩
end Go.Proofs.Ytnjepbgenciklaa


namespace Go.Proofs.Ytnjepbgenciklaa
open Go Go.E
set_option maxRecDepth 100000
set_option maxHeartbeats 4000000
set_option linter.unusedVariables false
def octet_In_Eight_as : List Sh := [.as (.ptr (.g (.l 1)) [] tIn2)]
def octet_In_Eight_os : List (Key × OSh) := [(.l 1, .box (.d tIn2))]
noncomputable def octet_In_Eight_hs : Hints := [([9], ⟨[], [(2, .d (.int .u64))], [.g (.l 1)], [], [], []⟩)]
noncomputable def octet_In_Eight_ov (N : Nat) : OvS (X0 gl0) where
  g R := [(60, octet_In_num_g N)]
  ok := fun R => List.forall_mem_cons.2 ⟨octet_In_num_ok N, fun _ h => nomatch h⟩
noncomputable def octet_In_Eight_p0 {R : Type} (N : Nat) (b0 : C) (k1 : KD R) : Option R := (octet_In_num_p N (C.int 8) b0 (fun d1 m1 => (k1 [dk d1 0, dk d1 1] [])))
noncomputable def octet_In_Eight_p {R : Type} (N : Nat) : C → KD R → Option R := lid "octet_In_Eight_p N" (octet_In_Eight_p0 N)
theorem octet_In_Eight_pe {R : Type} (N : Nat) (b0 : C) (k : KD R) : octet_In_Eight_p N b0 k = octet_In_Eight_p0 N b0 k := by unfold octet_In_Eight_p; rw [lid_eq]
theorem octet_In_Eight_run {R : Type} (N : Nat) (b0 : C) (K : V → List (Key × O) → Option R) : exF (X0 gl0) ((octet_In_Eight_ov N).ov R) extX noX (fun f => bif Nat.beq f 43 then octet_In_Eight_hs else []) N 400 8 43 (Sh.fills octet_In_Eight_as 0 [b0]) (lookK (locFill octet_In_Eight_os (Sh.manys octet_In_Eight_as) 0 [b0] [])) K =
    octet_In_Eight_p N b0 (fun d1 m1 => K (V.d (Ty.int IntKind.u64) (dk d1 0)) [(Key.g (Key.l 1), O.box (V.d tIn2 (dk d1 1)))]) := by
  rw [octet_In_Eight_pe]
  exact (show _ = jn (fun d1 m1 => (K (V.d (Ty.int IntKind.u64) (dk d1 0)) [(Key.g (Key.l 1), O.box (V.d tIn2 (dk d1 1)))])) (octet_In_Eight_p0 N b0) by kernel_rfl).trans (jn_eq _ _)
noncomputable def octet_In_Eight_g (N : Nat) {R : Type} : OvG R := ptrG octet_In_Eight_as octet_In_Eight_os fun ds ms K => octet_In_Eight_p N (dk ds 0) (fun d1 m1 => K (V.d (Ty.int IntKind.u64) (dk d1 0)) [(Key.g (Key.l 1), O.box (V.d tIn2 (dk d1 1)))])
theorem octet_In_Eight_ok (N : Nat) {R : Type} : GOk (X0 gl0) 43 (octet_In_Eight_g N (R := R)) := by
  unfold octet_In_Eight_g
  refine ptrG_ok fun ds ms K r hr => ?_
  rw [← octet_In_Eight_run] at hr
  obtain ⟨v, L, h1, h2⟩ := exF_ok (ok0 gl0) (mo gl0) ((octet_In_Eight_ov N).ov_ok _) (extX_ok gl0) _ _ _ _ _ _ hr
  exact ⟨v, L, h1, h2⟩
end Go.Proofs.Ytnjepbgenciklaa


namespace Go.Proofs.Ytnjepbgenciklaa
open Go Go.E
set_option maxRecDepth 100000
set_option maxHeartbeats 4000000
set_option linter.unusedVariables false
def octet_In_Four_as : List Sh := [.as (.ptr (.g (.l 1)) [] tIn2)]
def octet_In_Four_os : List (Key × OSh) := [(.l 1, .box (.d tIn2))]
noncomputable def octet_In_Four_hs : Hints := [([9], ⟨[], [(2, .d (.int .u32))], [.g (.l 1)], [], [], []⟩)]
noncomputable def octet_In_Four_ov (N : Nat) : OvS (X0 gl0) where
  g R := [(60, octet_In_num_g N)]
  ok := fun R => List.forall_mem_cons.2 ⟨octet_In_num_ok N, fun _ h => nomatch h⟩
noncomputable def octet_In_Four_p0 {R : Type} (N : Nat) (b0 : C) (k1 : KD R) : Option R := (octet_In_num_p N (C.int 4) b0 (fun d1 m1 => (k1 [C.int (IntKind.wrap IntKind.u32 (C.toInt (dk d1 0))), dk d1 1] [])))
noncomputable def octet_In_Four_p {R : Type} (N : Nat) : C → KD R → Option R := lid "octet_In_Four_p N" (octet_In_Four_p0 N)
theorem octet_In_Four_pe {R : Type} (N : Nat) (b0 : C) (k : KD R) : octet_In_Four_p N b0 k = octet_In_Four_p0 N b0 k := by unfold octet_In_Four_p; rw [lid_eq]
theorem octet_In_Four_run {R : Type} (N : Nat) (b0 : C) (K : V → List (Key × O) → Option R) : exF (X0 gl0) ((octet_In_Four_ov N).ov R) extX noX (fun f => bif Nat.beq f 46 then octet_In_Four_hs else []) N 400 8 46 (Sh.fills octet_In_Four_as 0 [b0]) (lookK (locFill octet_In_Four_os (Sh.manys octet_In_Four_as) 0 [b0] [])) K =
    octet_In_Four_p N b0 (fun d1 m1 => K (V.d (Ty.int IntKind.u32) (dk d1 0)) [(Key.g (Key.l 1), O.box (V.d tIn2 (dk d1 1)))]) := by
  rw [octet_In_Four_pe]
  exact (show _ = jn (fun d1 m1 => (K (V.d (Ty.int IntKind.u32) (dk d1 0)) [(Key.g (Key.l 1), O.box (V.d tIn2 (dk d1 1)))])) (octet_In_Four_p0 N b0) by kernel_rfl).trans (jn_eq _ _)
noncomputable def octet_In_Four_g (N : Nat) {R : Type} : OvG R := ptrG octet_In_Four_as octet_In_Four_os fun ds ms K => octet_In_Four_p N (dk ds 0) (fun d1 m1 => K (V.d (Ty.int IntKind.u32) (dk d1 0)) [(Key.g (Key.l 1), O.box (V.d tIn2 (dk d1 1)))])
theorem octet_In_Four_ok (N : Nat) {R : Type} : GOk (X0 gl0) 46 (octet_In_Four_g N (R := R)) := by
  unfold octet_In_Four_g
  refine ptrG_ok fun ds ms K r hr => ?_
  rw [← octet_In_Four_run] at hr
  obtain ⟨v, L, h1, h2⟩ := exF_ok (ok0 gl0) (mo gl0) ((octet_In_Four_ov N).ov_ok _) (extX_ok gl0) _ _ _ _ _ _ hr
  exact ⟨v, L, h1, h2⟩
end Go.Proofs.Ytnjepbgenciklaa


namespace Go.Proofs.Ytnjepbgenciklaa
open Go Go.E
set_option maxRecDepth 100000
set_option maxHeartbeats 4000000
set_option linter.unusedVariables false
def octet_In_Sum_as : List Sh := [.as (.ptr (.g (.l 1)) [] tIn2)]
def octet_In_Sum_os : List (Key × OSh) := [(.l 1, .box (.d tIn2))]
noncomputable def octet_In_Sum_hs : Hints := [([9], ⟨[], [(2, .as (.ptr (.l 2) [] (.arr 32 (.int .u8))))], [.g (.l 1)], [(.l 2, .box (.d (.arr 32 (.int .u8))))], [], []⟩)]
noncomputable def octet_In_Sum_ov (N : Nat) : OvS (X0 gl0) where
  g R := [(67, octet_In_cut_g N)]
  ok := fun R => List.forall_mem_cons.2 ⟨octet_In_cut_ok N, fun _ h => nomatch h⟩
noncomputable def octet_In_Sum_p0 {R : Type} (N : Nat) (b0 : C) (k1 : KD R) : Option R := (octet_In_cut_p N (C.int 32) b0 (fun d1 m1 => (k1 [C.agg (copyC (List.replicate 32 (C.int 0)) 0 32 (C.elems (dk d1 0))), dk d1 1] [])))
noncomputable def octet_In_Sum_p {R : Type} (N : Nat) : C → KD R → Option R := lid "octet_In_Sum_p N" (octet_In_Sum_p0 N)
theorem octet_In_Sum_pe {R : Type} (N : Nat) (b0 : C) (k : KD R) : octet_In_Sum_p N b0 k = octet_In_Sum_p0 N b0 k := by unfold octet_In_Sum_p; rw [lid_eq]
theorem octet_In_Sum_run {R : Type} (N : Nat) (b0 : C) (K : V → List (Key × O) → Option R) : exF (X0 gl0) ((octet_In_Sum_ov N).ov R) extX noX (fun f => bif Nat.beq f 61 then octet_In_Sum_hs else []) N 400 8 61 (Sh.fills octet_In_Sum_as 0 [b0]) (lookK (locFill octet_In_Sum_os (Sh.manys octet_In_Sum_as) 0 [b0] [])) K =
    octet_In_Sum_p N b0 (fun d1 m1 => K (V.d (Ty.arr 32 (Ty.int IntKind.u8)) (dk d1 0)) [(Key.g (Key.l 1), O.box (V.d tIn2 (dk d1 1)))]) := by
  rw [octet_In_Sum_pe]
  exact (show _ = jn (fun d1 m1 => (K (V.d (Ty.arr 32 (Ty.int IntKind.u8)) (dk d1 0)) [(Key.g (Key.l 1), O.box (V.d tIn2 (dk d1 1)))])) (octet_In_Sum_p0 N b0) by kernel_rfl).trans (jn_eq _ _)
noncomputable def octet_In_Sum_g (N : Nat) {R : Type} : OvG R := ptrG octet_In_Sum_as octet_In_Sum_os fun ds ms K => octet_In_Sum_p N (dk ds 0) (fun d1 m1 => K (V.d (Ty.arr 32 (Ty.int IntKind.u8)) (dk d1 0)) [(Key.g (Key.l 1), O.box (V.d tIn2 (dk d1 1)))])
theorem octet_In_Sum_ok (N : Nat) {R : Type} : GOk (X0 gl0) 61 (octet_In_Sum_g N (R := R)) := by
  unfold octet_In_Sum_g
  refine ptrG_ok fun ds ms K r hr => ?_
  rw [← octet_In_Sum_run] at hr
  obtain ⟨v, L, h1, h2⟩ := exF_ok (ok0 gl0) (mo gl0) ((octet_In_Sum_ov N).ov_ok _) (extX_ok gl0) _ _ _ _ _ _ hr
  exact ⟨v, L, h1, h2⟩
end Go.Proofs.Ytnjepbgenciklaa


namespace Go.Proofs.Ytnjepbgenciklaa
open Go Go.E
set_option maxRecDepth 100000
set_option maxHeartbeats 4000000
set_option linter.unusedVariables false
def ref01_In_Raw_as : List Sh := [.as (.ptr (.g (.l 1)) [] tIn), .d (.int .i64)]
def ref01_In_Raw_os : List (Key × OSh) := [(.l 1, .box (.d tIn))]
noncomputable def ref01_In_Raw_hs : Hints := [([9], ⟨[], [(4, .sl 1 (.int .u8) 5004)], [.g (.l 1)], [], [], []⟩)]
noncomputable def ref01_In_Raw_ov (N : Nat) : OvS (X0 gl0) where
  g R := []
  ok := fun R => fun _ h => nomatch h
noncomputable def ref01_In_Raw_p0 {R : Type} (N : Nat) (a0 b0 : C) (k1 : KD R) : Option R := (bif !decide (C.toInt (C.get b0 2) = 0) then (k1 [C.slice [], b0] []) else (bif decide (IntKind.wrap IntKind.i64 ((↑(List.length (C.elems (C.get b0 0))) : Int) - C.toInt (C.get b0 1)) < C.toInt a0) then (k1 [C.slice [], C.set b0 2 (C.int 9)] []) else (if 0 ≤ IntKind.wrap IntKind.i64 (C.toInt (C.get (C.set b0 1 (C.int (IntKind.wrap IntKind.i64 (C.toInt (C.get b0 1) + C.toInt a0)))) 1) - C.toInt a0) ∧ IntKind.wrap IntKind.i64 (C.toInt (C.get (C.set b0 1 (C.int (IntKind.wrap IntKind.i64 (C.toInt (C.get b0 1) + C.toInt a0)))) 1) - C.toInt a0) ≤ C.toInt (C.get (C.set b0 1 (C.int (IntKind.wrap IntKind.i64 (C.toInt (C.get b0 1) + C.toInt a0)))) 1) ∧ C.toInt (C.get (C.set b0 1 (C.int (IntKind.wrap IntKind.i64 (C.toInt (C.get b0 1) + C.toInt a0)))) 1) ≤ (↑(List.length (C.elems (C.get (C.set b0 1 (C.int (IntKind.wrap IntKind.i64 (C.toInt (C.get b0 1) + C.toInt a0)))) 0))) : Int) then (bif Nat.beq (List.length (cut (C.elems (C.get (C.set b0 1 (C.int (IntKind.wrap IntKind.i64 (C.toInt (C.get b0 1) + C.toInt a0)))) 0)) (IntKind.wrap IntKind.i64 (C.toInt (C.get (C.set b0 1 (C.int (IntKind.wrap IntKind.i64 (C.toInt (C.get b0 1) + C.toInt a0)))) 1) - C.toInt a0)) (C.toInt (C.get (C.set b0 1 (C.int (IntKind.wrap IntKind.i64 (C.toInt (C.get b0 1) + C.toInt a0)))) 1)))) (List.length (cut (C.elems (C.get (C.set b0 1 (C.int (IntKind.wrap IntKind.i64 (C.toInt (C.get b0 1) + C.toInt a0)))) 0)) (IntKind.wrap IntKind.i64 (C.toInt (C.get (C.set b0 1 (C.int (IntKind.wrap IntKind.i64 (C.toInt (C.get b0 1) + C.toInt a0)))) 1) - C.toInt a0)) (C.toInt (C.get (C.set b0 1 (C.int (IntKind.wrap IntKind.i64 (C.toInt (C.get b0 1) + C.toInt a0)))) 1)))) then (k1 [C.slice (cut (C.elems (C.get (C.set b0 1 (C.int (IntKind.wrap IntKind.i64 (C.toInt (C.get b0 1) + C.toInt a0)))) 0)) (IntKind.wrap IntKind.i64 (C.toInt (C.get (C.set b0 1 (C.int (IntKind.wrap IntKind.i64 (C.toInt (C.get b0 1) + C.toInt a0)))) 1) - C.toInt a0)) (C.toInt (C.get (C.set b0 1 (C.int (IntKind.wrap IntKind.i64 (C.toInt (C.get b0 1) + C.toInt a0)))) 1))), C.set b0 1 (C.int (IntKind.wrap IntKind.i64 (C.toInt (C.get b0 1) + C.toInt a0)))] []) else none) else none)))
noncomputable def ref01_In_Raw_p {R : Type} (N : Nat) : C → C → KD R → Option R := lid "ref01_In_Raw_p N" (ref01_In_Raw_p0 N)
theorem ref01_In_Raw_pe {R : Type} (N : Nat) (a0 b0 : C) (k : KD R) : ref01_In_Raw_p N a0 b0 k = ref01_In_Raw_p0 N a0 b0 k := by unfold ref01_In_Raw_p; rw [lid_eq]
theorem ref01_In_Raw_run {R : Type} (N : Nat) (a0 b0 : C) (K : V → List (Key × O) → Option R) : exF (X0 gl0) ((ref01_In_Raw_ov N).ov R) extX noX (fun f => bif Nat.beq f 62 then ref01_In_Raw_hs else []) N 400 8 62 (Sh.fills ref01_In_Raw_as 0 [a0, b0]) (lookK (locFill ref01_In_Raw_os (Sh.manys ref01_In_Raw_as) 0 [a0, b0] [])) K =
    ref01_In_Raw_p N a0 b0 (fun d1 m1 => K (V.ts 1 (Ty.int IntKind.u8) (C.elems (dk d1 0))) [(Key.g (Key.l 1), O.box (V.d tIn (dk d1 1)))]) := by
  rw [ref01_In_Raw_pe]
  exact (show _ = jn (fun d1 m1 => (bif Nat.beq (List.length (C.elems (dk d1 0))) (List.length (C.elems (dk d1 0))) then
    (K (V.ts 1 (Ty.int IntKind.u8) (C.elems (dk d1 0))) [(Key.g (Key.l 1), O.box (V.d tIn (dk d1 1)))])
  else
    none)) (ref01_In_Raw_p0 N a0 b0) by kernel_rfl).trans ((jn_eq _ _).trans (congrArg (ref01_In_Raw_p0 N a0 b0) (funext fun _ => funext fun _ => by simp only [Nat.beq_refl, cond_true])))
noncomputable def ref01_In_Raw_g (N : Nat) {R : Type} : OvG R := ptrG ref01_In_Raw_as ref01_In_Raw_os fun ds ms K => ref01_In_Raw_p N (dk ds 0) (dk ds 1) (fun d1 m1 => K (V.ts 1 (Ty.int IntKind.u8) (C.elems (dk d1 0))) [(Key.g (Key.l 1), O.box (V.d tIn (dk d1 1)))])
theorem ref01_In_Raw_ok (N : Nat) {R : Type} : GOk (X0 gl0) 62 (ref01_In_Raw_g N (R := R)) := by
  unfold ref01_In_Raw_g
  refine ptrG_ok fun ds ms K r hr => ?_
  rw [← ref01_In_Raw_run] at hr
  obtain ⟨v, L, h1, h2⟩ := exF_ok (ok0 gl0) (mo gl0) ((ref01_In_Raw_ov N).ov_ok _) (extX_ok gl0) _ _ _ _ _ _ hr
  exact ⟨v, L, h1, h2⟩
end Go.Proofs.Ytnjepbgenciklaa


namespace Go.Proofs.Ytnjepbgenciklaa
open Go Go.E
set_option maxRecDepth 100000
set_option maxHeartbeats 4000000
set_option linter.unusedVariables false
def ref01_In_Num_as : List Sh := [.as (.ptr (.g (.l 1)) [] tIn), .d (.int .i64)]
def ref01_In_Num_os : List (Key × OSh) := [(.l 1, .box (.d tIn))]
noncomputable def ref01_In_Num_hs : Hints := [([1, 0, 1, 1, 1], ⟨[0], [(6, .d (.int .u64))], [.g (.l 1)], [], [], []⟩),
    ([4, 1, 0, 1, 1, 1], ⟨[0, 5], [(6, .d (.int .u64)), (7, .d (.int .i64))], [.g (.l 1)], [], [], []⟩),
    ([9], ⟨[], [(4, .d (.int .u64))], [.g (.l 1)], [], [], []⟩)]
noncomputable def ref01_In_Num_ov (N : Nat) : OvS (X0 gl0) where
  g R := [(62, ref01_In_Raw_g N)]
  ok := fun R => List.forall_mem_cons.2 ⟨ref01_In_Raw_ok N, fun _ h => nomatch h⟩
noncomputable def ref01_In_Num_l1 {R : Type} (N : Nat) (k2 : KD R) : KD R → List C → List Es → Option R := (fun k3 d2 m2 => (bif decide (C.toInt (dk d2 2) < (↑(List.length (C.elems (dk d2 0))) : Int)) then (if 0 ≤ C.toInt (dk d2 2) ∧ C.toInt (dk d2 2) < (↑(List.length (C.elems (dk d2 0))) : Int) then (k3 [dk d2 0, C.int (IntKind.wrap IntKind.u64 (IntKind.wrap IntKind.u64 (C.toInt (dk d2 1) * 256) + IntKind.wrap IntKind.u64 (C.toInt (List.getD (C.elems (dk d2 0)) (Int.toNat (C.toInt (dk d2 2))) C.nil)))), C.int (IntKind.wrap IntKind.i64 (C.toInt (dk d2 2) + 1)), dk d2 3] []) else none) else (k2 [dk d2 1, dk d2 3] [])))
noncomputable def ref01_In_Num_p0 {R : Type} (N : Nat) (a0 b0 : C) (k1 : KD R) : Option R := (ref01_In_Raw_p N a0 b0 (fun d1 m1 => (jn (fun d2 m2 => (k1 [dk d2 0, dk d2 1] [])) (fun k2 => (loopK N (ref01_In_Num_l1 N k2) [C.slice (C.elems (dk d1 0)), C.int 0, C.int 0, dk d1 1] [])))))
noncomputable def ref01_In_Num_p {R : Type} (N : Nat) : C → C → KD R → Option R := lid "ref01_In_Num_p N" (ref01_In_Num_p0 N)
theorem ref01_In_Num_pe {R : Type} (N : Nat) (a0 b0 : C) (k : KD R) : ref01_In_Num_p N a0 b0 k = ref01_In_Num_p0 N a0 b0 k := by unfold ref01_In_Num_p; rw [lid_eq]
theorem ref01_In_Num_run {R : Type} (N : Nat) (a0 b0 : C) (K : V → List (Key × O) → Option R) : exF (X0 gl0) ((ref01_In_Num_ov N).ov R) extX noX (fun f => bif Nat.beq f 48 then ref01_In_Num_hs else []) N 400 8 48 (Sh.fills ref01_In_Num_as 0 [a0, b0]) (lookK (locFill ref01_In_Num_os (Sh.manys ref01_In_Num_as) 0 [a0, b0] [])) K =
    ref01_In_Num_p N a0 b0 (fun d1 m1 => K (V.d (Ty.int IntKind.u64) (dk d1 0)) [(Key.g (Key.l 1), O.box (V.d tIn (dk d1 1)))]) := by
  rw [ref01_In_Num_pe]
  exact (show _ = jn (fun d1 m1 => (K (V.d (Ty.int IntKind.u64) (dk d1 0)) [(Key.g (Key.l 1), O.box (V.d tIn (dk d1 1)))])) (ref01_In_Num_p0 N a0 b0) by kernel_rfl).trans (jn_eq _ _)
noncomputable def ref01_In_Num_g (N : Nat) {R : Type} : OvG R := ptrG ref01_In_Num_as ref01_In_Num_os fun ds ms K => ref01_In_Num_p N (dk ds 0) (dk ds 1) (fun d1 m1 => K (V.d (Ty.int IntKind.u64) (dk d1 0)) [(Key.g (Key.l 1), O.box (V.d tIn (dk d1 1)))])
theorem ref01_In_Num_ok (N : Nat) {R : Type} : GOk (X0 gl0) 48 (ref01_In_Num_g N (R := R)) := by
  unfold ref01_In_Num_g
  refine ptrG_ok fun ds ms K r hr => ?_
  rw [← ref01_In_Num_run] at hr
  obtain ⟨v, L, h1, h2⟩ := exF_ok (ok0 gl0) (mo gl0) ((ref01_In_Num_ov N).ov_ok _) (extX_ok gl0) _ _ _ _ _ _ hr
  exact ⟨v, L, h1, h2⟩
end Go.Proofs.Ytnjepbgenciklaa


namespace Go.Proofs.Ytnjepbgenciklaa
open Go Go.E
set_option maxRecDepth 100000
set_option maxHeartbeats 4000000
set_option linter.unusedVariables false
def ref01_In_Many_as : List Sh := [.as (.ptr (.g (.l 1)) [] tIn), .d (.int .i64)]
def ref01_In_Many_os : List (Key × OSh) := [(.l 1, .box (.d tIn))]
noncomputable def ref01_In_Many_hs : Hints := [([1, 0, 2, 1, 0, 1, 1], ⟨[0], [], [.g (.l 1)], [], [], []⟩),
    ([9], ⟨[], [(4, .d (.int .i64))], [.g (.l 1)], [], [], []⟩)]
noncomputable def ref01_In_Many_ov (N : Nat) : OvS (X0 gl0) where
  g R := [(48, ref01_In_Num_g N)]
  ok := fun R => List.forall_mem_cons.2 ⟨ref01_In_Num_ok N, fun _ h => nomatch h⟩
noncomputable def ref01_In_Many_p0 {R : Type} (N : Nat) (a0 b0 : C) (k1 : KD R) : Option R := (ref01_In_Num_p N (C.int 1) b0 (fun d1 m1 => (bif decide (C.toInt a0 < IntKind.wrap IntKind.i64 (C.toInt (dk d1 0))) then (jn (fun d2 m2 => (k1 [C.int 0, dk d2 0] [])) (fun k2 => (bif decide (C.toInt (C.get (dk d1 1) 2) = 0) then (k2 [C.set (dk d1 1) 2 (C.int 8)] []) else (k2 [dk d1 1] [])))) else (k1 [C.int (IntKind.wrap IntKind.i64 (C.toInt (dk d1 0))), dk d1 1] []))))
noncomputable def ref01_In_Many_p {R : Type} (N : Nat) : C → C → KD R → Option R := lid "ref01_In_Many_p N" (ref01_In_Many_p0 N)
theorem ref01_In_Many_pe {R : Type} (N : Nat) (a0 b0 : C) (k : KD R) : ref01_In_Many_p N a0 b0 k = ref01_In_Many_p0 N a0 b0 k := by unfold ref01_In_Many_p; rw [lid_eq]
theorem ref01_In_Many_run {R : Type} (N : Nat) (a0 b0 : C) (K : V → List (Key × O) → Option R) : exF (X0 gl0) ((ref01_In_Many_ov N).ov R) extX noX (fun f => bif Nat.beq f 25 then ref01_In_Many_hs else []) N 400 8 25 (Sh.fills ref01_In_Many_as 0 [a0, b0]) (lookK (locFill ref01_In_Many_os (Sh.manys ref01_In_Many_as) 0 [a0, b0] [])) K =
    ref01_In_Many_p N a0 b0 (fun d1 m1 => K (V.d (Ty.int IntKind.i64) (dk d1 0)) [(Key.g (Key.l 1), O.box (V.d tIn (dk d1 1)))]) := by
  rw [ref01_In_Many_pe]
  exact (show _ = jn (fun d1 m1 => (K (V.d (Ty.int IntKind.i64) (dk d1 0)) [(Key.g (Key.l 1), O.box (V.d tIn (dk d1 1)))])) (ref01_In_Many_p0 N a0 b0) by kernel_rfl).trans (jn_eq _ _)
noncomputable def ref01_In_Many_g (N : Nat) {R : Type} : OvG R := ptrG ref01_In_Many_as ref01_In_Many_os fun ds ms K => ref01_In_Many_p N (dk ds 0) (dk ds 1) (fun d1 m1 => K (V.d (Ty.int IntKind.i64) (dk d1 0)) [(Key.g (Key.l 1), O.box (V.d tIn (dk d1 1)))])
theorem ref01_In_Many_ok (N : Nat) {R : Type} : GOk (X0 gl0) 25 (ref01_In_Many_g N (R := R)) := by
  unfold ref01_In_Many_g
  refine ptrG_ok fun ds ms K r hr => ?_
  rw [← ref01_In_Many_run] at hr
  obtain ⟨v, L, h1, h2⟩ := exF_ok (ok0 gl0) (mo gl0) ((ref01_In_Many_ov N).ov_ok _) (extX_ok gl0) _ _ _ _ _ _ hr
  exact ⟨v, L, h1, h2⟩
end Go.Proofs.Ytnjepbgenciklaa


namespace Go.Proofs.Ytnjepbgenciklaa
open Go Go.E
set_option maxRecDepth 100000
set_option maxHeartbeats 4000000
set_option linter.unusedVariables false
def ref01_In_Left_as : List Sh := [.as (.ptr (.g (.l 1)) [] tIn)]
def ref01_In_Left_os : List (Key × OSh) := [(.l 1, .box (.d tIn))]
noncomputable def ref01_In_Left_hs : Hints := [([9], ⟨[], [(2, .d (.int .i64))], [.g (.l 1)], [], [], []⟩)]
noncomputable def ref01_In_Left_ov (N : Nat) : OvS (X0 gl0) where
  g R := []
  ok := fun R => fun _ h => nomatch h
noncomputable def ref01_In_Left_p0 {R : Type} (N : Nat) (b0 : C) (k1 : KD R) : Option R := (bif !decide (C.toInt (C.get b0 2) = 0) then (k1 [C.int 0, b0] []) else (k1 [C.int (IntKind.wrap IntKind.i64 ((↑(List.length (C.elems (C.get b0 0))) : Int) - C.toInt (C.get b0 1))), b0] []))
noncomputable def ref01_In_Left_p {R : Type} (N : Nat) : C → KD R → Option R := lid "ref01_In_Left_p N" (ref01_In_Left_p0 N)
theorem ref01_In_Left_pe {R : Type} (N : Nat) (b0 : C) (k : KD R) : ref01_In_Left_p N b0 k = ref01_In_Left_p0 N b0 k := by unfold ref01_In_Left_p; rw [lid_eq]
theorem ref01_In_Left_run {R : Type} (N : Nat) (b0 : C) (K : V → List (Key × O) → Option R) : exF (X0 gl0) ((ref01_In_Left_ov N).ov R) extX noX (fun f => bif Nat.beq f 50 then ref01_In_Left_hs else []) N 400 8 50 (Sh.fills ref01_In_Left_as 0 [b0]) (lookK (locFill ref01_In_Left_os (Sh.manys ref01_In_Left_as) 0 [b0] [])) K =
    ref01_In_Left_p N b0 (fun d1 m1 => K (V.d (Ty.int IntKind.i64) (dk d1 0)) [(Key.g (Key.l 1), O.box (V.d tIn (dk d1 1)))]) := by
  rw [ref01_In_Left_pe]
  exact (show _ = jn (fun d1 m1 => (K (V.d (Ty.int IntKind.i64) (dk d1 0)) [(Key.g (Key.l 1), O.box (V.d tIn (dk d1 1)))])) (ref01_In_Left_p0 N b0) by kernel_rfl).trans (jn_eq _ _)
noncomputable def ref01_In_Left_g (N : Nat) {R : Type} : OvG R := ptrG ref01_In_Left_as ref01_In_Left_os fun ds ms K => ref01_In_Left_p N (dk ds 0) (fun d1 m1 => K (V.d (Ty.int IntKind.i64) (dk d1 0)) [(Key.g (Key.l 1), O.box (V.d tIn (dk d1 1)))])
theorem ref01_In_Left_ok (N : Nat) {R : Type} : GOk (X0 gl0) 50 (ref01_In_Left_g N (R := R)) := by
  unfold ref01_In_Left_g
  refine ptrG_ok fun ds ms K r hr => ?_
  rw [← ref01_In_Left_run] at hr
  obtain ⟨v, L, h1, h2⟩ := exF_ok (ok0 gl0) (mo gl0) ((ref01_In_Left_ov N).ov_ok _) (extX_ok gl0) _ _ _ _ _ _ hr
  exact ⟨v, L, h1, h2⟩
end Go.Proofs.Ytnjepbgenciklaa


namespace Go.Proofs.Ytnjepbgenciklaa
open Go Go.E
set_option maxRecDepth 100000
set_option maxHeartbeats 4000000
set_option linter.unusedVariables false
def ref01_In_End_as : List Sh := [.as (.ptr (.g (.l 1)) [] tIn)]
def ref01_In_End_os : List (Key × OSh) := [(.l 1, .box (.d tIn))]
noncomputable def ref01_In_End_hs : Hints := [([1, 0, 1], ⟨[0], [], [.g (.l 1)], [], [], []⟩),
    ([9], ⟨[], [(2, .d (.int .i64))], [.g (.l 1)], [], [], []⟩)]
noncomputable def ref01_In_End_ov (N : Nat) : OvS (X0 gl0) where
  g R := [(50, ref01_In_Left_g N)]
  ok := fun R => List.forall_mem_cons.2 ⟨ref01_In_Left_ok N, fun _ h => nomatch h⟩
noncomputable def ref01_In_End_p0 {R : Type} (N : Nat) (b0 : C) (k1 : KD R) : Option R := (ref01_In_Left_p N b0 (fun d1 m1 => (jn (fun d2 m2 => (k1 [C.get (dk d2 0) 2, dk d2 0] [])) (fun k2 => (bif decide (0 < C.toInt (dk d1 0)) then (k2 [C.set (dk d1 1) 2 (C.int 10)] []) else (k2 [dk d1 1] []))))))
noncomputable def ref01_In_End_p {R : Type} (N : Nat) : C → KD R → Option R := lid "ref01_In_End_p N" (ref01_In_End_p0 N)
theorem ref01_In_End_pe {R : Type} (N : Nat) (b0 : C) (k : KD R) : ref01_In_End_p N b0 k = ref01_In_End_p0 N b0 k := by unfold ref01_In_End_p; rw [lid_eq]
theorem ref01_In_End_run {R : Type} (N : Nat) (b0 : C) (K : V → List (Key × O) → Option R) : exF (X0 gl0) ((ref01_In_End_ov N).ov R) extX noX (fun f => bif Nat.beq f 28 then ref01_In_End_hs else []) N 400 8 28 (Sh.fills ref01_In_End_as 0 [b0]) (lookK (locFill ref01_In_End_os (Sh.manys ref01_In_End_as) 0 [b0] [])) K =
    ref01_In_End_p N b0 (fun d1 m1 => K (V.d (Ty.int IntKind.i64) (dk d1 0)) [(Key.g (Key.l 1), O.box (V.d tIn (dk d1 1)))]) := by
  rw [ref01_In_End_pe]
  exact (show _ = jn (fun d1 m1 => (K (V.d (Ty.int IntKind.i64) (dk d1 0)) [(Key.g (Key.l 1), O.box (V.d tIn (dk d1 1)))])) (ref01_In_End_p0 N b0) by kernel_rfl).trans (jn_eq _ _)
noncomputable def ref01_In_End_g (N : Nat) {R : Type} : OvG R := ptrG ref01_In_End_as ref01_In_End_os fun ds ms K => ref01_In_End_p N (dk ds 0) (fun d1 m1 => K (V.d (Ty.int IntKind.i64) (dk d1 0)) [(Key.g (Key.l 1), O.box (V.d tIn (dk d1 1)))])
theorem ref01_In_End_ok (N : Nat) {R : Type} : GOk (X0 gl0) 28 (ref01_In_End_g N (R := R)) := by
  unfold ref01_In_End_g
  refine ptrG_ok fun ds ms K r hr => ?_
  rw [← ref01_In_End_run] at hr
  obtain ⟨v, L, h1, h2⟩ := exF_ok (ok0 gl0) (mo gl0) ((ref01_In_End_ov N).ov_ok _) (extX_ok gl0) _ _ _ _ _ _ hr
  exact ⟨v, L, h1, h2⟩
end Go.Proofs.Ytnjepbgenciklaa


namespace Go.Proofs.Ytnjepbgenciklaa
open Go Go.E
set_option maxRecDepth 100000
set_option maxHeartbeats 4000000
set_option linter.unusedVariables false
def ref01_In_Sum_as : List Sh := [.as (.ptr (.g (.l 1)) [] tIn)]
def ref01_In_Sum_os : List (Key × OSh) := [(.l 1, .box (.d tIn))]
noncomputable def ref01_In_Sum_hs : Hints := [([1, 0, 1, 1, 1], ⟨[0, 2, 3], [], [.g (.l 1)], [], [], []⟩),
    ([4, 1, 0, 1, 1, 1], ⟨[0, 2, 3, 4], [(5, .d (.int .i64))], [.g (.l 1)], [], [], []⟩),
    ([9], ⟨[], [(2, .as (.ptr (.l 2) [] (.arr 32 (.int .u8))))], [.g (.l 1)], [(.l 2, .box (.d (.arr 32 (.int .u8))))], [], []⟩)]
noncomputable def ref01_In_Sum_ov (N : Nat) : OvS (X0 gl0) where
  g R := [(62, ref01_In_Raw_g N)]
  ok := fun R => List.forall_mem_cons.2 ⟨ref01_In_Raw_ok N, fun _ h => nomatch h⟩
noncomputable def ref01_In_Sum_l1 {R : Type} (N : Nat) (k2 : KD R) : KD R → List C → List Es → Option R := (fun k3 d2 m2 => (bif decide (C.toInt (dk d2 1) < (↑(List.length (C.elems (dk d2 0))) : Int)) then (if 0 ≤ C.toInt (dk d2 1) ∧ C.toInt (dk d2 1) < (↑(List.length (C.elems (dk d2 0))) : Int) then (if 0 ≤ C.toInt (dk d2 1) ∧ C.toInt (dk d2 1) < 32 then (k3 [dk d2 0, C.int (IntKind.wrap IntKind.i64 (C.toInt (dk d2 1) + 1)), dk d2 2, dk d2 3, C.set (dk d2 4) (Int.toNat (C.toInt (dk d2 1))) (List.getD (C.elems (dk d2 0)) (Int.toNat (C.toInt (dk d2 1))) C.nil)] []) else none) else none) else (k2 [dk d2 2, dk d2 3, dk d2 4] [])))
noncomputable def ref01_In_Sum_p0 {R : Type} (N : Nat) (b0 : C) (k1 : KD R) : Option R := (ref01_In_Raw_p N (C.int 32) b0 (fun d1 m1 => (jn (fun d2 m2 => (k1 [dk d2 2, dk d2 0] [])) (fun k2 => (loopK N (ref01_In_Sum_l1 N k2) [C.slice (C.elems (dk d1 0)), C.int 0, dk d1 1, zeroC (Ty.arr 32 (Ty.int IntKind.u8)), zeroC (Ty.arr 32 (Ty.int IntKind.u8))] [])))))
noncomputable def ref01_In_Sum_p {R : Type} (N : Nat) : C → KD R → Option R := lid "ref01_In_Sum_p N" (ref01_In_Sum_p0 N)
theorem ref01_In_Sum_pe {R : Type} (N : Nat) (b0 : C) (k : KD R) : ref01_In_Sum_p N b0 k = ref01_In_Sum_p0 N b0 k := by unfold ref01_In_Sum_p; rw [lid_eq]
theorem ref01_In_Sum_run {R : Type} (N : Nat) (b0 : C) (K : V → List (Key × O) → Option R) : exF (X0 gl0) ((ref01_In_Sum_ov N).ov R) extX noX (fun f => bif Nat.beq f 63 then ref01_In_Sum_hs else []) N 400 8 63 (Sh.fills ref01_In_Sum_as 0 [b0]) (lookK (locFill ref01_In_Sum_os (Sh.manys ref01_In_Sum_as) 0 [b0] [])) K =
    ref01_In_Sum_p N b0 (fun d1 m1 => K (V.d (Ty.arr 32 (Ty.int IntKind.u8)) (dk d1 0)) [(Key.g (Key.l 1), O.box (V.d tIn (dk d1 1)))]) := by
  rw [ref01_In_Sum_pe]
  exact (show _ = jn (fun d1 m1 => (K (V.d (Ty.arr 32 (Ty.int IntKind.u8)) (dk d1 0)) [(Key.g (Key.l 1), O.box (V.d tIn (dk d1 1)))])) (ref01_In_Sum_p0 N b0) by kernel_rfl).trans (jn_eq _ _)
noncomputable def ref01_In_Sum_g (N : Nat) {R : Type} : OvG R := ptrG ref01_In_Sum_as ref01_In_Sum_os fun ds ms K => ref01_In_Sum_p N (dk ds 0) (fun d1 m1 => K (V.d (Ty.arr 32 (Ty.int IntKind.u8)) (dk d1 0)) [(Key.g (Key.l 1), O.box (V.d tIn (dk d1 1)))])
theorem ref01_In_Sum_ok (N : Nat) {R : Type} : GOk (X0 gl0) 63 (ref01_In_Sum_g N (R := R)) := by
  unfold ref01_In_Sum_g
  refine ptrG_ok fun ds ms K r hr => ?_
  rw [← ref01_In_Sum_run] at hr
  obtain ⟨v, L, h1, h2⟩ := exF_ok (ok0 gl0) (mo gl0) ((ref01_In_Sum_ov N).ov_ok _) (extX_ok gl0) _ _ _ _ _ _ hr
  exact ⟨v, L, h1, h2⟩
end Go.Proofs.Ytnjepbgenciklaa


namespace Go.Proofs.Ytnjepbgenciklaa
open Go Go.E
set_option maxRecDepth 100000
set_option maxHeartbeats 4000000
set_option linter.unusedSimpArgs false
variable {R : Type} {N : Nat}
structure Rdr where
  l : List C
  e : Int
def inO (s : Rdr) : C := .agg [.slice s.l, .int s.e]
def Byte (c : C) : Prop := c = .int c.toInt ∧ 0 ≤ c.toInt ∧ c.toInt < 256
def BytesOk (l : List C) : Prop := ∀ c ∈ l, Byte c
def cutB (n : Nat) (s : Rdr) : List C := if s.e ≠ 0 then [] else if s.l.length < n then [] else s.l.take n
def cutS (n : Nat) (s : Rdr) : Rdr := if s.e ≠ 0 then s else if s.l.length < n then ⟨[], 9⟩ else ⟨s.l.drop n, 0⟩
def failS (e : Int) (s : Rdr) : Rdr := if s.e = 0 then ⟨[], e⟩ else s
theorem cutB_len (n : Nat) (s : Rdr) : (cutB n s).length ≤ n := by
  unfold cutB
  split
  · simp
  · split
    · simp
    · simp; omega
theorem cutB_ok {n : Nat} {s : Rdr} (h : BytesOk s.l) : BytesOk (cutB n s) := by
  unfold cutB
  split
  · intro c hc; simp at hc
  · split
    · intro c hc; simp at hc
    · intro c hc; exact h c (List.mem_of_mem_take hc)
theorem cutS_ok {n : Nat} {s : Rdr} (h : BytesOk s.l) : BytesOk (cutS n s).l := by
  unfold cutS
  split
  · exact h
  · split
    · intro c hc; simp at hc
    · intro c hc; exact h c (List.mem_of_mem_drop hc)
theorem failS_ok {e : Int} {s : Rdr} (h : BytesOk s.l) : BytesOk (failS e s).l := by
  unfold failS
  split
  · intro c hc; simp at hc
  · exact h
def stepV (n : Int) (c : C) : Int := n % 72057594037927936 * 256 + c.toInt
def numV (l : List C) : Int := l.foldl stepV 0
theorem take_getD {bs : List C} {i : Nat} (hi : i < bs.length) : bs.take (i + 1) = bs.take i ++ [bs.getD i .nil] := by
  rw [List.take_add_one, List.getElem?_eq_getElem hi, List.getD_eq_getElem?_getD, List.getElem?_eq_getElem hi]; rfl
theorem numV_take {bs : List C} {i : Nat} (hi : i < bs.length) : numV (bs.take (i + 1)) = stepV (numV (bs.take i)) (bs.getD i .nil) := by
  rw [take_getD hi, numV, List.foldl_append]; rfl
theorem numV_1 {l : List C} (h : BytesOk l) (hl : l.length ≤ 1) : 0 ≤ numV l ∧ numV l < 256 := by
  rcases l with _ | ⟨c, _ | ⟨d, l⟩⟩
  · simp [numV]
  · have := (h c (by simp)).2
    simp only [numV, List.foldl, stepV]
    omega
  · simp at hl
theorem step_or {n : Int} {c : C} (h : Byte c) : bitsC BinOp.or IntKind.u64 (IntKind.u64.wrap (n * 256)) (IntKind.u64.wrap c.toInt) = stepV n c := by
  obtain ⟨_, h1, h2⟩ := h
  have e1 : IntKind.u64.wrap (n * 256) = n % 72057594037927936 * 256 := by
    have : IntKind.u64.wrap (n * 256) = n * 256 % 18446744073709551616 := by simp [IntKind.wrap, IntKind.bits, IntKind.signed]
    rw [this]; omega
  rw [e1, wrap_u64 h1 (by omega)]
  have a1 : 0 ≤ n % 72057594037927936 := by omega
  have a2 : n % 72057594037927936 < 72057594037927936 := by omega
  unfold stepV
  generalize n % 72057594037927936 = a at *
  generalize c.toInt = b at *
  obtain ⟨x, rfl⟩ := Int.eq_ofNat_of_zero_le a1
  obtain ⟨y, rfl⟩ := Int.eq_ofNat_of_zero_le h1
  have hx : x < 72057594037927936 := by omega
  have hy : y < 256 := by omega
  have e1 : ((x : Int) * 256) = ((x * 256 : Nat) : Int) := by omega
  have key : (x * 256) ||| y = x * 256 + y := by
    have := Nat.two_pow_add_eq_or_of_lt (i := 8) (b := y) (by omega) x
    rw [Nat.mul_comm x 256]
    exact this.symm
  rw [e1]
  show IntKind.u64.wrap (((BitVec.ofInt 64 ((x * 256 : Nat) : Int)) ||| (BitVec.ofInt 64 ((y : Nat) : Int))).toNat : Int) = _
  simp only [BitVec.toNat_or, BitVec.ofInt_natCast, BitVec.toNat_ofNat]
  rw [Nat.mod_eq_of_lt (by omega), Nat.mod_eq_of_lt (by omega), key, wrap_u64 (by omega) (by omega)]
  omega
theorem step_add {n : Int} {c : C} (h : Byte c) : IntKind.u64.wrap (IntKind.u64.wrap (n * 256) + IntKind.u64.wrap c.toInt) = stepV n c := by
  obtain ⟨_, h1, h2⟩ := h
  have e1 : IntKind.u64.wrap (n * 256) = n % 72057594037927936 * 256 := by
    have : IntKind.u64.wrap (n * 256) = n * 256 % 18446744073709551616 := by simp [IntKind.wrap, IntKind.bits, IntKind.signed]
    rw [this]; omega
  rw [e1, wrap_u64 h1 (by omega), wrap_u64 (by omega) (by omega)]
  rfl
theorem in_Bad_eq (s : Rdr) (k : KD R) : octet_In_Bad_p N (inO s) k = k [.int s.e, inO s] [] := by
  rw [octet_In_Bad_pe]; rfl
theorem in_Fail_eq (e : Int) (he : e ≠ 0) (s : Rdr) (k : KD R) : octet_In_Fail_p N (.int e) (inO s) k = k [inO (failS e s)] [] := by
  rw [octet_In_Fail_pe]
  unfold octet_In_Fail_p0 failS
  by_cases h : s.e = 0 <;> simp [jn_eq, inO, go_sem, c_int, c_bool, h, he]
theorem in_cut_eq (n : Nat) (s : Rdr) (k : KD R) : octet_In_cut_p N (.int n) (inO s) k = k [.slice (cutB n s), inO (cutS n s)] [] := by
  rw [octet_In_cut_pe]
  unfold octet_In_cut_p0 cutB cutS
  rw [in_Bad_eq]
  by_cases h : s.e = 0
  case neg => simp [go_sem, c_int, h]
  have e0 : (inO s).get 0 = .slice s.l := rfl
  simp only [dk_0, dk_1, c_int, c_slice, h, e0, decide_true, Bool.not_true, cond_false, ne_eq, not_true_eq_false, if_false]
  by_cases h2 : s.l.length < n
  · have h2' : (s.l.length : Int) < (n : Int) := by omega
    rw [in_Fail_eq 9 (by decide)]
    simp [h2, h2', go_sem, failS, h]
  · have h2' : ¬ (s.l.length : Int) < (n : Int) := by omega
    have h3 : (n : Int) ≤ (s.l.length : Int) := by omega
    simp only [h2, h2', h3, decide_false, cond_false, if_false, Int.natCast_nonneg, Int.le_refl, and_self, if_true, Int.ofNat_eq_natCast]
    simp [cut, inO, go_sem, h]
theorem in_num_eq (n : Nat) (s : Rdr) (hb : BytesOk s.l) (hn : n ≤ 100) (hN : 200 < N) (k : KD R) : octet_In_num_p N (.int n) (inO s) k = k [.int (numV (cutB n s)), inO (cutS n s)] [] := by
  rw [octet_In_num_pe]
  unfold octet_In_num_p0
  rw [in_cut_eq]
  simp only [jn_eq, dk_0, dk_1, c_slice]
  have hl := cutB_len n s
  have hbb : BytesOk (cutB n s) := cutB_ok hb
  generalize cutB n s = bs at *
  have key := loopK_count (F := octet_In_num_l1 N fun d2 m2 => k [dk d2 0, dk d2 1] []) (fun i => [.slice bs, .int bs.length, .int (numV (bs.take i)), .int i, inO (cutS n s)]) (fun _ => []) bs.length (k [.int (numV bs), inO (cutS n s)] []) ?_ ?_ (N := N) (by omega)
  · exact key
  · intro i hi rec
    have h1 : (i : Int) < (bs.length : Int) := by omega
    have h2 : (2 : Int) ^ min (Int.toNat 8) 64 = 256 := by decide
    have h3 := numV_take hi
    unfold octet_In_num_l1
    simp only [dk_0, dk_1, dk_2, dk_3, dk_4, c_int, c_slice, h1, decide_true, cond_true, Int.natCast_nonneg, and_self, if_true, Int.toNat_natCast, h2, step_or (hbb _ (getD_mem hi)), wrap_succ (show i < 4611686018427387904 by omega), h3]
  · intro rec
    unfold octet_In_num_l1
    simp only [dk_0, dk_1, dk_2, dk_3, dk_4, c_int, c_slice, Int.lt_irrefl, decide_false, cond_false, List.take_length]
def oneV (s : Rdr) : Int := numV (cutB 1 s)
theorem oneV_lt {s : Rdr} (hb : BytesOk s.l) : 0 ≤ oneV s ∧ oneV s < 256 := numV_1 (cutB_ok hb) (cutB_len 1 s)
theorem u8_oneV {s : Rdr} (hb : BytesOk s.l) : IntKind.u8.wrap (oneV s) = oneV s := by
  have := oneV_lt hb
  rw [wrap_u8]; omega
theorem i64_oneV {s : Rdr} (hb : BytesOk s.l) : IntKind.i64.wrap (oneV s) = oneV s := by
  have := oneV_lt hb
  exact wrap_i64 (by omega) (by omega)
theorem in_One_eq (s : Rdr) (hb : BytesOk s.l) (hN : 200 < N) (k : KD R) : octet_In_One_p N (inO s) k = k [.int (oneV s), inO (cutS 1 s)] [] := by
  rw [octet_In_One_pe]
  unfold octet_In_One_p0
  rw [show C.int 1 = C.int ((1 : Nat) : Int) from rfl, in_num_eq 1 s hb (by omega) hN]
  simp only [dk_0, dk_1, c_int]
  rw [← oneV, u8_oneV hb]
theorem in_Four_eq (s : Rdr) (hb : BytesOk s.l) (hN : 200 < N) (k : KD R) : octet_In_Four_p N (inO s) k = k [.int (IntKind.u32.wrap (numV (cutB 4 s))), inO (cutS 4 s)] [] := by
  rw [octet_In_Four_pe]
  unfold octet_In_Four_p0
  rw [show C.int 4 = C.int ((4 : Nat) : Int) from rfl, in_num_eq 4 s hb (by omega) hN]
  simp only [dk_0, dk_1, c_int]
theorem in_Eight_eq (s : Rdr) (hb : BytesOk s.l) (hN : 200 < N) (k : KD R) : octet_In_Eight_p N (inO s) k = k [.int (numV (cutB 8 s)), inO (cutS 8 s)] [] := by
  rw [octet_In_Eight_pe]
  unfold octet_In_Eight_p0
  rw [show C.int 8 = C.int ((8 : Nat) : Int) from rfl, in_num_eq 8 s hb (by omega) hN]
  simp only [dk_0, dk_1, c_int]
def digV (bs : List C) : C := .agg (bs ++ List.replicate (32 - bs.length) (.int 0))
theorem in_Sum_eq (s : Rdr) (k : KD R) : octet_In_Sum_p N (inO s) k = k [digV (cutB 32 s), inO (cutS 32 s)] [] := by
  rw [octet_In_Sum_pe]
  unfold octet_In_Sum_p0
  rw [show C.int 32 = C.int ((32 : Nat) : Int) from rfl, in_cut_eq]
  simp only [dk_0, dk_1, c_slice]
  have hl := cutB_len 32 s
  have : copyC (List.replicate 32 (C.int 0)) 0 32 (cutB 32 s) = cutB 32 s ++ List.replicate (32 - (cutB 32 s).length) (.int 0) := by
    unfold copyC
    rw [List.take_of_length_le hl, List.drop_replicate]
    simp only [List.take_zero, List.nil_append]
    congr 2
    omega
  rw [this]; rfl
def manyV (most : Int) (s : Rdr) : Int := if most < oneV s then 0 else oneV s
def manyS (most : Int) (s : Rdr) : Rdr := if most < oneV s then failS 8 (cutS 1 s) else cutS 1 s
theorem manyS_ok {m : Int} {s : Rdr} (h : BytesOk s.l) : BytesOk (manyS m s).l := by
  unfold manyS
  split
  · exact failS_ok (cutS_ok h)
  · exact cutS_ok h
theorem manyV_le {m : Int} {s : Rdr} (hm : 0 ≤ m) (h : BytesOk s.l) : 0 ≤ manyV m s ∧ manyV m s ≤ m := by
  have := oneV_lt h
  unfold manyV
  split <;> omega
theorem in_Many_eq (most : Int) (s : Rdr) (hb : BytesOk s.l) (hN : 200 < N) (k : KD R) : octet_In_Many_p N (.int most) (inO s) k = k [.int (manyV most s), inO (manyS most s)] [] := by
  rw [octet_In_Many_pe]
  unfold octet_In_Many_p0 manyV manyS
  rw [in_One_eq s hb hN]
  simp only [dk_0, dk_1, c_int, i64_oneV hb]
  by_cases h : most < oneV s
  · simp only [h, decide_true, cond_true, if_true]
    rw [in_Fail_eq 8 (by decide)]
    rfl
  · simp only [h, decide_false, cond_false, if_false]
def endE (s : Rdr) : Int := if s.e = 0 then (if s.l = [] then 0 else 10) else s.e
theorem in_End_eq (s : Rdr) (k : KD R) : ∃ x, octet_In_End_p N (inO s) k = k [.int (endE s), x] [] := by
  rw [octet_In_End_pe]
  unfold octet_In_End_p0 endE
  rw [octet_In_Left_pe]
  unfold octet_In_Left_p0
  have e0 : (inO s).get 0 = .slice s.l := rfl
  simp only [jn_eq, dk_0, dk_1, c_int, e0, c_slice]
  rcases hl : s.l with _ | ⟨c, l⟩
  · simp only [List.length_nil, Int.natCast_zero, Int.lt_irrefl, decide_false, cond_false, in_Bad_eq, dk_0, dk_1]
    by_cases h : s.e = 0
    · exact ⟨inO s, by simp [h]⟩
    · exact ⟨inO s, by simp [h]⟩
  · have h1 : (0 : Int) < ((c :: l).length : Int) := by simp only [List.length_cons]; omega
    simp only [h1, decide_true, cond_true]
    rw [in_Fail_eq 10 (by decide)]
    simp only [in_Bad_eq, dk_0, dk_1]
    unfold failS
    by_cases h : s.e = 0
    · exact ⟨_, by rw [if_pos h, if_pos h, if_neg (by simp)]⟩
    · exact ⟨_, by rw [if_neg h, if_neg h]⟩
structure Rst where
  i : Nat
  e : Int
def rfO (p : List C) (r : Rst) : C := .agg [.slice p, .int r.i, .int r.e]
structure ROk (p : List C) (r : Rst) : Prop where
  hi : r.i ≤ p.length
  hb : BytesOk p
  hl : p.length ≤ 1000000000
def rab (p : List C) (r : Rst) : Rdr := ⟨if r.e = 0 then p.drop r.i else [], r.e⟩
theorem rab_ok {p : List C} {r : Rst} (h : ROk p r) : BytesOk (rab p r).l := by
  unfold rab
  dsimp only
  split
  · intro c hc; exact h.hb c (List.mem_of_mem_drop hc)
  · intro c hc; simp at hc
def rawR (p : List C) (n : Nat) (r : Rst) : Rst := if r.e ≠ 0 then r else if p.length - r.i < n then ⟨r.i, 9⟩ else ⟨r.i + n, 0⟩
theorem rawR_ok {p : List C} {n : Nat} {r : Rst} (h : ROk p r) : ROk p (rawR p n r) := by
  have := h.hi
  unfold rawR
  split
  · exact h
  · split
    · exact ⟨this, h.hb, h.hl⟩
    · exact ⟨by dsimp only; omega, h.hb, h.hl⟩
theorem rawR_rab {p : List C} {n : Nat} {r : Rst} (h : ROk p r) : rab p (rawR p n r) = cutS n (rab p r) := by
  have hi := h.hi
  unfold rawR cutS rab
  by_cases h1 : r.e = 0
  case neg => simp [h1]
  by_cases h2 : p.length - r.i < n
  · simp [h1, h2]
  · simp [h1, h2]
theorem rRaw_eq (p : List C) (n : Nat) (hn : n ≤ 1000000) (r : Rst) (h : ROk p r) (k : KD R) : ref01_In_Raw_p N (.int n) (rfO p r) k = k [.slice (cutB n (rab p r)), rfO p (rawR p n r)] [] := by
  have hi := h.hi
  have hl := h.hl
  rw [ref01_In_Raw_pe]
  unfold ref01_In_Raw_p0
  have g0 : (rfO p r).get 0 = .slice p := rfl
  have g1 : (rfO p r).get 1 = .int r.i := rfl
  have g2 : (rfO p r).get 2 = .int r.e := rfl
  have s1 : ∀ x, (rfO p r).set 1 (.int x) = .agg [.slice p, .int x, .int r.e] := fun _ => rfl
  have s2 : ∀ x, (rfO p r).set 2 (.int x) = .agg [.slice p, .int r.i, .int x] := fun _ => rfl
  simp only [g0, g1, g2, s1, s2, get_agg_0, get_agg_1, c_int, c_slice]
  by_cases h1 : r.e = 0
  case neg => simp [h1, cutB, rab, rawR]
  have w1 : IntKind.i64.wrap ((p.length : Int) - (r.i : Int)) = p.length - r.i := wrap_i64 (by omega) (by omega)
  have w2 : IntKind.i64.wrap ((r.i : Int) + (n : Int)) = r.i + n := wrap_i64 (by omega) (by omega)
  have w3 : IntKind.i64.wrap ((r.i : Int) + n - n) = r.i := by rw [wrap_i64 (by omega) (by omega)]; omega
  simp only [h1, w1, w2, w3, decide_true, Bool.not_true, cond_false]
  by_cases h2 : p.length - r.i < n
  · have h2' : (p.length : Int) - r.i < n := by omega
    simp [h1, h2, h2', cutB, rab, rawR, rfO]
  · have h2' : ¬ (p.length : Int) - r.i < n := by omega
    have h3 : (0 : Int) ≤ r.i ∧ (r.i : Int) ≤ r.i + n ∧ (r.i : Int) + n ≤ p.length := by omega
    have e1 : ((r.i : Int) + (n : Int)).toNat = r.i + n := by omega
    have e2 : (p.take (r.i + n)).drop r.i = (p.drop r.i).take n := by rw [List.drop_take]; congr 1; omega
    simp only [h2', h3, decide_false, cond_false, and_self, if_true, Nat.beq_refl, cond_true]
    simp [h1, h2, cutB, rab, rawR, rfO, cut, e1, e2]
theorem rNumI_eq (p : List C) (n : Nat) (hn : n ≤ 100) (r : Rst) (h : ROk p r) (hN : 200 < N) (k : KD R) : ref01_In_Num_p N (.int n) (rfO p r) k = k [.int (numV (cutB n (rab p r))), rfO p (rawR p n r)] [] := by
  rw [ref01_In_Num_pe]
  unfold ref01_In_Num_p0
  rw [rRaw_eq p n (by omega) r h]
  simp only [jn_eq, dk_0, dk_1, c_slice]
  have hl := cutB_len n (rab p r)
  have hbb : BytesOk (cutB n (rab p r)) := cutB_ok (rab_ok h)
  generalize cutB n (rab p r) = bs at *
  have key := loopK_count (F := ref01_In_Num_l1 N fun d2 m2 => k [dk d2 0, dk d2 1] []) (fun i => [.slice bs, .int (numV (bs.take i)), .int i, rfO p (rawR p n r)]) (fun _ => []) bs.length (k [.int (numV bs), rfO p (rawR p n r)] []) ?_ ?_ (N := N) (by omega)
  · exact key
  · intro i hi rec
    have h1 : (i : Int) < (bs.length : Int) := by omega
    have h3 := numV_take hi
    unfold ref01_In_Num_l1
    simp only [dk_0, dk_1, dk_2, dk_3, dk_4, c_int, c_slice, h1, decide_true, cond_true, Int.natCast_nonneg, and_self, if_true, Int.toNat_natCast, step_add (hbb _ (getD_mem hi)), wrap_succ (show i < 4611686018427387904 by omega), h3]
  · intro rec
    unfold ref01_In_Num_l1
    simp only [dk_0, dk_1, dk_2, dk_3, dk_4, c_int, c_slice, Int.lt_irrefl, decide_false, cond_false, List.take_length]
theorem rSumI_eq (p : List C) (r : Rst) (h : ROk p r) (hN : 200 < N) (k : KD R) : ref01_In_Sum_p N (rfO p r) k = k [digV (cutB 32 (rab p r)), rfO p (rawR p 32 r)] [] := by
  rw [ref01_In_Sum_pe]
  unfold ref01_In_Sum_p0
  rw [show C.int 32 = C.int ((32 : Nat) : Int) from rfl, rRaw_eq p 32 (by omega) r h]
  simp only [jn_eq, dk_0, dk_1, c_slice]
  have hl := cutB_len 32 (rab p r)
  generalize cutB 32 (rab p r) = bs at *
  have z : zeroC (Ty.arr 32 (Ty.int IntKind.u8)) = .agg (List.replicate 32 (.int 0)) := rfl
  rw [z]
  have key := loopK_count (F := ref01_In_Sum_l1 N fun d2 m2 => k [dk d2 2, dk d2 0] []) (fun i => [.slice bs, .int i, rfO p (rawR p 32 r), .agg (List.replicate 32 (.int 0)), .agg (bs.take i ++ List.replicate (32 - i) (.int 0))]) (fun _ => []) bs.length (k [digV bs, rfO p (rawR p 32 r)] []) ?_ ?_ (N := N) (by omega)
  · simpa using key
  · intro i hi rec
    have h1 : (i : Int) < (bs.length : Int) := by omega
    have h2 : (i : Int) < 32 := by omega
    have h3 : C.set (.agg (bs.take i ++ List.replicate (32 - i) (.int 0))) i (bs.getD i .nil) = .agg (bs.take (i + 1) ++ List.replicate (32 - (i + 1)) (.int 0)) := by
      have e1 : List.replicate (32 - i) (C.int 0) = .int 0 :: List.replicate (32 - (i + 1)) (.int 0) := by
        rw [show 32 - i = (32 - (i + 1)) + 1 by omega]; rfl
      have e2 : (bs.take i).length = i := by simp; omega
      have e3 : bs.take (i + 1) = bs.take i ++ [bs.getD i .nil] := by
        rw [List.take_add_one, List.getElem?_eq_getElem hi, List.getD_eq_getElem?_getD, List.getElem?_eq_getElem hi]; rfl
      rw [e1, e3]
      simp only [C.set]
      rw [List.set_append_right _ _ (by omega), e2]
      simp
    unfold ref01_In_Sum_l1
    simp only [dk_0, dk_1, dk_2, dk_3, dk_4, c_int, c_slice, h1, h2, decide_true, cond_true, Int.natCast_nonneg, and_self, if_true, Int.toNat_natCast, wrap_succ (show i < 4611686018427387904 by omega), h3]
  · intro rec
    unfold ref01_In_Sum_l1
    simp only [dk_0, dk_1, dk_2, dk_3, dk_4, c_int, c_slice, Int.lt_irrefl, decide_false, cond_false, List.take_length, digV]
def failR (e : Int) (r : Rst) : Rst := if r.e = 0 then ⟨r.i, e⟩ else r
theorem failR_ok {p : List C} {e : Int} {r : Rst} (h : ROk p r) : ROk p (failR e r) := by
  unfold failR
  split
  · exact ⟨h.hi, h.hb, h.hl⟩
  · exact h
theorem failR_rab {p : List C} {e : Int} (he : e ≠ 0) {r : Rst} : rab p (failR e r) = failS e (rab p r) := by
  unfold failR failS rab
  by_cases h : r.e = 0 <;> simp [h, he]
def manyR (p : List C) (most : Int) (r : Rst) : Rst := if most < oneV (rab p r) then failR 8 (rawR p 1 r) else rawR p 1 r
theorem manyR_ok {p : List C} {m : Int} {r : Rst} (h : ROk p r) : ROk p (manyR p m r) := by
  unfold manyR
  split
  · exact failR_ok (rawR_ok h)
  · exact rawR_ok h
theorem manyR_rab {p : List C} {m : Int} {r : Rst} (h : ROk p r) : rab p (manyR p m r) = manyS m (rab p r) := by
  unfold manyR manyS
  split
  · rw [failR_rab (by decide), rawR_rab h]
  · rw [rawR_rab h]
theorem rMany_eq (p : List C) (most : Int) (r : Rst) (h : ROk p r) (hN : 200 < N) (k : KD R) : ref01_In_Many_p N (.int most) (rfO p r) k = k [.int (manyV most (rab p r)), rfO p (manyR p most r)] [] := by
  rw [ref01_In_Many_pe]
  unfold ref01_In_Many_p0 manyV manyR
  rw [show C.int 1 = C.int ((1 : Nat) : Int) from rfl, rNumI_eq p 1 (by omega) r h hN, ← oneV]
  have g2 : ∀ r, (rfO p r).get 2 = .int r.e := fun _ => rfl
  have s2 : ∀ r, (rfO p r).set 2 (.int 8) = rfO p ⟨r.i, 8⟩ := fun _ => rfl
  simp only [dk_0, dk_1, c_int, i64_oneV (rab_ok h), g2, s2, jn_eq]
  by_cases h1 : most < oneV (rab p r)
  · by_cases h2 : (rawR p 1 r).e = 0 <;> simp [h1, h2, failR, dk_0]
  · simp [h1]
theorem rEnd_eq (p : List C) (r : Rst) (h : ROk p r) (k : KD R) : ∃ x, ref01_In_End_p N (rfO p r) k = k [.int (endE (rab p r)), x] [] := by
  have hi := h.hi
  have hl := h.hl
  rw [ref01_In_End_pe]
  unfold ref01_In_End_p0 endE
  rw [ref01_In_Left_pe]
  unfold ref01_In_Left_p0
  have g0 : ∀ r, (rfO p r).get 0 = .slice p := fun _ => rfl
  have g1 : ∀ r, (rfO p r).get 1 = .int r.i := fun _ => rfl
  have g2 : ∀ r, (rfO p r).get 2 = .int r.e := fun _ => rfl
  have s2 : ∀ r, (rfO p r).set 2 (.int 10) = rfO p ⟨r.i, 10⟩ := fun _ => rfl
  simp only [dk_0, dk_1, c_int, c_slice, g0, g1, g2, s2, jn_eq]
  have w1 : IntKind.i64.wrap ((p.length : Int) - (r.i : Int)) = p.length - r.i := wrap_i64 (by omega) (by omega)
  by_cases h1 : r.e = 0
  case neg => exact ⟨rfO p r, by simp [h1, rab, dk_0, dk_1, c_int, g2]⟩
  by_cases h2 : r.i < p.length
  · have h2' : (0 : Int) < p.length - r.i := by omega
    have h3 : ¬ p.length ≤ r.i := by omega
    exact ⟨rfO p ⟨r.i, 10⟩, by simp [h1, rab, dk_0, dk_1, c_int, g2, w1, h2, h2', h3]⟩
  · have h2' : ¬ (0 : Int) < p.length - r.i := by omega
    have h3 : p.length ≤ r.i := by omega
    exact ⟨rfO p r, by simp [h1, rab, dk_0, dk_1, c_int, g2, w1, h2, h2', h3]⟩
end Go.Proofs.Ytnjepbgenciklaa


namespace Go.Proofs.Ytnjepbgenciklaa
open Go Go.E
set_option maxRecDepth 100000
set_option maxHeartbeats 4000000
set_option linter.unusedVariables false
def memo_TakeTrail_as : List Sh := [.as (.ptr (.g (.l 1)) [] tIn2)]
def memo_TakeTrail_os : List (Key × OSh) := [(.l 1, .box (.d tIn2))]
noncomputable def memo_TakeTrail_hs : Hints := [([1, 0, 1, 1], ⟨[0], [(3, .sl 24 tHop 5003)], [.g (.l 1)], [], [], []⟩),
    ([4, 1, 0, 1, 1], ⟨[0, 6], [(3, .sl 24 tHop 5003), (7, .d (.int .i64))], [.g (.l 1)], [], [], []⟩),
    ([9], ⟨[], [(2, .sl 24 tHop 5002)], [.g (.l 1)], [], [], []⟩)]
noncomputable def memo_TakeTrail_ov (N : Nat) : OvS (X0 gl0) where
  g R := [(21, octet_In_Many_g N), (43, octet_In_Eight_g N), (45, octet_In_Bad_g N), (46, octet_In_Four_g N)]
  ok := fun R => List.forall_mem_cons.2 ⟨octet_In_Many_ok N, List.forall_mem_cons.2 ⟨octet_In_Eight_ok N, List.forall_mem_cons.2 ⟨octet_In_Bad_ok N, List.forall_mem_cons.2 ⟨octet_In_Four_ok N, fun _ h => nomatch h⟩⟩⟩⟩
noncomputable def memo_TakeTrail_l1 {R : Type} (N : Nat) (k2 : KD R) : KD R → List C → List Es → Option R := (fun k3 d2 m2 => (bif decide (C.toInt (dk d2 2) < C.toInt (dk d2 0)) then (octet_In_Four_p N (dk d2 3) (fun d3 m3 => (octet_In_Eight_p N (dk d3 1) (fun d4 m4 => (octet_In_Eight_p N (dk d4 1) (fun d5 m5 => (bif Nat.beq (List.length (C.elems (dk d2 1))) (List.length (C.elems (dk d2 1))) then (if (List.length (C.elems (dk d2 1)) + 1) * 24 ≤ 140737488355328 ∧ List.length (C.elems (dk d2 1)) + 1 ≤ 9223372036854775807 then (bif Nat.beq (List.length (C.elems (dk d2 1)) + 1) (List.length (C.elems (dk d2 1) ++ [C.set (C.set (C.set (C.agg [C.int 0, C.int 0, C.int 0]) 0 (dk d3 0)) 1 (dk d4 0)) 2 (dk d5 0)])) then (k3 [dk d2 0, C.slice (C.elems (dk d2 1) ++ [C.set (C.set (C.set (C.agg [C.int 0, C.int 0, C.int 0]) 0 (dk d3 0)) 1 (dk d4 0)) 2 (dk d5 0)]), C.int (IntKind.wrap IntKind.i64 (C.toInt (dk d2 2) + 1)), dk d5 1] []) else none) else none) else none))))))) else (bif Nat.beq (List.length (C.elems (dk d2 1))) (List.length (C.elems (dk d2 1))) then (k2 [C.slice (C.elems (dk d2 1)), dk d2 3] []) else none)))
noncomputable def memo_TakeTrail_p0 {R : Type} (N : Nat) (b0 : C) (k1 : KD R) : Option R := (octet_In_Many_p N (C.int 7) b0 (fun d1 m1 => (jn (fun d2 m2 => (octet_In_Bad_p N (dk d2 1) (fun d3 m3 => (bif !decide (C.toInt (dk d3 0) = 0) then (k1 [C.slice [], dk d3 1] []) else (bif Nat.beq (List.length (C.elems (dk d2 0))) (List.length (C.elems (dk d2 0))) then (k1 [C.slice (C.elems (dk d2 0)), dk d3 1] []) else none))))) (fun k2 => (loopK N (memo_TakeTrail_l1 N k2) [dk d1 0, C.slice [], C.int 0, dk d1 1] [])))))
noncomputable def memo_TakeTrail_p {R : Type} (N : Nat) : C → KD R → Option R := lid "memo_TakeTrail_p N" (memo_TakeTrail_p0 N)
theorem memo_TakeTrail_pe {R : Type} (N : Nat) (b0 : C) (k : KD R) : memo_TakeTrail_p N b0 k = memo_TakeTrail_p0 N b0 k := by unfold memo_TakeTrail_p; rw [lid_eq]
theorem memo_TakeTrail_run {R : Type} (N : Nat) (b0 : C) (K : V → List (Key × O) → Option R) : exF (X0 gl0) ((memo_TakeTrail_ov N).ov R) extX noX (fun f => bif Nat.beq f 23 then memo_TakeTrail_hs else []) N 400 8 23 (Sh.fills memo_TakeTrail_as 0 [b0]) (lookK (locFill memo_TakeTrail_os (Sh.manys memo_TakeTrail_as) 0 [b0] [])) K =
    memo_TakeTrail_p N b0 (fun d1 m1 => K (V.ts 24 tHop (C.elems (dk d1 0))) [(Key.g (Key.l 1), O.box (V.d tIn2 (dk d1 1)))]) := by
  rw [memo_TakeTrail_pe]
  exact (show _ = jn (fun d1 m1 => (bif Nat.beq (List.length (C.elems (dk d1 0))) (List.length (C.elems (dk d1 0))) then
    (K (V.ts 24 tHop (C.elems (dk d1 0))) [(Key.g (Key.l 1), O.box (V.d tIn2 (dk d1 1)))])
  else
    none)) (memo_TakeTrail_p0 N b0) by kernel_rfl).trans ((jn_eq _ _).trans (congrArg (memo_TakeTrail_p0 N b0) (funext fun _ => funext fun _ => by simp only [Nat.beq_refl, cond_true])))
noncomputable def memo_TakeTrail_g (N : Nat) {R : Type} : OvG R := ptrG memo_TakeTrail_as memo_TakeTrail_os fun ds ms K => memo_TakeTrail_p N (dk ds 0) (fun d1 m1 => K (V.ts 24 tHop (C.elems (dk d1 0))) [(Key.g (Key.l 1), O.box (V.d tIn2 (dk d1 1)))])
theorem memo_TakeTrail_ok (N : Nat) {R : Type} : GOk (X0 gl0) 23 (memo_TakeTrail_g N (R := R)) := by
  unfold memo_TakeTrail_g
  refine ptrG_ok fun ds ms K r hr => ?_
  rw [← memo_TakeTrail_run] at hr
  obtain ⟨v, L, h1, h2⟩ := exF_ok (ok0 gl0) (mo gl0) ((memo_TakeTrail_ov N).ov_ok _) (extX_ok gl0) _ _ _ _ _ _ hr
  exact ⟨v, L, h1, h2⟩
end Go.Proofs.Ytnjepbgenciklaa


namespace Go.Proofs.Ytnjepbgenciklaa
open Go Go.E
set_option maxRecDepth 100000
set_option maxHeartbeats 4000000
set_option linter.unusedVariables false
def ref18_TakeTrail_as : List Sh := [.as (.ptr (.g (.l 1)) [] tIn)]
def ref18_TakeTrail_os : List (Key × OSh) := [(.l 1, .box (.d tIn))]
noncomputable def ref18_TakeTrail_hs : Hints := [([1, 0, 1, 1, 1], ⟨[0], [(3, .sl 24 tHop 5003)], [.g (.l 1)], [], [], []⟩),
    ([4, 1, 0, 1, 1, 1], ⟨[0, 4], [(3, .sl 24 tHop 5003), (5, .d (.int .i64))], [.g (.l 1)], [], [], []⟩),
    ([9], ⟨[], [(2, .sl 24 tHop 5002)], [.g (.l 1)], [], [], []⟩)]
noncomputable def ref18_TakeTrail_ov (N : Nat) : OvS (X0 gl0) where
  g R := [(25, ref01_In_Many_g N), (48, ref01_In_Num_g N)]
  ok := fun R => List.forall_mem_cons.2 ⟨ref01_In_Many_ok N, List.forall_mem_cons.2 ⟨ref01_In_Num_ok N, fun _ h => nomatch h⟩⟩
noncomputable def ref18_TakeTrail_l1 {R : Type} (N : Nat) (k2 : KD R) : KD R → List C → List Es → Option R := (fun k3 d2 m2 => (bif decide (C.toInt (dk d2 2) < C.toInt (dk d2 0)) then (ref01_In_Num_p N (C.int 4) (dk d2 3) (fun d3 m3 => (ref01_In_Num_p N (C.int 8) (dk d3 1) (fun d4 m4 => (ref01_In_Num_p N (C.int 8) (dk d4 1) (fun d5 m5 => (bif Nat.beq (List.length (C.elems (dk d2 1))) (List.length (C.elems (dk d2 1))) then (if (List.length (C.elems (dk d2 1)) + 1) * 24 ≤ 140737488355328 ∧ List.length (C.elems (dk d2 1)) + 1 ≤ 9223372036854775807 then (bif Nat.beq (List.length (C.elems (dk d2 1)) + 1) (List.length (C.elems (dk d2 1) ++ [C.set (C.set (C.set (C.agg [C.int 0, C.int 0, C.int 0]) 0 (C.int (IntKind.wrap IntKind.u32 (C.toInt (dk d3 0))))) 1 (dk d4 0)) 2 (dk d5 0)])) then (k3 [dk d2 0, C.slice (C.elems (dk d2 1) ++ [C.set (C.set (C.set (C.agg [C.int 0, C.int 0, C.int 0]) 0 (C.int (IntKind.wrap IntKind.u32 (C.toInt (dk d3 0))))) 1 (dk d4 0)) 2 (dk d5 0)]), C.int (IntKind.wrap IntKind.i64 (C.toInt (dk d2 2) + 1)), dk d5 1] []) else none) else none) else none))))))) else (bif Nat.beq (List.length (C.elems (dk d2 1))) (List.length (C.elems (dk d2 1))) then (k2 [C.slice (C.elems (dk d2 1)), dk d2 3] []) else none)))
noncomputable def ref18_TakeTrail_p0 {R : Type} (N : Nat) (b0 : C) (k1 : KD R) : Option R := (ref01_In_Many_p N (C.int 7) b0 (fun d1 m1 => (jn (fun d2 m2 => (bif !decide (C.toInt (C.get (dk d2 1) 2) = 0) then (k1 [C.slice [], dk d2 1] []) else (bif Nat.beq (List.length (C.elems (dk d2 0))) (List.length (C.elems (dk d2 0))) then (k1 [C.slice (C.elems (dk d2 0)), dk d2 1] []) else none))) (fun k2 => (loopK N (ref18_TakeTrail_l1 N k2) [dk d1 0, C.slice [], C.int 0, dk d1 1] [])))))
noncomputable def ref18_TakeTrail_p {R : Type} (N : Nat) : C → KD R → Option R := lid "ref18_TakeTrail_p N" (ref18_TakeTrail_p0 N)
theorem ref18_TakeTrail_pe {R : Type} (N : Nat) (b0 : C) (k : KD R) : ref18_TakeTrail_p N b0 k = ref18_TakeTrail_p0 N b0 k := by unfold ref18_TakeTrail_p; rw [lid_eq]
theorem ref18_TakeTrail_run {R : Type} (N : Nat) (b0 : C) (K : V → List (Key × O) → Option R) : exF (X0 gl0) ((ref18_TakeTrail_ov N).ov R) extX noX (fun f => bif Nat.beq f 27 then ref18_TakeTrail_hs else []) N 400 8 27 (Sh.fills ref18_TakeTrail_as 0 [b0]) (lookK (locFill ref18_TakeTrail_os (Sh.manys ref18_TakeTrail_as) 0 [b0] [])) K =
    ref18_TakeTrail_p N b0 (fun d1 m1 => K (V.ts 24 tHop (C.elems (dk d1 0))) [(Key.g (Key.l 1), O.box (V.d tIn (dk d1 1)))]) := by
  rw [ref18_TakeTrail_pe]
  exact (show _ = jn (fun d1 m1 => (bif Nat.beq (List.length (C.elems (dk d1 0))) (List.length (C.elems (dk d1 0))) then
    (K (V.ts 24 tHop (C.elems (dk d1 0))) [(Key.g (Key.l 1), O.box (V.d tIn (dk d1 1)))])
  else
    none)) (ref18_TakeTrail_p0 N b0) by kernel_rfl).trans ((jn_eq _ _).trans (congrArg (ref18_TakeTrail_p0 N b0) (funext fun _ => funext fun _ => by simp only [Nat.beq_refl, cond_true])))
noncomputable def ref18_TakeTrail_g (N : Nat) {R : Type} : OvG R := ptrG ref18_TakeTrail_as ref18_TakeTrail_os fun ds ms K => ref18_TakeTrail_p N (dk ds 0) (fun d1 m1 => K (V.ts 24 tHop (C.elems (dk d1 0))) [(Key.g (Key.l 1), O.box (V.d tIn (dk d1 1)))])
theorem ref18_TakeTrail_ok (N : Nat) {R : Type} : GOk (X0 gl0) 27 (ref18_TakeTrail_g N (R := R)) := by
  unfold ref18_TakeTrail_g
  refine ptrG_ok fun ds ms K r hr => ?_
  rw [← ref18_TakeTrail_run] at hr
  obtain ⟨v, L, h1, h2⟩ := exF_ok (ok0 gl0) (mo gl0) ((ref18_TakeTrail_ov N).ov_ok _) (extX_ok gl0) _ _ _ _ _ _ hr
  exact ⟨v, L, h1, h2⟩
end Go.Proofs.Ytnjepbgenciklaa


namespace Go.Proofs.Ytnjepbgenciklaa
open Go Go.E
set_option maxRecDepth 100000
set_option maxHeartbeats 4000000
set_option linter.unusedVariables false
def deed_takeCond_as : List Sh := [.as (.ptr (.g (.l 1)) [] tIn2)]
def deed_takeCond_os : List (Key × OSh) := [(.l 1, .box (.d tIn2))]
noncomputable def deed_takeCond_hs : Hints := [([1, 0, 1, 1, 1, 1, 1, 1], ⟨[0, 2, 3], [], [.g (.l 1)], [], [], []⟩),
    ([9], ⟨[], [(2, .as (.ptr (.l 2) [] tCond))], [.g (.l 1)], [(.l 2, .box (.d tCond))], [], []⟩)]
noncomputable def deed_takeCond_ov (N : Nat) : OvS (X0 gl0) where
  g R := [(41, octet_In_One_g N), (42, octet_In_Fail_g N), (43, octet_In_Eight_g N), (61, octet_In_Sum_g N)]
  ok := fun R => List.forall_mem_cons.2 ⟨octet_In_One_ok N, List.forall_mem_cons.2 ⟨octet_In_Fail_ok N, List.forall_mem_cons.2 ⟨octet_In_Eight_ok N, List.forall_mem_cons.2 ⟨octet_In_Sum_ok N, fun _ h => nomatch h⟩⟩⟩⟩
noncomputable def deed_takeCond_p0 {R : Type} (N : Nat) (b0 : C) (k1 : KD R) : Option R := (octet_In_Eight_p N b0 (fun d1 m1 => (octet_In_One_p N (dk d1 1) (fun d2 m2 => (octet_In_Eight_p N (dk d2 1) (fun d3 m3 => (octet_In_Sum_p N (dk d3 1) (fun d4 m4 => (octet_In_Eight_p N (dk d4 1) (fun d5 m5 => (jn (fun d6 m6 => (k1 [dk d6 2, dk d6 0] [])) (fun k2 => (bif decide (1 < IntKind.wrap IntKind.i64 (C.toInt (dk d2 0))) then (octet_In_Fail_p N (C.int 10) (dk d5 1) (fun d6 m6 => (k2 [dk d6 0, C.agg [C.int 0, C.int 0, C.int 0, C.agg (List.replicate 32 (C.int 0)), C.int 0], C.set (C.set (C.set (C.set (C.set (C.agg [C.int 0, C.int 0, C.int 0, C.agg (List.replicate 32 (C.int 0)), C.int 0]) 0 (dk d1 0)) 1 (C.int (IntKind.wrap IntKind.i64 (C.toInt (dk d2 0))))) 2 (dk d3 0)) 3 (dk d4 0)) 4 (dk d5 0)] []))) else (k2 [dk d5 1, C.agg [C.int 0, C.int 0, C.int 0, C.agg (List.replicate 32 (C.int 0)), C.int 0], C.set (C.set (C.set (C.set (C.set (C.agg [C.int 0, C.int 0, C.int 0, C.agg (List.replicate 32 (C.int 0)), C.int 0]) 0 (dk d1 0)) 1 (C.int (IntKind.wrap IntKind.i64 (C.toInt (dk d2 0))))) 2 (dk d3 0)) 3 (dk d4 0)) 4 (dk d5 0)] []))))))))))))))
noncomputable def deed_takeCond_p {R : Type} (N : Nat) : C → KD R → Option R := lid "deed_takeCond_p N" (deed_takeCond_p0 N)
theorem deed_takeCond_pe {R : Type} (N : Nat) (b0 : C) (k : KD R) : deed_takeCond_p N b0 k = deed_takeCond_p0 N b0 k := by unfold deed_takeCond_p; rw [lid_eq]
theorem deed_takeCond_run {R : Type} (N : Nat) (b0 : C) (K : V → List (Key × O) → Option R) : exF (X0 gl0) ((deed_takeCond_ov N).ov R) extX noX (fun f => bif Nat.beq f 44 then deed_takeCond_hs else []) N 400 8 44 (Sh.fills deed_takeCond_as 0 [b0]) (lookK (locFill deed_takeCond_os (Sh.manys deed_takeCond_as) 0 [b0] [])) K =
    deed_takeCond_p N b0 (fun d1 m1 => K (V.d tCond (dk d1 0)) [(Key.g (Key.l 1), O.box (V.d tIn2 (dk d1 1)))]) := by
  rw [deed_takeCond_pe]
  exact (show _ = jn (fun d1 m1 => (K (V.d tCond (dk d1 0)) [(Key.g (Key.l 1), O.box (V.d tIn2 (dk d1 1)))])) (deed_takeCond_p0 N b0) by kernel_rfl).trans (jn_eq _ _)
noncomputable def deed_takeCond_g (N : Nat) {R : Type} : OvG R := ptrG deed_takeCond_as deed_takeCond_os fun ds ms K => deed_takeCond_p N (dk ds 0) (fun d1 m1 => K (V.d tCond (dk d1 0)) [(Key.g (Key.l 1), O.box (V.d tIn2 (dk d1 1)))])
theorem deed_takeCond_ok (N : Nat) {R : Type} : GOk (X0 gl0) 44 (deed_takeCond_g N (R := R)) := by
  unfold deed_takeCond_g
  refine ptrG_ok fun ds ms K r hr => ?_
  rw [← deed_takeCond_run] at hr
  obtain ⟨v, L, h1, h2⟩ := exF_ok (ok0 gl0) (mo gl0) ((deed_takeCond_ov N).ov_ok _) (extX_ok gl0) _ _ _ _ _ _ hr
  exact ⟨v, L, h1, h2⟩
end Go.Proofs.Ytnjepbgenciklaa


namespace Go.Proofs.Ytnjepbgenciklaa
open Go Go.E
set_option maxRecDepth 100000
set_option maxHeartbeats 4000000
set_option linter.unusedVariables false
def deed_TakeOp_as : List Sh := [.as (.ptr (.g (.l 1)) [] tIn2)]
def deed_TakeOp_os : List (Key × OSh) := [(.l 1, .box (.d tIn2))]
noncomputable def deed_TakeOp_hs : Hints := [([9], ⟨[], [(2, .as (.ptr (.l 2) [] tOp))], [.g (.l 1)], [(.l 2, .box (.d tOp))], [], []⟩)]
noncomputable def deed_TakeOp_ov (N : Nat) : OvS (X0 gl0) where
  g R := [(41, octet_In_One_g N), (43, octet_In_Eight_g N), (44, deed_takeCond_g N), (45, octet_In_Bad_g N)]
  ok := fun R => List.forall_mem_cons.2 ⟨octet_In_One_ok N, List.forall_mem_cons.2 ⟨octet_In_Eight_ok N, List.forall_mem_cons.2 ⟨deed_takeCond_ok N, List.forall_mem_cons.2 ⟨octet_In_Bad_ok N, fun _ h => nomatch h⟩⟩⟩⟩
noncomputable def deed_TakeOp_p0 {R : Type} (N : Nat) (b0 : C) (k1 : KD R) : Option R := (octet_In_One_p N b0 (fun d1 m1 => (octet_In_Eight_p N (dk d1 1) (fun d2 m2 => (octet_In_Eight_p N (dk d2 1) (fun d3 m3 => (deed_takeCond_p N (dk d3 1) (fun d4 m4 => (octet_In_Bad_p N (dk d4 1) (fun d5 m5 => (bif !decide (C.toInt (dk d5 0) = 0) then (k1 [C.agg [C.int 0, C.int 0, C.agg [C.int 0, C.int 0, C.int 0, C.agg (List.replicate 32 (C.int 0)), C.int 0], C.int 0], dk d5 1] []) else (k1 [C.set (C.set (C.set (C.set (C.agg [C.int 0, C.int 0, C.agg [C.int 0, C.int 0, C.int 0, C.agg (List.replicate 32 (C.int 0)), C.int 0], C.int 0]) 0 (C.int (IntKind.wrap IntKind.i64 (C.toInt (dk d1 0))))) 1 (dk d2 0)) 3 (dk d3 0)) 2 (dk d4 0), dk d5 1] []))))))))))))
noncomputable def deed_TakeOp_p {R : Type} (N : Nat) : C → KD R → Option R := lid "deed_TakeOp_p N" (deed_TakeOp_p0 N)
theorem deed_TakeOp_pe {R : Type} (N : Nat) (b0 : C) (k : KD R) : deed_TakeOp_p N b0 k = deed_TakeOp_p0 N b0 k := by unfold deed_TakeOp_p; rw [lid_eq]
theorem deed_TakeOp_run {R : Type} (N : Nat) (b0 : C) (K : V → List (Key × O) → Option R) : exF (X0 gl0) ((deed_TakeOp_ov N).ov R) extX noX (fun f => bif Nat.beq f 22 then deed_TakeOp_hs else []) N 400 8 22 (Sh.fills deed_TakeOp_as 0 [b0]) (lookK (locFill deed_TakeOp_os (Sh.manys deed_TakeOp_as) 0 [b0] [])) K =
    deed_TakeOp_p N b0 (fun d1 m1 => K (V.d tOp (dk d1 0)) [(Key.g (Key.l 1), O.box (V.d tIn2 (dk d1 1)))]) := by
  rw [deed_TakeOp_pe]
  exact (show _ = jn (fun d1 m1 => (K (V.d tOp (dk d1 0)) [(Key.g (Key.l 1), O.box (V.d tIn2 (dk d1 1)))])) (deed_TakeOp_p0 N b0) by kernel_rfl).trans (jn_eq _ _)
noncomputable def deed_TakeOp_g (N : Nat) {R : Type} : OvG R := ptrG deed_TakeOp_as deed_TakeOp_os fun ds ms K => deed_TakeOp_p N (dk ds 0) (fun d1 m1 => K (V.d tOp (dk d1 0)) [(Key.g (Key.l 1), O.box (V.d tIn2 (dk d1 1)))])
theorem deed_TakeOp_ok (N : Nat) {R : Type} : GOk (X0 gl0) 22 (deed_TakeOp_g N (R := R)) := by
  unfold deed_TakeOp_g
  refine ptrG_ok fun ds ms K r hr => ?_
  rw [← deed_TakeOp_run] at hr
  obtain ⟨v, L, h1, h2⟩ := exF_ok (ok0 gl0) (mo gl0) ((deed_TakeOp_ov N).ov_ok _) (extX_ok gl0) _ _ _ _ _ _ hr
  exact ⟨v, L, h1, h2⟩
end Go.Proofs.Ytnjepbgenciklaa


namespace Go.Proofs.Ytnjepbgenciklaa
open Go Go.E
set_option maxRecDepth 100000
set_option maxHeartbeats 4000000
set_option linter.unusedVariables false
def ref13_TakeCond_as : List Sh := [.as (.ptr (.g (.l 1)) [] tIn)]
def ref13_TakeCond_os : List (Key × OSh) := [(.l 1, .box (.d tIn))]
noncomputable def ref13_TakeCond_hs : Hints := [([0, 0, 1, 1, 1, 1, 1, 1, 1], ⟨[0, 2, 3], [(29, .d .bool)], [.g (.l 1)], [], [], []⟩),
    ([1, 0, 1, 1, 1, 1, 1, 1, 1], ⟨[0, 2, 3], [], [.g (.l 1)], [], [], []⟩),
    ([9], ⟨[], [(2, .as (.ptr (.l 2) [] tCond))], [.g (.l 1)], [(.l 2, .box (.d tCond))], [], []⟩)]
noncomputable def ref13_TakeCond_ov (N : Nat) : OvS (X0 gl0) where
  g R := [(48, ref01_In_Num_g N), (63, ref01_In_Sum_g N)]
  ok := fun R => List.forall_mem_cons.2 ⟨ref01_In_Num_ok N, List.forall_mem_cons.2 ⟨ref01_In_Sum_ok N, fun _ h => nomatch h⟩⟩
noncomputable def ref13_TakeCond_p0 {R : Type} (N : Nat) (b0 : C) (k1 : KD R) : Option R := (ref01_In_Num_p N (C.int 8) b0 (fun d1 m1 => (ref01_In_Num_p N (C.int 1) (dk d1 1) (fun d2 m2 => (ref01_In_Num_p N (C.int 8) (dk d2 1) (fun d3 m3 => (ref01_In_Sum_p N (dk d3 1) (fun d4 m4 => (ref01_In_Num_p N (C.int 8) (dk d4 1) (fun d5 m5 => (jn (fun d6 m6 => (jn (fun d7 m7 => (k1 [dk d7 2, dk d7 0] [])) (fun k2 => (bif C.toBool (dk d6 0) then (k2 [C.set (dk d6 1) 2 (C.int 10), dk d6 2, dk d6 3] []) else (k2 [dk d6 1, dk d6 2, dk d6 3] []))))) (fun k2 => (bif decide (1 < IntKind.wrap IntKind.i64 (C.toInt (dk d2 0))) then (k2 [C.bool (decide (C.toInt (C.get (dk d5 1) 2) = 0)), dk d5 1, C.agg [C.int 0, C.int 0, C.int 0, C.agg (List.replicate 32 (C.int 0)), C.int 0], C.set (C.set (C.set (C.set (C.set (C.agg [C.int 0, C.int 0, C.int 0, C.agg (List.replicate 32 (C.int 0)), C.int 0]) 0 (dk d1 0)) 1 (C.int (IntKind.wrap IntKind.i64 (C.toInt (dk d2 0))))) 2 (dk d3 0)) 3 (dk d4 0)) 4 (dk d5 0)] []) else (k2 [C.bool false, dk d5 1, C.agg [C.int 0, C.int 0, C.int 0, C.agg (List.replicate 32 (C.int 0)), C.int 0], C.set (C.set (C.set (C.set (C.set (C.agg [C.int 0, C.int 0, C.int 0, C.agg (List.replicate 32 (C.int 0)), C.int 0]) 0 (dk d1 0)) 1 (C.int (IntKind.wrap IntKind.i64 (C.toInt (dk d2 0))))) 2 (dk d3 0)) 3 (dk d4 0)) 4 (dk d5 0)] []))))))))))))))
noncomputable def ref13_TakeCond_p {R : Type} (N : Nat) : C → KD R → Option R := lid "ref13_TakeCond_p N" (ref13_TakeCond_p0 N)
theorem ref13_TakeCond_pe {R : Type} (N : Nat) (b0 : C) (k : KD R) : ref13_TakeCond_p N b0 k = ref13_TakeCond_p0 N b0 k := by unfold ref13_TakeCond_p; rw [lid_eq]
theorem ref13_TakeCond_run {R : Type} (N : Nat) (b0 : C) (K : V → List (Key × O) → Option R) : exF (X0 gl0) ((ref13_TakeCond_ov N).ov R) extX noX (fun f => bif Nat.beq f 49 then ref13_TakeCond_hs else []) N 400 8 49 (Sh.fills ref13_TakeCond_as 0 [b0]) (lookK (locFill ref13_TakeCond_os (Sh.manys ref13_TakeCond_as) 0 [b0] [])) K =
    ref13_TakeCond_p N b0 (fun d1 m1 => K (V.d tCond (dk d1 0)) [(Key.g (Key.l 1), O.box (V.d tIn (dk d1 1)))]) := by
  rw [ref13_TakeCond_pe]
  exact (show _ = jn (fun d1 m1 => (K (V.d tCond (dk d1 0)) [(Key.g (Key.l 1), O.box (V.d tIn (dk d1 1)))])) (ref13_TakeCond_p0 N b0) by kernel_rfl).trans (jn_eq _ _)
noncomputable def ref13_TakeCond_g (N : Nat) {R : Type} : OvG R := ptrG ref13_TakeCond_as ref13_TakeCond_os fun ds ms K => ref13_TakeCond_p N (dk ds 0) (fun d1 m1 => K (V.d tCond (dk d1 0)) [(Key.g (Key.l 1), O.box (V.d tIn (dk d1 1)))])
theorem ref13_TakeCond_ok (N : Nat) {R : Type} : GOk (X0 gl0) 49 (ref13_TakeCond_g N (R := R)) := by
  unfold ref13_TakeCond_g
  refine ptrG_ok fun ds ms K r hr => ?_
  rw [← ref13_TakeCond_run] at hr
  obtain ⟨v, L, h1, h2⟩ := exF_ok (ok0 gl0) (mo gl0) ((ref13_TakeCond_ov N).ov_ok _) (extX_ok gl0) _ _ _ _ _ _ hr
  exact ⟨v, L, h1, h2⟩
end Go.Proofs.Ytnjepbgenciklaa


namespace Go.Proofs.Ytnjepbgenciklaa
open Go Go.E
set_option maxRecDepth 100000
set_option maxHeartbeats 4000000
set_option linter.unusedVariables false
def ref13_TakeOp_as : List Sh := [.as (.ptr (.g (.l 1)) [] tIn)]
def ref13_TakeOp_os : List (Key × OSh) := [(.l 1, .box (.d tIn))]
noncomputable def ref13_TakeOp_hs : Hints := [([9], ⟨[], [(2, .as (.ptr (.l 2) [] tOp))], [.g (.l 1)], [(.l 2, .box (.d tOp))], [], []⟩)]
noncomputable def ref13_TakeOp_ov (N : Nat) : OvS (X0 gl0) where
  g R := [(48, ref01_In_Num_g N), (49, ref13_TakeCond_g N)]
  ok := fun R => List.forall_mem_cons.2 ⟨ref01_In_Num_ok N, List.forall_mem_cons.2 ⟨ref13_TakeCond_ok N, fun _ h => nomatch h⟩⟩
noncomputable def ref13_TakeOp_p0 {R : Type} (N : Nat) (b0 : C) (k1 : KD R) : Option R := (ref01_In_Num_p N (C.int 1) b0 (fun d1 m1 => (ref01_In_Num_p N (C.int 8) (dk d1 1) (fun d2 m2 => (ref01_In_Num_p N (C.int 8) (dk d2 1) (fun d3 m3 => (ref13_TakeCond_p N (dk d3 1) (fun d4 m4 => (bif !decide (C.toInt (C.get (dk d4 1) 2) = 0) then (k1 [C.agg [C.int 0, C.int 0, C.agg [C.int 0, C.int 0, C.int 0, C.agg (List.replicate 32 (C.int 0)), C.int 0], C.int 0], dk d4 1] []) else (k1 [C.set (C.set (C.set (C.set (C.agg [C.int 0, C.int 0, C.agg [C.int 0, C.int 0, C.int 0, C.agg (List.replicate 32 (C.int 0)), C.int 0], C.int 0]) 0 (C.int (IntKind.wrap IntKind.i64 (C.toInt (dk d1 0))))) 1 (dk d2 0)) 3 (dk d3 0)) 2 (dk d4 0), dk d4 1] []))))))))))
noncomputable def ref13_TakeOp_p {R : Type} (N : Nat) : C → KD R → Option R := lid "ref13_TakeOp_p N" (ref13_TakeOp_p0 N)
theorem ref13_TakeOp_pe {R : Type} (N : Nat) (b0 : C) (k : KD R) : ref13_TakeOp_p N b0 k = ref13_TakeOp_p0 N b0 k := by unfold ref13_TakeOp_p; rw [lid_eq]
theorem ref13_TakeOp_run {R : Type} (N : Nat) (b0 : C) (K : V → List (Key × O) → Option R) : exF (X0 gl0) ((ref13_TakeOp_ov N).ov R) extX noX (fun f => bif Nat.beq f 26 then ref13_TakeOp_hs else []) N 400 8 26 (Sh.fills ref13_TakeOp_as 0 [b0]) (lookK (locFill ref13_TakeOp_os (Sh.manys ref13_TakeOp_as) 0 [b0] [])) K =
    ref13_TakeOp_p N b0 (fun d1 m1 => K (V.d tOp (dk d1 0)) [(Key.g (Key.l 1), O.box (V.d tIn (dk d1 1)))]) := by
  rw [ref13_TakeOp_pe]
  exact (show _ = jn (fun d1 m1 => (K (V.d tOp (dk d1 0)) [(Key.g (Key.l 1), O.box (V.d tIn (dk d1 1)))])) (ref13_TakeOp_p0 N b0) by kernel_rfl).trans (jn_eq _ _)
noncomputable def ref13_TakeOp_g (N : Nat) {R : Type} : OvG R := ptrG ref13_TakeOp_as ref13_TakeOp_os fun ds ms K => ref13_TakeOp_p N (dk ds 0) (fun d1 m1 => K (V.d tOp (dk d1 0)) [(Key.g (Key.l 1), O.box (V.d tIn (dk d1 1)))])
theorem ref13_TakeOp_ok (N : Nat) {R : Type} : GOk (X0 gl0) 26 (ref13_TakeOp_g N (R := R)) := by
  unfold ref13_TakeOp_g
  refine ptrG_ok fun ds ms K r hr => ?_
  rw [← ref13_TakeOp_run] at hr
  obtain ⟨v, L, h1, h2⟩ := exF_ok (ok0 gl0) (mo gl0) ((ref13_TakeOp_ov N).ov_ok _) (extX_ok gl0) _ _ _ _ _ _ hr
  exact ⟨v, L, h1, h2⟩
end Go.Proofs.Ytnjepbgenciklaa


namespace Go.Proofs.Ytnjepbgenciklaa
open Go Go.E
set_option maxRecDepth 100000
set_option maxHeartbeats 4000000
set_option linter.unusedSimpArgs false
variable {R : Type} {N : Nat}
def tcS5 (s : Rdr) : Rdr := cutS 8 (cutS 32 (cutS 8 (cutS 1 (cutS 8 s))))
def tcBy (s : Rdr) : Int := oneV (cutS 8 s)
def tcV (s : Rdr) : C := .agg [.int (numV (cutB 8 s)), .int (tcBy s), .int (numV (cutB 8 (cutS 1 (cutS 8 s)))), digV (cutB 32 (cutS 8 (cutS 1 (cutS 8 s)))), .int (numV (cutB 8 (cutS 32 (cutS 8 (cutS 1 (cutS 8 s))))))]
def tcS (s : Rdr) : Rdr := if 1 < tcBy s then failS 10 (tcS5 s) else tcS5 s
theorem tcS5_ok {s : Rdr} (h : BytesOk s.l) : BytesOk (tcS5 s).l := cutS_ok (cutS_ok (cutS_ok (cutS_ok (cutS_ok h))))
theorem tcS_ok {s : Rdr} (h : BytesOk s.l) : BytesOk (tcS s).l := by
  unfold tcS
  split
  · exact failS_ok (tcS5_ok h)
  · exact tcS5_ok h
theorem takeCond_eq (s : Rdr) (hb : BytesOk s.l) (hN : 200 < N) (k : KD R) : deed_takeCond_p N (inO s) k = k [tcV s, inO (tcS s)] [] := by
  rw [deed_takeCond_pe]
  unfold deed_takeCond_p0
  rw [in_Eight_eq s hb hN]
  simp only [dk_0, dk_1]
  rw [in_One_eq _ (cutS_ok hb) hN]
  simp only [dk_0, dk_1]
  rw [in_Eight_eq _ (cutS_ok (cutS_ok hb)) hN]
  simp only [dk_0, dk_1, in_Sum_eq]
  rw [in_Eight_eq _ (cutS_ok (cutS_ok (cutS_ok (cutS_ok hb)))) hN]
  simp only [dk_0, dk_1, c_int, i64_oneV (cutS_ok hb), jn_eq]
  by_cases h : 1 < oneV (cutS 8 s)
  · simp only [h, decide_true, cond_true]
    rw [in_Fail_eq 10 (by decide)]
    simp only [dk_0, dk_2, tcS, tcBy, h, if_true]
    rfl
  · simp only [h, decide_false, cond_false, dk_0, dk_2, tcS, tcBy, if_false]
    rfl
theorem rTakeCond_eq (p : List C) (r : Rst) (h : ROk p r) (hN : 200 < N) : ∃ r', ROk p r' ∧ rab p r' = tcS (rab p r) ∧ ∀ k : KD R, ref13_TakeCond_p N (rfO p r) k = k [tcV (rab p r), rfO p r'] [] := by
  have e8 : C.int 8 = C.int ((8 : Nat) : Int) := rfl
  have e1 : C.int 1 = C.int ((1 : Nat) : Int) := rfl
  have o1 := rawR_ok (n := 8) h
  have o2 := rawR_ok (n := 1) o1
  have o3 := rawR_ok (n := 8) o2
  have o4 := rawR_ok (n := 32) o3
  have o5 := rawR_ok (n := 8) o4
  have a1 := rawR_rab (n := 8) h
  have a2 := rawR_rab (n := 1) o1
  have a3 := rawR_rab (n := 8) o2
  have a4 := rawR_rab (n := 32) o3
  have a5 := rawR_rab (n := 8) o4
  rw [a1] at a2
  rw [a2] at a3
  rw [a3] at a4
  rw [a4] at a5
  refine ⟨if 1 < tcBy (rab p r) then failR 10 (rawR p 8 (rawR p 32 (rawR p 8 (rawR p 1 (rawR p 8 r))))) else rawR p 8 (rawR p 32 (rawR p 8 (rawR p 1 (rawR p 8 r)))), ?_, ?_, fun k => ?_⟩
  · split
    · exact failR_ok o5
    · exact o5
  · unfold tcS
    split
    · rw [failR_rab (by decide), a5]; rfl
    · rw [a5]; rfl
  · rw [ref13_TakeCond_pe]
    unfold ref13_TakeCond_p0
    rw [e8, e1, rNumI_eq p 8 (by omega) r h hN]
    simp only [dk_0, dk_1]
    rw [rNumI_eq p 1 (by omega) _ o1 hN]
    simp only [dk_0, dk_1]
    rw [rNumI_eq p 8 (by omega) _ o2 hN]
    simp only [dk_0, dk_1]
    rw [rSumI_eq p _ o3 hN]
    simp only [dk_0, dk_1]
    rw [rNumI_eq p 8 (by omega) _ o4 hN]
    have hby : IntKind.i64.wrap (numV (cutB 1 (cutS 8 (rab p r)))) = oneV (cutS 8 (rab p r)) := i64_oneV (cutS_ok (rab_ok h))
    have g2 : ∀ r, (rfO p r).get 2 = .int r.e := fun _ => rfl
    have s2 : ∀ r, (rfO p r).set 2 (.int 10) = rfO p ⟨r.i, 10⟩ := fun _ => rfl
    simp only [dk_0, dk_1, dk_2, dk_3, c_int, c_bool, hby, jn_eq, g2, s2, a1, a2, a3, a4, tcBy]
    generalize hr5 : rawR p 8 (rawR p 32 (rawR p 8 (rawR p 1 (rawR p 8 r)))) = r5
    by_cases hy : 1 < oneV (cutS 8 (rab p r))
    · by_cases he : r5.e = 0
      · simp only [hy, he, decide_true, cond_true, c_bool, dk_0, dk_1, dk_2, dk_3, if_true, failR]
        rfl
      · simp only [hy, he, decide_true, decide_false, cond_true, cond_false, c_bool, dk_0, dk_1, dk_2, dk_3, if_true, if_false, failR]
        rfl
    · simp only [hy, decide_false, cond_false, c_bool, dk_0, dk_1, dk_2, dk_3, if_false]
      rfl
def zOp : C := .agg [.int 0, .int 0, .agg [.int 0, .int 0, .int 0, .agg (List.replicate 32 (.int 0)), .int 0], .int 0]
def toS (s : Rdr) : Rdr := tcS (cutS 8 (cutS 8 (cutS 1 s)))
def toV (s : Rdr) : C := if (toS s).e = 0 then .agg [.int (oneV s), .int (numV (cutB 8 (cutS 1 s))), tcV (cutS 8 (cutS 8 (cutS 1 s))), .int (numV (cutB 8 (cutS 8 (cutS 1 s))))] else zOp
theorem toS_ok {s : Rdr} (h : BytesOk s.l) : BytesOk (toS s).l := tcS_ok (cutS_ok (cutS_ok (cutS_ok h)))
theorem TakeOp_eq (s : Rdr) (hb : BytesOk s.l) (hN : 200 < N) (k : KD R) : deed_TakeOp_p N (inO s) k = k [toV s, inO (toS s)] [] := by
  rw [deed_TakeOp_pe]
  unfold deed_TakeOp_p0 toV
  rw [in_One_eq s hb hN]
  simp only [dk_0, dk_1]
  rw [in_Eight_eq _ (cutS_ok hb) hN]
  simp only [dk_0, dk_1]
  rw [in_Eight_eq _ (cutS_ok (cutS_ok hb)) hN]
  simp only [dk_0, dk_1]
  rw [takeCond_eq _ (cutS_ok (cutS_ok (cutS_ok hb))) hN]
  simp only [dk_0, dk_1, c_int, in_Bad_eq, i64_oneV hb]
  rw [← toS]
  by_cases h : (toS s).e = 0
  · simp only [h, decide_true, Bool.not_true, cond_false, if_true]
    rfl
  · simp only [h, decide_false, Bool.not_false, cond_true, if_false]
    rfl
theorem rTakeOp_eq (p : List C) (r : Rst) (h : ROk p r) (hN : 200 < N) : ∃ r', ROk p r' ∧ rab p r' = toS (rab p r) ∧ ∀ k : KD R, ref13_TakeOp_p N (rfO p r) k = k [toV (rab p r), rfO p r'] [] := by
  have e8 : C.int 8 = C.int ((8 : Nat) : Int) := rfl
  have e1 : C.int 1 = C.int ((1 : Nat) : Int) := rfl
  have o1 := rawR_ok (n := 1) h
  have o2 := rawR_ok (n := 8) o1
  have o3 := rawR_ok (n := 8) o2
  have a1 := rawR_rab (n := 1) h
  have a2 := rawR_rab (n := 8) o1
  have a3 := rawR_rab (n := 8) o2
  rw [a1] at a2
  rw [a2] at a3
  obtain ⟨r', q1, q2, q3⟩ := rTakeCond_eq (R := R) p _ o3 hN
  rw [a3] at q2 q3
  refine ⟨r', q1, q2, fun k => ?_⟩
  rw [ref13_TakeOp_pe]
  unfold ref13_TakeOp_p0 toV
  rw [e8, e1, rNumI_eq p 1 (by omega) r h hN]
  simp only [dk_0, dk_1]
  rw [rNumI_eq p 8 (by omega) _ o1 hN]
  simp only [dk_0, dk_1]
  rw [rNumI_eq p 8 (by omega) _ o2 hN]
  have g2 : ∀ r, (rfO p r).get 2 = .int r.e := fun _ => rfl
  have hr' : r'.e = (toS (rab p r)).e := by
    have := congrArg Rdr.e q2
    exact this
  have hby : IntKind.i64.wrap (numV (cutB 1 (rab p r))) = oneV (rab p r) := i64_oneV (rab_ok h)
  simp only [dk_0, dk_1, c_int, q3, g2, hr', hby, a1, a2]
  by_cases he : (toS (rab p r)).e = 0
  · simp only [he, decide_true, Bool.not_true, cond_false, if_true]
    rfl
  · simp only [he, decide_false, Bool.not_false, cond_true, if_false]
    rfl
def hopS (s : Rdr) : Rdr := cutS 8 (cutS 8 (cutS 4 s))
def hopV (s : Rdr) : C := .agg [.int (IntKind.u32.wrap (numV (cutB 4 s))), .int (numV (cutB 8 (cutS 4 s))), .int (numV (cutB 8 (cutS 8 (cutS 4 s))))]
def hopF (x : List C × Rdr) : List C × Rdr := (x.1 ++ [hopV x.2], hopS x.2)
def hopsF (s : Rdr) : List C × Rdr := iter hopF (manyV 7 s).toNat ([], manyS 7 s)
def trailV (s : Rdr) : List C := if (hopsF s).2.e = 0 then (hopsF s).1 else []
theorem TakeTrail_eq (s : Rdr) (hb : BytesOk s.l) (hN : 200 < N) (k : KD R) : memo_TakeTrail_p N (inO s) k = k [.slice (trailV s), inO (hopsF s).2] [] := by
  rw [memo_TakeTrail_pe]
  unfold memo_TakeTrail_p0
  rw [in_Many_eq 7 s hb hN]
  simp only [dk_0, dk_1, jn_eq]
  obtain ⟨n, hn⟩ := Int.eq_ofNat_of_zero_le (manyV_le (m := 7) (by omega) hb).1
  have hn7 := (manyV_le (m := 7) (by omega) hb).2
  have hms : BytesOk (manyS 7 s).l := manyS_ok hb
  have hF : hopsF s = iter hopF n ([], manyS 7 s) := by unfold hopsF; rw [hn]; rfl
  rw [hn]
  have key := loopK_rel (R := R) (F := memo_TakeTrail_l1 N fun d2 m2 => octet_In_Bad_p N (dk d2 1) fun d3 m3 =>
        (bif !decide (C.toInt (dk d3 0) = 0) then
          (k [C.slice [], dk d3 1] [])
        else
          (bif Nat.beq (List.length (C.elems (dk d2 0))) (List.length (C.elems (dk d2 0))) then
            (k [C.slice (C.elems (dk d2 0)), dk d3 1] [])
          else
            none)))
    (fun i (x : List C × Rdr) => [.int n, .slice x.1, .int i, inO x.2]) n (fun i x => x.1.length = i ∧ BytesOk x.2.l) id hopF (fun x => k [.slice (if x.2.e = 0 then x.1 else []), inO x.2] []) ?_ ?_ (N := N) (by omega) ([], manyS 7 s) ⟨rfl, hms⟩
  · obtain ⟨x, h1, h2, h3⟩ := key
    simp only [id] at h2
    rw [← hF] at h2
    subst h2
    exact h3
  · rintro i ⟨out, q⟩ hi ⟨hl, hq⟩
    dsimp only at hl hq
    refine ⟨hopF (out, q), ⟨by simp [hopF, hl], cutS_ok (cutS_ok (cutS_ok hq))⟩, rfl, fun rec => ?_⟩
    have c1 : (i : Int) < (n : Int) := by omega
    unfold memo_TakeTrail_l1
    simp only [dk_0, dk_1, dk_2, dk_3, c_int, c_slice, c1, decide_true, cond_true]
    rw [in_Four_eq q hq hN]
    simp only [dk_0, dk_1]
    rw [in_Eight_eq _ (cutS_ok hq) hN]
    simp only [dk_0, dk_1]
    rw [in_Eight_eq _ (cutS_ok (cutS_ok hq)) hN]
    simp only [dk_0, dk_1, Nat.beq_refl, cond_true, List.length_append, List.length_cons, List.length_nil, Nat.zero_add, wrap_succ (show i < 4611686018427387904 by omega)]
    rw [if_pos (by omega)]
    rfl
  · rintro ⟨out, q⟩ ⟨hl, hq⟩ rec
    unfold memo_TakeTrail_l1
    simp only [dk_0, dk_1, dk_2, dk_3, c_int, c_slice, Int.lt_irrefl, decide_false, cond_false, in_Bad_eq, Nat.beq_refl, cond_true]
    by_cases he : q.e = 0
    · simp only [he, decide_true, Bool.not_true, cond_false, if_true]
    · simp only [he, decide_false, Bool.not_false, cond_true, if_false]
theorem hopsF_ok {s : Rdr} (hb : BytesOk s.l) : BytesOk (hopsF s).2.l := by
  have key : ∀ (n : Nat) (x : List C × Rdr), BytesOk x.2.l → BytesOk (iter hopF n x).2.l := by
    intro n
    induction n with
    | zero => intro x h; exact h
    | succ n ih => intro x h; exact ih _ (cutS_ok (cutS_ok (cutS_ok h)))
  exact key _ _ (manyS_ok hb)
def rhopF (p : List C) (x : List C × Rst) : List C × Rst := (x.1 ++ [hopV (rab p x.2)], rawR p 8 (rawR p 8 (rawR p 4 x.2)))
theorem rhopF_rab {p : List C} {x : List C × Rst} (h : ROk p x.2) : ROk p (rhopF p x).2 ∧ ((rhopF p x).1, rab p (rhopF p x).2) = hopF (x.1, rab p x.2) := by
  have o1 := rawR_ok (n := 4) h
  have o2 := rawR_ok (n := 8) o1
  have o3 := rawR_ok (n := 8) o2
  have a1 := rawR_rab (n := 4) h
  have a2 := rawR_rab (n := 8) o1
  have a3 := rawR_rab (n := 8) o2
  rw [a1] at a2
  rw [a2] at a3
  refine ⟨o3, ?_⟩
  dsimp only [rhopF, hopF]
  rw [a3]; rfl
theorem rhopsF_rab {p : List C} : ∀ (n : Nat) {x : List C × Rst}, ROk p x.2 → ROk p (iter (rhopF p) n x).2 ∧ ((iter (rhopF p) n x).1, rab p (iter (rhopF p) n x).2) = iter hopF n (x.1, rab p x.2)
  | 0, x, h => ⟨h, rfl⟩
  | n + 1, x, h => by
    obtain ⟨h1, h2⟩ := rhopF_rab h
    obtain ⟨h3, h4⟩ := rhopsF_rab n h1
    exact ⟨h3, by rw [h2] at h4; exact h4⟩
theorem rTakeTrail_all (p : List C) (r : Rst) (h : ROk p r) (hN : 200 < N) : ∃ r', ROk p r' ∧ rab p r' = (hopsF (rab p r)).2 ∧ ∀ k : KD R, ref18_TakeTrail_p N (rfO p r) k = k [.slice (trailV (rab p r)), rfO p r'] [] := by
  have e8 : C.int 8 = C.int ((8 : Nat) : Int) := rfl
  have e4 : C.int 4 = C.int ((4 : Nat) : Int) := rfl
  have g2 : ∀ r, (rfO p r).get 2 = .int r.e := fun _ => rfl
  obtain ⟨n, hn⟩ := Int.eq_ofNat_of_zero_le (manyV_le (m := 7) (by omega) (rab_ok h)).1
  have hn7 := (manyV_le (m := 7) (by omega) (rab_ok h)).2
  have hF : hopsF (rab p r) = iter hopF n ([], manyS 7 (rab p r)) := by unfold hopsF; rw [hn]; rfl
  have hR := rhopsF_rab (p := p) n (x := ([], manyR p 7 r)) (manyR_ok h)
  rw [manyR_rab h, ← hF] at hR
  refine ⟨(iter (rhopF p) n ([], manyR p 7 r)).2, hR.1, congrArg Prod.snd hR.2, fun k => ?_⟩
  have key := loopK_rel (R := R) (F := ref18_TakeTrail_l1 N fun d2 m2 =>
      (bif !decide (C.toInt (C.get (dk d2 1) 2) = 0) then
        (k [C.slice [], dk d2 1] [])
      else
        (bif Nat.beq (List.length (C.elems (dk d2 0))) (List.length (C.elems (dk d2 0))) then
          (k [C.slice (C.elems (dk d2 0)), dk d2 1] [])
        else
          none)))
    (fun i (x : List C × Rst) => [.int n, .slice x.1, .int i, rfO p x.2]) n (fun i x => x.1.length = i ∧ ROk p x.2) id (rhopF p) (fun x => k [.slice (if x.2.e = 0 then x.1 else []), rfO p x.2] []) ?_ ?_ (N := N) (by omega) ([], manyR p 7 r) ⟨rfl, manyR_ok h⟩
  · obtain ⟨x, h1, h2, h3⟩ := key
    simp only [id] at h2
    rw [← h2] at hR ⊢
    rw [ref18_TakeTrail_pe]
    unfold ref18_TakeTrail_p0
    rw [rMany_eq p 7 r h hN]
    simp only [dk_0, dk_1, jn_eq, hn]
    have e1 : (hopsF (rab p r)).1 = x.1 := congrArg Prod.fst hR.2.symm
    have e2 : (hopsF (rab p r)).2.e = x.2.e := by rw [← hR.2]; rfl
    unfold trailV
    rw [e1, e2]
    exact h3
  · rintro i ⟨out, q⟩ hi ⟨hl, hq⟩
    dsimp only at hl hq
    have o1 := rawR_ok (n := 4) hq
    have o2 := rawR_ok (n := 8) o1
    have a1 := rawR_rab (n := 4) hq
    have a2 := rawR_rab (n := 8) o1
    rw [a1] at a2
    refine ⟨rhopF p (out, q), ⟨by simp [rhopF, hl], (rhopF_rab (x := (out, q)) hq).1⟩, rfl, fun rec => ?_⟩
    have c1 : (i : Int) < (n : Int) := by omega
    unfold ref18_TakeTrail_l1
    simp only [dk_0, dk_1, dk_2, dk_3, c_int, c_slice, c1, decide_true, cond_true]
    rw [e4, e8, rNumI_eq p 4 (by omega) q hq hN]
    simp only [dk_0, dk_1]
    rw [rNumI_eq p 8 (by omega) _ o1 hN]
    simp only [dk_0, dk_1]
    rw [rNumI_eq p 8 (by omega) _ o2 hN]
    simp only [dk_0, dk_1, c_int, a1, a2, Nat.beq_refl, cond_true, List.length_append, List.length_cons, List.length_nil, Nat.zero_add, wrap_succ (show i < 4611686018427387904 by omega)]
    rw [if_pos (by omega)]
    rfl
  · rintro ⟨out, q⟩ ⟨hl, hq⟩ rec
    unfold ref18_TakeTrail_l1
    simp only [dk_0, dk_1, dk_2, dk_3, c_int, c_slice, Int.lt_irrefl, decide_false, cond_false, g2, Nat.beq_refl, cond_true]
    by_cases he : q.e = 0
    · simp only [he, decide_true, Bool.not_true, cond_false, if_true]
    · simp only [he, decide_false, Bool.not_false, cond_true, if_false]
end Go.Proofs.Ytnjepbgenciklaa


namespace Go.Proofs.Ytnjepbgenciklaa
open Go Go.E
set_option maxRecDepth 100000
set_option maxHeartbeats 4000000
set_option linter.unusedVariables false
noncomputable def clerk_Save_hs : Hints := [([1, 0, 1, 1, 1], ⟨[], [(3, .sl 1 (.int .u8) 5003)], [], [], [], []⟩),
    ([4, 1, 0, 1, 1, 1], ⟨[17, 18], [(3, .sl 1 (.int .u8) 5003), (19, .d (.int .i64))], [], [], [], []⟩),
    ([9], ⟨[], [(2, .sl 1 (.int .u8) 5002)], [], [], [], []⟩)]
noncomputable def clerk_Save_ov (N : Nat) : OvS (X0 gl0) where
  g R := [(33, octet_Out_One_g N), (34, memo_LayTrail_g N), (35, deed_LayOp_g N)]
  ok := fun R => List.forall_mem_cons.2 ⟨octet_Out_One_ok N, List.forall_mem_cons.2 ⟨memo_LayTrail_ok N, List.forall_mem_cons.2 ⟨deed_LayOp_ok N, fun _ h => nomatch h⟩⟩⟩
noncomputable def clerk_Save_l1 {R : Type} (N : Nat) (k2 : KD R) : KD R → List C → List Es → Option R := (fun k3 d2 m2 => (bif decide (C.toInt (dk d2 3) < C.toInt (dk d2 1)) then (if 0 ≤ C.toInt (dk d2 3) ∧ C.toInt (dk d2 3) < (↑(List.length (C.elems (dk d2 0))) : Int) then (bif Nat.beq (List.length (C.elems (dk d2 2))) (List.length (C.elems (dk d2 2))) then (deed_LayOp_p N (C.slice (C.elems (dk d2 2))) (C.get (List.getD (C.elems (dk d2 0)) (Int.toNat (C.toInt (dk d2 3))) C.nil) 0) (fun d3 m3 => (bif Nat.beq (List.length (C.elems (dk d3 0))) (List.length (C.elems (dk d3 0))) then (memo_LayTrail_p N (C.slice (C.elems (dk d3 0))) (C.get (List.getD (C.elems (dk d2 0)) (Int.toNat (C.toInt (dk d2 3))) C.nil) 1) (fun d4 m4 => (bif Nat.beq (List.length (C.elems (dk d4 0))) (List.length (C.elems (dk d4 0))) then (k3 [dk d2 0, dk d2 1, C.slice (C.elems (dk d4 0)), C.int (IntKind.wrap IntKind.i64 (C.toInt (dk d2 3) + 1))] []) else none))) else none))) else none) else none) else (bif Nat.beq (List.length (C.elems (dk d2 2))) (List.length (C.elems (dk d2 2))) then (k2 [C.slice (C.elems (dk d2 2))] []) else none)))
noncomputable def clerk_Save_p0 {R : Type} (N : Nat) (a0 : C) (k1 : KD R) : Option R := (if Int.ofNat 0 ≤ 0 ∧ (0 ≤ if 255 < (↑(List.length (C.elems a0)) : Int) then 255 else (↑(List.length (C.elems a0)) : Int)) ∧ (if 255 < (↑(List.length (C.elems a0)) : Int) then 255 else (↑(List.length (C.elems a0)) : Int)) ≤ (↑(List.length (C.elems a0)) : Int) then (octet_Out_One_p N (C.slice []) (C.slice [C.int (IntKind.wrap IntKind.u8 (↑(List.length (cut (C.elems a0) 0 (if 255 < (↑(List.length (C.elems a0)) : Int) then 255 else (↑(List.length (C.elems a0)) : Int)))) : Int))]) (fun d1 m1 => (jn (fun d2 m2 => (bif Nat.beq (List.length (C.elems (dk d2 0))) (List.length (C.elems (dk d2 0))) then (k1 [C.slice (C.elems (dk d2 0))] []) else none)) (fun k2 => (bif Nat.beq (List.length (C.elems (dk d1 0))) (List.length (C.elems (dk d1 0))) then (loopK N (clerk_Save_l1 N k2) [C.slice (cut (C.elems a0) 0 (if 255 < (↑(List.length (C.elems a0)) : Int) then 255 else (↑(List.length (C.elems a0)) : Int))), C.int (↑(List.length (cut (C.elems a0) 0 (if 255 < (↑(List.length (C.elems a0)) : Int) then 255 else (↑(List.length (C.elems a0)) : Int)))) : Int), C.slice (C.elems (dk d1 0)), C.int 0] []) else none))))) else none)
noncomputable def clerk_Save_p {R : Type} (N : Nat) : C → KD R → Option R := lid "clerk_Save_p N" (clerk_Save_p0 N)
theorem clerk_Save_pe {R : Type} (N : Nat) (a0 : C) (k : KD R) : clerk_Save_p N a0 k = clerk_Save_p0 N a0 k := by unfold clerk_Save_p; rw [lid_eq]
theorem clerk_Save_run {R : Type} (N : Nat) (a0 : C) (K : V → List (Key × O) → Option R) : exF (X0 gl0) ((clerk_Save_ov N).ov R) extX (fun f r => bif Nat.beq f 12 then (bif Nat.beq r 2 then [(16, 1)] else bif Nat.beq r 6 then [(26, 1), (29, 1), (5, 6)] else []) else []) (fun f => bif Nat.beq f 12 then clerk_Save_hs else []) N 400 8 12 [.d (.slice 112 tWish) a0] A0 K =
    clerk_Save_p N a0 (fun d1 m1 => K (V.ts 1 (Ty.int IntKind.u8) (C.elems (dk d1 0))) []) := by
  rw [clerk_Save_pe]
  exact (show _ = jn (fun d1 m1 => (bif Nat.beq (List.length (C.elems (dk d1 0))) (List.length (C.elems (dk d1 0))) then
    (K (V.ts 1 (Ty.int IntKind.u8) (C.elems (dk d1 0))) [])
  else
    none)) (clerk_Save_p0 N a0) by kernel_rfl).trans ((jn_eq _ _).trans (congrArg (clerk_Save_p0 N a0) (funext fun _ => funext fun _ => by simp only [Nat.beq_refl, cond_true])))
noncomputable def clerk_Save_g (N : Nat) {R : Type} : OvG R := fun xs _ K => match xs with
  | [.d t0 a0] => if t0 = (.slice 112 tWish) then clerk_Save_p N a0 (fun d1 m1 => K (V.ts 1 (Ty.int IntKind.u8) (C.elems (dk d1 0))) []) else none
  | _ => none
theorem clerk_Save_ok (N : Nat) {R : Type} : GOk (X0 gl0) 12 (clerk_Save_g N (R := R)) := by
  intro xs A Kr r hr
  unfold clerk_Save_g at hr
  split at hr
  · simp only [Option.ite_none_right_eq_some] at hr
    obtain ⟨hty, hr⟩ := hr
    subst hty
    rw [← clerk_Save_run] at hr
    obtain ⟨v, L, h1, h2⟩ := exF_ok (ok0 gl0) (mo gl0) ((clerk_Save_ov N).ov_ok _) (extX_ok gl0) _ _ _ _ _ _ hr
    exact ⟨v, L, h1.mono (leA_none fun _ => rfl), h2⟩
  · cases hr
end Go.Proofs.Ytnjepbgenciklaa


namespace Go.Proofs.Ytnjepbgenciklaa
open Go Go.E
set_option maxRecDepth 100000
set_option maxHeartbeats 4000000
set_option linter.unusedVariables false
noncomputable def ref20_Save_hs : Hints := [([1, 0, 1], ⟨[], [(0, .d (.slice 112 tWish))], [], [], [], []⟩),
    ([1, 0, 1, 1, 1], ⟨[], [(3, .d (.slice 1 (.int .u8)))], [], [], [], []⟩),
    ([4, 1, 0, 1, 1, 1], ⟨[0], [(3, .d (.slice 1 (.int .u8))), (4, .d (.int .i64))], [], [], [], []⟩),
    ([9], ⟨[], [(2, .d (.slice 1 (.int .u8)))], [], [], [], []⟩)]
noncomputable def ref20_Save_ov (N : Nat) : OvS (X0 gl0) where
  g R := [(36, ref18_Trail_g N), (37, ref13_Op_g N)]
  ok := fun R => List.forall_mem_cons.2 ⟨ref18_Trail_ok N, List.forall_mem_cons.2 ⟨ref13_Op_ok N, fun _ h => nomatch h⟩⟩
noncomputable def ref20_Save_l1 {R : Type} (N : Nat) (k2 : KD R) : KD R → List C → List Es → Option R := (fun k3 d2 m2 => (bif decide (C.toInt (dk d2 2) < (↑(List.length (C.elems (dk d2 0))) : Int)) then (if 0 ≤ C.toInt (dk d2 2) ∧ C.toInt (dk d2 2) < (↑(List.length (C.elems (dk d2 0))) : Int) then (ref13_Op_p N (dk d2 1) (C.get (List.getD (C.elems (dk d2 0)) (Int.toNat (C.toInt (dk d2 2))) C.nil) 0) (fun d3 m3 => (if 0 ≤ C.toInt (dk d2 2) ∧ C.toInt (dk d2 2) < (↑(List.length (C.elems (dk d2 0))) : Int) then (ref18_Trail_p N (dk d3 0) (C.get (List.getD (C.elems (dk d2 0)) (Int.toNat (C.toInt (dk d2 2))) C.nil) 1) (fun d4 m4 => (k3 [dk d2 0, dk d4 0, C.int (IntKind.wrap IntKind.i64 (C.toInt (dk d2 2) + 1))] []))) else none))) else none) else (k2 [dk d2 1] [])))
noncomputable def ref20_Save_p0 {R : Type} (N : Nat) (a0 : C) (k1 : KD R) : Option R := (jn (fun d1 m1 => (jn (fun d2 m2 => (k1 [dk d2 0] [])) (fun k2 => (loopK N (ref20_Save_l1 N k2) [dk d1 0, C.slice [C.int (IntKind.wrap IntKind.u8 (↑(List.length (C.elems (dk d1 0))) : Int))], C.int 0] [])))) (fun k2 => (bif decide (255 < (↑(List.length (C.elems a0)) : Int)) then (if Int.ofNat 0 ≤ 0 ∧ Int.ofNat 0 ≤ 255 ∧ 255 ≤ (↑(List.length (C.elems a0)) : Int) then (k2 [C.slice (cut (C.elems a0) 0 255)] []) else none) else (k2 [a0] []))))
noncomputable def ref20_Save_p {R : Type} (N : Nat) : C → KD R → Option R := lid "ref20_Save_p N" (ref20_Save_p0 N)
theorem ref20_Save_pe {R : Type} (N : Nat) (a0 : C) (k : KD R) : ref20_Save_p N a0 k = ref20_Save_p0 N a0 k := by unfold ref20_Save_p; rw [lid_eq]
theorem ref20_Save_run {R : Type} (N : Nat) (a0 : C) (K : V → List (Key × O) → Option R) : exF (X0 gl0) ((ref20_Save_ov N).ov R) extX (fun f r => bif Nat.beq f 13 then (bif Nat.beq r 7 then [(26, 7), (32, 7)] else []) else []) (fun f => bif Nat.beq f 13 then ref20_Save_hs else []) N 400 8 13 [.d (.slice 112 tWish) a0] A0 K =
    ref20_Save_p N a0 (fun d1 m1 => K (V.d (Ty.slice 1 (Ty.int IntKind.u8)) (dk d1 0)) []) := by
  rw [ref20_Save_pe]
  exact (show _ = jn (fun d1 m1 => (K (V.d (Ty.slice 1 (Ty.int IntKind.u8)) (dk d1 0)) [])) (ref20_Save_p0 N a0) by kernel_rfl).trans (jn_eq _ _)
noncomputable def ref20_Save_g (N : Nat) {R : Type} : OvG R := fun xs _ K => match xs with
  | [.d t0 a0] => if t0 = (.slice 112 tWish) then ref20_Save_p N a0 (fun d1 m1 => K (V.d (Ty.slice 1 (Ty.int IntKind.u8)) (dk d1 0)) []) else none
  | _ => none
theorem ref20_Save_ok (N : Nat) {R : Type} : GOk (X0 gl0) 13 (ref20_Save_g N (R := R)) := by
  intro xs A Kr r hr
  unfold ref20_Save_g at hr
  split at hr
  · simp only [Option.ite_none_right_eq_some] at hr
    obtain ⟨hty, hr⟩ := hr
    subst hty
    rw [← ref20_Save_run] at hr
    obtain ⟨v, L, h1, h2⟩ := exF_ok (ok0 gl0) (mo gl0) ((ref20_Save_ov N).ov_ok _) (extX_ok gl0) _ _ _ _ _ _ hr
    exact ⟨v, L, h1.mono (leA_none fun _ => rfl), h2⟩
  · cases hr
end Go.Proofs.Ytnjepbgenciklaa


namespace Go.Proofs.Ytnjepbgenciklaa
open Go Go.E
set_option maxRecDepth 100000
set_option maxHeartbeats 4000000
set_option linter.unusedVariables false
noncomputable def clerk_Load_hs : Hints := [([1, 0, 1, 1, 1], ⟨[4], [(5, .sl 112 tWish 5005)], [], [], [], []⟩),
    ([4, 1, 0, 1, 1, 1], ⟨[4, 11], [(5, .sl 112 tWish 5005), (12, .d (.int .i64))], [], [], [], []⟩),
    ([9], ⟨[], [(2, .sl 112 tWish 5002), (3, .d (.int .i64))], [], [], [], []⟩)]
noncomputable def clerk_Load_ov (N : Nat) : OvS (X0 gl0) where
  g R := [(21, octet_In_Many_g N), (22, deed_TakeOp_g N), (23, memo_TakeTrail_g N), (24, octet_In_End_g N)]
  ok := fun R => List.forall_mem_cons.2 ⟨octet_In_Many_ok N, List.forall_mem_cons.2 ⟨deed_TakeOp_ok N, List.forall_mem_cons.2 ⟨memo_TakeTrail_ok N, List.forall_mem_cons.2 ⟨octet_In_End_ok N, fun _ h => nomatch h⟩⟩⟩⟩
noncomputable def clerk_Load_l1 {R : Type} (N : Nat) (k2 : KD R) : KD R → List C → List Es → Option R := (fun k3 d2 m2 => (bif decide (C.toInt (dk d2 2) < C.toInt (dk d2 0)) then (deed_TakeOp_p N (dk d2 3) (fun d3 m3 => (memo_TakeTrail_p N (dk d3 1) (fun d4 m4 => (bif Nat.beq (List.length (C.elems (dk d2 1))) (List.length (C.elems (dk d2 1))) then (if (List.length (C.elems (dk d2 1)) + 1) * 112 ≤ 140737488355328 ∧ List.length (C.elems (dk d2 1)) + 1 ≤ 9223372036854775807 then (bif Nat.beq (List.length (C.elems (dk d2 1)) + 1) (List.length (C.elems (dk d2 1) ++ [C.agg [dk d3 0, C.slice (C.elems (dk d4 0))]])) then (k3 [dk d2 0, C.slice (C.elems (dk d2 1) ++ [C.agg [dk d3 0, C.slice (C.elems (dk d4 0))]]), C.int (IntKind.wrap IntKind.i64 (C.toInt (dk d2 2) + 1)), dk d4 1] []) else none) else none) else none))))) else (bif Nat.beq (List.length (C.elems (dk d2 1))) (List.length (C.elems (dk d2 1))) then (k2 [C.slice (C.elems (dk d2 1)), dk d2 3] []) else none)))
noncomputable def clerk_Load_p0 {R : Type} (N : Nat) (a0 : C) (k1 : KD R) : Option R := (bif Nat.beq (List.length (C.elems a0)) (List.length (C.elems a0)) && true then (octet_In_Many_p N (C.int 255) (C.agg [C.slice (C.elems a0), zeroC (Ty.int IntKind.i64)]) (fun d1 m1 => (jn (fun d2 m2 => (octet_In_End_p N (dk d2 1) (fun d3 m3 => (bif !decide (C.toInt (dk d3 0) = 0) then (k1 [C.slice [], dk d3 0] []) else (bif Nat.beq (List.length (C.elems (dk d2 0))) (List.length (C.elems (dk d2 0))) then (k1 [C.slice (C.elems (dk d2 0)), C.int 0] []) else none))))) (fun k2 => (loopK N (clerk_Load_l1 N k2) [dk d1 0, C.slice [], C.int 0, dk d1 1] []))))) else none)
noncomputable def clerk_Load_p {R : Type} (N : Nat) : C → KD R → Option R := lid "clerk_Load_p N" (clerk_Load_p0 N)
theorem clerk_Load_pe {R : Type} (N : Nat) (a0 : C) (k : KD R) : clerk_Load_p N a0 k = clerk_Load_p0 N a0 k := by unfold clerk_Load_p; rw [lid_eq]
theorem clerk_Load_run {R : Type} (N : Nat) (a0 : C) (K : V → List (Key × O) → Option R) : exF (X0 gl0) ((clerk_Load_ov N).ov R) extX (fun f r => bif Nat.beq f 6 then (bif Nat.beq r 3 then [(4, 16)] else bif Nat.beq r 5 then [(4, 16)] else bif Nat.beq r 6 then [(4, 16), (6, 6)] else bif Nat.beq r 8 then [(4, 16)] else []) else []) (fun f => bif Nat.beq f 6 then clerk_Load_hs else []) N 400 8 6 [.d (.slice 1 (.int .u8)) a0] A0 K =
    clerk_Load_p N a0 (fun d1 m1 => K (V.tup [V.ts 112 tWish (C.elems (dk d1 0)), V.d (Ty.int IntKind.i64) (dk d1 1)]) []) := by
  rw [clerk_Load_pe]
  exact (show _ = jn (fun d1 m1 => (bif Nat.beq (List.length (C.elems (dk d1 0))) (List.length (C.elems (dk d1 0))) then
    (K (V.tup [V.ts 112 tWish (C.elems (dk d1 0)), V.d (Ty.int IntKind.i64) (dk d1 1)]) [])
  else
    none)) (clerk_Load_p0 N a0) by kernel_rfl).trans ((jn_eq _ _).trans (congrArg (clerk_Load_p0 N a0) (funext fun _ => funext fun _ => by simp only [Nat.beq_refl, cond_true])))
noncomputable def clerk_Load_g (N : Nat) {R : Type} : OvG R := fun xs _ K => match xs with
  | [.d t0 a0] => if t0 = (.slice 1 (.int .u8)) then clerk_Load_p N a0 (fun d1 m1 => K (V.tup [V.ts 112 tWish (C.elems (dk d1 0)), V.d (Ty.int IntKind.i64) (dk d1 1)]) []) else none
  | _ => none
theorem clerk_Load_ok (N : Nat) {R : Type} : GOk (X0 gl0) 6 (clerk_Load_g N (R := R)) := by
  intro xs A Kr r hr
  unfold clerk_Load_g at hr
  split at hr
  · simp only [Option.ite_none_right_eq_some] at hr
    obtain ⟨hty, hr⟩ := hr
    subst hty
    rw [← clerk_Load_run] at hr
    obtain ⟨v, L, h1, h2⟩ := exF_ok (ok0 gl0) (mo gl0) ((clerk_Load_ov N).ov_ok _) (extX_ok gl0) _ _ _ _ _ _ hr
    exact ⟨v, L, h1.mono (leA_none fun _ => rfl), h2⟩
  · cases hr
end Go.Proofs.Ytnjepbgenciklaa


namespace Go.Proofs.Ytnjepbgenciklaa
open Go Go.E
set_option maxRecDepth 100000
set_option maxHeartbeats 4000000
set_option linter.unusedVariables false
noncomputable def ref20_Load_hs : Hints := [([1, 0, 1, 1, 1, 1], ⟨[4], [(5, .sl 112 tWish 5005)], [], [], [], []⟩),
    ([4, 1, 0, 1, 1, 1, 1], ⟨[4, 6], [(5, .sl 112 tWish 5005), (7, .d (.int .i64))], [], [], [], []⟩),
    ([9], ⟨[], [(2, .sl 112 tWish 5002), (3, .d (.int .i64))], [], [], [], []⟩)]
noncomputable def ref20_Load_ov (N : Nat) : OvS (X0 gl0) where
  g R := [(25, ref01_In_Many_g N), (26, ref13_TakeOp_g N), (27, ref18_TakeTrail_g N), (28, ref01_In_End_g N)]
  ok := fun R => List.forall_mem_cons.2 ⟨ref01_In_Many_ok N, List.forall_mem_cons.2 ⟨ref13_TakeOp_ok N, List.forall_mem_cons.2 ⟨ref18_TakeTrail_ok N, List.forall_mem_cons.2 ⟨ref01_In_End_ok N, fun _ h => nomatch h⟩⟩⟩⟩
noncomputable def ref20_Load_l1 {R : Type} (N : Nat) (k2 : KD R) : KD R → List C → List Es → Option R := (fun k3 d2 m2 => (bif decide (C.toInt (dk d2 2) < C.toInt (dk d2 0)) then (ref13_TakeOp_p N (dk d2 3) (fun d3 m3 => (ref18_TakeTrail_p N (dk d3 1) (fun d4 m4 => (bif Nat.beq (List.length (C.elems (dk d2 1))) (List.length (C.elems (dk d2 1))) then (if (List.length (C.elems (dk d2 1)) + 1) * 112 ≤ 140737488355328 ∧ List.length (C.elems (dk d2 1)) + 1 ≤ 9223372036854775807 then (bif Nat.beq (List.length (C.elems (dk d2 1)) + 1) (List.length (C.elems (dk d2 1) ++ [C.agg [dk d3 0, C.slice (C.elems (dk d4 0))]])) then (k3 [dk d2 0, C.slice (C.elems (dk d2 1) ++ [C.agg [dk d3 0, C.slice (C.elems (dk d4 0))]]), C.int (IntKind.wrap IntKind.i64 (C.toInt (dk d2 2) + 1)), dk d4 1] []) else none) else none) else none))))) else (bif Nat.beq (List.length (C.elems (dk d2 1))) (List.length (C.elems (dk d2 1))) then (k2 [C.slice (C.elems (dk d2 1)), dk d2 3] []) else none)))
noncomputable def ref20_Load_p0 {R : Type} (N : Nat) (a0 : C) (k1 : KD R) : Option R := (ref01_In_Many_p N (C.int 255) (C.agg [a0, zeroC (Ty.int IntKind.i64), zeroC (Ty.int IntKind.i64)]) (fun d1 m1 => (jn (fun d2 m2 => (ref01_In_End_p N (dk d2 1) (fun d3 m3 => (bif !decide (C.toInt (dk d3 0) = 0) then (k1 [C.slice [], dk d3 0] []) else (bif Nat.beq (List.length (C.elems (dk d2 0))) (List.length (C.elems (dk d2 0))) then (k1 [C.slice (C.elems (dk d2 0)), C.int 0] []) else none))))) (fun k2 => (loopK N (ref20_Load_l1 N k2) [dk d1 0, C.slice [], C.int 0, dk d1 1] [])))))
noncomputable def ref20_Load_p {R : Type} (N : Nat) : C → KD R → Option R := lid "ref20_Load_p N" (ref20_Load_p0 N)
theorem ref20_Load_pe {R : Type} (N : Nat) (a0 : C) (k : KD R) : ref20_Load_p N a0 k = ref20_Load_p0 N a0 k := by unfold ref20_Load_p; rw [lid_eq]
theorem ref20_Load_run {R : Type} (N : Nat) (a0 : C) (K : V → List (Key × O) → Option R) : exF (X0 gl0) ((ref20_Load_ov N).ov R) extX (fun f r => bif Nat.beq f 7 then (bif Nat.beq r 3 then [(4, 16)] else bif Nat.beq r 7 then [(4, 16)] else bif Nat.beq r 8 then [(4, 16), (8, 6)] else bif Nat.beq r 9 then [(4, 16)] else []) else []) (fun f => bif Nat.beq f 7 then ref20_Load_hs else []) N 400 8 7 [.d (.slice 1 (.int .u8)) a0] A0 K =
    ref20_Load_p N a0 (fun d1 m1 => K (V.tup [V.ts 112 tWish (C.elems (dk d1 0)), V.d (Ty.int IntKind.i64) (dk d1 1)]) []) := by
  rw [ref20_Load_pe]
  exact (show _ = jn (fun d1 m1 => (bif Nat.beq (List.length (C.elems (dk d1 0))) (List.length (C.elems (dk d1 0))) then
    (K (V.tup [V.ts 112 tWish (C.elems (dk d1 0)), V.d (Ty.int IntKind.i64) (dk d1 1)]) [])
  else
    none)) (ref20_Load_p0 N a0) by kernel_rfl).trans ((jn_eq _ _).trans (congrArg (ref20_Load_p0 N a0) (funext fun _ => funext fun _ => by simp only [Nat.beq_refl, cond_true])))
noncomputable def ref20_Load_g (N : Nat) {R : Type} : OvG R := fun xs _ K => match xs with
  | [.d t0 a0] => if t0 = (.slice 1 (.int .u8)) then ref20_Load_p N a0 (fun d1 m1 => K (V.tup [V.ts 112 tWish (C.elems (dk d1 0)), V.d (Ty.int IntKind.i64) (dk d1 1)]) []) else none
  | _ => none
theorem ref20_Load_ok (N : Nat) {R : Type} : GOk (X0 gl0) 7 (ref20_Load_g N (R := R)) := by
  intro xs A Kr r hr
  unfold ref20_Load_g at hr
  split at hr
  · simp only [Option.ite_none_right_eq_some] at hr
    obtain ⟨hty, hr⟩ := hr
    subst hty
    rw [← ref20_Load_run] at hr
    obtain ⟨v, L, h1, h2⟩ := exF_ok (ok0 gl0) (mo gl0) ((ref20_Load_ov N).ov_ok _) (extX_ok gl0) _ _ _ _ _ _ hr
    exact ⟨v, L, h1.mono (leA_none fun _ => rfl), h2⟩
  · cases hr
end Go.Proofs.Ytnjepbgenciklaa


namespace Go.Proofs.Ytnjepbgenciklaa
open Go Go.E
set_option maxRecDepth 100000
set_option maxHeartbeats 4000000
set_option linter.unusedSimpArgs false
variable {R : Type} {N : Nat}
structure WishW (w : C) : Prop where
  op : OpW (w.get 0)
  tr : w.get 1 = .slice (w.get 1).elems
  hops : ∀ h ∈ (w.get 1).elems, HopW h
  len : (w.get 1).elems.length ≤ 60
def wishB (w : C) : List C := opB (w.get 0) ++ trailB (w.get 1).elems
def saveB (l : List C) : List C := [.int (((l.take 255).length : Int) % 256)] ++ (l.take 255).flatMap wishB
theorem wishB_len {w : C} (h : WishW w) : (wishB w).length ≤ 1275 := by
  have := h.len
  simp only [wishB, List.length_append, opB_len h.op, trailB_len]
  omega
theorem flat_len {f : C → List C} {B : Nat} : ∀ {l : List C}, (∀ x ∈ l, (f x).length ≤ B) → (l.flatMap f).length ≤ B * l.length
  | [], _ => by simp
  | x :: l, h => by
    have h1 := h x (by simp)
    have h2 := flat_len (f := f) (B := B) (l := l) fun y hy => h y (by simp [hy])
    simp only [List.flatMap_cons, List.length_append, List.length_cons, Nat.mul_succ]
    omega
theorem save_eq (l : List C) (h : ∀ w ∈ l, WishW w) (hll : l.length ≤ 300) (hN : 20000 < N) (k : KD R) : clerk_Save_p N (.slice l) k = k [.slice (saveB l)] [] := by
  rw [clerk_Save_pe]
  unfold clerk_Save_p0
  have hc : cut (C.slice l).elems 0 (if 255 < ((C.slice l).elems.length : Int) then 255 else ((C.slice l).elems.length : Int)) = l.take 255 := by
    by_cases h1 : 255 < ((C.slice l).elems.length : Int)
    · rw [if_pos h1]; simp [cut, c_slice]
    · have h2 : l.length ≤ 255 := by rw [c_slice] at h1; omega
      rw [if_neg h1, List.take_of_length_le h2]; simp [cut, c_slice]
  have hg : Int.ofNat 0 ≤ 0 ∧ (0 ≤ if 255 < ((C.slice l).elems.length : Int) then 255 else ((C.slice l).elems.length : Int)) ∧ (if 255 < ((C.slice l).elems.length : Int) then 255 else ((C.slice l).elems.length : Int)) ≤ ((C.slice l).elems.length : Int) := by
    refine ⟨by decide, ?_, ?_⟩ <;> split <;> omega
  rw [if_pos hg, hc, out_One_eq _ _ (by simp)]
  have hq : ∀ w ∈ l.take 255, WishW w := fun w hw => h w (List.mem_of_mem_take hw)
  have hql : (l.take 255).length ≤ 255 := by simp; omega
  unfold saveB
  generalize l.take 255 = q at *
  simp only [jn_eq, dk_0, c_slice, Nat.beq_refl, cond_true, wrap_u8, List.nil_append]
  have key := loopK_count (F := clerk_Save_l1 N fun d1 m1 => k [.slice (dk d1 0).elems] []) (fun i => [.slice q, .int q.length, .slice ([.int ((q.length : Int) % 256)] ++ (q.take i).flatMap wishB), .int i]) (fun _ => []) q.length (k [.slice ([.int ((q.length : Int) % 256)] ++ q.flatMap wishB)] []) ?_ ?_ (N := N) (by omega)
  · simpa using key
  · intro i hi rec
    have h1 : (i : Int) < (q.length : Int) := by omega
    have h2 := hq _ (getD_mem hi)
    have h3 : ((q.take i).flatMap wishB).length ≤ 1275 * (q.take i).length := flat_len fun x hx => wishB_len (hq x (List.mem_of_mem_take hx))
    have h4 : (q.take i).length ≤ 255 := by simp; omega
    have h5 := h2.len
    unfold clerk_Save_l1
    simp only [dk_0, dk_1, dk_2, dk_3, c_int, c_slice, h1, decide_true, cond_true, Int.natCast_nonneg, and_self, if_true, Nat.beq_refl, Int.toNat_natCast]
    rw [LayOp_eq _ _ h2.op (by simp only [List.length_append, List.length_cons, List.length_nil]; omega) (by omega)]
    simp only [dk_0, c_slice, Nat.beq_refl, cond_true]
    rw [h2.tr, LayTrail_eq _ _ h2.hops (by simp only [List.length_append, List.length_cons, List.length_nil, opB_len h2.op]; omega) (by omega) hN]
    simp only [dk_0, c_slice, Nat.beq_refl, cond_true, flat_take hi, wrap_succ (show i < 4611686018427387904 by omega), wishB, List.append_assoc]
  · intro rec
    unfold clerk_Save_l1
    simp only [dk_0, dk_1, dk_2, dk_3, c_int, c_slice, Int.lt_irrefl, decide_false, cond_false, Nat.beq_refl, cond_true, List.take_length]
theorem rsave_eq (l : List C) (h : ∀ w ∈ l, WishW w) (hll : l.length ≤ 300) (hN : 20000 < N) (k : KD R) : ref20_Save_p N (.slice l) k = k [.slice (saveB l)] [] := by
  rw [ref20_Save_pe]
  unfold ref20_Save_p0
  have hq : ∀ w ∈ l.take 255, WishW w := fun w hw => h w (List.mem_of_mem_take hw)
  have hql : (l.take 255).length ≤ 255 := by simp; omega
  have key : ∀ q : List C, (∀ w ∈ q, WishW w) → q.length ≤ 255 → loopK N (ref20_Save_l1 N fun d2 m2 => k [dk d2 0] []) [.slice q, .slice [.int ((q.length : Int) % 256)], .int 0] [] = k [.slice ([.int ((q.length : Int) % 256)] ++ q.flatMap wishB)] [] := by
    intro q hq hql
    have key := loopK_count (F := ref20_Save_l1 N fun d2 m2 => k [dk d2 0] []) (fun i => [.slice q, .slice ([.int ((q.length : Int) % 256)] ++ (q.take i).flatMap wishB), .int i]) (fun _ => []) q.length (k [.slice ([.int ((q.length : Int) % 256)] ++ q.flatMap wishB)] []) ?_ ?_ (N := N) (by omega)
    · simpa using key
    · intro i hi rec
      have h1 : (i : Int) < (q.length : Int) := by omega
      have h2 := hq _ (getD_mem hi)
      have h3 : ((q.take i).flatMap wishB).length ≤ 1275 * (q.take i).length := flat_len fun x hx => wishB_len (hq x (List.mem_of_mem_take hx))
      have h4 : (q.take i).length ≤ 255 := by simp; omega
      have h5 := h2.len
      unfold ref20_Save_l1
      simp only [dk_0, dk_1, dk_2, dk_3, c_int, c_slice, h1, decide_true, cond_true, Int.natCast_nonneg, and_self, if_true, Nat.beq_refl, Int.toNat_natCast]
      rw [rOp_eq _ _ h2.op (by simp only [List.length_append, List.length_cons, List.length_nil]; omega) (by omega)]
      simp only [dk_0, c_slice, Nat.beq_refl, cond_true]
      rw [h2.tr, rTrail_eq _ _ h2.hops (by simp only [List.length_append, List.length_cons, List.length_nil, opB_len h2.op]; omega) (by omega) hN]
      simp only [dk_0, c_slice, Nat.beq_refl, cond_true, flat_take hi, wrap_succ (show i < 4611686018427387904 by omega), wishB, List.append_assoc]
    · intro rec
      unfold ref20_Save_l1
      simp only [dk_0, dk_1, dk_2, dk_3, c_int, c_slice, Int.lt_irrefl, decide_false, cond_false, Nat.beq_refl, cond_true, List.take_length]
  simp only [jn_eq, dk_0, c_slice, wrap_u8]
  by_cases h255 : (255 : Int) < l.length
  · have hc : cut l 0 255 = l.take 255 := by simp [cut]
    simp only [h255, decide_true, cond_true, c_slice, hc]
    rw [if_pos ⟨by decide, by decide, by omega⟩]
    exact key _ hq hql
  · have ht : l.take 255 = l := List.take_of_length_le (by omega)
    simp only [h255, decide_false, cond_false, dk_0, c_slice]
    unfold saveB
    rw [ht]
    exact key l h (by omega)
def ldS (s : Rdr) : Rdr := (hopsF (toS s)).2
def ldF (x : List C × Rdr) : List C × Rdr := (x.1 ++ [.agg [toV x.2, .slice (trailV (toS x.2))]], ldS x.2)
def ldsF (s : Rdr) : List C × Rdr := iter ldF (manyV 255 s).toNat ([], manyS 255 s)
def loadV (p : List C) : List C := if endE (ldsF ⟨p, 0⟩).2 = 0 then (ldsF ⟨p, 0⟩).1 else []
def loadE (p : List C) : Int := endE (ldsF ⟨p, 0⟩).2
theorem load_eq (p : List C) (hb : BytesOk p) (hN : 1000 < N) (k : KD R) : clerk_Load_p N (.slice p) k = k [.slice (loadV p), .int (loadE p)] [] := by
  rw [clerk_Load_pe]
  unfold clerk_Load_p0
  have hb' : BytesOk (Rdr.mk p 0).l := hb
  have e0 : C.agg [C.slice p, zeroC (Ty.int IntKind.i64)] = inO ⟨p, 0⟩ := rfl
  simp only [c_slice, Nat.beq_refl, Bool.and_true, cond_true, e0]
  rw [in_Many_eq 255 _ hb' (by omega)]
  simp only [dk_0, dk_1, jn_eq]
  obtain ⟨n, hn⟩ := Int.eq_ofNat_of_zero_le (manyV_le (m := 255) (by omega) hb').1
  have hn7 := (manyV_le (m := 255) (by omega) hb').2
  have hms : BytesOk (manyS 255 ⟨p, 0⟩).l := manyS_ok hb'
  have hF : ldsF ⟨p, 0⟩ = iter ldF n ([], manyS 255 ⟨p, 0⟩) := by unfold ldsF; rw [hn]; rfl
  rw [hn]
  have key := loopK_rel (R := R) (F := clerk_Load_l1 N fun d2 m2 => octet_In_End_p N (dk d2 1) fun d3 m3 =>
          (bif !decide (C.toInt (dk d3 0) = 0) then
            (k [C.slice [], dk d3 0] [])
          else
              (k [C.slice (C.elems (dk d2 0)), C.int 0] [])))
    (fun i (x : List C × Rdr) => [.int n, .slice x.1, .int i, inO x.2]) n (fun i x => x.1.length = i ∧ BytesOk x.2.l) id ldF (fun x => k [.slice (if endE x.2 = 0 then x.1 else []), .int (endE x.2)] []) ?_ ?_ (N := N) (by omega) ([], manyS 255 ⟨p, 0⟩) ⟨rfl, hms⟩
  · obtain ⟨x, h1, h2, h3⟩ := key
    simp only [id] at h2
    rw [← hF] at h2
    subst h2
    exact h3
  · rintro i ⟨out, q⟩ hi ⟨hl, hq⟩
    dsimp only at hl hq
    refine ⟨ldF (out, q), ⟨by simp [ldF, hl], hopsF_ok (toS_ok hq)⟩, rfl, fun rec => ?_⟩
    have c1 : (i : Int) < (n : Int) := by omega
    unfold clerk_Load_l1
    simp only [dk_0, dk_1, dk_2, dk_3, c_int, c_slice, c1, decide_true, cond_true]
    rw [TakeOp_eq q hq (by omega)]
    simp only [dk_0, dk_1]
    rw [TakeTrail_eq _ (toS_ok hq) (by omega)]
    simp only [dk_0, dk_1, c_slice, Nat.beq_refl, cond_true, List.length_append, List.length_cons, List.length_nil, Nat.zero_add, wrap_succ (show i < 4611686018427387904 by omega)]
    rw [if_pos (by omega)]
    rfl
  · rintro ⟨out, q⟩ ⟨hl, hq⟩ rec
    unfold clerk_Load_l1
    simp only [dk_0, dk_1, dk_2, dk_3, c_int, c_slice, Int.lt_irrefl, decide_false, cond_false, Nat.beq_refl, cond_true]
    obtain ⟨x, hx⟩ := in_End_eq (R := R) (N := N) q fun d3 m3 =>
          (bif !decide (C.toInt (dk d3 0) = 0) then
            (k [C.slice [], dk d3 0] [])
          else
              (k [C.slice out, C.int 0] []))
    rw [hx]
    simp only [dk_0, c_int]
    by_cases he : endE q = 0
    · simp only [he, decide_true, Bool.not_true, cond_false, if_true]
    · simp only [he, decide_false, Bool.not_false, cond_true, if_false]
theorem rload_eq (p : List C) (hb : BytesOk p) (hpl : p.length ≤ 1000000000) (hN : 1000 < N) (k : KD R) : ref20_Load_p N (.slice p) k = k [.slice (loadV p), .int (loadE p)] [] := by
  rw [ref20_Load_pe]
  unfold ref20_Load_p0
  have e0 : C.agg [C.slice p, zeroC (Ty.int IntKind.i64), zeroC (Ty.int IntKind.i64)] = rfO p ⟨0, 0⟩ := rfl
  have h : ROk p ⟨0, 0⟩ := ⟨Nat.zero_le _, hb, hpl⟩
  have ha : rab p ⟨0, 0⟩ = ⟨p, 0⟩ := rfl
  rw [e0, rMany_eq p 255 _ h (by omega)]
  simp only [dk_0, dk_1, jn_eq]
  have hb' : BytesOk (Rdr.mk p 0).l := hb
  obtain ⟨n, hn⟩ := Int.eq_ofNat_of_zero_le (manyV_le (m := 255) (by omega) hb').1
  have hn7 := (manyV_le (m := 255) (by omega) hb').2
  have hF : ldsF ⟨p, 0⟩ = iter ldF n ([], manyS 255 ⟨p, 0⟩) := by unfold ldsF; rw [hn]; rfl
  rw [ha, hn]
  have key := loopK_rel (R := R) (F := ref20_Load_l1 N fun d2 m2 => ref01_In_End_p N (dk d2 1) fun d3 m3 =>
        (bif !decide (C.toInt (dk d3 0) = 0) then
          (k [C.slice [], dk d3 0] [])
        else
          (bif Nat.beq (List.length (C.elems (dk d2 0))) (List.length (C.elems (dk d2 0))) then
            (k [C.slice (C.elems (dk d2 0)), C.int 0] [])
          else
            none)))
    (fun i (x : List C × Rst) => [.int n, .slice x.1, .int i, rfO p x.2]) n (fun i x => x.1.length = i ∧ ROk p x.2) (fun x => (x.1, rab p x.2)) ldF (fun x => k [.slice (if endE (rab p x.2) = 0 then x.1 else []), .int (endE (rab p x.2))] []) ?_ ?_ (N := N) (by omega) ([], manyR p 255 ⟨0, 0⟩) ⟨rfl, manyR_ok h⟩
  · obtain ⟨x, h1, h2, h3⟩ := key
    dsimp only at h2
    rw [manyR_rab h, ha, ← hF] at h2
    unfold loadV loadE
    rw [← h2]
    exact h3
  · rintro i ⟨out, q⟩ hi ⟨hl, hq⟩
    dsimp only at hl hq
    have c1 : (i : Int) < (n : Int) := by omega
    obtain ⟨r1, o1, a1, k1⟩ := rTakeOp_eq (R := R) p q hq (show 200 < N by omega)
    obtain ⟨r2, o2, a2, k2⟩ := rTakeTrail_all (R := R) p r1 o1 (show 200 < N by omega)
    refine ⟨(out ++ [.agg [toV (rab p q), .slice (trailV (rab p r1))]], r2), ⟨by simp [hl], o2⟩, by dsimp only [ldF]; rw [a2, a1]; rfl, fun rec => ?_⟩
    unfold ref20_Load_l1
    simp only [dk_0, dk_1, dk_2, dk_3, c_int, c_slice, c1, decide_true, cond_true, k1, k2, Nat.beq_refl, List.length_append, List.length_cons, List.length_nil, Nat.zero_add, wrap_succ (show i < 4611686018427387904 by omega)]
    rw [if_pos (by omega)]
  · rintro ⟨out, q⟩ ⟨hl, hq⟩ rec
    unfold ref20_Load_l1
    simp only [dk_0, dk_1, dk_2, dk_3, c_int, c_slice, Int.lt_irrefl, decide_false, cond_false, Nat.beq_refl, cond_true]
    obtain ⟨x, hx⟩ := rEnd_eq (R := R) (N := N) p q hq fun d3 m3 =>
        (bif !decide (C.toInt (dk d3 0) = 0) then
          (k [C.slice [], dk d3 0] [])
        else
            (k [C.slice out, C.int 0] []))
    rw [hx]
    simp only [dk_0, c_int]
    by_cases he : endE (rab p q) = 0
    · simp only [he, decide_true, Bool.not_true, cond_false, if_true]
    · simp only [he, decide_false, Bool.not_false, cond_true, if_false]
end Go.Proofs.Ytnjepbgenciklaa


namespace Go.Proofs.Ytnjepbgenciklaa
open Go Go.E
set_option maxRecDepth 100000
set_option maxHeartbeats 4000000
set_option linter.unusedVariables false
noncomputable def clerk_Wish_Twin_hs : Hints := [([9], ⟨[], [(2, .as (.ptr (.l 2) [] tWish))], [], [(.l 2, .box (.d tWish))], [], []⟩)]
noncomputable def clerk_Wish_Twin_ov (N : Nat) : OvS (X0 gl0) where
  g R := [(38, cl_Hop_g N)]
  ok := fun R => List.forall_mem_cons.2 ⟨cl_Hop_ok N, fun _ h => nomatch h⟩
noncomputable def clerk_Wish_Twin_p0 {R : Type} (N : Nat) (a0 : C) (k1 : KD R) : Option R := (bif Nat.beq (List.length (C.elems (C.get a0 1))) (List.length (C.elems (C.get a0 1))) then (k1 [C.agg [C.get a0 0, C.slice (C.elems (C.get a0 1))]] []) else none)
noncomputable def clerk_Wish_Twin_p {R : Type} (N : Nat) : C → KD R → Option R := lid "clerk_Wish_Twin_p N" (clerk_Wish_Twin_p0 N)
theorem clerk_Wish_Twin_pe {R : Type} (N : Nat) (a0 : C) (k : KD R) : clerk_Wish_Twin_p N a0 k = clerk_Wish_Twin_p0 N a0 k := by unfold clerk_Wish_Twin_p; rw [lid_eq]
theorem clerk_Wish_Twin_run {R : Type} (N : Nat) (a0 : C) (K : V → List (Key × O) → Option R) : exF (X0 gl0) ((clerk_Wish_Twin_ov N).ov R) extX noX (fun f => bif Nat.beq f 14 then clerk_Wish_Twin_hs else []) N 400 8 14 [.d tWish a0] A0 K =
    clerk_Wish_Twin_p N a0 (fun d1 m1 => K (V.d tWish (dk d1 0)) []) := by
  rw [clerk_Wish_Twin_pe]
  exact (show _ = jn (fun d1 m1 => (K (V.d tWish (dk d1 0)) [])) (clerk_Wish_Twin_p0 N a0) by kernel_rfl).trans (jn_eq _ _)
noncomputable def clerk_Wish_Twin_g (N : Nat) {R : Type} : OvG R := fun xs _ K => match xs with
  | [.d t0 a0] => if t0 = tWish then clerk_Wish_Twin_p N a0 (fun d1 m1 => K (V.d tWish (dk d1 0)) []) else none
  | _ => none
theorem clerk_Wish_Twin_ok (N : Nat) {R : Type} : GOk (X0 gl0) 14 (clerk_Wish_Twin_g N (R := R)) := by
  intro xs A Kr r hr
  unfold clerk_Wish_Twin_g at hr
  split at hr
  · simp only [Option.ite_none_right_eq_some] at hr
    obtain ⟨hty, hr⟩ := hr
    subst hty
    rw [← clerk_Wish_Twin_run] at hr
    obtain ⟨v, L, h1, h2⟩ := exF_ok (ok0 gl0) (mo gl0) ((clerk_Wish_Twin_ov N).ov_ok _) (extX_ok gl0) _ _ _ _ _ _ hr
    exact ⟨v, L, h1.mono (leA_none fun _ => rfl), h2⟩
  · cases hr
end Go.Proofs.Ytnjepbgenciklaa


namespace Go.Proofs.Ytnjepbgenciklaa
open Go Go.E
set_option maxRecDepth 100000
set_option maxHeartbeats 4000000
set_option linter.unusedVariables false
noncomputable def clerk_Wish_Same_hs : Hints := [([0, 0, 1], ⟨[2, 3], [(14, .d .bool)], [], [], [], []⟩),
    ([0, 2, 1, 0, 1], ⟨[], [(4, .d .bool)], [], [], [], []⟩),
    ([9], ⟨[], [(4, .d .bool)], [], [], [], []⟩)]
noncomputable def clerk_Wish_Same_ov (N : Nat) : OvS (X0 gl0) where
  g R := []
  ok := fun R => fun _ h => nomatch h
noncomputable def clerk_Wish_Same_p0 {R : Type} (N : Nat) (a0 a1 : C) (k1 : KD R) : Option R := (jn (fun d1 m1 => (bif C.toBool (dk d1 2) then (jn (fun d2 m2 => (k1 [C.bool (C.toBool (dk d2 0))] [])) (fun k2 => (bif decide (C.toInt (C.get (dk d1 1) 0) = 3) then (k2 [C.bool (decide (C.toInt (C.get (dk d1 1) 3) = C.toInt (C.get (C.get (dk d1 0) 0) 3)))] []) else (bif decide (C.toInt (C.get (dk d1 1) 0) = 4) then (k2 [C.bool (decide (C.toInt (C.get (dk d1 1) 3) = C.toInt (C.get (C.get (dk d1 0) 0) 3)))] []) else (k2 [C.bool false] []))))) else (k1 [C.bool (C.beq (C.get (dk d1 0) 0) (dk d1 1))] []))) (fun k2 => (bif decide (C.toInt (C.get (C.get a0 0) 0) = 3) then (k2 [a0, a1, C.bool true] []) else (k2 [a0, a1, C.bool (decide (C.toInt (C.get (C.get a0 0) 0) = 4))] []))))
noncomputable def clerk_Wish_Same_p {R : Type} (N : Nat) : C → C → KD R → Option R := lid "clerk_Wish_Same_p N" (clerk_Wish_Same_p0 N)
theorem clerk_Wish_Same_pe {R : Type} (N : Nat) (a0 a1 : C) (k : KD R) : clerk_Wish_Same_p N a0 a1 k = clerk_Wish_Same_p0 N a0 a1 k := by unfold clerk_Wish_Same_p; rw [lid_eq]
theorem clerk_Wish_Same_run {R : Type} (N : Nat) (a0 a1 : C) (K : V → List (Key × O) → Option R) : exF (X0 gl0) ((clerk_Wish_Same_ov N).ov R) extX (fun f r => bif Nat.beq f 15 then (bif Nat.beq r 0 then [(2, 5), (3, 5)] else []) else []) (fun f => bif Nat.beq f 15 then clerk_Wish_Same_hs else []) N 400 8 15 [.d tWish a0, .d tOp a1] A0 K =
    clerk_Wish_Same_p N a0 a1 (fun d1 m1 => K (V.d Ty.bool (C.bool (C.toBool (dk d1 0)))) []) := by
  rw [clerk_Wish_Same_pe]
  exact (show _ = jn (fun d1 m1 => (K (V.d Ty.bool (C.bool (C.toBool (dk d1 0)))) [])) (clerk_Wish_Same_p0 N a0 a1) by kernel_rfl).trans (jn_eq _ _)
noncomputable def clerk_Wish_Same_g (N : Nat) {R : Type} : OvG R := fun xs _ K => match xs with
  | [.d t0 a0, .d t1 a1] => if t0 = tWish ∧ t1 = tOp then clerk_Wish_Same_p N a0 a1 (fun d1 m1 => K (V.d Ty.bool (C.bool (C.toBool (dk d1 0)))) []) else none
  | _ => none
theorem clerk_Wish_Same_ok (N : Nat) {R : Type} : GOk (X0 gl0) 15 (clerk_Wish_Same_g N (R := R)) := by
  intro xs A Kr r hr
  unfold clerk_Wish_Same_g at hr
  split at hr
  · simp only [Option.ite_none_right_eq_some] at hr
    obtain ⟨hty, hr⟩ := hr
    obtain ⟨rfl, rfl⟩ := hty
    rw [← clerk_Wish_Same_run] at hr
    obtain ⟨v, L, h1, h2⟩ := exF_ok (ok0 gl0) (mo gl0) ((clerk_Wish_Same_ov N).ov_ok _) (extX_ok gl0) _ _ _ _ _ _ hr
    exact ⟨v, L, h1.mono (leA_none fun _ => rfl), h2⟩
  · cases hr
end Go.Proofs.Ytnjepbgenciklaa


namespace Go.Proofs.Ytnjepbgenciklaa
open Go Go.E
set_option maxRecDepth 100000
set_option maxHeartbeats 4000000
set_option linter.unusedVariables false
noncomputable def clerk_Add_hs : Hints := [([9], ⟨[], [(4, .d (.slice 112 tWish))], [], [], [], []⟩)]
noncomputable def clerk_Add_ov (N : Nat) : OvS (X0 gl0) where
  g R := [(14, clerk_Wish_Twin_g N), (15, clerk_Wish_Same_g N), (32, cl_Wish_g N)]
  ok := fun R => List.forall_mem_cons.2 ⟨clerk_Wish_Twin_ok N, List.forall_mem_cons.2 ⟨clerk_Wish_Same_ok N, List.forall_mem_cons.2 ⟨cl_Wish_ok N, fun _ h => nomatch h⟩⟩⟩
noncomputable def clerk_Add_l1 {R : Type} (N : Nat) (k3 : KD R) (k4 : KD R) : KD R → List C → List Es → Option R := (fun k5 d1 m1 => (bif decide (C.toInt (dk d1 3) < C.toInt (dk d1 2)) then (if 0 ≤ C.toInt (dk d1 3) ∧ C.toInt (dk d1 3) < (↑(List.length (C.elems (dk d1 0))) : Int) then (jn (fun d2 m2 => (bif C.toBool (dk d2 0) then (k3 [dk d1 3] []) else (k5 [dk d1 0, dk d1 1, dk d1 2, C.int (IntKind.wrap IntKind.i64 (C.toInt (dk d1 3) + 1))] []))) (fun k6 => (clerk_Wish_Same_p N (List.getD (C.elems (dk d1 0)) (Int.toNat (C.toInt (dk d1 3))) C.nil) (C.get (dk d1 1) 0) (fun d2 m2 => (k6 [C.bool (C.toBool (dk d2 0))] []))))) else none) else (k4 [] [])))
noncomputable def clerk_Add_p0 {R : Type} (N : Nat) (a0 a1 : C) (k1 : KD R) : Option R := (jn (fun d1 m1 => (bif C.toBool (dk d1 0) then (k1 [a0] []) else (clerk_Wish_Twin_p N a1 (fun d2 m2 => (bif Nat.beq (List.length (C.elems a0)) (List.length (C.elems a0)) then (if (List.length (C.elems a0) + 1) * 112 ≤ 140737488355328 ∧ List.length (C.elems a0) + 1 ≤ 9223372036854775807 then (k1 [C.slice (C.elems a0 ++ [dk d2 0])] []) else none) else none))))) (fun k2 => (jn (fun d1 m1 => (k2 [C.bool (decide (0 ≤ C.toInt (dk d1 0)))] [])) (fun k3 => (jn (fun d1 m1 => (k3 [C.int (-1)] [])) (fun k4 => (loopK N (clerk_Add_l1 N k3 k4) [a0, a1, C.int (↑(List.length (C.elems a0)) : Int), C.int 0] [])))))))
noncomputable def clerk_Add_p {R : Type} (N : Nat) : C → C → KD R → Option R := lid "clerk_Add_p N" (clerk_Add_p0 N)
theorem clerk_Add_pe {R : Type} (N : Nat) (a0 a1 : C) (k : KD R) : clerk_Add_p N a0 a1 k = clerk_Add_p0 N a0 a1 k := by unfold clerk_Add_p; rw [lid_eq]
theorem clerk_Add_run {R : Type} (N : Nat) (a0 a1 : C) (K : V → List (Key × O) → Option R) : exF (X0 gl0) ((clerk_Add_ov N).ov R) extX (fun f r => bif Nat.beq f 10 then (bif Nat.beq r 0 then [(3, 5)] else bif Nat.beq r 3 then [(12, 7)] else []) else bif Nat.beq f 31 then (bif Nat.beq r 0 then [(2, 5)] else []) else []) (fun f => bif Nat.beq f 10 then clerk_Add_hs else bif Nat.beq f 30 then [([9], ⟨[], [(4, .d .bool)], [], [], [], []⟩)] else bif Nat.beq f 53 then [([1, 0, 1], ⟨[], [], [], [], [], []⟩), ([4, 1, 0, 1], ⟨[0, 1, 7], [(8, .d (.int .i64))], [], [], [], []⟩), ([9], ⟨[], [(4, .d (.int .i64))], [], [], [], []⟩)] else bif Nat.beq f 31 then [([9], ⟨[], [(3, .d .bool)], [], [], [], []⟩)] else []) N 400 8 10 [.d (.slice 112 tWish) a0, .d tWish a1] A0 K =
    clerk_Add_p N a0 a1 (fun d1 m1 => K (V.d (Ty.slice 112 tWish) (dk d1 0)) []) := by
  rw [clerk_Add_pe]
  exact (show _ = jn (fun d1 m1 => (K (V.d (Ty.slice 112 tWish) (dk d1 0)) [])) (clerk_Add_p0 N a0 a1) by kernel_rfl).trans (jn_eq _ _)
noncomputable def clerk_Add_g (N : Nat) {R : Type} : OvG R := fun xs _ K => match xs with
  | [.d t0 a0, .d t1 a1] => if t0 = (.slice 112 tWish) ∧ t1 = tWish then clerk_Add_p N a0 a1 (fun d1 m1 => K (V.d (Ty.slice 112 tWish) (dk d1 0)) []) else none
  | _ => none
theorem clerk_Add_ok (N : Nat) {R : Type} : GOk (X0 gl0) 10 (clerk_Add_g N (R := R)) := by
  intro xs A Kr r hr
  unfold clerk_Add_g at hr
  split at hr
  · simp only [Option.ite_none_right_eq_some] at hr
    obtain ⟨hty, hr⟩ := hr
    obtain ⟨rfl, rfl⟩ := hty
    rw [← clerk_Add_run] at hr
    obtain ⟨v, L, h1, h2⟩ := exF_ok (ok0 gl0) (mo gl0) ((clerk_Add_ov N).ov_ok _) (extX_ok gl0) _ _ _ _ _ _ hr
    exact ⟨v, L, h1.mono (leA_none fun _ => rfl), h2⟩
  · cases hr
end Go.Proofs.Ytnjepbgenciklaa


namespace Go.Proofs.Ytnjepbgenciklaa
open Go Go.E
set_option maxRecDepth 100000
set_option maxHeartbeats 4000000
set_option linter.unusedVariables false
noncomputable def clerk_Rules_Right_hs : Hints := [([0, 1], ⟨[], [(2, .d .bool)], [], [], [], []⟩),
    ([9], ⟨[], [(2, .d .bool)], [], [], [], []⟩)]
noncomputable def clerk_Rules_Right_ov (N : Nat) : OvS (X0 gl0) where
  g R := []
  ok := fun R => fun _ h => nomatch h
noncomputable def clerk_Rules_Right_p0 {R : Type} (N : Nat) (a0 : C) (k1 : KD R) : Option R := (jn (fun d1 m1 => (k1 [C.bool (C.toBool (dk d1 0))] [])) (fun k2 => (bif decide (1 ≤ C.toInt (C.get a0 1)) then (bif decide (C.toInt (C.get a0 1) ≤ 100) then (bif decide (C.toInt (C.get a0 2) ≤ 100) then (bif decide (1 ≤ C.toInt (C.get a0 3)) then (bif decide (C.toInt (C.get a0 3) ≤ 10000) then (k2 [C.bool (decide (C.toInt (C.get (C.get a0 0) 1) ≤ 1000000))] []) else (k2 [C.bool false] [])) else (k2 [C.bool false] [])) else (k2 [C.bool false] [])) else (k2 [C.bool false] [])) else (k2 [C.bool false] []))))
noncomputable def clerk_Rules_Right_p {R : Type} (N : Nat) : C → KD R → Option R := lid "clerk_Rules_Right_p N" (clerk_Rules_Right_p0 N)
theorem clerk_Rules_Right_pe {R : Type} (N : Nat) (a0 : C) (k : KD R) : clerk_Rules_Right_p N a0 k = clerk_Rules_Right_p0 N a0 k := by unfold clerk_Rules_Right_p; rw [lid_eq]
theorem clerk_Rules_Right_run {R : Type} (N : Nat) (a0 : C) (K : V → List (Key × O) → Option R) : exF (X0 gl0) ((clerk_Rules_Right_ov N).ov R) extX (fun f r => bif Nat.beq f 18 then (bif Nat.beq r 0 then [(1, 5)] else []) else []) (fun f => bif Nat.beq f 18 then clerk_Rules_Right_hs else []) N 400 8 18 [.d tRules a0] A0 K =
    clerk_Rules_Right_p N a0 (fun d1 m1 => K (V.d Ty.bool (C.bool (C.toBool (dk d1 0)))) []) := by
  rw [clerk_Rules_Right_pe]
  exact (show _ = jn (fun d1 m1 => (K (V.d Ty.bool (C.bool (C.toBool (dk d1 0)))) [])) (clerk_Rules_Right_p0 N a0) by kernel_rfl).trans (jn_eq _ _)
noncomputable def clerk_Rules_Right_g (N : Nat) {R : Type} : OvG R := fun xs _ K => match xs with
  | [.d t0 a0] => if t0 = tRules then clerk_Rules_Right_p N a0 (fun d1 m1 => K (V.d Ty.bool (C.bool (C.toBool (dk d1 0)))) []) else none
  | _ => none
theorem clerk_Rules_Right_ok (N : Nat) {R : Type} : GOk (X0 gl0) 18 (clerk_Rules_Right_g N (R := R)) := by
  intro xs A Kr r hr
  unfold clerk_Rules_Right_g at hr
  split at hr
  · simp only [Option.ite_none_right_eq_some] at hr
    obtain ⟨hty, hr⟩ := hr
    subst hty
    rw [← clerk_Rules_Right_run] at hr
    obtain ⟨v, L, h1, h2⟩ := exF_ok (ok0 gl0) (mo gl0) ((clerk_Rules_Right_ov N).ov_ok _) (extX_ok gl0) _ _ _ _ _ _ hr
    exact ⟨v, L, h1.mono (leA_none fun _ => rfl), h2⟩
  · cases hr
end Go.Proofs.Ytnjepbgenciklaa


namespace Go.Proofs.Ytnjepbgenciklaa
open Go Go.E
set_option maxRecDepth 100000
set_option maxHeartbeats 4000000
set_option linter.unusedVariables false
noncomputable def law20_awake_hs : Hints := [([0, 1, 1, 1], ⟨[], [(0, .d .bool)], [], [], [], []⟩),
    ([9], ⟨[], [(0, .d .bool)], [], [], [], []⟩)]
noncomputable def law20_awake_ov (N : Nat) : OvS (X0 gl0) where
  g R := [(10, clerk_Add_g N), (18, clerk_Rules_Right_g N)]
  ok := fun R => List.forall_mem_cons.2 ⟨clerk_Add_ok N, List.forall_mem_cons.2 ⟨clerk_Rules_Right_ok N, fun _ h => nomatch h⟩⟩
noncomputable def law20_awake_p0 {R : Type} (N : Nat) (k1 : KD R) : Option R := (clerk_Add_p N (C.slice []) (C.agg [C.agg [C.int 0, C.int 0, C.agg [C.int 0, C.int 0, C.int 0, C.agg (List.replicate 32 (C.int 0)), C.int 0], C.int 0], C.slice []]) (fun d1 m1 => (jn (fun d2 m2 => (k1 [C.bool (C.toBool (dk d2 0))] [])) (fun k2 => (clerk_Rules_Right_p N (C.set (C.set (C.agg [C.agg [C.int 0, C.int 0], C.int 0, C.int 0, C.int 0]) 1 (C.int 1)) 3 (C.int 9)) (fun d2 m2 => (bif C.toBool (dk d2 0) then (clerk_Rules_Right_p N (C.agg [C.agg [C.int 0, C.int 0], C.int 0, C.int 0, C.int 0]) (fun d3 m3 => (bif !C.toBool (dk d3 0) then (bif decide ((↑(List.length (C.elems (dk d1 0))) : Int) = 1) then (clerk_Add_p N (dk d1 0) (C.agg [C.agg [C.int 0, C.int 0, C.agg [C.int 0, C.int 0, C.int 0, C.agg (List.replicate 32 (C.int 0)), C.int 0], C.int 0], C.slice []]) (fun d4 m4 => (k2 [C.bool (decide ((↑(List.length (C.elems (dk d4 0))) : Int) = 1))] []))) else (k2 [C.bool false] [])) else (k2 [C.bool false] [])))) else (k2 [C.bool false] []))))))))
noncomputable def law20_awake_p {R : Type} (N : Nat) : KD R → Option R := lid "law20_awake_p N" (law20_awake_p0 N)
theorem law20_awake_pe {R : Type} (N : Nat)  (k : KD R) : law20_awake_p N  k = law20_awake_p0 N  k := by unfold law20_awake_p; rw [lid_eq]
theorem law20_awake_run {R : Type} (N : Nat)  (K : V → List (Key × O) → Option R) : exF (X0 gl0) ((law20_awake_ov N).ov R) extX noX (fun f => bif Nat.beq f 4 then law20_awake_hs else []) N 400 8 4 [] A0 K =
    law20_awake_p N  (fun d1 m1 => K (V.d Ty.bool (C.bool (C.toBool (dk d1 0)))) []) := by
  rw [law20_awake_pe]
  exact (show _ = jn (fun d1 m1 => (K (V.d Ty.bool (C.bool (C.toBool (dk d1 0)))) [])) (law20_awake_p0 N ) by kernel_rfl).trans (jn_eq _ _)
noncomputable def law20_awake_g (N : Nat) {R : Type} : OvG R := fun xs _ K => match xs with
  | [] => law20_awake_p N  (fun d1 m1 => K (V.d Ty.bool (C.bool (C.toBool (dk d1 0)))) [])
  | _ => none
theorem law20_awake_ok (N : Nat) {R : Type} : GOk (X0 gl0) 4 (law20_awake_g N (R := R)) := by
  intro xs A Kr r hr
  unfold law20_awake_g at hr
  split at hr
  · skip
    rw [← law20_awake_run] at hr
    obtain ⟨v, L, h1, h2⟩ := exF_ok (ok0 gl0) (mo gl0) ((law20_awake_ov N).ov_ok _) (extX_ok gl0) _ _ _ _ _ _ hr
    exact ⟨v, L, h1.mono (leA_none fun _ => rfl), h2⟩
  · cases hr
end Go.Proofs.Ytnjepbgenciklaa


namespace Go.Proofs.Ytnjepbgenciklaa
open Go Go.E
set_option maxRecDepth 100000
set_option maxHeartbeats 4000000
set_option linter.unusedVariables false
noncomputable def law10_To_hs : Hints := [([9], ⟨[], [(2, .as (.ptr (.l 2) [] tCond))], [], [(.l 2, .box (.d tCond))], [], []⟩)]
noncomputable def law10_To_ov (N : Nat) : OvS (X0 gl0) where
  g R := []
  ok := fun R => fun _ h => nomatch h
noncomputable def law10_To_p0 {R : Type} (N : Nat) (a0 : C) (k1 : KD R) : Option R := (k1 [C.set (C.set (C.set (C.set (C.set (C.agg [C.int 0, C.int 0, C.int 0, C.agg (List.replicate 32 (C.int 0)), C.int 0]) 0 (C.get a0 0)) 1 (C.get a0 1)) 2 (C.get a0 2)) 3 (C.get a0 3)) 4 (C.get a0 4)] [])
noncomputable def law10_To_p {R : Type} (N : Nat) : C → KD R → Option R := lid "law10_To_p N" (law10_To_p0 N)
theorem law10_To_pe {R : Type} (N : Nat) (a0 : C) (k : KD R) : law10_To_p N a0 k = law10_To_p0 N a0 k := by unfold law10_To_p; rw [lid_eq]
theorem law10_To_run {R : Type} (N : Nat) (a0 : C) (K : V → List (Key × O) → Option R) : exF (X0 gl0) ((law10_To_ov N).ov R) extX (fun f r => bif Nat.beq f 39 then (bif Nat.beq r 0 then [(1, 5)] else []) else []) (fun f => bif Nat.beq f 39 then law10_To_hs else []) N 400 8 39 [.d tCond a0] A0 K =
    law10_To_p N a0 (fun d1 m1 => K (V.d tCond (dk d1 0)) []) := by
  rw [law10_To_pe]
  exact (show _ = jn (fun d1 m1 => (K (V.d tCond (dk d1 0)) [])) (law10_To_p0 N a0) by kernel_rfl).trans (jn_eq _ _)
noncomputable def law10_To_g (N : Nat) {R : Type} : OvG R := fun xs _ K => match xs with
  | [.d t0 a0] => if t0 = tCond then law10_To_p N a0 (fun d1 m1 => K (V.d tCond (dk d1 0)) []) else none
  | _ => none
theorem law10_To_ok (N : Nat) {R : Type} : GOk (X0 gl0) 39 (law10_To_g N (R := R)) := by
  intro xs A Kr r hr
  unfold law10_To_g at hr
  split at hr
  · simp only [Option.ite_none_right_eq_some] at hr
    obtain ⟨hty, hr⟩ := hr
    subst hty
    rw [← law10_To_run] at hr
    obtain ⟨v, L, h1, h2⟩ := exF_ok (ok0 gl0) (mo gl0) ((law10_To_ov N).ov_ok _) (extX_ok gl0) _ _ _ _ _ _ hr
    exact ⟨v, L, h1.mono (leA_none fun _ => rfl), h2⟩
  · cases hr
end Go.Proofs.Ytnjepbgenciklaa


namespace Go.Proofs.Ytnjepbgenciklaa
open Go Go.E
set_option maxRecDepth 100000
set_option maxHeartbeats 4000000
set_option linter.unusedVariables false
noncomputable def law12_Op_hs : Hints := [([9], ⟨[], [(2, .as (.ptr (.l 2) [] tOp))], [], [(.l 2, .box (.d tOp))], [], []⟩)]
noncomputable def law12_Op_ov (N : Nat) : OvS (X0 gl0) where
  g R := [(39, law10_To_g N)]
  ok := fun R => List.forall_mem_cons.2 ⟨law10_To_ok N, fun _ h => nomatch h⟩
noncomputable def law12_Op_p0 {R : Type} (N : Nat) (a0 : C) (k1 : KD R) : Option R := (law10_To_p N (C.get a0 2) (fun d1 m1 => (k1 [C.set (C.set (C.set (C.set (C.agg [C.int 0, C.int 0, C.agg [C.int 0, C.int 0, C.int 0, C.agg (List.replicate 32 (C.int 0)), C.int 0], C.int 0]) 0 (C.get a0 0)) 1 (C.get a0 1)) 2 (dk d1 0)) 3 (C.get a0 3)] [])))
noncomputable def law12_Op_p {R : Type} (N : Nat) : C → KD R → Option R := lid "law12_Op_p N" (law12_Op_p0 N)
theorem law12_Op_pe {R : Type} (N : Nat) (a0 : C) (k : KD R) : law12_Op_p N a0 k = law12_Op_p0 N a0 k := by unfold law12_Op_p; rw [lid_eq]
theorem law12_Op_run {R : Type} (N : Nat) (a0 : C) (K : V → List (Key × O) → Option R) : exF (X0 gl0) ((law12_Op_ov N).ov R) extX (fun f r => bif Nat.beq f 16 then (bif Nat.beq r 0 then [(1, 5)] else bif Nat.beq r 1 then [(9, 7)] else []) else []) (fun f => bif Nat.beq f 16 then law12_Op_hs else []) N 400 8 16 [.d tOp a0] A0 K =
    law12_Op_p N a0 (fun d1 m1 => K (V.d tOp (dk d1 0)) []) := by
  rw [law12_Op_pe]
  exact (show _ = jn (fun d1 m1 => (K (V.d tOp (dk d1 0)) [])) (law12_Op_p0 N a0) by kernel_rfl).trans (jn_eq _ _)
noncomputable def law12_Op_g (N : Nat) {R : Type} : OvG R := fun xs _ K => match xs with
  | [.d t0 a0] => if t0 = tOp then law12_Op_p N a0 (fun d1 m1 => K (V.d tOp (dk d1 0)) []) else none
  | _ => none
theorem law12_Op_ok (N : Nat) {R : Type} : GOk (X0 gl0) 16 (law12_Op_g N (R := R)) := by
  intro xs A Kr r hr
  unfold law12_Op_g at hr
  split at hr
  · simp only [Option.ite_none_right_eq_some] at hr
    obtain ⟨hty, hr⟩ := hr
    subst hty
    rw [← law12_Op_run] at hr
    obtain ⟨v, L, h1, h2⟩ := exF_ok (ok0 gl0) (mo gl0) ((law12_Op_ov N).ov_ok _) (extX_ok gl0) _ _ _ _ _ _ hr
    exact ⟨v, L, h1.mono (leA_none fun _ => rfl), h2⟩
  · cases hr
end Go.Proofs.Ytnjepbgenciklaa


namespace Go.Proofs.Ytnjepbgenciklaa
open Go Go.E
set_option maxRecDepth 100000
set_option maxHeartbeats 4000000
set_option linter.unusedVariables false
noncomputable def law04_To_hs : Hints := [([1, 0, 1, 1], ⟨[2, 3], [], [], [], [], []⟩),
    ([4, 1, 0, 1, 1], ⟨[1, 2, 3], [(5, .d (.int .i64))], [], [], [], []⟩),
    ([9], ⟨[], [(2, .as (.ptr (.l 2) [] tSig))], [], [(.l 2, .box (.d tSig))], [], []⟩)]
noncomputable def law04_To_ov (N : Nat) : OvS (X0 gl0) where
  g R := []
  ok := fun R => fun _ h => nomatch h
noncomputable def law04_To_l1 {R : Type} (N : Nat) (k2 : KD R) : KD R → List C → List Es → Option R := (fun k3 d1 m1 => (bif decide (C.toInt (dk d1 1) < 32) then (if 0 ≤ C.toInt (dk d1 1) ∧ C.toInt (dk d1 1) < 32 then (if 0 ≤ C.toInt (dk d1 1) ∧ C.toInt (dk d1 1) < 32 then (if 0 ≤ C.toInt (dk d1 1) ∧ C.toInt (dk d1 1) < 32 then (if 0 ≤ C.toInt (dk d1 1) ∧ C.toInt (dk d1 1) < 32 then (k3 [dk d1 0, C.int (IntKind.wrap IntKind.i64 (C.toInt (dk d1 1) + 1)), dk d1 2, C.set (C.set (dk d1 3) 0 (C.set (C.get (dk d1 3) 0) (Int.toNat (C.toInt (dk d1 1))) (C.get (C.get (dk d1 0) 0) (Int.toNat (C.toInt (dk d1 1)))))) 1 (C.set (C.get (C.set (dk d1 3) 0 (C.set (C.get (dk d1 3) 0) (Int.toNat (C.toInt (dk d1 1))) (C.get (C.get (dk d1 0) 0) (Int.toNat (C.toInt (dk d1 1)))))) 1) (Int.toNat (C.toInt (dk d1 1))) (C.get (C.get (dk d1 0) 1) (Int.toNat (C.toInt (dk d1 1)))))] []) else none) else none) else none) else none) else (k2 [dk d1 2, dk d1 3] [])))
noncomputable def law04_To_p0 {R : Type} (N : Nat) (a0 : C) (k1 : KD R) : Option R := (jn (fun d1 m1 => (k1 [dk d1 1] [])) (fun k2 => (loopK N (law04_To_l1 N k2) [a0, C.int 0, C.agg [C.agg (List.replicate 32 (C.agg (List.replicate 16 (C.int 0)))), C.agg (List.replicate 32 (C.agg (List.replicate 16 (C.int 0))))], C.agg [C.agg (List.replicate 32 (C.agg (List.replicate 16 (C.int 0)))), C.agg (List.replicate 32 (C.agg (List.replicate 16 (C.int 0))))]] [])))
noncomputable def law04_To_p {R : Type} (N : Nat) : C → KD R → Option R := lid "law04_To_p N" (law04_To_p0 N)
theorem law04_To_pe {R : Type} (N : Nat) (a0 : C) (k : KD R) : law04_To_p N a0 k = law04_To_p0 N a0 k := by unfold law04_To_p; rw [lid_eq]
theorem law04_To_run {R : Type} (N : Nat) (a0 : C) (K : V → List (Key × O) → Option R) : exF (X0 gl0) ((law04_To_ov N).ov R) extX (fun f r => bif Nat.beq f 59 then (bif Nat.beq r 0 then [(1, 5)] else []) else []) (fun f => bif Nat.beq f 59 then law04_To_hs else []) N 400 8 59 [.d tSig a0] A0 K =
    law04_To_p N a0 (fun d1 m1 => K (V.d tSig (dk d1 0)) []) := by
  rw [law04_To_pe]
  exact (show _ = jn (fun d1 m1 => (K (V.d tSig (dk d1 0)) [])) (law04_To_p0 N a0) by kernel_rfl).trans (jn_eq _ _)
noncomputable def law04_To_g (N : Nat) {R : Type} : OvG R := fun xs _ K => match xs with
  | [.d t0 a0] => if t0 = tSig then law04_To_p N a0 (fun d1 m1 => K (V.d tSig (dk d1 0)) []) else none
  | _ => none
theorem law04_To_ok (N : Nat) {R : Type} : GOk (X0 gl0) 59 (law04_To_g N (R := R)) := by
  intro xs A Kr r hr
  unfold law04_To_g at hr
  split at hr
  · simp only [Option.ite_none_right_eq_some] at hr
    obtain ⟨hty, hr⟩ := hr
    subst hty
    rw [← law04_To_run] at hr
    obtain ⟨v, L, h1, h2⟩ := exF_ok (ok0 gl0) (mo gl0) ((law04_To_ov N).ov_ok _) (extX_ok gl0) _ _ _ _ _ _ hr
    exact ⟨v, L, h1.mono (leA_none fun _ => rfl), h2⟩
  · cases hr
end Go.Proofs.Ytnjepbgenciklaa


namespace Go.Proofs.Ytnjepbgenciklaa
open Go Go.E
set_option maxRecDepth 100000
set_option maxHeartbeats 4000000
set_option linter.unusedVariables false
noncomputable def law05_To_hs : Hints := [([1, 0, 1, 1], ⟨[2, 3], [], [], [(.l 3, .box (.agg tSig2 [.d tSig, .d (.int .u32), (.ts 32 (.arr 32 (.int .u8)))]))], [], []⟩),
    ([4, 1, 0, 1, 1], ⟨[2, 3, 13, 14], [(15, .d (.int .i64))], [], [(.l 3, .box (.agg tSig2 [.d tSig, .d (.int .u32), (.ts 32 (.arr 32 (.int .u8)))]))], [], []⟩),
    ([9], ⟨[], [(2, .as (.ptr (.l 2) [] tSig2))], [], [(.l 2, .box (.d tSig2))], [], []⟩)]
noncomputable def law05_To_ov (N : Nat) : OvS (X0 gl0) where
  g R := [(59, law04_To_g N)]
  ok := fun R => List.forall_mem_cons.2 ⟨law04_To_ok N, fun _ h => nomatch h⟩
noncomputable def law05_To_l1 {R : Type} (N : Nat) (k2 : KD R) : KD R → List C → List Es → Option R := (fun k3 d2 m2 => (bif decide (C.toInt (dk d2 2) < C.toInt (dk d2 1)) then (if 0 ≤ C.toInt (dk d2 2) ∧ C.toInt (dk d2 2) < (↑(List.length (C.elems (dk d2 0))) : Int) then (bif Nat.beq (List.length (C.elems (dk d2 5))) (List.length (C.elems (dk d2 5))) then (if (List.length (C.elems (dk d2 5)) + 1) * 32 ≤ 140737488355328 ∧ List.length (C.elems (dk d2 5)) + 1 ≤ 9223372036854775807 then (bif Nat.beq (List.length (C.elems (dk d2 5)) + 1) (List.length (C.elems (dk d2 5) ++ [List.getD (C.elems (dk d2 0)) (Int.toNat (C.toInt (dk d2 2))) C.nil])) then (k3 [dk d2 0, dk d2 1, C.int (IntKind.wrap IntKind.i64 (C.toInt (dk d2 2) + 1)), dk d2 3, dk d2 4, C.slice (C.elems (dk d2 5) ++ [List.getD (C.elems (dk d2 0)) (Int.toNat (C.toInt (dk d2 2))) C.nil]), dk d2 6] []) else none) else none) else none) else none) else (k2 [dk d2 3, dk d2 4, C.slice (C.elems (dk d2 5)), dk d2 6] [])))
noncomputable def law05_To_p0 {R : Type} (N : Nat) (a0 : C) (k1 : KD R) : Option R := (law04_To_p N (C.get a0 0) (fun d1 m1 => (jn (fun d2 m2 => (k1 [C.agg [dk d2 0, dk d2 1, C.slice (C.elems (dk d2 2))]] [])) (fun k2 => (loopK N (law05_To_l1 N k2) [C.get a0 2, C.int (↑(List.length (C.elems (C.get a0 2))) : Int), C.int 0, dk d1 0, C.get a0 1, C.slice [], C.agg [C.agg [C.agg (List.replicate 32 (C.agg (List.replicate 16 (C.int 0)))), C.agg (List.replicate 32 (C.agg (List.replicate 16 (C.int 0))))], zeroC (Ty.int IntKind.u32), C.slice []]] [])))))
noncomputable def law05_To_p {R : Type} (N : Nat) : C → KD R → Option R := lid "law05_To_p N" (law05_To_p0 N)
theorem law05_To_pe {R : Type} (N : Nat) (a0 : C) (k : KD R) : law05_To_p N a0 k = law05_To_p0 N a0 k := by unfold law05_To_p; rw [lid_eq]
theorem law05_To_run {R : Type} (N : Nat) (a0 : C) (K : V → List (Key × O) → Option R) : exF (X0 gl0) ((law05_To_ov N).ov R) extX (fun f r => bif Nat.beq f 40 then (bif Nat.beq r 0 then [(1, 5)] else bif Nat.beq r 1 then [(8, 7)] else []) else []) (fun f => bif Nat.beq f 40 then law05_To_hs else []) N 400 8 40 [.d tSig2 a0] A0 K =
    law05_To_p N a0 (fun d1 m1 => K (V.d tSig2 (dk d1 0)) []) := by
  rw [law05_To_pe]
  exact (show _ = jn (fun d1 m1 => (K (V.d tSig2 (dk d1 0)) [])) (law05_To_p0 N a0) by kernel_rfl).trans (jn_eq _ _)
noncomputable def law05_To_g (N : Nat) {R : Type} : OvG R := fun xs _ K => match xs with
  | [.d t0 a0] => if t0 = tSig2 then law05_To_p N a0 (fun d1 m1 => K (V.d tSig2 (dk d1 0)) []) else none
  | _ => none
theorem law05_To_ok (N : Nat) {R : Type} : GOk (X0 gl0) 40 (law05_To_g N (R := R)) := by
  intro xs A Kr r hr
  unfold law05_To_g at hr
  split at hr
  · simp only [Option.ite_none_right_eq_some] at hr
    obtain ⟨hty, hr⟩ := hr
    subst hty
    rw [← law05_To_run] at hr
    obtain ⟨v, L, h1, h2⟩ := exF_ok (ok0 gl0) (mo gl0) ((law05_To_ov N).ov_ok _) (extX_ok gl0) _ _ _ _ _ _ hr
    exact ⟨v, L, h1.mono (leA_none fun _ => rfl), h2⟩
  · cases hr
end Go.Proofs.Ytnjepbgenciklaa


namespace Go.Proofs.Ytnjepbgenciklaa
open Go Go.E
set_option maxRecDepth 100000
set_option maxHeartbeats 4000000
set_option linter.unusedVariables false
noncomputable def law18_To_hs : Hints := [([1, 0, 1, 1], ⟨[2, 3], [], [], [(.l 3, .box (.agg tMemo [.d (.int .i64), .d (.int .u32), .d (.int .u64), .d tOp, (.ts 24 tHop), .d tSig2]))], [], []⟩),
    ([4, 1, 0, 1, 1], ⟨[2, 3, 20, 21], [(22, .d (.int .i64))], [], [(.l 3, .box (.agg tMemo [.d (.int .i64), .d (.int .u32), .d (.int .u64), .d tOp, (.ts 24 tHop), .d tSig2]))], [], []⟩),
    ([9], ⟨[], [(2, .as (.ptr (.l 2) [] tMemo))], [], [(.l 2, .box (.d tMemo))], [], []⟩)]
noncomputable def law18_To_ov (N : Nat) : OvS (X0 gl0) where
  g R := [(16, law12_Op_g N), (40, law05_To_g N)]
  ok := fun R => List.forall_mem_cons.2 ⟨law12_Op_ok N, List.forall_mem_cons.2 ⟨law05_To_ok N, fun _ h => nomatch h⟩⟩
noncomputable def law18_To_l1 {R : Type} (N : Nat) (k2 : KD R) : KD R → List C → List Es → Option R := (fun k3 d3 m3 => (bif decide (C.toInt (dk d3 2) < C.toInt (dk d3 1)) then (if 0 ≤ C.toInt (dk d3 2) ∧ C.toInt (dk d3 2) < (↑(List.length (C.elems (dk d3 0))) : Int) then (bif Nat.beq (List.length (C.elems (dk d3 7))) (List.length (C.elems (dk d3 7))) then (if (List.length (C.elems (dk d3 7)) + 1) * 24 ≤ 140737488355328 ∧ List.length (C.elems (dk d3 7)) + 1 ≤ 9223372036854775807 then (bif Nat.beq (List.length (C.elems (dk d3 7)) + 1) (List.length (C.elems (dk d3 7) ++ [C.set (C.set (C.set (C.agg [C.int 0, C.int 0, C.int 0]) 0 (C.get (List.getD (C.elems (dk d3 0)) (Int.toNat (C.toInt (dk d3 2))) C.nil) 0)) 1 (C.get (List.getD (C.elems (dk d3 0)) (Int.toNat (C.toInt (dk d3 2))) C.nil) 1)) 2 (C.get (List.getD (C.elems (dk d3 0)) (Int.toNat (C.toInt (dk d3 2))) C.nil) 2)])) then (k3 [dk d3 0, dk d3 1, C.int (IntKind.wrap IntKind.i64 (C.toInt (dk d3 2) + 1)), dk d3 3, dk d3 4, dk d3 5, dk d3 6, C.slice (C.elems (dk d3 7) ++ [C.set (C.set (C.set (C.agg [C.int 0, C.int 0, C.int 0]) 0 (C.get (List.getD (C.elems (dk d3 0)) (Int.toNat (C.toInt (dk d3 2))) C.nil) 0)) 1 (C.get (List.getD (C.elems (dk d3 0)) (Int.toNat (C.toInt (dk d3 2))) C.nil) 1)) 2 (C.get (List.getD (C.elems (dk d3 0)) (Int.toNat (C.toInt (dk d3 2))) C.nil) 2)]), dk d3 8, dk d3 9] []) else none) else none) else none) else none) else (k2 [dk d3 3, dk d3 4, dk d3 5, dk d3 6, C.slice (C.elems (dk d3 7)), dk d3 8, dk d3 9] [])))
noncomputable def law18_To_p0 {R : Type} (N : Nat) (a0 : C) (k1 : KD R) : Option R := (law12_Op_p N (C.get a0 3) (fun d1 m1 => (law05_To_p N (C.get a0 5) (fun d2 m2 => (jn (fun d3 m3 => (k1 [C.agg [dk d3 0, dk d3 1, dk d3 2, dk d3 3, C.slice (C.elems (dk d3 4)), dk d3 5]] [])) (fun k2 => (loopK N (law18_To_l1 N k2) [C.get a0 4, C.int (↑(List.length (C.elems (C.get a0 4))) : Int), C.int 0, C.get a0 0, C.get a0 1, C.get a0 2, dk d1 0, C.slice [], dk d2 0, C.agg [zeroC (Ty.int IntKind.i64), zeroC (Ty.int IntKind.u32), zeroC (Ty.int IntKind.u64), C.agg [C.int 0, C.int 0, C.agg [C.int 0, C.int 0, C.int 0, C.agg (List.replicate 32 (C.int 0)), C.int 0], C.int 0], C.slice [], C.agg [C.agg [C.agg (List.replicate 32 (C.agg (List.replicate 16 (C.int 0)))), C.agg (List.replicate 32 (C.agg (List.replicate 16 (C.int 0))))], zeroC (Ty.int IntKind.u32), C.slice []]]] [])))))))
noncomputable def law18_To_p {R : Type} (N : Nat) : C → KD R → Option R := lid "law18_To_p N" (law18_To_p0 N)
theorem law18_To_pe {R : Type} (N : Nat) (a0 : C) (k : KD R) : law18_To_p N a0 k = law18_To_p0 N a0 k := by unfold law18_To_p; rw [lid_eq]
theorem law18_To_run {R : Type} (N : Nat) (a0 : C) (K : V → List (Key × O) → Option R) : exF (X0 gl0) ((law18_To_ov N).ov R) extX (fun f r => bif Nat.beq f 19 then (bif Nat.beq r 0 then [(1, 5)] else bif Nat.beq r 1 then [(14, 7), (17, 7)] else []) else []) (fun f => bif Nat.beq f 19 then law18_To_hs else []) N 400 8 19 [.d tMemo a0] A0 K =
    law18_To_p N a0 (fun d1 m1 => K (V.d tMemo (dk d1 0)) []) := by
  rw [law18_To_pe]
  exact (show _ = jn (fun d1 m1 => (K (V.d tMemo (dk d1 0)) [])) (law18_To_p0 N a0) by kernel_rfl).trans (jn_eq _ _)
noncomputable def law18_To_g (N : Nat) {R : Type} : OvG R := fun xs _ K => match xs with
  | [.d t0 a0] => if t0 = tMemo then law18_To_p N a0 (fun d1 m1 => K (V.d tMemo (dk d1 0)) []) else none
  | _ => none
theorem law18_To_ok (N : Nat) {R : Type} : GOk (X0 gl0) 19 (law18_To_g N (R := R)) := by
  intro xs A Kr r hr
  unfold law18_To_g at hr
  split at hr
  · simp only [Option.ite_none_right_eq_some] at hr
    obtain ⟨hty, hr⟩ := hr
    subst hty
    rw [← law18_To_run] at hr
    obtain ⟨v, L, h1, h2⟩ := exF_ok (ok0 gl0) (mo gl0) ((law18_To_ov N).ov_ok _) (extX_ok gl0) _ _ _ _ _ _ hr
    exact ⟨v, L, h1.mono (leA_none fun _ => rfl), h2⟩
  · cases hr
end Go.Proofs.Ytnjepbgenciklaa


namespace Go.Proofs.Ytnjepbgenciklaa
open Go Go.E
set_option maxRecDepth 100000
set_option maxHeartbeats 4000000
set_option linter.unusedVariables false
noncomputable def law20_Wishes_hs : Hints := [([1, 0, 1, 1], ⟨[], [(3, .sl 112 tWish 5003)], [], [], [], []⟩),
    ([4, 1, 0, 1, 1], ⟨[6, 7], [(3, .sl 112 tWish 5003), (8, .d (.int .i64))], [], [], [], []⟩),
    ([9], ⟨[], [(2, .sl 112 tWish 5002)], [], [], [], []⟩)]
noncomputable def law20_Wishes_ov (N : Nat) : OvS (X0 gl0) where
  g R := [(16, law12_Op_g N), (19, law18_To_g N)]
  ok := fun R => List.forall_mem_cons.2 ⟨law12_Op_ok N, List.forall_mem_cons.2 ⟨law18_To_ok N, fun _ h => nomatch h⟩⟩
noncomputable def law20_Wishes_l1 {R : Type} (N : Nat) (k2 : KD R) : KD R → List C → List Es → Option R := (fun k3 d1 m1 => (bif decide (C.toInt (dk d1 3) < C.toInt (dk d1 1)) then (if 0 ≤ C.toInt (dk d1 3) ∧ C.toInt (dk d1 3) < (↑(List.length (C.elems (dk d1 0))) : Int) then (law12_Op_p N (C.get (List.getD (C.elems (dk d1 0)) (Int.toNat (C.toInt (dk d1 3))) C.nil) 0) (fun d2 m2 => (law18_To_p N (C.agg [zeroC (Ty.int IntKind.i64), zeroC (Ty.int IntKind.u32), zeroC (Ty.int IntKind.u64), C.agg [C.int 0, C.int 0, C.agg [C.int 0, C.int 0, C.int 0, C.agg (List.replicate 32 (C.int 0)), C.int 0], C.int 0], C.get (List.getD (C.elems (dk d1 0)) (Int.toNat (C.toInt (dk d1 3))) C.nil) 1, C.agg [C.agg [C.agg (List.replicate 32 (C.agg (List.replicate 16 (C.int 0)))), C.agg (List.replicate 32 (C.agg (List.replicate 16 (C.int 0))))], zeroC (Ty.int IntKind.u32), C.slice []]]) (fun d3 m3 => (bif Nat.beq (List.length (C.elems (dk d1 2))) (List.length (C.elems (dk d1 2))) then (if (List.length (C.elems (dk d1 2)) + 1) * 112 ≤ 140737488355328 ∧ List.length (C.elems (dk d1 2)) + 1 ≤ 9223372036854775807 then (bif Nat.beq (List.length (C.elems (dk d1 2)) + 1) (List.length (C.elems (dk d1 2) ++ [C.agg [dk d2 0, C.get (dk d3 0) 4]])) then (k3 [dk d1 0, dk d1 1, C.slice (C.elems (dk d1 2) ++ [C.agg [dk d2 0, C.get (dk d3 0) 4]]), C.int (IntKind.wrap IntKind.i64 (C.toInt (dk d1 3) + 1))] []) else none) else none) else none))))) else none) else (bif Nat.beq (List.length (C.elems (dk d1 2))) (List.length (C.elems (dk d1 2))) then (k2 [C.slice (C.elems (dk d1 2))] []) else none)))
noncomputable def law20_Wishes_p0 {R : Type} (N : Nat) (a0 : C) (k1 : KD R) : Option R := (jn (fun d1 m1 => (bif Nat.beq (List.length (C.elems (dk d1 0))) (List.length (C.elems (dk d1 0))) then (k1 [C.slice (C.elems (dk d1 0))] []) else none)) (fun k2 => (loopK N (law20_Wishes_l1 N k2) [a0, C.int (↑(List.length (C.elems a0)) : Int), C.slice [], C.int 0] [])))
noncomputable def law20_Wishes_p {R : Type} (N : Nat) : C → KD R → Option R := lid "law20_Wishes_p N" (law20_Wishes_p0 N)
theorem law20_Wishes_pe {R : Type} (N : Nat) (a0 : C) (k : KD R) : law20_Wishes_p N a0 k = law20_Wishes_p0 N a0 k := by unfold law20_Wishes_p; rw [lid_eq]
theorem law20_Wishes_run {R : Type} (N : Nat) (a0 : C) (K : V → List (Key × O) → Option R) : exF (X0 gl0) ((law20_Wishes_ov N).ov R) extX (fun f r => bif Nat.beq f 5 then (bif Nat.beq r 5 then [(15, 7), (19, 7), (5, 6)] else []) else []) (fun f => bif Nat.beq f 5 then law20_Wishes_hs else []) N 400 8 5 [.d (.slice 112 tWish) a0] A0 K =
    law20_Wishes_p N a0 (fun d1 m1 => K (V.ts 112 tWish (C.elems (dk d1 0))) []) := by
  rw [law20_Wishes_pe]
  exact (show _ = jn (fun d1 m1 => (bif Nat.beq (List.length (C.elems (dk d1 0))) (List.length (C.elems (dk d1 0))) then
    (K (V.ts 112 tWish (C.elems (dk d1 0))) [])
  else
    none)) (law20_Wishes_p0 N a0) by kernel_rfl).trans ((jn_eq _ _).trans (congrArg (law20_Wishes_p0 N a0) (funext fun _ => funext fun _ => by simp only [Nat.beq_refl, cond_true])))
noncomputable def law20_Wishes_g (N : Nat) {R : Type} : OvG R := fun xs _ K => match xs with
  | [.d t0 a0] => if t0 = (.slice 112 tWish) then law20_Wishes_p N a0 (fun d1 m1 => K (V.ts 112 tWish (C.elems (dk d1 0))) []) else none
  | _ => none
theorem law20_Wishes_ok (N : Nat) {R : Type} : GOk (X0 gl0) 5 (law20_Wishes_g N (R := R)) := by
  intro xs A Kr r hr
  unfold law20_Wishes_g at hr
  split at hr
  · simp only [Option.ite_none_right_eq_some] at hr
    obtain ⟨hty, hr⟩ := hr
    subst hty
    rw [← law20_Wishes_run] at hr
    obtain ⟨v, L, h1, h2⟩ := exF_ok (ok0 gl0) (mo gl0) ((law20_Wishes_ov N).ov_ok _) (extX_ok gl0) _ _ _ _ _ _ hr
    exact ⟨v, L, h1.mono (leA_none fun _ => rfl), h2⟩
  · cases hr
end Go.Proofs.Ytnjepbgenciklaa


namespace Go.Proofs.Ytnjepbgenciklaa
open Go Go.E
set_option maxRecDepth 100000
set_option maxHeartbeats 4000000
set_option linter.unusedVariables false
noncomputable def ref20_Alike_hs : Hints := [([1, 0, 1, 1], ⟨[], [], [], [], [], []⟩),
    ([4, 1, 0, 1, 1], ⟨[0, 1], [(5, .d (.int .i64))], [], [], [], []⟩),
    ([0, 0, 4, 0, 1, 5, 4, 1, 0, 1, 1], ⟨[0, 1, 5], [(43, .d .bool)], [], [], [], []⟩),
    ([1, 1, 4, 0, 1, 5, 4, 1, 0, 1, 1], ⟨[0, 1, 5], [], [], [], [], []⟩),
    ([4, 1, 1, 4, 0, 1, 5, 4, 1, 0, 1, 1], ⟨[0, 1, 5], [(6, .d (.int .i64))], [], [], [], []⟩),
    ([9], ⟨[], [(4, .d .bool)], [], [], [], []⟩)]
noncomputable def ref20_Alike_ov (N : Nat) : OvS (X0 gl0) where
  g R := []
  ok := fun R => fun _ h => nomatch h
noncomputable def ref20_Alike_l1 {R : Type} (N : Nat) (k1 : KD R) (k4 : KD R) : KD R → List C → List Es → Option R := (fun k5 d3 m3 => (if 0 ≤ C.toInt (dk d3 2) ∧ C.toInt (dk d3 2) < (↑(List.length (C.elems (dk d3 0))) : Int) then (bif decide (C.toInt (dk d3 3) < (↑(List.length (C.elems (C.get (List.getD (C.elems (dk d3 0)) (Int.toNat (C.toInt (dk d3 2))) C.nil) 1))) : Int)) then (if 0 ≤ C.toInt (dk d3 2) ∧ C.toInt (dk d3 2) < (↑(List.length (C.elems (dk d3 0))) : Int) then (if 0 ≤ C.toInt (dk d3 3) ∧ C.toInt (dk d3 3) < (↑(List.length (C.elems (C.get (List.getD (C.elems (dk d3 0)) (Int.toNat (C.toInt (dk d3 2))) C.nil) 1))) : Int) then (if 0 ≤ C.toInt (dk d3 2) ∧ C.toInt (dk d3 2) < (↑(List.length (C.elems (dk d3 1))) : Int) then (if 0 ≤ C.toInt (dk d3 3) ∧ C.toInt (dk d3 3) < (↑(List.length (C.elems (C.get (List.getD (C.elems (dk d3 1)) (Int.toNat (C.toInt (dk d3 2))) C.nil) 1))) : Int) then (bif !C.beq (List.getD (C.elems (C.get (List.getD (C.elems (dk d3 0)) (Int.toNat (C.toInt (dk d3 2))) C.nil) 1)) (Int.toNat (C.toInt (dk d3 3))) C.nil) (List.getD (C.elems (C.get (List.getD (C.elems (dk d3 1)) (Int.toNat (C.toInt (dk d3 2))) C.nil) 1)) (Int.toNat (C.toInt (dk d3 3))) C.nil) then (k1 [C.bool false] []) else (k5 [dk d3 0, dk d3 1, dk d3 2, C.int (IntKind.wrap IntKind.i64 (C.toInt (dk d3 3) + 1))] [])) else none) else none) else none) else none) else (k4 [dk d3 0, dk d3 1, dk d3 2] [])) else none))
noncomputable def ref20_Alike_l2 {R : Type} (N : Nat) (k1 : KD R) (k2 : KD R) : KD R → List C → List Es → Option R := (fun k3 d1 m1 => (bif decide (C.toInt (dk d1 2) < (↑(List.length (C.elems (dk d1 0))) : Int)) then (jn (fun d2 m2 => (bif C.toBool (dk d2 3) then (k1 [C.bool false] []) else (jn (fun d3 m3 => (k3 [dk d3 0, dk d3 1, C.int (IntKind.wrap IntKind.i64 (C.toInt (dk d3 2) + 1))] [])) (fun k4 => (loopK N (ref20_Alike_l1 N k1 k4) [dk d2 0, dk d2 1, dk d2 2, C.int 0] []))))) (fun k4 => (if 0 ≤ C.toInt (dk d1 2) ∧ C.toInt (dk d1 2) < (↑(List.length (C.elems (dk d1 0))) : Int) then (if 0 ≤ C.toInt (dk d1 2) ∧ C.toInt (dk d1 2) < (↑(List.length (C.elems (dk d1 1))) : Int) then (bif !C.beq (C.get (List.getD (C.elems (dk d1 0)) (Int.toNat (C.toInt (dk d1 2))) C.nil) 0) (C.get (List.getD (C.elems (dk d1 1)) (Int.toNat (C.toInt (dk d1 2))) C.nil) 0) then (k4 [dk d1 0, dk d1 1, dk d1 2, C.bool true] []) else (if 0 ≤ C.toInt (dk d1 2) ∧ C.toInt (dk d1 2) < (↑(List.length (C.elems (dk d1 0))) : Int) then (if 0 ≤ C.toInt (dk d1 2) ∧ C.toInt (dk d1 2) < (↑(List.length (C.elems (dk d1 1))) : Int) then (k4 [dk d1 0, dk d1 1, dk d1 2, C.bool !decide ((↑(List.length (C.elems (C.get (List.getD (C.elems (dk d1 0)) (Int.toNat (C.toInt (dk d1 2))) C.nil) 1))) : Int) = (↑(List.length (C.elems (C.get (List.getD (C.elems (dk d1 1)) (Int.toNat (C.toInt (dk d1 2))) C.nil) 1))) : Int))] []) else none) else none)) else none) else none))) else (k2 [] [])))
noncomputable def ref20_Alike_p0 {R : Type} (N : Nat) (a0 a1 : C) (k1 : KD R) : Option R := (bif !decide ((↑(List.length (C.elems a0)) : Int) = (↑(List.length (C.elems a1)) : Int)) then (k1 [C.bool false] []) else (jn (fun d1 m1 => (k1 [C.bool true] [])) (fun k2 => (loopK N (ref20_Alike_l2 N k1 k2) [a0, a1, C.int 0] []))))
noncomputable def ref20_Alike_p {R : Type} (N : Nat) : C → C → KD R → Option R := lid "ref20_Alike_p N" (ref20_Alike_p0 N)
theorem ref20_Alike_pe {R : Type} (N : Nat) (a0 a1 : C) (k : KD R) : ref20_Alike_p N a0 a1 k = ref20_Alike_p0 N a0 a1 k := by unfold ref20_Alike_p; rw [lid_eq]
theorem ref20_Alike_run {R : Type} (N : Nat) (a0 a1 : C) (K : V → List (Key × O) → Option R) : exF (X0 gl0) ((ref20_Alike_ov N).ov R) extX noX (fun f => bif Nat.beq f 8 then ref20_Alike_hs else []) N 400 8 8 [.d (.slice 112 tWish) a0, .d (.slice 112 tWish) a1] A0 K =
    ref20_Alike_p N a0 a1 (fun d1 m1 => K (V.d Ty.bool (C.bool (C.toBool (dk d1 0)))) []) := by
  rw [ref20_Alike_pe]
  exact (show _ = jn (fun d1 m1 => (K (V.d Ty.bool (C.bool (C.toBool (dk d1 0)))) [])) (ref20_Alike_p0 N a0 a1) by kernel_rfl).trans (jn_eq _ _)
noncomputable def ref20_Alike_g (N : Nat) {R : Type} : OvG R := fun xs _ K => match xs with
  | [.d t0 a0, .d t1 a1] => if t0 = (.slice 112 tWish) ∧ t1 = (.slice 112 tWish) then ref20_Alike_p N a0 a1 (fun d1 m1 => K (V.d Ty.bool (C.bool (C.toBool (dk d1 0)))) []) else none
  | _ => none
theorem ref20_Alike_ok (N : Nat) {R : Type} : GOk (X0 gl0) 8 (ref20_Alike_g N (R := R)) := by
  intro xs A Kr r hr
  unfold ref20_Alike_g at hr
  split at hr
  · simp only [Option.ite_none_right_eq_some] at hr
    obtain ⟨hty, hr⟩ := hr
    obtain ⟨rfl, rfl⟩ := hty
    rw [← ref20_Alike_run] at hr
    obtain ⟨v, L, h1, h2⟩ := exF_ok (ok0 gl0) (mo gl0) ((ref20_Alike_ov N).ov_ok _) (extX_ok gl0) _ _ _ _ _ _ hr
    exact ⟨v, L, h1.mono (leA_none fun _ => rfl), h2⟩
  · cases hr
end Go.Proofs.Ytnjepbgenciklaa


namespace Go.Proofs.Ytnjepbgenciklaa
open Go Go.E
set_option maxRecDepth 100000
set_option maxHeartbeats 4000000
set_option linter.unusedVariables false
noncomputable def law10_From_hs : Hints := [([9], ⟨[], [(2, .as (.ptr (.l 2) [] tCond))], [], [(.l 2, .box (.d tCond))], [], []⟩)]
noncomputable def law10_From_ov (N : Nat) : OvS (X0 gl0) where
  g R := []
  ok := fun R => fun _ h => nomatch h
noncomputable def law10_From_p0 {R : Type} (N : Nat) (a0 : C) (k1 : KD R) : Option R := (k1 [C.set (C.set (C.set (C.set (C.set (C.agg [C.int 0, C.int 0, C.int 0, C.agg (List.replicate 32 (C.int 0)), C.int 0]) 0 (C.get a0 0)) 1 (C.get a0 1)) 2 (C.get a0 2)) 3 (C.get a0 3)) 4 (C.get a0 4)] [])
noncomputable def law10_From_p {R : Type} (N : Nat) : C → KD R → Option R := lid "law10_From_p N" (law10_From_p0 N)
theorem law10_From_pe {R : Type} (N : Nat) (a0 : C) (k : KD R) : law10_From_p N a0 k = law10_From_p0 N a0 k := by unfold law10_From_p; rw [lid_eq]
theorem law10_From_run {R : Type} (N : Nat) (a0 : C) (K : V → List (Key × O) → Option R) : exF (X0 gl0) ((law10_From_ov N).ov R) extX (fun f r => bif Nat.beq f 51 then (bif Nat.beq r 0 then [(1, 5)] else []) else []) (fun f => bif Nat.beq f 51 then law10_From_hs else []) N 400 8 51 [.d tCond a0] A0 K =
    law10_From_p N a0 (fun d1 m1 => K (V.d tCond (dk d1 0)) []) := by
  rw [law10_From_pe]
  exact (show _ = jn (fun d1 m1 => (K (V.d tCond (dk d1 0)) [])) (law10_From_p0 N a0) by kernel_rfl).trans (jn_eq _ _)
noncomputable def law10_From_g (N : Nat) {R : Type} : OvG R := fun xs _ K => match xs with
  | [.d t0 a0] => if t0 = tCond then law10_From_p N a0 (fun d1 m1 => K (V.d tCond (dk d1 0)) []) else none
  | _ => none
theorem law10_From_ok (N : Nat) {R : Type} : GOk (X0 gl0) 51 (law10_From_g N (R := R)) := by
  intro xs A Kr r hr
  unfold law10_From_g at hr
  split at hr
  · simp only [Option.ite_none_right_eq_some] at hr
    obtain ⟨hty, hr⟩ := hr
    subst hty
    rw [← law10_From_run] at hr
    obtain ⟨v, L, h1, h2⟩ := exF_ok (ok0 gl0) (mo gl0) ((law10_From_ov N).ov_ok _) (extX_ok gl0) _ _ _ _ _ _ hr
    exact ⟨v, L, h1.mono (leA_none fun _ => rfl), h2⟩
  · cases hr
end Go.Proofs.Ytnjepbgenciklaa


namespace Go.Proofs.Ytnjepbgenciklaa
open Go Go.E
set_option maxRecDepth 100000
set_option maxHeartbeats 4000000
set_option linter.unusedVariables false
noncomputable def law04_From_hs : Hints := [([1, 0, 1, 1], ⟨[2, 3], [], [], [], [], []⟩),
    ([4, 1, 0, 1, 1], ⟨[1, 2, 3], [(5, .d (.int .i64))], [], [], [], []⟩),
    ([9], ⟨[], [(2, .as (.ptr (.l 2) [] tSig))], [], [(.l 2, .box (.d tSig))], [], []⟩)]
noncomputable def law04_From_ov (N : Nat) : OvS (X0 gl0) where
  g R := []
  ok := fun R => fun _ h => nomatch h
noncomputable def law04_From_l1 {R : Type} (N : Nat) (k2 : KD R) : KD R → List C → List Es → Option R := (fun k3 d1 m1 => (bif decide (C.toInt (dk d1 1) < 32) then (if 0 ≤ C.toInt (dk d1 1) ∧ C.toInt (dk d1 1) < 32 then (if 0 ≤ C.toInt (dk d1 1) ∧ C.toInt (dk d1 1) < 32 then (if 0 ≤ C.toInt (dk d1 1) ∧ C.toInt (dk d1 1) < 32 then (if 0 ≤ C.toInt (dk d1 1) ∧ C.toInt (dk d1 1) < 32 then (k3 [dk d1 0, C.int (IntKind.wrap IntKind.i64 (C.toInt (dk d1 1) + 1)), dk d1 2, C.set (C.set (dk d1 3) 0 (C.set (C.get (dk d1 3) 0) (Int.toNat (C.toInt (dk d1 1))) (C.get (C.get (dk d1 0) 0) (Int.toNat (C.toInt (dk d1 1)))))) 1 (C.set (C.get (C.set (dk d1 3) 0 (C.set (C.get (dk d1 3) 0) (Int.toNat (C.toInt (dk d1 1))) (C.get (C.get (dk d1 0) 0) (Int.toNat (C.toInt (dk d1 1)))))) 1) (Int.toNat (C.toInt (dk d1 1))) (C.get (C.get (dk d1 0) 1) (Int.toNat (C.toInt (dk d1 1)))))] []) else none) else none) else none) else none) else (k2 [dk d1 2, dk d1 3] [])))
noncomputable def law04_From_p0 {R : Type} (N : Nat) (a0 : C) (k1 : KD R) : Option R := (jn (fun d1 m1 => (k1 [dk d1 1] [])) (fun k2 => (loopK N (law04_From_l1 N k2) [a0, C.int 0, C.agg [C.agg (List.replicate 32 (C.agg (List.replicate 16 (C.int 0)))), C.agg (List.replicate 32 (C.agg (List.replicate 16 (C.int 0))))], C.agg [C.agg (List.replicate 32 (C.agg (List.replicate 16 (C.int 0)))), C.agg (List.replicate 32 (C.agg (List.replicate 16 (C.int 0))))]] [])))
noncomputable def law04_From_p {R : Type} (N : Nat) : C → KD R → Option R := lid "law04_From_p N" (law04_From_p0 N)
theorem law04_From_pe {R : Type} (N : Nat) (a0 : C) (k : KD R) : law04_From_p N a0 k = law04_From_p0 N a0 k := by unfold law04_From_p; rw [lid_eq]
theorem law04_From_run {R : Type} (N : Nat) (a0 : C) (K : V → List (Key × O) → Option R) : exF (X0 gl0) ((law04_From_ov N).ov R) extX (fun f r => bif Nat.beq f 64 then (bif Nat.beq r 0 then [(1, 5)] else []) else []) (fun f => bif Nat.beq f 64 then law04_From_hs else []) N 400 8 64 [.d tSig a0] A0 K =
    law04_From_p N a0 (fun d1 m1 => K (V.d tSig (dk d1 0)) []) := by
  rw [law04_From_pe]
  exact (show _ = jn (fun d1 m1 => (K (V.d tSig (dk d1 0)) [])) (law04_From_p0 N a0) by kernel_rfl).trans (jn_eq _ _)
noncomputable def law04_From_g (N : Nat) {R : Type} : OvG R := fun xs _ K => match xs with
  | [.d t0 a0] => if t0 = tSig then law04_From_p N a0 (fun d1 m1 => K (V.d tSig (dk d1 0)) []) else none
  | _ => none
theorem law04_From_ok (N : Nat) {R : Type} : GOk (X0 gl0) 64 (law04_From_g N (R := R)) := by
  intro xs A Kr r hr
  unfold law04_From_g at hr
  split at hr
  · simp only [Option.ite_none_right_eq_some] at hr
    obtain ⟨hty, hr⟩ := hr
    subst hty
    rw [← law04_From_run] at hr
    obtain ⟨v, L, h1, h2⟩ := exF_ok (ok0 gl0) (mo gl0) ((law04_From_ov N).ov_ok _) (extX_ok gl0) _ _ _ _ _ _ hr
    exact ⟨v, L, h1.mono (leA_none fun _ => rfl), h2⟩
  · cases hr
end Go.Proofs.Ytnjepbgenciklaa


namespace Go.Proofs.Ytnjepbgenciklaa
open Go Go.E
set_option maxRecDepth 100000
set_option maxHeartbeats 4000000
set_option linter.unusedVariables false
noncomputable def law05_From_hs : Hints := [([1, 0, 1, 1], ⟨[2, 3], [], [], [(.l 3, .box (.agg tSig2 [.d tSig, .d (.int .u32), (.ts 32 (.arr 32 (.int .u8)))]))], [], []⟩),
    ([4, 1, 0, 1, 1], ⟨[2, 3, 13, 14], [(15, .d (.int .i64))], [], [(.l 3, .box (.agg tSig2 [.d tSig, .d (.int .u32), (.ts 32 (.arr 32 (.int .u8)))]))], [], []⟩),
    ([9], ⟨[], [(2, .as (.ptr (.l 2) [] tSig2))], [], [(.l 2, .box (.d tSig2))], [], []⟩)]
noncomputable def law05_From_ov (N : Nat) : OvS (X0 gl0) where
  g R := [(64, law04_From_g N)]
  ok := fun R => List.forall_mem_cons.2 ⟨law04_From_ok N, fun _ h => nomatch h⟩
noncomputable def law05_From_l1 {R : Type} (N : Nat) (k2 : KD R) : KD R → List C → List Es → Option R := (fun k3 d2 m2 => (bif decide (C.toInt (dk d2 2) < C.toInt (dk d2 1)) then (if 0 ≤ C.toInt (dk d2 2) ∧ C.toInt (dk d2 2) < (↑(List.length (C.elems (dk d2 0))) : Int) then (bif Nat.beq (List.length (C.elems (dk d2 5))) (List.length (C.elems (dk d2 5))) then (if (List.length (C.elems (dk d2 5)) + 1) * 32 ≤ 140737488355328 ∧ List.length (C.elems (dk d2 5)) + 1 ≤ 9223372036854775807 then (bif Nat.beq (List.length (C.elems (dk d2 5)) + 1) (List.length (C.elems (dk d2 5) ++ [List.getD (C.elems (dk d2 0)) (Int.toNat (C.toInt (dk d2 2))) C.nil])) then (k3 [dk d2 0, dk d2 1, C.int (IntKind.wrap IntKind.i64 (C.toInt (dk d2 2) + 1)), dk d2 3, dk d2 4, C.slice (C.elems (dk d2 5) ++ [List.getD (C.elems (dk d2 0)) (Int.toNat (C.toInt (dk d2 2))) C.nil]), dk d2 6] []) else none) else none) else none) else none) else (k2 [dk d2 3, dk d2 4, C.slice (C.elems (dk d2 5)), dk d2 6] [])))
noncomputable def law05_From_p0 {R : Type} (N : Nat) (a0 : C) (k1 : KD R) : Option R := (law04_From_p N (C.get a0 0) (fun d1 m1 => (jn (fun d2 m2 => (k1 [C.agg [dk d2 0, dk d2 1, C.slice (C.elems (dk d2 2))]] [])) (fun k2 => (loopK N (law05_From_l1 N k2) [C.get a0 2, C.int (↑(List.length (C.elems (C.get a0 2))) : Int), C.int 0, dk d1 0, C.get a0 1, C.slice [], C.agg [C.agg [C.agg (List.replicate 32 (C.agg (List.replicate 16 (C.int 0)))), C.agg (List.replicate 32 (C.agg (List.replicate 16 (C.int 0))))], zeroC (Ty.int IntKind.u32), C.slice []]] [])))))
noncomputable def law05_From_p {R : Type} (N : Nat) : C → KD R → Option R := lid "law05_From_p N" (law05_From_p0 N)
theorem law05_From_pe {R : Type} (N : Nat) (a0 : C) (k : KD R) : law05_From_p N a0 k = law05_From_p0 N a0 k := by unfold law05_From_p; rw [lid_eq]
theorem law05_From_run {R : Type} (N : Nat) (a0 : C) (K : V → List (Key × O) → Option R) : exF (X0 gl0) ((law05_From_ov N).ov R) extX (fun f r => bif Nat.beq f 52 then (bif Nat.beq r 0 then [(1, 5)] else bif Nat.beq r 1 then [(8, 7)] else []) else []) (fun f => bif Nat.beq f 52 then law05_From_hs else []) N 400 8 52 [.d tSig2 a0] A0 K =
    law05_From_p N a0 (fun d1 m1 => K (V.d tSig2 (dk d1 0)) []) := by
  rw [law05_From_pe]
  exact (show _ = jn (fun d1 m1 => (K (V.d tSig2 (dk d1 0)) [])) (law05_From_p0 N a0) by kernel_rfl).trans (jn_eq _ _)
noncomputable def law05_From_g (N : Nat) {R : Type} : OvG R := fun xs _ K => match xs with
  | [.d t0 a0] => if t0 = tSig2 then law05_From_p N a0 (fun d1 m1 => K (V.d tSig2 (dk d1 0)) []) else none
  | _ => none
theorem law05_From_ok (N : Nat) {R : Type} : GOk (X0 gl0) 52 (law05_From_g N (R := R)) := by
  intro xs A Kr r hr
  unfold law05_From_g at hr
  split at hr
  · simp only [Option.ite_none_right_eq_some] at hr
    obtain ⟨hty, hr⟩ := hr
    subst hty
    rw [← law05_From_run] at hr
    obtain ⟨v, L, h1, h2⟩ := exF_ok (ok0 gl0) (mo gl0) ((law05_From_ov N).ov_ok _) (extX_ok gl0) _ _ _ _ _ _ hr
    exact ⟨v, L, h1.mono (leA_none fun _ => rfl), h2⟩
  · cases hr
end Go.Proofs.Ytnjepbgenciklaa


namespace Go.Proofs.Ytnjepbgenciklaa
open Go Go.E
set_option maxRecDepth 100000
set_option maxHeartbeats 4000000
set_option linter.unusedVariables false
noncomputable def law18_From_hs : Hints := [([1, 0, 1, 1], ⟨[2, 3], [], [], [(.l 3, .box (.agg tMemo [.d (.int .i64), .d (.int .u32), .d (.int .u64), .d tOp, (.ts 24 tHop), .d tSig2]))], [], []⟩),
    ([4, 1, 0, 1, 1], ⟨[2, 3, 31, 32], [(33, .d (.int .i64))], [], [(.l 3, .box (.agg tMemo [.d (.int .i64), .d (.int .u32), .d (.int .u64), .d tOp, (.ts 24 tHop), .d tSig2]))], [], []⟩),
    ([9], ⟨[], [(2, .as (.ptr (.l 2) [] tMemo))], [], [(.l 2, .box (.d tMemo))], [], []⟩)]
noncomputable def law18_From_ov (N : Nat) : OvS (X0 gl0) where
  g R := [(51, law10_From_g N), (52, law05_From_g N)]
  ok := fun R => List.forall_mem_cons.2 ⟨law10_From_ok N, List.forall_mem_cons.2 ⟨law05_From_ok N, fun _ h => nomatch h⟩⟩
noncomputable def law18_From_l1 {R : Type} (N : Nat) (k2 : KD R) : KD R → List C → List Es → Option R := (fun k3 d3 m3 => (bif decide (C.toInt (dk d3 2) < C.toInt (dk d3 1)) then (if 0 ≤ C.toInt (dk d3 2) ∧ C.toInt (dk d3 2) < (↑(List.length (C.elems (dk d3 0))) : Int) then (bif Nat.beq (List.length (C.elems (dk d3 7))) (List.length (C.elems (dk d3 7))) then (if (List.length (C.elems (dk d3 7)) + 1) * 24 ≤ 140737488355328 ∧ List.length (C.elems (dk d3 7)) + 1 ≤ 9223372036854775807 then (bif Nat.beq (List.length (C.elems (dk d3 7)) + 1) (List.length (C.elems (dk d3 7) ++ [C.set (C.set (C.set (C.agg [C.int 0, C.int 0, C.int 0]) 0 (C.get (List.getD (C.elems (dk d3 0)) (Int.toNat (C.toInt (dk d3 2))) C.nil) 0)) 1 (C.get (List.getD (C.elems (dk d3 0)) (Int.toNat (C.toInt (dk d3 2))) C.nil) 1)) 2 (C.get (List.getD (C.elems (dk d3 0)) (Int.toNat (C.toInt (dk d3 2))) C.nil) 2)])) then (k3 [dk d3 0, dk d3 1, C.int (IntKind.wrap IntKind.i64 (C.toInt (dk d3 2) + 1)), dk d3 3, dk d3 4, dk d3 5, dk d3 6, C.slice (C.elems (dk d3 7) ++ [C.set (C.set (C.set (C.agg [C.int 0, C.int 0, C.int 0]) 0 (C.get (List.getD (C.elems (dk d3 0)) (Int.toNat (C.toInt (dk d3 2))) C.nil) 0)) 1 (C.get (List.getD (C.elems (dk d3 0)) (Int.toNat (C.toInt (dk d3 2))) C.nil) 1)) 2 (C.get (List.getD (C.elems (dk d3 0)) (Int.toNat (C.toInt (dk d3 2))) C.nil) 2)]), dk d3 8, dk d3 9] []) else none) else none) else none) else none) else (k2 [dk d3 3, dk d3 4, dk d3 5, dk d3 6, C.slice (C.elems (dk d3 7)), dk d3 8, dk d3 9] [])))
noncomputable def law18_From_p0 {R : Type} (N : Nat) (a0 : C) (k1 : KD R) : Option R := (law10_From_p N (C.get (C.get a0 3) 2) (fun d1 m1 => (law05_From_p N (C.get a0 5) (fun d2 m2 => (jn (fun d3 m3 => (k1 [C.agg [dk d3 0, dk d3 1, dk d3 2, dk d3 3, C.slice (C.elems (dk d3 4)), dk d3 5]] [])) (fun k2 => (loopK N (law18_From_l1 N k2) [C.get a0 4, C.int (↑(List.length (C.elems (C.get a0 4))) : Int), C.int 0, C.get a0 0, C.get a0 1, C.get a0 2, C.set (C.set (C.set (C.set (C.agg [C.int 0, C.int 0, C.agg [C.int 0, C.int 0, C.int 0, C.agg (List.replicate 32 (C.int 0)), C.int 0], C.int 0]) 0 (C.get (C.get a0 3) 0)) 1 (C.get (C.get a0 3) 1)) 2 (dk d1 0)) 3 (C.get (C.get a0 3) 3), C.slice [], dk d2 0, C.agg [zeroC (Ty.int IntKind.i64), zeroC (Ty.int IntKind.u32), zeroC (Ty.int IntKind.u64), C.agg [C.int 0, C.int 0, C.agg [C.int 0, C.int 0, C.int 0, C.agg (List.replicate 32 (C.int 0)), C.int 0], C.int 0], C.slice [], C.agg [C.agg [C.agg (List.replicate 32 (C.agg (List.replicate 16 (C.int 0)))), C.agg (List.replicate 32 (C.agg (List.replicate 16 (C.int 0))))], zeroC (Ty.int IntKind.u32), C.slice []]]] [])))))))
noncomputable def law18_From_p {R : Type} (N : Nat) : C → KD R → Option R := lid "law18_From_p N" (law18_From_p0 N)
theorem law18_From_pe {R : Type} (N : Nat) (a0 : C) (k : KD R) : law18_From_p N a0 k = law18_From_p0 N a0 k := by unfold law18_From_p; rw [lid_eq]
theorem law18_From_run {R : Type} (N : Nat) (a0 : C) (K : V → List (Key × O) → Option R) : exF (X0 gl0) ((law18_From_ov N).ov R) extX (fun f r => bif Nat.beq f 29 then (bif Nat.beq r 0 then [(1, 5)] else bif Nat.beq r 1 then [(21, 7), (28, 7)] else []) else []) (fun f => bif Nat.beq f 29 then law18_From_hs else []) N 400 8 29 [.d tMemo a0] A0 K =
    law18_From_p N a0 (fun d1 m1 => K (V.d tMemo (dk d1 0)) []) := by
  rw [law18_From_pe]
  exact (show _ = jn (fun d1 m1 => (K (V.d tMemo (dk d1 0)) [])) (law18_From_p0 N a0) by kernel_rfl).trans (jn_eq _ _)
noncomputable def law18_From_g (N : Nat) {R : Type} : OvG R := fun xs _ K => match xs with
  | [.d t0 a0] => if t0 = tMemo then law18_From_p N a0 (fun d1 m1 => K (V.d tMemo (dk d1 0)) []) else none
  | _ => none
theorem law18_From_ok (N : Nat) {R : Type} : GOk (X0 gl0) 29 (law18_From_g N (R := R)) := by
  intro xs A Kr r hr
  unfold law18_From_g at hr
  split at hr
  · simp only [Option.ite_none_right_eq_some] at hr
    obtain ⟨hty, hr⟩ := hr
    subst hty
    rw [← law18_From_run] at hr
    obtain ⟨v, L, h1, h2⟩ := exF_ok (ok0 gl0) (mo gl0) ((law18_From_ov N).ov_ok _) (extX_ok gl0) _ _ _ _ _ _ hr
    exact ⟨v, L, h1.mono (leA_none fun _ => rfl), h2⟩
  · cases hr
end Go.Proofs.Ytnjepbgenciklaa


namespace Go.Proofs.Ytnjepbgenciklaa
open Go Go.E
set_option maxRecDepth 100000
set_option maxHeartbeats 4000000
set_option linter.unusedVariables false
noncomputable def law20_From_hs : Hints := [([1, 0, 1, 1], ⟨[], [(3, .sl 112 tWish 5003)], [], [], [], []⟩),
    ([4, 1, 0, 1, 1], ⟨[7, 8], [(3, .sl 112 tWish 5003), (9, .d (.int .i64))], [], [], [], []⟩),
    ([9], ⟨[], [(2, .sl 112 tWish 5002)], [], [], [], []⟩)]
noncomputable def law20_From_ov (N : Nat) : OvS (X0 gl0) where
  g R := [(29, law18_From_g N)]
  ok := fun R => List.forall_mem_cons.2 ⟨law18_From_ok N, fun _ h => nomatch h⟩
noncomputable def law20_From_l1 {R : Type} (N : Nat) (k2 : KD R) : KD R → List C → List Es → Option R := (fun k3 d1 m1 => (bif decide (C.toInt (dk d1 3) < C.toInt (dk d1 1)) then (if 0 ≤ C.toInt (dk d1 3) ∧ C.toInt (dk d1 3) < (↑(List.length (C.elems (dk d1 0))) : Int) then (law18_From_p N (C.agg [zeroC (Ty.int IntKind.i64), zeroC (Ty.int IntKind.u32), zeroC (Ty.int IntKind.u64), C.get (List.getD (C.elems (dk d1 0)) (Int.toNat (C.toInt (dk d1 3))) C.nil) 0, C.get (List.getD (C.elems (dk d1 0)) (Int.toNat (C.toInt (dk d1 3))) C.nil) 1, C.agg [C.agg [C.agg (List.replicate 32 (C.agg (List.replicate 16 (C.int 0)))), C.agg (List.replicate 32 (C.agg (List.replicate 16 (C.int 0))))], zeroC (Ty.int IntKind.u32), C.slice []]]) (fun d2 m2 => (bif Nat.beq (List.length (C.elems (dk d1 2))) (List.length (C.elems (dk d1 2))) then (if (List.length (C.elems (dk d1 2)) + 1) * 112 ≤ 140737488355328 ∧ List.length (C.elems (dk d1 2)) + 1 ≤ 9223372036854775807 then (bif Nat.beq (List.length (C.elems (dk d1 2)) + 1) (List.length (C.elems (dk d1 2) ++ [C.agg [C.get (dk d2 0) 3, C.get (dk d2 0) 4]])) then (k3 [dk d1 0, dk d1 1, C.slice (C.elems (dk d1 2) ++ [C.agg [C.get (dk d2 0) 3, C.get (dk d2 0) 4]]), C.int (IntKind.wrap IntKind.i64 (C.toInt (dk d1 3) + 1))] []) else none) else none) else none))) else none) else (bif Nat.beq (List.length (C.elems (dk d1 2))) (List.length (C.elems (dk d1 2))) then (k2 [C.slice (C.elems (dk d1 2))] []) else none)))
noncomputable def law20_From_p0 {R : Type} (N : Nat) (a0 : C) (k1 : KD R) : Option R := (jn (fun d1 m1 => (bif Nat.beq (List.length (C.elems (dk d1 0))) (List.length (C.elems (dk d1 0))) then (k1 [C.slice (C.elems (dk d1 0))] []) else none)) (fun k2 => (loopK N (law20_From_l1 N k2) [a0, C.int (↑(List.length (C.elems a0)) : Int), C.slice [], C.int 0] [])))
noncomputable def law20_From_p {R : Type} (N : Nat) : C → KD R → Option R := lid "law20_From_p N" (law20_From_p0 N)
theorem law20_From_pe {R : Type} (N : Nat) (a0 : C) (k : KD R) : law20_From_p N a0 k = law20_From_p0 N a0 k := by unfold law20_From_p; rw [lid_eq]
theorem law20_From_run {R : Type} (N : Nat) (a0 : C) (K : V → List (Key × O) → Option R) : exF (X0 gl0) ((law20_From_ov N).ov R) extX noX (fun f => bif Nat.beq f 9 then law20_From_hs else []) N 400 8 9 [.d (.slice 112 tWish) a0] A0 K =
    law20_From_p N a0 (fun d1 m1 => K (V.ts 112 tWish (C.elems (dk d1 0))) []) := by
  rw [law20_From_pe]
  exact (show _ = jn (fun d1 m1 => (bif Nat.beq (List.length (C.elems (dk d1 0))) (List.length (C.elems (dk d1 0))) then
    (K (V.ts 112 tWish (C.elems (dk d1 0))) [])
  else
    none)) (law20_From_p0 N a0) by kernel_rfl).trans ((jn_eq _ _).trans (congrArg (law20_From_p0 N a0) (funext fun _ => funext fun _ => by simp only [Nat.beq_refl, cond_true])))
noncomputable def law20_From_g (N : Nat) {R : Type} : OvG R := fun xs _ K => match xs with
  | [.d t0 a0] => if t0 = (.slice 112 tWish) then law20_From_p N a0 (fun d1 m1 => K (V.ts 112 tWish (C.elems (dk d1 0))) []) else none
  | _ => none
theorem law20_From_ok (N : Nat) {R : Type} : GOk (X0 gl0) 9 (law20_From_g N (R := R)) := by
  intro xs A Kr r hr
  unfold law20_From_g at hr
  split at hr
  · simp only [Option.ite_none_right_eq_some] at hr
    obtain ⟨hty, hr⟩ := hr
    subst hty
    rw [← law20_From_run] at hr
    obtain ⟨v, L, h1, h2⟩ := exF_ok (ok0 gl0) (mo gl0) ((law20_From_ov N).ov_ok _) (extX_ok gl0) _ _ _ _ _ _ hr
    exact ⟨v, L, h1.mono (leA_none fun _ => rfl), h2⟩
  · cases hr
end Go.Proofs.Ytnjepbgenciklaa


namespace Go.Proofs.Ytnjepbgenciklaa
open Go Go.E
set_option maxRecDepth 100000
set_option maxHeartbeats 4000000
set_option linter.unusedVariables false
noncomputable def ref20_Same_hs : Hints := [([0, 0, 1], ⟨[2, 3], [(22, .d .bool)], [], [], [], []⟩),
    ([9], ⟨[], [(4, .d .bool)], [], [], [], []⟩)]
noncomputable def ref20_Same_ov (N : Nat) : OvS (X0 gl0) where
  g R := []
  ok := fun R => fun _ h => nomatch h
noncomputable def ref20_Same_p0 {R : Type} (N : Nat) (a0 a1 : C) (k1 : KD R) : Option R := (jn (fun d1 m1 => (bif C.toBool (dk d1 2) then (k1 [C.bool (decide (C.toInt (C.get (dk d1 0) 3) = C.toInt (C.get (dk d1 1) 3)))] []) else (k1 [C.bool (C.beq (dk d1 0) (dk d1 1))] []))) (fun k2 => (bif decide (C.toInt (C.get a0 0) = 3) then (bif decide (C.toInt (C.get a1 0) = 3) then (k2 [a0, a1, C.bool true] []) else (k2 [a0, a1, C.bool (decide (C.toInt (C.get a1 0) = 4))] [])) else (bif decide (C.toInt (C.get a0 0) = 4) then (bif decide (C.toInt (C.get a1 0) = 3) then (k2 [a0, a1, C.bool true] []) else (k2 [a0, a1, C.bool (decide (C.toInt (C.get a1 0) = 4))] [])) else (k2 [a0, a1, C.bool false] [])))))
noncomputable def ref20_Same_p {R : Type} (N : Nat) : C → C → KD R → Option R := lid "ref20_Same_p N" (ref20_Same_p0 N)
theorem ref20_Same_pe {R : Type} (N : Nat) (a0 a1 : C) (k : KD R) : ref20_Same_p N a0 a1 k = ref20_Same_p0 N a0 a1 k := by unfold ref20_Same_p; rw [lid_eq]
theorem ref20_Same_run {R : Type} (N : Nat) (a0 a1 : C) (K : V → List (Key × O) → Option R) : exF (X0 gl0) ((ref20_Same_ov N).ov R) extX (fun f r => bif Nat.beq f 17 then (bif Nat.beq r 0 then [(2, 5), (3, 5)] else []) else []) (fun f => bif Nat.beq f 17 then ref20_Same_hs else []) N 400 8 17 [.d tOp a0, .d tOp a1] A0 K =
    ref20_Same_p N a0 a1 (fun d1 m1 => K (V.d Ty.bool (C.bool (C.toBool (dk d1 0)))) []) := by
  rw [ref20_Same_pe]
  exact (show _ = jn (fun d1 m1 => (K (V.d Ty.bool (C.bool (C.toBool (dk d1 0)))) [])) (ref20_Same_p0 N a0 a1) by kernel_rfl).trans (jn_eq _ _)
noncomputable def ref20_Same_g (N : Nat) {R : Type} : OvG R := fun xs _ K => match xs with
  | [.d t0 a0, .d t1 a1] => if t0 = tOp ∧ t1 = tOp then ref20_Same_p N a0 a1 (fun d1 m1 => K (V.d Ty.bool (C.bool (C.toBool (dk d1 0)))) []) else none
  | _ => none
theorem ref20_Same_ok (N : Nat) {R : Type} : GOk (X0 gl0) 17 (ref20_Same_g N (R := R)) := by
  intro xs A Kr r hr
  unfold ref20_Same_g at hr
  split at hr
  · simp only [Option.ite_none_right_eq_some] at hr
    obtain ⟨hty, hr⟩ := hr
    obtain ⟨rfl, rfl⟩ := hty
    rw [← ref20_Same_run] at hr
    obtain ⟨v, L, h1, h2⟩ := exF_ok (ok0 gl0) (mo gl0) ((ref20_Same_ov N).ov_ok _) (extX_ok gl0) _ _ _ _ _ _ hr
    exact ⟨v, L, h1.mono (leA_none fun _ => rfl), h2⟩
  · cases hr
end Go.Proofs.Ytnjepbgenciklaa

