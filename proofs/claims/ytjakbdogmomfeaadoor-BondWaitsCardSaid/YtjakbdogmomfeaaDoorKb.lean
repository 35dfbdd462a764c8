/-
  What the functions on the way compute, part 2.
  Conditions: none.
-/
import Derived.Test.YtjakbdogmomfeaaDoorKa
set_option linter.all false
namespace Go.Proofs.YtjakbdogmomfeaaDoor
open Go Go.E
set_option maxRecDepth 100000
set_option maxHeartbeats 4000000
set_option linter.unusedVariables false
noncomputable def ring_above_hs : Hints := [([9], ⟨[], [(4, .as (.ptr (.l 4) [] (.arr 32 (.int .u8))))], [], [(.l 4, .box (.d (.arr 32 (.int .u8))))], [], []⟩)]
noncomputable def ring_above_ov (N : Nat) : OvS (X0 gl0) where
  g R := [(56, mill_For_g N)]
  ok := fun R => List.forall_mem_cons.2 ⟨mill_For_ok N, fun _ h => nomatch h⟩
noncomputable def ring_above_p0 {R : Type} (N : Nat) (a0 a1 : C) (k1 : KD R) : Option R := (mill_For_p N (C.int 3) (C.slice [C.slice (cut (C.elems a0) 0 32), C.slice (cut (C.elems a1) 0 32)]) (fun d1 m1 => (k1 [dk d1 0] [])))
noncomputable def ring_above_p {R : Type} (N : Nat) : C → C → KD R → Option R := lid "ring_above_p N" (ring_above_p0 N)
theorem ring_above_pe {R : Type} (N : Nat) (a0 a1 : C) (k : KD R) : ring_above_p N a0 a1 k = ring_above_p0 N a0 a1 k := by unfold ring_above_p; rw [lid_eq]
theorem ring_above_run {R : Type} (N : Nat) (a0 a1 : C) (K : V → List (Key × O) → Option R) : exF (X0 gl0) ((ring_above_ov N).ov R) extX (fun f r => bif Nat.beq f 55 then (bif Nat.beq r 0 then [(2, 5), (3, 5)] else bif Nat.beq r 1 then [(8, 7)] else []) else []) (fun f => bif Nat.beq f 55 then ring_above_hs else []) N 400 8 55 [.d (.arr 32 (.int .u8)) a0, .d (.arr 32 (.int .u8)) a1] A0 K =
    ring_above_p N a0 a1 (fun d1 m1 => K (V.d (Ty.arr 32 (Ty.int IntKind.u8)) (dk d1 0)) []) := by
  rw [ring_above_pe]
  exact (show _ = jn (fun d1 m1 => (K (V.d (Ty.arr 32 (Ty.int IntKind.u8)) (dk d1 0)) [])) (ring_above_p0 N a0 a1) by kernel_rfl).trans (jn_eq _ _)
noncomputable def ring_above_g (N : Nat) {R : Type} : OvG R := fun xs _ K => match xs with
  | [.d t0 a0, .d t1 a1] => if t0 = (.arr 32 (.int .u8)) ∧ t1 = (.arr 32 (.int .u8)) then ring_above_p N a0 a1 (fun d1 m1 => K (V.d (Ty.arr 32 (Ty.int IntKind.u8)) (dk d1 0)) []) else none
  | _ => none
theorem ring_above_ok (N : Nat) {R : Type} : GOk (X0 gl0) 55 (ring_above_g N (R := R)) := by
  intro xs A Kr r hr
  unfold ring_above_g at hr
  split at hr
  · simp only [Option.ite_none_right_eq_some] at hr
    obtain ⟨hty, hr⟩ := hr
    obtain ⟨rfl, rfl⟩ := hty
    rw [← ring_above_run] at hr
    obtain ⟨v, L, h1, h2⟩ := exF_ok (ok0 gl0) (mo gl0) ((ring_above_ov N).ov_ok _) (extX_ok gl0) _ _ _ _ _ _ hr
    exact ⟨v, L, h1.mono (leA_none fun _ => rfl), h2⟩
  · cases hr
end Go.Proofs.YtjakbdogmomfeaaDoor


namespace Go.Proofs.YtjakbdogmomfeaaDoor
open Go Go.E
set_option maxRecDepth 100000
set_option maxHeartbeats 4000000
set_option linter.unusedVariables false
noncomputable def ring_Sig_Right_hs : Hints := [([0, 0, 1], ⟨[3, 5, 6, 9], [(39, .d .bool)], [], [], [], []⟩),
    ([1, 0, 1, 1, 1], ⟨[6, 11], [], [], [], [], []⟩),
    ([4, 1, 0, 1, 1, 1], ⟨[6, 11, 46, 47], [(12, .d (.int .u32)), (48, .d (.int .i64))], [], [], [], []⟩),
    ([1, 0, 1, 4, 0, 1, 1, 5, 4, 1, 0, 1, 1, 1], ⟨[6, 11, 12, 14, 46, 47, 48], [], [], [], [], []⟩),
    ([9], ⟨[], [(10, .d .bool)], [], [], [], []⟩)]
noncomputable def ring_Sig_Right_ov (N : Nat) : OvS (X0 gl0) where
  g R := [(54, lamp_Sig_From_g N), (55, ring_above_g N)]
  ok := fun R => List.forall_mem_cons.2 ⟨lamp_Sig_From_ok N, List.forall_mem_cons.2 ⟨ring_above_ok N, fun _ h => nomatch h⟩⟩
noncomputable def ring_Sig_Right_l1 {R : Type} (N : Nat) (k2 : KD R) : KD R → List C → List Es → Option R := (fun k3 d3 m3 => (bif decide (C.toInt (dk d3 4) < C.toInt (dk d3 2)) then (if 0 ≤ C.toInt (dk d3 4) ∧ C.toInt (dk d3 4) < (↑(List.length (C.elems (dk d3 1))) : Int) then (jn (fun d4 m4 => (ring_above_p N (dk d4 5) (dk d4 6) (fun d5 m5 => (k3 [dk d4 0, dk d4 2, dk d4 3, C.int (Int.fdiv (C.toInt (dk d4 1)) (2 ^ min (Int.toNat 1) 32)), C.int (IntKind.wrap IntKind.i64 (C.toInt (dk d4 4) + 1)), dk d5 0] [])))) (fun k4 => (bif decide (bitsC BinOp.and IntKind.u32 (C.toInt (dk d3 3)) 1 = 1) then (k4 [dk d3 0, dk d3 3, dk d3 1, dk d3 2, dk d3 4, List.getD (C.elems (dk d3 1)) (Int.toNat (C.toInt (dk d3 4))) C.nil, dk d3 5] []) else (k4 [dk d3 0, dk d3 3, dk d3 1, dk d3 2, dk d3 4, dk d3 5, List.getD (C.elems (dk d3 1)) (Int.toNat (C.toInt (dk d3 4))) C.nil] [])))) else none) else (k2 [dk d3 0, dk d3 5] [])))
noncomputable def ring_Sig_Right_p0 {R : Type} (N : Nat) (a0 a1 a2 a3 a4 : C) (k1 : KD R) : Option R := (jn (fun d1 m1 => (bif C.toBool (dk d1 4) then (k1 [C.bool false] []) else (lamp_Sig_From_p N (C.get (dk d1 1) 0) (dk d1 3) (fun d2 m2 => (jn (fun d3 m3 => (k1 [C.bool (C.beq (dk d3 1) (dk d3 0))] [])) (fun k2 => (loopK N (ring_Sig_Right_l1 N k2) [dk d1 2, C.get (dk d1 1) 2, C.int (↑(List.length (C.elems (C.get (dk d1 1) 2))) : Int), dk d1 0, C.int 0, dk d2 0] []))))))) (fun k2 => (bif decide (C.toInt a2 < 0) then (k2 [a3, a0, a1, a4, C.bool true] []) else (bif !decide ((↑(List.length (C.elems (C.get a0 2))) : Int) = C.toInt a2) then (k2 [a3, a0, a1, a4, C.bool true] []) else (bif !decide (C.toInt (C.get a0 1) = C.toInt a3) then (k2 [a3, a0, a1, a4, C.bool true] []) else (bif decide (C.toInt a2 < 32) then (if 0 ≤ C.toInt a2 then (k2 [a3, a0, a1, a4, C.bool !decide (Int.fdiv (C.toInt a3) (2 ^ min (Int.toNat (C.toInt a2)) 32) = 0)] []) else none) else (k2 [a3, a0, a1, a4, C.bool false] [])))))))
noncomputable def ring_Sig_Right_p {R : Type} (N : Nat) : C → C → C → C → C → KD R → Option R := lid "ring_Sig_Right_p N" (ring_Sig_Right_p0 N)
theorem ring_Sig_Right_pe {R : Type} (N : Nat) (a0 a1 a2 a3 a4 : C) (k : KD R) : ring_Sig_Right_p N a0 a1 a2 a3 a4 k = ring_Sig_Right_p0 N a0 a1 a2 a3 a4 k := by unfold ring_Sig_Right_p; rw [lid_eq]
theorem ring_Sig_Right_run {R : Type} (N : Nat) (a0 a1 a2 a3 a4 : C) (K : V → List (Key × O) → Option R) : exF (X0 gl0) ((ring_Sig_Right_ov N).ov R) extX (fun f r => bif Nat.beq f 43 then (bif Nat.beq r 0 then [(5, 5), (6, 5), (9, 5)] else []) else []) (fun f => bif Nat.beq f 43 then ring_Sig_Right_hs else []) N 400 8 43 [.d tSig2 a0, .d (.arr 32 (.int .u8)) a1, .d (.int .i64) a2, .d (.int .u32) a3, .d (.arr 32 (.int .u8)) a4] A0 K =
    ring_Sig_Right_p N a0 a1 a2 a3 a4 (fun d1 m1 => K (V.d Ty.bool (C.bool (C.toBool (dk d1 0)))) []) := by
  rw [ring_Sig_Right_pe]
  exact (show _ = jn (fun d1 m1 => (K (V.d Ty.bool (C.bool (C.toBool (dk d1 0)))) [])) (ring_Sig_Right_p0 N a0 a1 a2 a3 a4) by kernel_rfl).trans (jn_eq _ _)
noncomputable def ring_Sig_Right_g (N : Nat) {R : Type} : OvG R := fun xs _ K => match xs with
  | [.d t0 a0, .d t1 a1, .d t2 a2, .d t3 a3, .d t4 a4] => if t0 = tSig2 ∧ t1 = (.arr 32 (.int .u8)) ∧ t2 = (.int .i64) ∧ t3 = (.int .u32) ∧ t4 = (.arr 32 (.int .u8)) then ring_Sig_Right_p N a0 a1 a2 a3 a4 (fun d1 m1 => K (V.d Ty.bool (C.bool (C.toBool (dk d1 0)))) []) else none
  | _ => none
theorem ring_Sig_Right_ok (N : Nat) {R : Type} : GOk (X0 gl0) 43 (ring_Sig_Right_g N (R := R)) := by
  intro xs A Kr r hr
  unfold ring_Sig_Right_g at hr
  split at hr
  · simp only [Option.ite_none_right_eq_some] at hr
    obtain ⟨hty, hr⟩ := hr
    obtain ⟨rfl, rfl, rfl, rfl, rfl⟩ := hty
    rw [← ring_Sig_Right_run] at hr
    obtain ⟨v, L, h1, h2⟩ := exF_ok (ok0 gl0) (mo gl0) ((ring_Sig_Right_ov N).ov_ok _) (extX_ok gl0) _ _ _ _ _ _ hr
    exact ⟨v, L, h1.mono (leA_none fun _ => rfl), h2⟩
  · cases hr
end Go.Proofs.YtjakbdogmomfeaaDoor


namespace Go.Proofs.YtjakbdogmomfeaaDoor
open Go Go.E
set_option maxRecDepth 100000
set_option maxHeartbeats 4000000
set_option linter.unusedVariables false
noncomputable def deed_key_hs : Hints := [([9], ⟨[], [(2, .d (.int .u32))], [], [], [], []⟩)]
noncomputable def deed_key_ov (N : Nat) : OvS (X0 gl0) where
  g R := []
  ok := fun R => fun _ h => nomatch h
noncomputable def deed_key_p0 {R : Type} (N : Nat) (a0 : C) (k1 : KD R) : Option R := (k1 [C.int (IntKind.wrap IntKind.u32 (if 2147483648 < C.toInt a0 then 2147483648 else C.toInt a0))] [])
noncomputable def deed_key_p {R : Type} (N : Nat) : C → KD R → Option R := lid "deed_key_p N" (deed_key_p0 N)
theorem deed_key_pe {R : Type} (N : Nat) (a0 : C) (k : KD R) : deed_key_p N a0 k = deed_key_p0 N a0 k := by unfold deed_key_p; rw [lid_eq]
theorem deed_key_run {R : Type} (N : Nat) (a0 : C) (K : V → List (Key × O) → Option R) : exF (X0 gl0) ((deed_key_ov N).ov R) extX noX (fun f => bif Nat.beq f 44 then deed_key_hs else []) N 400 8 44 [.d (.int .u64) a0] A0 K =
    deed_key_p N a0 (fun d1 m1 => K (V.d (Ty.int IntKind.u32) (dk d1 0)) []) := by
  rw [deed_key_pe]
  exact (show _ = jn (fun d1 m1 => (K (V.d (Ty.int IntKind.u32) (dk d1 0)) [])) (deed_key_p0 N a0) by kernel_rfl).trans (jn_eq _ _)
noncomputable def deed_key_g (N : Nat) {R : Type} : OvG R := fun xs _ K => match xs with
  | [.d t0 a0] => if t0 = (.int .u64) then deed_key_p N a0 (fun d1 m1 => K (V.d (Ty.int IntKind.u32) (dk d1 0)) []) else none
  | _ => none
theorem deed_key_ok (N : Nat) {R : Type} : GOk (X0 gl0) 44 (deed_key_g N (R := R)) := by
  intro xs A Kr r hr
  unfold deed_key_g at hr
  split at hr
  · simp only [Option.ite_none_right_eq_some] at hr
    obtain ⟨hty, hr⟩ := hr
    subst hty
    rw [← deed_key_run] at hr
    obtain ⟨v, L, h1, h2⟩ := exF_ok (ok0 gl0) (mo gl0) ((deed_key_ov N).ov_ok _) (extX_ok gl0) _ _ _ _ _ _ hr
    exact ⟨v, L, h1.mono (leA_none fun _ => rfl), h2⟩
  · cases hr
end Go.Proofs.YtjakbdogmomfeaaDoor


namespace Go.Proofs.YtjakbdogmomfeaaDoor
open Go Go.E
set_option maxRecDepth 100000
set_option maxHeartbeats 4000000
set_option linter.unusedVariables false
def octet_Out_num_as : List Sh := [.ts 1 (.int .u8), .d (.int .u64), .d (.int .i64)]
def octet_Out_num_os : List (Key × OSh) := []
noncomputable def octet_Out_num_hs : Hints := [([1, 0, 1], ⟨[], [(0, .sl 1 (.int .u8) 5000)], [], [], [], []⟩),
    ([4, 1, 0, 1], ⟨[1], [(0, .sl 1 (.int .u8) 5000), (7, .d (.int .i64))], [], [], [], []⟩),
    ([9], ⟨[], [(6, .sl 1 (.int .u8) 5006)], [], [], [], []⟩)]
noncomputable def octet_Out_num_ov (N : Nat) : OvS (X0 gl0) where
  g R := []
  ok := fun R => fun _ h => nomatch h
noncomputable def octet_Out_num_l1 {R : Type} (N : Nat) (k2 : KD R) : KD R → List C → List Es → Option R := (fun k3 d1 m1 => (bif decide (0 ≤ C.toInt (dk d1 2)) then (if 0 ≤ IntKind.wrap IntKind.i64 (8 * C.toInt (dk d1 2)) then (bif Nat.beq (List.length (C.elems (dk d1 1))) (List.length (C.elems (dk d1 1))) then (if (List.length (C.elems (dk d1 1)) + 1) * 1 ≤ 140737488355328 ∧ List.length (C.elems (dk d1 1)) + 1 ≤ 9223372036854775807 then (bif Nat.beq (List.length (C.elems (dk d1 1)) + 1) (List.length (C.elems (dk d1 1) ++ [C.int (IntKind.wrap IntKind.u8 (Int.fdiv (C.toInt (dk d1 0)) (2 ^ min (Int.toNat (IntKind.wrap IntKind.i64 (8 * C.toInt (dk d1 2)))) 64)))])) then (k3 [dk d1 0, C.slice (C.elems (dk d1 1) ++ [C.int (IntKind.wrap IntKind.u8 (Int.fdiv (C.toInt (dk d1 0)) (2 ^ min (Int.toNat (IntKind.wrap IntKind.i64 (8 * C.toInt (dk d1 2)))) 64)))]), C.int (IntKind.wrap IntKind.i64 (C.toInt (dk d1 2) - 1))] []) else none) else none) else none) else none) else (bif Nat.beq (List.length (C.elems (dk d1 1))) (List.length (C.elems (dk d1 1))) then (k2 [C.slice (C.elems (dk d1 1))] []) else none)))
noncomputable def octet_Out_num_p0 {R : Type} (N : Nat) (a0 a1 a2 : C) (k1 : KD R) : Option R := (jn (fun d1 m1 => (bif Nat.beq (List.length (C.elems (dk d1 0))) (List.length (C.elems (dk d1 0))) then (k1 [C.slice (C.elems (dk d1 0))] []) else none)) (fun k2 => (bif Nat.beq (List.length (C.elems a0)) (List.length (C.elems a0)) then (loopK N (octet_Out_num_l1 N k2) [a1, C.slice (C.elems a0), C.int (IntKind.wrap IntKind.i64 (C.toInt a2 - 1))] []) else none)))
noncomputable def octet_Out_num_p {R : Type} (N : Nat) : C → C → C → KD R → Option R := lid "octet_Out_num_p N" (octet_Out_num_p0 N)
theorem octet_Out_num_pe {R : Type} (N : Nat) (a0 a1 a2 : C) (k : KD R) : octet_Out_num_p N a0 a1 a2 k = octet_Out_num_p0 N a0 a1 a2 k := by unfold octet_Out_num_p; rw [lid_eq]
theorem octet_Out_num_run {R : Type} (N : Nat) (a0 a1 a2 : C) (K : V → List (Key × O) → Option R) : exF (X0 gl0) ((octet_Out_num_ov N).ov R) extX noX (fun f => bif Nat.beq f 67 then octet_Out_num_hs else []) N 400 8 67 (Sh.fills octet_Out_num_as 0 [a0, a1, a2]) (lookK (locFill octet_Out_num_os (Sh.manys octet_Out_num_as) 0 [a0, a1, a2] [])) K =
    octet_Out_num_p N a0 a1 a2 (fun d1 m1 => K (V.ts 1 (Ty.int IntKind.u8) (C.elems (dk d1 0))) []) := by
  rw [octet_Out_num_pe]
  exact (show _ = jn (fun d1 m1 => (bif Nat.beq (List.length (C.elems (dk d1 0))) (List.length (C.elems (dk d1 0))) then
    (K (V.ts 1 (Ty.int IntKind.u8) (C.elems (dk d1 0))) [])
  else
    none)) (octet_Out_num_p0 N a0 a1 a2) by kernel_rfl).trans ((jn_eq _ _).trans (congrArg (octet_Out_num_p0 N a0 a1 a2) (funext fun _ => funext fun _ => by simp only [Nat.beq_refl, cond_true])))
noncomputable def octet_Out_num_g (N : Nat) {R : Type} : OvG R := ptrG octet_Out_num_as octet_Out_num_os fun ds ms K => octet_Out_num_p N (dk ds 0) (dk ds 1) (dk ds 2) (fun d1 m1 => K (V.ts 1 (Ty.int IntKind.u8) (C.elems (dk d1 0))) [])
theorem octet_Out_num_ok (N : Nat) {R : Type} : GOk (X0 gl0) 67 (octet_Out_num_g N (R := R)) := by
  unfold octet_Out_num_g
  refine ptrG_ok fun ds ms K r hr => ?_
  rw [← octet_Out_num_run] at hr
  obtain ⟨v, L, h1, h2⟩ := exF_ok (ok0 gl0) (mo gl0) ((octet_Out_num_ov N).ov_ok _) (extX_ok gl0) _ _ _ _ _ _ hr
  exact ⟨v, L, h1, h2⟩
end Go.Proofs.YtjakbdogmomfeaaDoor


namespace Go.Proofs.YtjakbdogmomfeaaDoor
open Go Go.E
set_option maxRecDepth 100000
set_option maxHeartbeats 4000000
set_option linter.unusedVariables false
def octet_Out_Four_as : List Sh := [.ts 1 (.int .u8), .d (.slice 4 (.int .u32))]
def octet_Out_Four_os : List (Key × OSh) := []
noncomputable def octet_Out_Four_hs : Hints := [([1, 0, 1], ⟨[], [(0, .sl 1 (.int .u8) 5000)], [], [], [], []⟩),
    ([4, 1, 0, 1], ⟨[7, 8], [(0, .sl 1 (.int .u8) 5000), (9, .d (.int .i64))], [], [], [], []⟩),
    ([9], ⟨[], [(4, .sl 1 (.int .u8) 5004)], [], [], [], []⟩)]
noncomputable def octet_Out_Four_ov (N : Nat) : OvS (X0 gl0) where
  g R := [(67, octet_Out_num_g N)]
  ok := fun R => List.forall_mem_cons.2 ⟨octet_Out_num_ok N, fun _ h => nomatch h⟩
noncomputable def octet_Out_Four_l1 {R : Type} (N : Nat) (k2 : KD R) : KD R → List C → List Es → Option R := (fun k3 d1 m1 => (bif decide (C.toInt (dk d1 3) < C.toInt (dk d1 1)) then (if 0 ≤ C.toInt (dk d1 3) ∧ C.toInt (dk d1 3) < (↑(List.length (C.elems (dk d1 0))) : Int) then (bif Nat.beq (List.length (C.elems (dk d1 2))) (List.length (C.elems (dk d1 2))) then (octet_Out_num_p N (C.slice (C.elems (dk d1 2))) (C.int (IntKind.wrap IntKind.u64 (C.toInt (List.getD (C.elems (dk d1 0)) (Int.toNat (C.toInt (dk d1 3))) C.nil)))) (C.int 4) (fun d2 m2 => (bif Nat.beq (List.length (C.elems (dk d2 0))) (List.length (C.elems (dk d2 0))) then (k3 [dk d1 0, dk d1 1, C.slice (C.elems (dk d2 0)), C.int (IntKind.wrap IntKind.i64 (C.toInt (dk d1 3) + 1))] []) else none))) else none) else none) else (bif Nat.beq (List.length (C.elems (dk d1 2))) (List.length (C.elems (dk d1 2))) then (k2 [C.slice (C.elems (dk d1 2))] []) else none)))
noncomputable def octet_Out_Four_p0 {R : Type} (N : Nat) (a0 a1 : C) (k1 : KD R) : Option R := (jn (fun d1 m1 => (bif Nat.beq (List.length (C.elems (dk d1 0))) (List.length (C.elems (dk d1 0))) then (k1 [C.slice (C.elems (dk d1 0))] []) else none)) (fun k2 => (bif Nat.beq (List.length (C.elems a0)) (List.length (C.elems a0)) then (loopK N (octet_Out_Four_l1 N k2) [a1, C.int (↑(List.length (C.elems a1)) : Int), C.slice (C.elems a0), C.int 0] []) else none)))
noncomputable def octet_Out_Four_p {R : Type} (N : Nat) : C → C → KD R → Option R := lid "octet_Out_Four_p N" (octet_Out_Four_p0 N)
theorem octet_Out_Four_pe {R : Type} (N : Nat) (a0 a1 : C) (k : KD R) : octet_Out_Four_p N a0 a1 k = octet_Out_Four_p0 N a0 a1 k := by unfold octet_Out_Four_p; rw [lid_eq]
theorem octet_Out_Four_run {R : Type} (N : Nat) (a0 a1 : C) (K : V → List (Key × O) → Option R) : exF (X0 gl0) ((octet_Out_Four_ov N).ov R) extX (fun f r => bif Nat.beq f 57 then (bif Nat.beq r 4 then [(16, 1)] else []) else []) (fun f => bif Nat.beq f 57 then octet_Out_Four_hs else []) N 400 8 57 (Sh.fills octet_Out_Four_as 0 [a0, a1]) (lookK (locFill octet_Out_Four_os (Sh.manys octet_Out_Four_as) 0 [a0, a1] [])) K =
    octet_Out_Four_p N a0 a1 (fun d1 m1 => K (V.ts 1 (Ty.int IntKind.u8) (C.elems (dk d1 0))) []) := by
  rw [octet_Out_Four_pe]
  exact (show _ = jn (fun d1 m1 => (bif Nat.beq (List.length (C.elems (dk d1 0))) (List.length (C.elems (dk d1 0))) then
    (K (V.ts 1 (Ty.int IntKind.u8) (C.elems (dk d1 0))) [])
  else
    none)) (octet_Out_Four_p0 N a0 a1) by kernel_rfl).trans ((jn_eq _ _).trans (congrArg (octet_Out_Four_p0 N a0 a1) (funext fun _ => funext fun _ => by simp only [Nat.beq_refl, cond_true])))
noncomputable def octet_Out_Four_g (N : Nat) {R : Type} : OvG R := ptrG octet_Out_Four_as octet_Out_Four_os fun ds ms K => octet_Out_Four_p N (dk ds 0) (dk ds 1) (fun d1 m1 => K (V.ts 1 (Ty.int IntKind.u8) (C.elems (dk d1 0))) [])
theorem octet_Out_Four_ok (N : Nat) {R : Type} : GOk (X0 gl0) 57 (octet_Out_Four_g N (R := R)) := by
  unfold octet_Out_Four_g
  refine ptrG_ok fun ds ms K r hr => ?_
  rw [← octet_Out_Four_run] at hr
  obtain ⟨v, L, h1, h2⟩ := exF_ok (ok0 gl0) (mo gl0) ((octet_Out_Four_ov N).ov_ok _) (extX_ok gl0) _ _ _ _ _ _ hr
  exact ⟨v, L, h1, h2⟩
end Go.Proofs.YtjakbdogmomfeaaDoor


namespace Go.Proofs.YtjakbdogmomfeaaDoor
open Go Go.E
set_option maxRecDepth 100000
set_option maxHeartbeats 4000000
set_option linter.unusedVariables false
def octet_Out_Eight_as : List Sh := [.ts 1 (.int .u8), .d (.slice 8 (.int .u64))]
def octet_Out_Eight_os : List (Key × OSh) := []
noncomputable def octet_Out_Eight_hs : Hints := [([1, 0, 1], ⟨[], [(0, .sl 1 (.int .u8) 5000)], [], [], [], []⟩),
    ([4, 1, 0, 1], ⟨[7, 8], [(0, .sl 1 (.int .u8) 5000), (9, .d (.int .i64))], [], [], [], []⟩),
    ([9], ⟨[], [(4, .sl 1 (.int .u8) 5004)], [], [], [], []⟩)]
noncomputable def octet_Out_Eight_ov (N : Nat) : OvS (X0 gl0) where
  g R := [(67, octet_Out_num_g N)]
  ok := fun R => List.forall_mem_cons.2 ⟨octet_Out_num_ok N, fun _ h => nomatch h⟩
noncomputable def octet_Out_Eight_l1 {R : Type} (N : Nat) (k2 : KD R) : KD R → List C → List Es → Option R := (fun k3 d1 m1 => (bif decide (C.toInt (dk d1 3) < C.toInt (dk d1 1)) then (if 0 ≤ C.toInt (dk d1 3) ∧ C.toInt (dk d1 3) < (↑(List.length (C.elems (dk d1 0))) : Int) then (bif Nat.beq (List.length (C.elems (dk d1 2))) (List.length (C.elems (dk d1 2))) then (octet_Out_num_p N (C.slice (C.elems (dk d1 2))) (List.getD (C.elems (dk d1 0)) (Int.toNat (C.toInt (dk d1 3))) C.nil) (C.int 8) (fun d2 m2 => (bif Nat.beq (List.length (C.elems (dk d2 0))) (List.length (C.elems (dk d2 0))) then (k3 [dk d1 0, dk d1 1, C.slice (C.elems (dk d2 0)), C.int (IntKind.wrap IntKind.i64 (C.toInt (dk d1 3) + 1))] []) else none))) else none) else none) else (bif Nat.beq (List.length (C.elems (dk d1 2))) (List.length (C.elems (dk d1 2))) then (k2 [C.slice (C.elems (dk d1 2))] []) else none)))
noncomputable def octet_Out_Eight_p0 {R : Type} (N : Nat) (a0 a1 : C) (k1 : KD R) : Option R := (jn (fun d1 m1 => (bif Nat.beq (List.length (C.elems (dk d1 0))) (List.length (C.elems (dk d1 0))) then (k1 [C.slice (C.elems (dk d1 0))] []) else none)) (fun k2 => (bif Nat.beq (List.length (C.elems a0)) (List.length (C.elems a0)) then (loopK N (octet_Out_Eight_l1 N k2) [a1, C.int (↑(List.length (C.elems a1)) : Int), C.slice (C.elems a0), C.int 0] []) else none)))
noncomputable def octet_Out_Eight_p {R : Type} (N : Nat) : C → C → KD R → Option R := lid "octet_Out_Eight_p N" (octet_Out_Eight_p0 N)
theorem octet_Out_Eight_pe {R : Type} (N : Nat) (a0 a1 : C) (k : KD R) : octet_Out_Eight_p N a0 a1 k = octet_Out_Eight_p0 N a0 a1 k := by unfold octet_Out_Eight_p; rw [lid_eq]
theorem octet_Out_Eight_run {R : Type} (N : Nat) (a0 a1 : C) (K : V → List (Key × O) → Option R) : exF (X0 gl0) ((octet_Out_Eight_ov N).ov R) extX (fun f r => bif Nat.beq f 68 then (bif Nat.beq r 4 then [(15, 1)] else []) else []) (fun f => bif Nat.beq f 68 then octet_Out_Eight_hs else []) N 400 8 68 (Sh.fills octet_Out_Eight_as 0 [a0, a1]) (lookK (locFill octet_Out_Eight_os (Sh.manys octet_Out_Eight_as) 0 [a0, a1] [])) K =
    octet_Out_Eight_p N a0 a1 (fun d1 m1 => K (V.ts 1 (Ty.int IntKind.u8) (C.elems (dk d1 0))) []) := by
  rw [octet_Out_Eight_pe]
  exact (show _ = jn (fun d1 m1 => (bif Nat.beq (List.length (C.elems (dk d1 0))) (List.length (C.elems (dk d1 0))) then
    (K (V.ts 1 (Ty.int IntKind.u8) (C.elems (dk d1 0))) [])
  else
    none)) (octet_Out_Eight_p0 N a0 a1) by kernel_rfl).trans ((jn_eq _ _).trans (congrArg (octet_Out_Eight_p0 N a0 a1) (funext fun _ => funext fun _ => by simp only [Nat.beq_refl, cond_true])))
noncomputable def octet_Out_Eight_g (N : Nat) {R : Type} : OvG R := ptrG octet_Out_Eight_as octet_Out_Eight_os fun ds ms K => octet_Out_Eight_p N (dk ds 0) (dk ds 1) (fun d1 m1 => K (V.ts 1 (Ty.int IntKind.u8) (C.elems (dk d1 0))) [])
theorem octet_Out_Eight_ok (N : Nat) {R : Type} : GOk (X0 gl0) 68 (octet_Out_Eight_g N (R := R)) := by
  unfold octet_Out_Eight_g
  refine ptrG_ok fun ds ms K r hr => ?_
  rw [← octet_Out_Eight_run] at hr
  obtain ⟨v, L, h1, h2⟩ := exF_ok (ok0 gl0) (mo gl0) ((octet_Out_Eight_ov N).ov_ok _) (extX_ok gl0) _ _ _ _ _ _ hr
  exact ⟨v, L, h1, h2⟩
end Go.Proofs.YtjakbdogmomfeaaDoor


namespace Go.Proofs.YtjakbdogmomfeaaDoor
open Go Go.E
set_option maxRecDepth 100000
set_option maxHeartbeats 4000000
set_option linter.unusedVariables false
def octet_Out_One_as : List Sh := [.ts 1 (.int .u8), .d (.slice 1 (.int .u8))]
def octet_Out_One_os : List (Key × OSh) := []
noncomputable def octet_Out_One_hs : Hints := [([9], ⟨[], [(4, .sl 1 (.int .u8) 5004)], [], [], [], []⟩)]
noncomputable def octet_Out_One_ov (N : Nat) : OvS (X0 gl0) where
  g R := []
  ok := fun R => fun _ h => nomatch h
noncomputable def octet_Out_One_p0 {R : Type} (N : Nat) (a0 a1 : C) (k1 : KD R) : Option R := (bif Nat.beq (List.length (C.elems a0)) (List.length (C.elems a0)) then (if (List.length (C.elems a0) + List.length (C.elems a1)) * 1 ≤ 140737488355328 ∧ List.length (C.elems a0) + List.length (C.elems a1) ≤ 9223372036854775807 then (bif Nat.beq (List.length (C.elems a0) + List.length (C.elems a1)) (List.length (C.elems a0 ++ C.elems a1)) then (k1 [C.slice (C.elems a0 ++ C.elems a1)] []) else none) else none) else none)
noncomputable def octet_Out_One_p {R : Type} (N : Nat) : C → C → KD R → Option R := lid "octet_Out_One_p N" (octet_Out_One_p0 N)
theorem octet_Out_One_pe {R : Type} (N : Nat) (a0 a1 : C) (k : KD R) : octet_Out_One_p N a0 a1 k = octet_Out_One_p0 N a0 a1 k := by unfold octet_Out_One_p; rw [lid_eq]
theorem octet_Out_One_run {R : Type} (N : Nat) (a0 a1 : C) (K : V → List (Key × O) → Option R) : exF (X0 gl0) ((octet_Out_One_ov N).ov R) extX noX (fun f => bif Nat.beq f 69 then octet_Out_One_hs else []) N 400 8 69 (Sh.fills octet_Out_One_as 0 [a0, a1]) (lookK (locFill octet_Out_One_os (Sh.manys octet_Out_One_as) 0 [a0, a1] [])) K =
    octet_Out_One_p N a0 a1 (fun d1 m1 => K (V.ts 1 (Ty.int IntKind.u8) (C.elems (dk d1 0))) []) := by
  rw [octet_Out_One_pe]
  exact (show _ = jn (fun d1 m1 => (bif Nat.beq (List.length (C.elems (dk d1 0))) (List.length (C.elems (dk d1 0))) then
    (K (V.ts 1 (Ty.int IntKind.u8) (C.elems (dk d1 0))) [])
  else
    none)) (octet_Out_One_p0 N a0 a1) by kernel_rfl).trans ((jn_eq _ _).trans (congrArg (octet_Out_One_p0 N a0 a1) (funext fun _ => funext fun _ => by simp only [Nat.beq_refl, cond_true])))
noncomputable def octet_Out_One_g (N : Nat) {R : Type} : OvG R := ptrG octet_Out_One_as octet_Out_One_os fun ds ms K => octet_Out_One_p N (dk ds 0) (dk ds 1) (fun d1 m1 => K (V.ts 1 (Ty.int IntKind.u8) (C.elems (dk d1 0))) [])
theorem octet_Out_One_ok (N : Nat) {R : Type} : GOk (X0 gl0) 69 (octet_Out_One_g N (R := R)) := by
  unfold octet_Out_One_g
  refine ptrG_ok fun ds ms K r hr => ?_
  rw [← octet_Out_One_run] at hr
  obtain ⟨v, L, h1, h2⟩ := exF_ok (ok0 gl0) (mo gl0) ((octet_Out_One_ov N).ov_ok _) (extX_ok gl0) _ _ _ _ _ _ hr
  exact ⟨v, L, h1, h2⟩
end Go.Proofs.YtjakbdogmomfeaaDoor


namespace Go.Proofs.YtjakbdogmomfeaaDoor
open Go Go.E
set_option maxRecDepth 100000
set_option maxHeartbeats 4000000
set_option linter.unusedVariables false
def octet_Out_Sum_as : List Sh := [.ts 1 (.int .u8), .d (.slice 32 (.arr 32 (.int .u8)))]
def octet_Out_Sum_os : List (Key × OSh) := []
noncomputable def octet_Out_Sum_hs : Hints := [([1, 0, 1], ⟨[], [(0, .sl 1 (.int .u8) 5000)], [], [], [], []⟩),
    ([4, 1, 0, 1], ⟨[7, 8], [(0, .sl 1 (.int .u8) 5000), (9, .d (.int .i64))], [], [], [], []⟩),
    ([9], ⟨[], [(4, .sl 1 (.int .u8) 5004)], [], [], [], []⟩)]
noncomputable def octet_Out_Sum_ov (N : Nat) : OvS (X0 gl0) where
  g R := []
  ok := fun R => fun _ h => nomatch h
noncomputable def octet_Out_Sum_l1 {R : Type} (N : Nat) (k2 : KD R) : KD R → List C → List Es → Option R := (fun k3 d1 m1 => (bif decide (C.toInt (dk d1 3) < C.toInt (dk d1 1)) then (if 0 ≤ C.toInt (dk d1 3) ∧ C.toInt (dk d1 3) < (↑(List.length (C.elems (dk d1 0))) : Int) then (bif Nat.beq (List.length (C.elems (dk d1 2))) (List.length (C.elems (dk d1 2))) then (if (List.length (C.elems (dk d1 2)) + List.length (List.take 32 (List.drop 0 (C.elems (List.getD (C.elems (dk d1 0)) (Int.toNat (C.toInt (dk d1 3))) C.nil))))) * 1 ≤ 140737488355328 ∧ List.length (C.elems (dk d1 2)) + List.length (List.take 32 (List.drop 0 (C.elems (List.getD (C.elems (dk d1 0)) (Int.toNat (C.toInt (dk d1 3))) C.nil)))) ≤ 9223372036854775807 then (bif Nat.beq (List.length (C.elems (dk d1 2)) + List.length (List.take 32 (List.drop 0 (C.elems (List.getD (C.elems (dk d1 0)) (Int.toNat (C.toInt (dk d1 3))) C.nil))))) (List.length (C.elems (dk d1 2) ++ List.take 32 (List.drop 0 (C.elems (List.getD (C.elems (dk d1 0)) (Int.toNat (C.toInt (dk d1 3))) C.nil))))) then (k3 [dk d1 0, dk d1 1, C.slice (C.elems (dk d1 2) ++ List.take 32 (List.drop 0 (C.elems (List.getD (C.elems (dk d1 0)) (Int.toNat (C.toInt (dk d1 3))) C.nil)))), C.int (IntKind.wrap IntKind.i64 (C.toInt (dk d1 3) + 1))] []) else none) else none) else none) else none) else (bif Nat.beq (List.length (C.elems (dk d1 2))) (List.length (C.elems (dk d1 2))) then (k2 [C.slice (C.elems (dk d1 2))] []) else none)))
noncomputable def octet_Out_Sum_p0 {R : Type} (N : Nat) (a0 a1 a2 : C) (k1 : KD R) : Option R := (jn (fun d1 m1 => (bif Nat.beq (List.length (C.elems (dk d1 0))) (List.length (C.elems (dk d1 0))) then (k1 [C.slice (C.elems (dk d1 0))] []) else none)) (fun k2 => (bif Nat.beq (List.length (C.elems a0)) (List.length (C.elems a0)) then (loopK N (octet_Out_Sum_l1 N k2) [a1, C.int (↑(List.length (C.elems a1)) : Int), C.slice (C.elems a0), C.int 0] []) else none)))
noncomputable def octet_Out_Sum_p {R : Type} (N : Nat) : C → C → C → KD R → Option R := lid "octet_Out_Sum_p N" (octet_Out_Sum_p0 N)
theorem octet_Out_Sum_pe {R : Type} (N : Nat) (a0 a1 a2 : C) (k : KD R) : octet_Out_Sum_p N a0 a1 a2 k = octet_Out_Sum_p0 N a0 a1 a2 k := by unfold octet_Out_Sum_p; rw [lid_eq]
theorem octet_Out_Sum_run {R : Type} (N : Nat) (a0 a1 a2 : C) (K : V → List (Key × O) → Option R) : exF (X0 gl0) ((octet_Out_Sum_ov N).ov R) extX noX (fun f => bif Nat.beq f 72 then octet_Out_Sum_hs else []) N 400 8 72 (Sh.fills octet_Out_Sum_as 0 [a0, a1, a2]) (lookK (locFill octet_Out_Sum_os (Sh.manys octet_Out_Sum_as) 0 [a0, a1, a2] [])) K =
    octet_Out_Sum_p N a0 a1 a2 (fun d1 m1 => K (V.ts 1 (Ty.int IntKind.u8) (C.elems (dk d1 0))) []) := by
  rw [octet_Out_Sum_pe]
  exact (show _ = jn (fun d1 m1 => (bif Nat.beq (List.length (C.elems (dk d1 0))) (List.length (C.elems (dk d1 0))) then
    (K (V.ts 1 (Ty.int IntKind.u8) (C.elems (dk d1 0))) [])
  else
    none)) (octet_Out_Sum_p0 N a0 a1 a2) by kernel_rfl).trans ((jn_eq _ _).trans (congrArg (octet_Out_Sum_p0 N a0 a1 a2) (funext fun _ => funext fun _ => by simp only [Nat.beq_refl, cond_true])))
noncomputable def octet_Out_Sum_g (N : Nat) {R : Type} : OvG R := ptrG octet_Out_Sum_as octet_Out_Sum_os fun ds ms K => octet_Out_Sum_p N (dk ds 0) (dk ds 1) (dk ds 2) (fun d1 m1 => K (V.ts 1 (Ty.int IntKind.u8) (C.elems (dk d1 0))) [])
theorem octet_Out_Sum_ok (N : Nat) {R : Type} : GOk (X0 gl0) 72 (octet_Out_Sum_g N (R := R)) := by
  unfold octet_Out_Sum_g
  refine ptrG_ok fun ds ms K r hr => ?_
  rw [← octet_Out_Sum_run] at hr
  obtain ⟨v, L, h1, h2⟩ := exF_ok (ok0 gl0) (mo gl0) ((octet_Out_Sum_ov N).ov_ok _) (extX_ok gl0) _ _ _ _ _ _ hr
  exact ⟨v, L, h1, h2⟩
end Go.Proofs.YtjakbdogmomfeaaDoor


namespace Go.Proofs.YtjakbdogmomfeaaDoor
open Go Go.E
set_option maxRecDepth 100000
set_option maxHeartbeats 4000000
set_option linter.unusedVariables false
def deed_layCond_as : List Sh := [.ts 1 (.int .u8), .d tCond]
def deed_layCond_os : List (Key × OSh) := []
noncomputable def deed_layCond_hs : Hints := [([9], ⟨[], [(4, .sl 1 (.int .u8) 5004)], [], [], [], []⟩)]
noncomputable def deed_layCond_ov (N : Nat) : OvS (X0 gl0) where
  g R := [(68, octet_Out_Eight_g N), (69, octet_Out_One_g N), (72, octet_Out_Sum_g N)]
  ok := fun R => List.forall_mem_cons.2 ⟨octet_Out_Eight_ok N, List.forall_mem_cons.2 ⟨octet_Out_One_ok N, List.forall_mem_cons.2 ⟨octet_Out_Sum_ok N, fun _ h => nomatch h⟩⟩⟩
noncomputable def deed_layCond_p0 {R : Type} (N : Nat) (a0 a1 : C) (k1 : KD R) : Option R := (bif Nat.beq (List.length (C.elems a0)) (List.length (C.elems a0)) then (octet_Out_Eight_p N (C.slice (C.elems a0)) (C.slice [C.get a1 0]) (fun d1 m1 => (bif Nat.beq (List.length (C.elems (dk d1 0))) (List.length (C.elems (dk d1 0))) then (octet_Out_One_p N (C.slice (C.elems (dk d1 0))) (C.slice [C.int (IntKind.wrap IntKind.u8 (C.toInt (C.get a1 1)))]) (fun d2 m2 => (bif Nat.beq (List.length (C.elems (dk d2 0))) (List.length (C.elems (dk d2 0))) then (octet_Out_Eight_p N (C.slice (C.elems (dk d2 0))) (C.slice [C.get a1 2]) (fun d3 m3 => (bif Nat.beq (List.length (C.elems (dk d3 0))) (List.length (C.elems (dk d3 0))) then (octet_Out_Sum_p N (C.slice (C.elems (dk d3 0))) (C.slice [C.get a1 3]) C.nil (fun d4 m4 => (bif Nat.beq (List.length (C.elems (dk d4 0))) (List.length (C.elems (dk d4 0))) then (octet_Out_Eight_p N (C.slice (C.elems (dk d4 0))) (C.slice [C.get a1 4]) (fun d5 m5 => (bif Nat.beq (List.length (C.elems (dk d5 0))) (List.length (C.elems (dk d5 0))) then (k1 [C.slice (C.elems (dk d5 0))] []) else none))) else none))) else none))) else none))) else none))) else none)
noncomputable def deed_layCond_p {R : Type} (N : Nat) : C → C → KD R → Option R := lid "deed_layCond_p N" (deed_layCond_p0 N)
theorem deed_layCond_pe {R : Type} (N : Nat) (a0 a1 : C) (k : KD R) : deed_layCond_p N a0 a1 k = deed_layCond_p0 N a0 a1 k := by unfold deed_layCond_p; rw [lid_eq]
theorem deed_layCond_run {R : Type} (N : Nat) (a0 a1 : C) (K : V → List (Key × O) → Option R) : exF (X0 gl0) ((deed_layCond_ov N).ov R) extX (fun f r => bif Nat.beq f 70 then (bif Nat.beq r 0 then [(3, 5)] else bif Nat.beq r 1 then [(9, 1), (14, 1), (18, 1), (22, 1), (26, 1)] else []) else []) (fun f => bif Nat.beq f 70 then deed_layCond_hs else []) N 400 8 70 (Sh.fills deed_layCond_as 0 [a0, a1]) (lookK (locFill deed_layCond_os (Sh.manys deed_layCond_as) 0 [a0, a1] [])) K =
    deed_layCond_p N a0 a1 (fun d1 m1 => K (V.ts 1 (Ty.int IntKind.u8) (C.elems (dk d1 0))) []) := by
  rw [deed_layCond_pe]
  exact (show _ = jn (fun d1 m1 => (bif Nat.beq (List.length (C.elems (dk d1 0))) (List.length (C.elems (dk d1 0))) then
    (K (V.ts 1 (Ty.int IntKind.u8) (C.elems (dk d1 0))) [])
  else
    none)) (deed_layCond_p0 N a0 a1) by kernel_rfl).trans ((jn_eq _ _).trans (congrArg (deed_layCond_p0 N a0 a1) (funext fun _ => funext fun _ => by simp only [Nat.beq_refl, cond_true])))
noncomputable def deed_layCond_g (N : Nat) {R : Type} : OvG R := ptrG deed_layCond_as deed_layCond_os fun ds ms K => deed_layCond_p N (dk ds 0) (dk ds 1) (fun d1 m1 => K (V.ts 1 (Ty.int IntKind.u8) (C.elems (dk d1 0))) [])
theorem deed_layCond_ok (N : Nat) {R : Type} : GOk (X0 gl0) 70 (deed_layCond_g N (R := R)) := by
  unfold deed_layCond_g
  refine ptrG_ok fun ds ms K r hr => ?_
  rw [← deed_layCond_run] at hr
  obtain ⟨v, L, h1, h2⟩ := exF_ok (ok0 gl0) (mo gl0) ((deed_layCond_ov N).ov_ok _) (extX_ok gl0) _ _ _ _ _ _ hr
  exact ⟨v, L, h1, h2⟩
end Go.Proofs.YtjakbdogmomfeaaDoor


namespace Go.Proofs.YtjakbdogmomfeaaDoor
open Go Go.E
set_option maxRecDepth 100000
set_option maxHeartbeats 4000000
set_option linter.unusedVariables false
def deed_Lay_as : List Sh := [.ts 1 (.int .u8), .d tState]
def deed_Lay_os : List (Key × OSh) := []
noncomputable def deed_Lay_hs : Hints := [([1, 0, 1, 1], ⟨[], [(0, .sl 1 (.int .u8) 5000)], [], [], [], []⟩),
    ([4, 1, 0, 1, 1], ⟨[35, 36], [(0, .sl 1 (.int .u8) 5000), (37, .d (.int .i64))], [], [], [], []⟩),
    ([9], ⟨[], [(4, .sl 1 (.int .u8) 5004)], [], [], [], []⟩)]
noncomputable def deed_Lay_ov (N : Nat) : OvS (X0 gl0) where
  g R := [(57, octet_Out_Four_g N), (68, octet_Out_Eight_g N), (69, octet_Out_One_g N), (70, deed_layCond_g N)]
  ok := fun R => List.forall_mem_cons.2 ⟨octet_Out_Four_ok N, List.forall_mem_cons.2 ⟨octet_Out_Eight_ok N, List.forall_mem_cons.2 ⟨octet_Out_One_ok N, List.forall_mem_cons.2 ⟨deed_layCond_ok N, fun _ h => nomatch h⟩⟩⟩⟩
noncomputable def deed_Lay_l1 {R : Type} (N : Nat) (k2 : KD R) : KD R → List C → List Es → Option R := (fun k3 d4 m4 => (bif decide (C.toInt (dk d4 3) < C.toInt (dk d4 1)) then (if 0 ≤ C.toInt (dk d4 3) ∧ C.toInt (dk d4 3) < (↑(List.length (C.elems (dk d4 0))) : Int) then (bif Nat.beq (List.length (C.elems (dk d4 2))) (List.length (C.elems (dk d4 2))) then (deed_layCond_p N (C.slice (C.elems (dk d4 2))) (List.getD (C.elems (dk d4 0)) (Int.toNat (C.toInt (dk d4 3))) C.nil) (fun d5 m5 => (bif Nat.beq (List.length (C.elems (dk d5 0))) (List.length (C.elems (dk d5 0))) then (k3 [dk d4 0, dk d4 1, C.slice (C.elems (dk d5 0)), C.int (IntKind.wrap IntKind.i64 (C.toInt (dk d4 3) + 1))] []) else none))) else none) else none) else (bif Nat.beq (List.length (C.elems (dk d4 2))) (List.length (C.elems (dk d4 2))) then (k2 [C.slice (C.elems (dk d4 2))] []) else none)))
noncomputable def deed_Lay_p0 {R : Type} (N : Nat) (a0 a1 : C) (k1 : KD R) : Option R := (bif Nat.beq (List.length (C.elems a0)) (List.length (C.elems a0)) then (octet_Out_Four_p N (C.slice (C.elems a0)) (C.slice [C.get a1 0]) (fun d1 m1 => (bif Nat.beq (List.length (C.elems (dk d1 0))) (List.length (C.elems (dk d1 0))) then (octet_Out_Eight_p N (C.slice (C.elems (dk d1 0))) (C.slice [C.get a1 1, C.get (C.get a1 2) (Int.toNat 0), C.get (C.get a1 2) (Int.toNat 1), C.get (C.get a1 3) (Int.toNat 0), C.get (C.get a1 3) (Int.toNat 1)]) (fun d2 m2 => (bif Nat.beq (List.length (C.elems (dk d2 0))) (List.length (C.elems (dk d2 0))) then (octet_Out_One_p N (C.slice (C.elems (dk d2 0))) (C.slice [C.int (IntKind.wrap IntKind.u8 (↑(List.length (C.elems (C.get a1 4))) : Int))]) (fun d3 m3 => (jn (fun d4 m4 => (bif Nat.beq (List.length (C.elems (dk d4 0))) (List.length (C.elems (dk d4 0))) then (k1 [C.slice (C.elems (dk d4 0))] []) else none)) (fun k2 => (bif Nat.beq (List.length (C.elems (dk d3 0))) (List.length (C.elems (dk d3 0))) then (loopK N (deed_Lay_l1 N k2) [C.get a1 4, C.int (↑(List.length (C.elems (C.get a1 4))) : Int), C.slice (C.elems (dk d3 0)), C.int 0] []) else none))))) else none))) else none))) else none)
noncomputable def deed_Lay_p {R : Type} (N : Nat) : C → C → KD R → Option R := lid "deed_Lay_p N" (deed_Lay_p0 N)
theorem deed_Lay_pe {R : Type} (N : Nat) (a0 a1 : C) (k : KD R) : deed_Lay_p N a0 a1 k = deed_Lay_p0 N a0 a1 k := by unfold deed_Lay_p; rw [lid_eq]
theorem deed_Lay_run {R : Type} (N : Nat) (a0 a1 : C) (K : V → List (Key × O) → Option R) : exF (X0 gl0) ((deed_Lay_ov N).ov R) extX (fun f r => bif Nat.beq f 58 then (bif Nat.beq r 0 then [(3, 5)] else bif Nat.beq r 1 then [(11, 1), (27, 1), (33, 1)] else bif Nat.beq r 5 then [(43, 1)] else []) else []) (fun f => bif Nat.beq f 58 then deed_Lay_hs else []) N 400 8 58 (Sh.fills deed_Lay_as 0 [a0, a1]) (lookK (locFill deed_Lay_os (Sh.manys deed_Lay_as) 0 [a0, a1] [])) K =
    deed_Lay_p N a0 a1 (fun d1 m1 => K (V.ts 1 (Ty.int IntKind.u8) (C.elems (dk d1 0))) []) := by
  rw [deed_Lay_pe]
  exact (show _ = jn (fun d1 m1 => (bif Nat.beq (List.length (C.elems (dk d1 0))) (List.length (C.elems (dk d1 0))) then
    (K (V.ts 1 (Ty.int IntKind.u8) (C.elems (dk d1 0))) [])
  else
    none)) (deed_Lay_p0 N a0 a1) by kernel_rfl).trans ((jn_eq _ _).trans (congrArg (deed_Lay_p0 N a0 a1) (funext fun _ => funext fun _ => by simp only [Nat.beq_refl, cond_true])))
noncomputable def deed_Lay_g (N : Nat) {R : Type} : OvG R := ptrG deed_Lay_as deed_Lay_os fun ds ms K => deed_Lay_p N (dk ds 0) (dk ds 1) (fun d1 m1 => K (V.ts 1 (Ty.int IntKind.u8) (C.elems (dk d1 0))) [])
theorem deed_Lay_ok (N : Nat) {R : Type} : GOk (X0 gl0) 58 (deed_Lay_g N (R := R)) := by
  unfold deed_Lay_g
  refine ptrG_ok fun ds ms K r hr => ?_
  rw [← deed_Lay_run] at hr
  obtain ⟨v, L, h1, h2⟩ := exF_ok (ok0 gl0) (mo gl0) ((deed_Lay_ov N).ov_ok _) (extX_ok gl0) _ _ _ _ _ _ hr
  exact ⟨v, L, h1, h2⟩
end Go.Proofs.YtjakbdogmomfeaaDoor


namespace Go.Proofs.YtjakbdogmomfeaaDoor
open Go Go.E
set_option maxRecDepth 100000
set_option maxHeartbeats 4000000
set_option linter.unusedVariables false
noncomputable def deed_Sum_hs : Hints := [([9], ⟨[], [(2, .as (.ptr (.l 2) [] (.arr 32 (.int .u8))))], [], [(.l 2, .box (.d (.arr 32 (.int .u8))))], [], []⟩)]
noncomputable def deed_Sum_ov (N : Nat) : OvS (X0 gl0) where
  g R := [(56, mill_For_g N), (57, octet_Out_Four_g N), (58, deed_Lay_g N)]
  ok := fun R => List.forall_mem_cons.2 ⟨mill_For_ok N, List.forall_mem_cons.2 ⟨octet_Out_Four_ok N, List.forall_mem_cons.2 ⟨deed_Lay_ok N, fun _ h => nomatch h⟩⟩⟩
noncomputable def deed_Sum_p0 {R : Type} (N : Nat) (a0 : C) (k1 : KD R) : Option R := (octet_Out_Four_p N (C.slice []) (C.slice [C.get a0 0]) (fun d1 m1 => (deed_Lay_p N (C.slice []) a0 (fun d2 m2 => (mill_For_p N (C.int 4) (C.slice [C.slice (C.elems (dk d1 0)), C.slice (C.elems (dk d2 0))]) (fun d3 m3 => (k1 [dk d3 0] [])))))))
noncomputable def deed_Sum_p {R : Type} (N : Nat) : C → KD R → Option R := lid "deed_Sum_p N" (deed_Sum_p0 N)
theorem deed_Sum_pe {R : Type} (N : Nat) (a0 : C) (k : KD R) : deed_Sum_p N a0 k = deed_Sum_p0 N a0 k := by unfold deed_Sum_p; rw [lid_eq]
theorem deed_Sum_run {R : Type} (N : Nat) (a0 : C) (K : V → List (Key × O) → Option R) : exF (X0 gl0) ((deed_Sum_ov N).ov R) extX (fun f r => bif Nat.beq f 45 then (bif Nat.beq r 0 then [(1, 5)] else bif Nat.beq r 1 then [(7, 1), (9, 1), (11, 7)] else []) else []) (fun f => bif Nat.beq f 45 then deed_Sum_hs else []) N 400 8 45 [.d tState a0] A0 K =
    deed_Sum_p N a0 (fun d1 m1 => K (V.d (Ty.arr 32 (Ty.int IntKind.u8)) (dk d1 0)) []) := by
  rw [deed_Sum_pe]
  exact (show _ = jn (fun d1 m1 => (K (V.d (Ty.arr 32 (Ty.int IntKind.u8)) (dk d1 0)) [])) (deed_Sum_p0 N a0) by kernel_rfl).trans (jn_eq _ _)
noncomputable def deed_Sum_g (N : Nat) {R : Type} : OvG R := fun xs _ K => match xs with
  | [.d t0 a0] => if t0 = tState then deed_Sum_p N a0 (fun d1 m1 => K (V.d (Ty.arr 32 (Ty.int IntKind.u8)) (dk d1 0)) []) else none
  | _ => none
theorem deed_Sum_ok (N : Nat) {R : Type} : GOk (X0 gl0) 45 (deed_Sum_g N (R := R)) := by
  intro xs A Kr r hr
  unfold deed_Sum_g at hr
  split at hr
  · simp only [Option.ite_none_right_eq_some] at hr
    obtain ⟨hty, hr⟩ := hr
    subst hty
    rw [← deed_Sum_run] at hr
    obtain ⟨v, L, h1, h2⟩ := exF_ok (ok0 gl0) (mo gl0) ((deed_Sum_ov N).ov_ok _) (extX_ok gl0) _ _ _ _ _ _ hr
    exact ⟨v, L, h1.mono (leA_none fun _ => rfl), h2⟩
  · cases hr
end Go.Proofs.YtjakbdogmomfeaaDoor


namespace Go.Proofs.YtjakbdogmomfeaaDoor
open Go Go.E
set_option maxRecDepth 100000
set_option maxHeartbeats 4000000
set_option linter.unusedVariables false
noncomputable def deed_Roots_Right_hs : Hints := [([0, 0, 1], ⟨[1, 4, 6, 7], [(14, .d .bool)], [], [], [], []⟩),
    ([9], ⟨[], [(8, .d .bool)], [], [], [], []⟩)]
noncomputable def deed_Roots_Right_ov (N : Nat) : OvS (X0 gl0) where
  g R := [(43, ring_Sig_Right_g N), (44, deed_key_g N), (45, deed_Sum_g N)]
  ok := fun R => List.forall_mem_cons.2 ⟨ring_Sig_Right_ok N, List.forall_mem_cons.2 ⟨deed_key_ok N, List.forall_mem_cons.2 ⟨deed_Sum_ok N, fun _ h => nomatch h⟩⟩⟩
noncomputable def deed_Roots_Right_p0 {R : Type} (N : Nat) (a0 a1 a2 a3 : C) (k1 : KD R) : Option R := (jn (fun d1 m1 => (bif C.toBool (dk d1 4) then (k1 [C.bool false] []) else (if 0 ≤ C.toInt (dk d1 0) ∧ C.toInt (dk d1 0) < 2 then (deed_key_p N (C.get (dk d1 2) 1) (fun d2 m2 => (deed_Sum_p N (dk d1 2) (fun d3 m3 => (ring_Sig_Right_p N (dk d1 3) (C.get (C.get (dk d1 1) 0) (Int.toNat (C.toInt (dk d1 0)))) (C.get (dk d1 1) 1) (dk d2 0) (dk d3 0) (fun d4 m4 => (k1 [C.bool (C.toBool (dk d4 0))] []))))))) else none))) (fun k2 => (bif !decide (C.toInt a1 = 0) then (k2 [a1, a0, a2, a3, C.bool !decide (C.toInt a1 = 1)] []) else (k2 [a1, a0, a2, a3, C.bool false] []))))
noncomputable def deed_Roots_Right_p {R : Type} (N : Nat) : C → C → C → C → KD R → Option R := lid "deed_Roots_Right_p N" (deed_Roots_Right_p0 N)
theorem deed_Roots_Right_pe {R : Type} (N : Nat) (a0 a1 a2 a3 : C) (k : KD R) : deed_Roots_Right_p N a0 a1 a2 a3 k = deed_Roots_Right_p0 N a0 a1 a2 a3 k := by unfold deed_Roots_Right_p; rw [lid_eq]
theorem deed_Roots_Right_run {R : Type} (N : Nat) (a0 a1 a2 a3 : C) (K : V → List (Key × O) → Option R) : exF (X0 gl0) ((deed_Roots_Right_ov N).ov R) extX (fun f r => bif Nat.beq f 34 then (bif Nat.beq r 0 then [(4, 5), (6, 5), (7, 5)] else bif Nat.beq r 3 then [(24, 7), (26, 7), (27, 7)] else []) else []) (fun f => bif Nat.beq f 34 then deed_Roots_Right_hs else []) N 400 8 34 [.d tRoots a0, .d (.int .i64) a1, .d tState a2, .d tSig2 a3] A0 K =
    deed_Roots_Right_p N a0 a1 a2 a3 (fun d1 m1 => K (V.d Ty.bool (C.bool (C.toBool (dk d1 0)))) []) := by
  rw [deed_Roots_Right_pe]
  exact (show _ = jn (fun d1 m1 => (K (V.d Ty.bool (C.bool (C.toBool (dk d1 0)))) [])) (deed_Roots_Right_p0 N a0 a1 a2 a3) by kernel_rfl).trans (jn_eq _ _)
noncomputable def deed_Roots_Right_g (N : Nat) {R : Type} : OvG R := fun xs _ K => match xs with
  | [.d t0 a0, .d t1 a1, .d t2 a2, .d t3 a3] => if t0 = tRoots ∧ t1 = (.int .i64) ∧ t2 = tState ∧ t3 = tSig2 then deed_Roots_Right_p N a0 a1 a2 a3 (fun d1 m1 => K (V.d Ty.bool (C.bool (C.toBool (dk d1 0)))) []) else none
  | _ => none
theorem deed_Roots_Right_ok (N : Nat) {R : Type} : GOk (X0 gl0) 34 (deed_Roots_Right_g N (R := R)) := by
  intro xs A Kr r hr
  unfold deed_Roots_Right_g at hr
  split at hr
  · simp only [Option.ite_none_right_eq_some] at hr
    obtain ⟨hty, hr⟩ := hr
    obtain ⟨rfl, rfl, rfl, rfl⟩ := hty
    rw [← deed_Roots_Right_run] at hr
    obtain ⟨v, L, h1, h2⟩ := exF_ok (ok0 gl0) (mo gl0) ((deed_Roots_Right_ov N).ov_ok _) (extX_ok gl0) _ _ _ _ _ _ hr
    exact ⟨v, L, h1.mono (leA_none fun _ => rfl), h2⟩
  · cases hr
end Go.Proofs.YtjakbdogmomfeaaDoor


namespace Go.Proofs.YtjakbdogmomfeaaDoor
open Go Go.E
set_option maxRecDepth 100000
set_option maxHeartbeats 4000000
set_option linter.unusedVariables false
noncomputable def deed_Roots_Whole_hs : Hints := [([0, 1, 1, 1], ⟨[], [(6, .d .bool)], [], [], [], []⟩),
    ([9], ⟨[], [(6, .d .bool)], [], [], [], []⟩)]
noncomputable def deed_Roots_Whole_ov (N : Nat) : OvS (X0 gl0) where
  g R := [(14, pact_New_g N), (33, pact_Same_g N), (34, deed_Roots_Right_g N)]
  ok := fun R => List.forall_mem_cons.2 ⟨pact_New_ok N, List.forall_mem_cons.2 ⟨pact_Same_ok N, List.forall_mem_cons.2 ⟨deed_Roots_Right_ok N, fun _ h => nomatch h⟩⟩⟩
noncomputable def deed_Roots_Whole_p0 {R : Type} (N : Nat) (a0 a1 a2 : C) (k1 : KD R) : Option R := (bif !decide (C.toInt (C.get (C.get a1 0) 0) = C.toInt a2) then (k1 [C.bool false] []) else (bif decide (C.toInt (C.get (C.get a1 0) 1) = 0) then (pact_New_p N a2 (fun d1 m1 => (pact_Same_p N (C.get a1 0) (dk d1 0) (fun d2 m2 => (k1 [C.bool (C.toBool (dk d2 0))] []))))) else (jn (fun d1 m1 => (k1 [C.bool (C.toBool (dk d1 0))] [])) (fun k2 => (deed_Roots_Right_p N a0 (C.int 0) (C.get a1 0) (C.get (C.get a1 1) (Int.toNat 0)) (fun d1 m1 => (bif C.toBool (dk d1 0) then (deed_Roots_Right_p N a0 (C.int 1) (C.get a1 0) (C.get (C.get a1 1) (Int.toNat 1)) (fun d2 m2 => (k2 [C.bool (C.toBool (dk d2 0))] []))) else (k2 [C.bool false] []))))))))
noncomputable def deed_Roots_Whole_p {R : Type} (N : Nat) : C → C → C → KD R → Option R := lid "deed_Roots_Whole_p N" (deed_Roots_Whole_p0 N)
theorem deed_Roots_Whole_pe {R : Type} (N : Nat) (a0 a1 a2 : C) (k : KD R) : deed_Roots_Whole_p N a0 a1 a2 k = deed_Roots_Whole_p0 N a0 a1 a2 k := by unfold deed_Roots_Whole_p; rw [lid_eq]
theorem deed_Roots_Whole_run {R : Type} (N : Nat) (a0 a1 a2 : C) (K : V → List (Key × O) → Option R) : exF (X0 gl0) ((deed_Roots_Whole_ov N).ov R) extX (fun f r => bif Nat.beq f 26 then (bif Nat.beq r 0 then [(3, 5), (4, 5)] else bif Nat.beq r 4 then [(19, 7), (20, 7)] else []) else []) (fun f => bif Nat.beq f 26 then deed_Roots_Whole_hs else []) N 400 8 26 [.d tRoots a0, .d tDeed a1, .d (.int .u32) a2] A0 K =
    deed_Roots_Whole_p N a0 a1 a2 (fun d1 m1 => K (V.d Ty.bool (C.bool (C.toBool (dk d1 0)))) []) := by
  rw [deed_Roots_Whole_pe]
  exact (show _ = jn (fun d1 m1 => (K (V.d Ty.bool (C.bool (C.toBool (dk d1 0)))) [])) (deed_Roots_Whole_p0 N a0 a1 a2) by kernel_rfl).trans (jn_eq _ _)
noncomputable def deed_Roots_Whole_g (N : Nat) {R : Type} : OvG R := fun xs _ K => match xs with
  | [.d t0 a0, .d t1 a1, .d t2 a2] => if t0 = tRoots ∧ t1 = tDeed ∧ t2 = (.int .u32) then deed_Roots_Whole_p N a0 a1 a2 (fun d1 m1 => K (V.d Ty.bool (C.bool (C.toBool (dk d1 0)))) []) else none
  | _ => none
theorem deed_Roots_Whole_ok (N : Nat) {R : Type} : GOk (X0 gl0) 26 (deed_Roots_Whole_g N (R := R)) := by
  intro xs A Kr r hr
  unfold deed_Roots_Whole_g at hr
  split at hr
  · simp only [Option.ite_none_right_eq_some] at hr
    obtain ⟨hty, hr⟩ := hr
    obtain ⟨rfl, rfl, rfl⟩ := hty
    rw [← deed_Roots_Whole_run] at hr
    obtain ⟨v, L, h1, h2⟩ := exF_ok (ok0 gl0) (mo gl0) ((deed_Roots_Whole_ov N).ov_ok _) (extX_ok gl0) _ _ _ _ _ _ hr
    exact ⟨v, L, h1.mono (leA_none fun _ => rfl), h2⟩
  · cases hr
end Go.Proofs.YtjakbdogmomfeaaDoor


namespace Go.Proofs.YtjakbdogmomfeaaDoor
open Go Go.E
set_option maxRecDepth 100000
set_option maxHeartbeats 4000000
set_option linter.unusedVariables false
noncomputable def bond_Bond_look_hs : Hints := [([1, 0, 1, 1, 1], ⟨[], [], [], [], [], []⟩),
    ([4, 1, 0, 1, 1, 1], ⟨[2, 3, 29], [(30, .d (.int .i64))], [], [], [], []⟩),
    ([0, 1, 4, 0, 1, 1, 5, 4, 1, 0, 1, 1, 1], ⟨[2, 3, 29, 30], [(49, .d .bool)], [], [], [], []⟩),
    ([9], ⟨[], [(4, .d (.int .i64))], [], [], [], []⟩)]
noncomputable def bond_Bond_look_ov (N : Nat) : OvS (X0 gl0) where
  g R := [(26, deed_Roots_Whole_g N), (27, pact_Sound_g N)]
  ok := fun R => List.forall_mem_cons.2 ⟨deed_Roots_Whole_ok N, List.forall_mem_cons.2 ⟨pact_Sound_ok N, fun _ h => nomatch h⟩⟩
noncomputable def bond_Bond_look_l1 {R : Type} (N : Nat) (k1 : KD R) (k2 : KD R) : KD R → List C → List Es → Option R := (fun k3 d3 m3 => (bif decide (C.toInt (dk d3 3) < 2) then (if 0 ≤ C.toInt (dk d3 3) ∧ C.toInt (dk d3 3) < 2 then (jn (fun d4 m4 => (bif C.toBool (dk d4 4) then (k1 [C.int 12] []) else (k3 [dk d4 0, dk d4 1, dk d4 2, C.int (IntKind.wrap IntKind.i64 (C.toInt (dk d4 3) + 1))] []))) (fun k4 => (bif decide (C.toInt (C.get (C.get (dk d3 0) 8) 1) < C.toInt (C.get (C.get (dk d3 1) 0) 1)) then (if 0 ≤ C.toInt (dk d3 3) ∧ C.toInt (dk d3 3) < 2 then (k4 [dk d3 0, dk d3 1, dk d3 2, dk d3 3, C.bool (decide (C.toInt (C.get (C.get (C.get (dk d3 1) 0) 3) (Int.toNat (C.toInt (dk d3 3)))) < C.toInt (C.get (dk d3 2) (Int.toNat (C.toInt (dk d3 3))))))] []) else none) else (k4 [dk d3 0, dk d3 1, dk d3 2, dk d3 3, C.bool false] [])))) else none) else (k2 [] [])))
noncomputable def bond_Bond_look_p0 {R : Type} (N : Nat) (a0 a1 : C) (k1 : KD R) : Option R := (bif decide (C.toInt (C.get a0 6) = 2) then (k1 [C.int 31] []) else (deed_Roots_Whole_p N (C.get a0 2) a1 (C.get a0 0) (fun d1 m1 => (bif !C.toBool (dk d1 0) then (k1 [C.int 20] []) else (pact_Sound_p N (C.get a1 0) (C.get a0 4) (fun d2 m2 => (bif !decide (C.toInt (dk d2 0) = 0) then (k1 [dk d2 0] []) else (jn (fun d3 m3 => (k1 [C.int 0] [])) (fun k2 => (loopK N (bond_Bond_look_l1 N k1 k2) [a0, a1, C.get a0 5, C.int 0] []))))))))))
noncomputable def bond_Bond_look_p {R : Type} (N : Nat) : C → C → KD R → Option R := lid "bond_Bond_look_p N" (bond_Bond_look_p0 N)
theorem bond_Bond_look_pe {R : Type} (N : Nat) (a0 a1 : C) (k : KD R) : bond_Bond_look_p N a0 a1 k = bond_Bond_look_p0 N a0 a1 k := by unfold bond_Bond_look_p; rw [lid_eq]
theorem bond_Bond_look_run {R : Type} (N : Nat) (a0 a1 : C) (K : V → List (Key × O) → Option R) : exF (X0 gl0) ((bond_Bond_look_ov N).ov R) extX (fun f r => bif Nat.beq f 18 then (bif Nat.beq r 0 then [(2, 5), (3, 5)] else []) else []) (fun f => bif Nat.beq f 18 then bond_Bond_look_hs else []) N 400 8 18 [.d tBond a0, .d tDeed a1] A0 K =
    bond_Bond_look_p N a0 a1 (fun d1 m1 => K (V.d (Ty.int IntKind.i64) (dk d1 0)) []) := by
  rw [bond_Bond_look_pe]
  exact (show _ = jn (fun d1 m1 => (K (V.d (Ty.int IntKind.i64) (dk d1 0)) [])) (bond_Bond_look_p0 N a0 a1) by kernel_rfl).trans (jn_eq _ _)
noncomputable def bond_Bond_look_g (N : Nat) {R : Type} : OvG R := fun xs _ K => match xs with
  | [.d t0 a0, .d t1 a1] => if t0 = tBond ∧ t1 = tDeed then bond_Bond_look_p N a0 a1 (fun d1 m1 => K (V.d (Ty.int IntKind.i64) (dk d1 0)) []) else none
  | _ => none
theorem bond_Bond_look_ok (N : Nat) {R : Type} : GOk (X0 gl0) 18 (bond_Bond_look_g N (R := R)) := by
  intro xs A Kr r hr
  unfold bond_Bond_look_g at hr
  split at hr
  · simp only [Option.ite_none_right_eq_some] at hr
    obtain ⟨hty, hr⟩ := hr
    obtain ⟨rfl, rfl⟩ := hty
    rw [← bond_Bond_look_run] at hr
    obtain ⟨v, L, h1, h2⟩ := exF_ok (ok0 gl0) (mo gl0) ((bond_Bond_look_ov N).ov_ok _) (extX_ok gl0) _ _ _ _ _ _ hr
    exact ⟨v, L, h1.mono (leA_none fun _ => rfl), h2⟩
  · cases hr
end Go.Proofs.YtjakbdogmomfeaaDoor


namespace Go.Proofs.YtjakbdogmomfeaaDoor
open Go Go.E
set_option maxRecDepth 100000
set_option maxHeartbeats 4000000
set_option linter.unusedVariables false
noncomputable def pact_Twin_hs : Hints := [([9], ⟨[], [(2, .as (.ptr (.l 2) [] tState))], [], [(.l 2, .box (.d tState))], [], []⟩)]
noncomputable def pact_Twin_ov (N : Nat) : OvS (X0 gl0) where
  g R := [(32, cl_Cond_g N)]
  ok := fun R => List.forall_mem_cons.2 ⟨cl_Cond_ok N, fun _ h => nomatch h⟩
noncomputable def pact_Twin_p0 {R : Type} (N : Nat) (a0 : C) (k1 : KD R) : Option R := (bif Nat.beq (List.length (C.elems (C.get a0 4))) (List.length (C.elems (C.get a0 4))) then (k1 [C.agg [C.get a0 0, C.get a0 1, C.get a0 2, C.get a0 3, C.slice (C.elems (C.get a0 4))]] []) else none)
noncomputable def pact_Twin_p {R : Type} (N : Nat) : C → KD R → Option R := lid "pact_Twin_p N" (pact_Twin_p0 N)
theorem pact_Twin_pe {R : Type} (N : Nat) (a0 : C) (k : KD R) : pact_Twin_p N a0 k = pact_Twin_p0 N a0 k := by unfold pact_Twin_p; rw [lid_eq]
theorem pact_Twin_run {R : Type} (N : Nat) (a0 : C) (K : V → List (Key × O) → Option R) : exF (X0 gl0) ((pact_Twin_ov N).ov R) extX noX (fun f => bif Nat.beq f 24 then pact_Twin_hs else []) N 400 8 24 [.d tState a0] A0 K =
    pact_Twin_p N a0 (fun d1 m1 => K (V.d tState (dk d1 0)) []) := by
  rw [pact_Twin_pe]
  exact (show _ = jn (fun d1 m1 => (K (V.d tState (dk d1 0)) [])) (pact_Twin_p0 N a0) by kernel_rfl).trans (jn_eq _ _)
noncomputable def pact_Twin_g (N : Nat) {R : Type} : OvG R := fun xs _ K => match xs with
  | [.d t0 a0] => if t0 = tState then pact_Twin_p N a0 (fun d1 m1 => K (V.d tState (dk d1 0)) []) else none
  | _ => none
theorem pact_Twin_ok (N : Nat) {R : Type} : GOk (X0 gl0) 24 (pact_Twin_g N (R := R)) := by
  intro xs A Kr r hr
  unfold pact_Twin_g at hr
  split at hr
  · simp only [Option.ite_none_right_eq_some] at hr
    obtain ⟨hty, hr⟩ := hr
    subst hty
    rw [← pact_Twin_run] at hr
    obtain ⟨v, L, h1, h2⟩ := exF_ok (ok0 gl0) (mo gl0) ((pact_Twin_ov N).ov_ok _) (extX_ok gl0) _ _ _ _ _ _ hr
    exact ⟨v, L, h1.mono (leA_none fun _ => rfl), h2⟩
  · cases hr
end Go.Proofs.YtjakbdogmomfeaaDoor


namespace Go.Proofs.YtjakbdogmomfeaaDoor
open Go Go.E
set_option maxRecDepth 100000
set_option maxHeartbeats 4000000
set_option linter.unusedVariables false
noncomputable def bond_Bond_Twin_hs : Hints := [([9], ⟨[], [(2, .as (.ptr (.l 2) [] tBond))], [], [(.l 2, .box (.d tBond))], [], []⟩)]
noncomputable def bond_Bond_Twin_ov (N : Nat) : OvS (X0 gl0) where
  g R := [(13, cl_Byte_g N), (24, pact_Twin_g N)]
  ok := fun R => List.forall_mem_cons.2 ⟨cl_Byte_ok N, List.forall_mem_cons.2 ⟨pact_Twin_ok N, fun _ h => nomatch h⟩⟩
noncomputable def bond_Bond_Twin_p0 {R : Type} (N : Nat) (a0 : C) (k1 : KD R) : Option R := (pact_Twin_p N (C.get a0 8) (fun d1 m1 => (bif Nat.beq (List.length (C.elems (C.get a0 3))) (List.length (C.elems (C.get a0 3))) then (k1 [C.agg [C.get a0 0, C.get a0 1, C.get a0 2, C.slice (C.elems (C.get a0 3)), C.get a0 4, C.get a0 5, C.get a0 6, C.get a0 7, dk d1 0]] []) else none)))
noncomputable def bond_Bond_Twin_p {R : Type} (N : Nat) : C → KD R → Option R := lid "bond_Bond_Twin_p N" (bond_Bond_Twin_p0 N)
theorem bond_Bond_Twin_pe {R : Type} (N : Nat) (a0 : C) (k : KD R) : bond_Bond_Twin_p N a0 k = bond_Bond_Twin_p0 N a0 k := by unfold bond_Bond_Twin_p; rw [lid_eq]
theorem bond_Bond_Twin_run {R : Type} (N : Nat) (a0 : C) (K : V → List (Key × O) → Option R) : exF (X0 gl0) ((bond_Bond_Twin_ov N).ov R) extX (fun f r => bif Nat.beq f 15 then (bif Nat.beq r 1 then [(8, 7)] else []) else []) (fun f => bif Nat.beq f 15 then bond_Bond_Twin_hs else []) N 400 8 15 [.d tBond a0] A0 K =
    bond_Bond_Twin_p N a0 (fun d1 m1 => K (V.d tBond (dk d1 0)) []) := by
  rw [bond_Bond_Twin_pe]
  exact (show _ = jn (fun d1 m1 => (K (V.d tBond (dk d1 0)) [])) (bond_Bond_Twin_p0 N a0) by kernel_rfl).trans (jn_eq _ _)
noncomputable def bond_Bond_Twin_g (N : Nat) {R : Type} : OvG R := fun xs _ K => match xs with
  | [.d t0 a0] => if t0 = tBond then bond_Bond_Twin_p N a0 (fun d1 m1 => K (V.d tBond (dk d1 0)) []) else none
  | _ => none
theorem bond_Bond_Twin_ok (N : Nat) {R : Type} : GOk (X0 gl0) 15 (bond_Bond_Twin_g N (R := R)) := by
  intro xs A Kr r hr
  unfold bond_Bond_Twin_g at hr
  split at hr
  · simp only [Option.ite_none_right_eq_some] at hr
    obtain ⟨hty, hr⟩ := hr
    subst hty
    rw [← bond_Bond_Twin_run] at hr
    obtain ⟨v, L, h1, h2⟩ := exF_ok (ok0 gl0) (mo gl0) ((bond_Bond_Twin_ov N).ov_ok _) (extX_ok gl0) _ _ _ _ _ _ hr
    exact ⟨v, L, h1.mono (leA_none fun _ => rfl), h2⟩
  · cases hr
end Go.Proofs.YtjakbdogmomfeaaDoor


namespace Go.Proofs.YtjakbdogmomfeaaDoor
open Go Go.E
set_option maxRecDepth 100000
set_option maxHeartbeats 4000000
set_option linter.unusedVariables false
noncomputable def bond_Bond_better_hs : Hints := [([1, 0, 1, 1], ⟨[2, 4], [], [], [], [], []⟩),
    ([9], ⟨[], [(4, .as (.ptr (.l 4) [] tBond))], [], [(.l 4, .box (.d tBond))], [], []⟩)]
noncomputable def bond_Bond_better_ov (N : Nat) : OvS (X0 gl0) where
  g R := [(15, bond_Bond_Twin_g N), (24, pact_Twin_g N)]
  ok := fun R => List.forall_mem_cons.2 ⟨bond_Bond_Twin_ok N, List.forall_mem_cons.2 ⟨pact_Twin_ok N, fun _ h => nomatch h⟩⟩
noncomputable def bond_Bond_better_p0 {R : Type} (N : Nat) (a0 a1 : C) (k1 : KD R) : Option R := (bond_Bond_Twin_p N a0 (fun d1 m1 => (jn (fun d2 m2 => (k1 [dk d2 0] [])) (fun k2 => (bif decide (C.toInt (C.get (C.get (dk d1 0) 8) 1) < C.toInt (C.get (C.get a1 0) 1)) then (pact_Twin_p N (C.get a1 0) (fun d2 m2 => (k2 [C.set (dk d1 0) 8 (dk d2 0), C.agg [zeroC (Ty.int IntKind.u32), zeroC (Ty.arr 2 (Ty.int IntKind.i64)), C.agg [C.agg [C.agg (List.replicate 32 (C.int 0)), C.agg (List.replicate 32 (C.int 0))], C.int 0], C.slice [], zeroC (Ty.arr 2 (Ty.int IntKind.u64)), zeroC (Ty.arr 2 (Ty.int IntKind.u64)), zeroC (Ty.int IntKind.i64), zeroC (Ty.int IntKind.u64), C.agg [zeroC (Ty.int IntKind.u32), zeroC (Ty.int IntKind.u64), zeroC (Ty.arr 2 (Ty.int IntKind.u64)), zeroC (Ty.arr 2 (Ty.int IntKind.u64)), C.slice []]]] []))) else (k2 [dk d1 0, C.agg [zeroC (Ty.int IntKind.u32), zeroC (Ty.arr 2 (Ty.int IntKind.i64)), C.agg [C.agg [C.agg (List.replicate 32 (C.int 0)), C.agg (List.replicate 32 (C.int 0))], C.int 0], C.slice [], zeroC (Ty.arr 2 (Ty.int IntKind.u64)), zeroC (Ty.arr 2 (Ty.int IntKind.u64)), zeroC (Ty.int IntKind.i64), zeroC (Ty.int IntKind.u64), C.agg [zeroC (Ty.int IntKind.u32), zeroC (Ty.int IntKind.u64), zeroC (Ty.arr 2 (Ty.int IntKind.u64)), zeroC (Ty.arr 2 (Ty.int IntKind.u64)), C.slice []]]] []))))))
noncomputable def bond_Bond_better_p {R : Type} (N : Nat) : C → C → KD R → Option R := lid "bond_Bond_better_p N" (bond_Bond_better_p0 N)
theorem bond_Bond_better_pe {R : Type} (N : Nat) (a0 a1 : C) (k : KD R) : bond_Bond_better_p N a0 a1 k = bond_Bond_better_p0 N a0 a1 k := by unfold bond_Bond_better_p; rw [lid_eq]
theorem bond_Bond_better_run {R : Type} (N : Nat) (a0 a1 : C) (K : V → List (Key × O) → Option R) : exF (X0 gl0) ((bond_Bond_better_ov N).ov R) extX (fun f r => bif Nat.beq f 19 then (bif Nat.beq r 0 then [(3, 5)] else []) else []) (fun f => bif Nat.beq f 19 then bond_Bond_better_hs else []) N 400 8 19 [.d tBond a0, .d tDeed a1] A0 K =
    bond_Bond_better_p N a0 a1 (fun d1 m1 => K (V.d tBond (dk d1 0)) []) := by
  rw [bond_Bond_better_pe]
  exact (show _ = jn (fun d1 m1 => (K (V.d tBond (dk d1 0)) [])) (bond_Bond_better_p0 N a0 a1) by kernel_rfl).trans (jn_eq _ _)
noncomputable def bond_Bond_better_g (N : Nat) {R : Type} : OvG R := fun xs _ K => match xs with
  | [.d t0 a0, .d t1 a1] => if t0 = tBond ∧ t1 = tDeed then bond_Bond_better_p N a0 a1 (fun d1 m1 => K (V.d tBond (dk d1 0)) []) else none
  | _ => none
theorem bond_Bond_better_ok (N : Nat) {R : Type} : GOk (X0 gl0) 19 (bond_Bond_better_g N (R := R)) := by
  intro xs A Kr r hr
  unfold bond_Bond_better_g at hr
  split at hr
  · simp only [Option.ite_none_right_eq_some] at hr
    obtain ⟨hty, hr⟩ := hr
    obtain ⟨rfl, rfl⟩ := hty
    rw [← bond_Bond_better_run] at hr
    obtain ⟨v, L, h1, h2⟩ := exF_ok (ok0 gl0) (mo gl0) ((bond_Bond_better_ov N).ov_ok _) (extX_ok gl0) _ _ _ _ _ _ hr
    exact ⟨v, L, h1.mono (leA_none fun _ => rfl), h2⟩
  · cases hr
end Go.Proofs.YtjakbdogmomfeaaDoor


namespace Go.Proofs.YtjakbdogmomfeaaDoor
open Go Go.E
set_option maxRecDepth 100000
set_option maxHeartbeats 4000000
set_option linter.unusedVariables false
noncomputable def bond_Bond_wait_hs : Hints := [([9], ⟨[], [(2, .d (.int .u64))], [], [], [], []⟩)]
noncomputable def bond_Bond_wait_ov (N : Nat) : OvS (X0 gl0) where
  g R := [(28, code_Run_g N)]
  ok := fun R => List.forall_mem_cons.2 ⟨code_Run_ok N, fun _ h => nomatch h⟩
noncomputable def bond_Bond_wait_p0 {R : Type} (N : Nat) (a0 : C) (k1 : KD R) : Option R := (code_Run_p N (C.get a0 3) (C.agg [C.slice [C.get (C.get a0 4) (Int.toNat 0), C.get (C.get a0 4) (Int.toNat 1), C.get (C.get a0 8) 1], C.slice [], zeroC (Ty.int IntKind.u64)]) (C.int 200) (fun d1 m1 => (bif !decide (C.toInt (dk d1 2) = 0) then (k1 [C.int 5] []) else (k1 [C.int (if 1 < if 50 < C.toInt (dk d1 0) then 50 else C.toInt (dk d1 0) then if 50 < C.toInt (dk d1 0) then 50 else C.toInt (dk d1 0) else 1)] []))))
noncomputable def bond_Bond_wait_p {R : Type} (N : Nat) : C → KD R → Option R := lid "bond_Bond_wait_p N" (bond_Bond_wait_p0 N)
theorem bond_Bond_wait_pe {R : Type} (N : Nat) (a0 : C) (k : KD R) : bond_Bond_wait_p N a0 k = bond_Bond_wait_p0 N a0 k := by unfold bond_Bond_wait_p; rw [lid_eq]
theorem bond_Bond_wait_run {R : Type} (N : Nat) (a0 : C) (K : V → List (Key × O) → Option R) : exF (X0 gl0) ((bond_Bond_wait_ov N).ov R) extX (fun f r => bif Nat.beq f 20 then (bif Nat.beq r 0 then [(1, 5)] else []) else []) (fun f => bif Nat.beq f 20 then bond_Bond_wait_hs else []) N 400 8 20 [.d tBond a0] A0 K =
    bond_Bond_wait_p N a0 (fun d1 m1 => K (V.d (Ty.int IntKind.u64) (dk d1 0)) []) := by
  rw [bond_Bond_wait_pe]
  exact (show _ = jn (fun d1 m1 => (K (V.d (Ty.int IntKind.u64) (dk d1 0)) [])) (bond_Bond_wait_p0 N a0) by kernel_rfl).trans (jn_eq _ _)
noncomputable def bond_Bond_wait_g (N : Nat) {R : Type} : OvG R := fun xs _ K => match xs with
  | [.d t0 a0] => if t0 = tBond then bond_Bond_wait_p N a0 (fun d1 m1 => K (V.d (Ty.int IntKind.u64) (dk d1 0)) []) else none
  | _ => none
theorem bond_Bond_wait_ok (N : Nat) {R : Type} : GOk (X0 gl0) 20 (bond_Bond_wait_g N (R := R)) := by
  intro xs A Kr r hr
  unfold bond_Bond_wait_g at hr
  split at hr
  · simp only [Option.ite_none_right_eq_some] at hr
    obtain ⟨hty, hr⟩ := hr
    subst hty
    rw [← bond_Bond_wait_run] at hr
    obtain ⟨v, L, h1, h2⟩ := exF_ok (ok0 gl0) (mo gl0) ((bond_Bond_wait_ov N).ov_ok _) (extX_ok gl0) _ _ _ _ _ _ hr
    exact ⟨v, L, h1.mono (leA_none fun _ => rfl), h2⟩
  · cases hr
end Go.Proofs.YtjakbdogmomfeaaDoor


namespace Go.Proofs.YtjakbdogmomfeaaDoor
open Go Go.E
set_option maxRecDepth 100000
set_option maxHeartbeats 4000000
set_option linter.unusedVariables false
noncomputable def bond_Bond_Fight_hs : Hints := [([9], ⟨[], [(6, .as (.ptr (.l 6) [] tBond)), (7, .d (.int .i64))], [], [(.l 6, .box (.d tBond))], [], []⟩)]
noncomputable def bond_Bond_Fight_ov (N : Nat) : OvS (X0 gl0) where
  g R := [(16, money_Add_g N), (18, bond_Bond_look_g N), (19, bond_Bond_better_g N), (20, bond_Bond_wait_g N)]
  ok := fun R => List.forall_mem_cons.2 ⟨money_Add_ok N, List.forall_mem_cons.2 ⟨bond_Bond_look_ok N, List.forall_mem_cons.2 ⟨bond_Bond_better_ok N, List.forall_mem_cons.2 ⟨bond_Bond_wait_ok N, fun _ h => nomatch h⟩⟩⟩⟩
noncomputable def bond_Bond_Fight_p0 {R : Type} (N : Nat) (a0 a1 a2 : C) (k1 : KD R) : Option R := (bif decide (C.toInt (C.get a0 6) = 1) then (k1 [C.int 3, C.agg [zeroC (Ty.int IntKind.u32), zeroC (Ty.arr 2 (Ty.int IntKind.i64)), C.agg [C.agg [C.agg (List.replicate 32 (C.int 0)), C.agg (List.replicate 32 (C.int 0))], C.int 0], C.slice [], zeroC (Ty.arr 2 (Ty.int IntKind.u64)), zeroC (Ty.arr 2 (Ty.int IntKind.u64)), zeroC (Ty.int IntKind.i64), zeroC (Ty.int IntKind.u64), C.agg [zeroC (Ty.int IntKind.u32), zeroC (Ty.int IntKind.u64), zeroC (Ty.arr 2 (Ty.int IntKind.u64)), zeroC (Ty.arr 2 (Ty.int IntKind.u64)), C.slice []]]] []) else (bond_Bond_look_p N a0 a1 (fun d1 m1 => (bif !decide (C.toInt (dk d1 0) = 0) then (k1 [dk d1 0, C.agg [zeroC (Ty.int IntKind.u32), zeroC (Ty.arr 2 (Ty.int IntKind.i64)), C.agg [C.agg [C.agg (List.replicate 32 (C.int 0)), C.agg (List.replicate 32 (C.int 0))], C.int 0], C.slice [], zeroC (Ty.arr 2 (Ty.int IntKind.u64)), zeroC (Ty.arr 2 (Ty.int IntKind.u64)), zeroC (Ty.int IntKind.i64), zeroC (Ty.int IntKind.u64), C.agg [zeroC (Ty.int IntKind.u32), zeroC (Ty.int IntKind.u64), zeroC (Ty.arr 2 (Ty.int IntKind.u64)), zeroC (Ty.arr 2 (Ty.int IntKind.u64)), C.slice []]]] []) else (bond_Bond_better_p N a0 a1 (fun d2 m2 => (bond_Bond_wait_p N (dk d2 0) (fun d3 m3 => (money_Add_p N a2 (dk d3 0) (fun d4 m4 => (bif !decide (C.toInt (dk d4 1) = 0) then (k1 [dk d4 1, C.agg [zeroC (Ty.int IntKind.u32), zeroC (Ty.arr 2 (Ty.int IntKind.i64)), C.agg [C.agg [C.agg (List.replicate 32 (C.int 0)), C.agg (List.replicate 32 (C.int 0))], C.int 0], C.slice [], zeroC (Ty.arr 2 (Ty.int IntKind.u64)), zeroC (Ty.arr 2 (Ty.int IntKind.u64)), zeroC (Ty.int IntKind.i64), zeroC (Ty.int IntKind.u64), C.agg [zeroC (Ty.int IntKind.u32), zeroC (Ty.int IntKind.u64), zeroC (Ty.arr 2 (Ty.int IntKind.u64)), zeroC (Ty.arr 2 (Ty.int IntKind.u64)), C.slice []]]] []) else (k1 [C.int 0, C.set (C.set (dk d2 0) 6 (C.int 1)) 7 (dk d4 0)] []))))))))))))
noncomputable def bond_Bond_Fight_p {R : Type} (N : Nat) : C → C → C → KD R → Option R := lid "bond_Bond_Fight_p N" (bond_Bond_Fight_p0 N)
theorem bond_Bond_Fight_pe {R : Type} (N : Nat) (a0 a1 a2 : C) (k : KD R) : bond_Bond_Fight_p N a0 a1 a2 k = bond_Bond_Fight_p0 N a0 a1 a2 k := by unfold bond_Bond_Fight_p; rw [lid_eq]
theorem bond_Bond_Fight_run {R : Type} (N : Nat) (a0 a1 a2 : C) (K : V → List (Key × O) → Option R) : exF (X0 gl0) ((bond_Bond_Fight_ov N).ov R) extX (fun f r => bif Nat.beq f 7 then (bif Nat.beq r 0 then [(4, 5)] else []) else []) (fun f => bif Nat.beq f 7 then bond_Bond_Fight_hs else []) N 400 8 7 [.d tBond a0, .d tDeed a1, .d (.int .u64) a2] A0 K =
    bond_Bond_Fight_p N a0 a1 a2 (fun d1 m1 => K (V.tup [V.d tBond (dk d1 1), V.d (Ty.int IntKind.i64) (dk d1 0)]) []) := by
  rw [bond_Bond_Fight_pe]
  exact (show _ = jn (fun d1 m1 => (K (V.tup [V.d tBond (dk d1 1), V.d (Ty.int IntKind.i64) (dk d1 0)]) [])) (bond_Bond_Fight_p0 N a0 a1 a2) by kernel_rfl).trans (jn_eq _ _)
noncomputable def bond_Bond_Fight_g (N : Nat) {R : Type} : OvG R := fun xs _ K => match xs with
  | [.d t0 a0, .d t1 a1, .d t2 a2] => if t0 = tBond ∧ t1 = tDeed ∧ t2 = (.int .u64) then bond_Bond_Fight_p N a0 a1 a2 (fun d1 m1 => K (V.tup [V.d tBond (dk d1 1), V.d (Ty.int IntKind.i64) (dk d1 0)]) []) else none
  | _ => none
theorem bond_Bond_Fight_ok (N : Nat) {R : Type} : GOk (X0 gl0) 7 (bond_Bond_Fight_g N (R := R)) := by
  intro xs A Kr r hr
  unfold bond_Bond_Fight_g at hr
  split at hr
  · simp only [Option.ite_none_right_eq_some] at hr
    obtain ⟨hty, hr⟩ := hr
    obtain ⟨rfl, rfl, rfl⟩ := hty
    rw [← bond_Bond_Fight_run] at hr
    obtain ⟨v, L, h1, h2⟩ := exF_ok (ok0 gl0) (mo gl0) ((bond_Bond_Fight_ov N).ov_ok _) (extX_ok gl0) _ _ _ _ _ _ hr
    exact ⟨v, L, h1.mono (leA_none fun _ => rfl), h2⟩
  · cases hr
end Go.Proofs.YtjakbdogmomfeaaDoor


namespace Go.Proofs.YtjakbdogmomfeaaDoor
open Go Go.E
set_option maxRecDepth 100000
set_option maxHeartbeats 4000000
set_option linter.unusedSimpArgs false
variable {R : Type} {N : Nat}
def SOk (s : C) : Prop := s = .agg [s.get 0, s.get 1, s.get 2, s.get 3, .slice (condsP s)]
def mkB (id who roots : C) (rule : List C) (put paid ph un best : C) : C := .agg [id, who, roots, .slice rule, put, paid, ph, un, best]
theorem pact_Twin_eq {s : C} (h : SOk s) (k : KD R) : pact_Twin_p N s k = k [s] [] := by
  rw [pact_Twin_pe]
  unfold pact_Twin_p0
  simp only [Nat.beq_refl, cond_true]
  exact congrArg (fun x => k [x] []) h.symm
section
variable {id who roots : C} {rule : List C} {put paid ph un best : C}
theorem bond_Twin_eq (h : SOk best) (k : KD R) : bond_Bond_Twin_p N (mkB id who roots rule put paid ph un best) k = k [mkB id who roots rule put paid ph un best] [] := by
  rw [bond_Bond_Twin_pe]
  unfold bond_Bond_Twin_p0 mkB
  simp only [go_sem, pact_Twin_eq h, c_slice, Nat.beq_refl, cond_true]
def paidF (best paid s : C) (_ : Nat) (_ : Unit) (side : Nat) : Unit ⊕ Int := if (best.get 1).toInt < (s.get 1).toInt ∧ ((s.get 3).get side).toInt < (paid.get side).toInt then .inr 12 else .inl ()
def lookP (ph put paid best d : C) (w : Bool) : Int :=
  if ph.toInt = 2 then 31 else if w = false then 20 else if soundP (d.get 0) put ≠ 0 then soundP (d.get 0) put else okE (runE (paidF best paid (d.get 0)) 0 () [0, 1])
theorem look_eq {d : C} {w : Bool} (hW : ∀ k : KD R, deed_Roots_Whole_p N roots d id k = k [.bool w] []) (hN : 2199023255552 < N) (k : KD R) :
    bond_Bond_look_p N (mkB id who roots rule put paid ph un best) d k = k [.int (lookP ph put paid best d w)] [] := by
  rw [bond_Bond_look_pe]
  unfold bond_Bond_look_p0 lookP mkB
  simp only [go_sem, c_int, c_bool, hW, sound_eq (d.get 0) put hN]
  by_cases h1 : ph.toInt = 2
  · simp [h1]
  cases w
  · simp [h1]
  by_cases h2 : soundP (d.get 0) put = 0
  case neg => simp [h1, h2]
  simp only [h1, h2, decide_true, decide_false, Bool.not_true, cond_false, ne_eq, not_true, if_false, Bool.true_eq_false]
  refine (loopK_run0 (F := bond_Bond_look_l1 N k _) (fun i (_ : Unit) => [.agg [id, who, roots, .slice rule, put, paid, ph, un, best], d, paid, .int i]) (fun _ _ => []) ([0, 1] : List Nat) (paidF best paid (d.get 0)) (fun _ => k [.int 0] []) (fun e => k [.int e] []) (s0 := ()) ?_ ?_ (show 2 < N by omega)).trans ?_
  · intro i _ c hx hi rec
    have hi2 : i < 2 := hi
    have h1 : (i : Int) < 2 := by omega
    have hc : c = i := by
      have : i = 0 ∨ i = 1 := by omega
      rcases this with rfl | rfl <;> simp at hx <;> exact hx.symm
    subst hc
    unfold bond_Bond_look_l1 paidF
    simp only [go_sem, c_int, c_bool, h1, wrap_succ (show c < 4611686018427387904 by omega), Int.natCast_nonneg, and_self, if_true]
    by_cases h3 : (best.get 1).toInt < ((d.get 0).get 1).toInt
    · by_cases h4 : (((d.get 0).get 3).get c).toInt < (paid.get c).toInt <;> simp [h3, h4]
    · simp [h3]
  · intro _ rec
    unfold bond_Bond_look_l1
    simp [go_sem, c_int]
  · unfold endE okE
    cases runE (paidF best paid (d.get 0)) 0 () [0, 1] <;> rfl
def bestP (best d : C) : C := if (best.get 1).toInt < ((d.get 0).get 1).toInt then d.get 0 else best
theorem better_eq {d : C} (h : SOk best) (hd : SOk (d.get 0)) (k : KD R) : bond_Bond_better_p N (mkB id who roots rule put paid ph un best) d k = k [mkB id who roots rule put paid ph un (bestP best d)] [] := by
  rw [bond_Bond_better_pe]
  unfold bond_Bond_better_p0 bestP
  rw [bond_Twin_eq h]
  unfold mkB
  simp only [go_sem, c_int, pact_Twin_eq hd]
  by_cases h3 : (best.get 1).toInt < ((d.get 0).get 1).toInt <;> simp [h3]
def runR (p : List C) (w : C) (gas : Int) : Int × Int × Int := if 256 < p.length ∨ gas < 0 ∨ 4096 < gas then (0, 0, 1) else runV p gas w 0 0 ⟨[], 0⟩
theorem run_eq {p : List C} (hp : C.wf (.slice 1 (.int .u8)) (.slice p)) {gas : Int} {w : C} (hw : WOk w) (hN : 5000 < N) (k : KD R) :
    code_Run_p N (.slice p) w (.int gas) k = k [.int (runR p w gas).1, .int (runR p w gas).2.1, .int (runR p w gas).2.2] [] := by
  unfold runR
  by_cases h : 256 < p.length ∨ gas < 0 ∨ 4096 < gas
  · rw [if_pos h, code_Run_pe]
    unfold code_Run_p0
    simp only [go_sem, c_int, c_slice, c_bool]
    by_cases a1 : (256 : Int) < (p.length : Int)
    · simp [a1]
    by_cases a2 : gas < 0
    · simp [a1, a2]
    have a3 : (4096 : Int) < gas := by omega
    simp [a1, a2, a3]
  · rw [if_neg h]
    exact run_st hp (by omega) (by omega) hw hN k
def worldB (put best : C) : C := .agg [.slice [put.get 0, put.get 1, best.get 1], .slice [], .int 0]
def waitP (rule : List C) (put best : C) : Int :=
  if (runR rule (worldB put best) 200).2.2 ≠ 0 then 5 else
    if 1 < (if 50 < (runR rule (worldB put best) 200).1 then 50 else (runR rule (worldB put best) 200).1) then (if 50 < (runR rule (worldB put best) 200).1 then 50 else (runR rule (worldB put best) 200).1) else 1
theorem waitP_range (rule : List C) (put best : C) : 1 ≤ waitP rule put best ∧ waitP rule put best ≤ 50 := by
  unfold waitP
  split
  · omega
  · split <;> split <;> omega
structure BInt (put best : C) : Prop where
  p0 : put.get 0 = .int (put.get 0).toInt
  p1 : put.get 1 = .int (put.get 1).toInt
  r : best.get 1 = .int (best.get 1).toInt
theorem worldB_ok (h : BInt put best) : WOk (worldB put best) := by
  refine ⟨?_, by simp [worldB, C.get, C.elems], by simp [worldB, C.get, C.elems], rfl⟩
  intro c hc
  have hc : c ∈ [put.get 0, put.get 1, best.get 1] := hc
  simp only [List.mem_cons, List.not_mem_nil, or_false] at hc
  rcases hc with rfl | rfl | rfl
  · exact h.p0
  · exact h.p1
  · exact h.r
theorem wait_eq (hr : C.wf (.slice 1 (.int .u8)) (.slice rule)) (h : BInt put best) (hN : 5000 < N) (k : KD R) : bond_Bond_wait_p N (mkB id who roots rule put paid ph un best) k = k [.int (waitP rule put best)] [] := by
  rw [bond_Bond_wait_pe]
  unfold bond_Bond_wait_p0 mkB waitP
  have hw : C.agg [C.slice [put.get (Int.toNat 0), put.get (Int.toNat 1), best.get 1], C.slice [], zeroC (Ty.int IntKind.u64)] = worldB put best := rfl
  simp only [get_agg_3, get_agg_4, get_agg_8, hw, run_eq hr (worldB_ok h) hN]
  simp only [go_sem, c_int]
  by_cases h1 : (runR rule (worldB put best) 200).2.2 = 0
  · simp [h1]; rfl
  · simp [h1]
def zB : C := .agg [.int 0, zz, .agg [.agg [.agg (List.replicate 32 (.int 0)), .agg (List.replicate 32 (.int 0))], .int 0], .slice [], zz, zz, .int 0, .int 0, .agg [.int 0, .int 0, zz, zz, .slice []]]
theorem zB_eq : C.agg
    [zeroC (Ty.int IntKind.u32), zeroC (Ty.arr 2 (Ty.int IntKind.i64)),
      C.agg [C.agg [C.agg (List.replicate 32 (C.int 0)), C.agg (List.replicate 32 (C.int 0))], C.int 0], C.slice [],
      zeroC (Ty.arr 2 (Ty.int IntKind.u64)), zeroC (Ty.arr 2 (Ty.int IntKind.u64)), zeroC (Ty.int IntKind.i64),
      zeroC (Ty.int IntKind.u64),
      C.agg
        [zeroC (Ty.int IntKind.u32), zeroC (Ty.int IntKind.u64), zeroC (Ty.arr 2 (Ty.int IntKind.u64)),
          zeroC (Ty.arr 2 (Ty.int IntKind.u64)), C.slice []]] = zB := rfl
def fightP (id who roots : C) (rule : List C) (put paid ph un best d : C) (w : Bool) (height : Int) : Int × C :=
  if ph.toInt = 1 then (3, zB) else if lookP ph put paid best d w ≠ 0 then (lookP ph put paid best d w, zB) else
    if (addR height (waitP rule put (bestP best d))).2 ≠ 0 then ((addR height (waitP rule put (bestP best d))).2, zB) else
      (0, mkB id who roots rule put paid (.int 1) (.int (addR height (waitP rule put (bestP best d))).1) (bestP best d))
theorem fight_eq {d : C} {w : Bool} (hW : ∀ k : KD R, deed_Roots_Whole_p N roots d id k = k [.bool w] []) (hr : C.wf (.slice 1 (.int .u8)) (.slice rule)) (h : SOk best) (hd : SOk (d.get 0)) (hi : BInt put best) (hi2 : (d.get 0).get 1 = .int ((d.get 0).get 1).toInt) (hN : 2199023255552 < N) (height : C) (k : KD R) :
    bond_Bond_Fight_p N (mkB id who roots rule put paid ph un best) d height k = k [.int (fightP id who roots rule put paid ph un best d w height.toInt).1, (fightP id who roots rule put paid ph un best d w height.toInt).2] [] := by
  have hi3 : BInt put (bestP best d) := ⟨hi.p0, hi.p1, by unfold bestP; split; exact hi2; exact hi.r⟩
  rw [bond_Bond_Fight_pe]
  unfold bond_Bond_Fight_p0 fightP
  rw [zB_eq]
  have h6 : (mkB id who roots rule put paid ph un best).get 6 = ph := rfl
  have d0 : ∀ (c : C) (l : List C), dk (c :: l) 0 = c := fun _ _ => rfl
  simp only [h6, look_eq hW hN, better_eq h hd, d0, wait_eq hr hi3 (show 5000 < N by omega), add_eq]
  by_cases h1 : ph.toInt = 1
  · simp [h1]
  by_cases h2 : lookP ph put paid best d w = 0
  case neg => simp [h1, h2, go_sem, c_int]
  by_cases h3 : (addR height.toInt (waitP rule put (bestP best d))).2 = 0 <;> simp [h1, h2, h3, go_sem, c_int, mkB]
end
end Go.Proofs.YtjakbdogmomfeaaDoor


namespace Go.Proofs.YtjakbdogmomfeaaDoor
open Go Go.E
set_option maxRecDepth 100000
set_option maxHeartbeats 4000000
set_option linter.unusedVariables false
def notary_Notary_When_as : List Sh := [.as (.ptr (.g (.l 1)) [] tNotary2), .d (.arr 32 (.int .u8))]
def notary_Notary_When_os : List (Key × OSh) := [(.l 1, .box (.agg tNotary2 [.as (.mp (.g (.l 2)))])), (.l 2, .map (.arr 32 (.int .u8)) tEntry2)]
noncomputable def notary_Notary_When_hs : Hints := [([9], ⟨[], [(4, .d (.int .u64)), (5, .d .bool)], [], [], [.g (.l 1), .g (.l 2)], []⟩)]
noncomputable def notary_Notary_When_ov (N : Nat) : OvS (X0 gl0) where
  g R := []
  ok := fun R => fun _ h => nomatch h
noncomputable def notary_Notary_When_p0 {R : Type} (N : Nat) (a0 a1 b0 : C) (m0 : Es) (k1 : KD R) : Option R := (bif allDB tEntry2 (dE tEntry2 m0) then (bif hasE (dE tEntry2 m0) a0 then (k1 [C.get (getE (dE tEntry2 m0) a0) 1, C.bool true] []) else (k1 [C.int 0, C.bool false] [])) else none)
noncomputable def notary_Notary_When_p {R : Type} (N : Nat) : C → C → C → Es → KD R → Option R := lid "notary_Notary_When_p N" (notary_Notary_When_p0 N)
theorem notary_Notary_When_pe {R : Type} (N : Nat) (a0 a1 b0 : C) (m0 : Es) (k : KD R) : notary_Notary_When_p N a0 a1 b0 m0 k = notary_Notary_When_p0 N a0 a1 b0 m0 k := by unfold notary_Notary_When_p; rw [lid_eq]
theorem notary_Notary_When_run {R : Type} (N : Nat) (a0 a1 b0 : C) (m0 : Es) (K : V → List (Key × O) → Option R) : exF (X0 gl0) ((notary_Notary_When_ov N).ov R) extX (fun f r => bif Nat.beq f 53 then (bif Nat.beq r 0 then [(3, 5)] else []) else []) (fun f => bif Nat.beq f 53 then notary_Notary_When_hs else []) N 400 8 53 (Sh.fills notary_Notary_When_as 0 [a0, a1, b0]) (lookK (locFill notary_Notary_When_os (Sh.manys notary_Notary_When_as) 0 [a0, a1, b0] [m0])) K =
    notary_Notary_When_p N a0 a1 b0 m0 (fun d1 m1 => K (V.tup [V.d (Ty.int IntKind.u64) (dk d1 0), V.d Ty.bool (C.bool (C.toBool (dk d1 1)))]) []) := by
  rw [notary_Notary_When_pe]
  exact (show _ = jn (fun d1 m1 => (K (V.tup [V.d (Ty.int IntKind.u64) (dk d1 0), V.d Ty.bool (C.bool (C.toBool (dk d1 1)))]) [])) (notary_Notary_When_p0 N a0 a1 b0 m0) by kernel_rfl).trans (jn_eq _ _)
noncomputable def notary_Notary_When_g (N : Nat) {R : Type} : OvG R := ptrG notary_Notary_When_as notary_Notary_When_os fun ds ms K => notary_Notary_When_p N (dk ds 0) (dk ds 1) (dk ds 2) (dm ms 0) (fun d1 m1 => K (V.tup [V.d (Ty.int IntKind.u64) (dk d1 0), V.d Ty.bool (C.bool (C.toBool (dk d1 1)))]) [])
theorem notary_Notary_When_ok (N : Nat) {R : Type} : GOk (X0 gl0) 53 (notary_Notary_When_g N (R := R)) := by
  unfold notary_Notary_When_g
  refine ptrG_ok fun ds ms K r hr => ?_
  rw [← notary_Notary_When_run] at hr
  obtain ⟨v, L, h1, h2⟩ := exF_ok (ok0 gl0) (mo gl0) ((notary_Notary_When_ov N).ov_ok _) (extX_ok gl0) _ _ _ _ _ _ hr
  exact ⟨v, L, h1, h2⟩
end Go.Proofs.YtjakbdogmomfeaaDoor


namespace Go.Proofs.YtjakbdogmomfeaaDoor
open Go Go.E
set_option maxRecDepth 100000
set_option maxHeartbeats 4000000
set_option linter.unusedVariables false
def notary_Notary_In_as : List Sh := [.as (.ptr (.g (.l 1)) [] tNotary2), .d (.arr 32 (.int .u8)), .d (.int .u64)]
def notary_Notary_In_os : List (Key × OSh) := [(.l 1, .box (.agg tNotary2 [.as (.mp (.g (.l 2)))])), (.l 2, .map (.arr 32 (.int .u8)) tEntry2)]
noncomputable def notary_Notary_In_hs : Hints := [([0, 1, 1], ⟨[0], [(6, .d .bool)], [], [], [.g (.l 1), .g (.l 2)], []⟩),
    ([9], ⟨[], [(6, .d .bool)], [], [], [.g (.l 1), .g (.l 2)], []⟩)]
noncomputable def notary_Notary_In_ov (N : Nat) : OvS (X0 gl0) where
  g R := [(53, notary_Notary_When_g N)]
  ok := fun R => List.forall_mem_cons.2 ⟨notary_Notary_When_ok N, fun _ h => nomatch h⟩
noncomputable def notary_Notary_In_p0 {R : Type} (N : Nat) (a0 a1 a2 b0 : C) (m0 : Es) (k1 : KD R) : Option R := (if allD tEntry2 (List.map (fun c => (Prod.fst c, V.ren (swU (Key.l 2) (runSw (if Key.l 1 = runSw [] (Key.g (Key.l 1)) then [] else [] ++ [(Key.l 1, runSw [] (Key.g (Key.l 1)))]) (Key.g (Key.l 2)))) id (Prod.snd c))) (List.map (fun c => (Prod.fst c, V.ren (swU (Key.l 1) (runSw [] (Key.g (Key.l 1)))) id (Prod.snd c))) (List.map (fun c => (Prod.fst c, V.ren Key.g id (Prod.snd c))) (dE tEntry2 m0)))) = true then (notary_Notary_When_p N a0 C.nil C.nil (unE (List.map (fun c => (Prod.fst c, V.ren (swU (Key.l 2) (runSw (if Key.l 1 = runSw [] (Key.g (Key.l 1)) then [] else [] ++ [(Key.l 1, runSw [] (Key.g (Key.l 1)))]) (Key.g (Key.l 2)))) id (Prod.snd c))) (List.map (fun c => (Prod.fst c, V.ren (swU (Key.l 1) (runSw [] (Key.g (Key.l 1)))) id (Prod.snd c))) (List.map (fun c => (Prod.fst c, V.ren Key.g id (Prod.snd c))) (dE tEntry2 m0))))) (fun d1 m1 => (jn (fun d2 m2 => (k1 [C.bool (C.toBool (dk d2 0))] [])) (fun k2 => (bif C.toBool (dk d1 1) then (k2 [C.bool (decide (C.toInt (dk d1 0) ≤ C.toInt a1))] []) else (k2 [C.bool false] [])))))) else none)
noncomputable def notary_Notary_In_p {R : Type} (N : Nat) : C → C → C → C → Es → KD R → Option R := lid "notary_Notary_In_p N" (notary_Notary_In_p0 N)
theorem notary_Notary_In_pe {R : Type} (N : Nat) (a0 a1 a2 b0 : C) (m0 : Es) (k : KD R) : notary_Notary_In_p N a0 a1 a2 b0 m0 k = notary_Notary_In_p0 N a0 a1 a2 b0 m0 k := by unfold notary_Notary_In_p; rw [lid_eq]
theorem notary_Notary_In_run {R : Type} (N : Nat) (a0 a1 a2 b0 : C) (m0 : Es) (K : V → List (Key × O) → Option R) : exF (X0 gl0) ((notary_Notary_In_ov N).ov R) extX (fun f r => bif Nat.beq f 39 then (bif Nat.beq r 0 then [(4, 5)] else []) else []) (fun f => bif Nat.beq f 39 then notary_Notary_In_hs else []) N 400 8 39 (Sh.fills notary_Notary_In_as 0 [a0, a1, a2, b0]) (lookK (locFill notary_Notary_In_os (Sh.manys notary_Notary_In_as) 0 [a0, a1, a2, b0] [m0])) K =
    notary_Notary_In_p N a0 a1 a2 b0 m0 (fun d1 m1 => K (V.d Ty.bool (C.bool (C.toBool (dk d1 0)))) []) := by
  rw [notary_Notary_In_pe]
  exact (show _ = jn (fun d1 m1 => (K (V.d Ty.bool (C.bool (C.toBool (dk d1 0)))) [])) (notary_Notary_In_p0 N a0 a1 a2 b0 m0) by kernel_rfl).trans (jn_eq _ _)
noncomputable def notary_Notary_In_g (N : Nat) {R : Type} : OvG R := ptrG notary_Notary_In_as notary_Notary_In_os fun ds ms K => notary_Notary_In_p N (dk ds 0) (dk ds 1) (dk ds 2) (dk ds 3) (dm ms 0) (fun d1 m1 => K (V.d Ty.bool (C.bool (C.toBool (dk d1 0)))) [])
theorem notary_Notary_In_ok (N : Nat) {R : Type} : GOk (X0 gl0) 39 (notary_Notary_In_g N (R := R)) := by
  unfold notary_Notary_In_g
  refine ptrG_ok fun ds ms K r hr => ?_
  rw [← notary_Notary_In_run] at hr
  obtain ⟨v, L, h1, h2⟩ := exF_ok (ok0 gl0) (mo gl0) ((notary_Notary_In_ov N).ov_ok _) (extX_ok gl0) _ _ _ _ _ _ hr
  exact ⟨v, L, h1, h2⟩
end Go.Proofs.YtjakbdogmomfeaaDoor


namespace Go.Proofs.YtjakbdogmomfeaaDoor
open Go Go.E
set_option maxRecDepth 100000
set_option maxHeartbeats 4000000
set_option linter.unusedVariables false
def notary_Notary_Of_as : List Sh := [.as (.ptr (.g (.l 1)) [] tNotary2), .d tCond, .d (.int .u64)]
def notary_Notary_Of_os : List (Key × OSh) := [(.l 1, .box (.agg tNotary2 [.as (.mp (.g (.l 2)))])), (.l 2, .map (.arr 32 (.int .u8)) tEntry2)]
noncomputable def notary_Notary_Of_hs : Hints := [([9], ⟨[], [(6, .d (.int .i64))], [], [], [.g (.l 1), .g (.l 2)], []⟩)]
noncomputable def notary_Notary_Of_ov (N : Nat) : OvS (X0 gl0) where
  g R := [(39, notary_Notary_In_g N)]
  ok := fun R => List.forall_mem_cons.2 ⟨notary_Notary_In_ok N, fun _ h => nomatch h⟩
noncomputable def notary_Notary_Of_p0 {R : Type} (N : Nat) (a0 a1 b0 : C) (m0 : Es) (k1 : KD R) : Option R := (if allD tEntry2 (List.map (fun c => (Prod.fst c, V.ren (swU (Key.l 2) (runSw (if Key.l 1 = runSw [] (Key.g (Key.l 1)) then [] else [] ++ [(Key.l 1, runSw [] (Key.g (Key.l 1)))]) (Key.g (Key.l 2)))) id (Prod.snd c))) (List.map (fun c => (Prod.fst c, V.ren (swU (Key.l 1) (runSw [] (Key.g (Key.l 1)))) id (Prod.snd c))) (List.map (fun c => (Prod.fst c, V.ren Key.g id (Prod.snd c))) (dE tEntry2 m0)))) = true then (notary_Notary_In_p N (C.get a0 3) (C.get a0 4) C.nil C.nil (unE (List.map (fun c => (Prod.fst c, V.ren (swU (Key.l 2) (runSw (if Key.l 1 = runSw [] (Key.g (Key.l 1)) then [] else [] ++ [(Key.l 1, runSw [] (Key.g (Key.l 1)))]) (Key.g (Key.l 2)))) id (Prod.snd c))) (List.map (fun c => (Prod.fst c, V.ren (swU (Key.l 1) (runSw [] (Key.g (Key.l 1)))) id (Prod.snd c))) (List.map (fun c => (Prod.fst c, V.ren Key.g id (Prod.snd c))) (dE tEntry2 m0))))) (fun d1 m1 => (bif C.toBool (dk d1 0) then (k1 [C.int 1] []) else (bif decide (C.toInt (C.get a0 4) < C.toInt a1) then (k1 [C.int 2] []) else (k1 [C.int 0] []))))) else none)
noncomputable def notary_Notary_Of_p {R : Type} (N : Nat) : C → C → C → Es → KD R → Option R := lid "notary_Notary_Of_p N" (notary_Notary_Of_p0 N)
theorem notary_Notary_Of_pe {R : Type} (N : Nat) (a0 a1 b0 : C) (m0 : Es) (k : KD R) : notary_Notary_Of_p N a0 a1 b0 m0 k = notary_Notary_Of_p0 N a0 a1 b0 m0 k := by unfold notary_Notary_Of_p; rw [lid_eq]
theorem notary_Notary_Of_run {R : Type} (N : Nat) (a0 a1 b0 : C) (m0 : Es) (K : V → List (Key × O) → Option R) : exF (X0 gl0) ((notary_Notary_Of_ov N).ov R) extX (fun f r => bif Nat.beq f 29 then (bif Nat.beq r 0 then [(4, 5)] else []) else []) (fun f => bif Nat.beq f 29 then notary_Notary_Of_hs else []) N 400 8 29 (Sh.fills notary_Notary_Of_as 0 [a0, a1, b0]) (lookK (locFill notary_Notary_Of_os (Sh.manys notary_Notary_Of_as) 0 [a0, a1, b0] [m0])) K =
    notary_Notary_Of_p N a0 a1 b0 m0 (fun d1 m1 => K (V.d (Ty.int IntKind.i64) (dk d1 0)) []) := by
  rw [notary_Notary_Of_pe]
  exact (show _ = jn (fun d1 m1 => (K (V.d (Ty.int IntKind.i64) (dk d1 0)) [])) (notary_Notary_Of_p0 N a0 a1 b0 m0) by kernel_rfl).trans (jn_eq _ _)
noncomputable def notary_Notary_Of_g (N : Nat) {R : Type} : OvG R := ptrG notary_Notary_Of_as notary_Notary_Of_os fun ds ms K => notary_Notary_Of_p N (dk ds 0) (dk ds 1) (dk ds 2) (dm ms 0) (fun d1 m1 => K (V.d (Ty.int IntKind.i64) (dk d1 0)) [])
theorem notary_Notary_Of_ok (N : Nat) {R : Type} : GOk (X0 gl0) 29 (notary_Notary_Of_g N (R := R)) := by
  unfold notary_Notary_Of_g
  refine ptrG_ok fun ds ms K r hr => ?_
  rw [← notary_Notary_Of_run] at hr
  obtain ⟨v, L, h1, h2⟩ := exF_ok (ok0 gl0) (mo gl0) ((notary_Notary_Of_ov N).ov_ok _) (extX_ok gl0) _ _ _ _ _ _ hr
  exact ⟨v, L, h1, h2⟩
end Go.Proofs.YtjakbdogmomfeaaDoor


namespace Go.Proofs.YtjakbdogmomfeaaDoor
open Go Go.E
set_option maxRecDepth 100000
set_option maxHeartbeats 4000000
set_option linter.unusedVariables false
def notary_Notary_All_as : List Sh := [.as (.ptr (.g (.l 1)) [] tNotary2), .d (.int .u64), .d (.slice 64 tCond)]
def notary_Notary_All_os : List (Key × OSh) := [(.l 1, .box (.agg tNotary2 [.as (.mp (.g (.l 2)))])), (.l 2, .map (.arr 32 (.int .u8)) tEntry2)]
noncomputable def notary_Notary_All_hs : Hints := [([1, 0, 1, 1], ⟨[0], [(7, .sl 8 (.int .i64) 5007)], [], [], [.g (.l 1), .g (.l 2)], []⟩),
    ([4, 1, 0, 1, 1], ⟨[0, 1, 10, 11], [(7, .sl 8 (.int .i64) 5007), (12, .d (.int .i64))], [], [], [.g (.l 1), .g (.l 2)], []⟩),
    ([9], ⟨[], [(6, .sl 8 (.int .i64) 5006)], [], [], [.g (.l 1), .g (.l 2)], []⟩)]
noncomputable def notary_Notary_All_ov (N : Nat) : OvS (X0 gl0) where
  g R := [(29, notary_Notary_Of_g N)]
  ok := fun R => List.forall_mem_cons.2 ⟨notary_Notary_Of_ok N, fun _ h => nomatch h⟩
noncomputable def notary_Notary_All_l1 {R : Type} (N : Nat) (m0 : Es) (k2 : KD R) : KD R → List C → List Es → Option R := (fun k3 d1 m1 => (bif decide (C.toInt (dk d1 4) < C.toInt (dk d1 2)) then (if 0 ≤ C.toInt (dk d1 4) ∧ C.toInt (dk d1 4) < (↑(List.length (C.elems (dk d1 1))) : Int) then (if allD tEntry2 (List.map (fun c => (Prod.fst c, V.ren (swU (Key.l 2) (runSw (if Key.l 1 = runSw [] (Key.g (Key.l 1)) then [] else [] ++ [(Key.l 1, runSw [] (Key.g (Key.l 1)))]) (Key.g (Key.l 2)))) id (Prod.snd c))) (List.map (fun c => (Prod.fst c, V.ren (swU (Key.l 1) (runSw [] (Key.g (Key.l 1)))) id (Prod.snd c))) (List.map (fun c => (Prod.fst c, V.ren Key.g id (Prod.snd c))) (dE tEntry2 m0)))) = true then (notary_Notary_Of_p N (List.getD (C.elems (dk d1 1)) (Int.toNat (C.toInt (dk d1 4))) C.nil) (dk d1 0) C.nil (unE (List.map (fun c => (Prod.fst c, V.ren (swU (Key.l 2) (runSw (if Key.l 1 = runSw [] (Key.g (Key.l 1)) then [] else [] ++ [(Key.l 1, runSw [] (Key.g (Key.l 1)))]) (Key.g (Key.l 2)))) id (Prod.snd c))) (List.map (fun c => (Prod.fst c, V.ren (swU (Key.l 1) (runSw [] (Key.g (Key.l 1)))) id (Prod.snd c))) (List.map (fun c => (Prod.fst c, V.ren Key.g id (Prod.snd c))) (dE tEntry2 m0))))) (fun d2 m2 => (bif Nat.beq (List.length (C.elems (dk d1 3))) (List.length (C.elems (dk d1 3))) then (if (List.length (C.elems (dk d1 3)) + 1) * 8 ≤ 140737488355328 ∧ List.length (C.elems (dk d1 3)) + 1 ≤ 9223372036854775807 then (bif Nat.beq (List.length (C.elems (dk d1 3)) + 1) (List.length (C.elems (dk d1 3) ++ [dk d2 0])) then (k3 [dk d1 0, dk d1 1, dk d1 2, C.slice (C.elems (dk d1 3) ++ [dk d2 0]), C.int (IntKind.wrap IntKind.i64 (C.toInt (dk d1 4) + 1))] []) else none) else none) else none))) else none) else none) else (bif Nat.beq (List.length (C.elems (dk d1 3))) (List.length (C.elems (dk d1 3))) then (k2 [C.slice (C.elems (dk d1 3))] []) else none)))
noncomputable def notary_Notary_All_p0 {R : Type} (N : Nat) (a0 a1 b0 : C) (m0 : Es) (k1 : KD R) : Option R := (jn (fun d1 m1 => (bif Nat.beq (List.length (C.elems (dk d1 0))) (List.length (C.elems (dk d1 0))) then (k1 [C.slice (C.elems (dk d1 0))] []) else none)) (fun k2 => (loopK N (notary_Notary_All_l1 N m0 k2) [a0, a1, C.int (↑(List.length (C.elems a1)) : Int), C.slice [], C.int 0] [])))
noncomputable def notary_Notary_All_p {R : Type} (N : Nat) : C → C → C → Es → KD R → Option R := lid "notary_Notary_All_p N" (notary_Notary_All_p0 N)
theorem notary_Notary_All_pe {R : Type} (N : Nat) (a0 a1 b0 : C) (m0 : Es) (k : KD R) : notary_Notary_All_p N a0 a1 b0 m0 k = notary_Notary_All_p0 N a0 a1 b0 m0 k := by unfold notary_Notary_All_p; rw [lid_eq]
theorem notary_Notary_All_run {R : Type} (N : Nat) (a0 a1 b0 : C) (m0 : Es) (K : V → List (Key × O) → Option R) : exF (X0 gl0) ((notary_Notary_All_ov N).ov R) extX noX (fun f => bif Nat.beq f 21 then notary_Notary_All_hs else []) N 400 8 21 (Sh.fills notary_Notary_All_as 0 [a0, a1, b0]) (lookK (locFill notary_Notary_All_os (Sh.manys notary_Notary_All_as) 0 [a0, a1, b0] [m0])) K =
    notary_Notary_All_p N a0 a1 b0 m0 (fun d1 m1 => K (V.ts 8 (Ty.int IntKind.i64) (C.elems (dk d1 0))) []) := by
  rw [notary_Notary_All_pe]
  exact (show _ = jn (fun d1 m1 => (bif Nat.beq (List.length (C.elems (dk d1 0))) (List.length (C.elems (dk d1 0))) then
    (K (V.ts 8 (Ty.int IntKind.i64) (C.elems (dk d1 0))) [])
  else
    none)) (notary_Notary_All_p0 N a0 a1 b0 m0) by kernel_rfl).trans ((jn_eq _ _).trans (congrArg (notary_Notary_All_p0 N a0 a1 b0 m0) (funext fun _ => funext fun _ => by simp only [Nat.beq_refl, cond_true])))
noncomputable def notary_Notary_All_g (N : Nat) {R : Type} : OvG R := ptrG notary_Notary_All_as notary_Notary_All_os fun ds ms K => notary_Notary_All_p N (dk ds 0) (dk ds 1) (dk ds 2) (dm ms 0) (fun d1 m1 => K (V.ts 8 (Ty.int IntKind.i64) (C.elems (dk d1 0))) [])
theorem notary_Notary_All_ok (N : Nat) {R : Type} : GOk (X0 gl0) 21 (notary_Notary_All_g N (R := R)) := by
  unfold notary_Notary_All_g
  refine ptrG_ok fun ds ms K r hr => ?_
  rw [← notary_Notary_All_run] at hr
  obtain ⟨v, L, h1, h2⟩ := exF_ok (ok0 gl0) (mo gl0) ((notary_Notary_All_ov N).ov_ok _) (extX_ok gl0) _ _ _ _ _ _ hr
  exact ⟨v, L, h1, h2⟩
end Go.Proofs.YtjakbdogmomfeaaDoor


namespace Go.Proofs.YtjakbdogmomfeaaDoor
open Go Go.E
set_option maxRecDepth 100000
set_option maxHeartbeats 4000000
set_option linter.unusedVariables false
def bond_Bond_End_as : List Sh := [.d tBond, .as (.ptr (.g (.l 1)) [] tNotary2), .d (.int .u64)]
def bond_Bond_End_os : List (Key × OSh) := [(.l 1, .box (.agg tNotary2 [.as (.mp (.g (.l 2)))])), (.l 2, .map (.arr 32 (.int .u8)) tEntry2)]
noncomputable def bond_Bond_End_hs : Hints := [([1, 0, 1, 1, 1], ⟨[1, 3, 6, 7], [(9, .sl 1 .bool 5009)], [], [], [.g (.l 1), .g (.l 2)], []⟩),
    ([4, 1, 0, 1, 1, 1], ⟨[1, 3, 6, 7, 38, 39], [(9, .sl 1 .bool 5009), (40, .d (.int .i64))], [], [], [.g (.l 1), .g (.l 2)], []⟩),
    ([9], ⟨[], [(6, .as (.ptr (.l 6) [] tBond)), (7, .as (.ptr (.l 7) [] (.arr 2 (.int .u64)))), (8, .d (.int .i64))], [], [(.l 6, .box (.d tBond)), (.l 7, .box (.d (.arr 2 (.int .u64))))], [.g (.l 1), .g (.l 2)], []⟩)]
noncomputable def bond_Bond_End_ov (N : Nat) : OvS (X0 gl0) where
  g R := [(15, bond_Bond_Twin_g N), (21, notary_Notary_All_g N), (22, pact_Split_g N)]
  ok := fun R => List.forall_mem_cons.2 ⟨bond_Bond_Twin_ok N, List.forall_mem_cons.2 ⟨notary_Notary_All_ok N, List.forall_mem_cons.2 ⟨pact_Split_ok N, fun _ h => nomatch h⟩⟩⟩
noncomputable def bond_Bond_End_l1 {R : Type} (N : Nat) (k1 : KD R) (k2 : KD R) : KD R → List C → List Es → Option R := (fun k3 d2 m2 => (bif decide (C.toInt (dk d2 3) < C.toInt (dk d2 1)) then (if 0 ≤ C.toInt (dk d2 3) ∧ C.toInt (dk d2 3) < (↑(List.length (C.elems (dk d2 0))) : Int) then (bif decide (C.toInt (List.getD (C.elems (dk d2 0)) (Int.toNat (C.toInt (dk d2 3))) C.nil) = 0) then (k1 [C.int 30, C.agg [zeroC (Ty.int IntKind.u32), zeroC (Ty.arr 2 (Ty.int IntKind.i64)), C.agg [C.agg [C.agg (List.replicate 32 (C.int 0)), C.agg (List.replicate 32 (C.int 0))], C.int 0], C.slice [], zeroC (Ty.arr 2 (Ty.int IntKind.u64)), zeroC (Ty.arr 2 (Ty.int IntKind.u64)), zeroC (Ty.int IntKind.i64), zeroC (Ty.int IntKind.u64), C.agg [zeroC (Ty.int IntKind.u32), zeroC (Ty.int IntKind.u64), zeroC (Ty.arr 2 (Ty.int IntKind.u64)), zeroC (Ty.arr 2 (Ty.int IntKind.u64)), C.slice []]], zeroC (Ty.arr 2 (Ty.int IntKind.u64))] []) else (bif Nat.beq (List.length (C.elems (dk d2 2))) (List.length (C.elems (dk d2 2))) then (if (List.length (C.elems (dk d2 2)) + 1) * 1 ≤ 140737488355328 ∧ List.length (C.elems (dk d2 2)) + 1 ≤ 9223372036854775807 then (bif Nat.beq (List.length (C.elems (dk d2 2)) + 1) (List.length (C.elems (dk d2 2) ++ [C.bool (decide (C.toInt (List.getD (C.elems (dk d2 0)) (Int.toNat (C.toInt (dk d2 3))) C.nil) = 1))])) then (k3 [dk d2 0, dk d2 1, C.slice (C.elems (dk d2 2) ++ [C.bool (decide (C.toInt (List.getD (C.elems (dk d2 0)) (Int.toNat (C.toInt (dk d2 3))) C.nil) = 1))]), C.int (IntKind.wrap IntKind.i64 (C.toInt (dk d2 3) + 1)), dk d2 4, dk d2 5, dk d2 6] []) else none) else none) else none)) else none) else (bif Nat.beq (List.length (C.elems (dk d2 2))) (List.length (C.elems (dk d2 2))) then (k2 [C.slice (C.elems (dk d2 2)), dk d2 4, dk d2 5, dk d2 6] []) else none)))
noncomputable def bond_Bond_End_p0 {R : Type} (N : Nat) (a0 a1 b0 : C) (m0 : Es) (k1 : KD R) : Option R := (bif decide (C.toInt (C.get a0 6) = 0) then (k1 [C.int 3, C.agg [zeroC (Ty.int IntKind.u32), zeroC (Ty.arr 2 (Ty.int IntKind.i64)), C.agg [C.agg [C.agg (List.replicate 32 (C.int 0)), C.agg (List.replicate 32 (C.int 0))], C.int 0], C.slice [], zeroC (Ty.arr 2 (Ty.int IntKind.u64)), zeroC (Ty.arr 2 (Ty.int IntKind.u64)), zeroC (Ty.int IntKind.i64), zeroC (Ty.int IntKind.u64), C.agg [zeroC (Ty.int IntKind.u32), zeroC (Ty.int IntKind.u64), zeroC (Ty.arr 2 (Ty.int IntKind.u64)), zeroC (Ty.arr 2 (Ty.int IntKind.u64)), C.slice []]], zeroC (Ty.arr 2 (Ty.int IntKind.u64))] []) else (bif decide (C.toInt (C.get a0 6) = 2) then (k1 [C.int 31, C.agg [zeroC (Ty.int IntKind.u32), zeroC (Ty.arr 2 (Ty.int IntKind.i64)), C.agg [C.agg [C.agg (List.replicate 32 (C.int 0)), C.agg (List.replicate 32 (C.int 0))], C.int 0], C.slice [], zeroC (Ty.arr 2 (Ty.int IntKind.u64)), zeroC (Ty.arr 2 (Ty.int IntKind.u64)), zeroC (Ty.int IntKind.i64), zeroC (Ty.int IntKind.u64), C.agg [zeroC (Ty.int IntKind.u32), zeroC (Ty.int IntKind.u64), zeroC (Ty.arr 2 (Ty.int IntKind.u64)), zeroC (Ty.arr 2 (Ty.int IntKind.u64)), C.slice []]], zeroC (Ty.arr 2 (Ty.int IntKind.u64))] []) else (bif decide (C.toInt a1 < C.toInt (C.get a0 7)) then (k1 [C.int 30, C.agg [zeroC (Ty.int IntKind.u32), zeroC (Ty.arr 2 (Ty.int IntKind.i64)), C.agg [C.agg [C.agg (List.replicate 32 (C.int 0)), C.agg (List.replicate 32 (C.int 0))], C.int 0], C.slice [], zeroC (Ty.arr 2 (Ty.int IntKind.u64)), zeroC (Ty.arr 2 (Ty.int IntKind.u64)), zeroC (Ty.int IntKind.i64), zeroC (Ty.int IntKind.u64), C.agg [zeroC (Ty.int IntKind.u32), zeroC (Ty.int IntKind.u64), zeroC (Ty.arr 2 (Ty.int IntKind.u64)), zeroC (Ty.arr 2 (Ty.int IntKind.u64)), C.slice []]], zeroC (Ty.arr 2 (Ty.int IntKind.u64))] []) else (if allD tEntry2 (List.map (fun c => (Prod.fst c, V.ren (swU (Key.l 2) (runSw (if Key.l 1 = runSw [] (Key.g (Key.l 1)) then [] else [] ++ [(Key.l 1, runSw [] (Key.g (Key.l 1)))]) (Key.g (Key.l 2)))) id (Prod.snd c))) (List.map (fun c => (Prod.fst c, V.ren (swU (Key.l 1) (runSw [] (Key.g (Key.l 1)))) id (Prod.snd c))) (List.map (fun c => (Prod.fst c, V.ren Key.g id (Prod.snd c))) (dE tEntry2 m0)))) = true then (notary_Notary_All_p N a1 (C.get (C.get a0 8) 4) C.nil (unE (List.map (fun c => (Prod.fst c, V.ren (swU (Key.l 2) (runSw (if Key.l 1 = runSw [] (Key.g (Key.l 1)) then [] else [] ++ [(Key.l 1, runSw [] (Key.g (Key.l 1)))]) (Key.g (Key.l 2)))) id (Prod.snd c))) (List.map (fun c => (Prod.fst c, V.ren (swU (Key.l 1) (runSw [] (Key.g (Key.l 1)))) id (Prod.snd c))) (List.map (fun c => (Prod.fst c, V.ren Key.g id (Prod.snd c))) (dE tEntry2 m0))))) (fun d1 m1 => (jn (fun d2 m2 => (pact_Split_p N (C.get (dk d2 1) 8) (C.get (dk d2 1) 4) (C.get (dk d2 1) 5) (C.slice (C.elems (dk d2 0))) (fun d3 m3 => (bif !decide (C.toInt (dk d3 0) = 0) then (k1 [dk d3 0, C.agg [zeroC (Ty.int IntKind.u32), zeroC (Ty.arr 2 (Ty.int IntKind.i64)), C.agg [C.agg [C.agg (List.replicate 32 (C.int 0)), C.agg (List.replicate 32 (C.int 0))], C.int 0], C.slice [], zeroC (Ty.arr 2 (Ty.int IntKind.u64)), zeroC (Ty.arr 2 (Ty.int IntKind.u64)), zeroC (Ty.int IntKind.i64), zeroC (Ty.int IntKind.u64), C.agg [zeroC (Ty.int IntKind.u32), zeroC (Ty.int IntKind.u64), zeroC (Ty.arr 2 (Ty.int IntKind.u64)), zeroC (Ty.arr 2 (Ty.int IntKind.u64)), C.slice []]], zeroC (Ty.arr 2 (Ty.int IntKind.u64))] []) else (bond_Bond_Twin_p N (dk d2 1) (fun d4 m4 => (k1 [C.int 0, C.set (dk d4 0) 6 (C.int 2), dk d3 1] []))))))) (fun k2 => (loopK N (bond_Bond_End_l1 N k1 k2) [C.slice (C.elems (dk d1 0)), C.int (↑(List.length (C.elems (dk d1 0))) : Int), C.slice [], C.int 0, a0, C.agg [zeroC (Ty.int IntKind.u32), zeroC (Ty.arr 2 (Ty.int IntKind.i64)), C.agg [C.agg [C.agg (List.replicate 32 (C.int 0)), C.agg (List.replicate 32 (C.int 0))], C.int 0], C.slice [], zeroC (Ty.arr 2 (Ty.int IntKind.u64)), zeroC (Ty.arr 2 (Ty.int IntKind.u64)), zeroC (Ty.int IntKind.i64), zeroC (Ty.int IntKind.u64), C.agg [zeroC (Ty.int IntKind.u32), zeroC (Ty.int IntKind.u64), zeroC (Ty.arr 2 (Ty.int IntKind.u64)), zeroC (Ty.arr 2 (Ty.int IntKind.u64)), C.slice []]], zeroC (Ty.arr 2 (Ty.int IntKind.u64))] []))))) else none))))
noncomputable def bond_Bond_End_p {R : Type} (N : Nat) : C → C → C → Es → KD R → Option R := lid "bond_Bond_End_p N" (bond_Bond_End_p0 N)
theorem bond_Bond_End_pe {R : Type} (N : Nat) (a0 a1 b0 : C) (m0 : Es) (k : KD R) : bond_Bond_End_p N a0 a1 b0 m0 k = bond_Bond_End_p0 N a0 a1 b0 m0 k := by unfold bond_Bond_End_p; rw [lid_eq]
theorem bond_Bond_End_run {R : Type} (N : Nat) (a0 a1 b0 : C) (m0 : Es) (K : V → List (Key × O) → Option R) : exF (X0 gl0) ((bond_Bond_End_ov N).ov R) extX (fun f r => bif Nat.beq f 9 then (bif Nat.beq r 20 then [(12, 6), (3, 6)] else []) else []) (fun f => bif Nat.beq f 9 then bond_Bond_End_hs else []) N 400 8 9 (Sh.fills bond_Bond_End_as 0 [a0, a1, b0]) (lookK (locFill bond_Bond_End_os (Sh.manys bond_Bond_End_as) 0 [a0, a1, b0] [m0])) K =
    bond_Bond_End_p N a0 a1 b0 m0 (fun d1 m1 => K (V.tup [V.d tBond (dk d1 1), V.d (Ty.arr 2 (Ty.int IntKind.u64)) (dk d1 2), V.d (Ty.int IntKind.i64) (dk d1 0)]) []) := by
  rw [bond_Bond_End_pe]
  exact (show _ = jn (fun d1 m1 => (K (V.tup [V.d tBond (dk d1 1), V.d (Ty.arr 2 (Ty.int IntKind.u64)) (dk d1 2), V.d (Ty.int IntKind.i64) (dk d1 0)]) [])) (bond_Bond_End_p0 N a0 a1 b0 m0) by kernel_rfl).trans (jn_eq _ _)
noncomputable def bond_Bond_End_g (N : Nat) {R : Type} : OvG R := ptrG bond_Bond_End_as bond_Bond_End_os fun ds ms K => bond_Bond_End_p N (dk ds 0) (dk ds 1) (dk ds 2) (dm ms 0) (fun d1 m1 => K (V.tup [V.d tBond (dk d1 1), V.d (Ty.arr 2 (Ty.int IntKind.u64)) (dk d1 2), V.d (Ty.int IntKind.i64) (dk d1 0)]) [])
theorem bond_Bond_End_ok (N : Nat) {R : Type} : GOk (X0 gl0) 9 (bond_Bond_End_g N (R := R)) := by
  unfold bond_Bond_End_g
  refine ptrG_ok fun ds ms K r hr => ?_
  rw [← bond_Bond_End_run] at hr
  obtain ⟨v, L, h1, h2⟩ := exF_ok (ok0 gl0) (mo gl0) ((bond_Bond_End_ov N).ov_ok _) (extX_ok gl0) _ _ _ _ _ _ hr
  exact ⟨v, L, h1, h2⟩
end Go.Proofs.YtjakbdogmomfeaaDoor


namespace Go.Proofs.YtjakbdogmomfeaaDoor
open Go Go.E
set_option maxRecDepth 100000
set_option maxHeartbeats 4000000
set_option linter.unusedVariables false
noncomputable def bond_Bond_More_hs : Hints := [([0, 4, 0, 1], ⟨[1, 2, 3, 6], [(9, .d .bool)], [], [], [], []⟩),
    ([9], ⟨[], [(6, .as (.ptr (.l 6) [] tBond)), (7, .d (.int .i64))], [], [(.l 6, .box (.d tBond))], [], []⟩)]
noncomputable def bond_Bond_More_ov (N : Nat) : OvS (X0 gl0) where
  g R := [(15, bond_Bond_Twin_g N), (16, money_Add_g N)]
  ok := fun R => List.forall_mem_cons.2 ⟨bond_Bond_Twin_ok N, List.forall_mem_cons.2 ⟨money_Add_ok N, fun _ h => nomatch h⟩⟩
noncomputable def bond_Bond_More_p0 {R : Type} (N : Nat) (a0 a1 a2 : C) (k1 : KD R) : Option R := (jn (fun d1 m1 => (bif C.toBool (dk d1 2) then (k1 [C.int 1, C.agg [zeroC (Ty.int IntKind.u32), zeroC (Ty.arr 2 (Ty.int IntKind.i64)), C.agg [C.agg [C.agg (List.replicate 32 (C.int 0)), C.agg (List.replicate 32 (C.int 0))], C.int 0], C.slice [], zeroC (Ty.arr 2 (Ty.int IntKind.u64)), zeroC (Ty.arr 2 (Ty.int IntKind.u64)), zeroC (Ty.int IntKind.i64), zeroC (Ty.int IntKind.u64), C.agg [zeroC (Ty.int IntKind.u32), zeroC (Ty.int IntKind.u64), zeroC (Ty.arr 2 (Ty.int IntKind.u64)), zeroC (Ty.arr 2 (Ty.int IntKind.u64)), C.slice []]]] []) else (bif decide (C.toInt (C.get (dk d1 3) 6) = 2) then (k1 [C.int 31, C.agg [zeroC (Ty.int IntKind.u32), zeroC (Ty.arr 2 (Ty.int IntKind.i64)), C.agg [C.agg [C.agg (List.replicate 32 (C.int 0)), C.agg (List.replicate 32 (C.int 0))], C.int 0], C.slice [], zeroC (Ty.arr 2 (Ty.int IntKind.u64)), zeroC (Ty.arr 2 (Ty.int IntKind.u64)), zeroC (Ty.int IntKind.i64), zeroC (Ty.int IntKind.u64), C.agg [zeroC (Ty.int IntKind.u32), zeroC (Ty.int IntKind.u64), zeroC (Ty.arr 2 (Ty.int IntKind.u64)), zeroC (Ty.arr 2 (Ty.int IntKind.u64)), C.slice []]]] []) else (bond_Bond_Twin_p N (dk d1 3) (fun d2 m2 => (if 0 ≤ C.toInt (dk d1 0) ∧ C.toInt (dk d1 0) < 2 then (money_Add_p N (C.get (C.get (dk d2 0) 4) (Int.toNat (C.toInt (dk d1 0)))) (dk d1 1) (fun d3 m3 => (if 0 ≤ C.toInt (dk d1 0) ∧ C.toInt (dk d1 0) < 2 then (bif !decide (C.toInt (dk d3 1) = 0) then (k1 [dk d3 1, C.agg [zeroC (Ty.int IntKind.u32), zeroC (Ty.arr 2 (Ty.int IntKind.i64)), C.agg [C.agg [C.agg (List.replicate 32 (C.int 0)), C.agg (List.replicate 32 (C.int 0))], C.int 0], C.slice [], zeroC (Ty.arr 2 (Ty.int IntKind.u64)), zeroC (Ty.arr 2 (Ty.int IntKind.u64)), zeroC (Ty.int IntKind.i64), zeroC (Ty.int IntKind.u64), C.agg [zeroC (Ty.int IntKind.u32), zeroC (Ty.int IntKind.u64), zeroC (Ty.arr 2 (Ty.int IntKind.u64)), zeroC (Ty.arr 2 (Ty.int IntKind.u64)), C.slice []]]] []) else (money_Add_p N (C.int 0) (C.get (C.get (C.set (dk d2 0) 4 (C.set (C.get (dk d2 0) 4) (Int.toNat (C.toInt (dk d1 0))) (dk d3 0))) 4) 0) (fun d4 m4 => (bif !decide (C.toInt (dk d4 1) = 0) then (bif !decide (C.toInt (dk d4 1) = 0) then (k1 [dk d4 1, C.agg [zeroC (Ty.int IntKind.u32), zeroC (Ty.arr 2 (Ty.int IntKind.i64)), C.agg [C.agg [C.agg (List.replicate 32 (C.int 0)), C.agg (List.replicate 32 (C.int 0))], C.int 0], C.slice [], zeroC (Ty.arr 2 (Ty.int IntKind.u64)), zeroC (Ty.arr 2 (Ty.int IntKind.u64)), zeroC (Ty.int IntKind.i64), zeroC (Ty.int IntKind.u64), C.agg [zeroC (Ty.int IntKind.u32), zeroC (Ty.int IntKind.u64), zeroC (Ty.arr 2 (Ty.int IntKind.u64)), zeroC (Ty.arr 2 (Ty.int IntKind.u64)), C.slice []]]] []) else (k1 [C.int 0, C.set (dk d2 0) 4 (C.set (C.get (dk d2 0) 4) (Int.toNat (C.toInt (dk d1 0))) (dk d3 0))] [])) else (money_Add_p N (dk d4 0) (C.get (C.get (C.set (dk d2 0) 4 (C.set (C.get (dk d2 0) 4) (Int.toNat (C.toInt (dk d1 0))) (dk d3 0))) 4) 1) (fun d5 m5 => (bif !decide (C.toInt (dk d5 1) = 0) then (bif !decide (C.toInt (dk d5 1) = 0) then (k1 [dk d5 1, C.agg [zeroC (Ty.int IntKind.u32), zeroC (Ty.arr 2 (Ty.int IntKind.i64)), C.agg [C.agg [C.agg (List.replicate 32 (C.int 0)), C.agg (List.replicate 32 (C.int 0))], C.int 0], C.slice [], zeroC (Ty.arr 2 (Ty.int IntKind.u64)), zeroC (Ty.arr 2 (Ty.int IntKind.u64)), zeroC (Ty.int IntKind.i64), zeroC (Ty.int IntKind.u64), C.agg [zeroC (Ty.int IntKind.u32), zeroC (Ty.int IntKind.u64), zeroC (Ty.arr 2 (Ty.int IntKind.u64)), zeroC (Ty.arr 2 (Ty.int IntKind.u64)), C.slice []]]] []) else (k1 [C.int 0, C.set (dk d2 0) 4 (C.set (C.get (dk d2 0) 4) (Int.toNat (C.toInt (dk d1 0))) (dk d3 0))] [])) else (k1 [C.int 0, C.set (dk d2 0) 4 (C.set (C.get (dk d2 0) 4) (Int.toNat (C.toInt (dk d1 0))) (dk d3 0))] [])))))))) else none))) else none)))))) (fun k2 => (bif !decide (C.toInt a1 = 0) then (bif !decide (C.toInt a1 = 1) then (k2 [a1, a2, C.bool true, a0, C.agg [zeroC (Ty.int IntKind.u32), zeroC (Ty.arr 2 (Ty.int IntKind.i64)), C.agg [C.agg [C.agg (List.replicate 32 (C.int 0)), C.agg (List.replicate 32 (C.int 0))], C.int 0], C.slice [], zeroC (Ty.arr 2 (Ty.int IntKind.u64)), zeroC (Ty.arr 2 (Ty.int IntKind.u64)), zeroC (Ty.int IntKind.i64), zeroC (Ty.int IntKind.u64), C.agg [zeroC (Ty.int IntKind.u32), zeroC (Ty.int IntKind.u64), zeroC (Ty.arr 2 (Ty.int IntKind.u64)), zeroC (Ty.arr 2 (Ty.int IntKind.u64)), C.slice []]]] []) else (k2 [a1, a2, C.bool (decide (C.toInt a2 = 0)), a0, C.agg [zeroC (Ty.int IntKind.u32), zeroC (Ty.arr 2 (Ty.int IntKind.i64)), C.agg [C.agg [C.agg (List.replicate 32 (C.int 0)), C.agg (List.replicate 32 (C.int 0))], C.int 0], C.slice [], zeroC (Ty.arr 2 (Ty.int IntKind.u64)), zeroC (Ty.arr 2 (Ty.int IntKind.u64)), zeroC (Ty.int IntKind.i64), zeroC (Ty.int IntKind.u64), C.agg [zeroC (Ty.int IntKind.u32), zeroC (Ty.int IntKind.u64), zeroC (Ty.arr 2 (Ty.int IntKind.u64)), zeroC (Ty.arr 2 (Ty.int IntKind.u64)), C.slice []]]] [])) else (k2 [a1, a2, C.bool (decide (C.toInt a2 = 0)), a0, C.agg [zeroC (Ty.int IntKind.u32), zeroC (Ty.arr 2 (Ty.int IntKind.i64)), C.agg [C.agg [C.agg (List.replicate 32 (C.int 0)), C.agg (List.replicate 32 (C.int 0))], C.int 0], C.slice [], zeroC (Ty.arr 2 (Ty.int IntKind.u64)), zeroC (Ty.arr 2 (Ty.int IntKind.u64)), zeroC (Ty.int IntKind.i64), zeroC (Ty.int IntKind.u64), C.agg [zeroC (Ty.int IntKind.u32), zeroC (Ty.int IntKind.u64), zeroC (Ty.arr 2 (Ty.int IntKind.u64)), zeroC (Ty.arr 2 (Ty.int IntKind.u64)), C.slice []]]] []))))
noncomputable def bond_Bond_More_p {R : Type} (N : Nat) : C → C → C → KD R → Option R := lid "bond_Bond_More_p N" (bond_Bond_More_p0 N)
theorem bond_Bond_More_pe {R : Type} (N : Nat) (a0 a1 a2 : C) (k : KD R) : bond_Bond_More_p N a0 a1 a2 k = bond_Bond_More_p0 N a0 a1 a2 k := by unfold bond_Bond_More_p; rw [lid_eq]
theorem bond_Bond_More_run {R : Type} (N : Nat) (a0 a1 a2 : C) (K : V → List (Key × O) → Option R) : exF (X0 gl0) ((bond_Bond_More_ov N).ov R) extX noX (fun f => bif Nat.beq f 6 then bond_Bond_More_hs else []) N 400 8 6 [.d tBond a0, .d (.int .i64) a1, .d (.int .u64) a2] A0 K =
    bond_Bond_More_p N a0 a1 a2 (fun d1 m1 => K (V.tup [V.d tBond (dk d1 1), V.d (Ty.int IntKind.i64) (dk d1 0)]) []) := by
  rw [bond_Bond_More_pe]
  exact (show _ = jn (fun d1 m1 => (K (V.tup [V.d tBond (dk d1 1), V.d (Ty.int IntKind.i64) (dk d1 0)]) [])) (bond_Bond_More_p0 N a0 a1 a2) by kernel_rfl).trans (jn_eq _ _)
noncomputable def bond_Bond_More_g (N : Nat) {R : Type} : OvG R := fun xs _ K => match xs with
  | [.d t0 a0, .d t1 a1, .d t2 a2] => if t0 = tBond ∧ t1 = (.int .i64) ∧ t2 = (.int .u64) then bond_Bond_More_p N a0 a1 a2 (fun d1 m1 => K (V.tup [V.d tBond (dk d1 1), V.d (Ty.int IntKind.i64) (dk d1 0)]) []) else none
  | _ => none
theorem bond_Bond_More_ok (N : Nat) {R : Type} : GOk (X0 gl0) 6 (bond_Bond_More_g N (R := R)) := by
  intro xs A Kr r hr
  unfold bond_Bond_More_g at hr
  split at hr
  · simp only [Option.ite_none_right_eq_some] at hr
    obtain ⟨hty, hr⟩ := hr
    obtain ⟨rfl, rfl, rfl⟩ := hty
    rw [← bond_Bond_More_run] at hr
    obtain ⟨v, L, h1, h2⟩ := exF_ok (ok0 gl0) (mo gl0) ((bond_Bond_More_ov N).ov_ok _) (extX_ok gl0) _ _ _ _ _ _ hr
    exact ⟨v, L, h1.mono (leA_none fun _ => rfl), h2⟩
  · cases hr
end Go.Proofs.YtjakbdogmomfeaaDoor


namespace Go.Proofs.YtjakbdogmomfeaaDoor
open Go Go.E
set_option maxRecDepth 100000
set_option maxHeartbeats 4000000
set_option linter.unusedVariables false
noncomputable def bond_Bond_Locked_hs : Hints := [([9], ⟨[], [(2, .d (.int .u64))], [], [], [], []⟩)]
noncomputable def bond_Bond_Locked_ov (N : Nat) : OvS (X0 gl0) where
  g R := []
  ok := fun R => fun _ h => nomatch h
noncomputable def bond_Bond_Locked_p0 {R : Type} (N : Nat) (a0 : C) (k1 : KD R) : Option R := (bif decide (C.toInt (C.get a0 6) = 2) then (k1 [C.int 0] []) else (k1 [C.int (IntKind.wrap IntKind.u64 (IntKind.wrap IntKind.u64 (IntKind.wrap IntKind.u64 (C.toInt (C.get (C.get a0 4) (Int.toNat 0)) - C.toInt (C.get (C.get a0 5) (Int.toNat 0))) + C.toInt (C.get (C.get a0 4) (Int.toNat 1))) - C.toInt (C.get (C.get a0 5) (Int.toNat 1))))] []))
noncomputable def bond_Bond_Locked_p {R : Type} (N : Nat) : C → KD R → Option R := lid "bond_Bond_Locked_p N" (bond_Bond_Locked_p0 N)
theorem bond_Bond_Locked_pe {R : Type} (N : Nat) (a0 : C) (k : KD R) : bond_Bond_Locked_p N a0 k = bond_Bond_Locked_p0 N a0 k := by unfold bond_Bond_Locked_p; rw [lid_eq]
theorem bond_Bond_Locked_run {R : Type} (N : Nat) (a0 : C) (K : V → List (Key × O) → Option R) : exF (X0 gl0) ((bond_Bond_Locked_ov N).ov R) extX (fun f r => bif Nat.beq f 11 then (bif Nat.beq r 0 then [(1, 5)] else []) else []) (fun f => bif Nat.beq f 11 then bond_Bond_Locked_hs else []) N 400 8 11 [.d tBond a0] A0 K =
    bond_Bond_Locked_p N a0 (fun d1 m1 => K (V.d (Ty.int IntKind.u64) (dk d1 0)) []) := by
  rw [bond_Bond_Locked_pe]
  exact (show _ = jn (fun d1 m1 => (K (V.d (Ty.int IntKind.u64) (dk d1 0)) [])) (bond_Bond_Locked_p0 N a0) by kernel_rfl).trans (jn_eq _ _)
noncomputable def bond_Bond_Locked_g (N : Nat) {R : Type} : OvG R := fun xs _ K => match xs with
  | [.d t0 a0] => if t0 = tBond then bond_Bond_Locked_p N a0 (fun d1 m1 => K (V.d (Ty.int IntKind.u64) (dk d1 0)) []) else none
  | _ => none
theorem bond_Bond_Locked_ok (N : Nat) {R : Type} : GOk (X0 gl0) 11 (bond_Bond_Locked_g N (R := R)) := by
  intro xs A Kr r hr
  unfold bond_Bond_Locked_g at hr
  split at hr
  · simp only [Option.ite_none_right_eq_some] at hr
    obtain ⟨hty, hr⟩ := hr
    subst hty
    rw [← bond_Bond_Locked_run] at hr
    obtain ⟨v, L, h1, h2⟩ := exF_ok (ok0 gl0) (mo gl0) ((bond_Bond_Locked_ov N).ov_ok _) (extX_ok gl0) _ _ _ _ _ _ hr
    exact ⟨v, L, h1.mono (leA_none fun _ => rfl), h2⟩
  · cases hr
end Go.Proofs.YtjakbdogmomfeaaDoor


namespace Go.Proofs.YtjakbdogmomfeaaDoor
open Go Go.E
set_option maxRecDepth 100000
set_option maxHeartbeats 4000000
set_option linter.unusedSimpArgs false
variable {R : Type} {N : Nat}
def ofP (m : Es) (c : C) (height : Int) : Int :=
  if hasM m (c.get 3) = true ∧ ((getM m (c.get 3)).get 1).toInt ≤ (c.get 4).toInt then 1 else if (c.get 4).toInt < height then 2 else 0
theorem when_eq (h : C) (a1 b0 : C) (m : Es) (k : KD R) : notary_Notary_When_p N h a1 b0 m k = k [if hasM m h = true then (getM m h).get 1 else .int 0, .bool (hasM m h)] [] := by
  rw [notary_Notary_When_pe]
  unfold notary_Notary_When_p0
  simp only [go_sem]
  cases hasM m h <;> rfl
theorem in_eq (h x : C) (a1 b0 : C) (m : Es) (k : KD R) : notary_Notary_In_p N h x a1 b0 m k = k [.bool (hasM m h && decide (((getM m h).get 1).toInt ≤ x.toInt))] [] := by
  rw [notary_Notary_In_pe]
  unfold notary_Notary_In_p0
  simp only [go_sem, when_eq, c_bool]
  cases hasM m h <;> simp
theorem of_eq (c height : C) (b0 : C) (m : Es) (k : KD R) : notary_Notary_Of_p N c height b0 m k = k [.int (ofP m c height.toInt)] [] := by
  rw [notary_Notary_Of_pe]
  unfold notary_Notary_Of_p0 ofP
  simp only [go_sem, in_eq, c_bool]
  cases h : hasM m (c.get 3)
  · by_cases h2 : (c.get 4).toInt < height.toInt <;> simp [h2]
  · by_cases h1 : ((getM m (c.get 3)).get 1).toInt ≤ (c.get 4).toInt
    · simp [h1]
    · by_cases h2 : (c.get 4).toInt < height.toInt <;> simp [h1, h2]
theorem all_eq (height : C) (l : C) (b0 : C) (m : Es) (hl : l.elems.length < 1099511627776) (hN : 2199023255552 < N) (k : KD R) : notary_Notary_All_p N height l b0 m k = k [.slice (l.elems.map fun c => .int (ofP m c height.toInt))] [] := by
  rw [notary_Notary_All_pe]
  unfold notary_Notary_All_p0
  rw [jn_eq]
  refine loopK_count (F := notary_Notary_All_l1 N m _) (fun i => [height, l, .int l.elems.length, .slice ((l.elems.take i).map fun c => .int (ofP m c height.toInt)), .int i]) (fun _ => []) l.elems.length _ ?_ ?_ (by omega)
  · intro i hi rec
    have hc : l.elems[i]? = some l.elems[i] := List.getElem?_eq_getElem hi
    have h1 : (i : Int) < (l.elems.length : Int) := by omega
    have hlen : (l.elems.take i).length = i := by rw [List.length_take]; omega
    have h3 : (i + 1) * 8 ≤ 140737488355328 ∧ i + 1 ≤ 9223372036854775807 := by omega
    have h4 : List.take (i + 1) l.elems = List.take i l.elems ++ [l.elems[i]] := by rw [List.take_add_one, hc]; rfl
    unfold notary_Notary_All_l1
    simp only [go_sem, c_int, c_slice, h1, getD_of hc, wrap_succ (show i < 4611686018427387904 by omega), Int.natCast_nonneg, and_self, if_true, h3, Nat.beq_refl, cond_true, of_eq, List.length_map, List.length_append, List.length_cons, List.length_nil, hlen, h4, List.map_append, List.map_cons, List.map_nil]
  · intro rec
    unfold notary_Notary_All_l1
    simp only [go_sem, c_int, c_slice, Int.lt_irrefl, if_false, Nat.beq_refl, cond_true, List.take_length]
section
variable {id who roots : C} {rule : List C} {put paid ph un best : C}
def isOpen (m : Es) (height : Int) (l : List C) : Bool := l.any fun c => decide (ofP m c height = 0)
def doneL (m : Es) (height : Int) (l : List C) : List C := l.map fun c => .bool (decide (ofP m c height = 1))
def doneF (m : Es) (height : Int) (_ : Nat) (acc : List C) (c : C) : List C ⊕ Unit := if ofP m c height = 0 then .inr () else .inl (acc ++ [.bool (decide (ofP m c height = 1))])
theorem done_run (m : Es) (height : Int) : ∀ (l : List C) (i : Nat) (acc : List C), runE (doneF m height) i acc l = if isOpen m height l = true then .inr () else .inl (acc ++ doneL m height l)
  | [], _, acc => by simp [runE, isOpen, doneL]
  | c :: l, i, acc => by
    simp only [runE, doneF]
    by_cases h : ofP m c height = 0
    · simp [h, isOpen]
    · have ih := done_run m height l (i + 1) (acc ++ [.bool (decide (ofP m c height = 1))])
      simp only [h, if_false, ih]
      have e : isOpen m height (c :: l) = isOpen m height l := by simp [isOpen, h]
      rw [e]
      simp [doneL]
def endP (m : Es) (id who roots : C) (rule : List C) (put paid ph un best : C) (height : Int) : Int × C × C :=
  if ph.toInt = 0 then (3, zB, zz) else if ph.toInt = 2 then (31, zB, zz) else if height < un.toInt then (30, zB, zz) else
    if isOpen m height (condsP best) = true then (30, zB, zz) else
      if (splitP best put paid (doneL m height (condsP best))).1 ≠ 0 then ((splitP best put paid (doneL m height (condsP best))).1, zB, zz) else
        (0, mkB id who roots rule put paid (.int 2) un best, (splitP best put paid (doneL m height (condsP best))).2)
theorem end_eq (h : SOk best) (hl : (condsP best).length < 1099511627776) (m : Es) (height b0 : C) (hN : 2199023255552 < N) (k : KD R) :
    bond_Bond_End_p N (mkB id who roots rule put paid ph un best) height b0 m k =
      k [.int (endP m id who roots rule put paid ph un best height.toInt).1, (endP m id who roots rule put paid ph un best height.toInt).2.1, (endP m id who roots rule put paid ph un best height.toInt).2.2] [] := by
  have hz : zeroC (Ty.arr 2 (Ty.int IntKind.u64)) = zz := rfl
  have h6 : (mkB id who roots rule put paid ph un best).get 6 = ph := rfl
  have h7 : (mkB id who roots rule put paid ph un best).get 7 = un := rfl
  have h8 : (mkB id who roots rule put paid ph un best).get 8 = best := rfl
  have h4 : (mkB id who roots rule put paid ph un best).get 4 = put := rfl
  have h5 : (mkB id who roots rule put paid ph un best).get 5 = paid := rfl
  rw [bond_Bond_End_pe]
  unfold bond_Bond_End_p0 endP
  rw [zB_eq, hz]
  simp only [h6, h7, h8]
  by_cases a1 : ph.toInt = 0
  · simp [a1]
  by_cases a2 : ph.toInt = 2
  · simp [a1, a2]
  by_cases a3 : height.toInt < un.toInt
  · simp [a1, a2, a3]
  have hbl : (best.get 4).elems.length = (condsP best).length := rfl
  simp only [a1, a2, a3, decide_false, cond_false, if_false, renE_dE, allD_dE, unE_dE, if_true, all_eq height (best.get 4) C.nil m hl hN, jn_eq, dk_0, c_slice, List.length_map, hbl]
  refine (loopK_run (N := N) (F := bond_Bond_End_l1 N k _) (fun i (acc : List C) => [.slice ((condsP best).map fun c => .int (ofP m c height.toInt)), .int (condsP best).length, .slice acc, .int i, mkB id who roots rule put paid ph un best, zB, zz]) (fun _ _ => [])
    (condsP best) (doneF m height.toInt) (fun acc => if (splitP best put paid acc).1 ≠ 0 then k [.int (splitP best put paid acc).1, zB, zz] [] else k [.int 0, mkB id who roots rule put paid (.int 2) un best, (splitP best put paid acc).2] [])
    (fun _ => k [.int 30, zB, zz] []) (fun i acc => acc.length = i) (s0 := []) rfl ?_ ?_ (by omega)).trans ?_
  · intro i acc c hx hP
    have hi : i < (condsP best).length := (List.getElem?_eq_some_iff.1 hx).1
    refine ⟨fun rec => ?_, fun acc' h' => ?_⟩
    · have h1 : (i : Int) < ((condsP best).length : Int) := by omega
      have hg : (List.map (fun c => C.int (ofP m c height.toInt)) (condsP best)).getD i .nil = .int (ofP m c height.toInt) := by
        rw [List.getD_eq_getElem?_getD, List.getElem?_map, hx]; rfl
      have h3 : (acc.length + 1) * 1 ≤ 140737488355328 ∧ acc.length + 1 ≤ 9223372036854775807 := by omega
      unfold bond_Bond_End_l1 doneF
      rw [zB_eq, hz]
      simp only [dk_0, dk_1, dk_2, dk_3, dk_4, dk_5, dk_6, c_int, c_slice, h1, hg, List.length_map, List.length_append, List.length_cons, List.length_nil, Nat.zero_add, Int.toNat_natCast, wrap_succ (show i < 4611686018427387904 by omega), Int.natCast_nonneg, and_self, if_true, h3, Nat.beq_refl, cond_true, decide_true]
      by_cases h : ofP m c height.toInt = 0 <;> simp [h]
    · unfold doneF at h'
      split at h'
      · cases h'
      · cases h'; simp [hP]
  · intro acc hP rec
    unfold bond_Bond_End_l1
    rw [zB_eq, hz]
    simp only [dk_0, dk_1, dk_2, dk_3, dk_4, dk_5, dk_6, c_int, c_slice, Int.lt_irrefl, decide_false, cond_false, Nat.beq_refl, cond_true, h8, h4, h5, split_eq best put paid (.slice acc) rfl hN, bond_Twin_eq h]
    by_cases h : (splitP best put paid acc).1 = 0
    · simp [h, mkB]; rfl
    · simp [h, mkB]
  · rw [done_run]
    by_cases h : isOpen m height.toInt (condsP best) = true
    · simp [h, endE]
    · simp only [h, if_false, List.nil_append, endE]
      by_cases h9 : (splitP best put paid (doneL m height.toInt (condsP best))).1 = 0 <;> simp [h9]
def moreP (id who roots : C) (rule : List C) (put paid ph un best : C) (side amount : Int) : Int × C :=
  if (side ≠ 0 ∧ side ≠ 1) ∨ amount = 0 then (1, zB) else if ph.toInt = 2 then (31, zB) else
    if (addR (put.get side.toNat).toInt amount).2 ≠ 0 then ((addR (put.get side.toNat).toInt amount).2, zB) else
      if (sumP [(put.set side.toNat (.int (addR (put.get side.toNat).toInt amount).1)).get 0, (put.set side.toNat (.int (addR (put.get side.toNat).toInt amount).1)).get 1]).2 ≠ 0 then ((sumP [(put.set side.toNat (.int (addR (put.get side.toNat).toInt amount).1)).get 0, (put.set side.toNat (.int (addR (put.get side.toNat).toInt amount).1)).get 1]).2, zB) else
        (0, mkB id who roots rule (put.set side.toNat (.int (addR (put.get side.toNat).toInt amount).1)) paid ph un best)
theorem more_eq (h : SOk best) (side amount : C) (k : KD R) :
    bond_Bond_More_p N (mkB id who roots rule put paid ph un best) side amount k = k [.int (moreP id who roots rule put paid ph un best side.toInt amount.toInt).1, (moreP id who roots rule put paid ph un best side.toInt amount.toInt).2] [] := by
  have h6 : (mkB id who roots rule put paid ph un best).get 6 = ph := rfl
  rw [bond_Bond_More_pe]
  unfold bond_Bond_More_p0 moreP
  rw [zB_eq]
  have e : ∀ K : KD R, jn K (fun K => (bif !decide (side.toInt = 0) then (bif !decide (side.toInt = 1) then K [side, amount, .bool true, mkB id who roots rule put paid ph un best, zB] [] else K [side, amount, .bool (decide (amount.toInt = 0)), mkB id who roots rule put paid ph un best, zB] []) else K [side, amount, .bool (decide (amount.toInt = 0)), mkB id who roots rule put paid ph un best, zB] [])) =
      K [side, amount, .bool (decide ((side.toInt ≠ 0 ∧ side.toInt ≠ 1) ∨ amount.toInt = 0)), mkB id who roots rule put paid ph un best, zB] [] := fun K => by
    rw [jn_eq]
    by_cases h0 : side.toInt = 0
    · simp [h0]
    · by_cases h1 : side.toInt = 1 <;> simp [h0, h1]
  rw [e]
  by_cases a1 : (side.toInt ≠ 0 ∧ side.toInt ≠ 1) ∨ amount.toInt = 0
  · simp only [dk_0, dk_1, dk_2, dk_3, c_bool, a1, decide_true, cond_true, if_true]
  have hs : 0 ≤ side.toInt ∧ side.toInt < 2 := by omega
  by_cases a2 : ph.toInt = 2
  · simp only [dk_0, dk_1, dk_2, dk_3, c_bool, a1, a2, h6, decide_true, decide_false, cond_true, cond_false, if_true, if_false]
  simp only [dk_0, dk_1, dk_2, dk_3, c_bool, c_int, a1, a2, h6, decide_false, cond_false, if_false, bond_Twin_eq h, hs, and_self, if_true, add_eq]
  unfold mkB
  simp only [get_agg_4, set_agg_4, Int.toNat_zero]
  by_cases b1 : (addR (put.get side.toInt.toNat).toInt amount.toInt).2 = 0
  case neg => simp only [b1, decide_false, Bool.not_false, cond_true, ne_eq, not_false_iff, if_true]
  have e2 : ∀ x y : C, (sumP [x, y]).2 = if (addR 0 x.toInt).2 = 0 then (addR (addR 0 x.toInt).1 y.toInt).2 else (addR 0 x.toInt).2 := fun x y => by
    by_cases g1 : (addR 0 x.toInt).2 = 0
    · by_cases g2 : (addR (addR 0 x.toInt).1 y.toInt).2 = 0 <;> simp [sumP, runE, addF, valE, g1, g2]
    · simp [sumP, runE, addF, valE, g1]
  simp only [b1, e2, decide_true, Bool.not_true, cond_false, ne_eq, not_true, if_false]
  by_cases b2 : (addR 0 ((put.set side.toInt.toNat (C.int (addR (put.get side.toInt.toNat).toInt amount.toInt).1)).get 0).toInt).2 = 0
  · simp only [b2, decide_true, Bool.not_true, cond_false, if_true]
    by_cases b3 : (addR (addR 0 ((put.set side.toInt.toNat (C.int (addR (put.get side.toInt.toNat).toInt amount.toInt).1)).get 0).toInt).1 ((put.set side.toInt.toNat (C.int (addR (put.get side.toInt.toNat).toInt amount.toInt).1)).get 1).toInt).2 = 0
    · simp only [b3, decide_true, Bool.not_true, cond_false, not_true, if_false]
    · simp only [b3, decide_false, Bool.not_false, cond_true, not_false_iff, if_true]
  · simp only [b2, decide_false, Bool.not_false, cond_true, if_false, not_false_iff, if_true]
theorem locked_eq (k : KD R) : bond_Bond_Locked_p N (mkB id who roots rule put paid (.int 2) un best) k = k [.int 0] [] := by
  rw [bond_Bond_Locked_pe]
  rfl
end
end Go.Proofs.YtjakbdogmomfeaaDoor


namespace Go.Proofs.YtjakbdogmomfeaaDoor
open Go Go.E
set_option maxRecDepth 100000
set_option maxHeartbeats 4000000
set_option linter.unusedVariables false
noncomputable def bond_New_hs : Hints := [([0, 0, 1], ⟨[0, 3, 5, 6, 8], [(25, .d .bool)], [], [], [], []⟩),
    ([9], ⟨[], [(8, .as (.ptr (.l 8) [] tBond)), (9, .d (.int .i64))], [], [(.l 8, .box (.d tBond))], [], []⟩)]
noncomputable def bond_New_ov (N : Nat) : OvS (X0 gl0) where
  g R := [(12, code_Check_g N), (13, cl_Byte_g N), (14, pact_New_g N)]
  ok := fun R => List.forall_mem_cons.2 ⟨code_Check_ok N, List.forall_mem_cons.2 ⟨cl_Byte_ok N, List.forall_mem_cons.2 ⟨pact_New_ok N, fun _ h => nomatch h⟩⟩⟩
noncomputable def bond_New_p0 {R : Type} (N : Nat) (a0 a1 a2 a3 : C) (k1 : KD R) : Option R := (jn (fun d1 m1 => (bif C.toBool (dk d1 4) then (k1 [C.int 1, C.agg [zeroC (Ty.int IntKind.u32), zeroC (Ty.arr 2 (Ty.int IntKind.i64)), C.agg [C.agg [C.agg (List.replicate 32 (C.int 0)), C.agg (List.replicate 32 (C.int 0))], C.int 0], C.slice [], zeroC (Ty.arr 2 (Ty.int IntKind.u64)), zeroC (Ty.arr 2 (Ty.int IntKind.u64)), zeroC (Ty.int IntKind.i64), zeroC (Ty.int IntKind.u64), C.agg [zeroC (Ty.int IntKind.u32), zeroC (Ty.int IntKind.u64), zeroC (Ty.arr 2 (Ty.int IntKind.u64)), zeroC (Ty.arr 2 (Ty.int IntKind.u64)), C.slice []]]] []) else (bif !decide (checkN (C.elems (dk d1 1)) = 0) then (k1 [C.int (checkN (C.elems (dk d1 1))), C.agg [zeroC (Ty.int IntKind.u32), zeroC (Ty.arr 2 (Ty.int IntKind.i64)), C.agg [C.agg [C.agg (List.replicate 32 (C.int 0)), C.agg (List.replicate 32 (C.int 0))], C.int 0], C.slice [], zeroC (Ty.arr 2 (Ty.int IntKind.u64)), zeroC (Ty.arr 2 (Ty.int IntKind.u64)), zeroC (Ty.int IntKind.i64), zeroC (Ty.int IntKind.u64), C.agg [zeroC (Ty.int IntKind.u32), zeroC (Ty.int IntKind.u64), zeroC (Ty.arr 2 (Ty.int IntKind.u64)), zeroC (Ty.arr 2 (Ty.int IntKind.u64)), C.slice []]]] []) else (pact_New_p N (dk d1 0) (fun d2 m2 => (bif Nat.beq (List.length (C.elems (dk d1 1))) (List.length (C.elems (dk d1 1))) && true then (k1 [C.int 0, C.agg [dk d1 0, dk d1 2, dk d1 3, C.slice (C.elems (dk d1 1)), zeroC (Ty.arr 2 (Ty.int IntKind.u64)), zeroC (Ty.arr 2 (Ty.int IntKind.u64)), zeroC (Ty.int IntKind.i64), zeroC (Ty.int IntKind.u64), dk d2 0]] []) else none)))))) (fun k2 => (bif decide (C.toInt (C.get a1 (Int.toNat 0)) = C.toInt (C.get a1 (Int.toNat 1))) then (k2 [a0, a3, a1, a2, C.bool true, C.agg [zeroC (Ty.int IntKind.u32), zeroC (Ty.arr 2 (Ty.int IntKind.i64)), C.agg [C.agg [C.agg (List.replicate 32 (C.int 0)), C.agg (List.replicate 32 (C.int 0))], C.int 0], C.slice [], zeroC (Ty.arr 2 (Ty.int IntKind.u64)), zeroC (Ty.arr 2 (Ty.int IntKind.u64)), zeroC (Ty.int IntKind.i64), zeroC (Ty.int IntKind.u64), C.agg [zeroC (Ty.int IntKind.u32), zeroC (Ty.int IntKind.u64), zeroC (Ty.arr 2 (Ty.int IntKind.u64)), zeroC (Ty.arr 2 (Ty.int IntKind.u64)), C.slice []]]] []) else (bif decide (C.toInt (C.get a2 1) < 0) then (k2 [a0, a3, a1, a2, C.bool true, C.agg [zeroC (Ty.int IntKind.u32), zeroC (Ty.arr 2 (Ty.int IntKind.i64)), C.agg [C.agg [C.agg (List.replicate 32 (C.int 0)), C.agg (List.replicate 32 (C.int 0))], C.int 0], C.slice [], zeroC (Ty.arr 2 (Ty.int IntKind.u64)), zeroC (Ty.arr 2 (Ty.int IntKind.u64)), zeroC (Ty.int IntKind.i64), zeroC (Ty.int IntKind.u64), C.agg [zeroC (Ty.int IntKind.u32), zeroC (Ty.int IntKind.u64), zeroC (Ty.arr 2 (Ty.int IntKind.u64)), zeroC (Ty.arr 2 (Ty.int IntKind.u64)), C.slice []]]] []) else (k2 [a0, a3, a1, a2, C.bool (decide (8 < C.toInt (C.get a2 1))), C.agg [zeroC (Ty.int IntKind.u32), zeroC (Ty.arr 2 (Ty.int IntKind.i64)), C.agg [C.agg [C.agg (List.replicate 32 (C.int 0)), C.agg (List.replicate 32 (C.int 0))], C.int 0], C.slice [], zeroC (Ty.arr 2 (Ty.int IntKind.u64)), zeroC (Ty.arr 2 (Ty.int IntKind.u64)), zeroC (Ty.int IntKind.i64), zeroC (Ty.int IntKind.u64), C.agg [zeroC (Ty.int IntKind.u32), zeroC (Ty.int IntKind.u64), zeroC (Ty.arr 2 (Ty.int IntKind.u64)), zeroC (Ty.arr 2 (Ty.int IntKind.u64)), C.slice []]]] [])))))
noncomputable def bond_New_p {R : Type} (N : Nat) : C → C → C → C → KD R → Option R := lid "bond_New_p N" (bond_New_p0 N)
theorem bond_New_pe {R : Type} (N : Nat) (a0 a1 a2 a3 : C) (k : KD R) : bond_New_p N a0 a1 a2 a3 k = bond_New_p0 N a0 a1 a2 a3 k := by unfold bond_New_p; rw [lid_eq]
theorem bond_New_run {R : Type} (N : Nat) (a0 a1 a2 a3 : C) (K : V → List (Key × O) → Option R) : exF (X0 gl0) ((bond_New_ov N).ov R) extX (fun f r => bif Nat.beq f 4 then (bif Nat.beq r 0 then [(5, 5), (6, 5)] else bif Nat.beq r 6 then [(39, 7)] else []) else []) (fun f => bif Nat.beq f 4 then bond_New_hs else []) N 400 8 4 [.d (.int .u32) a0, .d (.arr 2 (.int .i64)) a1, .d tRoots a2, .d (.slice 1 (.int .u8)) a3] A0 K =
    bond_New_p N a0 a1 a2 a3 (fun d1 m1 => K (V.tup [V.d tBond (dk d1 1), V.d (Ty.int IntKind.i64) (dk d1 0)]) []) := by
  rw [bond_New_pe]
  exact (show _ = jn (fun d1 m1 => (K (V.tup [V.d tBond (dk d1 1), V.d (Ty.int IntKind.i64) (dk d1 0)]) [])) (bond_New_p0 N a0 a1 a2 a3) by kernel_rfl).trans (jn_eq _ _)
noncomputable def bond_New_g (N : Nat) {R : Type} : OvG R := fun xs _ K => match xs with
  | [.d t0 a0, .d t1 a1, .d t2 a2, .d t3 a3] => if t0 = (.int .u32) ∧ t1 = (.arr 2 (.int .i64)) ∧ t2 = tRoots ∧ t3 = (.slice 1 (.int .u8)) then bond_New_p N a0 a1 a2 a3 (fun d1 m1 => K (V.tup [V.d tBond (dk d1 1), V.d (Ty.int IntKind.i64) (dk d1 0)]) []) else none
  | _ => none
theorem bond_New_ok (N : Nat) {R : Type} : GOk (X0 gl0) 4 (bond_New_g N (R := R)) := by
  intro xs A Kr r hr
  unfold bond_New_g at hr
  split at hr
  · simp only [Option.ite_none_right_eq_some] at hr
    obtain ⟨hty, hr⟩ := hr
    obtain ⟨rfl, rfl, rfl, rfl⟩ := hty
    rw [← bond_New_run] at hr
    obtain ⟨v, L, h1, h2⟩ := exF_ok (ok0 gl0) (mo gl0) ((bond_New_ov N).ov_ok _) (extX_ok gl0) _ _ _ _ _ _ hr
    exact ⟨v, L, h1.mono (leA_none fun _ => rfl), h2⟩
  · cases hr
end Go.Proofs.YtjakbdogmomfeaaDoor


namespace Go.Proofs.YtjakbdogmomfeaaDoor
open Go Go.E
set_option maxRecDepth 100000
set_option maxHeartbeats 4000000
set_option linter.unusedVariables false
noncomputable def deed_First_hs : Hints := [([9], ⟨[], [(2, .as (.ptr (.l 2) [] tDeed))], [], [(.l 2, .box (.d tDeed))], [], []⟩)]
noncomputable def deed_First_ov (N : Nat) : OvS (X0 gl0) where
  g R := [(14, pact_New_g N)]
  ok := fun R => List.forall_mem_cons.2 ⟨pact_New_ok N, fun _ h => nomatch h⟩
noncomputable def deed_First_p0 {R : Type} (N : Nat) (a0 : C) (k1 : KD R) : Option R := (pact_New_p N a0 (fun d1 m1 => (k1 [C.agg [dk d1 0, zeroC (Ty.arr 2 tSig2)]] [])))
noncomputable def deed_First_p {R : Type} (N : Nat) : C → KD R → Option R := lid "deed_First_p N" (deed_First_p0 N)
theorem deed_First_pe {R : Type} (N : Nat) (a0 : C) (k : KD R) : deed_First_p N a0 k = deed_First_p0 N a0 k := by unfold deed_First_p; rw [lid_eq]
theorem deed_First_run {R : Type} (N : Nat) (a0 : C) (K : V → List (Key × O) → Option R) : exF (X0 gl0) ((deed_First_ov N).ov R) extX noX (fun f => bif Nat.beq f 8 then deed_First_hs else []) N 400 8 8 [.d (.int .u32) a0] A0 K =
    deed_First_p N a0 (fun d1 m1 => K (V.d tDeed (dk d1 0)) []) := by
  rw [deed_First_pe]
  exact (show _ = jn (fun d1 m1 => (K (V.d tDeed (dk d1 0)) [])) (deed_First_p0 N a0) by kernel_rfl).trans (jn_eq _ _)
noncomputable def deed_First_g (N : Nat) {R : Type} : OvG R := fun xs _ K => match xs with
  | [.d t0 a0] => if t0 = (.int .u32) then deed_First_p N a0 (fun d1 m1 => K (V.d tDeed (dk d1 0)) []) else none
  | _ => none
theorem deed_First_ok (N : Nat) {R : Type} : GOk (X0 gl0) 8 (deed_First_g N (R := R)) := by
  intro xs A Kr r hr
  unfold deed_First_g at hr
  split at hr
  · simp only [Option.ite_none_right_eq_some] at hr
    obtain ⟨hty, hr⟩ := hr
    subst hty
    rw [← deed_First_run] at hr
    obtain ⟨v, L, h1, h2⟩ := exF_ok (ok0 gl0) (mo gl0) ((deed_First_ov N).ov_ok _) (extX_ok gl0) _ _ _ _ _ _ hr
    exact ⟨v, L, h1.mono (leA_none fun _ => rfl), h2⟩
  · cases hr
end Go.Proofs.YtjakbdogmomfeaaDoor


namespace Go.Proofs.YtjakbdogmomfeaaDoor
open Go Go.E
set_option maxRecDepth 100000
set_option maxHeartbeats 4000000
set_option linter.unusedVariables false
noncomputable def law14_BondWaits_hs : Hints := [([0, 0, 1, 1, 1, 1, 1, 1], ⟨[2, 10], [(50, .d .bool)], [], [], [], []⟩),
    ([0, 1, 1, 1, 1, 1, 1, 1, 1, 1], ⟨[], [(6, .d .bool)], [], [], [], []⟩),
    ([9], ⟨[], [(6, .d .bool)], [], [], [], []⟩)]
noncomputable def law14_BondWaits_ov (N : Nat) : OvS (X0 gl0) where
  g R := [(4, bond_New_g N), (6, bond_Bond_More_g N), (7, bond_Bond_Fight_g N), (8, deed_First_g N), (9, bond_Bond_End_g N), (11, bond_Bond_Locked_g N)]
  ok := fun R => List.forall_mem_cons.2 ⟨bond_New_ok N, List.forall_mem_cons.2 ⟨bond_Bond_More_ok N, List.forall_mem_cons.2 ⟨bond_Bond_Fight_ok N, List.forall_mem_cons.2 ⟨deed_First_ok N, List.forall_mem_cons.2 ⟨bond_Bond_End_ok N, List.forall_mem_cons.2 ⟨bond_Bond_Locked_ok N, fun _ h => nomatch h⟩⟩⟩⟩⟩⟩
noncomputable def law14_BondWaits_p0 {R : Type} (N : Nat) (a0 a1 a2 : C) (k1 : KD R) : Option R := (bond_New_p N (C.int 7) (C.set (C.set (zeroC (Ty.arr 2 (Ty.int IntKind.i64))) 0 (C.int 0)) 1 (C.int 1)) (C.agg [C.agg [C.agg (List.replicate 32 (C.int 0)), C.agg (List.replicate 32 (C.int 0))], C.int 0]) a0 (fun d1 m1 => (bif !decide (C.toInt (dk d1 0) = 0) then (jn (fun d2 m2 => (k1 [C.bool (C.toBool (dk d2 0))] [])) (fun k2 => (bond_New_p N (C.int 7) (C.set (C.set (zeroC (Ty.arr 2 (Ty.int IntKind.i64))) 0 (C.int 0)) 1 (C.int 1)) (C.agg [C.agg [C.agg (List.replicate 32 (C.int 0)), C.agg (List.replicate 32 (C.int 0))], C.int 0]) (C.slice []) (fun d2 m2 => (bond_Bond_More_p N (dk d2 1) (C.int 0) (C.int 10) (fun d3 m3 => (deed_First_p N (C.int 7) (fun d4 m4 => (bond_Bond_Fight_p N (dk d3 1) (dk d4 0) (C.int 3) (fun d5 m5 => (bond_Bond_End_p N (dk d5 1) (C.int 8) C.nil (unE []) (fun d6 m6 => (jn (fun d7 m7 => (k2 [C.bool (C.toBool (dk d7 0))] [])) (fun k3 => (bif decide (C.toInt (dk d2 0) = 0) then (bif decide (C.toInt (dk d3 0) = 0) then (bif decide (C.toInt (dk d5 0) = 0) then (bif decide (C.toInt (dk d6 0) = 0) then (bif decide (C.toInt (C.get (dk d5 1) 7) = 8) then (k3 [C.bool (C.beq (dk d6 2) (C.agg (List.set (List.set [C.int 0, C.int 0] 0 (C.int 10)) 1 (C.int 0))))] []) else (k3 [C.bool false] [])) else (k3 [C.bool false] [])) else (k3 [C.bool false] [])) else (k3 [C.bool false] [])) else (k3 [C.bool false] [])))))))))))))))) else (bond_Bond_More_p N (dk d1 1) (C.int 0) (C.int (IntKind.wrap IntKind.u64 (1 + Int.tmod (C.toInt a1) 4611686018427387904))) (fun d2 m2 => (deed_First_p N (C.int 7) (fun d3 m3 => (bond_Bond_Fight_p N (dk d2 1) (dk d3 0) (C.int (Int.tmod (C.toInt a2) 4611686018427387904)) (fun d4 m4 => (jn (fun d5 m5 => (bif C.toBool (dk d5 1) then (k1 [C.bool false] []) else (bond_Bond_End_p N (dk d5 2) (C.int (IntKind.wrap IntKind.u64 (C.toInt (C.get (dk d5 2) 7) - 1))) C.nil (unE []) (fun d6 m6 => (bond_Bond_End_p N (dk d5 2) (C.get (dk d5 2) 7) C.nil (unE []) (fun d7 m7 => (jn (fun d8 m8 => (k1 [C.bool (C.toBool (dk d8 0))] [])) (fun k2 => (jn (fun d8 m8 => (bif C.toBool (dk d8 0) then (bif decide (C.toInt (dk d5 0) < C.toInt (C.get (dk d5 2) 7)) then (bif decide (IntKind.wrap IntKind.u64 (C.toInt (C.get (dk d5 2) 7) - C.toInt (dk d5 0)) ≤ 50) then (bif decide (C.toInt (C.get (dk d5 2) 6) = 1) then (bif decide (C.toInt (dk d6 0) = 30) then (bif decide (C.toInt (dk d7 0) = 0) then (bond_Bond_Locked_p N (dk d7 1) (fun d9 m9 => (k2 [C.bool (decide (C.toInt (dk d9 0) = 0))] []))) else (k2 [C.bool false] [])) else (k2 [C.bool false] [])) else (k2 [C.bool false] [])) else (k2 [C.bool false] [])) else (k2 [C.bool false] [])) else (k2 [C.bool false] []))) (fun k3 => (bond_New_p N (C.int 7) (C.set (C.set (zeroC (Ty.arr 2 (Ty.int IntKind.i64))) 0 (C.int 0)) 1 (C.int 1)) (C.agg [C.agg [C.agg (List.replicate 32 (C.int 0)), C.agg (List.replicate 32 (C.int 0))], C.int 0]) (C.slice []) (fun d8 m8 => (bond_Bond_More_p N (dk d8 1) (C.int 0) (C.int 10) (fun d9 m9 => (deed_First_p N (C.int 7) (fun d10 m10 => (bond_Bond_Fight_p N (dk d9 1) (dk d10 0) (C.int 3) (fun d11 m11 => (bond_Bond_End_p N (dk d11 1) (C.int 8) C.nil (unE []) (fun d12 m12 => (jn (fun d13 m13 => (k3 [C.bool (C.toBool (dk d13 0))] [])) (fun k4 => (bif decide (C.toInt (dk d8 0) = 0) then (bif decide (C.toInt (dk d9 0) = 0) then (bif decide (C.toInt (dk d11 0) = 0) then (bif decide (C.toInt (dk d12 0) = 0) then (bif decide (C.toInt (C.get (dk d11 1) 7) = 8) then (k4 [C.bool (C.beq (dk d12 2) (C.agg (List.set (List.set [C.int 0, C.int 0] 0 (C.int 10)) 1 (C.int 0))))] []) else (k4 [C.bool false] [])) else (k4 [C.bool false] [])) else (k4 [C.bool false] [])) else (k4 [C.bool false] [])) else (k4 [C.bool false] [])))))))))))))))))))))))) (fun k2 => (bif !decide (C.toInt (dk d2 0) = 0) then (k2 [C.int (Int.tmod (C.toInt a2) 4611686018427387904), C.bool true, dk d4 1] []) else (k2 [C.int (Int.tmod (C.toInt a2) 4611686018427387904), C.bool !decide (C.toInt (dk d4 0) = 0), dk d4 1] [])))))))))))))
noncomputable def law14_BondWaits_p {R : Type} (N : Nat) : C → C → C → KD R → Option R := lid "law14_BondWaits_p N" (law14_BondWaits_p0 N)
theorem law14_BondWaits_pe {R : Type} (N : Nat) (a0 a1 a2 : C) (k : KD R) : law14_BondWaits_p N a0 a1 a2 k = law14_BondWaits_p0 N a0 a1 a2 k := by unfold law14_BondWaits_p; rw [lid_eq]
theorem law14_BondWaits_run {R : Type} (N : Nat) (a0 a1 a2 : C) (K : V → List (Key × O) → Option R) : exF (X0 gl0) ((law14_BondWaits_ov N).ov R) extX (fun f r => bif Nat.beq f 3 then (bif Nat.beq r 6 then [(40, 7), (42, 7)] else bif Nat.beq r 9 then [(10, 6)] else bif Nat.beq r 10 then [(10, 6)] else []) else bif Nat.beq f 5 then (bif Nat.beq r 3 then [(21, 7), (22, 7)] else []) else []) (fun f => bif Nat.beq f 3 then law14_BondWaits_hs else bif Nat.beq f 5 then [([0, 1, 1, 1, 1, 1], ⟨[], [(0, .d .bool)], [], [], [], []⟩), ([9], ⟨[], [(0, .d .bool)], [], [], [], []⟩)] else []) N 400 8 3 [.d (.slice 1 (.int .u8)) a0, .d (.int .u64) a1, .d (.int .u64) a2] A0 K =
    law14_BondWaits_p N a0 a1 a2 (fun d1 m1 => K (V.d Ty.bool (C.bool (C.toBool (dk d1 0)))) []) := by
  rw [law14_BondWaits_pe]
  exact (show _ = jn (fun d1 m1 => (K (V.d Ty.bool (C.bool (C.toBool (dk d1 0)))) [])) (law14_BondWaits_p0 N a0 a1 a2) by kernel_rfl).trans (jn_eq _ _)
noncomputable def law14_BondWaits_g (N : Nat) {R : Type} : OvG R := fun xs _ K => match xs with
  | [.d t0 a0, .d t1 a1, .d t2 a2] => if t0 = (.slice 1 (.int .u8)) ∧ t1 = (.int .u64) ∧ t2 = (.int .u64) then law14_BondWaits_p N a0 a1 a2 (fun d1 m1 => K (V.d Ty.bool (C.bool (C.toBool (dk d1 0)))) []) else none
  | _ => none
theorem law14_BondWaits_ok (N : Nat) {R : Type} : GOk (X0 gl0) 3 (law14_BondWaits_g N (R := R)) := by
  intro xs A Kr r hr
  unfold law14_BondWaits_g at hr
  split at hr
  · simp only [Option.ite_none_right_eq_some] at hr
    obtain ⟨hty, hr⟩ := hr
    obtain ⟨rfl, rfl, rfl⟩ := hty
    rw [← law14_BondWaits_run] at hr
    obtain ⟨v, L, h1, h2⟩ := exF_ok (ok0 gl0) (mo gl0) ((law14_BondWaits_ov N).ov_ok _) (extX_ok gl0) _ _ _ _ _ _ hr
    exact ⟨v, L, h1.mono (leA_none fun _ => rfl), h2⟩
  · cases hr
end Go.Proofs.YtjakbdogmomfeaaDoor


namespace Go.Proofs.YtjakbdogmomfeaaDoor
open Go Go.E
set_option maxRecDepth 100000
set_option maxHeartbeats 4000000
set_option linter.unusedSimpArgs false
variable {R : Type} {N : Nat}
def stZ (id : Int) : C := .agg [.int id, .int 0, zz, zz, .slice []]
def who2 : C := .agg [.int 0, .int 1]
def rootsN : C := C.agg [C.agg [C.agg (List.replicate 32 (C.int 0)), C.agg (List.replicate 32 (C.int 0))], C.int 0]
theorem stZ_ok (id : Int) : SOk (stZ id) := rfl
theorem pact_New_eq (a : Int) (k : KD R) : pact_New_p N (.int a) k = k [stZ a] [] := by
  rw [pact_New_pe]
  rfl
theorem new_eq (rule : C) (k : KD R) : bond_New_p N (.int 7) (C.set (C.set (zeroC (Ty.arr 2 (Ty.int IntKind.i64))) 0 (C.int 0)) 1 (C.int 1)) rootsN rule k =
    k [.int (checkN rule.elems), if checkN rule.elems = 0 then mkB (.int 7) who2 rootsN rule.elems zz zz (.int 0) (.int 0) (stZ 7) else zB] [] := by
  have hw : C.set (C.set (zeroC (Ty.arr 2 (Ty.int IntKind.i64))) 0 (C.int 0)) 1 (C.int 1) = who2 := rfl
  have e1 : (who2.get (Int.toNat 0)).toInt = 0 := rfl
  have e2 : (who2.get (Int.toNat 1)).toInt = 1 := rfl
  have e3 : (rootsN.get 1).toInt = 0 := rfl
  have d1 : ((0 : Int) = 1) = False := by simp
  have d2 : ((0 : Int) < 0) = False := by simp
  have d3 : ((8 : Int) < 0) = False := by simp
  rw [hw, bond_New_pe]
  unfold bond_New_p0
  rw [zB_eq]
  simp only [e1, e2, e3, d1, d2, d3, jn_eq, decide_false, cond_false, dk_0, dk_1, dk_2, dk_3, dk_4, c_bool, pact_New_eq]
  by_cases h : checkN rule.elems = 0
  · simp [h]; rfl
  · simp [h]
def first7 : C := C.agg [stZ 7, zeroC (Ty.arr 2 tSig2)]
theorem first_eq (k : KD R) : deed_First_p N (.int 7) k = k [first7] [] := by
  rw [deed_First_pe]
  unfold deed_First_p0
  rw [pact_New_eq]
  rfl
theorem same_z (id : Int) (hN : 2199023255552 < N) (k : KD R) : pact_Same_p N (stZ id) (stZ id) k = k [.bool true] [] := by
  obtain ⟨M, rfl⟩ : ∃ M, N = M + 1 := ⟨N - 1, by omega⟩
  have he : ∀ k : KD R, slices_Equal_api_Cond_api_Cond_p (M + 1) (.slice []) (.slice []) k = k [.bool true] [] := fun k => by
    rw [slices_Equal_api_Cond_api_Cond_pe]
    unfold slices_Equal_api_Cond_api_Cond_p0
    simp only [jn_eq, loopK_succ]
    rfl
  have h4 : (stZ id).get 4 = .slice [] := rfl
  rw [pact_Same_pe]
  unfold pact_Same_p0
  simp only [jn_eq, beqC_refl, decide_true, cond_true, h4, he, dk_0, c_bool]
theorem whole_z (hN : 2199023255552 < N) (k : KD R) : deed_Roots_Whole_p N rootsN first7 (.int 7) k = k [.bool true] [] := by
  have h0 : first7.get 0 = stZ 7 := rfl
  have h1 : ((stZ 7).get 0).toInt = 7 := rfl
  have h2 : ((stZ 7).get 1).toInt = 0 := rfl
  rw [deed_Roots_Whole_pe]
  unfold deed_Roots_Whole_p0
  simp only [h0, h1, h2, c_int, decide_true, Bool.not_true, cond_false, cond_true, pact_New_eq, dk_0, same_z 7 hN, c_bool]
def putZ (v : Int) : C := .agg [.int v, .int 0]
theorem sumP2 (a b : Int) (h : 0 ≤ a) (h2 : 0 ≤ b) (h3 : a + b < 18446744073709551616) : sumP [.int a, .int b] = (a + b, 0) := by
  have e1 : addR 0 a = (a, 0) := by rw [addR_ok (by omega) h (by omega)]; simp
  have e2 : addR a b = (a + b, 0) := addR_ok h h2 h3
  simp [sumP, runE, addF, valE, c_int, e1, e2]
theorem more_z (rule : List C) (v : Int) (hv : 0 < v ∧ v < 18446744073709551616) : moreP (.int 7) who2 rootsN rule zz zz (.int 0) (.int 0) (stZ 7) 0 v = (0, mkB (.int 7) who2 rootsN rule (putZ v) zz (.int 0) (.int 0) (stZ 7)) := by
  have e1 : addR (zz.get 0).toInt v = (v, 0) := by
    show addR 0 v = _
    rw [addR_ok (by omega) (by omega) (by omega)]; simp
  have e2 : zz.set 0 (.int v) = putZ v := rfl
  have e3 : sumP [(putZ v).get 0, (putZ v).get 1] = (v, 0) := by
    show sumP [.int v, .int 0] = _
    rw [sumP2 v 0 (by omega) (by omega) (by omega)]; simp
  have hv0 : ¬ v = 0 := by omega
  unfold moreP
  simp [e1, e2, e3, hv0, c_int]
theorem free_z (v : Int) (hv : 0 ≤ v ∧ v < 18446744073709551616) (side : Int) (hs : side = 0 ∨ side = 1) : freeP (stZ 7) (putZ v) side = (if side = 0 then v else 0, 0) := by
  have hh : heldP (stZ 7) side = (0, 0) := rfl
  have e0 : ∀ x : Int, 0 ≤ x → x < 18446744073709551616 → subR x 0 = (x, 0) := fun x h1 h2 => by rw [subR_ok h1 (by omega) h2]; simp
  have e2 : sumP [.int v, .int 0] = (v, 0) := by rw [sumP2 v 0 (by omega) (by omega) (by omega)]; simp
  have e3 : sumP [.int 0, .int 0] = (0, 0) := rfl
  unfold freeP
  rcases hs with rfl | rfl
  · have g1 : (putZ v).get (Int.toNat 0) = .int v := rfl
    have g2 : ((stZ 7).get 2).get (1 - (0 : Int)).toNat = .int 0 := rfl
    have g3 : ((stZ 7).get 2).get (Int.toNat 0) = .int 0 := rfl
    have g4 : ((stZ 7).get 3).get (Int.toNat 0) = .int 0 := rfl
    rw [hh, g1, g2, g3, g4, e2]
    simp [runE, subF, valE, c_int, e0 v hv.1 hv.2]
  · have g1 : (putZ v).get (Int.toNat 1) = .int 0 := rfl
    have g2 : ((stZ 7).get 2).get (1 - (1 : Int)).toNat = .int 0 := rfl
    have g3 : ((stZ 7).get 2).get (Int.toNat 1) = .int 0 := rfl
    have g4 : ((stZ 7).get 3).get (Int.toNat 1) = .int 0 := rfl
    rw [hh, g1, g2, g3, g4, e3]
    simp [runE, subF, valE, c_int, e0 0 (by omega) (by omega)]
theorem sound_z (v : Int) (hv : 0 ≤ v ∧ v < 18446744073709551616) : soundP (stZ 7) (putZ v) = 0 := by
  have h1 : ((stZ 7).get 1).toInt = 0 := rfl
  have h2 : condsP (stZ 7) = [] := rfl
  unfold soundP
  rw [h1, h2]
  simp [runE, freesF, free_z v hv 0 (.inl rfl), free_z v hv 1 (.inr rfl), okE]
theorem fight_z (rule : List C) (v : Int) (hv : 0 ≤ v ∧ v < 18446744073709551616) (height : Int) (hh : 0 ≤ height ∧ height < 4611686018427387904) :
    fightP (.int 7) who2 rootsN rule (putZ v) zz (.int 0) (.int 0) (stZ 7) first7 true height = (0, mkB (.int 7) who2 rootsN rule (putZ v) zz (.int 1) (.int (height + waitP rule (putZ v) (stZ 7))) (stZ 7)) := by
  have hb : bestP (stZ 7) first7 = stZ 7 := rfl
  have hl : lookP (.int 0) (putZ v) zz (stZ 7) first7 true = 0 := by
    have h0 : first7.get 0 = stZ 7 := rfl
    unfold lookP
    rw [h0, sound_z v hv]
    rfl
  have hw := waitP_range rule (putZ v) (stZ 7)
  have ha : addR height (waitP rule (putZ v) (stZ 7)) = (height + waitP rule (putZ v) (stZ 7), 0) := addR_ok hh.1 (by omega) (by omega)
  unfold fightP
  rw [hb, hl, ha]
  simp [c_int]
theorem split_z (v : Int) (hv : 0 ≤ v ∧ v < 18446744073709551616) : splitP (stZ 7) (putZ v) zz [] = (0, putZ v) := by
  have h2 : condsP (stZ 7) = [] := rfl
  have e1 : ∀ i, i = 0 ∨ i = 1 → subR (((stZ 7).get 3).get i).toInt (zz.get i).toInt = (0, 0) := fun i hi => by rcases hi with rfl | rfl <;> rfl
  have e2 : sumP [.int v, .int 0] = (v, 0) := by rw [sumP2 v 0 (by omega) (by omega) (by omega)]; simp
  have e3 : sumP [.int 0, .int 0] = (0, 0) := rfl
  have f0 := free_z v hv 0 (.inl rfl)
  have f1 := free_z v hv 1 (.inr rfl)
  unfold splitP
  rw [sound_z v hv, h2]
  simp [runE, shareF, e1, h2, splR, listE, f0, f1, e2, e3, shareE]
  rfl
theorem end_z (rule : List C) (v un height : Int) (hv : 0 ≤ v ∧ v < 18446744073709551616) : endP [] (.int 7) who2 rootsN rule (putZ v) zz (.int 1) (.int un) (stZ 7) height =
    if height < un then (30, zB, zz) else (0, mkB (.int 7) who2 rootsN rule (putZ v) zz (.int 2) (.int un) (stZ 7), putZ v) := by
  have h2 : condsP (stZ 7) = [] := rfl
  have h3 : splitP (stZ 7) (putZ v) zz (doneL [] height []) = (0, putZ v) := split_z v hv
  have h4 : isOpen [] height [] = false := rfl
  unfold endP
  rw [h2, h3, h4]
  simp [c_int]
theorem bint_z (v : Int) : BInt (putZ v) (stZ 7) := ⟨rfl, rfl, rfl⟩
theorem wf_nil : C.wf (.slice 1 (.int .u8)) (.slice []) := by simp [C.wf, C.elems]
theorem wait_nil (v : Int) : waitP [] (putZ v) (stZ 7) = 5 := by
  have : (runR [] (worldB (putZ v) (stZ 7)) 200).2.2 = 9 := by
    unfold runR
    rw [if_neg (by simp), runV_eq]
    rfl
  unfold waitP
  rw [this]
  rfl

theorem m1 (l : List C) (v : Int) (hv : 0 < v ∧ v < 18446744073709551616) (k : KD R) : bond_Bond_More_p N (mkB (.int 7) who2 rootsN l zz zz (.int 0) (.int 0) (stZ 7)) (.int 0) (.int v) k =
    k [.int 0, mkB (.int 7) who2 rootsN l (putZ v) zz (.int 0) (.int 0) (stZ 7)] [] := by
  rw [more_eq (stZ_ok 7), c_int, c_int, more_z l v hv]
theorem f1 (l : List C) (hr : C.wf (.slice 1 (.int .u8)) (.slice l)) (v : Int) (hv : 0 ≤ v ∧ v < 18446744073709551616) (h : Int) (hh : 0 ≤ h ∧ h < 4611686018427387904) (hN : 2199023255552 < N) (k : KD R) :
    bond_Bond_Fight_p N (mkB (.int 7) who2 rootsN l (putZ v) zz (.int 0) (.int 0) (stZ 7)) first7 (.int h) k = k [.int 0, mkB (.int 7) who2 rootsN l (putZ v) zz (.int 1) (.int (h + waitP l (putZ v) (stZ 7))) (stZ 7)] [] := by
  rw [fight_eq (whole_z hN) hr (stZ_ok 7) (show SOk (first7.get 0) from stZ_ok 7) (bint_z v) rfl hN, c_int, fight_z l v hv h hh]
theorem e1 (l : List C) (v un h : Int) (hv : 0 ≤ v ∧ v < 18446744073709551616) (b0 : C) (hN : 2199023255552 < N) (k : KD R) :
    bond_Bond_End_p N (mkB (.int 7) who2 rootsN l (putZ v) zz (.int 1) (.int un) (stZ 7)) (.int h) b0 [] k =
      if h < un then k [.int 30, zB, zz] [] else k [.int 0, mkB (.int 7) who2 rootsN l (putZ v) zz (.int 2) (.int un) (stZ 7), putZ v] [] := by
  rw [end_eq (stZ_ok 7) (by simp [condsP, stZ, C.get, C.elems]) [] (.int h) b0 hN, c_int, end_z l v un h hv]
  split <;> rfl
theorem n1 (l : List C) (k : KD R) : bond_New_p N (.int 7) (C.set (C.set (zeroC (Ty.arr 2 (Ty.int IntKind.i64))) 0 (C.int 0)) 1 (C.int 1)) rootsN (.slice l) k =
    if checkN l = 0 then k [.int 0, mkB (.int 7) who2 rootsN l zz zz (.int 0) (.int 0) (stZ 7)] [] else k [.int (checkN l), zB] [] := by
  rw [new_eq, c_slice]
  by_cases h : checkN l = 0 <;> simp [h]
theorem l1 (l : List C) (v un : Int) (k : KD R) : bond_Bond_Locked_p N (mkB (.int 7) who2 rootsN l (putZ v) zz (.int 2) (.int un) (stZ 7)) k = k [.int 0] [] := locked_eq k
theorem BondWaits_eq (rule put height : C) (hr : C.wf (.slice 1 (.int .u8)) rule) (hp : 0 ≤ put.toInt) (hh : 0 ≤ height.toInt) (hN : 2199023255552 < N) (k : KD R) : law14_BondWaits_p N rule put height k = k [.bool true] [] := by
  obtain ⟨l, rfl⟩ : ∃ l, rule = .slice l := ⟨rule.elems, by simp only [C.wf] at hr; exact hr.1⟩
  have t1 : 0 ≤ Int.tmod put.toInt 4611686018427387904 ∧ Int.tmod put.toInt 4611686018427387904 < 4611686018427387904 := by
    rw [Int.tmod_eq_emod_of_nonneg hp]; omega
  have t2 : 0 ≤ Int.tmod height.toInt 4611686018427387904 ∧ Int.tmod height.toInt 4611686018427387904 < 4611686018427387904 := by
    rw [Int.tmod_eq_emod_of_nonneg hh]; omega
  have b0 : C.agg [C.agg [C.agg (List.replicate 32 (C.int 0)), C.agg (List.replicate 32 (C.int 0))], C.int 0] = rootsN := rfl
  rw [law14_BondWaits_pe]
  unfold law14_BondWaits_p0
  rw [b0]
  generalize Int.tmod put.toInt 4611686018427387904 = p at *
  generalize Int.tmod height.toInt 4611686018427387904 = q at *
  have w1 : IntKind.u64.wrap (1 + p) = 1 + p := wrap_u64 (by omega) (by omega)
  have hc0 : checkN [] = 0 := by decide
  have w5 : (3 : Int) + waitP [] (putZ 10) (stZ 7) = 8 := by rw [wait_nil]; rfl
  have hb : C.beq (putZ 10) (C.agg (List.set (List.set [C.int 0, C.int 0] 0 (C.int 10)) 1 (C.int 0))) = true := rfl
  have g7 : (mkB (.int 7) who2 rootsN [] (putZ 10) zz (.int 1) (.int 8) (stZ 7)).get 7 = .int 8 := rfl
  rw [w1, n1]
  by_cases hc : checkN l = 0
  case neg =>
    simp only [hc, if_false, dk_0, c_int, decide_false, Bool.not_false, cond_true, jn_eq]
    simp only [n1, hc0, if_true, dk_0, dk_1, dk_2, m1 [] 10 (by omega), first_eq, f1 [] wf_nil 10 (by omega) 3 (by omega) hN, w5, unE_nil, e1 [] 10 8 8 (by omega) C.nil hN, Int.lt_irrefl, if_false, jn_eq, c_int, decide_true, cond_true, g7, hb, c_bool]
  have hv : 0 < 1 + p ∧ 1 + p < 18446744073709551616 := by omega
  have hw := waitP_range l (putZ (1 + p)) (stZ 7)
  simp only [hc, if_true, dk_0, dk_1, dk_2, c_int, decide_true, Bool.not_true, cond_false, m1 l (1 + p) hv, first_eq, f1 l hr (1 + p) (by omega) q (by omega) hN, jn_eq, c_bool]
  generalize waitP l (putZ (1 + p)) (stZ 7) = n at *
  have h7 : (mkB (.int 7) who2 rootsN l (putZ (1 + p)) zz (.int 1) (.int (q + n)) (stZ 7)).get 7 = .int (q + n) := rfl
  have h6 : ((mkB (.int 7) who2 rootsN l (putZ (1 + p)) zz (.int 1) (.int (q + n)) (stZ 7)).get 6).toInt = 1 := rfl
  have w2 : IntKind.u64.wrap (q + n - 1) = q + n - 1 := wrap_u64 (by omega) (by omega)
  have w3 : IntKind.u64.wrap (q + n - q) = q + n - q := wrap_u64 (by omega) (by omega)
  have c1 : q + n - 1 < q + n := by omega
  have c2 : q < q + n := by omega
  have c3 : q + n - q ≤ 50 := by omega
  simp only [h7, h6, c_int, w2, w3, unE_nil, e1 l (1 + p) (q + n) _ (by omega) C.nil hN, c1, c2, c3, Int.lt_irrefl, if_true, if_false, dk_0, dk_1, decide_true, cond_true, l1, c_bool]
  simp only [n1, hc0, if_true, dk_0, dk_1, dk_2, m1 [] 10 (by omega), first_eq, f1 [] wf_nil 10 (by omega) 3 (by omega) hN, w5, unE_nil, e1 [] 10 8 8 (by omega) C.nil hN, Int.lt_irrefl, if_false, jn_eq, c_int, decide_true, cond_true, g7, hb, c_bool]
theorem run_BondWaits (A : Key → Option O) (rule put height : C) : DCalls (X0 gl0) 3 [.d (.slice 1 (.int .u8)) rule, .d (.int .u64) put, .d (.int .u64) height] A (.d .bool (.bool true)) [] := by
  refine dcalls_wf (ts := [.slice 1 (.int .u8), .int .u64, .int .u64]) (cs := [rule, put, height]) fun W => ?_
  have h0 := W 0 _ _ rfl rfl
  have h1 := W 1 _ _ rfl rfl
  have h2 := W 2 _ _ rfl rfl
  have m1 : IntKind.u64.min = 0 := by decide
  simp only [C.wf] at h1 h2
  refine of_gok (law14_BondWaits_ok 2199023255553) ?_
  show law14_BondWaits_g 2199023255553 [.d (.slice 1 (.int .u8)) rule, .d (.int .u64) put, .d (.int .u64) height] A kR = _
  simp only [law14_BondWaits_g, and_self, if_true]
  rw [BondWaits_eq rule put height h0 (by omega) (by omega) (by omega)]
  rfl
end Go.Proofs.YtjakbdogmomfeaaDoor

