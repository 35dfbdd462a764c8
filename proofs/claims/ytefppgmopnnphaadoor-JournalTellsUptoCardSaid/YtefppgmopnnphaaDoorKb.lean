/-
 What the functions on the way compute, part 2.
 Conditions: none.
-/
import Derived.Test.YtefppgmopnnphaaDoorKa
set_option linter.all false
namespace Go.Proofs.YtefppgmopnnphaaDoor
open Go Go.E
set_option maxRecDepth 100000
set_option maxHeartbeats 4000000
set_option linter.unusedVariables false
noncomputable def q6g : Hints := [([1, 0, 1, 1], ⟨[6], [], [], [], [], []⟩),
  ([4, 1, 0, 1, 1], ⟨[1, 6, 18, 19], [(20, .d (.int .i64))], [], [], [], []⟩),
  ([0, 1, 1, 5, 4, 1, 0, 1, 1], ⟨[1, 6, 18, 19, 20], [], [], [], [], []⟩),
  ([1, 1, 1, 4, 0, 1, 1, 5, 4, 1, 0, 1, 1], ⟨[1, 6, 18, 19, 20], [], [], [], [], []⟩),
  ([4, 1, 1, 1, 4, 0, 1, 1, 5, 4, 1, 0, 1, 1], ⟨[1, 6, 18, 19, 20, 29, 30], [(31, .d (.int .i64))], [], [], [], []⟩),
  ([1, 0, 1, 1, 1, 1], ⟨[], [(14, .sl 32 y5 5014)], [], [], [], []⟩),
  ([4, 1, 0, 1, 1, 1, 1], ⟨[67], [(14, .sl 32 y5 5014)], [], [], [], []⟩),
  ([9], ⟨[], [(4, .d (.slice 32 y5)), (5, .d (.int .i64))], [], [], [], []⟩),
  ([0, 1, 4, 0, 1, 1, 5, 4, 1, 1, 1, 4, 0, 1, 1, 5, 4, 1, 0, 1, 1], ⟨[1, 6, 10, 18, 19, 20, 29, 30, 31], [(11, .as (.ptr (.l 11) [] y5))], [], [(.l 11, .box (.d y5))], [], []⟩)]
noncomputable def q2q (N : Nat) : OvS (X0 gl0) where
 g R := [(30, q66 N), (77, q0Z N), (63, q1i N), (64, q1g N), (33, q0w N)]
 ok := fun R => List.forall_mem_cons.2 ⟨z6T N, List.forall_mem_cons.2 ⟨q50 N, List.forall_mem_cons.2 ⟨q45 N, List.forall_mem_cons.2 ⟨q43 N, List.forall_mem_cons.2 ⟨q3t N, fun _ h => nomatch h⟩⟩⟩⟩⟩
noncomputable def X5 {R : Type} (N : Nat) (k1 : KD R) (k5 : KD R) : KD R → List C → List Es → Option R := (fun k6 d2 m2 => (bif decide (C.toInt (dk d2 6) < C.toInt (dk d2 5)) then (if 0 ≤ C.toInt (dk d2 6) ∧ C.toInt (dk d2 6) < (↑(List.length (C.elems (dk d2 4))) : Int) then (jn (fun d3 m3 => (bif C.toBool (C.get (dk d3 8) 2) then (q09 N (C.get (C.set (dk d3 7) 0 (C.get (dk d3 8) 0)) 2) (C.get (dk d3 8) 1) (fun d4 m4 => (bif !decide (C.toInt (dk d4 1) = 0) then (k1 [C.slice [], dk d4 1] []) else (if q14 y5 (q4D (dE y5 (dm m3 0)) (C.get (dk d3 8) 0) (V.d y5 (C.set (C.set (dk d3 7) 0 (C.get (dk d3 8) 0)) 2 (dk d4 0)))) = true then (k6 [dk d3 0, dk d3 1, dk d3 2, dk d3 3, dk d3 4, dk d3 5, C.int (IntKind.wrap IntKind.i64 (C.toInt (dk d3 6) + 1))] [unE (q4D (dE y5 (dm m3 0)) (C.get (dk d3 8) 0) (V.d y5 (C.set (C.set (dk d3 7) 0 (C.get (dk d3 8) 0)) 2 (dk d4 0))))]) else none)))) else (q09 N (C.get (C.set (dk d3 7) 0 (C.get (dk d3 8) 0)) 1) (C.get (dk d3 8) 1) (fun d4 m4 => (bif !decide (C.toInt (dk d4 1) = 0) then (k1 [C.slice [], dk d4 1] []) else (if q14 y5 (q4D (dE y5 (dm m3 0)) (C.get (dk d3 8) 0) (V.d y5 (C.set (C.set (dk d3 7) 0 (C.get (dk d3 8) 0)) 1 (dk d4 0)))) = true then (k6 [dk d3 0, dk d3 1, dk d3 2, dk d3 3, dk d3 4, dk d3 5, C.int (IntKind.wrap IntKind.i64 (C.toInt (dk d3 6) + 1))] [unE (q4D (dE y5 (dm m3 0)) (C.get (dk d3 8) 0) (V.d y5 (C.set (C.set (dk d3 7) 0 (C.get (dk d3 8) 0)) 1 (dk d4 0))))]) else none)))))) (fun k7 => (bif J6 y5 (dE y5 (dm m2 0)) then (bif q8l (dE y5 (dm m2 0)) (C.get (List.getD (C.elems (dk d2 4)) (Int.toNat (C.toInt (dk d2 6))) C.nil) 0) then (if q14 y5 (dE y5 (dm m2 0)) = true then (k7 [dk d2 0, dk d2 1, dk d2 2, dk d2 3, dk d2 4, dk d2 5, dk d2 6, z1z (dE y5 (dm m2 0)) (C.get (List.getD (C.elems (dk d2 4)) (Int.toNat (C.toInt (dk d2 6))) C.nil) 0), List.getD (C.elems (dk d2 4)) (Int.toNat (C.toInt (dk d2 6))) C.nil] [unE (dE y5 (dm m2 0))]) else none) else (if q14 y5 (dE y5 (dm m2 0)) = true then (k7 [dk d2 0, dk d2 1, dk d2 2, dk d2 3, dk d2 4, dk d2 5, dk d2 6, C.agg [C.str [], C.int 0, C.int 0], List.getD (C.elems (dk d2 4)) (Int.toNat (C.toInt (dk d2 6))) C.nil] [unE (dE y5 (dm m2 0))]) else none)) else none))) else none) else (if q14 y5 (dE y5 (dm m2 0)) = true then (k5 [dk d2 0, dk d2 1, dk d2 2, dk d2 3] [unE (dE y5 (dm m2 0))]) else none)))
noncomputable def X4 {R : Type} (N : Nat) (k1 : KD R) (k2 : KD R) : KD R → List C → List Es → Option R := (fun k3 d1 m1 => (bif decide (C.toInt (dk d1 3) < C.toInt (dk d1 2)) then (jn (fun d2 m2 => (if q14 y5 (dE y5 (dm m2 0)) = true then (k3 [dk d2 0, dk d2 1, dk d2 2, C.int (IntKind.wrap IntKind.i64 (C.toInt (dk d2 3) + 1))] [unE (dE y5 (dm m2 0))]) else none)) (fun k4 => (if 0 ≤ C.toInt (dk d1 3) ∧ C.toInt (dk d1 3) < (↑(List.length (C.elems (dk d1 1))) : Int) then (bif decide (C.toInt (dk d1 0) < C.toInt (C.get (List.getD (C.elems (dk d1 1)) (Int.toNat (C.toInt (dk d1 3))) C.nil) 0)) then (if q14 y5 (dE y5 (dm m1 0)) = true then (k4 [dk d1 0, dk d1 1, dk d1 2, dk d1 3] [unE (dE y5 (dm m1 0))]) else none) else (jn (fun d2 m2 => (if q14 y5 (dE y5 (dm m2 0)) = true then (k4 [dk d2 0, dk d2 1, dk d2 2, dk d2 3] [unE (dE y5 (dm m2 0))]) else none)) (fun k5 => (if q14 y5 (dE y5 (dm m1 0)) = true then (Z6 N (X5 N k1 k5) [dk d1 0, dk d1 1, dk d1 2, dk d1 3, C.get (List.getD (C.elems (dk d1 1)) (Int.toNat (C.toInt (dk d1 3))) C.nil) 1, C.int (↑(List.length (C.elems (C.get (List.getD (C.elems (dk d1 1)) (Int.toNat (C.toInt (dk d1 3))) C.nil) 1))) : Int), C.int 0] [unE (dE y5 (dm m1 0))]) else none)))) else none))) else (if q14 y5 (dE y5 (dm m1 0)) = true then (k2 [] [unE (dE y5 (dm m1 0))]) else none)))
noncomputable def U9 {R : Type} (N : Nat) (a0 a1 : C) (k1 : KD R) : Option R := (jn (fun d1 m1 => (if Ty.str = Ty.str ∧ y5 = y5 ∧ q14 y5 (dE y5 (dm m1 0)) = true then (bif okL (unE (dE y5 (dm m1 0))) then (k1 [C.slice (q4A (unE (dE y5 (dm m1 0)))), C.int 0] []) else none) else none)) (fun k2 => (Z6 N (X4 N k1 k2) [a1, a0, C.int (↑(List.length (C.elems a0)) : Int), C.int 0] [unE []])))
noncomputable def Q4 {R : Type} (N : Nat) : C → C → KD R → Option R := lid "" (U9 N)
theorem q2p {R : Type} (N : Nat) (a0 a1 : C) (k : KD R) : Q4 N a0 a1 k = U9 N a0 a1 k := by unfold Q4; rw [F5]
theorem q5F {R : Type} (N : Nat) (a0 a1 : C) (K : V → List (Key × O) → Option R) : y3E (X0 gl0) ((q2q N).ov R) q2v (fun f r => bif Nat.beq f 16 then (bif Nat.beq r 15 then [(53, 7)] else []) else bif Nat.beq f 32 then (bif Nat.beq r 0 then [(2, 5), (3, 5)] else []) else []) (fun f => bif Nat.beq f 16 then q6g else bif Nat.beq f 31 then [([9], ⟨[], [], [], [], [], []⟩)] else bif Nat.beq f 46 then [([4, 1, 1], ⟨[0, 4], [(1, .d (.int .i64)), (2, .d (.int .i64)), (3, .d (.int .i64)), (10, .d .bool), (11, .d .bool)], [], [], [], []⟩), ([5, 4, 1, 1], ⟨[0, 4], [(1, .d (.int .i64)), (2, .d (.int .i64)), (3, .d (.int .i64)), (10, .d .bool), (11, .d .bool)], [], [], [], []⟩), ([1, 0, 1, 1, 1, 4, 5, 4, 1, 1], ⟨[0, 1, 2, 4, 10, 11, 12], [(3, .d (.int .i64))], [], [], [], []⟩), ([1, 0, 1, 1, 1, 1, 1, 4, 5, 4, 1, 1], ⟨[0, 1, 2, 3, 4, 10, 11, 12], [(13, .d (.int .i64)), (14, .d (.int .i64))], [], [], [], []⟩), ([0, 0, 1, 1, 1, 1, 1, 1, 4, 5, 4, 1, 1], ⟨[0, 1, 2, 3, 4, 10, 11, 12, 13], [(75, .d .bool)], [], [], [], []⟩), ([1, 0, 1, 1, 1, 1, 1, 1, 4, 5, 4, 1, 1], ⟨[0, 1, 2, 3, 4, 10, 11, 12, 13], [], [], [], [], []⟩), ([0, 0, 1, 1, 1, 1, 1, 1, 1, 4, 5, 4, 1, 1], ⟨[0, 1, 2, 3, 4, 10, 11, 12, 13], [(97, .d .bool)], [], [], [], []⟩), ([1, 1, 1, 1, 1, 1, 1, 1, 1, 1, 1, 1, 1, 4, 5, 4, 1, 1], ⟨[0, 3, 4, 11], [(1, .d (.int .i64)), (2, .d (.int .i64)), (10, .d .bool)], [], [], [], []⟩), ([9], ⟨[], [], [], [], [], []⟩)] else bif Nat.beq f 55 then [([1], ⟨[], [], [], [], [], []⟩), ([4, 1], ⟨[0, 1, 2, 3], [(8, .d (.int .i64))], [], [], [], []⟩), ([1, 4, 0, 1, 5, 4, 1], ⟨[0, 1, 2, 3, 8], [], [], [], [], []⟩), ([4, 1, 4, 0, 1, 5, 4, 1], ⟨[0, 1, 2, 3, 8], [(9, .d (.int .i64))], [], [], [], []⟩), ([0, 0, 5, 4, 1, 4, 0, 1, 5, 4, 1], ⟨[0, 1, 2, 3, 8, 9], [(34, .d .bool)], [], [], [], []⟩), ([9], ⟨[], [], [], [], [], []⟩)] else bif Nat.beq f 56 then [([1, 0, 1, 1, 1], ⟨[0, 3, 8, 9, 10], [], [], [], [], []⟩), ([4, 1, 0, 1, 1, 1], ⟨[0, 3, 8, 9, 10], [(11, .d (.int .i64))], [], [], [], []⟩), ([1, 1, 1, 1, 1], ⟨[], [], [], [], [], []⟩), ([4, 1, 1, 1, 1, 1], ⟨[0, 3, 8, 9], [(12, .d (.int .i64))], [], [], [], []⟩), ([9], ⟨[], [], [], [], [], []⟩)] else bif Nat.beq f 76 then [([1], ⟨[], [], [], [], [], []⟩), ([4, 1], ⟨[0, 2, 3, 4], [(10, .d (.int .i64))], [], [], [], []⟩), ([0, 0, 1, 1, 4, 5, 4, 1], ⟨[0, 2, 3, 4, 10, 11], [(40, .d .bool)], [], [], [], []⟩), ([1, 0, 1, 1, 4, 5, 4, 1], ⟨[0, 2, 3, 4, 10], [(11, .d (.int .i64))], [], [], [], []⟩), ([9], ⟨[], [], [], [], [], []⟩)] else bif Nat.beq f 57 then [([1, 1], ⟨[], [], [], [], [], []⟩), ([1, 1, 1, 2, 1, 1], ⟨[], [], [], [], [], []⟩), ([4, 1, 1, 1, 2, 1, 1], ⟨[0, 1, 8, 9, 10], [(11, .d (.int .i64))], [], [], [], []⟩), ([1, 0, 1, 4, 0, 1, 5, 4, 1, 1, 1, 2, 1, 1], ⟨[0, 1, 8, 9, 10, 11], [(12, .d (.int .i64))], [], [], [], []⟩), ([9], ⟨[], [], [], [], [], []⟩)] else bif Nat.beq f 78 then [([9], ⟨[0], [(2, .d (.int .u64))], [], [], [], []⟩)] else bif Nat.beq f 58 then [([1, 0, 1, 1, 1, 1, 1, 1], ⟨[11], [(13, .d (.int .i64))], [], [], [], []⟩), ([1, 0, 2, 1, 0, 1, 1, 1, 1, 1, 1], ⟨[0, 3, 11], [(12, .d (.int .i64)), (13, .d (.int .i64)), (14, .d (.int .i64))], [], [], [], []⟩), ([9], ⟨[], [(8, .d (.int .i64)), (9, .d (.int .i64))], [], [], [], []⟩)] else bif Nat.beq f 79 then [([9], ⟨[2], [(8, .d (.int .i64))], [], [], [], []⟩)] else bif Nat.beq f 80 then [([9], ⟨[4], [(12, .d (.int .i64))], [], [], [], []⟩)] else bif Nat.beq f 91 then [([9], ⟨[3], [(10, .d (.int .i64)), (11, .d (.int .i64))], [], [], [], []⟩)] else bif Nat.beq f 59 then [([1, 1], ⟨[], [], [], [], [], []⟩), ([4, 1, 1], ⟨[0], [(8, .d (.int .i64)), (9, .d (.int .i64))], [], [], [], []⟩), ([9], ⟨[], [], [], [], [], []⟩)] else bif Nat.beq f 60 then [([1, 0, 1, 1], ⟨[], [], [], [], [], []⟩), ([4, 1, 0, 1, 1], ⟨[0, 1, 2, 3], [(9, .d (.int .i64)), (10, .d (.int .i64))], [], [], [], []⟩), ([0, 4, 0, 1, 5, 4, 1, 0, 1, 1], ⟨[0, 1, 2, 3, 10], [(9, .d (.int .i64))], [], [], [], []⟩), ([4, 0, 4, 0, 1, 5, 4, 1, 0, 1, 1], ⟨[0, 1, 2, 3, 10], [(9, .d (.int .i64))], [], [], [], []⟩), ([0, 0, 5, 4, 0, 4, 0, 1, 5, 4, 1, 0, 1, 1], ⟨[0, 1, 2, 3, 9, 10], [(36, .d .bool)], [], [], [], []⟩), ([1, 0, 1, 1, 1, 1, 4, 0, 1, 5, 4, 1, 0, 1, 1], ⟨[0, 1, 2, 3, 9, 10], [], [], [], [], []⟩), ([1, 2, 1, 0, 1, 1, 1, 1, 4, 0, 1, 5, 4, 1, 0, 1, 1], ⟨[0, 1, 2, 3, 9, 10], [], [], [], [], []⟩), ([4, 1, 2, 1, 0, 1, 1, 1, 1, 4, 0, 1, 5, 4, 1, 0, 1, 1], ⟨[0, 1, 2, 3, 9, 10], [(11, .d (.int .i64))], [], [], [], []⟩), ([1, 1, 1, 1, 1, 1, 4, 0, 1, 5, 4, 1, 0, 1, 1], ⟨[0, 1, 2, 3, 9, 10], [], [], [], [], []⟩), ([1, 2, 1, 1, 1, 1, 1, 1, 4, 0, 1, 5, 4, 1, 0, 1, 1], ⟨[0, 1, 2, 3, 9, 10], [], [], [], [], []⟩), ([4, 1, 2, 1, 1, 1, 1, 1, 1, 4, 0, 1, 5, 4, 1, 0, 1, 1], ⟨[0, 1, 2, 3, 9, 10], [(12, .d (.int .i64))], [], [], [], []⟩), ([9], ⟨[], [(8, .d .bool)], [], [], [], []⟩)] else bif Nat.beq f 61 then [([0, 1, 1, 1], ⟨[], [(11, .d (.int .i64))], [], [], [], []⟩), ([4, 0, 1, 1, 1], ⟨[0, 1, 4], [(11, .d (.int .i64)), (12, .d (.int .i64))], [], [], [], []⟩), ([0, 4, 5, 4, 0, 1, 1, 1], ⟨[0, 1, 4, 12], [(11, .d (.int .i64))], [], [], [], []⟩), ([4, 0, 4, 5, 4, 0, 1, 1, 1], ⟨[0, 1, 4, 12], [(11, .d (.int .i64))], [], [], [], []⟩), ([0, 0, 5, 4, 0, 4, 5, 4, 0, 1, 1, 1], ⟨[0, 1, 4, 11, 12], [(47, .d .bool)], [], [], [], []⟩), ([0, 1, 4, 5, 4, 0, 1, 1, 1], ⟨[0, 1, 4, 11], [(12, .d (.int .i64))], [], [], [], []⟩), ([4, 0, 1, 4, 5, 4, 0, 1, 1, 1], ⟨[0, 1, 4, 11], [(12, .d (.int .i64))], [], [], [], []⟩), ([0, 0, 5, 4, 0, 1, 4, 5, 4, 0, 1, 1, 1], ⟨[0, 1, 4, 11, 12], [(65, .d .bool)], [], [], [], []⟩), ([9], ⟨[], [(10, .d (.int .i64))], [], [], [], []⟩)] else bif Nat.beq f 62 then [([0, 1, 1, 1], ⟨[0, 1, 4, 13], [(12, .d (.int .i64))], [], [], [], []⟩), ([4, 0, 1, 1, 1], ⟨[0, 1, 4, 13], [(12, .d (.int .i64))], [], [], [], []⟩), ([0, 0, 5, 4, 0, 1, 1, 1], ⟨[0, 1, 4, 12, 13], [(47, .d .bool)], [], [], [], []⟩), ([0, 1, 1, 1, 1], ⟨[0, 1, 4, 12], [(13, .d (.int .i64))], [], [], [], []⟩), ([4, 0, 1, 1, 1, 1], ⟨[0, 1, 4, 12], [(13, .d (.int .i64))], [], [], [], []⟩), ([0, 0, 5, 4, 0, 1, 1, 1, 1], ⟨[0, 1, 4, 12, 13], [(66, .d .bool)], [], [], [], []⟩), ([0, 1, 1, 1, 1, 1, 1, 1, 1, 1], ⟨[0, 1], [(13, .d (.int .i64))], [], [], [], []⟩), ([4, 0, 1, 1, 1, 1, 1, 1, 1, 1, 1], ⟨[0, 1, 4], [(12, .d (.int .i64)), (13, .d (.int .i64))], [], [], [], []⟩), ([0, 4, 5, 4, 0, 1, 1, 1, 1, 1, 1, 1, 1, 1], ⟨[0, 1, 4, 13], [(12, .d (.int .i64))], [], [], [], []⟩), ([4, 0, 4, 5, 4, 0, 1, 1, 1, 1, 1, 1, 1, 1, 1], ⟨[0, 1, 4, 13], [(12, .d (.int .i64))], [], [], [], []⟩), ([0, 0, 5, 4, 0, 4, 5, 4, 0, 1, 1, 1, 1, 1, 1, 1, 1, 1], ⟨[0, 1, 4, 12, 13], [(120, .d .bool)], [], [], [], []⟩), ([0, 1, 4, 5, 4, 0, 1, 1, 1, 1, 1, 1, 1, 1, 1], ⟨[0, 1, 4, 12], [(13, .d (.int .i64))], [], [], [], []⟩), ([4, 0, 1, 4, 5, 4, 0, 1, 1, 1, 1, 1, 1, 1, 1, 1], ⟨[0, 1, 4, 12], [(13, .d (.int .i64))], [], [], [], []⟩), ([0, 0, 5, 4, 0, 1, 4, 5, 4, 0, 1, 1, 1, 1, 1, 1, 1, 1, 1], ⟨[0, 1, 4, 12, 13], [(139, .d .bool)], [], [], [], []⟩), ([9], ⟨[], [(10, .d (.int .i64)), (11, .d .bool)], [], [], [], []⟩)] else bif Nat.beq f 47 then [([9], ⟨[], [(2, .d (.int .i64))], [], [], [], []⟩)] else bif Nat.beq f 32 then [([9], ⟨[], [(4, .d (.int .i64))], [], [], [], []⟩)] else []) N 400 8 4 z63 16 [.d (.slice 32 x9) a0, .d (.int .u64) a1] A0 K =
  Q4 N a0 a1 (fun d1 m1 => K (V.tup [V.d (Ty.slice 32 y5) (dk d1 0), V.d (Ty.int IntKind.i64) (dk d1 1)]) []) := by
 rw [q2p]
 exact (show _ = jn (fun d1 m1 => (K (V.tup [V.d (Ty.slice 32 y5) (dk d1 0), V.d (Ty.int IntKind.i64) (dk d1 1)]) [])) (U9 N a0 a1) by kernel_rfl).trans (Z2 _ _)
noncomputable def J5 (N : Nat) {R : Type} : OvG R := fun xs _ K => match xs with
 | [.d t0 a0, .d t1 a1] => if t0 = (.slice 32 x9) ∧ t1 = (.int .u64) then Q4 N a0 a1 (fun d1 m1 => K (V.tup [V.d (Ty.slice 32 y5) (dk d1 0), V.d (Ty.int IntKind.i64) (dk d1 1)]) []) else none
 | _ => none
theorem q2r (N : Nat) {R : Type} : GOk (X0 gl0) 16 (J5 N (R := R)) := by
 intro xs A Kr r hr
 unfold J5 at hr
 split at hr
 ·simp only [Option.ite_none_right_eq_some] at hr
  obtain ⟨hty, hr⟩ := hr
  obtain ⟨rfl, rfl⟩ := hty
  rw [← q5F] at hr
  obtain ⟨v, L, h1, h2⟩ := y5f (ok0 gl0) (mo gl0) ((q2q N).y4j _) (z9n gl0) y1F hr
  exact ⟨v, L, h1.mono (z7c fun _ => rfl), h2⟩
 ·cases hr
noncomputable def z3N : Hints := [([0, 1, 1, 1], ⟨[], [(0, .d .bool)], [], [], [], []⟩),
  ([9], ⟨[], [(0, .d .bool)], [], [], [], []⟩)]
noncomputable def q7E (N : Nat) : OvS (X0 gl0) where
 g R := [(28, q3T N), (24, z42 N), (25, z08 N), (36, q2T N), (50, z7q N), (38, q6p N)]
 ok := fun R => List.forall_mem_cons.2 ⟨z1x N, List.forall_mem_cons.2 ⟨y0R N, List.forall_mem_cons.2 ⟨z71 N, List.forall_mem_cons.2 ⟨q9Z N, List.forall_mem_cons.2 ⟨y5c N, List.forall_mem_cons.2 ⟨z5y N, fun _ h => nomatch h⟩⟩⟩⟩⟩⟩
noncomputable def q2M {R : Type} (N : Nat) (k1 : KD R) : Option R := (jn (fun d1 m1 => (k1 [C.bool (C.toBool (dk d1 0))] [])) (fun k2 => (k2 [C.bool true] [])))
noncomputable def q0m {R : Type} (N : Nat) : KD R → Option R := lid "" (q2M N)
theorem q7D {R : Type} (N : Nat)  (k : KD R) : q0m N  k = q2M N  k := by unfold q0m; rw [F5]
theorem z2v {R : Type} (N : Nat)  (K : V → List (Key × O) → Option R) : exF (X0 gl0) ((q7E N).ov R) q2v (fun f r => bif Nat.beq f 11 then (bif Nat.beq r 8 then [(8, 6)] else []) else bif Nat.beq f 13 then (bif Nat.beq r 0 then [(1, 5)] else []) else bif Nat.beq f 29 then (bif Nat.beq r 0 then [(1, 5)] else bif Nat.beq r 7 then [(6, 6)] else []) else bif Nat.beq f 19 then (bif Nat.beq r 15 then [(9, 6)] else []) else []) (fun f => bif Nat.beq f 9 then z3N else []) N 3000 20 9 [] A0 K =
  q0m N  (fun d1 m1 => K (V.d Ty.bool (C.bool (C.toBool (dk d1 0)))) []) := by
 rw [q7D]
 exact (show _ = jn (fun d1 m1 => (K (V.d Ty.bool (C.bool (C.toBool (dk d1 0)))) [])) (q2M N ) by kernel_rfl).trans (Z2 _ _)
noncomputable def q5j (N : Nat) {R : Type} : OvG R := fun xs _ K => match xs with
 | [] => q0m N  (fun d1 m1 => K (V.d Ty.bool (C.bool (C.toBool (dk d1 0)))) [])
 | _ => none
theorem z3M (N : Nat) {R : Type} : GOk (X0 gl0) 9 (q5j N (R := R)) := by
 intro xs A Kr r hr
 unfold q5j at hr
 split at hr
 ·skip
  rw [← z2v] at hr
  exact okA (q7E N) hr
 ·cases hr
end Go.Proofs.YtefppgmopnnphaaDoor
namespace Go.Proofs.YtefppgmopnnphaaDoor
open Go Go.E
set_option maxRecDepth 100000
set_option maxHeartbeats 4000000
set_option linter.unusedSimpArgs false
variable {R : Type} {N : Nat}
theorem z1H (k : KD R) : q0m N k = k [.bool true] [] := by
 rw [q7D]
 unfold q2M
 simp only [Z2, o9, o5]
def z3B : Es → C → C → Es
 | [], c, v => [(c, v)]
 | (k, u) :: l, c, v => if C.beq c k = true then (k, v) :: l else (k, u) :: z3B l c v
theorem z6v (τ : Ty) (c v : C) : ∀ m : Es, q4D (dE τ m) c (V.d τ v) = dE τ (z3B m c v)
 | [] => rfl
 | (k, u) :: m => by
  have ih := z6v τ c v m
  simp only [dE, List.map_cons, q4D, z3B] at ih ⊢
  by_cases h : C.beq c k = true
  ·simp [h]
  ·simp [h, ih]
def mkE (s : List y7) : Es := s.map fun x => (.str x.1, y8 x)
def k9 : List y7 → List UInt8 → Int × Int
 | [], _ => (0, 0)
 | x :: s, n => if n = x.1 then x.2 else k9 s n
def Y2 : List y7 → List UInt8 → Int × Int → List y7
 | [], n, v => [(n, v)]
 | x :: s, n, v => if n = x.1 then (n, v) :: s else x :: Y2 s n v
theorem z9C (a b : List UInt8) : C.beq (.str a) (.str b) = decide (a = b) := by simp [C.beq]
theorem y11 (n : List UInt8) : ∀ s : List y7, (q9K (mkE s) (.str n) = true → getM (mkE s) (.str n) = y8 (n, k9 s n)) ∧ (q9K (mkE s) (.str n) = false → k9 s n = (0, 0))
 | [] => ⟨fun h => by simp [mkE, q9K] at h, fun _ => rfl⟩
 | x :: s => by
  have ih := y11 n s
  simp only [mkE, List.map_cons, q9K, getM, z9C, k9] at ih ⊢
  by_cases h : n = x.1
  ·subst h
   simp [y8]
  ·simp only [h, decide_false, cond_false, if_false]
   exact ih
theorem y1u (n : List UInt8) (v : Int × Int) : ∀ s : List y7, z3B (mkE s) (.str n) (y8 (n, v)) = mkE (Y2 s n v)
 | [] => rfl
 | x :: s => by
  have ih := y1u n v s
  simp only [mkE, List.map_cons, z3B, z9C, Y2] at ih ⊢
  by_cases h : n = x.1
  ·subst h; simp
  ·simp only [h, decide_false, Bool.false_eq_true, if_false, List.map_cons]
   rw [ih]
def z0E (s : List y7) : Prop := ∀ x ∈ s, q95 x.2
theorem y1i : q95 (0, 0) := ⟨⟨by decide, by decide⟩, by decide, by decide⟩
theorem q3o {n : List UInt8} : ∀ {s : List y7}, z0E s → q95 (k9 s n)
 | [], _ => y1i
 | x :: s, h => by
  unfold k9
  split
  ·exact h x (by simp)
  ·exact q3o fun y hy => h y (by simp [hy])
theorem z6V {n : List UInt8} {v : Int × Int} : ∀ {s : List y7} {y : y7}, y ∈ Y2 s n v → y = (n, v) ∨ y ∈ s
 | [], y, h => by simp [Y2] at h; exact .inl h
 | x :: s, y, h => by
  unfold Y2 at h
  split at h
  ·rcases List.mem_cons.1 h with h | h
   ·exact .inl h
   ·exact .inr (by simp [h])
  ·rcases List.mem_cons.1 h with h | h
   ·exact .inr (by simp [h])
   ·exact (z6V h).imp id fun h => by simp [h]
theorem z2d {n : List UInt8} {v : Int × Int} : ∀ {s : List y7} {a : List UInt8}, a ∈ (Y2 s n v).map (·.1) ↔ a = n ∨ a ∈ s.map (·.1)
 | [], a => by simp [Y2]
 | x :: s, a => by
  unfold Y2
  split
  ·rename_i h; simp [h]
  ·have := z2d (n := n) (v := v) (s := s) (a := a)
   simp only [List.map_cons, List.mem_cons, this]
   constructor
   ·rintro (h | h | h)
    ·exact .inr (.inl h)
    ·exact .inl h
    ·exact .inr (.inr h)
   ·rintro (h | h | h)
    ·exact .inr (.inl h)
    ·exact .inl h
    ·exact .inr (.inr h)
theorem z88 {n : List UInt8} {v : Int × Int} : ∀ {s : List y7}, (s.map (·.1)).Nodup → ((Y2 s n v).map (·.1)).Nodup
 | [], _ => by simp [Y2]
 | x :: s, h => by
  simp only [List.map_cons, List.nodup_cons] at h
  unfold Y2
  split
  ·rename_i e; subst e; simpa using h
  ·rename_i e
   simp only [List.map_cons, List.nodup_cons]
   refine ⟨fun hm => ?_, z88 h.2⟩
   rcases z2d.1 hm with h1 | h1
   ·exact e h1.symm
   ·exact h.1 h1
theorem z6w {n : List UInt8} {v : Int × Int} : ∀ {s : List y7}, (Y2 s n v).length ≤ s.length + 1
 | [] => by simp [Y2]
 | x :: s => by
  unfold Y2
  split
  ·simp
  ·have := z6w (n := n) (v := v) (s := s); simp; omega
def q4z (s : List y7) (p : C) : List y7 ⊕ Unit := match q8G (k9 s (p.get 0).toStr) p with
 | .inl v => .inl (Y2 s (p.get 0).toStr v)
 | .inr e => .inr e
def z6g (s : List y7) (ps : List C) : List y7 ⊕ Unit := J9 (fun _ s p => q4z s p) 0 s ps
def q2B (h : Int) (s : List y7) (x : C) : List y7 ⊕ Unit := bif decide (h < (x.get 0).toInt) then .inl s else z6g s (x.get 1).elems
def q62 (h : Int) (s : List y7) (l : List C) : List y7 ⊕ Unit := J9 (fun _ s x => q2B h s x) 0 s l
def q0X (s : List y7) : Prop := z0E s ∧ (s.map (·.1)).Nodup
theorem z1e {s s' : List y7} {p : C} (hs : q0X s) (hp : C.wf b6 p) (h : q4z s p = .inl s') : q0X s' ∧ s'.length ≤ s.length + 1 := by
 unfold q4z at h
 cases ha : q8G (k9 s (p.get 0).toStr) p with
 | inr e => rw [ha] at h; cases h
 | inl v =>
  rw [ha] at h; cases h
  have hv := z9D (q3o hs.1) (z5C hp) ha
  refine ⟨⟨fun y hy => ?_, z88 hs.2⟩, z6w⟩
  rcases z6V hy with rfl | hy
  ·exact hv
  ·exact hs.1 y hy
theorem q9h {α σ ε : Type} {f : Nat → σ → α → σ ⊕ ε} (P : Nat → σ → Prop) : ∀ (l : List α) (i : Nat) (s s' : σ), (∀ i s c s', c ∈ l → P i s → f i s c = .inl s' → P (i + 1) s') → P i s → J9 f i s l = .inl s' → P (i + l.length) s'
 | [], i, s, s', _, h, e => by cases e; exact h
 | c :: l, i, s, s', st, h, e => by
  simp only [J9] at e
  cases hf : f i s c with
  | inr x => rw [hf] at e; cases e
  | inl s1 =>
   rw [hf] at e
   have := q9h P l (i + 1) s1 s' (fun i s c s' hc => st i s c s' (by simp [hc])) (st i s c s1 (by simp) h hf) e
   rw [List.length_cons, show i + (l.length + 1) = i + 1 + l.length by omega]
   exact this
theorem z8X {s s' : List y7} {ps : List C} (hs : q0X s) (hp : ∀ p ∈ ps, C.wf b6 p) (h : z6g s ps = .inl s') : q0X s' ∧ s'.length ≤ s.length + ps.length := by
 have := q9h (fun i t => q0X t ∧ t.length ≤ s.length + i) ps 0 s s' (fun i t c t' hc ht e => by
  obtain ⟨a, b⟩ := z1e ht.1 (hp c hc) e
  exact ⟨a, by have := ht.2; omega⟩) ⟨hs, by omega⟩ h
 simpa using this
def q1v (l : List C) : Nat := (l.map fun x => (x.get 1).elems.length).sum
theorem z3w {h : Int} : ∀ {l : List C} {s s' : List y7}, q0X s → (∀ x ∈ l, C.wf x9 x) → q62 h s l = .inl s' → q0X s' ∧ s'.length ≤ s.length + q1v l := by
 intro l
 have gen : ∀ (l : List C) (i : Nat) (s s' : List y7), q0X s → (∀ x ∈ l, C.wf x9 x) → J9 (fun _ s x => q2B h s x) i s l = .inl s' → q0X s' ∧ s'.length ≤ s.length + q1v l := by
  intro l
  induction l with
  | nil => intro i s s' hs _ e; cases e; exact ⟨hs, by simp⟩
  | cons x l ih =>
   intro i s s' hs hw e
   simp only [J9] at e
   cases hx : q2B h s x with
   | inr e' => rw [hx] at e; cases e
   | inl s1 =>
    rw [hx] at e
    have h1 : q0X s1 ∧ s1.length ≤ s.length + (x.get 1).elems.length := by
     unfold q2B at hx
     cases hb : decide (h < (x.get 0).toInt) with
     | true => rw [hb] at hx; cases hx; exact ⟨hs, by omega⟩
     | false => rw [hb] at hx; exact z8X hs (q8p (hw x (by simp))).2.2 hx
    obtain ⟨a, b⟩ := ih (i + 1) s1 s' h1.1 (fun y hy => hw y (by simp [hy])) e
    refine ⟨a, ?_⟩
    have := h1.2
    simp only [q1v, List.map_cons, List.sum_cons] at b ⊢
    omega
 exact fun {s s'} hs hw e => gen l 0 s s' hs hw e
theorem y4i {p : C} (h : C.wf b6 p) : p.get 0 = .str (p.get 0).toStr := by
 have t := C.z1b (i := 0) (f := .str) h rfl
 simp only [C.wf] at t
 exact t.1
theorem y4a (ps : List C) (a b c d : C) (s : List y7) (hs : q0X s) (hp : ∀ p ∈ ps, C.wf b6 p) (hl : ps.length * 32 ≤ 140737488355328) (hN : 4398046511105 < N) (k1 k5 : KD R) :
  Z6 N (X5 N k1 k5) [a, b, c, d, .slice ps, .int (ps.length : Int), .int 0] [mkE s] = match z6g s ps with
   | .inl s' => k5 [a, b, c, d] [mkE s']
   | .inr _ => k1 [.slice [], .int 11] [] := by
 have key := q47 (N := N) (F := X5 N k1 k5) (fun i (s : List y7) => [a, b, c, d, .slice ps, .int (ps.length : Int), .int (i : Int)]) (fun _ s => [mkE s]) ps
   (fun _ s p => q4z s p) (fun s => k5 [a, b, c, d] [mkE s]) (fun _ => k1 [.slice [], .int 11] []) (fun i s => i ≤ ps.length ∧ q0X s) (s0 := s) ⟨Nat.zero_le _, hs⟩
   (fun i s p hpi hi => ⟨fun rec => by
    have hi2 := (List.getElem?_eq_some_iff.1 hpi).1
    have h1 : (i : Int) < (ps.length : Int) := by omega
    have hw := hp p (List.mem_of_getElem? hpi)
    have hn := y4i hw
    have hg := q3o (n := (p.get 0).toStr) hi.2.1
    have hgE := y11 (p.get 0).toStr s
    have hv := z5C hw
    have h3 : IntKind.i64.wrap ((i : Int) + 1) = ((i + 1 : Nat) : Int) := J2 (by omega)
    unfold X5 q4z
    simp only [go_sem, Z2, w8, r7, o5, h1, H4 hpi, decide_true, cond_true, Int.natCast_nonneg, and_self, if_true, Int.toNat_natCast, z9f, z9h, q4v, z1K, q7m, z6v, h3]
    obtain ⟨g1, g2⟩ := hgE
    simp only [dm, List.getD_cons_zero] at g1 g2 ⊢
    rw [hn]
    simp only [q8A]
    generalize (p.get 0).toStr = n at g1 g2 hg ⊢
    have hput := fun v => y1u n v s
    unfold q8G
    cases hh : q9K (mkE s) (.str n) with
    | true =>
     rw [g1 hh]
     obtain ⟨q1, q2⟩ := hg
     generalize k9 s n = v at q1 q2 ⊢
     simp only [cond_true, y8, List.set_cons_zero, List.set_cons_succ, go_sem]
     rw [q6I _ _ (by simpa [w8] using q2) hv, q6I _ _ (by simpa [w8] using q1) hv]
     simp only [y8] at hput
     simp only [w8, o9, c5, decide_true, Bool.not_true, cond_false]
     cases hb : (p.get 2).toBool with
     | true =>
      simp only [cond_true]
      by_cases h : v.2 + (p.get 1).toInt < 18446744073709551616
      ·simp only [h, if_true, o9, c5, w8, decide_true, Bool.not_true, cond_false, hput (v.1, v.2 + (p.get 1).toInt)]
      ·simp [h, o9, c5, w8]
     | false =>
      simp only [cond_false]
      by_cases h : v.1 + (p.get 1).toInt < 18446744073709551616
      ·simp only [h, if_true, o9, c5, w8, decide_true, Bool.not_true, cond_false, hput (v.1 + (p.get 1).toInt, v.2)]
      ·simp [h, o9, c5, w8]
    | false =>
     rw [g2 hh]
     obtain ⟨q1, q2⟩ := y1i
     have hput : ∀ w : Int × Int, z3B (mkE s) (C.str n) (y8 (n, w)) = mkE (Y2 s n w) := hput
     simp only [cond_false, List.set_cons_zero, List.set_cons_succ, go_sem]
     rw [q6I _ _ (by simpa [w8] using q2) hv, q6I _ _ (by simpa [w8] using q1) hv]
     simp only [y8] at hput
     simp only [w8, o9, c5, decide_true, Bool.not_true, cond_false, Int.zero_add]
     cases hb : (p.get 2).toBool with
     | true =>
      simp only [cond_true]
      by_cases h : (p.get 1).toInt < 18446744073709551616
      ·simp only [h, if_true, o9, c5, w8, decide_true, Bool.not_true, cond_false, hput (0, (p.get 1).toInt)]
      ·simp [h, o9, c5, w8]
     | false =>
      simp only [cond_false]
      by_cases h : (p.get 1).toInt < 18446744073709551616
      ·simp only [h, if_true, o9, c5, w8, decide_true, Bool.not_true, cond_false, hput ((p.get 1).toInt, 0)]
      ·simp [h, o9, c5, w8], fun s' e => ⟨(List.getElem?_eq_some_iff.1 hpi).1, (z1e hi.2 (hp p (List.mem_of_getElem? hpi)) e).1⟩⟩)
   (fun s hs rec => by
    unfold X5
    simp only [go_sem, w8, r7, o5, Int.lt_irrefl, decide_false, cond_false, q4v, q7m, if_true]
    rfl) (by omega)
 refine key.trans ?_
 unfold z6g
 cases J9 (fun _ s p => q4z s p) 0 s ps <;> rfl
theorem y2x (l : List C) (h : Int) (hw : ∀ x ∈ l, C.wf x9 x) (hl : l.length * 32 ≤ 140737488355328) (hN : 4398046511105 < N) (k1 k2 : KD R) :
  Z6 N (X4 N k1 k2) [.int h, .slice l, .int (l.length : Int), .int 0] [mkE []] = match q62 h [] l with
   | .inl s' => k2 [] [mkE s']
   | .inr _ => k1 [.slice [], .int 11] [] := by
 have key := q47 (N := N) (F := X4 N k1 k2) (fun i (s : List y7) => [.int h, .slice l, .int (l.length : Int), .int (i : Int)]) (fun _ s => [mkE s]) l
   (fun _ s x => q2B h s x) (fun s => k2 [] [mkE s]) (fun _ => k1 [.slice [], .int 11] []) (fun i s => i ≤ l.length ∧ q0X s) (s0 := []) ⟨Nat.zero_le _, fun x hx => (by cases hx), List.nodup_nil⟩
   (fun i s x hxi hi => ⟨fun rec => by
    have hi2 := (List.getElem?_eq_some_iff.1 hxi).1
    have h1 : (i : Int) < (l.length : Int) := by omega
    obtain ⟨p1, p2, p3⟩ := q8p (hw x (List.mem_of_getElem? hxi))
    have h3 : IntKind.i64.wrap ((i : Int) + 1) = ((i + 1 : Nat) : Int) := J2 (by omega)
    unfold X4 q2B
    simp only [go_sem, Z2, w8, r7, o5, h1, H4 hxi, decide_true, cond_true, Int.natCast_nonneg, and_self, if_true, Int.toNat_natCast, q4v, z1K, q7m, h3]
    by_cases hb : h < (x.get 0).toInt
    ·rw [if_pos hb, if_pos hb]; rfl
    ·rw [if_neg hb, if_neg hb, p1, r7]
     refine (y4a _ _ _ _ _ s hi.2 p3 p2 hN _ _).trans ?_
     cases z6g s (x.get 1).elems with
     | inl s' =>
      simp only [o9, c5, Y4, X9, w8, h3]
      rfl
     | inr e => rfl, fun s' e => ⟨(List.getElem?_eq_some_iff.1 hxi).1, by
      unfold q2B at e
      cases hb : decide (h < (x.get 0).toInt) with
      | true => rw [hb] at e; cases e; exact hi.2
      | false => rw [hb] at e; exact (z8X hi.2 (q8p (hw x (List.mem_of_getElem? hxi))).2.2 e).1⟩⟩)
   (fun s hs rec => by
    unfold X4
    simp only [go_sem, w8, r7, o5, Int.lt_irrefl, decide_false, cond_false, q4v, q7m, if_true]
    rfl) (by omega)
 refine key.trans ?_
 unfold q62
 cases J9 (fun _ s x => q2B h s x) 0 [] l <;> rfl
def srt (s : List y7) : List y7 := s.mergeSort fun x y => !Op.bytesLess y.1 x.1
theorem q3c (s : List y7) : (srt s).Perm s := List.mergeSort_perm _ _
theorem z1X (s : List y7) : (srt s).Pairwise fun x y => (!Op.bytesLess y.1 x.1) = true := by
 refine List.pairwise_mergeSort ?_ ?_ _
 ·intro a b c h1 h2
  simp only [Bool.not_eq_true'] at h1 h2 ⊢
  exact y2Q h2 h1
 ·intro a b
  simp only [Bool.or_eq_true, Bool.not_eq_true']
  cases h : Op.bytesLess b.1 a.1 with
  | false => exact .inl rfl
  | true =>
   right
   cases h' : Op.bytesLess a.1 b.1 with
   | false => rfl
   | true => have := q5K _ _ _ h h'; rw [q2y] at this; cases this
theorem y4m : ∀ {l : List (List UInt8)}, l.Nodup → ndB l = true
 | [], _ => rfl
 | x :: l, h => by
  rw [List.nodup_cons] at h
  simp only [ndB, Bool.and_eq_true, Bool.not_eq_true', List.contains_eq_mem, decide_eq_false_iff_not]
  exact ⟨h.1, y4m h.2⟩
theorem y43 (x : y7) : q4H (y8 x) = x := rfl
theorem y1y {s : List y7} (hs : q0X s) (hn : s.length ≤ 1048576) : okL (mkE s) = true := by
 unfold okL
 rw [Bool.and_eq_true]
 refine ⟨Nat.ble_eq_true_of_le (by simpa [mkE] using hn), y4m ?_⟩
 have : (mkE s).map (fun e => q0M e.2) = s.map (·.1) := by simp only [mkE, List.map_map]; rfl
 rw [this]; exact hs.2
theorem y2V {s : List y7} (hs : q0X s) (hn : s.length ≤ 1048576) : q4A (mkE s) = (srt s).map y8 := by
 refine (q9a (y1y hs hn) (fun e he => ?_) ?_ ?_).symm
 ·obtain ⟨x, _, rfl⟩ := List.mem_map.1 he
  rfl
 ·have : (mkE s).map (fun e => q4H e.2) = s := by simp only [mkE, List.map_map]; exact (List.map_congr_left fun x _ => y43 x).trans (List.map_id s)
  rw [this]; exact q3c s
 ·intro i j hij hj
  have := List.pairwise_iff_getElem.1 (z1X s) i j (by omega) hj hij
  rw [q9A, getElem!_pos _ j hj, getElem!_pos _ i (by omega)]
  simpa using this
theorem z8l (l : List C) (h : Int) (hw : ∀ x ∈ l, C.wf x9 x) (hl : l.length * 32 ≤ 140737488355328) (hc : q1v l ≤ 1048576) (hN : 4398046511105 < N) (k : KD R) :
  Q4 N (.slice l) (.int h) k = match q62 h [] l with
   | .inl s => k [.slice ((srt s).map y8), .int 0] []
   | .inr _ => k [.slice [], .int 11] [] := by
 rw [q2p]
 unfold U9
 simp only [Z2, r7, y4E]
 refine (y2x l h hw hl hN _ _).trans ?_
 cases hr : q62 h [] l with
 | inr e => rfl
 | inl s =>
  have hk := z3w (s := []) ⟨fun x hx => (by cases hx), List.nodup_nil⟩ hw hr
  have hn : s.length ≤ 1048576 := by have := hk.2; simp at this; omega
  simp only [dm, List.getD_cons_zero, q4v, q7m, true_and, if_true, and_self, y1y hk.1 hn, cond_true, y2V hk.1 hn]
theorem z5g : q0X [] := ⟨fun x hx => (by cases hx), List.nodup_nil⟩
end Go.Proofs.YtefppgmopnnphaaDoor
namespace Go.Proofs.YtefppgmopnnphaaDoor
open Go Go.E
set_option maxRecDepth 100000
set_option maxHeartbeats 4000000
set_option linter.unusedVariables false
end Go.Proofs.YtefppgmopnnphaaDoor
namespace Go.Proofs.YtefppgmopnnphaaDoor
open Go Go.E
set_option maxRecDepth 100000
set_option maxHeartbeats 4000000
set_option linter.unusedSimpArgs false
variable {R : Type} {N : Nat}
def Asc (s : List y7) : Prop := s.Pairwise fun x y => Op.bytesLess x.1 y.1 = true
theorem z3r {s : List y7} (hs : q0X s) : Asc (srt s) := by
 have h1 := z1X s
 have h2 : ((srt s).map (·.1)).Nodup := ((q3c s).map _).nodup_iff.2 hs.2
 rw [List.nodup_iff_pairwise_ne, List.pairwise_map] at h2
 refine (h1.and h2).imp fun {x y} h => ?_
 simp only [Bool.not_eq_true'] at h
 rcases z0C x.1 y.1 with g | g | g
 ·exact g
 ·exact absurd g h.2
 ·rw [g] at h; cases h.1
theorem q8m : ∀ {s : List y7} {x : y7}, (s.map (·.1)).Nodup → x ∈ s → k9 s x.1 = x.2
 | y :: s, x, hn, hx => by
  simp only [List.map_cons, List.nodup_cons] at hn
  unfold k9
  rcases List.mem_cons.1 hx with rfl | hx
  ·rw [if_pos rfl]
  ·have : x.1 ≠ y.1 := fun e => hn.1 (e ▸ List.mem_map_of_mem hx)
   rw [if_neg this]
   exact q8m hn.2 hx
end Go.Proofs.YtefppgmopnnphaaDoor
namespace Go.Proofs.YtefppgmopnnphaaDoor
open Go Go.E
set_option maxRecDepth 100000
set_option maxHeartbeats 4000000
set_option linter.unusedVariables false
noncomputable def z3z : Hints := [([1, 0, 1, 1, 1], ⟨[], [(6, .vec (.l 1000000000051) 32 y5)], [], [], [], [y5]⟩),
  ([4, 1, 0, 1, 1, 1], ⟨[0, 1], [(6, .vec (.l 1000000000051) 32 y5), (8, .d (.int .i64))], [], [], [], [y5]⟩),
  ([1, 4, 0, 1, 5, 4, 1, 0, 1, 1, 1], ⟨[0, 1, 8], [(6, .vec (.l 1000000000051) 32 y5)], [], [], [], [y5]⟩),
  ([4, 1, 4, 0, 1, 5, 4, 1, 0, 1, 1, 1], ⟨[0, 1, 8], [(6, .vec (.l 1000000000051) 32 y5), (9, .d (.int .i64))], [], [], [], [y5]⟩),
  ([0, 0, 5, 4, 1, 4, 0, 1, 5, 4, 1, 0, 1, 1, 1], ⟨[0, 1, 8, 9], [(6, .vec (.l 1000000000051) 32 y5), (35, .d .bool)], [], [], [], [y5]⟩),
  ([0, 1, 1, 4, 0, 1, 5, 4, 1, 4, 0, 1, 5, 4, 1, 0, 1, 1, 1], ⟨[0, 1, 8, 9, 10], [(6, .vec (.l 1000000000051) 32 y5), (11, .d (.int .i64))], [], [], [], [y5]⟩),
  ([4, 0, 1, 1, 4, 0, 1, 5, 4, 1, 4, 0, 1, 5, 4, 1, 0, 1, 1, 1], ⟨[0, 1, 8, 9, 10], [(6, .vec (.l 1000000000051) 32 y5), (11, .d (.int .i64))], [], [], [], [y5]⟩),
  ([0, 0, 5, 4, 0, 1, 1, 4, 0, 1, 5, 4, 1, 4, 0, 1, 5, 4, 1, 0, 1, 1, 1], ⟨[0, 1, 8, 9, 10, 11], [(6, .vec (.l 1000000000051) 32 y5), (59, .d .bool)], [], [], [], [y5]⟩),
  ([0, 0, 1, 1, 1, 4, 0, 1, 5, 4, 1, 4, 0, 1, 5, 4, 1, 0, 1, 1, 1], ⟨[0, 1, 8, 9, 10, 11], [(6, .vec (.l 1000000000051) 32 y5), (75, .d .bool)], [], [], [], [y5]⟩),
  ([1, 0, 1, 1, 1, 4, 0, 1, 5, 4, 1, 4, 0, 1, 5, 4, 1, 0, 1, 1, 1], ⟨[0, 1, 8, 9, 10, 11], [(6, .vec (.l 1000000000051) 32 y5)], [], [], [], [y5]⟩),
  ([1, 0, 1, 1, 1, 1, 4, 0, 1, 5, 4, 1, 4, 0, 1, 5, 4, 1, 0, 1, 1, 1], ⟨[0, 1, 8, 9], [(6, .vec (.l 1000000000051) 32 y5), (7, .d (.int .i64))], [], [], [], [y5]⟩),
  ([9], ⟨[], [(4, .vec (.l 1) 32 y5), (5, .d (.int .i64))], [], [(.l 1, .box (.arr y5))], [], [y5]⟩),
  ([0, 2, 1, 0, 1, 1, 1, 4, 0, 1, 5, 4, 1, 4, 0, 1, 5, 4, 1, 0, 1, 1, 1], ⟨[0, 1, 8, 9, 10, 11], [(6, .vec (.l 1000000000051) 32 y5), (12, .vec (.l 1000000000099) 32 y5)], [], [], [], [y5]⟩)]
noncomputable def q7u (N : Nat) : OvS (X0 gl0) where
 g R := [(27, q65 N)]
 ok := fun R => List.forall_mem_cons.2 ⟨z6o N, fun _ h => nomatch h⟩
noncomputable def q1p {R : Type} (N : Nat) (k6 : KD R) : KD R → List C → List Es → Option R := (fun k7 d4 m4 => (jn (fun d5 m5 => (bif C.toBool (dk d5 7) then (if List.length (C.elems (dk d5 8)) = List.length (C.elems (dk d5 8)) then (k7 [dk d5 0, dk d5 1, dk d5 2, dk d5 3, dk d5 4, C.int (↑(Int.toNat (C.toInt (dk d5 6))) : Int), C.int (IntKind.wrap IntKind.i64 (C.toInt (dk d5 5) + 1)), dk d5 8] []) else none) else (if List.length (C.elems (dk d5 8)) = List.length (C.elems (dk d5 8)) then (k6 [dk d5 0, dk d5 1, dk d5 2, dk d5 3, dk d5 4, C.int (↑(Int.toNat (C.toInt (dk d5 6))) : Int), dk d5 5, dk d5 8] []) else none))) (fun k8 => (bif decide (C.toInt (dk d4 6) < (↑(Int.toNat (C.toInt (dk d4 5))) : Int)) then (if 0 ≤ C.toInt (dk d4 6) ∧ C.toInt (dk d4 6) < (↑(Int.toNat (C.toInt (dk d4 5))) : Int) then (if List.length (C.elems (dk d4 7)) = List.length (C.elems (dk d4 7)) then (k8 [dk d4 0, dk d4 1, dk d4 2, dk d4 3, dk d4 4, dk d4 6, C.int (↑(Int.toNat (C.toInt (dk d4 5))) : Int), C.bool (Op.bytesLess (C.toStr (C.get (C.get (dk d4 7) (0 + Int.toNat (C.toInt (dk d4 6)))) 0)) (C.toStr (C.get (dk d4 4) 0))), dk d4 7] []) else none) else none) else (if List.length (C.elems (dk d4 7)) = List.length (C.elems (dk d4 7)) then (k8 [dk d4 0, dk d4 1, dk d4 2, dk d4 3, dk d4 4, dk d4 6, C.int (↑(Int.toNat (C.toInt (dk d4 5))) : Int), C.bool false, dk d4 7] []) else none)))))
noncomputable def W8 {R : Type} (N : Nat) (k1 : KD R) (k4 : KD R) : KD R → List C → List Es → Option R := (fun k5 d2 m2 => (jn (fun d3 m3 => (bif C.toBool (dk d3 5) then (if 0 ≤ C.toInt (dk d3 2) ∧ C.toInt (dk d3 2) < (↑(List.length (C.elems (dk d3 0))) : Int) then (if 0 ≤ C.toInt (dk d3 3) ∧ C.toInt (dk d3 3) < (↑(List.length (C.elems (C.get (List.getD (C.elems (dk d3 0)) (Int.toNat (C.toInt (dk d3 2))) C.nil) 1))) : Int) then (jn (fun d4 m4 => (jn (fun d5 m5 => (jn (fun d6 m6 => (jn (fun d7 m7 => (bif !decide (C.toInt (dk d7 5) = 0) then (k1 [C.int 0, dk d7 5, C.agg []] []) else (if List.length (C.elems (dk d7 6)) = List.length (C.elems (dk d7 6)) then (k5 [dk d7 0, dk d7 1, dk d7 2, C.int (↑(Int.toNat (C.toInt (dk d7 4))) : Int), C.int (IntKind.wrap IntKind.i64 (C.toInt (dk d7 3) + 1)), dk d7 6] []) else none))) (fun k6 => (bif C.toBool (C.get (dk d6 4) 2) then (if 0 ≤ C.toInt (dk d6 5) ∧ C.toInt (dk d6 5) < (↑(Int.toNat (C.toInt (dk d6 6))) : Int) then (q07 N (C.get (C.get (dk d6 7) (0 + Int.toNat (C.toInt (dk d6 5)))) 2) (C.get (dk d6 4) 1) (fun d7 m7 => (if 0 ≤ C.toInt (dk d6 5) ∧ C.toInt (dk d6 5) < (↑(Int.toNat (C.toInt (dk d6 6))) : Int) then (if List.length (C.elems (dk d6 7)) = List.length (C.elems (C.set (dk d6 7) (0 + Int.toNat (C.toInt (dk d6 5))) (C.set (C.get (dk d6 7) (0 + Int.toNat (C.toInt (dk d6 5)))) 2 (dk d7 0)))) then (k6 [dk d6 0, dk d6 1, dk d6 2, dk d6 3, C.int (↑(Int.toNat (C.toInt (dk d6 6))) : Int), dk d7 1, C.set (dk d6 7) (0 + Int.toNat (C.toInt (dk d6 5))) (C.set (C.get (dk d6 7) (0 + Int.toNat (C.toInt (dk d6 5)))) 2 (dk d7 0))] []) else none) else none))) else none) else (if 0 ≤ C.toInt (dk d6 5) ∧ C.toInt (dk d6 5) < (↑(Int.toNat (C.toInt (dk d6 6))) : Int) then (q07 N (C.get (C.get (dk d6 7) (0 + Int.toNat (C.toInt (dk d6 5)))) 1) (C.get (dk d6 4) 1) (fun d7 m7 => (if 0 ≤ C.toInt (dk d6 5) ∧ C.toInt (dk d6 5) < (↑(Int.toNat (C.toInt (dk d6 6))) : Int) then (if List.length (C.elems (dk d6 7)) = List.length (C.elems (C.set (dk d6 7) (0 + Int.toNat (C.toInt (dk d6 5))) (C.set (C.get (dk d6 7) (0 + Int.toNat (C.toInt (dk d6 5)))) 1 (dk d7 0)))) then (k6 [dk d6 0, dk d6 1, dk d6 2, dk d6 3, C.int (↑(Int.toNat (C.toInt (dk d6 6))) : Int), dk d7 1, C.set (dk d6 7) (0 + Int.toNat (C.toInt (dk d6 5))) (C.set (C.get (dk d6 7) (0 + Int.toNat (C.toInt (dk d6 5)))) 1 (dk d7 0))] []) else none) else none))) else none))))) (fun k6 => (bif C.toBool (dk d5 7) then (jn (fun d6 m6 => (if Int.ofNat 0 ≤ 0 ∧ 0 ≤ C.toInt (dk d6 5) ∧ C.toInt (dk d6 5) ≤ (↑(Int.toNat (C.toInt (dk d6 6))) : Int) then (if (Int.toNat (C.toInt (dk d6 7)) + List.length (List.take (Int.toNat (C.toInt (dk d6 5) - 0)) (List.drop 0 (C.elems (dk d6 8))))) * 32 ≤ 140737488355328 ∧ Int.toNat (C.toInt (dk d6 7)) + List.length (List.take (Int.toNat (C.toInt (dk d6 5) - 0)) (List.drop 0 (C.elems (dk d6 8)))) ≤ 9223372036854775807 then (if (Int.toNat (C.toInt (dk d6 7)) + List.length (List.take (Int.toNat (C.toInt (dk d6 5) - 0)) (List.drop 0 (C.elems (dk d6 8)))) + 1) * 32 ≤ 140737488355328 ∧ Int.toNat (C.toInt (dk d6 7)) + List.length (List.take (Int.toNat (C.toInt (dk d6 5) - 0)) (List.drop 0 (C.elems (dk d6 8)))) + 1 ≤ 9223372036854775807 then (if 0 ≤ C.toInt (dk d6 5) ∧ C.toInt (dk d6 5) ≤ (↑(Int.toNat (C.toInt (dk d6 6))) : Int) ∧ (↑(Int.toNat (C.toInt (dk d6 6))) : Int) ≤ (↑(Int.toNat (C.toInt (dk d6 6))) : Int) then (if (Int.toNat (C.toInt (dk d6 7)) + List.length (List.take (Int.toNat (C.toInt (dk d6 5) - 0)) (List.drop 0 (C.elems (dk d6 8)))) + 1 + List.length (List.take (Int.toNat ((↑(Int.toNat (C.toInt (dk d6 6))) : Int) - C.toInt (dk d6 5))) (List.drop (0 + Int.toNat (C.toInt (dk d6 5))) (C.elems (dk d6 8))))) * 32 ≤ 140737488355328 ∧ Int.toNat (C.toInt (dk d6 7)) + List.length (List.take (Int.toNat (C.toInt (dk d6 5) - 0)) (List.drop 0 (C.elems (dk d6 8)))) + 1 + List.length (List.take (Int.toNat ((↑(Int.toNat (C.toInt (dk d6 6))) : Int) - C.toInt (dk d6 5))) (List.drop (0 + Int.toNat (C.toInt (dk d6 5))) (C.elems (dk d6 8)))) ≤ 9223372036854775807 then (if Int.toNat (C.toInt (dk d6 7)) + List.length (List.take (Int.toNat (C.toInt (dk d6 5) - 0)) (List.drop 0 (C.elems (dk d6 8)))) + 1 + List.length (List.take (Int.toNat ((↑(Int.toNat (C.toInt (dk d6 6))) : Int) - C.toInt (dk d6 5))) (List.drop (0 + Int.toNat (C.toInt (dk d6 5))) (C.elems (dk d6 8)))) = List.length (List.take (Int.toNat (C.toInt (dk d6 7)) + List.length (List.take (Int.toNat (C.toInt (dk d6 5) - 0)) (List.drop 0 (C.elems (dk d6 8)))) + 1) (List.take (Int.toNat (C.toInt (dk d6 7)) + List.length (List.take (Int.toNat (C.toInt (dk d6 5) - 0)) (List.drop 0 (C.elems (dk d6 8))))) (List.take (Int.toNat (C.toInt (dk d6 7))) (C.elems (dk d6 9)) ++ List.take (Int.toNat (C.toInt (dk d6 5) - 0)) (List.drop 0 (C.elems (dk d6 8)))) ++ [C.set (C.agg [C.str [], C.int 0, C.int 0]) 0 (C.get (dk d6 4) 0)]) ++ List.take (Int.toNat ((↑(Int.toNat (C.toInt (dk d6 6))) : Int) - C.toInt (dk d6 5))) (List.drop (0 + Int.toNat (C.toInt (dk d6 5))) (C.elems (dk d6 8)))) then (k6 [dk d6 0, dk d6 1, dk d6 2, dk d6 3, dk d6 4, dk d6 5, C.int (↑(Int.toNat (C.toInt (dk d6 7)) + List.length (List.take (Int.toNat (C.toInt (dk d6 5) - 0)) (List.drop 0 (C.elems (dk d6 8)))) + 1 + List.length (List.take (Int.toNat ((↑(Int.toNat (C.toInt (dk d6 6))) : Int) - C.toInt (dk d6 5))) (List.drop (0 + Int.toNat (C.toInt (dk d6 5))) (C.elems (dk d6 8))))) : Int), C.agg (List.take (Int.toNat (C.toInt (dk d6 7)) + List.length (List.take (Int.toNat (C.toInt (dk d6 5) - 0)) (List.drop 0 (C.elems (dk d6 8)))) + 1) (List.take (Int.toNat (C.toInt (dk d6 7)) + List.length (List.take (Int.toNat (C.toInt (dk d6 5) - 0)) (List.drop 0 (C.elems (dk d6 8))))) (List.take (Int.toNat (C.toInt (dk d6 7))) (C.elems (dk d6 9)) ++ List.take (Int.toNat (C.toInt (dk d6 5) - 0)) (List.drop 0 (C.elems (dk d6 8)))) ++ [C.set (C.agg [C.str [], C.int 0, C.int 0]) 0 (C.get (dk d6 4) 0)]) ++ List.take (Int.toNat ((↑(Int.toNat (C.toInt (dk d6 6))) : Int) - C.toInt (dk d6 5))) (List.drop (0 + Int.toNat (C.toInt (dk d6 5))) (C.elems (dk d6 8))))] []) else none) else none) else none) else none) else none) else none)) (fun k7 => (if List.length (C.elems (dk d5 8)) = List.length (C.elems (dk d5 8)) then (k7 [dk d5 0, dk d5 1, dk d5 2, dk d5 3, dk d5 4, dk d5 5, C.int (↑(Int.toNat (C.toInt (dk d5 6))) : Int), C.int 0, dk d5 8, C.agg []] []) else none))) else (if List.length (C.elems (dk d5 8)) = List.length (C.elems (dk d5 8)) then (k6 [dk d5 0, dk d5 1, dk d5 2, dk d5 3, dk d5 4, dk d5 5, C.int (↑(Int.toNat (C.toInt (dk d5 6))) : Int), dk d5 8] []) else none))))) (fun k6 => (bif decide (C.toInt (dk d4 6) = (↑(Int.toNat (C.toInt (dk d4 5))) : Int)) then (if List.length (C.elems (dk d4 7)) = List.length (C.elems (dk d4 7)) then (k6 [dk d4 0, dk d4 1, dk d4 2, dk d4 3, dk d4 4, dk d4 6, C.int (↑(Int.toNat (C.toInt (dk d4 5))) : Int), C.bool true, dk d4 7] []) else none) else (if 0 ≤ C.toInt (dk d4 6) ∧ C.toInt (dk d4 6) < (↑(Int.toNat (C.toInt (dk d4 5))) : Int) then (if List.length (C.elems (dk d4 7)) = List.length (C.elems (dk d4 7)) then (k6 [dk d4 0, dk d4 1, dk d4 2, dk d4 3, dk d4 4, dk d4 6, C.int (↑(Int.toNat (C.toInt (dk d4 5))) : Int), C.bool !C.toStr (C.get (C.get (dk d4 7) (0 + Int.toNat (C.toInt (dk d4 6)))) 0) == C.toStr (C.get (dk d4 4) 0), dk d4 7] []) else none) else none))))) (fun k6 => (if List.length (C.elems (dk d3 6)) = List.length (C.elems (dk d3 6)) then (Z6 N (q1p N k6) [dk d3 0, dk d3 1, dk d3 2, dk d3 3, List.getD (C.elems (C.get (List.getD (C.elems (dk d3 0)) (Int.toNat (C.toInt (dk d3 2))) C.nil) 1)) (Int.toNat (C.toInt (dk d3 3))) C.nil, C.int (↑(Int.toNat (C.toInt (dk d3 4))) : Int), C.int 0, dk d3 6] []) else none))) else none) else none) else (if List.length (C.elems (dk d3 6)) = List.length (C.elems (dk d3 6)) then (k4 [dk d3 0, dk d3 1, dk d3 2, C.int (↑(Int.toNat (C.toInt (dk d3 4))) : Int), dk d3 6] []) else none))) (fun k6 => (if 0 ≤ C.toInt (dk d2 2) ∧ C.toInt (dk d2 2) < (↑(List.length (C.elems (dk d2 0))) : Int) then (bif decide (C.toInt (dk d2 4) < (↑(List.length (C.elems (C.get (List.getD (C.elems (dk d2 0)) (Int.toNat (C.toInt (dk d2 2))) C.nil) 1))) : Int)) then (if 0 ≤ C.toInt (dk d2 2) ∧ C.toInt (dk d2 2) < (↑(List.length (C.elems (dk d2 0))) : Int) then (if List.length (C.elems (dk d2 5)) = List.length (C.elems (dk d2 5)) then (k6 [dk d2 0, dk d2 1, dk d2 2, dk d2 4, C.int (↑(Int.toNat (C.toInt (dk d2 3))) : Int), C.bool (decide (C.toInt (C.get (List.getD (C.elems (dk d2 0)) (Int.toNat (C.toInt (dk d2 2))) C.nil) 0) ≤ C.toInt (dk d2 1))), dk d2 5] []) else none) else none) else (if List.length (C.elems (dk d2 5)) = List.length (C.elems (dk d2 5)) then (k6 [dk d2 0, dk d2 1, dk d2 2, dk d2 4, C.int (↑(Int.toNat (C.toInt (dk d2 3))) : Int), C.bool false, dk d2 5] []) else none)) else none))))
noncomputable def q2F {R : Type} (N : Nat) (k1 : KD R) (k2 : KD R) : KD R → List C → List Es → Option R := (fun k3 d1 m1 => (bif decide (C.toInt (dk d1 3) < (↑(List.length (C.elems (dk d1 0))) : Int)) then (jn (fun d2 m2 => (if List.length (C.elems (dk d2 4)) = List.length (C.elems (dk d2 4)) then (k3 [dk d2 0, dk d2 1, C.int (↑(Int.toNat (C.toInt (dk d2 3))) : Int), C.int (IntKind.wrap IntKind.i64 (C.toInt (dk d2 2) + 1)), dk d2 4] []) else none)) (fun k4 => (if List.length (C.elems (dk d1 4)) = List.length (C.elems (dk d1 4)) then (Z6 N (W8 N k1 k4) [dk d1 0, dk d1 1, dk d1 3, C.int (↑(Int.toNat (C.toInt (dk d1 2))) : Int), C.int 0, dk d1 4] []) else none))) else (if List.length (C.elems (dk d1 4)) = List.length (C.elems (dk d1 4)) then (k2 [C.int (↑(Int.toNat (C.toInt (dk d1 2))) : Int), dk d1 4] []) else none)))
noncomputable def q2E {R : Type} (N : Nat) (a0 a1 : C) (k1 : KD R) : Option R := (jn (fun d1 m1 => (if List.length (C.elems (dk d1 1)) = List.length (C.elems (dk d1 1)) then (k1 [C.int (↑(Int.toNat (C.toInt (dk d1 0))) : Int), C.int 0, dk d1 1] []) else none)) (fun k2 => (Z6 N (q2F N k1 k2) [a0, a1, C.int 0, C.int 0, C.agg []] [])))
noncomputable def q02 {R : Type} (N : Nat) : C → C → KD R → Option R := lid "" (q2E N)
theorem q7t {R : Type} (N : Nat) (a0 a1 : C) (k : KD R) : q02 N a0 a1 k = q2E N a0 a1 k := by unfold q02; rw [F5]
theorem z19 {R : Type} (N : Nat) (a0 a1 : C) (K : V → List (Key × O) → Option R) : exF (X0 gl0) ((q7u N).ov R) q2v (fun f r => bif Nat.beq f 17 then (bif Nat.beq r 10 then [(10, 6)] else bif Nat.beq r 19 then [(104, 7), (10, 6)] else bif Nat.beq r 20 then [(119, 7), (10, 6)] else bif Nat.beq r 11 then [(10, 6)] else bif Nat.beq r 13 then [(10, 6)] else []) else []) (fun f => bif Nat.beq f 17 then z3z else []) N 400 8 17 [.d (.slice 32 x9) a0, .d (.int .u64) a1] A0 K =
  q02 N a0 a1 (fun d1 m1 => K (V.tup [V.sr (Key.l 1) [] 0 (Int.toNat (C.toInt (dk d1 0))) none 32 y5, V.d (Ty.int IntKind.i64) (dk d1 1)]) [(Key.l 1, O.box (V.d (Ty.arr (List.length (C.elems (dk d1 2))) y5) (dk d1 2)))]) := by
 rw [q7t]
 exact (show _ = jn (fun d1 m1 => (K (V.tup [V.sr (Key.l 1) [] 0 (Int.toNat (C.toInt (dk d1 0))) none 32 y5, V.d (Ty.int IntKind.i64) (dk d1 1)]) [(Key.l 1, O.box (V.d (Ty.arr (List.length (C.elems (dk d1 2))) y5) (dk d1 2)))])) (q2E N a0 a1) by kernel_rfl).trans (Z2 _ _)
noncomputable def q5g (N : Nat) {R : Type} : OvG R := fun xs _ K => match xs with
 | [.d t0 a0, .d t1 a1] => if t0 = (.slice 32 x9) ∧ t1 = (.int .u64) then q02 N a0 a1 (fun d1 m1 => K (V.tup [V.sr (Key.l 1) [] 0 (Int.toNat (C.toInt (dk d1 0))) none 32 y5, V.d (Ty.int IntKind.i64) (dk d1 1)]) [(Key.l 1, O.box (V.d (Ty.arr (List.length (C.elems (dk d1 2))) y5) (dk d1 2)))]) else none
 | _ => none
theorem z3y (N : Nat) {R : Type} : GOk (X0 gl0) 17 (q5g N (R := R)) := by
 intro xs A Kr r hr
 unfold q5g at hr
 split at hr
 ·simp only [Option.ite_none_right_eq_some] at hr
  obtain ⟨hty, hr⟩ := hr
  obtain ⟨rfl, rfl⟩ := hty
  rw [← z19] at hr
  exact okA (q7u N) hr
 ·cases hr
end Go.Proofs.YtefppgmopnnphaaDoor
namespace Go.Proofs.YtefppgmopnnphaaDoor
open Go Go.E
set_option maxRecDepth 100000
set_option maxHeartbeats 4000000
set_option linter.unusedSimpArgs false
variable {R : Type} {N : Nat}
def x7 (n : List UInt8) : List y7 → Nat
 | [] => 0
 | x :: s => bif Op.bytesLess x.1 n then x7 n s + 1 else 0
theorem q3j (n : List UInt8) : ∀ s : List y7, x7 n s ≤ s.length
 | [] => Nat.le_refl _
 | x :: s => by
  have := q3j n s
  unfold x7
  cases Op.bytesLess x.1 n <;> simp <;> omega
def Q7 (n : List UInt8) (s : List y7) : Bool := match s[x7 n s]? with
 | some x => x.1 == n
 | none => false
def F6 (n : List UInt8) (s : List y7) : List y7 := bif Q7 n s then s else s.take (x7 n s) ++ (n, 0, 0) :: s.drop (x7 n s)
def q26 (s : List y7) (p : C) : List y7 ⊕ Unit := match q8G (k9 s (p.get 0).toStr) p with
 | .inl v => .inl ((F6 (p.get 0).toStr s).set (x7 (p.get 0).toStr s) ((p.get 0).toStr, v))
 | .inr e => .inr e
theorem y2r {x y : y7} {l r : List y7} (h : Asc (l ++ x :: r)) (hy : y ∈ r) : Op.bytesLess x.1 y.1 = true := by
 have := (List.pairwise_append.1 h).2.1
 exact (List.pairwise_cons.1 this).1 y hy
theorem q6w (n : List UInt8) : ∀ {s : List y7}, Asc s → (∀ x ∈ s.take (x7 n s), Op.bytesLess x.1 n = true) ∧ (∀ x ∈ s.drop (x7 n s), Op.bytesLess x.1 n = false)
 | [], _ => ⟨fun x h => by simp at h, fun x h => by simp at h⟩
 | y :: s, h => by
  have h' := List.pairwise_cons.1 h
  unfold x7
  cases hb : Op.bytesLess y.1 n with
  | true =>
   obtain ⟨h1, h2⟩ := q6w n h'.2
   simp only [cond_true, List.take_succ_cons, List.drop_succ_cons]
   refine ⟨fun x hx => ?_, h2⟩
   rcases List.mem_cons.1 hx with rfl | hx
   ·exact hb
   ·exact h1 x hx
  | false =>
   simp only [cond_false, List.take_zero, List.drop_zero]
   refine ⟨fun x h => by simp at h, fun x hx => ?_⟩
   rcases List.mem_cons.1 hx with rfl | hx
   ·exact hb
   ·cases hx' : Op.bytesLess x.1 n with
    | false => rfl
    | true =>
     have := q5K _ _ _ (h'.1 x hx) hx'
     rw [hb] at this; cases this
theorem y2q {s : List y7} (h : Asc s) : (s.map (·.1)).Nodup := by
 rw [List.nodup_iff_pairwise_ne, List.pairwise_map]
 refine h.imp fun {a b} h e => ?_
 rw [e, q2y] at h; cases h
theorem q6Q {n : List UInt8} : ∀ {s : List y7}, n ∉ s.map (·.1) → k9 s n = (0, 0)
 | [], _ => rfl
 | x :: s, h => by
  simp only [List.map_cons, List.mem_cons, not_or] at h
  unfold k9
  rw [if_neg h.1]
  exact q6Q h.2
theorem y10 {s t : List y7} (hp : s.Perm t) (hn : (s.map (·.1)).Nodup) (n : List UInt8) : k9 s n = k9 t n := by
 by_cases h : n ∈ s.map (·.1)
 ·obtain ⟨x, hx, e⟩ := List.mem_map.1 h
  have e : x.1 = n := e
  rw [← e, q8m hn hx, q8m ((hp.map _).nodup_iff.1 hn) (hp.mem_iff.1 hx)]
 ·rw [q6Q h, q6Q fun h' => h ((hp.map _).mem_iff.2 h')]
theorem z0S {n : List UInt8} {v : Int × Int} : ∀ {s : List y7}, (s.map (·.1)).Nodup → (Y2 s n v).Perm ((n, v) :: s.filter fun x => !(x.1 == n))
 | [], _ => by simp [Y2]
 | x :: s, h => by
  simp only [List.map_cons, List.nodup_cons] at h
  unfold Y2
  by_cases e : n = x.1
  ·rw [if_pos e]
   have : s.filter (fun y => !(y.1 == n)) = s := List.filter_eq_self.2 fun y hy => by
    have : y.1 ≠ n := fun e' => h.1 (e ▸ e' ▸ List.mem_map_of_mem hy)
    simp [this]
   simp only [List.filter_cons, e, beq_self_eq_true, Bool.not_true, Bool.false_eq_true, if_false]
   rw [← e, this]
  ·rw [if_neg e]
   have e' : (x.1 == n) = false := by simpa using fun h => e h.symm
   simp only [List.filter_cons, e', Bool.not_false, if_true]
   exact ((z0S h.2).cons x).trans (.swap _ _ _)
theorem z57 {s : List y7} {p : C} {v : Int × Int} (h : Asc s) : let n := (p.get 0).toStr
  Asc ((F6 n s).set (x7 n s) (n, v)) ∧ ((F6 n s).set (x7 n s) (n, v)).Perm ((n, v) :: s.filter fun x => !(x.1 == n)) := by
 intro n
 obtain ⟨h1, h2⟩ := q6w n h
 have hle := q3j n s
 have hsp : s = s.take (x7 n s) ++ s.drop (x7 n s) := (List.take_append_drop _ _).symm
 generalize ha : s.take (x7 n s) = A at h1 hsp
 generalize hb : s.drop (x7 n s) = B at h2 hsp
 have hal : A.length = x7 n s := by rw [← ha, List.length_take]; omega
 have hA : A.filter (fun x => !(x.1 == n)) = A := List.filter_eq_self.2 fun x hx => by
  have := h1 x hx
  have : x.1 ≠ n := fun e => by rw [e, q2y] at this; cases this
  simp [this]
 have hAB := h
 rw [hsp] at hAB
 have key : ∀ B' : List y7, (∀ y ∈ B', Op.bytesLess n y.1 = true) → Asc B' → (∀ x ∈ A, ∀ y ∈ B', Op.bytesLess x.1 y.1 = true) → Asc (A ++ (n, v) :: B') := fun B' q1 q2 q3 => by
  refine List.pairwise_append.2 ⟨(List.pairwise_append.1 hAB).1, List.pairwise_cons.2 ⟨q1, q2⟩, fun x hx y hy => ?_⟩
  rcases List.mem_cons.1 hy with rfl | hy
  ·exact h1 x hx
  ·exact q3 x hx y hy
 have hset : ∀ (u : y7) (B' : List y7), (A ++ u :: B').set (x7 n s) (n, v) = A ++ (n, v) :: B' := fun u B' => by
  rw [List.set_append_right _ _ (by omega), ← hal, Nat.sub_self]; rfl
 have hBasc := (List.pairwise_append.1 hAB).2.1
 have hcross := (List.pairwise_append.1 hAB).2.2
 have hget : s[x7 n s]? = B[0]? := by
  have : s[x7 n s]? = (A ++ B)[A.length]? := by rw [hal, ← hsp]
  rw [this, List.getElem?_append_right (Nat.le_refl _), Nat.sub_self]
 cases hB : B with
 | nil =>
  have ht : Q7 n s = false := by unfold Q7; rw [hget, hB]; rfl
  unfold F6
  rw [ht, cond_false, ha, hb, hB, hset, hsp, hB, List.append_nil, hA]
  exact ⟨key [] (fun y h => by cases h) .nil (fun x _ y h => by cases h), List.perm_middle.trans (by rw [List.append_nil])⟩
 | cons y B1 =>
  have hy := h2 y (by rw [hB]; simp)
  rw [hB] at hBasc hcross
  have hBc := List.pairwise_cons.1 hBasc
  by_cases e : y.1 = n
  ·have ht : Q7 n s = true := by unfold Q7; rw [hget, hB]; simp [e]
   unfold F6
   rw [ht, cond_true]
   have hs2 : s.set (x7 n s) (n, v) = A ++ (n, v) :: B1 := by
    conv => lhs; rw [show s = A ++ y :: B1 from hB ▸ hsp]
    rw [← hB, ← hsp]
    rw [show s = A ++ y :: B1 from hB ▸ hsp] at hal ⊢
    exact (List.set_append_right _ _ (by omega)).trans (by rw [← hal, Nat.sub_self]; rfl)
   rw [hs2]
   refine ⟨key B1 (fun z hz => e ▸ hBc.1 z hz) hBc.2 (fun x hx z hz => hcross x hx z (by simp [hz])), ?_⟩
   have hB1 : B1.filter (fun x => !(x.1 == n)) = B1 := List.filter_eq_self.2 fun x hx => by
    have := hBc.1 x hx
    have : x.1 ≠ n := fun e' => by rw [e, e', q2y] at this; cases this
    simp [this]
   rw [hsp, hB, List.filter_append, hA]
   simp only [List.filter_cons, e, beq_self_eq_true, Bool.not_true, Bool.false_eq_true, if_false, hB1]
   exact List.perm_middle
  ·have ht : Q7 n s = false := by unfold Q7; rw [hget, hB]; simpa using e
   unfold F6
   rw [ht, cond_false, ha, hb, hB, hset]
   have hny : Op.bytesLess n y.1 = true := by
    rcases z0C n y.1 with g | g | g
    ·exact g
    ·exact absurd g.symm e
    ·rw [g] at hy; cases hy
   have hall : ∀ z ∈ y :: B1, Op.bytesLess n z.1 = true := fun z hz => by
    rcases List.mem_cons.1 hz with rfl | hz
    ·exact hny
    ·exact q5K _ _ _ hny (hBc.1 z hz)
   refine ⟨key _ hall hBasc hcross, ?_⟩
   have hBf : (y :: B1).filter (fun x => !(x.1 == n)) = y :: B1 := List.filter_eq_self.2 fun x hx => by
    have := hall x hx
    have : x.1 ≠ n := fun e' => by rw [e', q2y] at this; cases this
    simp [this]
   rw [hsp, hB, List.filter_append, hA, hBf]
   exact List.perm_middle
def q6X (s o : List y7) : Prop := q0X s ∧ Asc o ∧ o.Perm s
theorem y1d {s o : List y7} {p : C} (h : q6X s o) (hp : C.wf b6 p) : match q4z s p, q26 o p with
  | .inl s', .inl o' => q6X s' o'
  | .inr _, .inr _ => True
  | _, _ => False := by
 obtain ⟨h1, h2, h3⟩ := h
 have hg := y10 h3.symm h1.2 (p.get 0).toStr
 have ok := @z1e s
 unfold q4z at ok ⊢
 unfold q26
 rw [← hg]
 cases ha : q8G (k9 s (p.get 0).toStr) p with
 | inr e => trivial
 | inl v =>
  simp only
  obtain ⟨q1, q2⟩ := z57 (p := p) (v := v) h2
  refine ⟨(ok h1 hp (by rw [ha])).1, q1, q2.trans (((h3.filter _).cons _).trans (z0S h1.2).symm)⟩
theorem z6f : ∀ {ps : List C} {i : Nat} {s o : List y7}, q6X s o → (∀ p ∈ ps, C.wf b6 p) → match J9 (fun _ s p => q4z s p) i s ps, J9 (fun _ s p => q26 s p) i o ps with
  | .inl s', .inl o' => q6X s' o'
  | .inr _, .inr _ => True
  | _, _ => False
 | [], _, _, _, h, _ => h
 | p :: ps, i, s, o, h, hw => by
  have := y1d h (hw p (by simp))
  simp only [J9]
  cases hs : q4z s p <;> cases ho : q26 o p <;> rw [hs, ho] at this <;> simp only at this ⊢
  exact z6f this fun q hq => hw q (by simp [hq])
def q19 (h : Int) (s : List y7) (x : C) : List y7 ⊕ Unit := bif decide (h < (x.get 0).toInt) then .inl s else J9 (fun _ s p => q26 s p) 0 s (x.get 1).elems
theorem z4m {h : Int} : ∀ {l : List C} {i : Nat} {s o : List y7}, q6X s o → (∀ x ∈ l, C.wf x9 x) → match J9 (fun _ s x => q2B h s x) i s l, J9 (fun _ s x => q19 h s x) i o l with
  | .inl s', .inl o' => q6X s' o'
  | .inr _, .inr _ => True
  | _, _ => False
 | [], _, _, _, hb, _ => hb
 | x :: l, i, s, o, hb, hw => by
  have : match q2B h s x, q19 h o x with
    | .inl s', .inl o' => q6X s' o'
    | .inr _, .inr _ => True
    | _, _ => False := by
   unfold q2B q19
   cases decide (h < (x.get 0).toInt) with
   | true => exact hb
   | false => exact z6f hb (q8p (hw x (by simp))).2.2
  simp only [J9]
  cases hs : q2B h s x <;> cases ho : q19 h o x <;> rw [hs, ho] at this <;> simp only at this ⊢
  exact z4m this fun q hq => hw q (by simp [hq])
theorem y32 {s o : List y7} (h : q6X s o) : o = srt s := by
 refine List.Perm.eq_of_pairwise (le := fun x y => Op.bytesLess x.1 y.1 = true) (fun a b _ _ h1 h2 => ?_) (show o.Pairwise (fun x y => Op.bytesLess x.1 y.1 = true) from h.2.1) (show (srt s).Pairwise (fun x y => Op.bytesLess x.1 y.1 = true) from z3r h.1) (h.2.2.trans (q3c s).symm)
 have := q5K _ _ _ h1 h2
 rw [q2y] at this; cases this
end Go.Proofs.YtefppgmopnnphaaDoor
namespace Go.Proofs.YtefppgmopnnphaaDoor
open Go Go.E
set_option maxRecDepth 100000
set_option maxHeartbeats 4000000
set_option linter.unusedSimpArgs false
variable {R : Type} {N : Nat}
theorem z6h (n : List UInt8) : ∀ (s : List y7) (i : Nat), J9 (σ := Unit) (ε := Nat) (fun i _ x => bif Op.bytesLess x.1 n then .inl () else .inr i) i () s = if x7 n s = s.length then .inl () else .inr (i + x7 n s)
 | [], _ => rfl
 | x :: s, i => by
  have ih := z6h n s (i + 1)
  simp only [J9, x7]
  by_cases h : Op.bytesLess x.1 n = true
  ·simp only [h, cond_true, List.length_cons]
   rw [ih]
   by_cases h : x7 n s = s.length
   ·rw [if_pos h, if_pos (by omega)]
   ·rw [if_neg h, if_neg (by omega)]; congr 1; omega
  ·have h : Op.bytesLess x.1 n = false := by simpa using h
   simp [h]
theorem z9Y (s : List y7) (a b c d p : C) (hl : s.length ≤ 1048576) (hN : 4398046511105 < N) (k : KD R) :
  Z6 N (q1p N k) [a, b, c, d, p, .int (s.length : Int), .int 0, .agg (s.map y8)] [] = k [a, b, c, d, p, .int (s.length : Int), .int (x7 (p.get 0).toStr s : Int), .agg (s.map y8)] [] := by
 have key := q5C (σ := Unit) (ε := Nat) (N := N) (F := q1p N k) (fun i _ => [a, b, c, d, p, .int (s.length : Int), .int (i : Int), .agg (s.map y8)]) (fun _ _ => []) s
   (fun i _ x => bif Op.bytesLess x.1 (p.get 0).toStr then .inl () else .inr i) (fun _ => k [a, b, c, d, p, .int (s.length : Int), .int (s.length : Int), .agg (s.map y8)] []) (fun e => k [a, b, c, d, p, .int (s.length : Int), .int (e : Int), .agg (s.map y8)] []) (s0 := ())
   (fun i _ x hx hi rec => by
    have h1 : (i : Int) < (s.length : Int) := by omega
    have hx2 : (C.agg (s.map y8)).get (0 + i) = y8 x := by
     simp only [C.get, Nat.zero_add]
     exact H4 (by rw [List.getElem?_map, hx]; rfl)
    unfold q1p
    simp only [Z2, o9, c5, Y4, X9, W5, H8, q0I, q2w, w8, Int.toNat_natCast, h1, decide_true, cond_true, Int.natCast_nonneg, and_self, if_true, hx2, J2 (show i < 4611686018427387904 by omega)]
    have : ((y8 x).get 0).toStr = x.1 := rfl
    rw [this]
    cases Op.bytesLess x.1 (p.get 0).toStr <;> simp [o9, c5, Y4, X9, W5, H8, q0I, q2w, q3f, w8, o5, J2 (show i < 4611686018427387904 by omega)])
   (fun _ rec => by
    unfold q1p
    simp only [Z2, o9, c5, Y4, X9, W5, H8, q0I, q2w, q3f, w8, o5, Int.toNat_natCast, Int.lt_irrefl, decide_false, cond_false, if_true]) (by omega)
 refine key.trans ?_
 rw [z6h]
 by_cases h : x7 (p.get 0).toStr s = s.length
 ·rw [if_pos h, h]; rfl
 ·rw [if_neg h, Nat.zero_add]; rfl
theorem y3n (n : List UInt8) (s : List y7) : (F6 n s).length ≤ s.length + 1 := by
 unfold F6
 cases Q7 n s with
 | true => simp
 | false =>
  have := q3j n s
  simp; omega
theorem y3o (n : List UInt8) (s : List y7) : ∃ x, (F6 n s)[x7 n s]? = some x ∧ x.1 = n := by
 unfold F6
 cases h : Q7 n s with
 | true =>
  simp only [cond_true]
  unfold Q7 at h
  cases hx : s[x7 n s]? with
  | none => rw [hx] at h; cases h
  | some x => rw [hx] at h; exact ⟨x, rfl, by simpa using h⟩
 | false =>
  have := q3j n s
  refine ⟨(n, 0, 0), ?_, rfl⟩
  simp only [cond_false]
  rw [List.getElem?_append_right (by simp; omega)]
  simp [Nat.min_eq_left this]
theorem z1y {n : List UInt8} {s : List y7} (h : Asc s) : (F6 n s)[x7 n s]? = some (n, k9 s n) := by
 have hx := y3o n s
 unfold F6 at hx ⊢
 cases ht : Q7 n s with
 | true =>
  rw [ht] at hx
  simp only [cond_true] at hx ⊢
  obtain ⟨x, h1, h2⟩ := hx
  have := q8m (y2q h) (List.mem_of_getElem? h1)
  rw [h1, ← h2, this]
 | false =>
  obtain ⟨q1, q2⟩ := q6w n h
  have hno : n ∉ s.map (·.1) := by
   intro hm
   obtain ⟨x, hx', e⟩ := List.mem_map.1 hm
   have e : x.1 = n := e
   rw [← List.take_append_drop (x7 n s) s] at hx'
   rcases List.mem_append.1 hx' with hx' | hx'
   ·have := q1 x hx'; rw [e, q2y] at this; cases this
   ·-- the first one behind isn't it, all later ones are greater
    cases hd : s.drop (x7 n s) with
    | nil => rw [hd] at hx'; cases hx'
    | cons y r =>
     have hy : s[x7 n s]? = some y := by
      have : (s.drop (x7 n s))[0]? = some y := by rw [hd]; rfl
      rw [List.getElem?_drop] at this
      simpa using this
     unfold Q7 at ht
     rw [hy] at ht
     have hne : y.1 ≠ n := by simpa using ht
     rw [hd] at hx' q2
     have hyl := q2 y (by simp)
     rcases List.mem_cons.1 hx' with rfl | hx'
     ·exact hne e
     ·have hasc : Asc (s.take (x7 n s) ++ y :: r) := by rw [← hd, List.take_append_drop]; exact h
      have := y2r hasc hx'
      rw [e, hyl] at this; cases this
  rw [q6Q hno]
  simp only [cond_false]
  have := q3j n s
  rw [List.getElem?_append_right (by simp; omega)]
  simp [Nat.min_eq_left this]
def q5N (b : Nat) (s : List y7) : Prop := Asc s ∧ z0E s ∧ s.length ≤ b
theorem z1V {b : Nat} {s s' : List y7} {p : C} (hs : q5N b s) (hp : C.wf b6 p) (h : q26 s p = .inl s') : q5N (b + 1) s' := by
 unfold q26 at h
 cases ha : q8G (k9 s (p.get 0).toStr) p with
 | inr e => rw [ha] at h; cases h
 | inl v =>
  rw [ha] at h; cases h
  have hv := z9D (q3o hs.2.1) (z5C hp) ha
  obtain ⟨q1, q2⟩ := z57 (p := p) (v := v) hs.1
  refine ⟨q1, fun y hy => ?_, ?_⟩
  ·rcases List.mem_cons.1 (q2.mem_iff.1 hy) with rfl | hy
   ·exact hv
   ·exact hs.2.1 y (List.mem_filter.1 hy).1
  ·have := y3n (p.get 0).toStr s
   have := hs.2.2
   simp; omega
theorem q1F {K : KD R} {B : KD R → Option R} (ds : List C) (ms : List Es) (h : ∀ k, B k = k ds ms) : jn K B = K ds ms := by rw [Z2]; exact h K
theorem y3m (n : List UInt8) (s : List y7) (hle : x7 n s ≤ s.length) :
  List.take (x7 n s + 1) (List.take (x7 n s) (List.take 0 [] ++ List.take (x7 n s) (s.map y8)) ++ [C.agg [C.str n, C.int 0, C.int 0]]) ++ List.take (s.length - x7 n s) (List.drop (x7 n s) (s.map y8)) =
   (s.take (x7 n s) ++ (n, 0, 0) :: s.drop (x7 n s)).map y8 := by
 have h1 : (List.take (x7 n s) (s.map y8)).length = x7 n s := by simp; omega
 have h2 : (List.drop (x7 n s) (s.map y8)).length = s.length - x7 n s := by simp
 rw [List.take_zero, List.nil_append, List.take_of_length_le (l := List.drop (x7 n s) (s.map y8)) (Nat.le_of_eq h2), List.take_take, Nat.min_self]
 rw [List.take_of_length_le (by rw [List.length_append, h1]; simp)]
 simp [y8]
set_option maxHeartbeats 600000 in
theorem z8t (l : List C) (x p : C) (h : Int) (i j : Nat) (hx : l[i]? = some x) (hpj : (x.get 1).elems[j]? = some p) (s : List y7) (b : Nat) (hs : q5N b s) (hw : C.wf x9 x) (hle : (x.get 0).toInt ≤ h) (hb : b < 1048576) (hil : l.length * 32 ≤ 140737488355328) (hN : 4398046511105 < N) (k1 k4 rec : KD R) :
  W8 N k1 k4 rec [.slice l, .int h, .int (i : Int), .int (s.length : Int), .int (j : Int), .agg (s.map y8)] [] = match q26 s p with
   | .inl s' => rec [.slice l, .int h, .int (i : Int), .int (s'.length : Int), .int ((j + 1 : Nat) : Int), .agg (s'.map y8)] []
   | .inr _ => k1 [.int 0, .int 11, .agg []] [] := by
 have hi2 := (List.getElem?_eq_some_iff.1 hx).1
 have hj2 := (List.getElem?_eq_some_iff.1 hpj).1
 have h1 : (i : Int) < (l.length : Int) := by omega
 have h2 : (j : Int) < ((x.get 1).elems.length : Int) := by omega
 obtain ⟨p1, p2, p3⟩ := q8p hw
 have hwp := p3 p (List.mem_of_getElem? hpj)
 have hn := y4i hwp
 have hv := z5C hwp
 have hsl : s.length ≤ 1048576 := by have := hs.2.2; omega
 have hpl := q3j (p.get 0).toStr s
 have h3 : IntKind.i64.wrap ((j : Int) + 1) = ((j + 1 : Nat) : Int) := J2 (by omega)
 unfold W8
 refine (q1F [.slice l, .int h, .int (i : Int), .int (j : Int), .int (s.length : Int), .bool true, .agg (s.map y8)] [] fun k => ?_).trans ?_
 ·simp only [o9, c5, Y4, X9, W5, H8, w8, r7, H4 hx, Int.toNat_natCast, h1, h2, hle, decide_true, cond_true, Int.natCast_nonneg, and_self, if_true]
 simp only [o9, c5, Y4, X9, W5, H8, q0I, w8, r7, o5, H4 hx, H4 hpj, Int.toNat_natCast, h1, h2, decide_true, cond_true, Int.natCast_nonneg, and_self, if_true]
 refine (q1F _ _ fun k => z9Y s _ _ _ _ _ hsl hN k).trans ?_
 generalize hnm : (p.get 0).toStr = n at *
 refine (q1F [.slice l, .int h, .int (i : Int), .int (j : Int), p, .int (x7 n s : Int), .int (s.length : Int), .bool (!Q7 n s), .agg (s.map y8)] [] fun k => ?_).trans ?_
 ·simp only [o9, c5, Y4, X9, W5, H8, q0I, q2w, w8, Int.toNat_natCast, if_true]
  by_cases e : x7 n s = s.length
  ·have ht : Q7 n s = false := by unfold Q7; rw [List.getElem?_eq_none (by omega)]
   rw [ht, e]
   simp
  ·have hlt : x7 n s < s.length := by omega
   have e' : ¬ ((x7 n s : Int) = (s.length : Int)) := by omega
   have hx2 : (C.agg (s.map y8)).get (0 + x7 n s) = y8 s[x7 n s] := by
    simp only [C.get, Nat.zero_add]
    exact H4 (by rw [List.getElem?_map, List.getElem?_eq_getElem hlt]; rfl)
   have ht : Q7 n s = (s[x7 n s].1 == n) := by unfold Q7; rw [List.getElem?_eq_getElem hlt]
   have hl' : (0 : Int) ≤ (x7 n s : Int) ∧ (x7 n s : Int) < (s.length : Int) := by omega
   have hq : ((y8 s[x7 n s]).get 0).toStr = s[x7 n s].1 := rfl
   simp only [e', decide_false, cond_false, hl', and_self, if_true, hx2, hq, hnm, ht]
 refine (q1F [.slice l, .int h, .int (i : Int), .int (j : Int), p, .int (x7 n s : Int), .int ((F6 n s).length : Int), .agg ((F6 n s).map y8)] [] fun k => ?_).trans ?_
 ·simp only [o9, c5, Y4, X9, W5, H8, q0I, q2w, q3f, w8, o5, Int.toNat_natCast, if_true]
  cases ht : Q7 n s with
  | true =>
   have hi : F6 n s = s := by unfold F6; rw [ht]; rfl
   rw [hi]
   simp
  | false =>
   have hi : F6 n s = s.take (x7 n s) ++ (n, 0, 0) :: s.drop (x7 n s) := by unfold F6; rw [ht]; rfl
   rw [hi]
   simp only [Bool.not_false, cond_true]
   have hlen : (List.take (x7 n s) (s.map y8)).length = x7 n s := by simp; omega
   have hlen2 : (List.take (s.length - x7 n s) (List.drop (x7 n s) (s.map y8))).length = s.length - x7 n s := by simp
   have e2 : (x7 n s : Int) - 0 = (x7 n s : Int) := by omega
   have e3 : (((s.length : Int)) - (x7 n s : Int)).toNat = s.length - x7 n s := by omega
   have e4 : ∀ c : C, (C.agg [C.str [], C.int 0, C.int 0]).set 0 c = C.agg [c, C.int 0, C.int 0] := fun c => rfl
   refine (q1F [.slice l, .int h, .int (i : Int), .int (j : Int), p, .int (x7 n s : Int), .int (s.length : Int), .int 0, .agg (s.map y8), .agg []] [] fun k => rfl).trans ?_
   simp only [o9, c5, Y4, X9, W5, H8, q0I, q2w, q3f, q8w, w8, z0B, Int.toNat_natCast, Int.toNat_zero, e2, e3, e4, List.drop_zero, Nat.zero_add (x7 n s), hn, hlen, hlen2, y3m n s hpl]
   rw [if_pos ⟨by decide, by omega, by omega⟩, if_pos (by omega), if_pos (by omega), if_pos (by omega), if_pos (by omega)]
   have hln : x7 n s + 1 + (s.length - x7 n s) = (List.take (x7 n s) s ++ (n, 0, 0) :: List.drop (x7 n s) s).length := by simp; omega
   rw [List.length_map, if_pos hln, hln]
 simp only [o9, c5, Y4, X9, W5, H8, q0I, q2w, q3f, w8, o5, Int.toNat_natCast, if_true]
 obtain ⟨x0, hx0⟩ : ∃ x0, (F6 n s)[x7 n s]? = some x0 := ⟨_, z1y hs.1⟩
 have hv0 := z1y (n := n) hs.1
 have hlt : x7 n s < (F6 n s).length := (List.getElem?_eq_some_iff.1 hx0).1
 have hl' : (0 : Int) ≤ (x7 n s : Int) ∧ (x7 n s : Int) < ((F6 n s).length : Int) := by omega
 have hx2 : (C.agg ((F6 n s).map y8)).get (0 + x7 n s) = y8 (n, k9 s n) := by
  simp only [C.get, Nat.zero_add]
  exact H4 (by rw [List.getElem?_map, hv0]; rfl)
 have hset : ∀ u : y7, (C.agg ((F6 n s).map y8)).set (0 + x7 n s) (y8 u) = C.agg (((F6 n s).set (x7 n s) u).map y8) := fun u => by
  simp only [C.set, Nat.zero_add, List.map_set]
 have hg := q3o (n := n) hs.2.1
 obtain ⟨g1, g2⟩ := hg
 have c1 : ((y8 (n, k9 s n)).get 1).toInt = (k9 s n).1 := rfl
 have c2 : ((y8 (n, k9 s n)).get 2).toInt = (k9 s n).2 := rfl
 have s1 : ∀ z : Int, (y8 (n, k9 s n)).set 1 (C.int z) = y8 (n, z, (k9 s n).2) := fun z => rfl
 have s2 : ∀ z : Int, (y8 (n, k9 s n)).set 2 (C.int z) = y8 (n, (k9 s n).1, z) := fun z => rfl
 unfold q26 q8G
 rw [Z2]
 simp only [hl', and_self, if_true, hx2, hnm]
 rw [z4o _ _ (by rw [c2]; exact g2) hv, z4o _ _ (by rw [c1]; exact g1) hv]
 simp only [c1, c2]
 cases hb2 : (p.get 2).toBool with
 | true =>
  simp only [cond_true]
  by_cases hq : (k9 s n).2 + (p.get 1).toInt < 18446744073709551616
  ·simp only [hq, if_true, o9, c5, s2, hset, z0B, List.length_map, List.length_set]
   simp [o9, c5, Y4, X9, W5, H8, q0I, w8, h3]
  ·simp only [hq, if_false, o9, c5, s2, hset, z0B, List.length_map, List.length_set, if_true]
   simp [o9, c5, Y4, X9, W5, H8, q0I, w8]
 | false =>
  simp only [cond_false]
  by_cases hq : (k9 s n).1 + (p.get 1).toInt < 18446744073709551616
  ·simp only [hq, if_true, o9, c5, s1, hset, z0B, List.length_map, List.length_set]
   simp [o9, c5, Y4, X9, W5, H8, q0I, w8, h3]
  ·simp only [hq, if_false, o9, c5, s1, hset, z0B, List.length_map, List.length_set, if_true]
   simp [o9, c5, Y4, X9, W5, H8, q0I, w8]
end Go.Proofs.YtefppgmopnnphaaDoor
namespace Go.Proofs.YtefppgmopnnphaaDoor
open Go Go.E
set_option maxRecDepth 100000
set_option maxHeartbeats 1000000
set_option linter.unusedSimpArgs false
variable {R : Type} {N : Nat}
theorem y1t (l : List C) (x : C) (h : Int) (i : Nat) (hx : l[i]? = some x) (s : List y7) (b : Nat) (hs : q5N b s) (hw : C.wf x9 x) (hb : b + (x.get 1).elems.length ≤ 1048576) (hil : l.length * 32 ≤ 140737488355328) (hN : 4398046511105 < N) (k1 k4 : KD R) :
  Z6 N (W8 N k1 k4) [.slice l, .int h, .int (i : Int), .int (s.length : Int), .int 0, .agg (s.map y8)] [] = match q19 h s x with
   | .inl s' => k4 [.slice l, .int h, .int (i : Int), .int (s'.length : Int), .agg (s'.map y8)] []
   | .inr _ => k1 [.int 0, .int 11, .agg []] [] := by
 have hi2 := (List.getElem?_eq_some_iff.1 hx).1
 have h1 : (i : Int) < (l.length : Int) := by omega
 obtain ⟨p1, p2, p3⟩ := q8p hw
 have hstop : ∀ (j : Nat) (s : List y7) (rec : KD R), ((j : Int) < ((x.get 1).elems.length : Int) → h < (x.get 0).toInt) → W8 N k1 k4 rec [.slice l, .int h, .int (i : Int), .int (s.length : Int), .int (j : Int), .agg (s.map y8)] [] = k4 [.slice l, .int h, .int (i : Int), .int (s.length : Int), .agg (s.map y8)] [] := by
  intro j s rec hj
  unfold W8
  refine (q1F [.slice l, .int h, .int (i : Int), .int (j : Int), .int (s.length : Int), .bool false, .agg (s.map y8)] [] fun k => ?_).trans ?_
  ·simp only [o9, c5, Y4, X9, W5, H8, w8, r7, H4 hx, Int.toNat_natCast, h1, decide_true, cond_true, Int.natCast_nonneg, and_self, if_true]
   by_cases hjj : (j : Int) < ((x.get 1).elems.length : Int)
   ·have : ¬ ((x.get 0).toInt ≤ h) := by have := hj hjj; omega
    simp only [hjj, this, decide_true, decide_false, cond_true]
   ·simp only [hjj, decide_false, cond_false]
  simp only [o9, c5, Y4, X9, W5, H8, q0I, w8, o5, Int.toNat_natCast, cond_false, if_true]
 unfold q19
 by_cases hlt : h < (x.get 0).toInt
 ·obtain ⟨M, rfl⟩ : ∃ M, N = M + 1 := ⟨N - 1, by omega⟩
  rw [q5B]
  have := hstop 0 s (Z6 M (W8 (M + 1) k1 k4)) (fun _ => hlt)
  simp only [hlt, decide_true, cond_true]
  exact this
 have hle : (x.get 0).toInt ≤ h := by omega
 simp only [hlt, decide_false, cond_false]
 have key := q47 (N := N) (F := W8 N k1 k4) (fun j (s : List y7) => [.slice l, .int h, .int (i : Int), .int (s.length : Int), .int (j : Int), .agg (s.map y8)]) (fun _ _ => []) (x.get 1).elems
   (fun _ s p => q26 s p) (fun s => k4 [.slice l, .int h, .int (i : Int), .int (s.length : Int), .agg (s.map y8)] []) (fun _ => k1 [.int 0, .int 11, .agg []] []) (fun j s => q5N (b + j) s) (s0 := s) hs
   (fun j s p hpj hj => ⟨fun rec => (z8t l x p h i j hx hpj s (b + j) hj hw hle (by have := (List.getElem?_eq_some_iff.1 hpj).1; omega) hil hN k1 k4 rec).trans (by cases q26 s p <;> rfl), fun s' e => z1V hj (p3 p (List.mem_of_getElem? hpj)) e⟩)
   (fun s _ rec => hstop _ s rec (fun h => by omega)) (by omega)
 refine key.trans ?_
 cases J9 (fun _ s p => q26 s p) 0 s (x.get 1).elems <;> rfl
theorem z8o {h : Int} {b : Nat} {s s' : List y7} {x : C} (hs : q5N b s) (hw : C.wf x9 x) (e : q19 h s x = .inl s') : q5N (b + (x.get 1).elems.length) s' := by
 unfold q19 at e
 cases hb : decide (h < (x.get 0).toInt) with
 | true => rw [hb] at e; cases e; exact ⟨hs.1, hs.2.1, by have := hs.2.2; omega⟩
 | false =>
  rw [hb] at e
  have := q9h (fun i t => q5N (b + i) t) (x.get 1).elems 0 s s' (fun i t c t' hc ht e => z1V ht ((q8p hw).2.2 c hc) e) hs e
  simpa using this
theorem z4X (l : List C) (i : Nat) (x : C) (hx : l[i]? = some x) : q1v (l.take (i + 1)) = q1v (l.take i) + (x.get 1).elems.length := by
 rw [List.take_add_one, hx]
 simp [q1v]
theorem y5x (l : List C) (i : Nat) : q1v (l.take i) ≤ q1v l := by
 have : q1v l = q1v (l.take i) + q1v (l.drop i) := by
  unfold q1v
  rw [← List.sum_append, ← List.map_append, List.take_append_drop]
 omega
theorem z4q (l : List C) (h : Int) (hw : ∀ x ∈ l, C.wf x9 x) (hl : l.length * 32 ≤ 140737488355328) (hc : q1v l ≤ 1048576) (hN : 4398046511105 < N) (k : KD R) :
  q02 N (.slice l) (.int h) k = match q62 h [] l with
   | .inl s => k [.int ((srt s).length : Int), .int 0, .agg ((srt s).map y8)] []
   | .inr _ => k [.int 0, .int 11, .agg []] [] := by
 rw [q7t]
 unfold q2E
 simp only [Z2, if_true]
 have key := q47 (N := N) (F := q2F N k fun d1 m1 => k [.int (((dk d1 0).toInt.toNat : Nat) : Int), .int 0, dk d1 1] []) (fun i (s : List y7) => [.slice l, .int h, .int (s.length : Int), .int (i : Int), .agg (s.map y8)]) (fun _ _ => []) l
   (fun _ s x => q19 h s x) (fun s => k [.int (s.length : Int), .int 0, .agg (s.map y8)] []) (fun _ => k [.int 0, .int 11, .agg []] []) (fun i s => q5N (q1v (l.take i)) s) (s0 := []) ⟨List.Pairwise.nil, fun x hx => (by cases hx), Nat.zero_le _⟩
   (fun i s x hxi hi => ⟨fun rec => by
    have hi2 := (List.getElem?_eq_some_iff.1 hxi).1
    have h1 : (i : Int) < (l.length : Int) := by omega
    have h3 : IntKind.i64.wrap ((i : Int) + 1) = ((i + 1 : Nat) : Int) := J2 (by omega)
    have hct := z4X l i x hxi
    have hcl := y5x l (i + 1)
    unfold q2F
    simp only [Z2, o9, c5, Y4, X9, W5, w8, r7, Int.toNat_natCast, h1, decide_true, cond_true, if_true]
    refine (y1t l x h i hxi s _ hi (hw x (List.mem_of_getElem? hxi)) (by omega) hl hN _ _).trans ?_
    cases q19 h s x with
    | inl s' => simp only [o9, c5, Y4, X9, W5, w8, Int.toNat_natCast, h3]
    | inr e => rfl, fun s' e => by
     rw [z4X l i x hxi]
     exact z8o hi (hw x (List.mem_of_getElem? hxi)) e⟩)
   (fun s hs rec => by
    unfold q2F
    simp only [Z2, o9, c5, Y4, X9, W5, w8, r7, Int.toNat_natCast, Int.lt_irrefl, decide_false, cond_false, if_true]) (by omega)
 refine key.trans ?_
 have hb := z4m (h := h) (l := l) (i := 0) (s := []) (o := []) ⟨⟨fun x hx => (by cases hx), List.nodup_nil⟩, List.Pairwise.nil, .refl _⟩ hw
 unfold q62
 cases hs : J9 (fun _ s x => q2B h s x) 0 [] l <;> cases ho : J9 (fun _ s x => q19 h s x) 0 [] l <;> rw [hs, ho] at hb <;> simp only at hb
 ·rw [y32 hb]; rfl
 ·rfl
end Go.Proofs.YtefppgmopnnphaaDoor
namespace Go.Proofs.YtefppgmopnnphaaDoor
open Go Go.E
set_option maxRecDepth 100000
set_option maxHeartbeats 4000000
set_option linter.unusedVariables false
noncomputable def q7a : Hints := [([9], ⟨[], [(6, .d (.int .u64)), (7, .d .bool), (8, .d (.int .i64))], [], [], [], []⟩)]
noncomputable def q21 (N : Nat) : OvS (X0 gl0) where
 g R := [(16, J5 N), (33, q0w N)]
 ok := fun R => List.forall_mem_cons.2 ⟨q2r N, List.forall_mem_cons.2 ⟨q3t N, fun _ h => nomatch h⟩⟩
noncomputable def F3 {R : Type} (N : Nat) (k3 : KD R) : KD R → List C → List Es → Option R := (fun k4 d2 m2 => (bif decide (C.toInt (dk d2 3) < C.toInt (dk d2 4)) then (if 0 ≤ IntKind.wrap IntKind.i64 (Int.fdiv (IntKind.wrap IntKind.u64 (IntKind.wrap IntKind.i64 (C.toInt (dk d2 3) + C.toInt (dk d2 4)))) (2 ^ min (Int.toNat 1) 64)) ∧ IntKind.wrap IntKind.i64 (Int.fdiv (IntKind.wrap IntKind.u64 (IntKind.wrap IntKind.i64 (C.toInt (dk d2 3) + C.toInt (dk d2 4)))) (2 ^ min (Int.toNat 1) 64)) < (↑(List.length (C.elems (dk d2 0))) : Int) then (jn (fun d3 m3 => (jn (fun d4 m4 => (k4 [dk d4 0, dk d4 1, dk d4 2, dk d4 3, dk d4 4] [])) (fun k5 => (bif decide (C.toInt (dk d3 0) < 0) then (k5 [dk d2 0, dk d2 1, dk d2 2, C.int (IntKind.wrap IntKind.i64 (IntKind.wrap IntKind.i64 (Int.fdiv (IntKind.wrap IntKind.u64 (IntKind.wrap IntKind.i64 (C.toInt (dk d2 3) + C.toInt (dk d2 4)))) (2 ^ min (Int.toNat 1) 64)) + 1)), dk d2 4] []) else (k5 [dk d2 0, dk d2 1, dk d2 2, dk d2 3, C.int (IntKind.wrap IntKind.i64 (Int.fdiv (IntKind.wrap IntKind.u64 (IntKind.wrap IntKind.i64 (C.toInt (dk d2 3) + C.toInt (dk d2 4)))) (2 ^ min (Int.toNat 1) 64)))] []))))) (fun k5 => (Z9 N (C.get (List.getD (C.elems (dk d2 0)) (Int.toNat (IntKind.wrap IntKind.i64 (Int.fdiv (IntKind.wrap IntKind.u64 (IntKind.wrap IntKind.i64 (C.toInt (dk d2 3) + C.toInt (dk d2 4)))) (2 ^ min (Int.toNat 1) 64)))) C.nil) 0) (dk d2 1) (fun d3 m3 => (k5 [dk d3 0] []))))) else none) else (k3 [dk d2 0, dk d2 1, dk d2 2, dk d2 3] [])))
noncomputable def F2 {R : Type} (N : Nat) (a0 a1 a2 : C) (k1 : KD R) : Option R := (Q4 N a0 a2 (fun d1 m1 => (bif !decide (C.toInt (dk d1 1) = 0) then (k1 [C.int 0, C.bool false, dk d1 1] []) else (jn (fun d2 m2 => (bif !C.toBool (dk d2 1) then (k1 [C.int 0, C.bool false, C.int 6] []) else (if 0 ≤ C.toInt (dk d2 0) ∧ C.toInt (dk d2 0) < (↑(List.length (C.elems (dk d1 0))) : Int) then (if 0 ≤ C.toInt (dk d2 0) ∧ C.toInt (dk d2 0) < (↑(List.length (C.elems (dk d1 0))) : Int) then (bif decide (C.toInt (C.get (List.getD (C.elems (dk d1 0)) (Int.toNat (C.toInt (dk d2 0))) C.nil) 1) < C.toInt (C.get (List.getD (C.elems (dk d1 0)) (Int.toNat (C.toInt (dk d2 0))) C.nil) 2)) then (if 0 ≤ C.toInt (dk d2 0) ∧ C.toInt (dk d2 0) < (↑(List.length (C.elems (dk d1 0))) : Int) then (if 0 ≤ C.toInt (dk d2 0) ∧ C.toInt (dk d2 0) < (↑(List.length (C.elems (dk d1 0))) : Int) then (k1 [C.int (IntKind.wrap IntKind.u64 (C.toInt (C.get (List.getD (C.elems (dk d1 0)) (Int.toNat (C.toInt (dk d2 0))) C.nil) 2) - C.toInt (C.get (List.getD (C.elems (dk d1 0)) (Int.toNat (C.toInt (dk d2 0))) C.nil) 1))), C.bool true, C.int 0] []) else none) else none) else (if 0 ≤ C.toInt (dk d2 0) ∧ C.toInt (dk d2 0) < (↑(List.length (C.elems (dk d1 0))) : Int) then (if 0 ≤ C.toInt (dk d2 0) ∧ C.toInt (dk d2 0) < (↑(List.length (C.elems (dk d1 0))) : Int) then (k1 [C.int (IntKind.wrap IntKind.u64 (C.toInt (C.get (List.getD (C.elems (dk d1 0)) (Int.toNat (C.toInt (dk d2 0))) C.nil) 1) - C.toInt (C.get (List.getD (C.elems (dk d1 0)) (Int.toNat (C.toInt (dk d2 0))) C.nil) 2))), C.bool false, C.int 0] []) else none) else none)) else none) else none))) (fun k2 => (jn (fun d2 m2 => (jn (fun d3 m3 => (k2 [dk d3 0, C.bool (C.toBool (dk d3 1))] [])) (fun k3 => (bif decide (C.toInt (dk d2 3) < C.toInt (dk d2 2)) then (if 0 ≤ C.toInt (dk d2 3) ∧ C.toInt (dk d2 3) < (↑(List.length (C.elems (dk d2 0))) : Int) then (jn (fun d3 m3 => (k3 [dk d2 3, C.bool (decide (C.toInt (dk d3 0) = 0))] [])) (fun k4 => (Z9 N (C.get (List.getD (C.elems (dk d2 0)) (Int.toNat (C.toInt (dk d2 3))) C.nil) 0) (dk d2 1) (fun d3 m3 => (k4 [dk d3 0] []))))) else none) else (k3 [dk d2 3, C.bool false] []))))) (fun k3 => (Z6 N (F3 N k3) [dk d1 0, a1, C.int (↑(List.length (C.elems (dk d1 0))) : Int), C.int 0, C.int (↑(List.length (C.elems (dk d1 0))) : Int)] []))))))))
noncomputable def Y9 {R : Type} (N : Nat) : C → C → C → KD R → Option R := lid "" (F2 N)
theorem q20 {R : Type} (N : Nat) (a0 a1 a2 : C) (k : KD R) : Y9 N a0 a1 a2 k = F2 N a0 a1 a2 k := by unfold Y9; rw [F5]
theorem q6t {R : Type} (N : Nat) (a0 a1 a2 : C) (K : V → List (Key × O) → Option R) : exF (X0 gl0) ((q21 N).ov R) q2v (fun f r => bif Nat.beq f 35 then (bif Nat.beq r 0 then [(2, 5)] else []) else []) (fun f => bif Nat.beq f 18 then q7a else bif Nat.beq f 34 then [([0, 1, 1, 1], ⟨[0, 1, 2, 8], [(9, .d (.int .i64))], [], [], [], []⟩), ([4, 0, 1, 1, 1], ⟨[0, 1, 2, 8], [(9, .d (.int .i64)), (10, .d (.int .i64))], [], [], [], []⟩), ([1, 1, 4, 1, 5, 4, 0, 1, 1, 1], ⟨[0, 1, 2, 8], [(9, .d (.int .i64)), (10, .d (.int .i64))], [], [], [], []⟩), ([0, 1, 1, 1, 1], ⟨[], [(6, .d (.int .i64)), (7, .d .bool)], [], [], [], []⟩), ([9], ⟨[], [(6, .d (.int .i64)), (7, .d .bool)], [], [], [], []⟩)] else bif Nat.beq f 35 then [([9], ⟨[], [(4, .d (.int .i64))], [], [], [], []⟩)] else []) N 400 8 18 [.d (.slice 32 x9) a0, .d .str a1, .d (.int .u64) a2] A0 K =
  Y9 N a0 a1 a2 (fun d1 m1 => K (V.tup
 [V.d (Ty.int IntKind.u64) (dk d1 0), V.d Ty.bool (C.bool (C.toBool (dk d1 1))), V.d (Ty.int IntKind.i64) (dk d1 2)]) []) := by
 rw [q20]
 exact (show _ = jn (fun d1 m1 => (K (V.tup
 [V.d (Ty.int IntKind.u64) (dk d1 0), V.d Ty.bool (C.bool (C.toBool (dk d1 1))), V.d (Ty.int IntKind.i64) (dk d1 2)]) [])) (F2 N a0 a1 a2) by kernel_rfl).trans (Z2 _ _)
noncomputable def q1t (N : Nat) {R : Type} : OvG R := fun xs _ K => match xs with
 | [.d t0 a0, .d t1 a1, .d t2 a2] => if t0 = (.slice 32 x9) ∧ t1 = .str ∧ t2 = (.int .u64) then Y9 N a0 a1 a2 (fun d1 m1 => K (V.tup
 [V.d (Ty.int IntKind.u64) (dk d1 0), V.d Ty.bool (C.bool (C.toBool (dk d1 1))), V.d (Ty.int IntKind.i64) (dk d1 2)]) []) else none
 | _ => none
theorem q69 (N : Nat) {R : Type} : GOk (X0 gl0) 18 (q1t N (R := R)) := by
 intro xs A Kr r hr
 unfold q1t at hr
 split at hr
 ·simp only [Option.ite_none_right_eq_some] at hr
  obtain ⟨hty, hr⟩ := hr
  obtain ⟨rfl, rfl, rfl⟩ := hty
  rw [← q6t] at hr
  exact okA (q21 N) hr
 ·cases hr
end Go.Proofs.YtefppgmopnnphaaDoor
namespace Go.Proofs.YtefppgmopnnphaaDoor
open Go Go.E
set_option maxRecDepth 100000
set_option maxHeartbeats 1000000
set_option linter.unusedSimpArgs false
variable {R : Type} {N : Nat}
theorem cmp_eq (x y : C) (k : KD R) : Z9 N x y k = k [.int (cfS x.toStr y.toStr)] [] := by
 rw [q3r]
 unfold q0h cfS
 have hn : ∀ (z : C) (k : KD R), X6 N z k = k [.bool false] [] := fun z k => by
  rw [q37]
  unfold q0W
  simp
 simp only [hn, o9, o5, cond_false]
 generalize Op.bytesLess x.toStr y.toStr = l
 generalize (x.toStr == y.toStr) = q
 cases l <;> cases q <;> rfl
theorem z3C {n : List UInt8} : ∀ {s : List y7} {m : Nat} {x : y7}, Asc s → s[m]? = some x → (Op.bytesLess x.1 n = true ↔ m < x7 n s)
 | [], m, x, _, h => by simp at h
 | y :: s, m, x, ha, h => by
  have ha' := List.pairwise_cons.1 ha
  unfold x7
  cases m with
  | zero =>
   simp at h; subst h
   cases Op.bytesLess y.1 n <;> simp
  | succ m =>
   have hm : s[m]? = some x := by simpa using h
   have ih := z3C (n := n) ha'.2 hm
   cases hy : Op.bytesLess y.1 n with
   | true => simp only [cond_true]; rw [ih]; omega
   | false =>
    simp only [cond_false]
    constructor
    ·intro hx
     have := q5K _ _ _ (ha'.1 x (List.mem_of_getElem? hm)) hx
     rw [hy] at this; cases this
    ·intro h; omega
def q5l (s : List y7) (n : List UInt8) : Int × Bool × Int :=
 bif Q7 n s then (if (k9 s n).1 < (k9 s n).2 then ((k9 s n).2 - (k9 s n).1, true, 0) else ((k9 s n).1 - (k9 s n).2, false, 0)) else (0, false, 6)
theorem half (a b : Nat) (ha : a ≤ 1048576) (hb : b ≤ 1048576) : IntKind.i64.wrap (Int.fdiv (IntKind.u64.wrap (IntKind.i64.wrap ((a : Int) + (b : Int)))) (2 ^ min (Int.toNat 1) 64)) = (((a + b) / 2 : Nat) : Int) := by
 rw [IntWalk.i64_in ((a : Int) + (b : Int)) (by omega), wrap_u64 (by omega) (by omega)]
 rw [show (2 : Int) ^ min (Int.toNat 1) 64 = 2 from rfl, Int.fdiv_eq_ediv_of_nonneg _ (by omega), IntWalk.i64_in _ (by omega)]
 omega
theorem y4b (s : List y7) (nm : List UInt8) (hs : Asc s) (hl : s.length ≤ 1048576) (hN : 4398046511105 < N) (k : KD R) :
  Z6 N (F3 N k) [.slice (s.map y8), .str nm, .int (s.length : Int), .int 0, .int (s.length : Int)] [] = k [.slice (s.map y8), .str nm, .int (s.length : Int), .int (x7 nm s : Int)] [] := by
 have key := q6J (R := R) (ι := Nat × Nat) (F := F3 N k) (fun x => [.slice (s.map y8), .str nm, .int (s.length : Int), .int (x.1 : Int), .int (x.2 : Int)]) (fun _ => []) (fun x => x.2 - x.1)
  (fun x => x.1 ≤ x7 nm s ∧ x7 nm s ≤ x.2 ∧ x.2 ≤ s.length) (fun _ => k [.slice (s.map y8), .str nm, .int (s.length : Int), .int (x7 nm s : Int)] []) (fun x hx rec hrec => ?_) N (0, s.length) ⟨Nat.zero_le _, q3j _ _, Nat.le_refl _⟩ (by show s.length - 0 < N; omega)
 ·exact key
 ·obtain ⟨i, j⟩ := x
  obtain ⟨h1, h2, h3⟩ := hx
  dsimp only at h1 h2 h3 hrec ⊢
  unfold F3
  by_cases hij : i < j
  ·have hij' : (i : Int) < (j : Int) := by omega
   have hm : (i + j) / 2 < s.length := by omega
   have hm' : (0 : Int) ≤ (((i + j) / 2 : Nat) : Int) ∧ (((i + j) / 2 : Nat) : Int) < (s.length : Int) := by omega
   have hx := List.getElem?_eq_getElem hm
   generalize s[(i + j) / 2] = x at hx
   have hd : (s.map y8).getD ((i + j) / 2) C.nil = y8 x := H4 (by rw [List.getElem?_map, hx]; rfl)
   have hxs : ((y8 x).get 0).toStr = x.1 := rfl
   have hw : IntKind.i64.wrap ((((i + j) / 2 : Nat) : Int) + 1) = (((i + j) / 2 + 1 : Nat) : Int) := J2 (by omega)
   have hpos := z3C (n := nm) hs hx
   simp only [Z2, o9, c5, Y4, X9, W5, w8, r7, q8A, half i j (by omega) (by omega), hij', hm', List.length_map, decide_true, cond_true, and_self, if_true, Int.toNat_natCast, hd, hxs, cmp_eq, hw]
   unfold cfS
   cases hb : Op.bytesLess x.1 nm with
   | true =>
    have := hpos.1 hb
    have := hrec ((i + j) / 2 + 1, j) ⟨this, h2, h3⟩ (by dsimp only; omega)
    simpa using this
   | false =>
    have : ¬ (i + j) / 2 < x7 nm s := fun h => by rw [hpos.2 h] at hb; cases hb
    have := hrec (i, (i + j) / 2) ⟨h1, by omega, by omega⟩ (by dsimp only; omega)
    dsimp only at this
    simp only [Bool.false_or, Bool.false_eq_true, if_false]
    split <;> simpa using this
  ·have hij' : ¬ (i : Int) < (j : Int) := by omega
   have : i = x7 nm s := by omega
   subst this
   simp only [o9, c5, Y4, X9, W5, w8, hij', decide_false, cond_false]
theorem y2y (l : List C) (nm : List UInt8) (h : Int) (hw : ∀ x ∈ l, C.wf x9 x) (hl : l.length * 32 ≤ 140737488355328) (hc : q1v l ≤ 1048576) (hN : 4398046511105 < N) (k : KD R) :
  Y9 N (.slice l) (.str nm) (.int h) k = match q62 h [] l with
   | .inl s => k [.int (q5l (srt s) nm).1, .bool (q5l (srt s) nm).2.1, .int (q5l (srt s) nm).2.2] []
   | .inr _ => k [.int 0, .bool false, .int 11] [] := by
 rw [q20]
 unfold F2
 rw [z8l l h hw hl hc hN]
 cases hr : q62 h [] l with
 | inr e => simp [o9, c5, w8]
 | inl s0 =>
  have hk := z3w (s := []) z5g hw hr
  have hsl : (srt s0).length ≤ 1048576 := by rw [(q3c s0).length_eq]; have := hk.2; simp at this; omega
  have hasc := z3r hk.1
  have hgood : z0E (srt s0) := fun x hx => hk.1.1 x ((q3c s0).mem_iff.1 hx)
  dsimp only
  generalize srt s0 = s at hsl hasc hgood ⊢
  simp only [o9, c5, w8, r7, q8A, List.length_map, decide_true, Bool.not_true, cond_false]
  refine (q1F [.int (x7 nm s : Int), .bool (Q7 nm s)] [] fun k => ?_).trans ?_
  ·refine (q1F [.slice (s.map y8), .str nm, .int (s.length : Int), .int (x7 nm s : Int)] [] fun k => y4b s nm hasc hsl hN k).trans ?_
   simp only [Z2, o9, c5, Y4, X9, w8, r7, q8A, o5, List.length_map, Int.toNat_natCast, cmp_eq]
   have hp := q3j nm s
   cases hx : s[x7 nm s]? with
   | none =>
    have h5 : ¬ (x7 nm s : Int) < (s.length : Int) := by have := List.getElem?_eq_none_iff.1 hx; omega
    have ht : Q7 nm s = false := by unfold Q7; rw [hx]
    simp only [h5, ht, decide_false, cond_false]
   | some x =>
    have hlt := (List.getElem?_eq_some_iff.1 hx).1
    have h5 : (0 : Int) ≤ (x7 nm s : Int) ∧ (x7 nm s : Int) < (s.length : Int) := by omega
    have hd : (s.map y8).getD (x7 nm s) C.nil = y8 x := H4 (by rw [List.getElem?_map, hx]; rfl)
    have hxs : ((y8 x).get 0).toStr = x.1 := rfl
    have ht : Q7 nm s = (x.1 == nm) := by unfold Q7; rw [hx]
    have hnl : Op.bytesLess x.1 nm = false := by
     cases hb : Op.bytesLess x.1 nm with
     | false => rfl
     | true => have := (z3C (n := nm) hasc hx).1 hb; omega
    simp only [h5.2, h5, decide_true, cond_true, and_self, if_true, hd, hxs, ht]
    unfold cfS
    rw [hnl]
    cases x.1 == nm <;> simp
  ·simp only [o9, c5, w8, o5, Int.toNat_natCast]
   unfold q5l
   cases ht : Q7 nm s with
   | false => simp
   | true =>
    have hi : F6 nm s = s := by unfold F6; rw [ht]; rfl
    have hx := z1y (n := nm) hasc
    rw [hi] at hx
    have hlt := (List.getElem?_eq_some_iff.1 hx).1
    have h5 : (0 : Int) ≤ (x7 nm s : Int) ∧ (x7 nm s : Int) < (s.length : Int) := by omega
    have hd : (s.map y8).getD (x7 nm s) C.nil = y8 (nm, k9 s nm) := H4 (by rw [List.getElem?_map, hx]; rfl)
    have c1 : ((y8 (nm, k9 s nm)).get 1).toInt = (k9 s nm).1 := rfl
    have c2 : ((y8 (nm, k9 s nm)).get 2).toInt = (k9 s nm).2 := rfl
    obtain ⟨⟨g1, g2⟩, g3, g4⟩ := q3o (n := nm) hgood
    simp only [h5, and_self, if_true, hd, c1, c2, Bool.not_true, cond_false, cond_true]
    by_cases hq : (k9 s nm).1 < (k9 s nm).2
    ·simp only [hq, decide_true, cond_true, if_true, wrap_u64 (show 0 ≤ (k9 s nm).2 - (k9 s nm).1 by omega) (by omega)]
    ·simp only [hq, decide_false, cond_false, if_false, wrap_u64 (show 0 ≤ (k9 s nm).1 - (k9 s nm).2 by omega) (by omega)]
end Go.Proofs.YtefppgmopnnphaaDoor
namespace Go.Proofs.YtefppgmopnnphaaDoor
open Go Go.E
set_option maxRecDepth 100000
set_option maxHeartbeats 4000000
set_option linter.unusedSimpArgs false
variable {R : Type} {N : Nat}
theorem z4Y : ∀ l : List C, q1v l ≤ J7 l
 | [] => Nat.zero_le _
 | x :: l => by
  have ih := z4Y l
  have h1 := z3e (x.get 1).elems
  have h2 := z3c (x.get 1)
  have h3 := y30 x 1
  simp only [q1v, List.map_cons, List.sum_cons, J7] at ih ⊢
  omega
end Go.Proofs.YtefppgmopnnphaaDoor
namespace Go.Proofs.YtefppgmopnnphaaDoor
open Go Go.E
set_option maxRecDepth 100000
set_option maxHeartbeats 4000000
set_option linter.unusedVariables false
noncomputable def q7G : Hints := [([0, 0, 1, 1, 1, 1, 1], ⟨[1, 2, 7, 8, 9, 10, 11], [(46, .d .bool)], [], [], [], []⟩),
  ([1, 0, 1, 1, 1, 1, 1, 1, 1, 1], ⟨[2, 8, 10, 12, 13, 14, 15, 16], [(17, .d (.int .i64))], [], [], [], []⟩),
  ([1, 0, 1, 1, 1, 1, 1, 1, 1, 1, 1], ⟨[12, 13, 14], [(15, .d (.int .u64)), (16, .d .bool), (17, .d (.int .i64))], [], [], [], []⟩),
  ([4, 1, 0, 1, 1, 1, 1, 1, 1, 1, 1, 1], ⟨[2, 8, 10, 12, 13, 14, 59], [(15, .d (.int .u64)), (16, .d .bool), (17, .d (.int .i64)), (60, .d (.int .i64))], [], [], [], []⟩),
  ([0, 0, 1, 4, 0, 1, 1, 5, 4, 1, 0, 1, 1, 1, 1, 1, 1, 1, 1, 1], ⟨[2, 8, 10, 12, 13, 14, 15, 16, 17, 18, 59, 60], [(99, .d .bool)], [], [], [], []⟩),
  ([1, 1, 1, 4, 0, 1, 1, 5, 4, 1, 0, 1, 1, 1, 1, 1, 1, 1, 1, 1], ⟨[2, 8, 10, 12, 13, 14, 59, 60], [(15, .d (.int .u64)), (16, .d .bool), (17, .d (.int .i64))], [], [], [], []⟩),
  ([1, 1, 2, 1, 1, 1, 4, 0, 1, 1, 5, 4, 1, 0, 1, 1, 1, 1, 1, 1, 1, 1, 1], ⟨[2, 8, 10, 12, 13, 14, 17, 59, 60], [(15, .d (.int .u64)), (16, .d .bool)], [], [], [], []⟩),
  ([0, 1, 1, 1, 1, 1, 1, 1, 1, 1, 1], ⟨[], [(6, .d .bool)], [], [], [], []⟩),
  ([9], ⟨[], [(6, .d .bool)], [], [], [], []⟩)]
noncomputable def q3m (N : Nat) : OvS (X0 gl0) where
 g R := [(8, q5i N), (9, q5j N), (10, q8e N), (16, J5 N), (17, q5g N), (18, q1t N)]
 ok := fun R => List.forall_mem_cons.2 ⟨z3I N, List.forall_mem_cons.2 ⟨z3M N, List.forall_mem_cons.2 ⟨z8A N, List.forall_mem_cons.2 ⟨q2r N, List.forall_mem_cons.2 ⟨z3y N, List.forall_mem_cons.2 ⟨q69 N, fun _ h => nomatch h⟩⟩⟩⟩⟩⟩
noncomputable def W9 {R : Type} (N : Nat) (k1 : KD R) (d4 : List C) (k2 : KD R) : KD R → List C → List Es → Option R := (fun k3 d8 m8 => (bif decide (C.toInt (dk d8 10) < C.toInt (dk d8 6)) then (jn (fun d9 m9 => (bif C.toBool (dk d9 12) then (k1 [C.bool false] []) else (if 0 ≤ C.toInt (dk d9 9) ∧ C.toInt (dk d9 9) < (↑(Int.toNat (C.toInt (dk d9 2))) : Int) then (jn (fun d10 m10 => (if Ty.arr (List.length (C.elems (dk d4 2))) y5 = Ty.arr (List.length (C.elems (dk d4 2))) y5 then (k3 [dk d10 0, dk d10 1, C.int (↑(Int.toNat (C.toInt (dk d10 2))) : Int), dk d10 3, C.bool (C.toBool (dk d10 4)), dk d10 5, dk d10 6, dk d10 8, C.bool (C.toBool (dk d10 9)), dk d10 10, C.int (IntKind.wrap IntKind.i64 (C.toInt (dk d10 7) + 1)), dk d10 11] []) else none)) (fun k4 => (bif C.toStr (C.get (C.get (dk d9 13) (0 + Int.toNat (C.toInt (dk d9 9)))) 0) == C.toStr (dk d9 0) then (if 0 ≤ C.toInt (dk d9 9) ∧ C.toInt (dk d9 9) < (↑(Int.toNat (C.toInt (dk d9 2))) : Int) then (if 0 ≤ C.toInt (dk d9 9) ∧ C.toInt (dk d9 9) < (↑(Int.toNat (C.toInt (dk d9 2))) : Int) then (if 0 ≤ C.toInt (dk d9 9) ∧ C.toInt (dk d9 9) < (↑(Int.toNat (C.toInt (dk d9 2))) : Int) then (if 0 ≤ C.toInt (dk d9 9) ∧ C.toInt (dk d9 9) < (↑(Int.toNat (C.toInt (dk d9 2))) : Int) then (jn (fun d10 m10 => (if Ty.arr (List.length (C.elems (dk d4 2))) y5 = Ty.arr (List.length (C.elems (dk d4 2))) y5 then (k4 [dk d10 0, dk d10 1, C.int (↑(Int.toNat (C.toInt (dk d10 2))) : Int), dk d10 3, C.bool (C.toBool (dk d10 4)), dk d10 5, dk d10 7, dk d10 8, dk d10 9, C.bool (C.toBool (dk d10 10)), dk d10 6, dk d10 11] []) else none)) (fun k5 => (bif decide (C.toInt (C.get (C.get (dk d9 13) (0 + Int.toNat (C.toInt (dk d9 9)))) 1) < C.toInt (C.get (C.get (dk d9 13) (0 + Int.toNat (C.toInt (dk d9 9)))) 2)) then (if 0 ≤ C.toInt (dk d9 9) ∧ C.toInt (dk d9 9) < (↑(Int.toNat (C.toInt (dk d9 2))) : Int) then (if 0 ≤ C.toInt (dk d9 9) ∧ C.toInt (dk d9 9) < (↑(Int.toNat (C.toInt (dk d9 2))) : Int) then (if Ty.arr (List.length (C.elems (dk d4 2))) y5 = Ty.arr (List.length (C.elems (dk d4 2))) y5 then (k5 [dk d9 0, dk d9 1, C.int (↑(Int.toNat (C.toInt (dk d9 2))) : Int), dk d9 3, C.bool (C.toBool (dk d9 4)), dk d9 5, C.int 0, dk d9 10, dk d9 11, C.int (IntKind.wrap IntKind.u64 (C.toInt (C.get (C.get (dk d9 13) (0 + Int.toNat (C.toInt (dk d9 9)))) 2) - C.toInt (C.get (C.get (dk d9 13) (0 + Int.toNat (C.toInt (dk d9 9)))) 1))), C.bool true, dk d9 13] []) else none) else none) else none) else (if Ty.arr (List.length (C.elems (dk d4 2))) y5 = Ty.arr (List.length (C.elems (dk d4 2))) y5 then (k5 [dk d9 0, dk d9 1, C.int (↑(Int.toNat (C.toInt (dk d9 2))) : Int), dk d9 3, C.bool (C.toBool (dk d9 4)), dk d9 5, C.int 0, dk d9 10, dk d9 11, C.int (IntKind.wrap IntKind.u64 (C.toInt (C.get (C.get (dk d9 13) (0 + Int.toNat (C.toInt (dk d9 9)))) 1) - C.toInt (C.get (C.get (dk d9 13) (0 + Int.toNat (C.toInt (dk d9 9)))) 2))), C.bool false, dk d9 13] []) else none)))) else none) else none) else none) else none) else (if Ty.arr (List.length (C.elems (dk d4 2))) y5 = Ty.arr (List.length (C.elems (dk d4 2))) y5 then (k4 [dk d9 0, dk d9 1, C.int (↑(Int.toNat (C.toInt (dk d9 2))) : Int), dk d9 3, C.bool (C.toBool (dk d9 4)), dk d9 5, dk d9 10, dk d9 11, dk d9 6, C.bool (C.toBool (dk d9 7)), dk d9 8, dk d9 13] []) else none)))) else none))) (fun k4 => (if 0 ≤ C.toInt (dk d8 10) ∧ C.toInt (dk d8 10) < (↑(List.length (C.elems (dk d8 1))) : Int) then (if 0 ≤ C.toInt (dk d8 10) ∧ C.toInt (dk d8 10) < (↑(Int.toNat (C.toInt (dk d8 2))) : Int) then (bif !C.toStr (C.get (List.getD (C.elems (dk d8 1)) (Int.toNat (C.toInt (dk d8 10))) C.nil) 0) == C.toStr (C.get (C.get (dk d8 11) (0 + Int.toNat (C.toInt (dk d8 10)))) 0) then (if Ty.arr (List.length (C.elems (dk d4 2))) y5 = Ty.arr (List.length (C.elems (dk d4 2))) y5 then (k4 [dk d8 0, dk d8 1, C.int (↑(Int.toNat (C.toInt (dk d8 2))) : Int), dk d8 3, C.bool (C.toBool (dk d8 4)), dk d8 5, dk d8 7, C.bool (C.toBool (dk d8 8)), dk d8 9, dk d8 10, dk d8 6, dk d8 10, C.bool true, dk d8 11] []) else none) else (if 0 ≤ C.toInt (dk d8 10) ∧ C.toInt (dk d8 10) < (↑(List.length (C.elems (dk d8 1))) : Int) then (if 0 ≤ C.toInt (dk d8 10) ∧ C.toInt (dk d8 10) < (↑(Int.toNat (C.toInt (dk d8 2))) : Int) then (bif !decide (C.toInt (C.get (List.getD (C.elems (dk d8 1)) (Int.toNat (C.toInt (dk d8 10))) C.nil) 1) = C.toInt (C.get (C.get (dk d8 11) (0 + Int.toNat (C.toInt (dk d8 10)))) 1)) then (if Ty.arr (List.length (C.elems (dk d4 2))) y5 = Ty.arr (List.length (C.elems (dk d4 2))) y5 then (k4 [dk d8 0, dk d8 1, C.int (↑(Int.toNat (C.toInt (dk d8 2))) : Int), dk d8 3, C.bool (C.toBool (dk d8 4)), dk d8 5, dk d8 7, C.bool (C.toBool (dk d8 8)), dk d8 9, dk d8 10, dk d8 6, dk d8 10, C.bool true, dk d8 11] []) else none) else (if 0 ≤ C.toInt (dk d8 10) ∧ C.toInt (dk d8 10) < (↑(List.length (C.elems (dk d8 1))) : Int) then (if 0 ≤ C.toInt (dk d8 10) ∧ C.toInt (dk d8 10) < (↑(Int.toNat (C.toInt (dk d8 2))) : Int) then (if Ty.arr (List.length (C.elems (dk d4 2))) y5 = Ty.arr (List.length (C.elems (dk d4 2))) y5 then (k4 [dk d8 0, dk d8 1, C.int (↑(Int.toNat (C.toInt (dk d8 2))) : Int), dk d8 3, C.bool (C.toBool (dk d8 4)), dk d8 5, dk d8 7, C.bool (C.toBool (dk d8 8)), dk d8 9, dk d8 10, dk d8 6, dk d8 10, C.bool !decide (C.toInt (C.get (List.getD (C.elems (dk d8 1)) (Int.toNat (C.toInt (dk d8 10))) C.nil) 2) = C.toInt (C.get (C.get (dk d8 11) (0 + Int.toNat (C.toInt (dk d8 10)))) 2)), dk d8 11] []) else none) else none) else none)) else none) else none)) else none) else none))) else (k2 [dk d8 3, C.bool (C.toBool (dk d8 4)), dk d8 5, dk d8 7, C.bool (C.toBool (dk d8 8)), dk d8 9] [])))
noncomputable def q0c {R : Type} (N : Nat) (a0 a1 a2 : C) (k1 : KD R) : Option R := (q03 N a0 (fun d1 m1 => (bif !C.toBool (dk d1 0) then (q0m N (fun d2 m2 => (k1 [C.bool (C.toBool (dk d2 0))] []))) else (q2J N a0 (fun d2 m2 => (Q4 N (C.slice (C.elems (dk d2 0))) a1 (fun d3 m3 => (q02 N a0 a1 (fun d4 m4 => (jn (fun d5 m5 => (bif C.toBool (dk d5 7) then (k1 [C.bool false] []) else (Y9 N (dk d5 2) (dk d5 1) (dk d5 0) (fun d6 m6 => (jn (fun d7 m7 => (jn (fun d8 m8 => (jn (fun d9 m9 => (k1 [C.bool (C.toBool (dk d9 0))] [])) (fun k2 => (q0m N (fun d9 m9 => (bif C.toBool (dk d9 0) then (bif decide (C.toInt (dk d8 0) = C.toInt (dk d8 3)) then (bif C.toBool (dk d8 1) == C.toBool (dk d8 4) then (k2 [C.bool (decide (C.toInt (dk d8 2) = C.toInt (dk d8 5)))] []) else (k2 [C.bool false] [])) else (k2 [C.bool false] [])) else (k2 [C.bool false] []))))))) (fun k2 => (if Ty.arr (List.length (C.elems (dk d4 2))) y5 = Ty.arr (List.length (C.elems (dk d4 2))) y5 then (Z6 N (W9 N k1 d4 k2) [dk d7 0, dk d7 1, C.int (↑(Int.toNat (C.toInt (dk d7 2))) : Int), dk d7 3, C.bool (C.toBool (dk d7 4)), dk d7 5, C.int (↑(List.length (C.elems (dk d7 1))) : Int), dk d7 6, C.bool (C.toBool (dk d7 7)), dk d7 8, C.int 0, dk d7 9] []) else none)))) (fun k2 => (bif !decide (C.toInt (dk d5 6) = 0) then (if Ty.arr (List.length (C.elems (dk d4 2))) y5 = Ty.arr (List.length (C.elems (dk d4 2))) y5 then (k2 [dk d5 1, dk d5 3, C.int (↑(Int.toNat (C.toInt (dk d5 5))) : Int), dk d6 0, C.bool (C.toBool (dk d6 1)), dk d6 2, C.int 0, C.bool false, dk d5 4, dk d5 8] []) else none) else (if Ty.arr (List.length (C.elems (dk d4 2))) y5 = Ty.arr (List.length (C.elems (dk d4 2))) y5 then (k2 [dk d5 1, dk d5 3, C.int (↑(Int.toNat (C.toInt (dk d5 5))) : Int), dk d6 0, C.bool (C.toBool (dk d6 1)), dk d6 2, C.int 0, C.bool false, C.int 6, dk d5 8] []) else none)))))))) (fun k2 => (bif !decide (C.toInt (dk d3 1) = C.toInt (dk d4 1)) then (if Ty.arr (List.length (C.elems (dk d4 2))) y5 = Ty.arr (List.length (C.elems (dk d4 2))) y5 then (k2 [a1, a2, C.slice (C.elems (dk d2 0)), dk d3 0, dk d3 1, C.int (↑(Int.toNat (C.toInt (dk d4 0))) : Int), dk d4 1, C.bool true, dk d4 2] []) else none) else (if Ty.arr (List.length (C.elems (dk d4 2))) y5 = Ty.arr (List.length (C.elems (dk d4 2))) y5 then (k2 [a1, a2, C.slice (C.elems (dk d2 0)), dk d3 0, dk d3 1, C.int (↑(Int.toNat (C.toInt (dk d4 0))) : Int), dk d4 1, C.bool !decide ((↑(List.length (C.elems (dk d3 0))) : Int) = (↑(Int.toNat (C.toInt (dk d4 0))) : Int)), dk d4 2] []) else none)))))))))))))
noncomputable def U8 {R : Type} (N : Nat) : C → C → C → KD R → Option R := lid "" (q0c N)
theorem q3l {R : Type} (N : Nat) (a0 a1 a2 : C) (k : KD R) : U8 N a0 a1 a2 k = q0c N a0 a1 a2 k := by unfold U8; rw [F5]
theorem q68 {R : Type} (N : Nat) (a0 a1 a2 : C) (K : V → List (Key × O) → Option R) : exF (X0 gl0) ((q3m N).ov R) q2v noX (fun f => bif Nat.beq f 5 then q7G else []) N 400 8 5 [.d (.slice 32 x9) a0, .d (.int .u64) a1, .d .str a2] A0 K =
  U8 N a0 a1 a2 (fun d1 m1 => K (V.d Ty.bool (C.bool (C.toBool (dk d1 0)))) []) := by
 rw [q3l]
 exact (show _ = jn (fun d1 m1 => (K (V.d Ty.bool (C.bool (C.toBool (dk d1 0)))) [])) (q0c N a0 a1 a2) by kernel_rfl).trans (Z2 _ _)
noncomputable def q0v (N : Nat) {R : Type} : OvG R := fun xs _ K => match xs with
 | [.d t0 a0, .d t1 a1, .d t2 a2] => if t0 = (.slice 32 x9) ∧ t1 = (.int .u64) ∧ t2 = .str then U8 N a0 a1 a2 (fun d1 m1 => K (V.d Ty.bool (C.bool (C.toBool (dk d1 0)))) []) else none
 | _ => none
theorem q7F (N : Nat) {R : Type} : GOk (X0 gl0) 5 (q0v N (R := R)) := by
 intro xs A Kr r hr
 unfold q0v at hr
 split at hr
 ·simp only [Option.ite_none_right_eq_some] at hr
  obtain ⟨hty, hr⟩ := hr
  obtain ⟨rfl, rfl, rfl⟩ := hty
  rw [← q68] at hr
  exact okA (q3m N) hr
 ·cases hr
end Go.Proofs.YtefppgmopnnphaaDoor
namespace Go.Proofs.YtefppgmopnnphaaDoor
open Go Go.E
set_option maxRecDepth 100000
set_option maxHeartbeats 1000000
set_option linter.unusedSimpArgs false
variable {R : Type} {N : Nat}
def q6R (nm : List UInt8) (w : Int × Bool × Int) (x : y7) : Int × Bool × Int :=
 if x.1 = nm then (if x.2.1 < x.2.2 then (x.2.2 - x.2.1, true, 0) else (x.2.1 - x.2.2, false, 0)) else w
theorem z4N (nm : List UInt8) : ∀ (s : List y7) (w : Int × Bool × Int), (s.map (·.1)).Nodup → s.foldl (q6R nm) w = if nm ∈ s.map (·.1) then (if (k9 s nm).1 < (k9 s nm).2 then ((k9 s nm).2 - (k9 s nm).1, true, 0) else ((k9 s nm).1 - (k9 s nm).2, false, 0)) else w
 | [], w, _ => by simp
 | x :: s, w, h => by
  simp only [List.map_cons, List.nodup_cons] at h
  rw [List.foldl_cons, z4N nm s _ h.2]
  unfold q6R
  by_cases e : x.1 = nm
  ·have h1 : nm ∉ s.map (·.1) := e ▸ h.1
   have h2 : k9 (x :: s) nm = x.2 := by unfold k9; rw [if_pos e.symm]
   rw [if_neg h1, if_pos e, if_pos (show nm ∈ (x :: s).map (·.1) by rw [List.map_cons, e]; exact List.mem_cons_self), h2]
  ·have h2 : k9 (x :: s) nm = k9 s nm := by
    conv => lhs; unfold k9
    rw [if_neg (fun h => e h.symm)]
   rw [h2, if_neg e]
   by_cases h1 : nm ∈ s.map (·.1)
   ·rw [if_pos h1, if_pos (show nm ∈ (x :: s).map (·.1) from List.mem_cons_of_mem _ h1)]
   ·rw [if_neg h1, if_neg (by
     simp only [List.map_cons, List.mem_cons, not_or]
     exact ⟨fun h => e h.symm, h1⟩)]
theorem y2M {n : List UInt8} {s : List y7} (h : Asc s) (ht : Q7 n s = false) : n ∉ s.map (·.1) := by
 obtain ⟨q1, q2⟩ := q6w n h
 intro hm
 obtain ⟨x, hx', e⟩ := List.mem_map.1 hm
 have e : x.1 = n := e
 rw [← List.take_append_drop (x7 n s) s] at hx'
 rcases List.mem_append.1 hx' with hx' | hx'
 ·have := q1 x hx'; rw [e, q2y] at this; cases this
 ·cases hd : s.drop (x7 n s) with
  | nil => rw [hd] at hx'; cases hx'
  | cons y r =>
   have hy : s[x7 n s]? = some y := by
    have : (s.drop (x7 n s))[0]? = some y := by rw [hd]; rfl
    rw [List.getElem?_drop] at this
    simpa using this
   unfold Q7 at ht
   rw [hy] at ht
   have hne : y.1 ≠ n := by simpa using ht
   rw [hd] at hx' q2
   have hyl := q2 y (by simp)
   rcases List.mem_cons.1 hx' with rfl | hx'
   ·exact hne e
   ·have hasc : Asc (s.take (x7 n s) ++ y :: r) := by rw [← hd, List.take_append_drop]; exact h
    have := y2r hasc hx'
    rw [e, hyl] at this; cases this
theorem y2N {s : List y7} (nm : List UInt8) (h : Asc s) : s.foldl (q6R nm) (0, false, 6) = q5l s nm := by
 rw [z4N nm s _ (y2q h)]
 unfold q5l
 cases ht : Q7 nm s with
 | false => rw [if_neg (y2M h ht)]; rfl
 | true =>
  have : nm ∈ s.map (·.1) := by
   unfold Q7 at ht
   cases hx : s[x7 nm s]? with
   | none => rw [hx] at ht; cases ht
   | some x =>
    rw [hx] at ht
    have : x.1 = nm := by simpa using ht
    exact this ▸ List.mem_map_of_mem (List.mem_of_getElem? hx)
  rw [if_pos this]; rfl
theorem z3m (s : List y7) (nm : List UInt8) (a b g : Int) (lb : Bool) (w0 : Int × Bool × Int) (hg : z0E s) (hl : s.length ≤ 1048576) (hN : 4398046511105 < N) (k1 k2 : KD R) (d4 : List C) :
  Z6 N (W9 N k1 d4 k2) [.str nm, .slice (s.map y8), .int (s.length : Int), .int a, .bool lb, .int g, .int (s.length : Int), .int w0.1, .bool w0.2.1, .int w0.2.2, .int 0, .agg (s.map y8)] [] =
   k2 [.int a, .bool lb, .int g, .int (s.foldl (q6R nm) w0).1, .bool (s.foldl (q6R nm) w0).2.1, .int (s.foldl (q6R nm) w0).2.2] [] := by
 have key := q5C (ε := Unit) (N := N) (F := W9 N k1 d4 k2) (fun i (w : Int × Bool × Int) => [.str nm, .slice (s.map y8), .int (s.length : Int), .int a, .bool lb, .int g, .int (s.length : Int), .int w.1, .bool w.2.1, .int w.2.2, .int (i : Int), .agg (s.map y8)]) (fun _ _ => []) s
   (fun _ w x => .inl (q6R nm w x)) (fun w => k2 [.int a, .bool lb, .int g, .int w.1, .bool w.2.1, .int w.2.2] []) (fun _ => none) (s0 := w0)
   (fun i w x hx hi rec => by
    have h1 : (0 : Int) ≤ (i : Int) ∧ (i : Int) < (s.length : Int) := by omega
    have hd : (s.map y8).getD i C.nil = y8 x := H4 (by rw [List.getElem?_map, hx]; rfl)
    have hx2 : (C.agg (s.map y8)).get (0 + i) = y8 x := by
     simp only [C.get, Nat.zero_add]
     exact hd
    have h3 : IntKind.i64.wrap ((i : Int) + 1) = ((i + 1 : Nat) : Int) := J2 (by omega)
    have c0 : ((y8 x).get 0).toStr = x.1 := rfl
    have c1 : ((y8 x).get 1).toInt = x.2.1 := rfl
    have c2 : ((y8 x).get 2).toInt = x.2.2 := rfl
    obtain ⟨⟨g1, g2⟩, g3, g4⟩ := hg x (List.mem_of_getElem? hx)
    unfold W9
    simp only [o9, c5, Y4, X9, W5, H8, q0I, q2w, q3f, q8w, z0y, z0x, w8, o5, r7, q8A, List.length_map, Int.toNat_natCast, h1.2, decide_true, cond_true]
    refine (q1F [.str nm, .slice (s.map y8), .int (s.length : Int), .int a, .bool lb, .int g, .int w.1, .bool w.2.1, .int w.2.2, .int (i : Int), .int (s.length : Int), .int (i : Int), .bool false, .agg (s.map y8)] [] fun k => ?_).trans ?_
    ·simp only [h1, and_self, if_true, hd, hx2, c0, c1, c2, beq_self_eq_true, decide_true, Bool.not_true, cond_false]
    simp only [o9, c5, Y4, X9, W5, H8, q0I, q2w, q3f, q8w, z0y, z0x, y62, y61, w8, o5, r7, q8A, Int.toNat_natCast, cond_false, h1, and_self, if_true, hx2, c0, c1, c2]
    simp only [Z2]
    unfold q6R
    by_cases e : x.1 = nm
    ·by_cases q : x.2.1 < x.2.2
     ·simp [e, q, o9, c5, Y4, X9, W5, H8, q0I, q2w, q3f, q8w, z0y, z0x, w8, o5, h3, wrap_u64 (show 0 ≤ x.2.2 - x.2.1 by omega) (by omega)]
     ·simp [e, q, o9, c5, Y4, X9, W5, H8, q0I, q2w, q3f, q8w, z0y, z0x, w8, o5, h3, wrap_u64 (show 0 ≤ x.2.1 - x.2.2 by omega) (by omega)]
    ·have e' : (x.1 == nm) = false := by simpa using e
     simp [e, e', o9, c5, Y4, X9, W5, H8, q0I, q2w, q3f, q8w, z0y, z0x, w8, o5, h3])
   (fun w rec => by
    unfold W9
    simp only [o9, c5, Y4, X9, W5, H8, q0I, q2w, q3f, q8w, z0y, z0x, w8, o5, Int.lt_irrefl, decide_false, cond_false]) (by omega)
 rw [q5y] at key
 exact key
theorem z3n (l : List C) (h : Int) (nm : List UInt8) (hw : ∀ x ∈ l, C.wf x9 x) (hl : l.length * 32 ≤ 140737488355328) (hc : q1v l ≤ 1048576) (hN : 140737488355329 < N) (k : KD R) : U8 N (.slice l) (.int h) (.str nm) k = k [.bool true] [] := by
 have N2 : 4398046511105 < N := by omega
 rw [q3l]
 unfold q0c
 rw [z3L l hw hl N2]
 simp only [o9, o5]
 cases y1G l with
 | false => simp [z1H, o9, o5]
 | true =>
  simp only [Bool.not_true, cond_false, z8D l hw hl N2, o9, r7]
  rw [z8l l h hw hl hc N2]
  cases hr : q62 h [] l with
  | inr e =>
   simp only [z4q l h hw hl hc N2, hr, o9, c5, Y4, w8, r7, List.length_nil, decide_true, Bool.not_true, cond_false, Int.toNat_zero, Int.reduceEq]
   have hH := fun (k : KD R) => y2y l nm h hw hl hc N2 k
   rw [hr] at hH
   simp only at hH
   refine (q1F [.int h, .str nm, .slice l, .slice [], .int 11, .int 0, .int 11, .bool false, .agg []] [] fun k => ?_).trans ?_
   ·simp [w8]
   simp only [o9, c5, Y4, X9, W5, H8, q0I, q2w, q3f, w8, o5, r7, Int.toNat_zero, cond_false, hH]
   refine (q1F [.str nm, .slice [], .int 0, .int 0, .bool false, .int 11, .int 0, .bool false, .int 11, .agg []] [] fun k => ?_).trans ?_
   ·simp [w8, o5, o9, c5, Y4]
   simp only [o9, c5, Y4, X9, W5, H8, q0I, q2w, q3f, q8w, w8, o5, r7, List.length_nil, Int.toNat_zero, if_true]
   refine (q1F _ _ fun k => z3m [] nm 0 0 11 false (0, false, 11) (fun x hx => by cases hx) (Nat.zero_le _) N2 _ k _).trans ?_
   simp only [List.foldl_nil, Z2, z1H, o9, c5, Y4, X9, W5, H8, w8, o5, decide_true, cond_true, beq_self_eq_true]
  | inl s0 =>
   have hk := z3w (s := []) z5g hw hr
   have hsl : (srt s0).length ≤ 1048576 := by rw [(q3c s0).length_eq]; have := hk.2; simp at this; omega
   have hasc := z3r hk.1
   have hgood : z0E (srt s0) := fun x hx => hk.1.1 x ((q3c s0).mem_iff.1 hx)
   have hH := fun (k : KD R) => y2y l nm h hw hl hc N2 k
   rw [hr] at hH
   simp only [z4q l h hw hl hc N2, hr] at hH ⊢
   generalize srt s0 = s at hsl hasc hgood hH ⊢
   simp only [o9, c5, Y4, w8, r7, List.length_map, Int.toNat_natCast, decide_true, Bool.not_true, cond_false]
   refine (q1F [.int h, .str nm, .slice l, .slice (s.map y8), .int 0, .int (s.length : Int), .int 0, .bool false, .agg (s.map y8)] [] fun k => ?_).trans ?_
   ·simp only [if_true]
   simp only [o9, c5, Y4, X9, W5, H8, q0I, q2w, q3f, w8, o5, r7, Int.toNat_natCast, cond_false, hH]
   refine (q1F [.str nm, .slice (s.map y8), .int (s.length : Int), .int (q5l s nm).1, .bool (q5l s nm).2.1, .int (q5l s nm).2.2, .int 0, .bool false, .int 6, .agg (s.map y8)] [] fun k => ?_).trans ?_
   ·simp only [decide_true, Bool.not_true, cond_false, if_true]
   simp only [o9, c5, Y4, X9, W5, H8, q0I, q2w, q3f, q8w, w8, o5, r7, List.length_map, Int.toNat_natCast, if_true]
   refine (q1F _ _ fun k => z3m s nm (q5l s nm).1 0 (q5l s nm).2.2 (q5l s nm).2.1 (0, false, 6) hgood hsl N2 _ k _).trans ?_
   rw [y2N nm hasc]
   simp only [Z2, z1H, o9, c5, Y4, X9, W5, H8, w8, o5, decide_true, cond_true, beq_self_eq_true]
theorem z1h (A : Key → Option O) (l h nm : C) (hb : J7 [l, h, nm] ≤ 1048576) : c4 (X0 gl0) 5 [.d (.slice 32 x9) l, .d (.int .u64) h, .d .str nm] A (.d .bool (.bool true)) [] := by
 refine y2e (ts := [.slice 32 x9, .int .u64, .str]) (cs := [l, h, nm]) fun W => ?_
 have h0 := W 0 _ _ rfl rfl
 have h1 := W 1 _ _ rfl rfl
 have h2 := W 2 _ _ rfl rfl
 simp only [C.wf] at h0 h1 h2
 refine y58 (q7F 140737488355330) ?_
 show q0v 140737488355330 [.d (.slice 32 x9) l, .d (.int .u64) h, .d .str nm] A kR = _
 simp only [q0v, and_self, if_true]
 have hc : q1v l.elems ≤ 1048576 := by
  have q1 := z4Y l.elems
  have q2 := z3c l
  simp only [J7] at hb
  omega
 rw [h0.1, h1.1, h2.1, z3n l.elems h.toInt nm.toStr h0.2.2.2 h0.2.1 hc (by omega)]
 rfl
end Go.Proofs.YtefppgmopnnphaaDoor
