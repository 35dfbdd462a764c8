/-
 What the functions on the way compute, part 3.
 Conditions: none.
-/
import Derived.Test.YtefppgmopnnphaaDoorKb
set_option linter.all false
namespace Go.Proofs.YtefppgmopnnphaaDoor
open Go Go.E
set_option maxRecDepth 100000
set_option maxHeartbeats 4000000
set_option linter.unusedVariables false
noncomputable def q7H : Hints := [([1, 0, 1, 1], ⟨[6], [], [], [], [], []⟩),
  ([4, 1, 0, 1, 1], ⟨[1, 6, 18, 19], [(20, .d (.int .i64))], [], [], [], []⟩),
  ([0, 1, 1, 5, 4, 1, 0, 1, 1], ⟨[1, 6, 18, 19, 20], [], [], [], [], []⟩),
  ([1, 1, 1, 4, 0, 1, 1, 5, 4, 1, 0, 1, 1], ⟨[1, 6, 18, 19, 20], [], [], [], [], []⟩),
  ([4, 1, 1, 1, 4, 0, 1, 1, 5, 4, 1, 0, 1, 1], ⟨[1, 6, 18, 19, 20, 29, 30], [(31, .d (.int .i64))], [], [], [], []⟩),
  ([1, 0, 1, 1, 1, 1], ⟨[], [(14, .sl 32 x8 5014)], [], [], [], []⟩),
  ([4, 1, 0, 1, 1, 1, 1], ⟨[67], [(14, .sl 32 x8 5014)], [], [], [], []⟩),
  ([9], ⟨[], [(4, .d (.slice 32 x8)), (5, .d (.int .i64))], [], [], [], []⟩),
  ([0, 1, 4, 0, 1, 1, 5, 4, 1, 1, 1, 4, 0, 1, 1, 5, 4, 1, 0, 1, 1], ⟨[1, 6, 10, 18, 19, 20, 29, 30, 31], [(11, .as (.ptr (.l 11) [] x8))], [], [(.l 11, .box (.d x8))], [], []⟩)]
noncomputable def q3f (N : Nat) : OvS (X0 gl0) where
 g R := [(30, q5P N), (77, q1y N), (63, q1V N), (64, q1T N), (33, q2p N)]
 ok := fun R => List.forall_mem_cons.2 ⟨z1t N, List.forall_mem_cons.2 ⟨q7f N, List.forall_mem_cons.2 ⟨q6h N, List.forall_mem_cons.2 ⟨q6f N, List.forall_mem_cons.2 ⟨q9w N, fun _ h => nomatch h⟩⟩⟩⟩⟩
noncomputable def W5 {R : Type} (N : Nat) (k1 : KD R) (k5 : KD R) : KD R → List C → List Es → Option R := (fun k6 d2 m2 => (bif decide (C.toInt (dk d2 6) < C.toInt (dk d2 5)) then (if 0 ≤ C.toInt (dk d2 6) ∧ C.toInt (dk d2 6) < (↑(List.length (C.elems (dk d2 4))) : Int) then (jn (fun d3 m3 => (bif C.toBool (C.get (dk d3 8) 2) then (q0p N (C.get (C.set (dk d3 7) 0 (C.get (dk d3 8) 0)) 2) (C.get (dk d3 8) 1) (fun d4 m4 => (bif !decide (C.toInt (dk d4 1) = 0) then (k1 [C.slice [], dk d4 1] []) else (if q2T x8 (q5M (dE x8 (dm m3 0)) (C.get (dk d3 8) 0) (V.d x8 (C.set (C.set (dk d3 7) 0 (C.get (dk d3 8) 0)) 2 (dk d4 0)))) = true then (k6 [dk d3 0, dk d3 1, dk d3 2, dk d3 3, dk d3 4, dk d3 5, C.int (IntKind.wrap IntKind.i64 (C.toInt (dk d3 6) + 1))] [unE (q5M (dE x8 (dm m3 0)) (C.get (dk d3 8) 0) (V.d x8 (C.set (C.set (dk d3 7) 0 (C.get (dk d3 8) 0)) 2 (dk d4 0))))]) else none)))) else (q0p N (C.get (C.set (dk d3 7) 0 (C.get (dk d3 8) 0)) 1) (C.get (dk d3 8) 1) (fun d4 m4 => (bif !decide (C.toInt (dk d4 1) = 0) then (k1 [C.slice [], dk d4 1] []) else (if q2T x8 (q5M (dE x8 (dm m3 0)) (C.get (dk d3 8) 0) (V.d x8 (C.set (C.set (dk d3 7) 0 (C.get (dk d3 8) 0)) 1 (dk d4 0)))) = true then (k6 [dk d3 0, dk d3 1, dk d3 2, dk d3 3, dk d3 4, dk d3 5, C.int (IntKind.wrap IntKind.i64 (C.toInt (dk d3 6) + 1))] [unE (q5M (dE x8 (dm m3 0)) (C.get (dk d3 8) 0) (V.d x8 (C.set (C.set (dk d3 7) 0 (C.get (dk d3 8) 0)) 1 (dk d4 0))))]) else none)))))) (fun k7 => (bif q0b x8 (dE x8 (dm m2 0)) then (bif z0d (dE x8 (dm m2 0)) (C.get (List.getD (C.elems (dk d2 4)) (Int.toNat (C.toInt (dk d2 6))) C.nil) 0) then (if q2T x8 (dE x8 (dm m2 0)) = true then (k7 [dk d2 0, dk d2 1, dk d2 2, dk d2 3, dk d2 4, dk d2 5, dk d2 6, z3V (dE x8 (dm m2 0)) (C.get (List.getD (C.elems (dk d2 4)) (Int.toNat (C.toInt (dk d2 6))) C.nil) 0), List.getD (C.elems (dk d2 4)) (Int.toNat (C.toInt (dk d2 6))) C.nil] [unE (dE x8 (dm m2 0))]) else none) else (if q2T x8 (dE x8 (dm m2 0)) = true then (k7 [dk d2 0, dk d2 1, dk d2 2, dk d2 3, dk d2 4, dk d2 5, dk d2 6, C.agg [C.str [], C.int 0, C.int 0], List.getD (C.elems (dk d2 4)) (Int.toNat (C.toInt (dk d2 6))) C.nil] [unE (dE x8 (dm m2 0))]) else none)) else none))) else none) else (if q2T x8 (dE x8 (dm m2 0)) = true then (k5 [dk d2 0, dk d2 1, dk d2 2, dk d2 3] [unE (dE x8 (dm m2 0))]) else none)))
noncomputable def W4 {R : Type} (N : Nat) (k1 : KD R) (k2 : KD R) : KD R → List C → List Es → Option R := (fun k3 d1 m1 => (bif decide (C.toInt (dk d1 3) < C.toInt (dk d1 2)) then (jn (fun d2 m2 => (if q2T x8 (dE x8 (dm m2 0)) = true then (k3 [dk d2 0, dk d2 1, dk d2 2, C.int (IntKind.wrap IntKind.i64 (C.toInt (dk d2 3) + 1))] [unE (dE x8 (dm m2 0))]) else none)) (fun k4 => (if 0 ≤ C.toInt (dk d1 3) ∧ C.toInt (dk d1 3) < (↑(List.length (C.elems (dk d1 1))) : Int) then (bif decide (C.toInt (dk d1 0) < C.toInt (C.get (List.getD (C.elems (dk d1 1)) (Int.toNat (C.toInt (dk d1 3))) C.nil) 0)) then (if q2T x8 (dE x8 (dm m1 0)) = true then (k4 [dk d1 0, dk d1 1, dk d1 2, dk d1 3] [unE (dE x8 (dm m1 0))]) else none) else (jn (fun d2 m2 => (if q2T x8 (dE x8 (dm m2 0)) = true then (k4 [dk d2 0, dk d2 1, dk d2 2, dk d2 3] [unE (dE x8 (dm m2 0))]) else none)) (fun k5 => (if q2T x8 (dE x8 (dm m1 0)) = true then (c4 N (W5 N k1 k5) [dk d1 0, dk d1 1, dk d1 2, dk d1 3, C.get (List.getD (C.elems (dk d1 1)) (Int.toNat (C.toInt (dk d1 3))) C.nil) 1, C.int (↑(List.length (C.elems (C.get (List.getD (C.elems (dk d1 1)) (Int.toNat (C.toInt (dk d1 3))) C.nil) 1))) : Int), C.int 0] [unE (dE x8 (dm m1 0))]) else none)))) else none))) else (if q2T x8 (dE x8 (dm m1 0)) = true then (k2 [] [unE (dE x8 (dm m1 0))]) else none)))
noncomputable def F2 {R : Type} (N : Nat) (a0 a1 : C) (k1 : KD R) : Option R := (jn (fun d1 m1 => (if Ty.str = Ty.str ∧ x8 = x8 ∧ q2T x8 (dE x8 (dm m1 0)) = true then (bif okL (unE (dE x8 (dm m1 0))) then (k1 [C.slice (q5J (unE (dE x8 (dm m1 0)))), C.int 0] []) else none) else none)) (fun k2 => (c4 N (W4 N k1 k2) [a1, a0, C.int (↑(List.length (C.elems a0)) : Int), C.int 0] [unE []])))
noncomputable def X1 {R : Type} (N : Nat) : C → C → KD R → Option R := lid "" (F2 N)
theorem q3e {R : Type} (N : Nat) (a0 a1 : C) (k : KD R) : X1 N a0 a1 k = F2 N a0 a1 k := by unfold X1; rw [Q9]
theorem q6U {R : Type} (N : Nat) (a0 a1 : C) (K : V → List (Key × O) → Option R) : y61 (X0 gl0) ((q3f N).ov R) J9 (fun f r => bif Nat.beq f 16 then (bif Nat.beq r 15 then [(53, 7)] else []) else bif Nat.beq f 32 then (bif Nat.beq r 0 then [(2, 5), (3, 5)] else []) else []) (fun f => bif Nat.beq f 16 then q7H else bif Nat.beq f 31 then [([9], ⟨[], [], [], [], [], []⟩)] else bif Nat.beq f 46 then [([4, 1, 1], ⟨[0, 4], [(1, .d (.int .i64)), (2, .d (.int .i64)), (3, .d (.int .i64)), (10, .d .bool), (11, .d .bool)], [], [], [], []⟩), ([5, 4, 1, 1], ⟨[0, 4], [(1, .d (.int .i64)), (2, .d (.int .i64)), (3, .d (.int .i64)), (10, .d .bool), (11, .d .bool)], [], [], [], []⟩), ([1, 0, 1, 1, 1, 4, 5, 4, 1, 1], ⟨[0, 1, 2, 4, 10, 11, 12], [(3, .d (.int .i64))], [], [], [], []⟩), ([1, 0, 1, 1, 1, 1, 1, 4, 5, 4, 1, 1], ⟨[0, 1, 2, 3, 4, 10, 11, 12], [(13, .d (.int .i64)), (14, .d (.int .i64))], [], [], [], []⟩), ([0, 0, 1, 1, 1, 1, 1, 1, 4, 5, 4, 1, 1], ⟨[0, 1, 2, 3, 4, 10, 11, 12, 13], [(75, .d .bool)], [], [], [], []⟩), ([1, 0, 1, 1, 1, 1, 1, 1, 4, 5, 4, 1, 1], ⟨[0, 1, 2, 3, 4, 10, 11, 12, 13], [], [], [], [], []⟩), ([0, 0, 1, 1, 1, 1, 1, 1, 1, 4, 5, 4, 1, 1], ⟨[0, 1, 2, 3, 4, 10, 11, 12, 13], [(97, .d .bool)], [], [], [], []⟩), ([1, 1, 1, 1, 1, 1, 1, 1, 1, 1, 1, 1, 1, 4, 5, 4, 1, 1], ⟨[0, 3, 4, 11], [(1, .d (.int .i64)), (2, .d (.int .i64)), (10, .d .bool)], [], [], [], []⟩), ([9], ⟨[], [], [], [], [], []⟩)] else bif Nat.beq f 55 then [([1], ⟨[], [], [], [], [], []⟩), ([4, 1], ⟨[0, 1, 2, 3], [(8, .d (.int .i64))], [], [], [], []⟩), ([1, 4, 0, 1, 5, 4, 1], ⟨[0, 1, 2, 3, 8], [], [], [], [], []⟩), ([4, 1, 4, 0, 1, 5, 4, 1], ⟨[0, 1, 2, 3, 8], [(9, .d (.int .i64))], [], [], [], []⟩), ([0, 0, 5, 4, 1, 4, 0, 1, 5, 4, 1], ⟨[0, 1, 2, 3, 8, 9], [(34, .d .bool)], [], [], [], []⟩), ([9], ⟨[], [], [], [], [], []⟩)] else bif Nat.beq f 56 then [([1, 0, 1, 1, 1], ⟨[0, 3, 8, 9, 10], [], [], [], [], []⟩), ([4, 1, 0, 1, 1, 1], ⟨[0, 3, 8, 9, 10], [(11, .d (.int .i64))], [], [], [], []⟩), ([1, 1, 1, 1, 1], ⟨[], [], [], [], [], []⟩), ([4, 1, 1, 1, 1, 1], ⟨[0, 3, 8, 9], [(12, .d (.int .i64))], [], [], [], []⟩), ([9], ⟨[], [], [], [], [], []⟩)] else bif Nat.beq f 76 then [([1], ⟨[], [], [], [], [], []⟩), ([4, 1], ⟨[0, 2, 3, 4], [(10, .d (.int .i64))], [], [], [], []⟩), ([0, 0, 1, 1, 4, 5, 4, 1], ⟨[0, 2, 3, 4, 10, 11], [(40, .d .bool)], [], [], [], []⟩), ([1, 0, 1, 1, 4, 5, 4, 1], ⟨[0, 2, 3, 4, 10], [(11, .d (.int .i64))], [], [], [], []⟩), ([9], ⟨[], [], [], [], [], []⟩)] else bif Nat.beq f 57 then [([1, 1], ⟨[], [], [], [], [], []⟩), ([1, 1, 1, 2, 1, 1], ⟨[], [], [], [], [], []⟩), ([4, 1, 1, 1, 2, 1, 1], ⟨[0, 1, 8, 9, 10], [(11, .d (.int .i64))], [], [], [], []⟩), ([1, 0, 1, 4, 0, 1, 5, 4, 1, 1, 1, 2, 1, 1], ⟨[0, 1, 8, 9, 10, 11], [(12, .d (.int .i64))], [], [], [], []⟩), ([9], ⟨[], [], [], [], [], []⟩)] else bif Nat.beq f 78 then [([9], ⟨[0], [(2, .d (.int .u64))], [], [], [], []⟩)] else bif Nat.beq f 58 then [([1, 0, 1, 1, 1, 1, 1, 1], ⟨[11], [(13, .d (.int .i64))], [], [], [], []⟩), ([1, 0, 2, 1, 0, 1, 1, 1, 1, 1, 1], ⟨[0, 3, 11], [(12, .d (.int .i64)), (13, .d (.int .i64)), (14, .d (.int .i64))], [], [], [], []⟩), ([9], ⟨[], [(8, .d (.int .i64)), (9, .d (.int .i64))], [], [], [], []⟩)] else bif Nat.beq f 79 then [([9], ⟨[2], [(8, .d (.int .i64))], [], [], [], []⟩)] else bif Nat.beq f 80 then [([9], ⟨[4], [(12, .d (.int .i64))], [], [], [], []⟩)] else bif Nat.beq f 91 then [([9], ⟨[3], [(10, .d (.int .i64)), (11, .d (.int .i64))], [], [], [], []⟩)] else bif Nat.beq f 59 then [([1, 1], ⟨[], [], [], [], [], []⟩), ([4, 1, 1], ⟨[0], [(8, .d (.int .i64)), (9, .d (.int .i64))], [], [], [], []⟩), ([9], ⟨[], [], [], [], [], []⟩)] else bif Nat.beq f 60 then [([1, 0, 1, 1], ⟨[], [], [], [], [], []⟩), ([4, 1, 0, 1, 1], ⟨[0, 1, 2, 3], [(9, .d (.int .i64)), (10, .d (.int .i64))], [], [], [], []⟩), ([0, 4, 0, 1, 5, 4, 1, 0, 1, 1], ⟨[0, 1, 2, 3, 10], [(9, .d (.int .i64))], [], [], [], []⟩), ([4, 0, 4, 0, 1, 5, 4, 1, 0, 1, 1], ⟨[0, 1, 2, 3, 10], [(9, .d (.int .i64))], [], [], [], []⟩), ([0, 0, 5, 4, 0, 4, 0, 1, 5, 4, 1, 0, 1, 1], ⟨[0, 1, 2, 3, 9, 10], [(36, .d .bool)], [], [], [], []⟩), ([1, 0, 1, 1, 1, 1, 4, 0, 1, 5, 4, 1, 0, 1, 1], ⟨[0, 1, 2, 3, 9, 10], [], [], [], [], []⟩), ([1, 2, 1, 0, 1, 1, 1, 1, 4, 0, 1, 5, 4, 1, 0, 1, 1], ⟨[0, 1, 2, 3, 9, 10], [], [], [], [], []⟩), ([4, 1, 2, 1, 0, 1, 1, 1, 1, 4, 0, 1, 5, 4, 1, 0, 1, 1], ⟨[0, 1, 2, 3, 9, 10], [(11, .d (.int .i64))], [], [], [], []⟩), ([1, 1, 1, 1, 1, 1, 4, 0, 1, 5, 4, 1, 0, 1, 1], ⟨[0, 1, 2, 3, 9, 10], [], [], [], [], []⟩), ([1, 2, 1, 1, 1, 1, 1, 1, 4, 0, 1, 5, 4, 1, 0, 1, 1], ⟨[0, 1, 2, 3, 9, 10], [], [], [], [], []⟩), ([4, 1, 2, 1, 1, 1, 1, 1, 1, 4, 0, 1, 5, 4, 1, 0, 1, 1], ⟨[0, 1, 2, 3, 9, 10], [(12, .d (.int .i64))], [], [], [], []⟩), ([9], ⟨[], [(8, .d .bool)], [], [], [], []⟩)] else bif Nat.beq f 61 then [([0, 1, 1, 1], ⟨[], [(11, .d (.int .i64))], [], [], [], []⟩), ([4, 0, 1, 1, 1], ⟨[0, 1, 4], [(11, .d (.int .i64)), (12, .d (.int .i64))], [], [], [], []⟩), ([0, 4, 5, 4, 0, 1, 1, 1], ⟨[0, 1, 4, 12], [(11, .d (.int .i64))], [], [], [], []⟩), ([4, 0, 4, 5, 4, 0, 1, 1, 1], ⟨[0, 1, 4, 12], [(11, .d (.int .i64))], [], [], [], []⟩), ([0, 0, 5, 4, 0, 4, 5, 4, 0, 1, 1, 1], ⟨[0, 1, 4, 11, 12], [(47, .d .bool)], [], [], [], []⟩), ([0, 1, 4, 5, 4, 0, 1, 1, 1], ⟨[0, 1, 4, 11], [(12, .d (.int .i64))], [], [], [], []⟩), ([4, 0, 1, 4, 5, 4, 0, 1, 1, 1], ⟨[0, 1, 4, 11], [(12, .d (.int .i64))], [], [], [], []⟩), ([0, 0, 5, 4, 0, 1, 4, 5, 4, 0, 1, 1, 1], ⟨[0, 1, 4, 11, 12], [(65, .d .bool)], [], [], [], []⟩), ([9], ⟨[], [(10, .d (.int .i64))], [], [], [], []⟩)] else bif Nat.beq f 62 then [([0, 1, 1, 1], ⟨[0, 1, 4, 13], [(12, .d (.int .i64))], [], [], [], []⟩), ([4, 0, 1, 1, 1], ⟨[0, 1, 4, 13], [(12, .d (.int .i64))], [], [], [], []⟩), ([0, 0, 5, 4, 0, 1, 1, 1], ⟨[0, 1, 4, 12, 13], [(47, .d .bool)], [], [], [], []⟩), ([0, 1, 1, 1, 1], ⟨[0, 1, 4, 12], [(13, .d (.int .i64))], [], [], [], []⟩), ([4, 0, 1, 1, 1, 1], ⟨[0, 1, 4, 12], [(13, .d (.int .i64))], [], [], [], []⟩), ([0, 0, 5, 4, 0, 1, 1, 1, 1], ⟨[0, 1, 4, 12, 13], [(66, .d .bool)], [], [], [], []⟩), ([0, 1, 1, 1, 1, 1, 1, 1, 1, 1], ⟨[0, 1], [(13, .d (.int .i64))], [], [], [], []⟩), ([4, 0, 1, 1, 1, 1, 1, 1, 1, 1, 1], ⟨[0, 1, 4], [(12, .d (.int .i64)), (13, .d (.int .i64))], [], [], [], []⟩), ([0, 4, 5, 4, 0, 1, 1, 1, 1, 1, 1, 1, 1, 1], ⟨[0, 1, 4, 13], [(12, .d (.int .i64))], [], [], [], []⟩), ([4, 0, 4, 5, 4, 0, 1, 1, 1, 1, 1, 1, 1, 1, 1], ⟨[0, 1, 4, 13], [(12, .d (.int .i64))], [], [], [], []⟩), ([0, 0, 5, 4, 0, 4, 5, 4, 0, 1, 1, 1, 1, 1, 1, 1, 1, 1], ⟨[0, 1, 4, 12, 13], [(120, .d .bool)], [], [], [], []⟩), ([0, 1, 4, 5, 4, 0, 1, 1, 1, 1, 1, 1, 1, 1, 1], ⟨[0, 1, 4, 12], [(13, .d (.int .i64))], [], [], [], []⟩), ([4, 0, 1, 4, 5, 4, 0, 1, 1, 1, 1, 1, 1, 1, 1, 1], ⟨[0, 1, 4, 12], [(13, .d (.int .i64))], [], [], [], []⟩), ([0, 0, 5, 4, 0, 1, 4, 5, 4, 0, 1, 1, 1, 1, 1, 1, 1, 1, 1], ⟨[0, 1, 4, 12, 13], [(139, .d .bool)], [], [], [], []⟩), ([9], ⟨[], [(10, .d (.int .i64)), (11, .d .bool)], [], [], [], []⟩)] else bif Nat.beq f 47 then [([9], ⟨[], [(2, .d (.int .i64))], [], [], [], []⟩)] else bif Nat.beq f 32 then [([9], ⟨[], [(4, .d (.int .i64))], [], [], [], []⟩)] else []) N 400 8 4 z96 16 [.d (.slice 32 y5) a0, .d (.int .u64) a1] A0 K =
  X1 N a0 a1 (fun d1 m1 => K (V.tup [V.d (Ty.slice 32 x8) (dk d1 0), V.d (Ty.int IntKind.i64) (dk d1 1)]) []) := by
 rw [q3e]
 exact (show _ = jn (fun d1 m1 => (K (V.tup [V.d (Ty.slice 32 x8) (dk d1 0), V.d (Ty.int IntKind.i64) (dk d1 1)]) [])) (F2 N a0 a1) by kernel_rfl).trans (s5 _ _)
noncomputable def q1z (N : Nat) {R : Type} : OvG R := fun xs _ K => match xs with
 | [.d t0 a0, .d t1 a1] => if t0 = (.slice 32 y5) ∧ t1 = (.int .u64) then X1 N a0 a1 (fun d1 m1 => K (V.tup [V.d (Ty.slice 32 x8) (dk d1 0), V.d (Ty.int IntKind.i64) (dk d1 1)]) []) else none
 | _ => none
theorem q7G (N : Nat) {R : Type} : GOk (X0 gl0) 16 (q1z N (R := R)) := by
 intro xs A Kr r hr
 unfold q1z at hr
 split at hr
 ·simp only [Option.ite_none_right_eq_some] at hr
  obtain ⟨hty, hr⟩ := hr
  obtain ⟨rfl, rfl⟩ := hty
  rw [← q6U] at hr
  obtain ⟨v, L, h1, h2⟩ := y8E (ok0 gl0) (mo gl0) ((q3f N).y7D _) (y2t gl0) y4X hr
  exact ⟨v, L, h1.mono (y0g fun _ => rfl), h2⟩
 ·cases hr
end Go.Proofs.YtefppgmopnnphaaDoor
namespace Go.Proofs.YtefppgmopnnphaaDoor
open Go Go.E
set_option maxRecDepth 100000
set_option maxHeartbeats 4000000
set_option linter.unusedSimpArgs false
variable {R : Type} {N : Nat}
def z6k : Es → C → C → Es
 | [], c, v => [(c, v)]
 | (k, u) :: l, c, v => if C.beq c k = true then (k, v) :: l else (k, u) :: z6k l c v
theorem z9y (τ : Ty) (c v : C) : ∀ m : Es, q5M (dE τ m) c (V.d τ v) = dE τ (z6k m c v)
 | [] => rfl
 | (k, u) :: m => by
  have ih := z9y τ c v m
  simp only [dE, List.map_cons, q5M, z6k] at ih ⊢
  by_cases h : C.beq c k = true
  ·simp [h]
  ·simp [h, ih]
def mkE (s : List w6) : Es := s.map fun x => (.str x.1, Y0 x)
def q5q : List w6 → List UInt8 → Int × Int
 | [], _ => (0, 0)
 | x :: s, n => if n = x.1 then x.2 else q5q s n
def X6 : List w6 → List UInt8 → Int × Int → List w6
 | [], n, v => [(n, v)]
 | x :: s, n, v => if n = x.1 then (n, v) :: s else x :: X6 s n v
theorem y2I (a b : List UInt8) : C.beq (.str a) (.str b) = decide (a = b) := by simp [C.beq]
theorem y5k (n : List UInt8) : ∀ s : List w6, (z1N (mkE s) (.str n) = true → getM (mkE s) (.str n) = Y0 (n, q5q s n)) ∧ (z1N (mkE s) (.str n) = false → q5q s n = (0, 0))
 | [] => ⟨fun h => by simp [mkE, z1N] at h, fun _ => rfl⟩
 | x :: s => by
  have ih := y5k n s
  simp only [mkE, List.map_cons, z1N, getM, y2I, q5q] at ih ⊢
  by_cases h : n = x.1
  ·subst h
   simp [Y0]
  ·simp only [h, decide_false, cond_false, if_false]
   exact ih
theorem y4G (n : List UInt8) (v : Int × Int) : ∀ s : List w6, z6k (mkE s) (.str n) (Y0 (n, v)) = mkE (X6 s n v)
 | [] => rfl
 | x :: s => by
  have ih := y4G n v s
  simp only [mkE, List.map_cons, z6k, y2I, X6] at ih ⊢
  by_cases h : n = x.1
  ·subst h; simp
  ·simp only [h, decide_false, Bool.false_eq_true, if_false, List.map_cons]
   rw [ih]
def z8S (s : List w6) : Prop := ∀ x ∈ s, q9z x.2
theorem y4r : q9z (0, 0) := ⟨⟨by decide, by decide⟩, by decide, by decide⟩
theorem z1P {n : List UInt8} : ∀ {s : List w6}, z8S s → q9z (q5q s n)
 | [], _ => y4r
 | x :: s, h => by
  unfold q5q
  split
  ·exact h x (by simp)
  ·exact z1P fun y hy => h y (by simp [hy])
theorem z9Y {n : List UInt8} {v : Int × Int} : ∀ {s : List w6} {y : w6}, y ∈ X6 s n v → y = (n, v) ∨ y ∈ s
 | [], y, h => by simp [X6] at h; exact .inl h
 | x :: s, y, h => by
  unfold X6 at h
  split at h
  ·rcases List.mem_cons.1 h with h | h
   ·exact .inl h
   ·exact .inr (by simp [h])
  ·rcases List.mem_cons.1 h with h | h
   ·exact .inr (by simp [h])
   ·exact (z9Y h).imp id fun h => by simp [h]
theorem z4H {n : List UInt8} {v : Int × Int} : ∀ {s : List w6} {a : List UInt8}, a ∈ (X6 s n v).map (·.1) ↔ a = n ∨ a ∈ s.map (·.1)
 | [], a => by simp [X6]
 | x :: s, a => by
  unfold X6
  split
  ·rename_i h; simp [h]
  ·have := z4H (n := n) (v := v) (s := s) (a := a)
   simp only [List.map_cons, List.mem_cons, this]
   constructor
   ·rintro (h | h | h)
    ·exact .inr (.inl h)
    ·exact .inl h
    ·exact .inr (.inr h)
   ·rintro (h | h | h)
    ·exact .inr (.inl h)
    ·exact .inl h
    ·exact .inr (.inr h)
theorem y2a {n : List UInt8} {v : Int × Int} : ∀ {s : List w6}, (s.map (·.1)).Nodup → ((X6 s n v).map (·.1)).Nodup
 | [], _ => by simp [X6]
 | x :: s, h => by
  simp only [List.map_cons, List.nodup_cons] at h
  unfold X6
  split
  ·rename_i e; subst e; simpa using h
  ·rename_i e
   simp only [List.map_cons, List.nodup_cons]
   refine ⟨fun hm => ?_, y2a h.2⟩
   rcases z4H.1 hm with h1 | h1
   ·exact e h1.symm
   ·exact h.1 h1
theorem z9z {n : List UInt8} {v : Int × Int} : ∀ {s : List w6}, (X6 s n v).length ≤ s.length + 1
 | [] => by simp [X6]
 | x :: s => by
  unfold X6
  split
  ·simp
  ·have := z9z (n := n) (v := v) (s := s); simp; omega
def q6L (s : List w6) (p : C) : List w6 ⊕ Unit := match q5e (q5q s (p.get 0).toStr) p with
 | .inl v => .inl (X6 s (p.get 0).toStr v)
 | .inr e => .inr e
def z6f (s : List w6) (ps : List C) : List w6 ⊕ Unit := o7 (fun _ s p => q6L s p) 0 s ps
def q5I (h : Int) (s : List w6) (x : C) : List w6 ⊕ Unit := bif decide (h < (x.get 0).toInt) then .inl s else z6f s (x.get 1).elems
def z3y (h : Int) (s : List w6) (l : List C) : List w6 ⊕ Unit := o7 (fun _ s x => q5I h s x) 0 s l
def q12 (s : List w6) : Prop := z8S s ∧ (s.map (·.1)).Nodup
theorem z9b {s s' : List w6} {p : C} (hs : q12 s) (hp : C.wf r9 p) (h : q6L s p = .inl s') : q12 s' ∧ s'.length ≤ s.length + 1 := by
 unfold q6L at h
 cases ha : q5e (q5q s (p.get 0).toStr) p with
 | inr e => rw [ha] at h; cases h
 | inl v =>
  rw [ha] at h; cases h
  have hv := y2J (z1P hs.1) (z8B hp) ha
  refine ⟨⟨fun y hy => ?_, y2a hs.2⟩, z9z⟩
  rcases z9Y hy with rfl | hy
  ·exact hv
  ·exact hs.1 y hy
theorem z7g {α σ ε : Type} {f : Nat → σ → α → σ ⊕ ε} (P : Nat → σ → Prop) : ∀ (l : List α) (i : Nat) (s s' : σ), (∀ i s c s', c ∈ l → P i s → f i s c = .inl s' → P (i + 1) s') → P i s → o7 f i s l = .inl s' → P (i + l.length) s'
 | [], i, s, s', _, h, e => by cases e; exact h
 | c :: l, i, s, s', st, h, e => by
  simp only [o7] at e
  cases hf : f i s c with
  | inr x => rw [hf] at e; cases e
  | inl s1 =>
   rw [hf] at e
   have := z7g P l (i + 1) s1 s' (fun i s c s' hc => st i s c s' (by simp [hc])) (st i s c s1 (by simp) h hf) e
   rw [List.length_cons, show i + (l.length + 1) = i + 1 + l.length by omega]
   exact this
theorem y12 {s s' : List w6} {ps : List C} (hs : q12 s) (hp : ∀ p ∈ ps, C.wf r9 p) (h : z6f s ps = .inl s') : q12 s' ∧ s'.length ≤ s.length + ps.length := by
 have := z7g (fun i t => q12 t ∧ t.length ≤ s.length + i) ps 0 s s' (fun i t c t' hc ht e => by
  obtain ⟨a, b⟩ := z9b ht.1 (hp c hc) e
  exact ⟨a, by have := ht.2; omega⟩) ⟨hs, by omega⟩ h
 simpa using this
def z6U (l : List C) : Nat := (l.map fun x => (x.get 1).elems.length).sum
theorem y11 {h : Int} : ∀ {l : List C} {s s' : List w6}, q12 s → (∀ x ∈ l, C.wf y5 x) → z3y h s l = .inl s' → q12 s' ∧ s'.length ≤ s.length + z6U l := by
 intro l
 have gen : ∀ (l : List C) (i : Nat) (s s' : List w6), q12 s → (∀ x ∈ l, C.wf y5 x) → o7 (fun _ s x => q5I h s x) i s l = .inl s' → q12 s' ∧ s'.length ≤ s.length + z6U l := by
  intro l
  induction l with
  | nil => intro i s s' hs _ e; cases e; exact ⟨hs, by simp⟩
  | cons x l ih =>
   intro i s s' hs hw e
   simp only [o7] at e
   cases hx : q5I h s x with
   | inr e' => rw [hx] at e; cases e
   | inl s1 =>
    rw [hx] at e
    have h1 : q12 s1 ∧ s1.length ≤ s.length + (x.get 1).elems.length := by
     unfold q5I at hx
     cases hb : decide (h < (x.get 0).toInt) with
     | true => rw [hb] at hx; cases hx; exact ⟨hs, by omega⟩
     | false => rw [hb] at hx; exact y12 hs (q3G (hw x (by simp))).2.2 hx
    obtain ⟨a, b⟩ := ih (i + 1) s1 s' h1.1 (fun y hy => hw y (by simp [hy])) e
    refine ⟨a, ?_⟩
    have := h1.2
    simp only [z6U, List.map_cons, List.sum_cons] at b ⊢
    omega
 exact fun {s s'} hs hw e => gen l 0 s s' hs hw e
theorem x0o {p : C} (h : C.wf r9 p) : p.get 0 = .str (p.get 0).toStr := by
 have t := C.q0d (i := 0) (f := .str) h rfl
 simp only [C.wf] at t
 exact t.1
theorem y7u (ps : List C) (a b c d : C) (s : List w6) (hs : q12 s) (hp : ∀ p ∈ ps, C.wf r9 p) (hl : ps.length * 32 ≤ 140737488355328) (hN : 4398046511105 < N) (k1 k5 : KD R) :
  c4 N (W5 N k1 k5) [a, b, c, d, .slice ps, .int (ps.length : Int), .int 0] [mkE s] = match z6f s ps with
   | .inl s' => k5 [a, b, c, d] [mkE s']
   | .inr _ => k1 [.slice [], .int 11] [] := by
 have key := q1F (N := N) (F := W5 N k1 k5) (fun i (s : List w6) => [a, b, c, d, .slice ps, .int (ps.length : Int), .int (i : Int)]) (fun _ s => [mkE s]) ps
   (fun _ s p => q6L s p) (fun s => k5 [a, b, c, d] [mkE s]) (fun _ => k1 [.slice [], .int 11] []) (fun i s => i ≤ ps.length ∧ q12 s) (s0 := s) ⟨Nat.zero_le _, hs⟩
   (fun i s p hpi hi => ⟨fun rec => by
    have hi2 := (List.getElem?_eq_some_iff.1 hpi).1
    have h1 : (i : Int) < (ps.length : Int) := by omega
    have hw := hp p (List.mem_of_getElem? hpi)
    have hn := x0o hw
    have hg := z1P (n := (p.get 0).toStr) hi.2.1
    have hgE := y5k (p.get 0).toStr s
    have hv := z8B hw
    have h3 : IntKind.i64.wrap ((i : Int) + 1) = ((i + 1 : Nat) : Int) := c9 (by omega)
    unfold W5 q6L
    simp only [go_sem, s5, y7, y8, x9, h1, q2b hpi, decide_true, cond_true, Int.natCast_nonneg, and_self, if_true, Int.toNat_natCast, y2l, y2n, q5E, z4d, q8W, z9y, h3]
    obtain ⟨g1, g2⟩ := hgE
    simp only [dm, List.getD_cons_zero] at g1 g2 ⊢
    rw [hn]
    simp only [J7]
    generalize (p.get 0).toStr = n at g1 g2 hg ⊢
    have hput := fun v => y4G n v s
    unfold q5e
    cases hh : z1N (mkE s) (.str n) with
    | true =>
     rw [g1 hh]
     obtain ⟨q1, q2⟩ := hg
     generalize q5q s n = v at q1 q2 ⊢
     simp only [cond_true, Y0, List.set_cons_zero, List.set_cons_succ, go_sem]
     rw [q4k _ _ (by simpa [y7] using q2) hv, q4k _ _ (by simpa [y7] using q1) hv]
     simp only [Y0] at hput
     simp only [y7, Z4, Y5, decide_true, Bool.not_true, cond_false]
     cases hb : (p.get 2).toBool with
     | true =>
      simp only [cond_true]
      by_cases h : v.2 + (p.get 1).toInt < 18446744073709551616
      ·simp only [h, if_true, Z4, Y5, y7, decide_true, Bool.not_true, cond_false, hput (v.1, v.2 + (p.get 1).toInt)]
      ·simp [h, Z4, Y5, y7]
     | false =>
      simp only [cond_false]
      by_cases h : v.1 + (p.get 1).toInt < 18446744073709551616
      ·simp only [h, if_true, Z4, Y5, y7, decide_true, Bool.not_true, cond_false, hput (v.1 + (p.get 1).toInt, v.2)]
      ·simp [h, Z4, Y5, y7]
    | false =>
     rw [g2 hh]
     obtain ⟨q1, q2⟩ := y4r
     have hput : ∀ w : Int × Int, z6k (mkE s) (C.str n) (Y0 (n, w)) = mkE (X6 s n w) := hput
     simp only [cond_false, List.set_cons_zero, List.set_cons_succ, go_sem]
     rw [q4k _ _ (by simpa [y7] using q2) hv, q4k _ _ (by simpa [y7] using q1) hv]
     simp only [Y0] at hput
     simp only [y7, Z4, Y5, decide_true, Bool.not_true, cond_false, Int.zero_add]
     cases hb : (p.get 2).toBool with
     | true =>
      simp only [cond_true]
      by_cases h : (p.get 1).toInt < 18446744073709551616
      ·simp only [h, if_true, Z4, Y5, y7, decide_true, Bool.not_true, cond_false, hput (0, (p.get 1).toInt)]
      ·simp [h, Z4, Y5, y7]
     | false =>
      simp only [cond_false]
      by_cases h : (p.get 1).toInt < 18446744073709551616
      ·simp only [h, if_true, Z4, Y5, y7, decide_true, Bool.not_true, cond_false, hput ((p.get 1).toInt, 0)]
      ·simp [h, Z4, Y5, y7], fun s' e => ⟨(List.getElem?_eq_some_iff.1 hpi).1, (z9b hi.2 (hp p (List.mem_of_getElem? hpi)) e).1⟩⟩)
   (fun s hs rec => by
    unfold W5
    simp only [go_sem, y7, y8, x9, Int.lt_irrefl, decide_false, cond_false, q5E, q8W, if_true]
    rfl) (by omega)
 refine key.trans ?_
 unfold z6f
 cases o7 (fun _ s p => q6L s p) 0 s ps <;> rfl
theorem y5S (l : List C) (h : Int) (hw : ∀ x ∈ l, C.wf y5 x) (hl : l.length * 32 ≤ 140737488355328) (hN : 4398046511105 < N) (k1 k2 : KD R) :
  c4 N (W4 N k1 k2) [.int h, .slice l, .int (l.length : Int), .int 0] [mkE []] = match z3y h [] l with
   | .inl s' => k2 [] [mkE s']
   | .inr _ => k1 [.slice [], .int 11] [] := by
 have key := q1F (N := N) (F := W4 N k1 k2) (fun i (s : List w6) => [.int h, .slice l, .int (l.length : Int), .int (i : Int)]) (fun _ s => [mkE s]) l
   (fun _ s x => q5I h s x) (fun s => k2 [] [mkE s]) (fun _ => k1 [.slice [], .int 11] []) (fun i s => i ≤ l.length ∧ q12 s) (s0 := []) ⟨Nat.zero_le _, fun x hx => (by cases hx), List.nodup_nil⟩
   (fun i s x hxi hi => ⟨fun rec => by
    have hi2 := (List.getElem?_eq_some_iff.1 hxi).1
    have h1 : (i : Int) < (l.length : Int) := by omega
    obtain ⟨p1, p2, p3⟩ := q3G (hw x (List.mem_of_getElem? hxi))
    have h3 : IntKind.i64.wrap ((i : Int) + 1) = ((i + 1 : Nat) : Int) := c9 (by omega)
    unfold W4 q5I
    simp only [go_sem, s5, y7, y8, x9, h1, q2b hxi, decide_true, cond_true, Int.natCast_nonneg, and_self, if_true, Int.toNat_natCast, q5E, z4d, q8W, h3]
    by_cases hb : h < (x.get 0).toInt
    ·rw [if_pos hb, if_pos hb]; rfl
    ·rw [if_neg hb, if_neg hb, p1, y8]
     refine (y7u _ _ _ _ _ s hi.2 p3 p2 hN _ _).trans ?_
     cases z6f s (x.get 1).elems with
     | inl s' =>
      simp only [Z4, Y5, q3H, q5z, y7, h3]
      rfl
     | inr e => rfl, fun s' e => ⟨(List.getElem?_eq_some_iff.1 hxi).1, by
      unfold q5I at e
      cases hb : decide (h < (x.get 0).toInt) with
      | true => rw [hb] at e; cases e; exact hi.2
      | false => rw [hb] at e; exact (y12 hi.2 (q3G (hw x (List.mem_of_getElem? hxi))).2.2 e).1⟩⟩)
   (fun s hs rec => by
    unfold W4
    simp only [go_sem, y7, y8, x9, Int.lt_irrefl, decide_false, cond_false, q5E, q8W, if_true]
    rfl) (by omega)
 refine key.trans ?_
 unfold z3y
 cases o7 (fun _ s x => q5I h s x) 0 [] l <;> rfl
def srt (s : List w6) : List w6 := s.mergeSort fun x y => !Op.bytesLess y.1 x.1
theorem q9I (s : List w6) : (srt s).Perm s := List.mergeSort_perm _ _
theorem y2W (s : List w6) : (srt s).Pairwise fun x y => (!Op.bytesLess y.1 x.1) = true := by
 refine List.pairwise_mergeSort ?_ ?_ _
 ·intro a b c h1 h2
  simp only [Bool.not_eq_true'] at h1 h2 ⊢
  exact y6b h2 h1
 ·intro a b
  simp only [Bool.or_eq_true, Bool.not_eq_true']
  cases h : Op.bytesLess b.1 a.1 with
  | false => exact .inl rfl
  | true =>
   right
   cases h' : Op.bytesLess a.1 b.1 with
   | false => rfl
   | true => have := z5M _ _ _ h h'; rw [z5N] at this; cases this
theorem y7G : ∀ {l : List (List UInt8)}, l.Nodup → ndB l = true
 | [], _ => rfl
 | x :: l, h => by
  rw [List.nodup_cons] at h
  simp only [ndB, Bool.and_eq_true, Bool.not_eq_true', List.contains_eq_mem, decide_eq_false_iff_not]
  exact ⟨h.1, y7G h.2⟩
theorem y8q (x : w6) : q5R (Y0 x) = x := rfl
theorem y4P {s : List w6} (hs : q12 s) (hn : s.length ≤ 1048576) : okL (mkE s) = true := by
 unfold okL
 rw [Bool.and_eq_true]
 refine ⟨Nat.ble_eq_true_of_le (by simpa [mkE] using hn), y7G ?_⟩
 have : (mkE s).map (fun e => q1m e.2) = s.map (·.1) := by simp only [mkE, List.map_map]; rfl
 rw [this]; exact hs.2
theorem y6g {s : List w6} (hs : q12 s) (hn : s.length ≤ 1048576) : q5J (mkE s) = (srt s).map Y0 := by
 refine (z06 (y4P hs hn) (fun e he => ?_) ?_ ?_).symm
 ·obtain ⟨x, _, rfl⟩ := List.mem_map.1 he
  rfl
 ·have : (mkE s).map (fun e => q5R e.2) = s := by simp only [mkE, List.map_map]; exact (List.map_congr_left fun x _ => y8q x).trans (List.map_id s)
  rw [this]; exact q9I s
 ·intro i j hij hj
  have := List.pairwise_iff_getElem.1 (y2W s) i j (by omega) hj hij
  rw [z1A, getElem!_pos _ j hj, getElem!_pos _ i (by omega)]
  simpa using this
theorem y7v (l : List C) (h : Int) (hw : ∀ x ∈ l, C.wf y5 x) (hl : l.length * 32 ≤ 140737488355328) (hc : z6U l ≤ 1048576) (hN : 4398046511105 < N) (k : KD R) :
  X1 N (.slice l) (.int h) k = match z3y h [] l with
   | .inl s => k [.slice ((srt s).map Y0), .int 0] []
   | .inr _ => k [.slice [], .int 11] [] := by
 rw [q3e]
 unfold F2
 simp only [s5, y8, y7Y]
 refine (y5S l h hw hl hN _ _).trans ?_
 cases hr : z3y h [] l with
 | inr e => rfl
 | inl s =>
  have hk := y11 (s := []) ⟨fun x hx => (by cases hx), List.nodup_nil⟩ hw hr
  have hn : s.length ≤ 1048576 := by have := hk.2; simp at this; omega
  simp only [dm, List.getD_cons_zero, q5E, q8W, true_and, if_true, and_self, y4P hk.1 hn, cond_true, y6g hk.1 hn]
theorem y5T : q12 [] := ⟨fun x hx => (by cases hx), List.nodup_nil⟩
end Go.Proofs.YtefppgmopnnphaaDoor
namespace Go.Proofs.YtefppgmopnnphaaDoor
open Go Go.E
set_option maxRecDepth 100000
set_option maxHeartbeats 4000000
set_option linter.unusedSimpArgs false
variable {R : Type} {N : Nat}
def tot (f : Int × Int → Int) : List w6 → Int
 | [] => 0
 | x :: s => f x.2 + tot f s
theorem z81 {f : Int × Int → Int} (h0 : f (0, 0) = 0) (n : List UInt8) (v : Int × Int) : ∀ s, tot f (X6 s n v) + f (q5q s n) = tot f s + f v
 | [] => by simp [X6, q5q, tot, h0]
 | x :: s => by
  have ih := z81 h0 n v s
  unfold X6 q5q
  by_cases e : n = x.1
  ·rw [if_pos e, if_pos e, tot, tot]; dsimp only; omega
  ·rw [if_neg e, if_neg e, tot, tot]; omega
theorem y56 (f : Int × Int → Int) {s t : List w6} (h : s.Perm t) : tot f s = tot f t := by
 induction h with
 | nil => rfl
 | cons x _ ih => rw [tot, tot, ih]
 | swap x y l => rw [tot, tot, tot, tot]; omega
 | trans _ _ a b => rw [a, b]
def fB (v : Int × Int) : Int := v.1 - v.2
def dP (p : C) : Int := bif (p.get 2).toBool then -(p.get 1).toInt else (p.get 1).toInt
def dPs : List C → Int
 | [] => 0
 | p :: ps => dP p + dPs ps
theorem y2K {s s' : Int × Int} {p : C} (h : q5e s p = .inl s') : fB s' = fB s + dP p := by
 unfold q5e at h
 unfold fB dP
 cases hb : (p.get 2).toBool with
 | true =>
  rw [hb, cond_true] at h
  split at h
  ·cases h; simp only [cond_true]; omega
  ·cases h
 | false =>
  rw [hb, cond_false] at h
  split at h
  ·cases h; simp only [cond_false]; omega
  ·cases h
theorem z9e : ∀ (ps : List C) (i : Nat) (s s' : Int × Int), o7 (fun _ s p => q5e s p) i s ps = .inl s' → fB s' = fB s + dPs ps
 | [], i, s, s', h => by simp only [o7] at h; cases h; simp [dPs]
 | p :: ps, i, s, s', h => by
  rw [o7] at h
  cases ha : q5e s p with
  | inr e => rw [ha] at h; cases h
  | inl v =>
   rw [ha] at h
   have ih := z9e ps (i + 1) v s' h
   rw [dPs, ih, y2K ha]; omega
theorem y4v {ps : List C} (h : H3 ps = 0) : dPs ps = 0 := by
 unfold H3 at h
 split at h
 ·cases h
 ·cases ha : ps.all q2v with
  | false => rw [ha] at h; cases h
  | true =>
   rw [ha, cond_true] at h
   cases hs : q82 ps with
   | inr e => rw [hs] at h; cases h
   | inl v =>
    rw [hs] at h
    dsimp only at h
    split at h
    ·rename_i e
     have := z9e ps 0 (0, 0) v hs
     unfold fB at this
     dsimp only at this
     omega
    ·cases h
theorem y13 : ∀ (ps : List C) (i : Nat) (s s' : List w6), o7 (fun _ s p => q6L s p) i s ps = .inl s' → tot fB s' = tot fB s + dPs ps
 | [], i, s, s', h => by simp only [o7] at h; cases h; simp [dPs]
 | p :: ps, i, s, s', h => by
  rw [o7] at h
  unfold q6L at h
  cases ha : q5e (q5q s (p.get 0).toStr) p with
  | inr e => rw [ha] at h; cases h
  | inl v =>
   rw [ha] at h
   have ih := y13 ps (i + 1) _ s' h
   have h1 := y2K ha
   have h2 := z81 (f := fB) rfl (p.get 0).toStr v s
   rw [dPs, ih]; omega
theorem z6e {h : Int} : ∀ (l : List C) (i : Nat) (s s' : List w6), (∀ x ∈ l, q1G x) → o7 (fun _ s x => q5I h s x) i s l = .inl s' → tot fB s' = tot fB s
 | [], i, s, s', _, e => by simp only [o7] at e; cases e; rfl
 | x :: l, i, s, s', hr, e => by
  rw [o7] at e
  unfold q5I at e
  cases hb : decide (h < (x.get 0).toInt) with
  | true =>
   rw [hb] at e
   exact z6e l (i + 1) s s' (fun y hy => hr y (by simp [hy])) e
  | false =>
   rw [hb] at e
   unfold z6f at e
   cases hp : o7 (fun _ s p => q6L s p) 0 s (x.get 1).elems with
   | inr u => rw [hp] at e; cases e
   | inl v =>
    rw [hp] at e
    have ih := z6e l (i + 1) v s' (fun y hy => hr y (by simp [hy])) e
    have h1 := y13 _ 0 s v hp
    have h2 := y4v (hr x (by simp))
    omega
theorem y4u {ps : List C} (h : H3 ps = 0) : ps.length ≤ 8 := (q8y h).1
theorem z5G : ∀ l : List C, (∀ x ∈ l, q1G x) → z6U l ≤ 8 * l.length
 | [], _ => Nat.le_refl _
 | x :: l, h => by
  have ih := z5G l fun y hy => h y (by simp [hy])
  have h1 := y4u (h x (by simp))
  unfold z6U at ih ⊢
  rw [List.map_cons, List.sum_cons, List.length_cons]
  omega
def z0u (j : List C) (x : C) : List C := if z4e j x = 0 then j ++ [x] else j
def z0v (n : Nat) (j : List C) : Prop := j.length ≤ n ∧ (∀ x ∈ j, C.wf y5 x) ∧ (∀ x ∈ j, q1G x) ∧ z62 [] j
theorem z74 : z0v 0 [] := ⟨Nat.le_refl _, fun x hx => (by cases hx), fun x hx => (by cases hx), trivial⟩
theorem z5V {n : Nat} {j : List C} {x : C} (h : z0v n j) (hx : C.wf y5 x) : z0v (n + 1) (z0u j x) := by
 obtain ⟨h1, h2, h3, h4⟩ := h
 unfold z0u
 by_cases h0 : z4e j x = 0
 ·rw [if_pos h0]
  unfold z4e at h0
  by_cases hr : H3 (x.get 1).elems = 0
  ·rw [if_pos hr] at h0
   have hl : q4W j (x.get 0).toInt = false := by
    cases hb : q4W j (x.get 0).toInt with
    | true => rw [hb] at h0; cases h0
    | false => rfl
   refine ⟨by rw [List.length_append]; simpa using h1, fun y hy => ?_, fun y hy => ?_, y1a j [] h4 (by rwa [List.nil_append])⟩
   ·rcases List.mem_append.1 hy with hy | hy
    ·exact h2 y hy
    ·rw [List.mem_singleton.1 hy]; exact hx
   ·rcases List.mem_append.1 hy with hy | hy
    ·exact h3 y hy
    ·rw [List.mem_singleton.1 hy]; exact hr
  ·rw [if_neg hr] at h0; exact absurd h0 hr
 ·rw [if_neg h0]
  exact ⟨by omega, h2, h3, h4⟩
theorem z5W : ∀ (l : List C) (n : Nat) (j : List C), z0v n j → (∀ x ∈ l, C.wf y5 x) → z0v (n + l.length) (l.foldl z0u j)
 | [], n, j, h, _ => h
 | x :: l, n, j, h, hw => by
  have := z5W l (n + 1) (z0u j x) (z5V h (hw x (by simp))) fun y hy => hw y (by simp [hy])
  rw [List.foldl_cons, List.length_cons, show n + (l.length + 1) = n + 1 + l.length by omega]
  exact this
end Go.Proofs.YtefppgmopnnphaaDoor
namespace Go.Proofs.YtefppgmopnnphaaDoor
open Go Go.E
set_option maxRecDepth 100000
set_option maxHeartbeats 4000000
set_option linter.unusedVariables false
noncomputable def z9q : Hints := [([1, 0, 1, 1], ⟨[], [(4, .d (.int .u64)), (5, .d (.int .i64))], [], [], [], []⟩),
  ([4, 1, 0, 1, 1], ⟨[0], [(4, .d (.int .u64)), (5, .d (.int .i64)), (6, .d (.int .i64))], [], [], [], []⟩),
  ([0, 0, 5, 4, 1, 0, 1, 1], ⟨[0, 4, 5, 6], [(14, .d .bool)], [], [], [], []⟩),
  ([9], ⟨[], [(2, .d (.int .u64)), (3, .d (.int .i64))], [], [], [], []⟩)]
noncomputable def z1i (N : Nat) : OvS (X0 gl0) where
 g R := [(27, q8B N)]
 ok := fun R => List.forall_mem_cons.2 ⟨z9r N, fun _ h => nomatch h⟩
noncomputable def q7m {R : Type} (N : Nat) (k2 : KD R) : KD R → List C → List Es → Option R := (fun k3 d1 m1 => (jn (fun d2 m2 => (bif C.toBool (dk d2 4) then (if 0 ≤ C.toInt (dk d2 3) ∧ C.toInt (dk d2 3) < (↑(List.length (C.elems (dk d2 0))) : Int) then (q2F N (dk d2 1) (List.getD (C.elems (dk d2 0)) (Int.toNat (C.toInt (dk d2 3))) C.nil) (fun d3 m3 => (k3 [dk d2 0, dk d3 0, dk d3 1, C.int (IntKind.wrap IntKind.i64 (C.toInt (dk d2 3) + 1))] []))) else none) else (k2 [dk d2 1, dk d2 2] []))) (fun k4 => (bif decide (C.toInt (dk d1 3) < (↑(List.length (C.elems (dk d1 0))) : Int)) then (k4 [dk d1 0, dk d1 1, dk d1 2, dk d1 3, C.bool (decide (C.toInt (dk d1 2) = 0))] []) else (k4 [dk d1 0, dk d1 1, dk d1 2, dk d1 3, C.bool false] [])))))
noncomputable def q4J {R : Type} (N : Nat) (a0 : C) (k1 : KD R) : Option R := (jn (fun d1 m1 => (k1 [dk d1 0, dk d1 1] [])) (fun k2 => (c4 N (q7m N k2) [a0, C.int 0, C.int 0, C.int 0] [])))
noncomputable def q1I {R : Type} (N : Nat) : C → KD R → Option R := lid "" (q4J N)
theorem z1h {R : Type} (N : Nat) (a0 : C) (k : KD R) : q1I N a0 k = q4J N a0 k := by unfold q1I; rw [Q9]
theorem z8d {R : Type} (N : Nat) (a0 : C) (K : V → List (Key × O) → Option R) : exF (X0 gl0) ((z1i N).ov R) J9 noX (fun f => bif Nat.beq f 23 then z9q else []) N 400 8 23 [.d (.slice 8 (.int .u64)) a0] A0 K =
  q1I N a0 (fun d1 m1 => K (V.tup [V.d (Ty.int IntKind.u64) (dk d1 0), V.d (Ty.int IntKind.i64) (dk d1 1)]) []) := by
 rw [z1h]
 exact (show _ = jn (fun d1 m1 => (K (V.tup [V.d (Ty.int IntKind.u64) (dk d1 0), V.d (Ty.int IntKind.i64) (dk d1 1)]) [])) (q4J N a0) by kernel_rfl).trans (s5 _ _)
noncomputable def q8A (N : Nat) {R : Type} : OvG R := fun xs _ K => match xs with
 | [.d t0 a0] => if t0 = (.slice 8 (.int .u64)) then q1I N a0 (fun d1 m1 => K (V.tup [V.d (Ty.int IntKind.u64) (dk d1 0), V.d (Ty.int IntKind.i64) (dk d1 1)]) []) else none
 | _ => none
theorem z9p (N : Nat) {R : Type} : GOk (X0 gl0) 23 (q8A N (R := R)) := by
 intro xs A Kr r hr
 unfold q8A at hr
 split at hr
 ·simp only [Option.ite_none_right_eq_some] at hr
  obtain ⟨hty, hr⟩ := hr
  subst hty
  rw [← z8d] at hr
  exact okA (z1i N) hr
 ·cases hr
end Go.Proofs.YtefppgmopnnphaaDoor
namespace Go.Proofs.YtefppgmopnnphaaDoor
open Go Go.E
set_option maxRecDepth 100000
set_option maxHeartbeats 4000000
set_option linter.unusedSimpArgs false
variable {R : Type} {N : Nat}
def z86 (s : Int) (c : C) : Int ⊕ Unit := if s + c.toInt < 18446744073709551616 then .inl (s + c.toInt) else .inr ()
def q9D (cs : List C) : Int ⊕ Unit := o7 (fun _ s c => z86 s c) 0 0 cs
def z57 (k2 : KD R) : Int ⊕ Unit → Option R
 | .inl v => k2 [.int v, .int 0] []
 | .inr _ => k2 [.int 0, .int 11] []
def y0A : Option Int → Int
 | some _ => 0
 | none => 11
def okO : Option Int → Prop
 | some s => W64 s
 | none => True
def q9L (k2 : KD R) (cs : List C) (i : Nat) : Option Int → Option R
 | some s => z57 k2 (o7 (fun _ s c => z86 s c) i s (cs.drop i))
 | none => k2 [.int 0, .int 11] []
theorem z6i (cs : List C) (hw : ∀ c ∈ cs, W64 c.toInt) (hl : cs.length ≤ 4398046511104) (hN : 4398046511106 < N) (k : KD R) :
  q1I N (.slice cs) k = z57 k (q9D cs) := by
 rw [z1h]
 unfold q4J
 simp only [s5]
 generalize hk2 : (fun d1 m1 => _ : KD R) = k2
 have key := q8e (R := R) (ι := Nat × Option Int) (F := q7m N k2)
  (fun x => [.slice cs, .int (x.2.getD 0), .int (y0A x.2), .int (x.1 : Int)]) (fun _ => [])
  (fun x => cs.length + 1 - x.1) (fun x => x.1 ≤ cs.length ∧ okO x.2) (fun x => q9L k2 cs x.1 x.2)
  (fun x hx rec hrec => ?_) N (0, some 0) ⟨Nat.zero_le _, by unfold okO W64; decide⟩ (by show cs.length + 1 - 0 < N; omega)
 ·have e0 : q9L k2 cs 0 (some 0) = z57 k2 (q9D cs) := by unfold q9L q9D; rw [List.drop_zero]
  refine key.trans (e0.trans ?_)
  subst hk2
  cases q9D cs <;> rfl
 ·obtain ⟨i, o⟩ := x
  obtain ⟨h1, h2⟩ := hx
  dsimp only at h1 h2 hrec ⊢
  unfold q7m
  cases o with
  | none =>
   by_cases hi : i < cs.length
   ·have hi' : (i : Int) < (cs.length : Int) := by omega
    simp only [s5, Z4, Y5, q3H, q5z, q7O, y7, y8, x9, y0A, Option.getD_none, hi', decide_true, cond_true, q9L, show decide ((11 : Int) = 0) = false from rfl, cond_false]
    rfl
   ·have hi' : ¬ (i : Int) < (cs.length : Int) := by omega
    simp only [s5, Z4, Y5, q3H, q5z, q7O, y7, y8, x9, y0A, Option.getD_none, hi', decide_false, cond_false, q9L]
  | some s =>
   by_cases hi : i < cs.length
   ·have hi' : (i : Int) < (cs.length : Int) := by omega
    have hc := List.getElem?_eq_getElem hi
    have hwc := hw _ (List.getElem_mem hi)
    rw [q9L, List.drop_eq_getElem_cons hi, o7]
    generalize cs[i] = c at hc hwc
    simp only [s5, Z4, Y5, q3H, q5z, q7O, y7, y8, x9, y0A, Option.getD_some, hi', decide_true, cond_true, Int.natCast_nonneg, and_self, if_true, Int.toNat_natCast, q2b hc, c9 (show i < 4611686018427387904 by omega)]
    have h2 : W64 s := h2
    refine (y4E (.int s) c (by simpa [y7] using h2) hwc _).trans ?_
    show (if s + c.toInt < 18446744073709551616 then _ else _) = _
    unfold z86
    obtain ⟨s1, s2⟩ := h2
    obtain ⟨c1, c2⟩ := hwc
    by_cases hlt : s + c.toInt < 18446744073709551616
    ·refine (if_pos hlt).trans ?_
     rw [if_pos hlt]
     exact hrec (i + 1, some (s + c.toInt)) ⟨by dsimp only; omega, by show W64 _; exact ⟨by omega, hlt⟩⟩ (by dsimp only; omega)
    ·refine (if_neg hlt).trans ?_
     rw [if_neg hlt]
     exact hrec (i + 1, none) ⟨by dsimp only; omega, trivial⟩ (by dsimp only; omega)
   ·have hi' : ¬ (i : Int) < (cs.length : Int) := by omega
    rw [q9L, List.drop_eq_nil_of_le (by omega), o7]
    simp only [s5, Z4, Y5, q3H, q5z, q7O, y7, y8, x9, y0A, Option.getD_some, hi', decide_false, cond_false, z57]
theorem z3v (f : Int × Int → Int) : ∀ (l : List w6) (i : Nat) (s v : Int), o7 (fun _ s c => z86 s c) i s (l.map fun x => C.int (f x.2)) = .inl v → v = s + tot f l
 | [], i, s, v, h => by simp only [List.map_nil, o7] at h; cases h; simp [tot]
 | x :: l, i, s, v, h => by
  rw [List.map_cons, o7] at h
  unfold z86 at h
  split at h
  ·rename_i s' e
   split at e
   ·cases e
    have ih := z3v f l (i + 1) _ v h
    rw [ih, tot, y7]; omega
   ·cases e
  ·cases h
theorem y1X : ∀ l : List w6, tot (fun v => v.1) l - tot (fun v => v.2) l = tot fB l
 | [] => rfl
 | x :: l => by
  have ih := y1X l
  rw [tot, tot, tot]
  unfold fB at ih ⊢
  omega
end Go.Proofs.YtefppgmopnnphaaDoor
namespace Go.Proofs.YtefppgmopnnphaaDoor
open Go Go.E
set_option maxRecDepth 100000
set_option maxHeartbeats 4000000
set_option linter.unusedVariables false
noncomputable def q96 : Hints := [([1, 0, 1, 1, 1], ⟨[1, 2], [(7, .d (.slice 32 y5))], [], [], [], []⟩),
  ([4, 1, 0, 1, 1, 1], ⟨[1, 2, 36, 37], [(7, .d (.slice 32 y5)), (38, .d (.int .i64))], [], [], [], []⟩),
  ([1, 1, 1, 4, 0, 1, 1, 5, 4, 1, 0, 1, 1, 1], ⟨[1, 2, 36, 37, 38], [(7, .d (.slice 32 y5))], [], [], [], []⟩),
  ([1, 1, 0, 1, 1, 1, 1], ⟨[1, 7], [], [], [], [], []⟩),
  ([1, 0, 1, 2, 1, 1, 0, 1, 1, 1, 1], ⟨[1, 7], [(14, .sl 8 (.int .u64) 5014), (15, .sl 8 (.int .u64) 5015)], [], [], [], []⟩),
  ([4, 1, 0, 1, 2, 1, 1, 0, 1, 1, 1, 1], ⟨[1, 7, 63, 64], [(14, .sl 8 (.int .u64) 5014), (15, .sl 8 (.int .u64) 5015), (65, .d (.int .i64))], [], [], [], []⟩),
  ([0, 1, 1, 1, 1, 2, 1, 1, 0, 1, 1, 1, 1], ⟨[1, 7], [(100, .d .bool)], [], [], [], []⟩),
  ([1, 0, 1, 1, 1, 1, 1, 1, 1], ⟨[1], [], [], [], [], []⟩),
  ([0, 1, 2, 1, 0, 1, 1, 1, 1, 1, 1, 1], ⟨[1], [(125, .d .bool)], [], [], [], []⟩),
  ([1, 1, 0, 1, 1, 1, 1, 1, 1, 1, 1], ⟨[], [], [], [], [], []⟩),
  ([0, 1, 2, 1, 1, 0, 1, 1, 1, 1, 1, 1, 1, 1], ⟨[], [(144, .d .bool)], [], [], [], []⟩),
  ([9], ⟨[], [(6, .d .bool)], [], [], [], []⟩)]
noncomputable def q4V (N : Nat) : OvS (X0 gl0) where
 g R := [(8, q6v N), (9, q6x N), (10, q94 N), (11, q18 N), (14, q7l N), (15, q7y N), (16, q1z N), (19, q1M N), (21, q4Z N), (23, q8A N)]
 ok := fun R => List.forall_mem_cons.2 ⟨z6s N, List.forall_mem_cons.2 ⟨z6x N, List.forall_mem_cons.2 ⟨y1B N, List.forall_mem_cons.2 ⟨q8E N, List.forall_mem_cons.2 ⟨z8b N, List.forall_mem_cons.2 ⟨z8m N, List.forall_mem_cons.2 ⟨q7G N, List.forall_mem_cons.2 ⟨q7W N, List.forall_mem_cons.2 ⟨z3S N, List.forall_mem_cons.2 ⟨z9p N, fun _ h => nomatch h⟩⟩⟩⟩⟩⟩⟩⟩⟩⟩
noncomputable def F0 {R : Type} (N : Nat) (k3 : KD R) : KD R → List C → List Es → Option R := (fun k4 d5 m5 => (bif decide (C.toInt (dk d5 6) < C.toInt (dk d5 3)) then (if 0 ≤ C.toInt (dk d5 6) ∧ C.toInt (dk d5 6) < (↑(List.length (C.elems (dk d5 2))) : Int) then (bif Nat.beq (List.length (C.elems (dk d5 4))) (List.length (C.elems (dk d5 4))) then (if (List.length (C.elems (dk d5 4)) + 1) * 8 ≤ 140737488355328 ∧ List.length (C.elems (dk d5 4)) + 1 ≤ 9223372036854775807 then (bif Nat.beq (List.length (C.elems (dk d5 5))) (List.length (C.elems (dk d5 5))) then (if (List.length (C.elems (dk d5 5)) + 1) * 8 ≤ 140737488355328 ∧ List.length (C.elems (dk d5 5)) + 1 ≤ 9223372036854775807 then (bif Nat.beq (List.length (C.elems (dk d5 4)) + 1) (List.length (C.elems (dk d5 4) ++ [C.get (List.getD (C.elems (dk d5 2)) (Int.toNat (C.toInt (dk d5 6))) C.nil) 1])) then (bif Nat.beq (List.length (C.elems (dk d5 5)) + 1) (List.length (C.elems (dk d5 5) ++ [C.get (List.getD (C.elems (dk d5 2)) (Int.toNat (C.toInt (dk d5 6))) C.nil) 2])) then (k4 [dk d5 0, dk d5 1, dk d5 2, dk d5 3, C.slice (C.elems (dk d5 4) ++ [C.get (List.getD (C.elems (dk d5 2)) (Int.toNat (C.toInt (dk d5 6))) C.nil) 1]), C.slice (C.elems (dk d5 5) ++ [C.get (List.getD (C.elems (dk d5 2)) (Int.toNat (C.toInt (dk d5 6))) C.nil) 2]), C.int (IntKind.wrap IntKind.i64 (C.toInt (dk d5 6) + 1))] []) else none) else none) else none) else none) else none) else none) else none) else (bif Nat.beq (List.length (C.elems (dk d5 4))) (List.length (C.elems (dk d5 4))) then (bif Nat.beq (List.length (C.elems (dk d5 5))) (List.length (C.elems (dk d5 5))) then (k3 [dk d5 0, dk d5 1, C.slice (C.elems (dk d5 4)), C.slice (C.elems (dk d5 5))] []) else none) else none)))
noncomputable def H9 {R : Type} (N : Nat) (k2 : KD R) : KD R → List C → List Es → Option R := (fun k3 d3 m3 => (bif decide (C.toInt (dk d3 5) < C.toInt (dk d3 3)) then (if 0 ≤ C.toInt (dk d3 5) ∧ C.toInt (dk d3 5) < (↑(List.length (C.elems (dk d3 2))) : Int) then (W2 N (dk d3 4) (C.get (List.getD (C.elems (dk d3 2)) (Int.toNat (C.toInt (dk d3 5))) C.nil) 0) (C.get (List.getD (C.elems (dk d3 2)) (Int.toNat (C.toInt (dk d3 5))) C.nil) 1) (fun d4 m4 => (jn (fun d5 m5 => (k3 [dk d5 0, dk d5 1, dk d5 2, dk d5 3, dk d5 5, C.int (IntKind.wrap IntKind.i64 (C.toInt (dk d5 4) + 1))] [])) (fun k4 => (bif decide (C.toInt (dk d4 1) = 0) then (k4 [dk d3 0, dk d3 1, dk d3 2, dk d3 3, dk d3 5, C.slice (C.elems (dk d4 0))] []) else (k4 [dk d3 0, dk d3 1, dk d3 2, dk d3 3, dk d3 5, dk d3 4] [])))))) else none) else (k2 [dk d3 0, dk d3 1, dk d3 4] [])))
noncomputable def q0Y {R : Type} (N : Nat) (a0 a1 a2 : C) (k1 : KD R) : Option R := (q1C N a0 (fun d1 m1 => (bif !C.toBool (dk d1 0) then (q0L N (fun d2 m2 => (k1 [C.bool (C.toBool (dk d2 0))] []))) else (q3s N a0 (fun d2 m2 => (jn (fun d3 m3 => (X1 N (dk d3 2) (dk d3 1) (fun d4 m4 => (jn (fun d5 m5 => (b8 N (dk d5 1) (fun d6 m6 => (bif !decide (C.toInt (dk d6 1) = 0) then (k1 [C.bool false] []) else (jn (fun d7 m7 => (F1 N (dk d7 0) (fun d8 m8 => (jn (fun d9 m9 => (q0L N (fun d10 m10 => (k1 [C.bool (C.toBool (dk d10 0))] [])))) (fun k2 => (bif decide (C.toInt (dk d8 1) = 0) then (b8 N (C.slice (C.elems (dk d8 0))) (fun d9 m9 => (jn (fun d10 m10 => (bif C.toBool (dk d10 0) then (k1 [C.bool false] []) else (k2 [] []))) (fun k3 => (bif !decide (C.toInt (dk d9 1) = 0) then (k3 [C.bool true] []) else (k3 [C.bool !C.toStr (dk d9 0) == C.toStr (dk d7 0)] [])))))) else (k2 [] []))))))) (fun k2 => (bif decide ((↑(List.length (C.toStr (dk d6 0))) : Int) ≤ 65536) then (F1 N (dk d6 0) (fun d7 m7 => (jn (fun d8 m8 => (bif C.toBool (dk d8 1) then (k1 [C.bool false] []) else (k2 [dk d8 0] []))) (fun k3 => (bif !decide (C.toInt (dk d7 1) = 0) then (k3 [dk d5 0, C.bool true] []) else (q0w N (C.slice (C.elems (dk d7 0))) (fun d8 m8 => (q0w N (dk d5 1) (fun d9 m9 => (q1c N (C.slice (C.elems (dk d8 0))) (C.slice (C.elems (dk d9 0))) (fun d10 m10 => (k3 [dk d5 0, C.bool !C.toBool (dk d10 0)] [])))))))))))) else (k2 [dk d5 0] [])))))))) (fun k2 => (bif decide (C.toInt (dk d4 1) = 0) then (jn (fun d5 m5 => (q1I N (C.slice (C.elems (dk d5 2))) (fun d6 m6 => (q1I N (C.slice (C.elems (dk d5 3))) (fun d7 m7 => (jn (fun d8 m8 => (bif C.toBool (dk d8 2) then (k1 [C.bool false] []) else (k2 [dk d8 0, dk d8 1] []))) (fun k3 => (bif decide (C.toInt (dk d6 1) = 0) then (bif decide (C.toInt (dk d7 1) = 0) then (k3 [dk d5 0, dk d5 1, C.bool !decide (C.toInt (dk d6 0) = C.toInt (dk d7 0))] []) else (k3 [dk d5 0, dk d5 1, C.bool false] [])) else (k3 [dk d5 0, dk d5 1, C.bool false] []))))))))) (fun k3 => (c4 N (F0 N k3) [dk d3 0, dk d3 2, dk d4 0, C.int (↑(List.length (C.elems (dk d4 0))) : Int), C.slice [], C.slice [], C.int 0] []))) else (k2 [dk d3 0, dk d3 2] []))))))) (fun k2 => (c4 N (H9 N k2) [a1, a2, C.slice (C.elems (dk d2 0)), C.int (↑(List.length (C.elems (dk d2 0))) : Int), C.slice [], C.int 0] []))))))))
noncomputable def q0c {R : Type} (N : Nat) : C → C → C → KD R → Option R := lid "" (q0Y N)
theorem q4U {R : Type} (N : Nat) (a0 a1 a2 : C) (k : KD R) : q0c N a0 a1 a2 k = q0Y N a0 a1 a2 k := by unfold q0c; rw [Q9]
theorem q9g {R : Type} (N : Nat) (a0 a1 a2 : C) (K : V → List (Key × O) → Option R) : exF (X0 gl0) ((q4V N).ov R) J9 (fun f r => bif Nat.beq f 7 then (bif Nat.beq r 17 then [(17, 6)] else []) else []) (fun f => bif Nat.beq f 7 then q96 else []) N 400 8 7 [.d (.slice 32 y5) a0, .d .str a1, .d (.int .u64) a2] A0 K =
  q0c N a0 a1 a2 (fun d1 m1 => K (V.d Ty.bool (C.bool (C.toBool (dk d1 0)))) []) := by
 rw [q4U]
 exact (show _ = jn (fun d1 m1 => (K (V.d Ty.bool (C.bool (C.toBool (dk d1 0)))) [])) (q0Y N a0 a1 a2) by kernel_rfl).trans (s5 _ _)
noncomputable def q1q (N : Nat) {R : Type} : OvG R := fun xs _ K => match xs with
 | [.d t0 a0, .d t1 a1, .d t2 a2] => if t0 = (.slice 32 y5) ∧ t1 = .str ∧ t2 = (.int .u64) then q0c N a0 a1 a2 (fun d1 m1 => K (V.d Ty.bool (C.bool (C.toBool (dk d1 0)))) []) else none
 | _ => none
theorem q95 (N : Nat) {R : Type} : GOk (X0 gl0) 7 (q1q N (R := R)) := by
 intro xs A Kr r hr
 unfold q1q at hr
 split at hr
 ·simp only [Option.ite_none_right_eq_some] at hr
  obtain ⟨hty, hr⟩ := hr
  obtain ⟨rfl, rfl, rfl⟩ := hty
  rw [← q9g] at hr
  exact okA (q4V N) hr
 ·cases hr
end Go.Proofs.YtefppgmopnnphaaDoor
namespace Go.Proofs.YtefppgmopnnphaaDoor
open Go Go.E
set_option maxRecDepth 100000
set_option maxHeartbeats 4000000
set_option linter.unusedSimpArgs false
variable {R : Type} {N : Nat}
theorem q2a {K : KD R} {B : KD R → Option R} (ds : List C) (ms : List Es) (h : ∀ k, B k = k ds ms) : jn K B = K ds ms := by rw [s5]; exact h K
theorem y5K (t h : C) (l : List C) (hw : ∀ x ∈ l, C.wf y5 x) (hl : l.length ≤ 200) (hN : 4398046511105 < N) (k2 : KD R) :
  c4 N (H9 N k2) [t, h, .slice l, .int (l.length : Int), .slice [], .int 0] [] = k2 [t, h, .slice (l.foldl z0u [])] [] := by
 have key := q1F (ε := Unit) (N := N) (F := H9 N k2) (fun i (j : List C) => [t, h, .slice l, .int (l.length : Int), .slice j, .int (i : Int)]) (fun _ _ => []) l
   (fun _ j x => .inl (z0u j x)) (fun j => k2 [t, h, .slice j] []) (fun _ => none) z0v (s0 := []) z74
   (fun i j x hx hi => ⟨fun rec => by
    have h0 := (List.getElem?_eq_some_iff.1 hx).1
    have h1 : (i : Int) < (l.length : Int) := by omega
    have hj := hi.1
    unfold H9
    simp only [Z4, Y5, q3H, q5z, q7O, z6Q, y7, y8, h1, q2b hx, decide_true, cond_true, Int.natCast_nonneg, and_self, if_true, Int.toNat_natCast]
    rw [y9R j x (hw x (List.mem_of_getElem? hx)) (by omega) hN]
    simp only [Z4, Y5, y7, c9 (show i < 4611686018427387904 by omega)]
    unfold z0u
    by_cases ha : z4e j x = 0
    ·rw [if_pos ha]
     simp only [ha, decide_true, cond_true, if_true]
     refine (q2a [t, h, .slice l, .int (l.length : Int), .int (i : Int), .slice (j ++ [x])] [] fun k => rfl).trans ?_
     simp only [Z4, Y5, q3H, q5z, q7O, z6Q, y7, c9 (show i < 4611686018427387904 by omega)]
    ·rw [if_neg ha]
     simp only [ha, decide_false, cond_false, if_false]
     refine (q2a [t, h, .slice l, .int (l.length : Int), .int (i : Int), .slice j] [] fun k => rfl).trans ?_
     simp only [Z4, Y5, q3H, q5z, q7O, z6Q, y7, c9 (show i < 4611686018427387904 by omega)], fun s' e => by
    cases e
    exact z5V hi (hw x (List.mem_of_getElem? hx))⟩)
   (fun j hj rec => by
    unfold H9
    simp only [Z4, Y5, q3H, q5z, q7O, z6Q, y7, y8, Int.lt_irrefl, decide_false, cond_false]) (by omega)
 rw [q4F] at key
 exact key
theorem z84 {f : w6 → C} {s : List w6} {i : Nat} {x : w6} (h : s[i]? = some x) : (s.take i).map f ++ [f x] = (s.take (i + 1)).map f := by
 rw [List.take_add_one, h]; simp
theorem y33 (t j : C) (s : List w6) (hs : s.length ≤ 1048576) (hN : 4398046511105 < N) (k3 : KD R) :
  c4 N (F0 N k3) [t, j, .slice (s.map Y0), .int ((s.map Y0).length : Int), .slice [], .slice [], .int 0] [] =
   k3 [t, j, .slice (s.map fun x => .int x.2.1), .slice (s.map fun x => .int x.2.2)] [] := by
 have key := q1K (N := N) (F := F0 N k3) (fun i => [t, j, .slice (s.map Y0), .int ((s.map Y0).length : Int), .slice ((s.take i).map fun x => .int x.2.1), .slice ((s.take i).map fun x => .int x.2.2), .int (i : Int)]) (fun _ => []) s.length
  (k3 [t, j, .slice (s.map fun x => .int x.2.1), .slice (s.map fun x => .int x.2.2)] [])
  (fun i hi rec => by
   have hx := List.getElem?_eq_getElem hi
   generalize s[i] = x at hx
   have hd : (s.map Y0).getD i C.nil = Y0 x := q2b (by rw [List.getElem?_map, hx]; rfl)
   have h1 : (i : Int) < (s.length : Int) := by omega
   have g1 : (Y0 x).get 1 = .int x.2.1 := rfl
   have g2 : (Y0 x).get 2 = .int x.2.2 := rfl
   have t1 := z84 (f := fun x => C.int x.2.1) hx
   have t2 := z84 (f := fun x => C.int x.2.2) hx
   have ht : (s.take i).length = i := by rw [List.length_take]; omega
   have ht2 : (s.take (i + 1)).length = i + 1 := by rw [List.length_take]; omega
   have hc : (i + 1) * 8 ≤ 140737488355328 ∧ i + 1 ≤ 9223372036854775807 := by omega
   unfold F0
   simp only [Z4, Y5, q3H, q5z, q7O, z6Q, y9L, y7, y8, List.length_map, h1, hd, g1, g2, t1, t2, ht, ht2, hc, decide_true, cond_true, Int.natCast_nonneg, and_self, if_true, Int.toNat_natCast, Nat.beq_refl, c9 (show i < 4611686018427387904 by omega)])
  (fun rec => by
   unfold F0
   simp only [Z4, Y5, q3H, q5z, q7O, z6Q, y9L, y7, y8, List.length_map, Int.lt_irrefl, decide_false, cond_false, List.take_length, Nat.beq_refl, cond_true]) (by omega)
 exact key
theorem y5P {s : List w6} (hs : z8S s) : (∀ c ∈ s.map (fun x => C.int x.2.1), W64 c.toInt) ∧ ∀ c ∈ s.map (fun x => C.int x.2.2), W64 c.toInt := by
 constructor
 ·intro c hc
  obtain ⟨x, hx, rfl⟩ := List.mem_map.1 hc
  exact (hs x hx).1
 ·intro c hc
  obtain ⟨x, hx, rfl⟩ := List.mem_map.1 hc
  exact (hs x hx).2
theorem y4l {h : Int} {j : List C} {s : List w6} {m n : Int} (hr : ∀ x ∈ j, q1G x) (e : z3y h [] j = .inl s)
  (hm : q9D ((srt s).map fun x => C.int x.2.1) = .inl m) (hn : q9D ((srt s).map fun x => C.int x.2.2) = .inl n) : m = n := by
 have e1 := z3v (fun v => v.1) (srt s) 0 0 m hm
 have e2 := z3v (fun v => v.2) (srt s) 0 0 n hn
 have e3 := y1X (srt s)
 have e4 := y56 fB (q9I s)
 have e5 := z6e j 0 [] s hr e
 have e6 : tot fB [] = 0 := rfl
 omega
theorem z6Y (l : List C) (t : List UInt8) (h : Int) (hw : ∀ x ∈ l, C.wf y5 x) (hl : l.length * 32 ≤ 140737488355328) (hN : 140737488355329 < N) (k : KD R) :
  q0c N (.slice l) (.str t) (.int h) k = k [.bool true] [] := by
 rw [q4U]
 unfold q0Y
 rw [z6v l hw hl (by omega)]
 simp only [Z4, x9]
 cases hb : y0b l with
 | false =>
  simp only [Bool.not_false, cond_true]
  rw [z5O]
  rfl
 | true =>
  have h200 : l.length ≤ 200 := by
   unfold y0b at hb
   simp only [Bool.and_eq_true, decide_eq_true_eq] at hb
   omega
  have hA : z0v (0 + l.length) (l.foldl z0u []) := z5W l 0 [] z74 hw
  have hB := fun (k2 : KD R) => y5K (N := N) (.str t) (.int h) l hw h200 (by omega) k2
  generalize l.foldl z0u [] = j at hA hB
  obtain ⟨j1, j2, j3, j4⟩ := hA
  have hcj := z5G j j3
  simp only [Bool.not_true, cond_false]
  rw [y1E l hw hl (by omega)]
  refine (q2a [.str t, .int h, .slice j] [] fun k2 => hB k2).trans ?_
  simp only [Y5, q3H]
  rw [y7v j h j2 (by omega) (by omega) (by omega)]
  have f1 : ∀ k : KD R, q0w N (C.slice j) k = k [.slice j] [] := z8p j j2 (by omega) (by omega)
  have f2 : ∀ k : KD R, q1c N (C.slice j) (C.slice j) k = k [.bool true] [] := y5R j j2 (by omega) (by omega)
  have f3 : ∀ k : KD R, b8 N (C.slice j) k = k [.str (q42 (UInt8.ofNat 10) (j.map F9)), .int 0] [] := fun k => by
   rw [y0l j j2 (by omega) hN, y1W j3]
  cases hr : z3y h [] j
  all_goals refine (q2a [.str t, .slice j] [] fun k2 => ?_).trans ?_
  ·rename_i s
   obtain ⟨ks, kl⟩ := y11 y5T j2 hr
   have hs : (srt s).length ≤ 1048576 := by
    rw [(q9I s).length_eq]
    simp only [List.length_nil] at kl
    omega
   have hg : z8S (srt s) := fun x hx => ks.1 x ((q9I s).mem_iff.1 hx)
   obtain ⟨w1, w2⟩ := y5P hg
   simp only [Z4, Y5, q3H, y7, y8, decide_true, cond_true]
   refine (q2a [.str t, .slice j, .slice ((srt s).map fun x => .int x.2.1), .slice ((srt s).map fun x => .int x.2.2)] [] fun k3 => y33 _ _ _ hs (by omega) k3).trans ?_
   simp only [Z4, Y5, q3H, q5z, y8]
   rw [z6i _ w1 (by rw [List.length_map]; omega) (by omega)]
   cases hm : q9D ((srt s).map fun x => C.int x.2.1) with
   | inr u =>
    unfold z57
    dsimp only
    rw [z6i _ w2 (by rw [List.length_map]; omega) (by omega)]
    cases hn : q9D ((srt s).map fun x => C.int x.2.2) with
    | inr u => exact (q2a [.str t, .slice j, .bool false] [] fun k3 => rfl)
    | inl n => exact (q2a [.str t, .slice j, .bool false] [] fun k3 => rfl)
   | inl m =>
    unfold z57
    dsimp only
    rw [z6i _ w2 (by rw [List.length_map]; omega) (by omega)]
    cases hn : q9D ((srt s).map fun x => C.int x.2.2) with
    | inr u => exact (q2a [.str t, .slice j, .bool false] [] fun k3 => rfl)
    | inl n =>
     have e := y4l j3 hr hm hn
     subst e
     refine (q2a [.str t, .slice j, .bool false] [] fun k3 => ?_)
     simp only [Z4, Y5, y7, decide_true, cond_true, Bool.not_true]
  rotate_left
  ·rfl
  all_goals
   simp only [Z4, Y5, f3, y7, J7, decide_true, Bool.not_true, cond_false]
   refine (q2a [.str t] [] fun k2 => ?_).trans ?_
   ·by_cases hlen : (q42 (UInt8.ofNat 10) (j.map F9)).length ≤ 65536
    ·have hlen' : ((q42 (UInt8.ofNat 10) (j.map F9)).length : Int) ≤ 65536 := by omega
     simp only [hlen', decide_true, cond_true]
     rw [z7E _ hN, y4L j2 j3 j4 hlen]
     refine (q2a [.str t, .bool false] [] fun k3 => ?_).trans ?_
     ·simp only [Z4, Y5, y7, y8, x9, f1, f2, decide_true, Bool.not_true, cond_false]
     ·rfl
    ·have hlen' : ¬ ((q42 (UInt8.ofNat 10) (j.map F9)).length : Int) ≤ 65536 := by omega
     simp only [hlen', decide_false, cond_false]
   simp only [Z4]
   rw [z7E _ hN]
   refine (q2a [] [] fun k2 => ?_).trans ?_
   ·by_cases h0 : (q7p t).2 = 0
    ·obtain ⟨y, y1, y2, y3, y4⟩ := y6x h0
     simp only [Z4, Y5, y7, h0, y1, y8, decide_true, cond_true]
     rw [y0l y y2.2 (by have := y2.1; omega) hN, y4]
     refine (q2a [.bool false] [] fun k3 => ?_).trans ?_
     ·simp only [Z4, Y5, y7, J7, decide_true, Bool.not_true, cond_false, beq_self_eq_true]
     ·rfl
    ·simp only [Y5, y7, h0, decide_false, cond_false]
   rw [z5O]
   rfl
theorem z4z (A : Key → Option O) (l t h : C) : j7 (X0 gl0) 7 [.d (.slice 32 y5) l, .d .str t, .d (.int .u64) h] A (.d .bool (.bool true)) [] := by
 refine y5A (ts := [.slice 32 y5, .str, .int .u64]) (cs := [l, t, h]) fun W => ?_
 have h0 := W 0 _ _ rfl rfl
 have h1 := W 1 _ _ rfl rfl
 have h2 := W 2 _ _ rfl rfl
 simp only [C.wf] at h0 h1 h2
 refine y9x (q95 140737488355330) ?_
 show q1q 140737488355330 [.d (.slice 32 y5) l, .d .str t, .d (.int .u64) h] A kR = _
 simp only [q1q, and_self, if_true]
 rw [h0.1, h1.1, h2.1, z6Y l.elems t.toStr h.toInt h0.2.2.2 h0.2.1 (by omega)]
 rfl
end Go.Proofs.YtefppgmopnnphaaDoor
