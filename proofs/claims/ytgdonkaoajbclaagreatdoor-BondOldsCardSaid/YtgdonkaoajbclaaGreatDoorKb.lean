/-
 What the functions on the way compute, part 2.
 Conditions: none.
-/
import Derived.Test.YtgdonkaoajbclaaGreatDoorKa
set_option linter.all false
namespace Go.Proofs.YtgdonkaoajbclaaGreatDoor
open Go Go.E
set_option maxRecDepth 100000
set_option maxHeartbeats 4000000
set_option linter.unusedVariables false
noncomputable def z6B : Hints := [([0, 0, 1, 1], ⟨[2, 3, 4, 5], [(16, .d .bool)], [], [], [], []⟩),
  ([1, 0, 1, 1], ⟨[4, 5], [], [], [], [], []⟩),
  ([1, 2, 1, 0, 1, 1], ⟨[4, 5], [], [], [], [], []⟩),
  ([4, 1, 2, 1, 0, 1, 1], ⟨[2, 3, 4, 5], [(17, .d (.int .i64))], [], [], [], []⟩),
  ([9], ⟨[], [(4, .as (.ptr (.l 4) [] Y2))], [], [(.l 4, .box (.d Y2))], [], []⟩)]
noncomputable def q9c (N : Nat) : OvS (X0 gl0) where
 g R := [(44, z0x N), (45, z2b N)]
 ok := fun R => List.forall_mem_cons.2 ⟨y3n N, List.forall_mem_cons.2 ⟨y4R N, fun _ h => nomatch h⟩⟩
noncomputable def q9d {R : Type} (N : Nat) (k3 : KD R) : KD R → List C → List Es → Option R := (fun k4 d2 m2 => (bif decide (C.toInt (dk d2 2) < 2) then (if 0 ≤ C.toInt (dk d2 2) ∧ C.toInt (dk d2 2) < 2 then (if 0 ≤ C.toInt (dk d2 2) ∧ C.toInt (dk d2 2) < 2 then (q3X N (C.get (dk d2 0) 0) (dk d2 1) (fun d3 m3 => (q2R N (C.get (dk d2 0) 0) (C.get (C.get (dk d2 0) 1) (Int.toNat (C.toInt (dk d2 2)))) (C.get (C.get (dk d2 0) 2) (Int.toNat (C.toInt (dk d2 2)))) (C.int (IntKind.wrap IntKind.i64 (C.toInt (C.get (dk d2 1) 1)))) (dk d3 0) (fun d4 m4 => (if 0 ≤ C.toInt (dk d2 2) ∧ C.toInt (dk d2 2) < 2 then (k4 [dk d2 0, dk d2 1, C.int (IntKind.wrap IntKind.i64 (C.toInt (dk d2 2) + 1)), dk d2 3, C.set (dk d2 4) 1 (C.set (C.get (dk d2 4) 1) (Int.toNat (C.toInt (dk d2 2))) (dk d4 0))] []) else none))))) else none) else none) else (k3 [dk d2 3, dk d2 4] [])))
noncomputable def q0b {R : Type} (N : Nat) (a0 a1 : C) (k1 : KD R) : Option R := (jn (fun d1 m1 => (jn (fun d2 m2 => (k1 [dk d2 1] [])) (fun k2 => (bif C.toBool (dk d1 2) then (jn (fun d2 m2 => (k2 [dk d2 0, dk d2 1] [])) (fun k3 => (u3 N (q9d N k3) [dk d1 0, dk d1 1, C.int 0, dk d1 3, dk d1 4] []))) else (k2 [dk d1 3, dk d1 4] []))))) (fun k2 => (bif decide (0 < C.toInt (C.get a1 1)) then (k2 [a0, a1, C.bool (decide (C.toInt (C.get a1 1) < 4)), C.agg [C.agg [z0 (Ty.int IntKind.u32), z0 (Ty.int IntKind.u64), z0 (Ty.arr 2 (Ty.int IntKind.u64)), z0 (Ty.arr 2 (Ty.int IntKind.u64)), C.slice []], z0 (Ty.arr 2 j8)], C.agg [a1, z0 (Ty.arr 2 j8)]] []) else (k2 [a0, a1, C.bool false, C.agg [C.agg [z0 (Ty.int IntKind.u32), z0 (Ty.int IntKind.u64), z0 (Ty.arr 2 (Ty.int IntKind.u64)), z0 (Ty.arr 2 (Ty.int IntKind.u64)), C.slice []], z0 (Ty.arr 2 j8)], C.agg [a1, z0 (Ty.arr 2 j8)]] []))))
noncomputable def J9 {R : Type} (N : Nat) : C → C → KD R → Option R := lid "" (q0b N)
theorem q2o {R : Type} (N : Nat) (a0 a1 : C) (k : KD R) : J9 N a0 a1 k = q0b N a0 a1 k := by unfold J9; rw [w6]
theorem z5c {R : Type} (N : Nat) (a0 a1 : C) (K : V → List (Key × O) → Option R) : exF (X0 gl0) ((q9c N).ov R) s5 (fun f r => bif Nat.beq f 14 then (bif Nat.beq r 0 then [(2, 5), (3, 5)] else bif Nat.beq r 6 then [(37, 7), (38, 7)] else []) else []) (fun f => bif Nat.beq f 14 then z6B else []) N 400 8 14 [.d H0 a0, .d w4 a1] A0 K =
  J9 N a0 a1 (fun d1 m1 => K (V.d Y2 (dk d1 0)) []) := by
 rw [q2o]
 exact (show _ = jn (fun d1 m1 => (K (V.d Y2 (dk d1 0)) [])) (q0b N a0 a1) by kernel_rfl).trans (y4 _ _)
noncomputable def q5w (N : Nat) {R : Type} : OvG R := fun xs _ K => match xs with
 | [.d t0 a0, .d t1 a1] => if t0 = H0 ∧ t1 = w4 then J9 N a0 a1 (fun d1 m1 => K (V.d Y2 (dk d1 0)) []) else none
 | _ => none
theorem z6A (N : Nat) {R : Type} : GOk (X0 gl0) 14 (q5w N (R := R)) := by
 intro xs A Kr r hr
 unfold q5w at hr
 split at hr
 ·simp only [Option.ite_none_right_eq_some] at hr
  obtain ⟨hty, hr⟩ := hr
  obtain ⟨rfl, rfl⟩ := hty
  rw [← z5c] at hr
  exact okA (q9c N) hr
 ·cases hr
noncomputable def y3y : Hints := [([9], ⟨[], [(0, .as (.ptr (.l 0) [] o7))], [], [(.l 0, .box (.d o7))], [], []⟩)]
noncomputable def z4E (N : Nat) : OvS (X0 gl0) where
 g R := []
 ok := fun R => fun _ h => nomatch h
noncomputable def q5Y {R : Type} (N : Nat) (k1 : KD R) : Option R := (k1 [C.set (C.set (C.agg [C.str [], C.str []]) 0 (C.str [54, 97, 48, 57, 101, 54, 54, 55, 98, 98, 54, 55, 97, 101, 56, 53, 51, 99, 54, 101, 102, 51, 55, 50, 97, 53, 52, 102, 102, 53, 51, 97, 53, 49, 48, 101, 53, 50, 55, 102, 57, 98, 48, 53, 54, 56, 56, 99, 49, 102, 56, 51, 100, 57, 97, 98, 53, 98, 101, 48, 99, 100, 49, 57])) 1 (C.str [52, 50, 56, 97, 50, 102, 57, 56, 55, 49, 51, 55, 52, 52, 57, 49, 98, 53, 99, 48, 102, 98, 99, 102, 101, 57, 98, 53, 100, 98, 97, 53, 51, 57, 53, 54, 99, 50, 53, 98, 53, 57, 102, 49, 49, 49, 102, 49, 57, 50, 51, 102, 56, 50, 97, 52, 97, 98, 49, 99, 53, 101, 100, 53, 100, 56, 48, 55, 97, 97, 57, 56, 49, 50, 56, 51, 53, 98, 48, 49, 50, 52, 51, 49, 56, 53, 98, 101, 53, 53, 48, 99, 55, 100, 99, 51, 55, 50, 98, 101, 53, 100, 55, 52, 56, 48, 100, 101, 98, 49, 102, 101, 57, 98, 100, 99, 48, 54, 97, 55, 99, 49, 57, 98, 102, 49, 55, 52, 101, 52, 57, 98, 54, 57, 99, 49, 101, 102, 98, 101, 52, 55, 56, 54, 48, 102, 99, 49, 57, 100, 99, 54, 50, 52, 48, 99, 97, 49, 99, 99, 50, 100, 101, 57, 50, 99, 54, 102, 52, 97, 55, 52, 56, 52, 97, 97, 53, 99, 98, 48, 97, 57, 100, 99, 55, 54, 102, 57, 56, 56, 100, 97, 57, 56, 51, 101, 53, 49, 53, 50, 97, 56, 51, 49, 99, 54, 54, 100, 98, 48, 48, 51, 50, 55, 99, 56, 98, 102, 53, 57, 55, 102, 99, 55, 99, 54, 101, 48, 48, 98, 102, 51, 100, 53, 97, 55, 57, 49, 52, 55, 48, 54, 99, 97, 54, 51, 53, 49, 49, 52, 50, 57, 50, 57, 54, 55, 50, 55, 98, 55, 48, 97, 56, 53, 50, 101, 49, 98, 50, 49, 51, 56, 52, 100, 50, 99, 54, 100, 102, 99, 53, 51, 51, 56, 48, 100, 49, 51, 54, 53, 48, 97, 55, 51, 53, 52, 55, 54, 54, 97, 48, 97, 98, 98, 56, 49, 99, 50, 99, 57, 50, 101, 57, 50, 55, 50, 50, 99, 56, 53, 97, 50, 98, 102, 101, 56, 97, 49, 97, 56, 49, 97, 54, 54, 52, 98, 99, 50, 52, 98, 56, 98, 55, 48, 99, 55, 54, 99, 53, 49, 97, 51, 100, 49, 57, 50, 101, 56, 49, 57, 100, 54, 57, 57, 48, 54, 50, 52, 102, 52, 48, 101, 51, 53, 56, 53, 49, 48, 54, 97, 97, 48, 55, 48, 49, 57, 97, 52, 99, 49, 49, 54, 49, 101, 51, 55, 54, 99, 48, 56, 50, 55, 52, 56, 55, 55, 52, 99, 51, 52, 98, 48, 98, 99, 98, 53, 51, 57, 49, 99, 48, 99, 98, 51, 52, 101, 100, 56, 97, 97, 52, 97, 53, 98, 57, 99, 99, 97, 52, 102, 54, 56, 50, 101, 54, 102, 102, 51, 55, 52, 56, 102, 56, 50, 101, 101, 55, 56, 97, 53, 54, 51, 54, 102, 56, 52, 99, 56, 55, 56, 49, 52, 56, 99, 99, 55, 48, 50, 48, 56, 57, 48, 98, 101, 102, 102, 102, 97, 97, 52, 53, 48, 54, 99, 101, 98, 98, 101, 102, 57, 97, 51, 102, 55, 99, 54, 55, 49, 55, 56, 102, 50])] [])
noncomputable def q2V {R : Type} (N : Nat) : KD R → Option R := lid "" (q5Y N)
theorem z4D {R : Type} (N : Nat)  (k : KD R) : q2V N  k = q5Y N  k := by unfold q2V; rw [w6]
theorem y1F {R : Type} (N : Nat)  (K : V → List (Key × O) → Option R) : exF (X0 gl0) ((z4E N).ov R) s5 noX (fun f => bif Nat.beq f 31 then y3y else []) N 400 8 31 [] A0 K =
  q2V N  (fun d1 m1 => K (V.d o7 (dk d1 0)) []) := by
 rw [z4D]
 exact (show _ = jn (fun d1 m1 => (K (V.d o7 (dk d1 0)) [])) (q5Y N ) by kernel_rfl).trans (y4 _ _)
noncomputable def z0B (N : Nat) {R : Type} : OvG R := fun xs _ K => match xs with
 | [] => q2V N  (fun d1 m1 => K (V.d o7 (dk d1 0)) [])
 | _ => none
theorem y3x (N : Nat) {R : Type} : GOk (X0 gl0) 31 (z0B N (R := R)) := by
 intro xs A Kr r hr
 unfold z0B at hr
 split at hr
 ·skip
  rw [← y1F] at hr
  exact okA (z4E N) hr
 ·cases hr
noncomputable def y30 : Hints := [([1, 0, 1, 1], ⟨[4, 5], [], [], [], [], []⟩),
  ([9], ⟨[], [(4, .as (.ptr (.l 4) [] H0))], [], [(.l 4, .box (.d H0))], [], []⟩)]
noncomputable def z4Q (N : Nat) : OvS (X0 gl0) where
 g R := [(31, z0B N), (32, z0y N)]
 ok := fun R => List.forall_mem_cons.2 ⟨y3x N, List.forall_mem_cons.2 ⟨y3p N, fun _ h => nomatch h⟩⟩
noncomputable def q54 {R : Type} (N : Nat) (a0 a1 : C) (k1 : KD R) : Option R := (q2V N (fun d1 m1 => (jn (fun d2 m2 => (k1 [dk d2 1] [])) (fun k2 => (q1v N (dk d1 0) a0 (C.int 2) (fun d2 m2 => (bif Nat.beq (List.length (C.elems (dk d2 0))) (List.length (C.elems (dk d2 0))) then (q1v N (dk d1 0) a1 (C.int 2) (fun d3 m3 => (bif Nat.beq (List.length (C.elems (dk d3 0))) (List.length (C.elems (dk d3 0))) then (k2 [C.agg [C.agg [C.str [], C.str []], C.agg [C.agg (List.replicate 32 (C.int 0)), C.agg (List.replicate 32 (C.int 0))], C.agg [C.slice [], C.slice []]], C.agg [dk d1 0, C.set (C.set (z0 (Ty.arr 2 (Ty.arr 32 (Ty.int IntKind.u8)))) 0 a0) 1 a1, C.agg [C.slice (C.elems (dk d2 0)), C.slice (C.elems (dk d3 0))]]] []) else none))) else none)))))))
noncomputable def q22 {R : Type} (N : Nat) : C → C → KD R → Option R := lid "" (q54 N)
theorem z4P {R : Type} (N : Nat) (a0 a1 : C) (k : KD R) : q22 N a0 a1 k = q54 N a0 a1 k := by unfold q22; rw [w6]
theorem y1T {R : Type} (N : Nat) (a0 a1 : C) (K : V → List (Key × O) → Option R) : exF (X0 gl0) ((z4Q N).ov R) s5 (fun f r => bif Nat.beq f 7 then (bif Nat.beq r 0 then [(2, 5), (3, 5)] else bif Nat.beq r 1 then [(7, 7)] else []) else []) (fun f => bif Nat.beq f 7 then y30 else []) N 400 8 7 [.d (.arr 32 (.int .u8)) a0, .d (.arr 32 (.int .u8)) a1] A0 K =
  q22 N a0 a1 (fun d1 m1 => K (V.d H0 (dk d1 0)) []) := by
 rw [z4P]
 exact (show _ = jn (fun d1 m1 => (K (V.d H0 (dk d1 0)) [])) (q54 N a0 a1) by kernel_rfl).trans (y4 _ _)
noncomputable def z08 (N : Nat) {R : Type} : OvG R := fun xs _ K => match xs with
 | [.d t0 a0, .d t1 a1] => if t0 = (.arr 32 (.int .u8)) ∧ t1 = (.arr 32 (.int .u8)) then q22 N a0 a1 (fun d1 m1 => K (V.d H0 (dk d1 0)) []) else none
 | _ => none
theorem y3Z (N : Nat) {R : Type} : GOk (X0 gl0) 7 (z08 N (R := R)) := by
 intro xs A Kr r hr
 unfold z08 at hr
 split at hr
 ·simp only [Option.ite_none_right_eq_some] at hr
  obtain ⟨hty, hr⟩ := hr
  obtain ⟨rfl, rfl⟩ := hty
  rw [← y1T] at hr
  exact okA (z4Q N) hr
 ·cases hr
end Go.Proofs.YtgdonkaoajbclaaGreatDoor
namespace Go.Proofs.YtgdonkaoajbclaaGreatDoor
open Go Go.E
set_option maxRecDepth 100000
set_option maxHeartbeats 4000000
set_option linter.unusedSimpArgs false
set_option linter.unusedSectionVars false
variable {R : Type} {N : Nat}
theorem x0f (hN : 10 < N) (k : KD R) : q16 N (.int 2) k = k [.int 4] [] := by
 rw [z2L]
 unfold q43
 rw [y4]
 refine q2v (F := z2N N fun d1 m1 => k [dk d1 0] []) (fun i => [.int 2, .int ((2 ^ i : Nat) : Int), .int i]) (fun _ => []) 2 (k [.int 4] []) ?_ ?_ (N := N) (by omega)
 ·intro i hi rec
  rcases (by omega : i = 0 ∨ i = 1) with rfl | rfl <;> rfl
 ·intro rec
  rfl
structure StW (s : C) : Prop where
 ch : W64 (s.get 0).toInt
 rd : W64 (s.get 1).toInt
 p0 : W64 ((s.get 2).get 0).toInt
 p1 : W64 ((s.get 2).get 1).toInt
 q0 : W64 ((s.get 3).get 0).toInt
 q1 : W64 ((s.get 3).get 1).toInt
 cs : ∀ c ∈ (s.get 4).elems, z7M c
 ln : (s.get 4).elems.length ≤ 12
theorem y8J (s : C) (h : StW s) (hN : 1000 < N) : ∃ o : List C, o.length ≤ 800 ∧ ∀ k : KD R, q15 N (.slice []) s k = k [.slice o] [] := by
 generalize hcs : C.elems (C.get s 4) = cs
 have hl : cs.length ≤ 12 := hcs ▸ h.ln
 have hw : ∀ c ∈ cs, z7M c := fun c hc => h.cs c (hcs ▸ hc)
 have num : ∀ (out : List C) (c : C) (S : Nat), W64 c.toInt → S ≤ 8 → out.length ≤ 1000 → ∀ k : KD R, Q7 N (.slice out) c (.int S) k = k [.slice (out ++ J7 S c.toInt)] [] := fun out c S hc hS ho k => z0e out c hc S hS (by omega) (by omega) k
 have n1 := num [] (.int (IntKind.u64.wrap (s.get 0).toInt)) 4 (q3S _) (by omega) (by simp)
 generalize h1 : ([] ++ J7 4 (C.int (IntKind.u64.wrap (s.get 0).toInt)).toInt : List C) = o1 at n1
 have l1 : o1.length = 4 := by rw [← h1]; simp [Z4]
 have n2 := num o1 (s.get 1) 8 h.rd (by omega) (by omega)
 generalize h2 : o1 ++ J7 8 (s.get 1).toInt = o2 at n2
 have l2 : o2.length = 12 := by rw [← h2]; simp [Z4, l1]
 have n3 := num o2 ((s.get 2).get 0) 8 h.p0 (by omega) (by omega)
 generalize h3 : o2 ++ J7 8 ((s.get 2).get 0).toInt = o3 at n3
 have l3 : o3.length = 20 := by rw [← h3]; simp [Z4, l2]
 have n4 := num o3 ((s.get 2).get 1) 8 h.p1 (by omega) (by omega)
 generalize h4 : o3 ++ J7 8 ((s.get 2).get 1).toInt = o4 at n4
 have l4 : o4.length = 28 := by rw [← h4]; simp [Z4, l3]
 have n5 := num o4 ((s.get 3).get 0) 8 h.q0 (by omega) (by omega)
 generalize h5 : o4 ++ J7 8 ((s.get 3).get 0).toInt = o5 at n5
 have l5 : o5.length = 36 := by rw [← h5]; simp [Z4, l4]
 have n6 := num o5 ((s.get 3).get 1) 8 h.q1 (by omega) (by omega)
 generalize h6 : o5 ++ J7 8 ((s.get 3).get 1).toInt = o6 at n6
 have l6 : o6.length = 44 := by rw [← h6]; simp [Z4, l5]
 obtain ⟨d, ⟨o, ho, rfl⟩, hh⟩ := j6 (R := R) (F := fun k2 => q42 N k2) cs.length (fun i st => ∃ o : List C, o.length ≤ 45 + 57 * i ∧ st = [s, .slice o, .int i]) (fun d => ∃ o : List C, o.length ≤ 800 ∧ d = [.slice o])
  (fun i st hi hst => by
   obtain ⟨o, ho, rfl⟩ := hst
   have e1 : (i : Int) < (cs.length : Int) := by omega
   have hcw := hw _ (q3s hi)
   have hl2 := y24 hcw
   refine ⟨_, ⟨o ++ z10 (cs.getD i .nil), by rw [List.length_append, hl2]; omega, rfl⟩, fun k rec => ?_⟩
   unfold q42
   simp only [x9, w7, w9, y8, y7, hcs, e1, decide_true, cond_true, Int.natCast_nonneg, and_self, if_true, Int.toNat_natCast, Nat.beq_refl, x1L o _ hcw (by omega) (show 200 < N by omega), u5 (show i < 4611686018427387904 by omega)])
  (fun st hst => by
   obtain ⟨o, ho, rfl⟩ := hst
   refine ⟨_, ⟨o, by omega, rfl⟩, fun k rec => ?_⟩
   unfold q42
   simp only [x9, w7, w9, y8, y7, hcs, Int.lt_irrefl, decide_false, cond_false, cond_true, Nat.beq_refl])
  (N := N) (by omega) (st := [s, .slice (o6 ++ [C.int (IntKind.wrap IntKind.u8 (cs.length : Int))]), .int (0 : Nat)]) ⟨_, by simp; omega, rfl⟩
 refine ⟨o, ho, fun k => ?_⟩
 rw [z2J]
 unfold q2P
 have e4 : C.int 4 = C.int ((4 : Nat) : Int) := rfl
 have e8 : C.int 8 = C.int ((8 : Nat) : Int) := rfl
 have t0 : Int.toNat 0 = 0 := rfl
 have t1 : Int.toNat 1 = 1 := rfl
 simp only [y4, e4, e8, t0, t1, n1, n2, n3, n4, n5, n6, x9, y7, Nat.beq_refl, cond_true, hcs, l6, List.length_append, List.length_cons, List.length_nil, Nat.zero_add]
 refine (if_pos (by omega)).trans ?_
 refine (hh _).trans ?_
 simp only [x9, y7, Nat.beq_refl, cond_true]
def z9C (x : C) : Prop := ∃ (a b : C) (p : List C), x = .agg [a, b, .slice p] ∧ p.length ≤ 10
section
variable {t : C} (hOf : ∀ (p : List C), p.length ≤ 200000 → ∃ c, Dig c ∧ ∀ k : KD R, X9 N t (.slice p) k = k [c] [])
include hOf
theorem x1K (s : C) (h : StW s) (hN : 1000 < N) : ∃ c, Dig c ∧ ∀ k : KD R, q3X N t s k = k [c] [] := by
 have n1 : ∀ k : KD R, Q7 N (.slice []) (.int (IntKind.u64.wrap (s.get 0).toInt)) (.int ((4 : Nat) : Int)) k = k [.slice ([] ++ J7 4 (IntKind.u64.wrap (s.get 0).toInt))] [] := fun k => z0e [] (.int (IntKind.u64.wrap (s.get 0).toInt)) (q3S _) 4 (by omega) (by simp) (by omega) k
 obtain ⟨o, ho, h1⟩ := y8J (R := R) (N := N) s h hN
 obtain ⟨x, hx, h2⟩ := y6R (R := R) (N := N) (.int 4) [C.slice ([] ++ J7 4 (IntKind.u64.wrap (s.get 0).toInt)), C.slice o] 900 (fun x hx => by
  simp only [List.mem_cons, List.not_mem_nil, or_false] at hx
  rcases hx with rfl | rfl
  ·exact ⟨_, rfl, by simp [Z4]⟩
  ·exact ⟨_, rfl, by omega⟩) (by omega) (by simp) hN
 obtain ⟨c, hc, h3⟩ := hOf x (by simp at hx; omega)
 refine ⟨c, hc, fun k => ?_⟩
 have e4 : C.int 4 = C.int ((4 : Nat) : Int) := rfl
 rw [z5J]
 unfold q6K
 rw [z4n]
 unfold q5N
 rw [show (C.int 4 : C) = C.int ((4 : Nat) : Int) from rfl, n1]
 simp only [x9, y7, h1]
 rw [show (C.int ((4 : Nat) : Int) : C) = C.int 4 from rfl, h2]
 simp only [x9, y7, h3]
theorem y2y (sec : C) (hN : 2000 < N) : ∃ r0 r1 r2 : List C, r0.length = 4 ∧ r1.length = 2 ∧ r2.length = 1 ∧ ∀ k : KD R, q1v N t sec (.int 2) k = k [.slice [.slice r0, .slice r1, .slice r2]] [] := by
 obtain ⟨d, ⟨r0, hr0, rfl⟩, h⟩ := j6 (R := R) (F := fun k2 => q5P N k2) 4 (fun i st => ∃ o : List C, o.length = i ∧ st = [.int 2, t, sec, .slice o, .int i]) (fun d => ∃ o : List C, o.length = 4 ∧ d = [t, .slice o])
  (fun i st hi hst => by
   obtain ⟨o, ho, rfl⟩ := hst
   have e1 : (i : Int) < 4 := by omega
   obtain ⟨c, hc, h1⟩ := x0e hOf sec (C.int (IntKind.wrap IntKind.u32 (i : Int))) (by omega)
   have g1 : (i + 1) * 32 ≤ 140737488355328 ∧ i + 1 ≤ 9223372036854775807 := by omega
   refine ⟨_, ⟨o ++ [c], by simp [ho], rfl⟩, fun k rec => ?_⟩
   unfold q5P
   simp only [x9, w7, w9, u6, j3, y8, y7, x0f (show 10 < N by omega), e1, h1, ho, g1, decide_true, cond_true, and_self, if_true, Nat.beq_refl, List.length_append, List.length_cons, List.length_nil, Nat.zero_add, u5 (show i < 4611686018427387904 by omega)])
  (fun st hst => by
   obtain ⟨o, ho, rfl⟩ := hst
   refine ⟨_, ⟨o, ho, rfl⟩, fun k rec => ?_⟩
   unfold q5P
   have e : ¬ ((4 : Nat) : Int) < 4 := by decide
   simp only [x9, w7, w9, u6, j3, y8, y7, x0f (show 10 < N by omega), e, decide_false, cond_false, cond_true, Nat.beq_refl])
  (N := N) (by omega) (st := [.int 2, t, sec, .slice [], .int (0 : Nat)]) ⟨[], rfl, rfl⟩
 have inner : ∀ (m : Nat) (row rows : List C), row.length = 2 * m → m ≤ 100 → ∃ up : List C, up.length = m ∧ ∀ k : KD R, u3 N (q3I N k) [t, .slice row, .slice rows, .slice [], .int 0] [] = k [t, .slice rows, .slice up] [] := by
  intro m row rows hr hm
  obtain ⟨d, ⟨up, hup, rfl⟩, h⟩ := j6 (R := R) (F := fun k2 => q3I N k2) m (fun i st => ∃ up : List C, up.length = i ∧ st = [t, .slice row, .slice rows, .slice up, .int (2 * (i : Int))]) (fun d => ∃ up : List C, up.length = m ∧ d = [t, .slice rows, .slice up])
   (fun i st hi hst => by
    obtain ⟨up, hup, rfl⟩ := hst
    have e1 : 2 * (i : Int) < (row.length : Int) := by omega
    have c1 : 0 ≤ 2 * (i : Int) ∧ 2 * (i : Int) < (row.length : Int) := by omega
    have w1 : IntKind.i64.wrap (2 * (i : Int) + 1) = 2 * i + 1 := wrap_i64 (by omega) (by omega)
    have w2 : IntKind.i64.wrap (2 * (i : Int) + 2) = 2 * ((i + 1 : Nat) : Int) := by rw [wrap_i64 (by omega) (by omega)]; omega
    have c2 : 0 ≤ 2 * (i : Int) + 1 ∧ 2 * (i : Int) + 1 < (row.length : Int) := by omega
    have g1 : (i + 1) * 32 ≤ 140737488355328 ∧ i + 1 ≤ 9223372036854775807 := by omega
    obtain ⟨c, hc, h1⟩ := z3z hOf (.int 3) [C.slice (cut (C.elems (List.getD row (2 * (i : Int)).toNat C.nil)) 0 32), C.slice (cut (C.elems (List.getD row (2 * (i : Int) + 1).toNat C.nil)) 0 32)] 100 (fun x hx => by
     simp only [List.mem_cons, List.not_mem_nil, or_false] at hx
     rcases hx with rfl | rfl
     ·exact ⟨_, rfl, by simp [cut]; omega⟩
     ·exact ⟨_, rfl, by simp [cut]; omega⟩) (by omega) (by simp) (by omega)
    refine ⟨_, ⟨up ++ [c], by simp [hup], rfl⟩, fun k rec => ?_⟩
    unfold q3I
    simp only [x9, w7, w9, u6, j3, y8, y7, e1, c1, c2, w1, w2, h1, hup, g1, decide_true, cond_true, and_self, if_true, Nat.beq_refl, List.length_append, List.length_cons, List.length_nil, Nat.zero_add])
   (fun st hst => by
    obtain ⟨up, hup, rfl⟩ := hst
    refine ⟨_, ⟨up, hup, rfl⟩, fun k rec => ?_⟩
    unfold q3I
    have e : ¬ 2 * (m : Int) < (row.length : Int) := by omega
    simp only [x9, w7, w9, u6, j3, y8, y7, e, decide_false, cond_false, cond_true, Nat.beq_refl])
   (N := N) (by omega) (st := [t, .slice row, .slice rows, .slice [], .int (2 * ((0 : Nat) : Int))]) ⟨[], rfl, rfl⟩
  exact ⟨up, hup, h⟩
 have step : ∀ (m : Nat) (row rows : List C), row.length = 2 * m → 1 ≤ m → m ≤ 100 → rows.length ≤ 100 → ∃ up : List C, up.length = m ∧ ∀ k rec : KD R, q5Q N k rec [t, .slice row, .slice rows] [] = rec [t, .slice up, .slice (rows ++ [.slice up])] [] := by
  intro m row rows hr hm1 hm hrs
  obtain ⟨up, hup, h1⟩ := inner m row rows hr hm
  refine ⟨up, hup, fun k rec => ?_⟩
  have e1 : 1 < (row.length : Int) := by omega
  have g1 : (rows.length + 1) * 24 ≤ 140737488355328 ∧ rows.length + 1 ≤ 9223372036854775807 := by omega
  unfold q5Q
  simp only [y4, x9, w7, w9, y7, e1, h1, g1, decide_true, cond_true, and_self, if_true, Nat.beq_refl, List.length_append, List.length_cons, List.length_nil, Nat.zero_add]
 obtain ⟨r1, hr1, s1⟩ := step 2 r0 [.slice r0] (by omega) (by omega) (by omega) (by simp)
 obtain ⟨r2, hr2, s2⟩ := step 1 r1 [.slice r0, .slice r1] (by omega) (by omega) (by omega) (by simp)
 refine ⟨r0, r1, r2, hr0, hr1, hr2, fun k => ?_⟩
 rw [z4u]
 unfold q3H
 simp only [y4]
 refine (h _).trans ?_
 simp only [x9, w7, y7, Nat.beq_refl, cond_true]
 obtain ⟨n, rfl⟩ : ∃ n, N = n + 3 := ⟨N - 3, by omega⟩
 rw [Z5, s1]
 show u3 (n + 2) _ [t, .slice r1, .slice [.slice r0, .slice r1]] [] = _
 rw [Z5, s2]
 show u3 (n + 1) _ [t, .slice r2, .slice [.slice r0, .slice r1, .slice r2]] [] = _
 rw [Z5]
 unfold q5Q
 have e : ¬ (1 : Int) < (r2.length : Int) := by omega
 simp only [x9, w7, w9, y7, e, decide_false, cond_false, cond_true, Nat.beq_refl]
theorem z94 (sec d : C) (r0 r1 r2 : List C) (h0 : r0.length = 4) (h1 : r1.length = 2) (h2 : r2.length = 1) (x : Int) (hx : 0 ≤ x ∧ x < 4) (hN : 2000 < N) :
  ∃ s, z9C s ∧ ∀ k : KD R, q2R N t sec (.slice [.slice r0, .slice r1, .slice r2]) (.int x) d k = k [s] [] := by
 obtain ⟨c, hc⟩ := x0d hOf sec (C.int (IntKind.wrap IntKind.u32 x)) d (by omega)
 obtain ⟨e, ⟨p, hp, rfl⟩, h⟩ := j6 (R := R) (F := fun k2 => q3G N k2) 2 (fun i st => ∃ (y : Int) (p : List C), p.length = i ∧ 0 ≤ y ∧ (i = 0 → y < 4) ∧ (i = 1 → y < 2) ∧ st = [.slice [.slice r0, .slice r1, .slice r2], .int y, .int i, c, C.int (IntKind.wrap IntKind.u32 x), .slice p, C.agg
  [C.agg
    [C.agg (List.replicate 32 (C.agg (List.replicate 16 (C.int 0)))),
     C.agg (List.replicate 32 (C.agg (List.replicate 16 (C.int 0))))],
   z0 (Ty.int IntKind.u32), C.slice []]]) (fun e => ∃ p : List C, p.length = 2 ∧ e = [c, C.int (IntKind.wrap IntKind.u32 x), .slice p, C.agg
  [C.agg
    [C.agg (List.replicate 32 (C.agg (List.replicate 16 (C.int 0)))),
     C.agg (List.replicate 32 (C.agg (List.replicate 16 (C.int 0))))],
   z0 (Ty.int IntKind.u32), C.slice []]])
  (fun i st hi hst => by
   obtain ⟨y, p, hp, hy0, hy1, hy2, rfl⟩ := hst
   have w3 : IntKind.i64.wrap (((3 : Nat) : Int) - 1) = 2 := by rw [wrap_i64 (by omega) (by omega)]; rfl
   have e1 : (i : Int) < 2 := by omega
   have c3 : 0 ≤ (i : Int) ∧ (i : Int) < ((3 : Nat) : Int) := by omega
   have g1 : (i + 1) * 32 ≤ 140737488355328 ∧ i + 1 ≤ 9223372036854775807 := by omega
   have hlen : ((C.elems (List.getD [C.slice r0, C.slice r1, C.slice r2] i .nil)).length : Int) = (if i = 0 then 4 else 2) := by
    rcases (by omega : i = 0 ∨ i = 1) with rfl | rfl
    ·show ((r0.length : Nat) : Int) = _; rw [h0]; rfl
    ·show ((r1.length : Nat) : Int) = _; rw [h1]; rfl
   have tm : Int.tmod y 2 = y % 2 := Int.tmod_eq_emod_of_nonneg hy0
   have td : Int.tdiv y 2 = y / 2 := Int.tdiv_eq_ediv_of_nonneg hy0
   have hy : y < (if i = 0 then 4 else 2) ∧ y < 4 := by
    rcases (by omega : i = 0 ∨ i = 1) with rfl | rfl
    ·have := hy1 rfl; exact ⟨by simpa using this, this⟩
    ·have := hy2 rfl; exact ⟨by simpa using this, by omega⟩
   have wd : IntKind.i64.wrap (y / 2) = y / 2 := wrap_i64 (by omega) (by omega)
   have wm : IntKind.i64.wrap (y - 1) = y - 1 := wrap_i64 (by omega) (by omega)
   have wp : IntKind.i64.wrap (y + 1) = y + 1 := wrap_i64 (by omega) (by omega)
   have ev : (if i = 0 then (4 : Int) else 2) = 4 ∨ (if i = 0 then (4 : Int) else 2) = 2 := by split <;> simp
   by_cases z : y % 2 = 1
   ·have c4 : 0 ≤ y - 1 ∧ y - 1 < (if i = 0 then (4 : Int) else 2) := by omega
    refine ⟨_, ⟨y / 2, p ++ [?x1], by simp [hp], by omega, by omega, by omega, rfl⟩, fun k rec => ?eq1⟩
    case eq1 =>
     unfold q3G
     simp only [y4, x9, w7, w9, u6, j3, F3, q2x, z6S, y8, y7, List.length_cons, List.length_nil, Nat.zero_add, Nat.reduceAdd, w3, e1, c3, c4, tm, td, wd, wm, z, hlen, hp, g1, decide_true, cond_true, and_self, if_true, Nat.beq_refl, List.length_append, Int.toNat_natCast, u5 (show i < 4611686018427387904 by omega)]
     rfl
   ·have c4 : 0 ≤ y + 1 ∧ y + 1 < (if i = 0 then (4 : Int) else 2) := by omega
    refine ⟨_, ⟨y / 2, p ++ [?x2], by simp [hp], by omega, by omega, by omega, rfl⟩, fun k rec => ?eq2⟩
    case eq2 =>
     unfold q3G
     simp only [y4, x9, w7, w9, u6, j3, F3, q2x, z6S, y8, y7, List.length_cons, List.length_nil, Nat.zero_add, Nat.reduceAdd, w3, e1, c3, c4, tm, td, wd, wp, z, hlen, hp, g1, decide_true, decide_false, cond_true, cond_false, and_self, if_true, Nat.beq_refl, List.length_append, Int.toNat_natCast, u5 (show i < 4611686018427387904 by omega)]
     rfl)
  (fun st hst => by
   obtain ⟨y, p, hp, hy0, hy1, hy2, rfl⟩ := hst
   refine ⟨_, ⟨p, hp, rfl⟩, fun k rec => ?_⟩
   have w3 : IntKind.i64.wrap (((3 : Nat) : Int) - 1) = 2 := by rw [wrap_i64 (by omega) (by omega)]; rfl
   unfold q3G
   have e : ¬ ((2 : Nat) : Int) < 2 := by decide
   simp only [x9, w7, w9, u6, j3, F3, q2x, y8, y7, List.length_cons, List.length_nil, Nat.zero_add, Nat.reduceAdd, w3, e, decide_false, cond_false])
  (N := N) (by omega) (st := [.slice [.slice r0, .slice r1, .slice r2], .int x, .int (0 : Nat), c, C.int (IntKind.wrap IntKind.u32 x), .slice [], C.agg
  [C.agg
    [C.agg (List.replicate 32 (C.agg (List.replicate 16 (C.int 0)))),
     C.agg (List.replicate 32 (C.agg (List.replicate 16 (C.int 0))))],
   z0 (Ty.int IntKind.u32), C.slice []]]) ⟨x, [], rfl, hx.1, fun _ => hx.2, fun h => by simp at h, rfl⟩
 refine ⟨.agg [c, C.int (IntKind.wrap IntKind.u32 x), .slice p], ⟨_, _, p, rfl, by omega⟩, fun k => ?_⟩
 rw [z4s]
 unfold q5O
 simp only [hc, y4, x9, y8]
 exact (h _).trans rfl
theorem y6T (s sa sb : C) (a0 a1 a2 b0 b1 b2 : List C) (ha0 : a0.length = 4) (ha1 : a1.length = 2) (ha2 : a2.length = 1) (hb0 : b0.length = 4) (hb1 : b1.length = 2) (hb2 : b2.length = 1) (h : StW s) (hN : 2000 < N) :
  ∃ x y, z9C x ∧ z9C y ∧ ∀ k : KD R, J9 N (.agg [t, .agg [sa, sb], .agg [.slice [.slice a0, .slice a1, .slice a2], .slice [.slice b0, .slice b1, .slice b2]]]) s k = k [.agg [s, .agg [x, y]]] [] := by
 have zs : z9C (z0 j8) := ⟨_, _, [], rfl, by simp⟩
 have zz : z0 (Ty.arr 2 j8) = .agg [z0 j8, z0 j8] := rfl
 by_cases z : 0 < (s.get 1).toInt
 case neg =>
  refine ⟨_, _, zs, zs, fun k => ?_⟩
  rw [q2o]
  unfold q0b
  simp only [y4, z, decide_false, cond_false, x9, w7, w9, u6, j3, p9, zz]
 by_cases z2 : (s.get 1).toInt < 4
 case neg =>
  refine ⟨_, _, zs, zs, fun k => ?_⟩
  rw [q2o]
  unfold q0b
  simp only [y4, z, z2, decide_true, decide_false, cond_true, cond_false, x9, w7, w9, u6, j3, p9, zz]
 obtain ⟨c, hc, h1⟩ := x1K hOf s h (by omega)
 have wr : IntKind.i64.wrap (s.get 1).toInt = (s.get 1).toInt := wrap_i64 (by omega) (by omega)
 obtain ⟨x, hx, h2⟩ := z94 hOf sa c a0 a1 a2 ha0 ha1 ha2 (s.get 1).toInt (by omega) hN
 obtain ⟨y, hy, h3⟩ := z94 hOf sb c b0 b1 b2 hb0 hb1 hb2 (s.get 1).toInt (by omega) hN
 refine ⟨x, y, hx, hy, fun k => ?_⟩
 rw [q2o]
 unfold q0b
 simp only [y4, z, z2, decide_true, cond_true, x9, w7, w9, u6, j3, p9, zz]
 obtain ⟨n, rfl⟩ : ∃ n, N = n + 3 := ⟨N - 3, by omega⟩
 have w0 : IntKind.i64.wrap ((0 : Int) + 1) = 1 := by rw [wrap_i64 (by omega) (by omega)]; rfl
 have w1 : IntKind.i64.wrap ((1 : Int) + 1) = 2 := by rw [wrap_i64 (by omega) (by omega)]; rfl
 have i0 : (0 : Int) < 2 := by decide
 have i1 : (1 : Int) < 2 := by decide
 have i2 : ¬ (2 : Int) < 2 := by decide
 have j1 : (0 : Int) ≤ 1 := by decide
 have t0 : Int.toNat 0 = 0 := rfl
 have t1 : Int.toNat 1 = 1 := rfl
 rw [Z5]
 unfold q9d
 simp only [x9, w7, w9, u6, j3, y8, q1n, q29, q6u, q4v, q6o, t0, i0, Int.le_refl, decide_true, cond_true, and_self, if_true, h1, h2, wr, w0]
 rw [Z5]
 simp only [x9, w7, w9, u6, j3, y8, q1n, q29, q6u, q4v, q6o, t1, i1, j1, decide_true, cond_true, and_self, if_true, h1, h3, wr, w1]
 rw [Z5]
 simp only [x9, w7, w9, u6, j3, y8, i2, decide_false, cond_false]
end
end Go.Proofs.YtgdonkaoajbclaaGreatDoor
namespace Go.Proofs.YtgdonkaoajbclaaGreatDoor
open Go Go.E
set_option maxRecDepth 100000
set_option maxHeartbeats 4000000
set_option linter.unusedVariables false
noncomputable def y66 : Hints := [([9], ⟨[], [(2, .as (.ptr (.l 2) [] w4))], [], [(.l 2, .box (.d w4))], [], []⟩)]
noncomputable def z8g (N : Nat) : OvS (X0 gl0) where
 g R := []
 ok := fun R => fun _ h => nomatch h
noncomputable def z2g {R : Type} (N : Nat) (a0 : C) (k1 : KD R) : Option R := (k1 [C.agg [a0, z0 (Ty.int IntKind.u64), z0 (Ty.arr 2 (Ty.int IntKind.u64)), z0 (Ty.arr 2 (Ty.int IntKind.u64)), C.slice []]] [])
noncomputable def q3f {R : Type} (N : Nat) : C → KD R → Option R := lid "" (z2g N)
theorem z8f {R : Type} (N : Nat) (a0 : C) (k : KD R) : q3f N a0 k = z2g N a0 k := by unfold q3f; rw [w6]
theorem y48 {R : Type} (N : Nat) (a0 : C) (K : V → List (Key × O) → Option R) : exF (X0 gl0) ((z8g N).ov R) s5 noX (fun f => bif Nat.beq f 35 then y66 else []) N 400 8 35 [.d (.int .u32) a0] A0 K =
  q3f N a0 (fun d1 m1 => K (V.d w4 (dk d1 0)) []) := by
 rw [z8f]
 exact (show _ = jn (fun d1 m1 => (K (V.d w4 (dk d1 0)) [])) (z2g N a0) by kernel_rfl).trans (y4 _ _)
noncomputable def q9Y (N : Nat) {R : Type} : OvG R := fun xs _ K => match xs with
 | [.d t0 a0] => if t0 = (.int .u32) then q3f N a0 (fun d1 m1 => K (V.d w4 (dk d1 0)) []) else none
 | _ => none
theorem z8h (N : Nat) {R : Type} : GOk (X0 gl0) 35 (q9Y N (R := R)) := by
 intro xs A Kr r hr
 unfold q9Y at hr
 split at hr
 ·simp only [Option.ite_none_right_eq_some] at hr
  obtain ⟨hty, hr⟩ := hr
  subst hty
  rw [← y48] at hr
  exact okA (z8g N) hr
 ·cases hr
noncomputable def q5z : Hints := [([1, 0, 1, 1], ⟨[], [], [], [], [], []⟩),
  ([4, 1, 0, 1, 1], ⟨[0, 1, 12], [(13, .d (.int .i64))], [], [], [], []⟩),
  ([9], ⟨[], [(4, .d .bool)], [], [], [], []⟩)]
noncomputable def q1k (N : Nat) : OvS (X0 gl0) where
 g R := []
 ok := fun R => fun _ h => nomatch h
noncomputable def q1l {R : Type} (N : Nat) (k1 : KD R) (k2 : KD R) : KD R → List C → List Es → Option R := (fun k3 d1 m1 => (bif decide (C.toInt (dk d1 3) < C.toInt (dk d1 2)) then (if 0 ≤ C.toInt (dk d1 3) ∧ C.toInt (dk d1 3) < (↑(List.length (C.elems (dk d1 0))) : Int) then (if 0 ≤ C.toInt (dk d1 3) ∧ C.toInt (dk d1 3) < (↑(List.length (C.elems (dk d1 1))) : Int) then (bif !C.beq (List.getD (C.elems (dk d1 0)) (Int.toNat (C.toInt (dk d1 3))) C.nil) (List.getD (C.elems (dk d1 1)) (Int.toNat (C.toInt (dk d1 3))) C.nil) then (k1 [C.bool false] []) else (k3 [dk d1 0, dk d1 1, dk d1 2, C.int (IntKind.wrap IntKind.i64 (C.toInt (dk d1 3) + 1))] [])) else none) else none) else (k2 [] [])))
noncomputable def W3 {R : Type} (N : Nat) (a0 a1 : C) (k1 : KD R) : Option R := (bif !decide ((↑(List.length (C.elems a0)) : Int) = (↑(List.length (C.elems a1)) : Int)) then (k1 [C.bool false] []) else (jn (fun d1 m1 => (k1 [C.bool true] [])) (fun k2 => (u3 N (q1l N k1 k2) [a0, a1, C.int (↑(List.length (C.elems a0)) : Int), C.int 0] []))))
noncomputable def Q5 {R : Type} (N : Nat) : C → C → KD R → Option R := lid "" (W3 N)
theorem q1j {R : Type} (N : Nat) (a0 a1 : C) (k : KD R) : Q5 N a0 a1 k = W3 N a0 a1 k := by unfold Q5; rw [w6]
theorem q5q {R : Type} (N : Nat) (a0 a1 : C) (K : V → List (Key × O) → Option R) : exF (X0 gl0) ((q1k N).ov R) s5 noX (fun f => bif Nat.beq f 111 then q5z else []) N 400 8 111 [.d (.slice 64 k9) a0, .d (.slice 64 k9) a1] A0 K =
  Q5 N a0 a1 (fun d1 m1 => K (V.d Ty.bool (C.bool (C.toBool (dk d1 0)))) []) := by
 rw [q1j]
 exact (show _ = jn (fun d1 m1 => (K (V.d Ty.bool (C.bool (C.toBool (dk d1 0)))) [])) (W3 N a0 a1) by kernel_rfl).trans (y4 _ _)
noncomputable def F1 (N : Nat) {R : Type} : OvG R := fun xs _ K => match xs with
 | [.d t0 a0, .d t1 a1] => if t0 = (.slice 64 k9) ∧ t1 = (.slice 64 k9) then Q5 N a0 a1 (fun d1 m1 => K (V.d Ty.bool (C.bool (C.toBool (dk d1 0)))) []) else none
 | _ => none
theorem q5y (N : Nat) {R : Type} : GOk (X0 gl0) 111 (F1 N (R := R)) := by
 intro xs A Kr r hr
 unfold F1 at hr
 split at hr
 ·simp only [Option.ite_none_right_eq_some] at hr
  obtain ⟨hty, hr⟩ := hr
  obtain ⟨rfl, rfl⟩ := hty
  rw [← q5q] at hr
  exact okA (q1k N) hr
 ·cases hr
noncomputable def y47 : Hints := [([0, 1], ⟨[], [(4, .d .bool)], [], [], [], []⟩),
  ([9], ⟨[], [(4, .d .bool)], [], [], [], []⟩)]
noncomputable def z5W (N : Nat) : OvS (X0 gl0) where
 g R := [(111, F1 N)]
 ok := fun R => List.forall_mem_cons.2 ⟨q5y N, fun _ h => nomatch h⟩
noncomputable def q6T {R : Type} (N : Nat) (a0 a1 : C) (k1 : KD R) : Option R := (jn (fun d1 m1 => (k1 [C.bool (C.toBool (dk d1 0))] [])) (fun k2 => (bif decide (C.toInt (C.get a0 0) = C.toInt (C.get a1 0)) then (bif decide (C.toInt (C.get a0 1) = C.toInt (C.get a1 1)) then (bif C.beq (C.get a0 2) (C.get a1 2) then (bif C.beq (C.get a0 3) (C.get a1 3) then (Q5 N (C.get a0 4) (C.get a1 4) (fun d1 m1 => (k2 [C.bool (C.toBool (dk d1 0))] []))) else (k2 [C.bool false] [])) else (k2 [C.bool false] [])) else (k2 [C.bool false] [])) else (k2 [C.bool false] []))))
noncomputable def q32 {R : Type} (N : Nat) : C → C → KD R → Option R := lid "" (q6T N)
theorem z5V {R : Type} (N : Nat) (a0 a1 : C) (k : KD R) : q32 N a0 a1 k = q6T N a0 a1 k := by unfold q32; rw [w6]
theorem y3I {R : Type} (N : Nat) (a0 a1 : C) (K : V → List (Key × O) → Option R) : exF (X0 gl0) ((z5W N).ov R) s5 (fun f r => bif Nat.beq f 90 then (bif Nat.beq r 0 then [(2, 5), (3, 5)] else []) else []) (fun f => bif Nat.beq f 90 then y47 else []) N 400 8 90 [.d w4 a0, .d w4 a1] A0 K =
  q32 N a0 a1 (fun d1 m1 => K (V.d Ty.bool (C.bool (C.toBool (dk d1 0)))) []) := by
 rw [z5V]
 exact (show _ = jn (fun d1 m1 => (K (V.d Ty.bool (C.bool (C.toBool (dk d1 0)))) [])) (q6T N a0 a1) by kernel_rfl).trans (y4 _ _)
noncomputable def z2f (N : Nat) {R : Type} : OvG R := fun xs _ K => match xs with
 | [.d t0 a0, .d t1 a1] => if t0 = w4 ∧ t1 = w4 then q32 N a0 a1 (fun d1 m1 => K (V.d Ty.bool (C.bool (C.toBool (dk d1 0)))) []) else none
 | _ => none
theorem y46 (N : Nat) {R : Type} : GOk (X0 gl0) 90 (z2f N (R := R)) := by
 intro xs A Kr r hr
 unfold z2f at hr
 split at hr
 ·simp only [Option.ite_none_right_eq_some] at hr
  obtain ⟨hty, hr⟩ := hr
  obtain ⟨rfl, rfl⟩ := hty
  rw [← y3I] at hr
  exact okA (z5W N) hr
 ·cases hr
noncomputable def y7u : Hints := [([9], ⟨[], [(4, .d (.int .u8))], [], [], [], []⟩)]
noncomputable def z8B (N : Nat) : OvS (X0 gl0) where
 g R := []
 ok := fun R => fun _ h => nomatch h
noncomputable def q8C {R : Type} (N : Nat) (a0 a1 : C) (k1 : KD R) : Option R := (if 0 ≤ IntKind.wrap IntKind.i64 (Int.tdiv (C.toInt a1) 8) ∧ IntKind.wrap IntKind.i64 (Int.tdiv (C.toInt a1) 8) < 32 then (if 0 ≤ IntKind.wrap IntKind.i64 (7 - Int.tmod (C.toInt a1) 8) then (k1 [C.int (u1 BinOp.and IntKind.u8 (Int.fdiv (C.toInt (C.get a0 (Int.toNat (IntKind.wrap IntKind.i64 (Int.tdiv (C.toInt a1) 8))))) (2 ^ min (Int.toNat (IntKind.wrap IntKind.i64 (7 - Int.tmod (C.toInt a1) 8))) 8)) 1)] []) else none) else none)
noncomputable def q5k {R : Type} (N : Nat) : C → C → KD R → Option R := lid "" (q8C N)
theorem z8A {R : Type} (N : Nat) (a0 a1 : C) (k : KD R) : q5k N a0 a1 k = q8C N a0 a1 k := by unfold q5k; rw [w6]
theorem y50 {R : Type} (N : Nat) (a0 a1 : C) (K : V → List (Key × O) → Option R) : exF (X0 gl0) ((z8B N).ov R) s5 (fun f r => bif Nat.beq f 145 then (bif Nat.beq r 0 then [(2, 5)] else []) else []) (fun f => bif Nat.beq f 145 then y7u else []) N 400 8 145 [.d (.arr 32 (.int .u8)) a0, .d (.int .i64) a1] A0 K =
  q5k N a0 a1 (fun d1 m1 => K (V.d (Ty.int IntKind.u8) (dk d1 0)) []) := by
 rw [z8A]
 exact (show _ = jn (fun d1 m1 => (K (V.d (Ty.int IntKind.u8) (dk d1 0)) [])) (q8C N a0 a1) by kernel_rfl).trans (y4 _ _)
noncomputable def z3Q (N : Nat) {R : Type} : OvG R := fun xs _ K => match xs with
 | [.d t0 a0, .d t1 a1] => if t0 = (.arr 32 (.int .u8)) ∧ t1 = (.int .i64) then q5k N a0 a1 (fun d1 m1 => K (V.d (Ty.int IntKind.u8) (dk d1 0)) []) else none
 | _ => none
theorem y7t (N : Nat) {R : Type} : GOk (X0 gl0) 145 (z3Q N (R := R)) := by
 intro xs A Kr r hr
 unfold z3Q at hr
 split at hr
 ·simp only [Option.ite_none_right_eq_some] at hr
  obtain ⟨hty, hr⟩ := hr
  obtain ⟨rfl, rfl⟩ := hty
  rw [← y50] at hr
  exact okA (z8B N) hr
 ·cases hr
noncomputable def y38 : Hints := [([9], ⟨[], [(2, .as (.ptr (.l 2) [] (.arr 16 (.int .u8))))], [], [(.l 2, .box (.d (.arr 16 (.int .u8))))], [], []⟩)]
noncomputable def z4X (N : Nat) : OvS (X0 gl0) where
 g R := [(106, q5c N)]
 ok := fun R => List.forall_mem_cons.2 ⟨q8r N, fun _ h => nomatch h⟩
noncomputable def q58 {R : Type} (N : Nat) (a0 : C) (k1 : KD R) : Option R := (q1g N (C.int 5) (C.slice [C.slice (cut (C.elems a0) 0 16)]) (fun d1 m1 => (if 16 ≤ List.length (List.take 16 (List.drop 0 (C.elems (dk d1 0)))) then (k1 [C.agg (List.take 16 (List.take 16 (List.drop 0 (C.elems (dk d1 0)))))] []) else none)))
noncomputable def q24 {R : Type} (N : Nat) : C → KD R → Option R := lid "" (q58 N)
theorem z4W {R : Type} (N : Nat) (a0 : C) (k : KD R) : q24 N a0 k = q58 N a0 k := by unfold q24; rw [w6]
theorem y1Y {R : Type} (N : Nat) (a0 : C) (K : V → List (Key × O) → Option R) : exF (X0 gl0) ((z4X N).ov R) s5 (fun f r => bif Nat.beq f 146 then (bif Nat.beq r 0 then [(1, 5)] else bif Nat.beq r 2 then [(8, 100)] else []) else []) (fun f => bif Nat.beq f 146 then y38 else []) N 400 8 146 [.d (.arr 16 (.int .u8)) a0] A0 K =
  q24 N a0 (fun d1 m1 => K (V.d (Ty.arr 16 (Ty.int IntKind.u8)) (dk d1 0)) []) := by
 rw [z4W]
 exact (show _ = jn (fun d1 m1 => (K (V.d (Ty.arr 16 (Ty.int IntKind.u8)) (dk d1 0)) [])) (q58 N a0) by kernel_rfl).trans (y4 _ _)
noncomputable def z1c (N : Nat) {R : Type} : OvG R := fun xs _ K => match xs with
 | [.d t0 a0] => if t0 = (.arr 16 (.int .u8)) then q24 N a0 (fun d1 m1 => K (V.d (Ty.arr 16 (Ty.int IntKind.u8)) (dk d1 0)) []) else none
 | _ => none
theorem y37 (N : Nat) {R : Type} : GOk (X0 gl0) 146 (z1c N (R := R)) := by
 intro xs A Kr r hr
 unfold z1c at hr
 split at hr
 ·simp only [Option.ite_none_right_eq_some] at hr
  obtain ⟨hty, hr⟩ := hr
  subst hty
  rw [← y1Y] at hr
  exact okA (z4X N) hr
 ·cases hr
noncomputable def y5Z : Hints := [([1, 0, 1, 1], ⟨[2], [(3, .sl 1 (.int .u8) 5003)], [], [], [], []⟩),
  ([4, 1, 0, 1, 1], ⟨[2, 6], [(3, .sl 1 (.int .u8) 5003), (7, .d (.int .i64))], [], [], [], []⟩),
  ([9], ⟨[], [(2, .as (.ptr (.l 2) [] (.arr 32 (.int .u8))))], [], [(.l 2, .box (.d (.arr 32 (.int .u8))))], [], []⟩)]
noncomputable def z6D (N : Nat) : OvS (X0 gl0) where
 g R := [(106, q5c N)]
 ok := fun R => List.forall_mem_cons.2 ⟨q8r N, fun _ h => nomatch h⟩
noncomputable def q7k {R : Type} (N : Nat) (k2 : KD R) : KD R → List C → List Es → Option R := (fun k3 d1 m1 => (bif decide (C.toInt (dk d1 2) < 32) then (if 0 ≤ C.toInt (dk d1 2) ∧ C.toInt (dk d1 2) < 32 then (bif Nat.beq (List.length (C.elems (dk d1 1))) (List.length (C.elems (dk d1 1))) then (if (List.length (C.elems (dk d1 1)) + List.length (List.take 16 (List.drop (Int.toNat 0) (C.elems (C.get (C.get (dk d1 0) (Int.toNat (C.toInt (dk d1 2)))) (Int.toNat 0)))))) * 1 ≤ 140737488355328 ∧ List.length (C.elems (dk d1 1)) + List.length (List.take 16 (List.drop (Int.toNat 0) (C.elems (C.get (C.get (dk d1 0) (Int.toNat (C.toInt (dk d1 2)))) (Int.toNat 0))))) ≤ 9223372036854775807 then (bif Nat.beq (List.length (C.elems (dk d1 1)) + List.length (List.take 16 (List.drop (Int.toNat 0) (C.elems (C.get (C.get (dk d1 0) (Int.toNat (C.toInt (dk d1 2)))) (Int.toNat 0)))))) (List.length (C.elems (dk d1 1) ++ List.take 16 (List.drop (Int.toNat 0) (C.elems (C.get (C.get (dk d1 0) (Int.toNat (C.toInt (dk d1 2)))) (Int.toNat 0)))))) then (if (List.length (C.elems (dk d1 1) ++ List.take 16 (List.drop (Int.toNat 0) (C.elems (C.get (C.get (dk d1 0) (Int.toNat (C.toInt (dk d1 2)))) (Int.toNat 0))))) + List.length (List.take 16 (List.drop (Int.toNat 0) (C.elems (C.get (C.get (dk d1 0) (Int.toNat (C.toInt (dk d1 2)))) (Int.toNat 1)))))) * 1 ≤ 140737488355328 ∧ List.length (C.elems (dk d1 1) ++ List.take 16 (List.drop (Int.toNat 0) (C.elems (C.get (C.get (dk d1 0) (Int.toNat (C.toInt (dk d1 2)))) (Int.toNat 0))))) + List.length (List.take 16 (List.drop (Int.toNat 0) (C.elems (C.get (C.get (dk d1 0) (Int.toNat (C.toInt (dk d1 2)))) (Int.toNat 1))))) ≤ 9223372036854775807 then (bif Nat.beq (List.length (C.elems (dk d1 1) ++ List.take 16 (List.drop (Int.toNat 0) (C.elems (C.get (C.get (dk d1 0) (Int.toNat (C.toInt (dk d1 2)))) (Int.toNat 0))))) + List.length (List.take 16 (List.drop (Int.toNat 0) (C.elems (C.get (C.get (dk d1 0) (Int.toNat (C.toInt (dk d1 2)))) (Int.toNat 1)))))) (List.length (C.elems (dk d1 1) ++ List.take 16 (List.drop (Int.toNat 0) (C.elems (C.get (C.get (dk d1 0) (Int.toNat (C.toInt (dk d1 2)))) (Int.toNat 0)))) ++ List.take 16 (List.drop (Int.toNat 0) (C.elems (C.get (C.get (dk d1 0) (Int.toNat (C.toInt (dk d1 2)))) (Int.toNat 1)))))) then (k3 [dk d1 0, C.slice (C.elems (dk d1 1) ++ List.take 16 (List.drop (Int.toNat 0) (C.elems (C.get (C.get (dk d1 0) (Int.toNat (C.toInt (dk d1 2)))) (Int.toNat 0)))) ++ List.take 16 (List.drop (Int.toNat 0) (C.elems (C.get (C.get (dk d1 0) (Int.toNat (C.toInt (dk d1 2)))) (Int.toNat 1))))), C.int (IntKind.wrap IntKind.i64 (C.toInt (dk d1 2) + 1)), dk d1 3] []) else none) else none) else none) else none) else none) else none) else (bif Nat.beq (List.length (C.elems (dk d1 1))) (List.length (C.elems (dk d1 1))) then (k2 [C.slice (C.elems (dk d1 1)), dk d1 3] []) else none)))
noncomputable def q7j {R : Type} (N : Nat) (a0 : C) (k1 : KD R) : Option R := (jn (fun d1 m1 => (q1g N (C.int 2) (C.slice [C.slice (C.elems (dk d1 0))]) (fun d2 m2 => (k1 [dk d2 0] [])))) (fun k2 => (u3 N (q7k N k2) [a0, C.slice [], C.int 0, z0 (Ty.arr 32 (Ty.int IntKind.u8))] [])))
noncomputable def q39 {R : Type} (N : Nat) : C → KD R → Option R := lid "" (q7j N)
theorem z6C {R : Type} (N : Nat) (a0 : C) (k : KD R) : q39 N a0 k = q7j N a0 k := by unfold q39; rw [w6]
theorem y36 {R : Type} (N : Nat) (a0 : C) (K : V → List (Key × O) → Option R) : exF (X0 gl0) ((z6D N).ov R) s5 (fun f r => bif Nat.beq f 147 then (bif Nat.beq r 0 then [(1, 5)] else []) else []) (fun f => bif Nat.beq f 147 then y5Z else []) N 400 8 147 [.d (.arr 32 (.arr 2 (.arr 16 (.int .u8)))) a0] A0 K =
  q39 N a0 (fun d1 m1 => K (V.d (Ty.arr 32 (Ty.int IntKind.u8)) (dk d1 0)) []) := by
 rw [z6C]
 exact (show _ = jn (fun d1 m1 => (K (V.d (Ty.arr 32 (Ty.int IntKind.u8)) (dk d1 0)) [])) (q7j N a0) by kernel_rfl).trans (y4 _ _)
noncomputable def z2n (N : Nat) {R : Type} : OvG R := fun xs _ K => match xs with
 | [.d t0 a0] => if t0 = (.arr 32 (.arr 2 (.arr 16 (.int .u8)))) then q39 N a0 (fun d1 m1 => K (V.d (Ty.arr 32 (Ty.int IntKind.u8)) (dk d1 0)) []) else none
 | _ => none
theorem y5Y (N : Nat) {R : Type} : GOk (X0 gl0) 147 (z2n N (R := R)) := by
 intro xs A Kr r hr
 unfold z2n at hr
 split at hr
 ·simp only [Option.ite_none_right_eq_some] at hr
  obtain ⟨hty, hr⟩ := hr
  subst hty
  rw [← y36] at hr
  exact okA (z6D N) hr
 ·cases hr
noncomputable def z9q : Hints := [([1, 0, 1, 1], ⟨[4, 5], [], [], [], [], []⟩),
  ([4, 1, 0, 1, 1], ⟨[2, 3, 4, 5], [(8, .d (.int .i64))], [], [], [], []⟩),
  ([9], ⟨[], [(4, .as (.ptr (.l 4) [] (.arr 32 (.int .u8))))], [], [(.l 4, .box (.d (.arr 32 (.int .u8))))], [], []⟩)]
noncomputable def z1e (N : Nat) : OvS (X0 gl0) where
 g R := [(145, z3Q N), (146, z1c N), (147, z2n N)]
 ok := fun R => List.forall_mem_cons.2 ⟨y7t N, List.forall_mem_cons.2 ⟨y37 N, List.forall_mem_cons.2 ⟨y5Y N, fun _ h => nomatch h⟩⟩⟩
noncomputable def q3q {R : Type} (N : Nat) (k2 : KD R) : KD R → List C → List Es → Option R := (fun k3 d1 m1 => (bif decide (C.toInt (dk d1 2) < 32) then (q5k N (dk d1 1) (dk d1 2) (fun d2 m2 => (if 0 ≤ C.toInt (dk d1 2) ∧ C.toInt (dk d1 2) < 32 then (q24 N (C.get (C.get (dk d1 0) 0) (Int.toNat (C.toInt (dk d1 2)))) (fun d3 m3 => (if 0 ≤ C.toInt (dk d1 2) ∧ C.toInt (dk d1 2) < 32 then (if 0 ≤ C.toInt (dk d2 0) ∧ C.toInt (dk d2 0) < 2 then (if 0 ≤ C.toInt (dk d1 2) ∧ C.toInt (dk d1 2) < 32 then (if 0 ≤ C.toInt (dk d1 2) ∧ C.toInt (dk d1 2) < 32 then (if 0 ≤ IntKind.wrap IntKind.u8 (1 - C.toInt (dk d2 0)) ∧ IntKind.wrap IntKind.u8 (1 - C.toInt (dk d2 0)) < 2 then (k3 [dk d1 0, dk d1 1, C.int (IntKind.wrap IntKind.i64 (C.toInt (dk d1 2) + 1)), dk d1 3, C.set (C.set (dk d1 4) (Int.toNat (C.toInt (dk d1 2))) (C.set (C.get (dk d1 4) (Int.toNat (C.toInt (dk d1 2)))) (Int.toNat (C.toInt (dk d2 0))) (dk d3 0))) (Int.toNat (C.toInt (dk d1 2))) (C.set (C.get (C.set (dk d1 4) (Int.toNat (C.toInt (dk d1 2))) (C.set (C.get (dk d1 4) (Int.toNat (C.toInt (dk d1 2)))) (Int.toNat (C.toInt (dk d2 0))) (dk d3 0))) (Int.toNat (C.toInt (dk d1 2)))) (Int.toNat (IntKind.wrap IntKind.u8 (1 - C.toInt (dk d2 0)))) (C.get (C.get (dk d1 0) 1) (Int.toNat (C.toInt (dk d1 2)))))] []) else none) else none) else none) else none) else none))) else none))) else (k2 [dk d1 3, dk d1 4] [])))
noncomputable def q3p {R : Type} (N : Nat) (a0 a1 : C) (k1 : KD R) : Option R := (jn (fun d1 m1 => (q39 N (dk d1 1) (fun d2 m2 => (k1 [dk d2 0] [])))) (fun k2 => (u3 N (q3q N k2) [a0, a1, C.int 0, z0 (Ty.arr 32 (Ty.int IntKind.u8)), z0 (Ty.arr 32 (Ty.arr 2 (Ty.arr 16 (Ty.int IntKind.u8))))] [])))
noncomputable def q0p {R : Type} (N : Nat) : C → C → KD R → Option R := lid "" (q3p N)
theorem z1d {R : Type} (N : Nat) (a0 a1 : C) (k : KD R) : q0p N a0 a1 k = q3p N a0 a1 k := by unfold q0p; rw [w6]
theorem z7V {R : Type} (N : Nat) (a0 a1 : C) (K : V → List (Key × O) → Option R) : exF (X0 gl0) ((z1e N).ov R) s5 (fun f r => bif Nat.beq f 135 then (bif Nat.beq r 0 then [(2, 5), (3, 5)] else bif Nat.beq r 6 then [(20, 7)] else []) else []) (fun f => bif Nat.beq f 135 then z9q else []) N 400 8 135 [.d W5 a0, .d (.arr 32 (.int .u8)) a1] A0 K =
  q0p N a0 a1 (fun d1 m1 => K (V.d (Ty.arr 32 (Ty.int IntKind.u8)) (dk d1 0)) []) := by
 rw [z1d]
 exact (show _ = jn (fun d1 m1 => (K (V.d (Ty.arr 32 (Ty.int IntKind.u8)) (dk d1 0)) [])) (q3p N a0 a1) by kernel_rfl).trans (y4 _ _)
noncomputable def q7l (N : Nat) {R : Type} : OvG R := fun xs _ K => match xs with
 | [.d t0 a0, .d t1 a1] => if t0 = W5 ∧ t1 = (.arr 32 (.int .u8)) then q0p N a0 a1 (fun d1 m1 => K (V.d (Ty.arr 32 (Ty.int IntKind.u8)) (dk d1 0)) []) else none
 | _ => none
theorem z9p (N : Nat) {R : Type} : GOk (X0 gl0) 135 (q7l N (R := R)) := by
 intro xs A Kr r hr
 unfold q7l at hr
 split at hr
 ·simp only [Option.ite_none_right_eq_some] at hr
  obtain ⟨hty, hr⟩ := hr
  obtain ⟨rfl, rfl⟩ := hty
  rw [← z7V] at hr
  exact okA (z1e N) hr
 ·cases hr
noncomputable def y3f : Hints := [([9], ⟨[], [(4, .as (.ptr (.l 4) [] (.arr 32 (.int .u8))))], [], [(.l 4, .box (.d (.arr 32 (.int .u8))))], [], []⟩)]
noncomputable def z4l (N : Nat) : OvS (X0 gl0) where
 g R := [(106, q5c N)]
 ok := fun R => List.forall_mem_cons.2 ⟨q8r N, fun _ h => nomatch h⟩
noncomputable def q5M {R : Type} (N : Nat) (a0 a1 : C) (k1 : KD R) : Option R := (q1g N (C.int 3) (C.slice [C.slice (cut (C.elems a0) 0 32), C.slice (cut (C.elems a1) 0 32)]) (fun d1 m1 => (k1 [dk d1 0] [])))
noncomputable def q2N {R : Type} (N : Nat) : C → C → KD R → Option R := lid "" (q5M N)
theorem z4k {R : Type} (N : Nat) (a0 a1 : C) (k : KD R) : q2N N a0 a1 k = q5M N a0 a1 k := by unfold q2N; rw [w6]
theorem y1n {R : Type} (N : Nat) (a0 a1 : C) (K : V → List (Key × O) → Option R) : exF (X0 gl0) ((z4l N).ov R) s5 (fun f r => bif Nat.beq f 136 then (bif Nat.beq r 0 then [(2, 5), (3, 5)] else bif Nat.beq r 1 then [(8, 7)] else []) else []) (fun f => bif Nat.beq f 136 then y3f else []) N 400 8 136 [.d (.arr 32 (.int .u8)) a0, .d (.arr 32 (.int .u8)) a1] A0 K =
  q2N N a0 a1 (fun d1 m1 => K (V.d (Ty.arr 32 (Ty.int IntKind.u8)) (dk d1 0)) []) := by
 rw [z4k]
 exact (show _ = jn (fun d1 m1 => (K (V.d (Ty.arr 32 (Ty.int IntKind.u8)) (dk d1 0)) [])) (q5M N a0 a1) by kernel_rfl).trans (y4 _ _)
noncomputable def z0s (N : Nat) {R : Type} : OvG R := fun xs _ K => match xs with
 | [.d t0 a0, .d t1 a1] => if t0 = (.arr 32 (.int .u8)) ∧ t1 = (.arr 32 (.int .u8)) then q2N N a0 a1 (fun d1 m1 => K (V.d (Ty.arr 32 (Ty.int IntKind.u8)) (dk d1 0)) []) else none
 | _ => none
theorem y3e (N : Nat) {R : Type} : GOk (X0 gl0) 136 (z0s N (R := R)) := by
 intro xs A Kr r hr
 unfold z0s at hr
 split at hr
 ·simp only [Option.ite_none_right_eq_some] at hr
  obtain ⟨hty, hr⟩ := hr
  obtain ⟨rfl, rfl⟩ := hty
  rw [← y1n] at hr
  exact okA (z4l N) hr
 ·cases hr
noncomputable def z7O : Hints := [([0, 0, 1], ⟨[3, 5, 6, 9], [(39, .d .bool)], [], [], [], []⟩),
  ([1, 0, 1, 1, 1], ⟨[6, 11], [], [], [], [], []⟩),
  ([4, 1, 0, 1, 1, 1], ⟨[6, 11, 46, 47], [(12, .d (.int .u32)), (48, .d (.int .i64))], [], [], [], []⟩),
  ([1, 0, 1, 4, 0, 1, 1, 5, 4, 1, 0, 1, 1, 1], ⟨[6, 11, 12, 14, 46, 47, 48], [], [], [], [], []⟩),
  ([9], ⟨[], [(10, .d .bool)], [], [], [], []⟩)]
noncomputable def q9E (N : Nat) : OvS (X0 gl0) where
 g R := [(135, q7l N), (136, z0s N)]
 ok := fun R => List.forall_mem_cons.2 ⟨z9p N, List.forall_mem_cons.2 ⟨y3e N, fun _ h => nomatch h⟩⟩
noncomputable def q0t {R : Type} (N : Nat) (k2 : KD R) : KD R → List C → List Es → Option R := (fun k3 d3 m3 => (bif decide (C.toInt (dk d3 4) < C.toInt (dk d3 2)) then (if 0 ≤ C.toInt (dk d3 4) ∧ C.toInt (dk d3 4) < (↑(List.length (C.elems (dk d3 1))) : Int) then (jn (fun d4 m4 => (q2N N (dk d4 5) (dk d4 6) (fun d5 m5 => (k3 [dk d4 0, dk d4 2, dk d4 3, C.int (Int.fdiv (C.toInt (dk d4 1)) (2 ^ min (Int.toNat 1) 32)), C.int (IntKind.wrap IntKind.i64 (C.toInt (dk d4 4) + 1)), dk d5 0] [])))) (fun k4 => (bif decide (u1 BinOp.and IntKind.u32 (C.toInt (dk d3 3)) 1 = 1) then (k4 [dk d3 0, dk d3 3, dk d3 1, dk d3 2, dk d3 4, List.getD (C.elems (dk d3 1)) (Int.toNat (C.toInt (dk d3 4))) C.nil, dk d3 5] []) else (k4 [dk d3 0, dk d3 3, dk d3 1, dk d3 2, dk d3 4, dk d3 5, List.getD (C.elems (dk d3 1)) (Int.toNat (C.toInt (dk d3 4))) C.nil] [])))) else none) else (k2 [dk d3 0, dk d3 5] [])))
noncomputable def X8 {R : Type} (N : Nat) (a0 a1 a2 a3 a4 : C) (k1 : KD R) : Option R := (jn (fun d1 m1 => (bif C.toBool (dk d1 4) then (k1 [C.bool false] []) else (q0p N (C.get (dk d1 1) 0) (dk d1 3) (fun d2 m2 => (jn (fun d3 m3 => (k1 [C.bool (C.beq (dk d3 1) (dk d3 0))] [])) (fun k2 => (u3 N (q0t N k2) [dk d1 2, C.get (dk d1 1) 2, C.int (↑(List.length (C.elems (C.get (dk d1 1) 2))) : Int), dk d1 0, C.int 0, dk d2 0] []))))))) (fun k2 => (bif decide (C.toInt a2 < 0) then (k2 [a3, a0, a1, a4, C.bool true] []) else (bif !decide ((↑(List.length (C.elems (C.get a0 2))) : Int) = C.toInt a2) then (k2 [a3, a0, a1, a4, C.bool true] []) else (bif !decide (C.toInt (C.get a0 1) = C.toInt a3) then (k2 [a3, a0, a1, a4, C.bool true] []) else (bif decide (C.toInt a2 < 32) then (if 0 ≤ C.toInt a2 then (k2 [a3, a0, a1, a4, C.bool !decide (Int.fdiv (C.toInt a3) (2 ^ min (Int.toNat (C.toInt a2)) 32) = 0)] []) else none) else (k2 [a3, a0, a1, a4, C.bool false] [])))))))
noncomputable def q0A {R : Type} (N : Nat) : C → C → C → C → C → KD R → Option R := lid "" (X8 N)
theorem J5 {R : Type} (N : Nat) (a0 a1 a2 a3 a4 : C) (k : KD R) : q0A N a0 a1 a2 a3 a4 k = X8 N a0 a1 a2 a3 a4 k := by unfold q0A; rw [w6]
theorem z5E {R : Type} (N : Nat) (a0 a1 a2 a3 a4 : C) (K : V → List (Key × O) → Option R) : exF (X0 gl0) ((q9E N).ov R) s5 (fun f r => bif Nat.beq f 112 then (bif Nat.beq r 0 then [(5, 5), (6, 5), (9, 5)] else []) else []) (fun f => bif Nat.beq f 112 then z7O else []) N 400 8 112 [.d j8 a0, .d (.arr 32 (.int .u8)) a1, .d (.int .i64) a2, .d (.int .u32) a3, .d (.arr 32 (.int .u8)) a4] A0 K =
  q0A N a0 a1 a2 a3 a4 (fun d1 m1 => K (V.d Ty.bool (C.bool (C.toBool (dk d1 0)))) []) := by
 rw [J5]
 exact (show _ = jn (fun d1 m1 => (K (V.d Ty.bool (C.bool (C.toBool (dk d1 0)))) [])) (X8 N a0 a1 a2 a3 a4) by kernel_rfl).trans (y4 _ _)
noncomputable def q6d (N : Nat) {R : Type} : OvG R := fun xs _ K => match xs with
 | [.d t0 a0, .d t1 a1, .d t2 a2, .d t3 a3, .d t4 a4] => if t0 = j8 ∧ t1 = (.arr 32 (.int .u8)) ∧ t2 = (.int .i64) ∧ t3 = (.int .u32) ∧ t4 = (.arr 32 (.int .u8)) then q0A N a0 a1 a2 a3 a4 (fun d1 m1 => K (V.d Ty.bool (C.bool (C.toBool (dk d1 0)))) []) else none
 | _ => none
theorem z7N (N : Nat) {R : Type} : GOk (X0 gl0) 112 (q6d N (R := R)) := by
 intro xs A Kr r hr
 unfold q6d at hr
 split at hr
 ·simp only [Option.ite_none_right_eq_some] at hr
  obtain ⟨hty, hr⟩ := hr
  obtain ⟨rfl, rfl, rfl, rfl, rfl⟩ := hty
  rw [← z5E] at hr
  exact okA (q9E N) hr
 ·cases hr
noncomputable def y7F : Hints := [([9], ⟨[], [(2, .d (.int .u32))], [], [], [], []⟩)]
noncomputable def z8N (N : Nat) : OvS (X0 gl0) where
 g R := []
 ok := fun R => fun _ h => nomatch h
noncomputable def z2u {R : Type} (N : Nat) (a0 : C) (k1 : KD R) : Option R := (k1 [C.int (IntKind.wrap IntKind.u32 (if 2147483648 < C.toInt a0 then 2147483648 else C.toInt a0))] [])
noncomputable def q5m {R : Type} (N : Nat) : C → KD R → Option R := lid "" (z2u N)
theorem z8M {R : Type} (N : Nat) (a0 : C) (k : KD R) : q5m N a0 k = z2u N a0 k := by unfold q5m; rw [w6]
theorem y6w {R : Type} (N : Nat) (a0 : C) (K : V → List (Key × O) → Option R) : exF (X0 gl0) ((z8N N).ov R) s5 noX (fun f => bif Nat.beq f 113 then y7F else []) N 400 8 113 [.d (.int .u64) a0] A0 K =
  q5m N a0 (fun d1 m1 => K (V.d (Ty.int IntKind.u32) (dk d1 0)) []) := by
 rw [z8M]
 exact (show _ = jn (fun d1 m1 => (K (V.d (Ty.int IntKind.u32) (dk d1 0)) [])) (z2u N a0) by kernel_rfl).trans (y4 _ _)
noncomputable def z33 (N : Nat) {R : Type} : OvG R := fun xs _ K => match xs with
 | [.d t0 a0] => if t0 = (.int .u64) then q5m N a0 (fun d1 m1 => K (V.d (Ty.int IntKind.u32) (dk d1 0)) []) else none
 | _ => none
theorem y7E (N : Nat) {R : Type} : GOk (X0 gl0) 113 (z33 N (R := R)) := by
 intro xs A Kr r hr
 unfold z33 at hr
 split at hr
 ·simp only [Option.ite_none_right_eq_some] at hr
  obtain ⟨hty, hr⟩ := hr
  subst hty
  rw [← y6w] at hr
  exact okA (z8N N) hr
 ·cases hr
def z2v : List Sh := [.ts 1 (.int .u8), .d w4]
def z8S : List (Key × OSh) := []
noncomputable def y7J : Hints := [([1, 0, 1, 1], ⟨[], [(0, .sl 1 (.int .u8) 5000)], [], [], [], []⟩),
  ([4, 1, 0, 1, 1], ⟨[35, 36], [(0, .sl 1 (.int .u8) 5000), (37, .d (.int .i64))], [], [], [], []⟩),
  ([9], ⟨[], [(4, .sl 1 (.int .u8) 5004)], [], [], [], []⟩)]
noncomputable def z8R (N : Nat) : OvS (X0 gl0) where
 g R := [(137, q3g N), (149, q2D N), (150, q4m N), (151, q78 N)]
 ok := fun R => List.forall_mem_cons.2 ⟨q9I N, List.forall_mem_cons.2 ⟨q82 N, List.forall_mem_cons.2 ⟨z0R N, List.forall_mem_cons.2 ⟨y01 N, fun _ h => nomatch h⟩⟩⟩⟩
noncomputable def q8K {R : Type} (N : Nat) (k2 : KD R) : KD R → List C → List Es → Option R := (fun k3 d4 m4 => (bif decide (C.toInt (dk d4 3) < C.toInt (dk d4 1)) then (if 0 ≤ C.toInt (dk d4 3) ∧ C.toInt (dk d4 3) < (↑(List.length (C.elems (dk d4 0))) : Int) then (bif Nat.beq (List.length (C.elems (dk d4 2))) (List.length (C.elems (dk d4 2))) then (q1p N (C.slice (C.elems (dk d4 2))) (List.getD (C.elems (dk d4 0)) (Int.toNat (C.toInt (dk d4 3))) C.nil) (fun d5 m5 => (bif Nat.beq (List.length (C.elems (dk d5 0))) (List.length (C.elems (dk d5 0))) then (k3 [dk d4 0, dk d4 1, C.slice (C.elems (dk d5 0)), C.int (IntKind.wrap IntKind.i64 (C.toInt (dk d4 3) + 1))] []) else none))) else none) else none) else (bif Nat.beq (List.length (C.elems (dk d4 2))) (List.length (C.elems (dk d4 2))) then (k2 [C.slice (C.elems (dk d4 2))] []) else none)))
noncomputable def q5I {R : Type} (N : Nat) (a0 a1 : C) (k1 : KD R) : Option R := (bif Nat.beq (List.length (C.elems a0)) (List.length (C.elems a0)) then (W8 N (C.slice (C.elems a0)) (C.slice [C.get a1 0]) (fun d1 m1 => (bif Nat.beq (List.length (C.elems (dk d1 0))) (List.length (C.elems (dk d1 0))) then (Y1 N (C.slice (C.elems (dk d1 0))) (C.slice [C.get a1 1, C.get (C.get a1 2) (Int.toNat 0), C.get (C.get a1 2) (Int.toNat 1), C.get (C.get a1 3) (Int.toNat 0), C.get (C.get a1 3) (Int.toNat 1)]) (fun d2 m2 => (bif Nat.beq (List.length (C.elems (dk d2 0))) (List.length (C.elems (dk d2 0))) then (H2 N (C.slice (C.elems (dk d2 0))) (C.slice [C.int (IntKind.wrap IntKind.u8 (↑(List.length (C.elems (C.get a1 4))) : Int))]) (fun d3 m3 => (jn (fun d4 m4 => (bif Nat.beq (List.length (C.elems (dk d4 0))) (List.length (C.elems (dk d4 0))) then (k1 [C.slice (C.elems (dk d4 0))] []) else none)) (fun k2 => (bif Nat.beq (List.length (C.elems (dk d3 0))) (List.length (C.elems (dk d3 0))) then (u3 N (q8K N k2) [C.get a1 4, C.int (↑(List.length (C.elems (C.get a1 4))) : Int), C.slice (C.elems (dk d3 0)), C.int 0] []) else none))))) else none))) else none))) else none)
noncomputable def q5o {R : Type} (N : Nat) : C → C → KD R → Option R := lid "" (q5I N)
theorem z8Q {R : Type} (N : Nat) (a0 a1 : C) (k : KD R) : q5o N a0 a1 k = q5I N a0 a1 k := by unfold q5o; rw [w6]
theorem y6y {R : Type} (N : Nat) (a0 a1 : C) (K : V → List (Key × O) → Option R) : exF (X0 gl0) ((z8R N).ov R) s5 (fun f r => bif Nat.beq f 138 then (bif Nat.beq r 0 then [(3, 5)] else bif Nat.beq r 1 then [(11, 1), (27, 1), (33, 1)] else bif Nat.beq r 5 then [(43, 1)] else []) else []) (fun f => bif Nat.beq f 138 then y7J else []) N 400 8 138 (Sh.W4 z2v 0 [a0, a1]) (z8 (u0 z8S (Sh.q0m z2v) 0 [a0, a1] [])) K =
  q5o N a0 a1 (fun d1 m1 => K (V.ts 1 (Ty.int IntKind.u8) (C.elems (dk d1 0))) []) := by
 rw [z8Q]
 exact (show _ = jn (fun d1 m1 => (bif Nat.beq (List.length (C.elems (dk d1 0))) (List.length (C.elems (dk d1 0))) then
  (K (V.ts 1 (Ty.int IntKind.u8) (C.elems (dk d1 0))) [])
 else
  none)) (q5I N a0 a1) by kernel_rfl).trans ((y4 _ _).trans (congrArg (q5I N a0 a1) (funext fun _ => funext fun _ => by simp only [Nat.beq_refl, cond_true])))
noncomputable def z37 (N : Nat) {R : Type} : OvG R := q7S z2v z8S fun ds ms K => q5o N (dk ds 0) (dk ds 1) (fun d1 m1 => K (V.ts 1 (Ty.int IntKind.u8) (C.elems (dk d1 0))) [])
theorem y7I (N : Nat) {R : Type} : GOk (X0 gl0) 138 (z37 N (R := R)) := by
 unfold z37
 refine q2W fun ds ms K r hr => ?_
 rw [← y6y] at hr
 exact okB (z8R N) hr
noncomputable def y7H : Hints := [([9], ⟨[], [(2, .as (.ptr (.l 2) [] (.arr 32 (.int .u8))))], [], [(.l 2, .box (.d (.arr 32 (.int .u8))))], [], []⟩)]
noncomputable def z8P (N : Nat) : OvS (X0 gl0) where
 g R := [(106, q5c N), (137, q3g N), (138, z37 N)]
 ok := fun R => List.forall_mem_cons.2 ⟨q8r N, List.forall_mem_cons.2 ⟨q9I N, List.forall_mem_cons.2 ⟨y7I N, fun _ h => nomatch h⟩⟩⟩
noncomputable def q8J {R : Type} (N : Nat) (a0 : C) (k1 : KD R) : Option R := (W8 N (C.slice []) (C.slice [C.get a0 0]) (fun d1 m1 => (q5o N (C.slice []) a0 (fun d2 m2 => (q1g N (C.int 4) (C.slice [C.slice (C.elems (dk d1 0)), C.slice (C.elems (dk d2 0))]) (fun d3 m3 => (k1 [dk d3 0] [])))))))
noncomputable def q5n {R : Type} (N : Nat) : C → KD R → Option R := lid "" (q8J N)
theorem z8O {R : Type} (N : Nat) (a0 : C) (k : KD R) : q5n N a0 k = q8J N a0 k := by unfold q5n; rw [w6]
theorem y6x {R : Type} (N : Nat) (a0 : C) (K : V → List (Key × O) → Option R) : exF (X0 gl0) ((z8P N).ov R) s5 (fun f r => bif Nat.beq f 114 then (bif Nat.beq r 0 then [(1, 5)] else bif Nat.beq r 1 then [(7, 1), (9, 1), (11, 7)] else []) else []) (fun f => bif Nat.beq f 114 then y7H else []) N 400 8 114 [.d w4 a0] A0 K =
  q5n N a0 (fun d1 m1 => K (V.d (Ty.arr 32 (Ty.int IntKind.u8)) (dk d1 0)) []) := by
 rw [z8O]
 exact (show _ = jn (fun d1 m1 => (K (V.d (Ty.arr 32 (Ty.int IntKind.u8)) (dk d1 0)) [])) (q8J N a0) by kernel_rfl).trans (y4 _ _)
noncomputable def z34 (N : Nat) {R : Type} : OvG R := fun xs _ K => match xs with
 | [.d t0 a0] => if t0 = w4 then q5n N a0 (fun d1 m1 => K (V.d (Ty.arr 32 (Ty.int IntKind.u8)) (dk d1 0)) []) else none
 | _ => none
theorem y7G (N : Nat) {R : Type} : GOk (X0 gl0) 114 (z34 N (R := R)) := by
 intro xs A Kr r hr
 unfold z34 at hr
 split at hr
 ·simp only [Option.ite_none_right_eq_some] at hr
  obtain ⟨hty, hr⟩ := hr
  subst hty
  rw [← y6x] at hr
  exact okA (z8P N) hr
 ·cases hr
noncomputable def z5g : Hints := [([0, 0, 1], ⟨[1, 4, 6, 7], [(14, .d .bool)], [], [], [], []⟩),
  ([9], ⟨[], [(8, .d .bool)], [], [], [], []⟩)]
noncomputable def q7H (N : Nat) : OvS (X0 gl0) where
 g R := [(112, q6d N), (113, z33 N), (114, z34 N)]
 ok := fun R => List.forall_mem_cons.2 ⟨z7N N, List.forall_mem_cons.2 ⟨y7E N, List.forall_mem_cons.2 ⟨y7G N, fun _ h => nomatch h⟩⟩⟩
noncomputable def q1Y {R : Type} (N : Nat) (a0 a1 a2 a3 : C) (k1 : KD R) : Option R := (jn (fun d1 m1 => (bif C.toBool (dk d1 4) then (k1 [C.bool false] []) else (if 0 ≤ C.toInt (dk d1 0) ∧ C.toInt (dk d1 0) < 2 then (q5m N (C.get (dk d1 2) 1) (fun d2 m2 => (q5n N (dk d1 2) (fun d3 m3 => (q0A N (dk d1 3) (C.get (C.get (dk d1 1) 0) (Int.toNat (C.toInt (dk d1 0)))) (C.get (dk d1 1) 1) (dk d2 0) (dk d3 0) (fun d4 m4 => (k1 [C.bool (C.toBool (dk d4 0))] []))))))) else none))) (fun k2 => (bif !decide (C.toInt a1 = 0) then (k2 [a1, a0, a2, a3, C.bool !decide (C.toInt a1 = 1)] []) else (k2 [a1, a0, a2, a3, C.bool false] []))))
noncomputable def U6 {R : Type} (N : Nat) : C → C → C → C → KD R → Option R := lid "" (q1Y N)
theorem q7G {R : Type} (N : Nat) (a0 a1 a2 a3 : C) (k : KD R) : U6 N a0 a1 a2 a3 k = q1Y N a0 a1 a2 a3 k := by unfold U6; rw [w6]
theorem z36 {R : Type} (N : Nat) (a0 a1 a2 a3 : C) (K : V → List (Key × O) → Option R) : exF (X0 gl0) ((q7H N).ov R) s5 (fun f r => bif Nat.beq f 91 then (bif Nat.beq r 0 then [(4, 5), (6, 5), (7, 5)] else bif Nat.beq r 3 then [(24, 7), (26, 7), (27, 7)] else []) else []) (fun f => bif Nat.beq f 91 then z5g else []) N 400 8 91 [.d c9 a0, .d (.int .i64) a1, .d w4 a2, .d j8 a3] A0 K =
  U6 N a0 a1 a2 a3 (fun d1 m1 => K (V.d Ty.bool (C.bool (C.toBool (dk d1 0)))) []) := by
 rw [q7G]
 exact (show _ = jn (fun d1 m1 => (K (V.d Ty.bool (C.bool (C.toBool (dk d1 0)))) [])) (q1Y N a0 a1 a2 a3) by kernel_rfl).trans (y4 _ _)
noncomputable def q4X (N : Nat) {R : Type} : OvG R := fun xs _ K => match xs with
 | [.d t0 a0, .d t1 a1, .d t2 a2, .d t3 a3] => if t0 = c9 ∧ t1 = (.int .i64) ∧ t2 = w4 ∧ t3 = j8 then U6 N a0 a1 a2 a3 (fun d1 m1 => K (V.d Ty.bool (C.bool (C.toBool (dk d1 0)))) []) else none
 | _ => none
theorem z5f (N : Nat) {R : Type} : GOk (X0 gl0) 91 (q4X N (R := R)) := by
 intro xs A Kr r hr
 unfold q4X at hr
 split at hr
 ·simp only [Option.ite_none_right_eq_some] at hr
  obtain ⟨hty, hr⟩ := hr
  obtain ⟨rfl, rfl, rfl, rfl⟩ := hty
  rw [← z36] at hr
  exact okA (q7H N) hr
 ·cases hr
noncomputable def z5e : Hints := [([0, 1, 1, 1], ⟨[], [(6, .d .bool)], [], [], [], []⟩),
  ([9], ⟨[], [(6, .d .bool)], [], [], [], []⟩)]
noncomputable def q7F (N : Nat) : OvS (X0 gl0) where
 g R := [(35, q9Y N), (90, z2f N), (91, q4X N)]
 ok := fun R => List.forall_mem_cons.2 ⟨z8h N, List.forall_mem_cons.2 ⟨y46 N, List.forall_mem_cons.2 ⟨z5f N, fun _ h => nomatch h⟩⟩⟩
noncomputable def H6 {R : Type} (N : Nat) (a0 a1 a2 : C) (k1 : KD R) : Option R := (bif !decide (C.toInt (C.get (C.get a1 0) 0) = C.toInt a2) then (k1 [C.bool false] []) else (bif decide (C.toInt (C.get (C.get a1 0) 1) = 0) then (q3f N a2 (fun d1 m1 => (q32 N (C.get a1 0) (dk d1 0) (fun d2 m2 => (k1 [C.bool (C.toBool (dk d2 0))] []))))) else (jn (fun d1 m1 => (k1 [C.bool (C.toBool (dk d1 0))] [])) (fun k2 => (U6 N a0 (C.int 0) (C.get a1 0) (C.get (C.get a1 1) (Int.toNat 0)) (fun d1 m1 => (bif C.toBool (dk d1 0) then (U6 N a0 (C.int 1) (C.get a1 0) (C.get (C.get a1 1) (Int.toNat 1)) (fun d2 m2 => (k2 [C.bool (C.toBool (dk d2 0))] []))) else (k2 [C.bool false] []))))))))
noncomputable def Y8 {R : Type} (N : Nat) : C → C → C → KD R → Option R := lid "" (H6 N)
theorem q1X {R : Type} (N : Nat) (a0 a1 a2 : C) (k : KD R) : Y8 N a0 a1 a2 k = H6 N a0 a1 a2 k := by unfold Y8; rw [w6]
theorem z35 {R : Type} (N : Nat) (a0 a1 a2 : C) (K : V → List (Key × O) → Option R) : exF (X0 gl0) ((q7F N).ov R) s5 (fun f r => bif Nat.beq f 65 then (bif Nat.beq r 0 then [(3, 5), (4, 5)] else bif Nat.beq r 4 then [(19, 7), (20, 7)] else []) else []) (fun f => bif Nat.beq f 65 then z5e else []) N 400 8 65 [.d c9 a0, .d Y2 a1, .d (.int .u32) a2] A0 K =
  Y8 N a0 a1 a2 (fun d1 m1 => K (V.d Ty.bool (C.bool (C.toBool (dk d1 0)))) []) := by
 rw [q1X]
 exact (show _ = jn (fun d1 m1 => (K (V.d Ty.bool (C.bool (C.toBool (dk d1 0)))) [])) (H6 N a0 a1 a2) by kernel_rfl).trans (y4 _ _)
noncomputable def q4W (N : Nat) {R : Type} : OvG R := fun xs _ K => match xs with
 | [.d t0 a0, .d t1 a1, .d t2 a2] => if t0 = c9 ∧ t1 = Y2 ∧ t2 = (.int .u32) then Y8 N a0 a1 a2 (fun d1 m1 => K (V.d Ty.bool (C.bool (C.toBool (dk d1 0)))) []) else none
 | _ => none
theorem z5d (N : Nat) {R : Type} : GOk (X0 gl0) 65 (q4W N (R := R)) := by
 intro xs A Kr r hr
 unfold q4W at hr
 split at hr
 ·simp only [Option.ite_none_right_eq_some] at hr
  obtain ⟨hty, hr⟩ := hr
  obtain ⟨rfl, rfl, rfl⟩ := hty
  rw [← z35] at hr
  exact okA (q7F N) hr
 ·cases hr
end Go.Proofs.YtgdonkaoajbclaaGreatDoor
namespace Go.Proofs.YtgdonkaoajbclaaGreatDoor
open Go Go.E
set_option maxRecDepth 100000
set_option maxHeartbeats 4000000
set_option linter.unusedSimpArgs false
variable {R : Type} {N : Nat}
theorem x4g (x : Int) : u1 BinOp.and IntKind.u8 x 1 = 0 ∨ u1 BinOp.and IntKind.u8 x 1 = 1 := by
 have h : (BitVec.ofInt 8 x &&& BitVec.ofInt 8 1).toNat ≤ 1 := by
  rw [BitVec.toNat_and]
  exact Nat.and_le_right
 show IntKind.u8.wrap ((BitVec.ofInt 8 x &&& BitVec.ofInt 8 1).toNat : Int) = 0 ∨ IntKind.u8.wrap ((BitVec.ofInt 8 x &&& BitVec.ofInt 8 1).toNat : Int) = 1
 generalize (BitVec.ofInt 8 x &&& BitVec.ofInt 8 1).toNat = a at *
 rw [wrap_u8]
 omega
theorem x4b (d : C) (i : Nat) (hi : i < 32) : ∃ v : Int, (v = 0 ∨ v = 1) ∧ ∀ k : KD R, q5k N d (.int i) k = k [.int v] [] := by
 have r := U9 (i : Int) 8 (by omega) (by omega)
 have q : Int.tdiv (i : Int) 8 = (i : Int) / 8 := Int.tdiv_eq_ediv_of_nonneg (by omega)
 have q1 : IntKind.i64.wrap ((i : Int) / 8) = (i : Int) / 8 := wrap_i64 (by omega) (by omega)
 have q2 : IntKind.i64.wrap (7 - Int.tmod (i : Int) 8) = 7 - Int.tmod (i : Int) 8 := wrap_i64 (by omega) (by omega)
 have c1 : 0 ≤ (i : Int) / 8 ∧ (i : Int) / 8 < 32 := by omega
 have c2 : 0 ≤ 7 - Int.tmod (i : Int) 8 := by omega
 refine ⟨u1 BinOp.and IntKind.u8 (Int.fdiv (C.toInt (C.get d ((i : Int) / 8).toNat)) (2 ^ min (7 - Int.tmod (i : Int) 8).toNat 8)) 1, x4g _, fun k => ?_⟩
 rw [z8A]
 unfold q8C
 simp only [y8, q, q1, q2, c1, c2, and_self, if_true]
theorem x02 (c : C) (hN : 2000 < N) (hN2 : N < 4611686018427387904) : ∃ l : List C, l.length = 16 ∧ ∀ k : KD R, q24 N c k = k [.agg l] [] := by
 obtain ⟨d, ⟨l, rfl, hl⟩, h1⟩ := z7J (R := R) (N := N) (.int 5) [C.slice (cut (C.elems c) 0 16)] 100 (fun x hx => ⟨_, List.mem_singleton.1 hx, by simp [cut]; omega⟩) (by simp; omega) (by omega) hN2
 refine ⟨List.take 16 (List.take 16 (List.drop 0 l)), by simp; omega, fun k => ?_⟩
 rw [z4W]
 unfold q58
 simp only [h1, x9, q3v]
 exact if_pos (by simp; omega)
theorem x13 (a0 : C) (hN : 4000 < N) (hN2 : N < 4611686018427387904) : ∃ c, Dig c ∧ ∀ k : KD R, q39 N a0 k = k [c] [] := by
 obtain ⟨d, ⟨o, ho, rfl⟩, h⟩ := j6 (R := R) (F := fun k2 => q7k N k2) 32 (fun i st => ∃ o : List C, o.length ≤ 32 * i ∧ st = [a0, .slice o, .int i, z0 (.arr 32 (.int .u8))]) (fun d => ∃ o : List C, o.length ≤ 1024 ∧ d = [.slice o, z0 (.arr 32 (.int .u8))])
  (fun i st hi hst => by
   obtain ⟨o, ho, rfl⟩ := hst
   have e1 : (i : Int) < 32 := by omega
   have l1 : (List.take 16 (List.drop (Int.toNat 0) (C.elems (C.get (C.get a0 i) (Int.toNat 0))))).length ≤ 16 := by simp; omega
   have l2 : (List.take 16 (List.drop (Int.toNat 0) (C.elems (C.get (C.get a0 i) (Int.toNat 1))))).length ≤ 16 := by simp; omega
   generalize hx : List.take 16 (List.drop (Int.toNat 0) (C.elems (C.get (C.get a0 i) (Int.toNat 0)))) = x at *
   generalize hy : List.take 16 (List.drop (Int.toNat 0) (C.elems (C.get (C.get a0 i) (Int.toNat 1)))) = y at *
   have g1 : (o.length + x.length) * 1 ≤ 140737488355328 ∧ o.length + x.length ≤ 9223372036854775807 := by omega
   have g2 : (o.length + x.length + y.length) * 1 ≤ 140737488355328 ∧ o.length + x.length + y.length ≤ 9223372036854775807 := by omega
   refine ⟨_, ⟨o ++ x ++ y, by simp; omega, rfl⟩, fun k rec => ?_⟩
   unfold q7k
   simp only [x9, w7, w9, u6, y8, y7, e1, decide_true, cond_true, Int.natCast_nonneg, and_self, if_true, Int.toNat_natCast, hx, hy, g1, g2, Nat.beq_refl, List.length_append, u5 (show i < 4611686018427387904 by omega)])
  (fun st hst => by
   obtain ⟨o, ho, rfl⟩ := hst
   refine ⟨_, ⟨o, by omega, rfl⟩, fun k rec => ?_⟩
   unfold q7k
   have e : ¬ ((32 : Nat) : Int) < 32 := by decide
   simp only [x9, w7, w9, u6, y8, y7, e, decide_false, cond_false, cond_true, Nat.beq_refl])
  (N := N) (by omega) (st := [a0, .slice [], .int (0 : Nat), z0 (.arr 32 (.int .u8))]) ⟨[], by simp, rfl⟩
 obtain ⟨c, hc, h2⟩ := z7J (R := R) (N := N) (.int 2) [C.slice o] 1100 (fun x hx => ⟨_, List.mem_singleton.1 hx, by omega⟩) (by simp; omega) (by omega) hN2
 refine ⟨c, hc, fun k => ?_⟩
 rw [z6C]
 unfold q7j
 simp only [y4]
 refine (h _).trans ?_
 simp only [x9, y7, h2]
theorem x2F (a0 a1 : C) (hN : 4000 < N) (hN2 : N < 4611686018427387904) : ∃ c, Dig c ∧ ∀ k : KD R, q0p N a0 a1 k = k [c] [] := by
 obtain ⟨d, ⟨x, rfl⟩, h⟩ := j6 (R := R) (F := fun k2 => q3q N k2) 32 (fun i st => ∃ x : C, st = [a0, a1, .int i, z0 (.arr 32 (.int .u8)), x]) (fun d => ∃ x : C, d = [z0 (.arr 32 (.int .u8)), x])
  (fun i st hi hst => by
   obtain ⟨x, rfl⟩ := hst
   have e1 : (i : Int) < 32 := by omega
   obtain ⟨v, hv, h1⟩ := x4b (R := R) (N := N) a1 i hi
   obtain ⟨l, hl, h2⟩ := x02 (R := R) (N := N) (C.get (C.get a0 0) i) (by omega) hN2
   have c1 : 0 ≤ v ∧ v < 2 := by omega
   have c2 : 0 ≤ IntKind.u8.wrap (1 - v) ∧ IntKind.u8.wrap (1 - v) < 2 := by rw [wrap_u8]; omega
   refine ⟨_, ⟨?x1, rfl⟩, fun k rec => ?eq1⟩
   case eq1 =>
    unfold q3q
    simp only [x9, w7, w9, u6, j3, y8, e1, h1, h2, c1, c2, decide_true, cond_true, Int.natCast_nonneg, and_self, if_true, Int.toNat_natCast, u5 (show i < 4611686018427387904 by omega)]
    rfl)
  (fun st hst => by
   obtain ⟨x, rfl⟩ := hst
   refine ⟨_, ⟨x, rfl⟩, fun k rec => ?_⟩
   unfold q3q
   have e : ¬ ((32 : Nat) : Int) < 32 := by decide
   simp only [x9, w7, w9, u6, j3, y8, e, decide_false, cond_false])
  (N := N) (by omega) (st := [a0, a1, .int (0 : Nat), z0 (.arr 32 (.int .u8)), z0 (.arr 32 (.arr 2 (.arr 16 (.int .u8))))]) ⟨_, rfl⟩
 obtain ⟨c, hc, h2⟩ := x13 (R := R) (N := N) x hN hN2
 refine ⟨c, hc, fun k => ?_⟩
 rw [z1d]
 unfold q3p
 simp only [y4]
 refine (h _).trans ?_
 simp only [x9, w7, h2]
theorem y3c (a b : C) (hN : 4000 < N) (hN2 : N < 4611686018427387904) : ∃ c, Dig c ∧ ∀ k : KD R, q2N N a b k = k [c] [] := by
 obtain ⟨c, hc, h1⟩ := z7J (R := R) (N := N) (.int 3) [C.slice (cut (C.elems a) 0 32), C.slice (cut (C.elems b) 0 32)] 100 (fun x hx => by
  simp only [List.mem_cons, List.not_mem_nil, or_false] at hx
  rcases hx with rfl | rfl
  ·exact ⟨_, rfl, by simp [cut]; omega⟩
  ·exact ⟨_, rfl, by simp [cut]; omega⟩) (by simp; omega) (by omega) hN2
 refine ⟨c, hc, fun k => ?_⟩
 rw [z4k]
 unfold q5M
 simp only [h1, x9]
theorem y4I (a0 a1 a2 a3 a4 : C) (ha : a2.toInt ≤ 1000) (hN : 4000 < N) (hN2 : N < 4611686018427387904) : ∃ b : Bool, ∀ k : KD R, q0A N a0 a1 a2 a3 a4 k = k [.bool b] [] := by
 have no : ∀ b : Bool, b = true → ∀ k : KD R, (bif b then k [C.bool false] [] else none : Option R) = k [C.bool false] [] := fun b hb k => by rw [hb]; rfl
 by_cases z1 : a2.toInt < 0
 ·refine ⟨false, fun k => ?_⟩
  rw [J5]
  unfold X8
  simp only [y4, z1, decide_true, cond_true, j3, p9]
 by_cases z2 : ((C.elems (C.get a0 2)).length : Int) = a2.toInt
 case neg =>
  refine ⟨false, fun k => ?_⟩
  rw [J5]
  unfold X8
  simp only [y4, z1, z2, decide_true, decide_false, Bool.not_false, cond_true, cond_false, j3, p9]
 by_cases z3 : (C.get a0 1).toInt = a3.toInt
 case neg =>
  refine ⟨false, fun k => ?_⟩
  rw [J5]
  unfold X8
  simp only [y4, z1, z2, z3, decide_true, decide_false, Bool.not_false, Bool.not_true, cond_true, cond_false, j3, p9]
 obtain ⟨d0, _, h0⟩ := x2F (R := R) (N := N) (C.get a0 0) a4 hN hN2
 generalize hL : C.elems (C.get a0 2) = L at *
 obtain ⟨d, ⟨y, rfl⟩, h⟩ := j6 (R := R) (F := fun k2 => q0t N k2) L.length (fun i st => ∃ x y : C, st = [a1, C.get a0 2, .int L.length, x, .int i, y]) (fun d => ∃ y : C, d = [a1, y])
  (fun i st hi hst => by
   obtain ⟨x, y, rfl⟩ := hst
   have e1 : (i : Int) < (L.length : Int) := by omega
   by_cases z : u1 BinOp.and IntKind.u32 (C.toInt x) 1 = 1
   ·obtain ⟨c, _, h1⟩ := y3c (R := R) (N := N) (L.getD i .nil) y hN hN2
    refine ⟨_, ⟨?x2, ?y2, rfl⟩, fun k rec => ?eq2⟩
    case eq2 =>
     unfold q0t
     simp only [y4, x9, w7, w9, u6, j3, F3, q2x, y8, hL, e1, z, h1, decide_true, cond_true, Int.natCast_nonneg, and_self, if_true, Int.toNat_natCast, u5 (show i < 4611686018427387904 by omega)]
     rfl
   ·obtain ⟨c, _, h1⟩ := y3c (R := R) (N := N) y (L.getD i .nil) hN hN2
    refine ⟨_, ⟨?x3, ?y3, rfl⟩, fun k rec => ?eq3⟩
    case eq3 =>
     unfold q0t
     simp only [y4, x9, w7, w9, u6, j3, F3, q2x, y8, hL, e1, z, h1, decide_true, decide_false, cond_true, cond_false, Int.natCast_nonneg, and_self, if_true, Int.toNat_natCast, u5 (show i < 4611686018427387904 by omega)]
     rfl)
  (fun st hst => by
   obtain ⟨x, y, rfl⟩ := hst
   refine ⟨_, ⟨y, rfl⟩, fun k rec => ?_⟩
   unfold q0t
   simp only [x9, w7, w9, u6, j3, F3, y8, Int.lt_irrefl, decide_false, cond_false])
  (N := N) (by omega) (st := [a1, C.get a0 2, .int L.length, a3, .int (0 : Nat), d0]) ⟨_, _, rfl⟩
 have main : ∀ k : KD R, (q0p N (C.get a0 0) a4 fun d2 m2 => u3 N (q0t N fun d3 m3 => k [C.bool (C.beq (dk d3 1) (dk d3 0))] []) [a1, C.get a0 2, C.int L.length, a3, C.int 0, dk d2 0] []) = k [C.bool (C.beq y a1)] [] := fun k => by
  rw [h0]
  refine (h _).trans ?_
  simp only [x9, w7]
 have hc : a2.toInt < 32 ∨ ¬ a2.toInt < 32 := by omega
 by_cases z5 : a2.toInt < 32
 ·by_cases z4 : Int.fdiv (C.toInt a3) (2 ^ min (Int.toNat (C.toInt a2)) 32) = 0
  ·refine ⟨C.beq y a1, fun k => ?_⟩
   rw [J5]
   unfold X8
   simp only [y4, hL, z1, z2, z3, z5, z4, decide_true, decide_false, Bool.not_false, Bool.not_true, cond_true, cond_false, x9, w7, w9, u6, j3, p9]
   refine (if_pos (by omega)).trans ?_
   rw [← z2]
   exact main k
  ·refine ⟨false, fun k => ?_⟩
   rw [J5]
   unfold X8
   simp only [y4, hL, z1, z2, z3, z5, z4, decide_true, decide_false, Bool.not_false, Bool.not_true, cond_true, cond_false, x9, w7, w9, u6, j3, p9]
   exact if_pos (by omega)
 ·refine ⟨C.beq y a1, fun k => ?_⟩
  rw [J5]
  unfold X8
  simp only [y4, hL, z1, z2, z3, z5, decide_true, decide_false, Bool.not_false, Bool.not_true, cond_true, cond_false, x9, w7, w9, u6, j3, p9]
  rw [← z2]
  exact main k
theorem x4i (s : C) (h : StW s) (hN : 4000 < N) : ∃ o : List C, o.length ≤ 800 ∧ ∀ k : KD R, q5o N (.slice []) s k = k [.slice o] [] := by
 generalize hcs : C.elems (C.get s 4) = cs
 have hl : cs.length ≤ 12 := hcs ▸ h.ln
 have hw : ∀ c ∈ cs, z7M c := fun c hc => h.cs c (hcs ▸ hc)
 have four : ∀ k : KD R, W8 N (.slice []) (.slice [s.get 0]) k = k [.slice ([] ++ q0d 4 [s.get 0])] [] := fun k => z8j _ _ (fun c hc => by rw [List.mem_singleton.1 hc]; exact h.ch) (by simp) (by simp; omega) k
 generalize hv : ([C.get s 1, C.get (C.get s 2) (Int.toNat 0), C.get (C.get s 2) (Int.toNat 1), C.get (C.get s 3) (Int.toNat 0), C.get (C.get s 3) (Int.toNat 1)] : List C) = v
 have hv0 : ∀ c ∈ v, 0 ≤ c.toInt := by
  subst hv
  intro c hc
  simp only [List.mem_cons, List.not_mem_nil, or_false] at hc
  rcases hc with rfl | rfl | rfl | rfl | rfl
  ·exact h.rd.1
  ·exact h.p0.1
  ·exact h.p1.1
  ·exact h.q0.1
  ·exact h.q1.1
 have hvl : v.length = 5 := by subst hv; rfl
 have ln4 : ([] ++ q0d 4 [s.get 0] : List C).length = 4 := by simp [z21, Z4]
 generalize ([] ++ q0d 4 [s.get 0] : List C) = o1 at *
 have eight : ∀ k : KD R, Y1 N (.slice o1) (.slice v) k = k [.slice (o1 ++ q0d 8 v)] [] := fun k => q60 _ _ hv0 (by omega) (by omega) k
 have ln8 : (o1 ++ q0d 8 v).length = 44 := by subst hv; simp [q0d, Z4, ln4]
 generalize (o1 ++ q0d 8 v) = o2 at *
 have one : ∀ k : KD R, H2 N (.slice o2) (.slice [C.int (IntKind.wrap IntKind.u8 (cs.length : Int))]) k = k [.slice (o2 ++ [C.int (IntKind.wrap IntKind.u8 (cs.length : Int))])] [] := fun k => y0c _ _ (by simp; omega) k
 obtain ⟨d, ⟨o, ho, rfl⟩, h1⟩ := j6 (R := R) (F := fun k2 => q8K N k2) cs.length (fun i st => ∃ o : List C, o.length ≤ 45 + 57 * i ∧ st = [C.get s 4, .int cs.length, .slice o, .int i]) (fun d => ∃ o : List C, o.length ≤ 800 ∧ d = [.slice o])
  (fun i st hi hst => by
   obtain ⟨o, ho, rfl⟩ := hst
   have e1 : (i : Int) < (cs.length : Int) := by omega
   have hcw := hw _ (q3s hi)
   have hl2 := y24 hcw
   refine ⟨_, ⟨o ++ z10 (cs.getD i .nil), by rw [List.length_append, hl2]; omega, rfl⟩, fun k rec => ?_⟩
   unfold q8K
   simp only [x9, w7, w9, u6, y8, y7, hcs, e1, decide_true, cond_true, Int.natCast_nonneg, and_self, if_true, Int.toNat_natCast, Nat.beq_refl, y87 o _ hcw (by omega) (show 200 < N by omega), u5 (show i < 4611686018427387904 by omega)])
  (fun st hst => by
   obtain ⟨o, ho, rfl⟩ := hst
   refine ⟨_, ⟨o, by omega, rfl⟩, fun k rec => ?_⟩
   unfold q8K
   simp only [x9, w7, w9, u6, y8, y7, Int.lt_irrefl, decide_false, cond_false, cond_true, Nat.beq_refl])
  (N := N) (by omega) (st := [C.get s 4, .int cs.length, .slice (o2 ++ [C.int (IntKind.wrap IntKind.u8 (cs.length : Int))]), .int (0 : Nat)]) ⟨_, by simp; omega, rfl⟩
 refine ⟨o, ho, fun k => ?_⟩
 rw [z8Q]
 unfold q5I
 simp only [y4, y7, Nat.beq_refl, cond_true, four, x9, hv, eight, hcs, one]
 refine (h1 _).trans ?_
 simp only [x9, y7, Nat.beq_refl, cond_true]
theorem x4h (s : C) (h : StW s) (hN : 4000 < N) (hN2 : N < 4611686018427387904) : ∃ c, Dig c ∧ ∀ k : KD R, q5n N s k = k [c] [] := by
 have four : ∀ k : KD R, W8 N (.slice []) (.slice [s.get 0]) k = k [.slice ([] ++ q0d 4 [s.get 0])] [] := fun k => z8j _ _ (fun c hc => by rw [List.mem_singleton.1 hc]; exact h.ch) (by simp) (by simp; omega) k
 obtain ⟨o, ho, h1⟩ := x4i (R := R) (N := N) s h hN
 obtain ⟨c, hc, h2⟩ := z7J (R := R) (N := N) (.int 4) [C.slice ([] ++ q0d 4 [s.get 0]), C.slice o] 900 (fun x hx => by
  simp only [List.mem_cons, List.not_mem_nil, or_false] at hx
  rcases hx with rfl | rfl
  ·exact ⟨_, rfl, by simp [z21, Z4]⟩
  ·exact ⟨_, rfl, by omega⟩) (by simp; omega) (by omega) hN2
 refine ⟨c, hc, fun k => ?_⟩
 rw [z8O]
 unfold q8J
 simp only [four, x9, y7, h1, h2]
theorem z2G (a0 a2 a3 : C) (side : Int) (hs : side = 0 ∨ side = 1) (h : StW a2) (hd : (a0.get 1).toInt ≤ 1000) (hN : 4000 < N) (hN2 : N < 4611686018427387904) : ∃ b : Bool, ∀ k : KD R, U6 N a0 (.int side) a2 a3 k = k [.bool b] [] := by
 obtain ⟨key, hk⟩ : ∃ c : C, ∀ k : KD R, q5m N (C.get a2 1) k = k [c] [] := ⟨_, fun k => by rw [z8M]; rfl⟩
 obtain ⟨c, _, h1⟩ := x4h (R := R) (N := N) a2 h hN hN2
 obtain ⟨b, h2⟩ := y4I (R := R) (N := N) a3 (C.get (C.get a0 0) side.toNat) (C.get a0 1) key c hd hN hN2
 refine ⟨b, fun k => ?_⟩
 rw [q7G]
 unfold q1Y
 rcases hs with rfl | rfl
 ·simp only [y4, y8, p9, decide_true, decide_false, Bool.not_true, cond_true, cond_false, x9, w7, w9, u6, j3]
  refine (if_pos (by omega)).trans ?_
  simp only [hk, h1, x9, h2, p9]
 ·simp only [y4, y8, p9, decide_true, decide_false, Bool.not_true, cond_true, cond_false, x9, w7, w9, u6, j3, show ¬ (1 : Int) = 0 by decide, Bool.not_false]
  refine (if_pos (by omega)).trans ?_
  simp only [hk, h1, x9, h2, p9]
end Go.Proofs.YtgdonkaoajbclaaGreatDoor
namespace Go.Proofs.YtgdonkaoajbclaaGreatDoor
open Go Go.E
set_option maxRecDepth 100000
set_option maxHeartbeats 4000000
set_option linter.unusedVariables false
noncomputable def y5C : Hints := [([9], ⟨[], [(4, .d (.int .u64)), (5, .d (.int .i64))], [], [], [], []⟩)]
noncomputable def z6j (N : Nat) : OvS (X0 gl0) where
 g R := []
 ok := fun R => fun _ h => nomatch h
noncomputable def q7e {R : Type} (N : Nat) (a0 a1 : C) (k1 : KD R) : Option R := (bif !decide ((C.toInt a0 + C.toInt a1) / 18446744073709551616 = 0) then (k1 [C.int 0, C.int 11] []) else (k1 [C.int ((C.toInt a0 + C.toInt a1) % 18446744073709551616), C.int 0] []))
noncomputable def q0h {R : Type} (N : Nat) : C → C → KD R → Option R := lid "" (q7e N)
theorem z6i {R : Type} (N : Nat) (a0 a1 : C) (k : KD R) : q0h N a0 a1 k = q7e N a0 a1 k := by unfold q0h; rw [w6]
theorem y3S {R : Type} (N : Nat) (a0 a1 : C) (K : V → List (Key × O) → Option R) : exF (X0 gl0) ((z6j N).ov R) s5 noX (fun f => bif Nat.beq f 37 then y5C else []) N 400 8 37 [.d (.int .u64) a0, .d (.int .u64) a1] A0 K =
  q0h N a0 a1 (fun d1 m1 => K (V.tup [V.d (Ty.int IntKind.u64) (dk d1 0), V.d (Ty.int IntKind.i64) (dk d1 1)]) []) := by
 rw [z6i]
 exact (show _ = jn (fun d1 m1 => (K (V.tup [V.d (Ty.int IntKind.u64) (dk d1 0), V.d (Ty.int IntKind.i64) (dk d1 1)]) [])) (q7e N a0 a1) by kernel_rfl).trans (y4 _ _)
noncomputable def q5F (N : Nat) {R : Type} : OvG R := fun xs _ K => match xs with
 | [.d t0 a0, .d t1 a1] => if t0 = (.int .u64) ∧ t1 = (.int .u64) then q0h N a0 a1 (fun d1 m1 => K (V.tup [V.d (Ty.int IntKind.u64) (dk d1 0), V.d (Ty.int IntKind.i64) (dk d1 1)]) []) else none
 | _ => none
theorem z0T (N : Nat) {R : Type} : GOk (X0 gl0) 37 (q5F N (R := R)) := by
 intro xs A Kr r hr
 unfold q5F at hr
 split at hr
 ·simp only [Option.ite_none_right_eq_some] at hr
  obtain ⟨hty, hr⟩ := hr
  obtain ⟨rfl, rfl⟩ := hty
  rw [← y3S] at hr
  exact okA (z6j N) hr
 ·cases hr
noncomputable def y5B : Hints := [([9], ⟨[], [(4, .d (.int .u64)), (5, .d (.int .i64))], [], [], [], []⟩)]
noncomputable def z6h (N : Nat) : OvS (X0 gl0) where
 g R := []
 ok := fun R => fun _ h => nomatch h
noncomputable def q7d {R : Type} (N : Nat) (a0 a1 : C) (k1 : KD R) : Option R := (bif decide (C.toInt a0 < C.toInt a1) then (k1 [C.int 0, C.int 12] []) else (k1 [C.int (IntKind.wrap IntKind.u64 (C.toInt a0 - C.toInt a1)), C.int 0] []))
noncomputable def q37 {R : Type} (N : Nat) : C → C → KD R → Option R := lid "" (q7d N)
theorem z6g {R : Type} (N : Nat) (a0 a1 : C) (k : KD R) : q37 N a0 a1 k = q7d N a0 a1 k := by unfold q37; rw [w6]
theorem y3R {R : Type} (N : Nat) (a0 a1 : C) (K : V → List (Key × O) → Option R) : exF (X0 gl0) ((z6h N).ov R) s5 noX (fun f => bif Nat.beq f 85 then y5B else []) N 400 8 85 [.d (.int .u64) a0, .d (.int .u64) a1] A0 K =
  q37 N a0 a1 (fun d1 m1 => K (V.tup [V.d (Ty.int IntKind.u64) (dk d1 0), V.d (Ty.int IntKind.i64) (dk d1 1)]) []) := by
 rw [z6g]
 exact (show _ = jn (fun d1 m1 => (K (V.tup [V.d (Ty.int IntKind.u64) (dk d1 0), V.d (Ty.int IntKind.i64) (dk d1 1)]) [])) (q7d N a0 a1) by kernel_rfl).trans (y4 _ _)
noncomputable def z2l (N : Nat) {R : Type} : OvG R := fun xs _ K => match xs with
 | [.d t0 a0, .d t1 a1] => if t0 = (.int .u64) ∧ t1 = (.int .u64) then q37 N a0 a1 (fun d1 m1 => K (V.tup [V.d (Ty.int IntKind.u64) (dk d1 0), V.d (Ty.int IntKind.i64) (dk d1 1)]) []) else none
 | _ => none
theorem y5A (N : Nat) {R : Type} : GOk (X0 gl0) 85 (z2l N (R := R)) := by
 intro xs A Kr r hr
 unfold z2l at hr
 split at hr
 ·simp only [Option.ite_none_right_eq_some] at hr
  obtain ⟨hty, hr⟩ := hr
  obtain ⟨rfl, rfl⟩ := hty
  rw [← y3R] at hr
  exact okA (z6h N) hr
 ·cases hr
noncomputable def y5z : Hints := [([1, 0, 1, 1], ⟨[], [(4, .d (.int .u64))], [], [], [], []⟩),
  ([4, 1, 0, 1, 1], ⟨[8, 9], [(4, .d (.int .u64)), (10, .d (.int .i64))], [], [], [], []⟩),
  ([9], ⟨[], [(2, .d (.int .u64)), (3, .d (.int .i64))], [], [], [], []⟩)]
noncomputable def z6e (N : Nat) : OvS (X0 gl0) where
 g R := [(37, q5F N)]
 ok := fun R => List.forall_mem_cons.2 ⟨z0T N, fun _ h => nomatch h⟩
noncomputable def q7c {R : Type} (N : Nat) (k1 : KD R) (k2 : KD R) : KD R → List C → List Es → Option R := (fun k3 d1 m1 => (bif decide (C.toInt (dk d1 3) < C.toInt (dk d1 1)) then (if 0 ≤ C.toInt (dk d1 3) ∧ C.toInt (dk d1 3) < (↑(List.length (C.elems (dk d1 0))) : Int) then (q0h N (dk d1 2) (List.getD (C.elems (dk d1 0)) (Int.toNat (C.toInt (dk d1 3))) C.nil) (fun d2 m2 => (bif !decide (C.toInt (dk d2 1) = 0) then (k1 [C.int 0, dk d2 1] []) else (k3 [dk d1 0, dk d1 1, dk d2 0, C.int (IntKind.wrap IntKind.i64 (C.toInt (dk d1 3) + 1))] [])))) else none) else (k2 [dk d1 2] [])))
noncomputable def q7b {R : Type} (N : Nat) (a0 : C) (k1 : KD R) : Option R := (jn (fun d1 m1 => (k1 [dk d1 0, C.int 0] [])) (fun k2 => (u3 N (q7c N k1 k2) [a0, C.int (↑(List.length (C.elems a0)) : Int), C.int 0, C.int 0] [])))
noncomputable def q2u {R : Type} (N : Nat) : C → KD R → Option R := lid "" (q7b N)
theorem z6d {R : Type} (N : Nat) (a0 : C) (k : KD R) : q2u N a0 k = q7b N a0 k := by unfold q2u; rw [w6]
theorem y3Q {R : Type} (N : Nat) (a0 : C) (K : V → List (Key × O) → Option R) : exF (X0 gl0) ((z6e N).ov R) s5 noX (fun f => bif Nat.beq f 38 then y5z else []) N 400 8 38 [.d (.slice 8 (.int .u64)) a0] A0 K =
  q2u N a0 (fun d1 m1 => K (V.tup [V.d (Ty.int IntKind.u64) (dk d1 0), V.d (Ty.int IntKind.i64) (dk d1 1)]) []) := by
 rw [z6d]
 exact (show _ = jn (fun d1 m1 => (K (V.tup [V.d (Ty.int IntKind.u64) (dk d1 0), V.d (Ty.int IntKind.i64) (dk d1 1)]) [])) (q7b N a0) by kernel_rfl).trans (y4 _ _)
noncomputable def q8n (N : Nat) {R : Type} : OvG R := fun xs _ K => match xs with
 | [.d t0 a0] => if t0 = (.slice 8 (.int .u64)) then q2u N a0 (fun d1 m1 => K (V.tup [V.d (Ty.int IntKind.u64) (dk d1 0), V.d (Ty.int IntKind.i64) (dk d1 1)]) []) else none
 | _ => none
theorem z6f (N : Nat) {R : Type} : GOk (X0 gl0) 38 (q8n N (R := R)) := by
 intro xs A Kr r hr
 unfold q8n at hr
 split at hr
 ·simp only [Option.ite_none_right_eq_some] at hr
  obtain ⟨hty, hr⟩ := hr
  subst hty
  rw [← y3Q] at hr
  exact okA (z6e N) hr
 ·cases hr
end Go.Proofs.YtgdonkaoajbclaaGreatDoor
namespace Go.Proofs.YtgdonkaoajbclaaGreatDoor
open Go Go.E
set_option maxRecDepth 100000
set_option maxHeartbeats 4000000
set_option linter.unusedSimpArgs false
variable {R : Type} {N : Nat}
def q0s (a b : Int) : Int × Int := if (a + b) / 18446744073709551616 = 0 then ((a + b) % 18446744073709551616, 0) else (0, 11)
def z8Y (a b : Int) : Int × Int := if a < b then (0, 12) else (IntKind.u64.wrap (a - b), 0)
theorem add_eq (a b : C) (k : KD R) : q0h N a b k = k [.int (q0s a.toInt b.toInt).1, .int (q0s a.toInt b.toInt).2] [] := by
 rw [z6i]
 unfold q7e q0s
 by_cases h : (a.toInt + b.toInt) / 18446744073709551616 = 0 <;> simp [h]
theorem sub_eq (a b : C) (k : KD R) : q37 N a b k = k [.int (z8Y a.toInt b.toInt).1, .int (z8Y a.toInt b.toInt).2] [] := by
 rw [z6g]
 unfold q7d z8Y
 by_cases h : a.toInt < b.toInt <;> simp [h]
def y2k (_ : Nat) (s : Int) (c : C) : Int ⊕ Int := if (q0s s c.toInt).2 = 0 then .inl (q0s s c.toInt).1 else .inr (q0s s c.toInt).2
def y1g : Int ⊕ Int → Int × Int
 | .inl s => (s, 0)
 | .inr e => (0, e)
def q6D (l : List C) : Int × Int := y1g (q2r y2k 0 0 l)
theorem y9X (c : C) (hl : c.elems.length < 2199023255552) (hN : 2199023255552 < N) (k : KD R) : q2u N c k = k [.int (q6D c.elems).1, .int (q6D c.elems).2] [] := by
 rw [z6d]
 unfold q7b
 rw [y4]
 refine (q5d (F := q7c N k _) (fun i (s : Int) => [c, .int c.elems.length, .int s, .int i]) (fun _ _ => []) c.elems y2k (fun s => k [.int s, .int 0] []) (fun e => k [.int 0, .int e] []) ?_ ?_ (by omega)).trans ?_
 ·intro i s x hx hi rec
  have h1 : (i : Int) < (c.elems.length : Int) := by omega
  unfold q7c y2k
  simp only [go_sem, y8, h1, add_eq, u5 (show i < 4611686018427387904 by omega), Int.natCast_nonneg, and_self, if_true, z3a hx]
  by_cases h : (q0s s x.toInt).2 = 0 <;> simp [h]
 ·intro s rec
  unfold q7c
  simp only [go_sem, y8, Int.lt_irrefl, if_false]
 ·unfold q6D z2s y1g
  cases q2r y2k 0 0 c.elems <;> rfl
end Go.Proofs.YtgdonkaoajbclaaGreatDoor
namespace Go.Proofs.YtgdonkaoajbclaaGreatDoor
open Go Go.E
set_option maxRecDepth 100000
set_option maxHeartbeats 4000000
set_option linter.unusedVariables false
noncomputable def y8R : Hints := [([0, 1], ⟨[], [(2, .d .bool)], [], [], [], []⟩),
  ([9], ⟨[], [(2, .d .bool)], [], [], [], []⟩)]
noncomputable def z99 (N : Nat) : OvS (X0 gl0) where
 g R := []
 ok := fun R => fun _ h => nomatch h
noncomputable def q6R {R : Type} (N : Nat) (a0 : C) (k1 : KD R) : Option R := (jn (fun d1 m1 => (k1 [C.bool (C.toBool (dk d1 0))] [])) (fun k2 => (bif decide (C.toInt a0 = 0) then (k2 [C.bool true] []) else (k2 [C.bool (decide (C.toInt a0 = 1))] []))))
noncomputable def q4E {R : Type} (N : Nat) : C → KD R → Option R := lid "" (q6R N)
theorem z3B {R : Type} (N : Nat) (a0 : C) (k : KD R) : q4E N a0 k = q6R N a0 k := by unfold q4E; rw [w6]
theorem y65 {R : Type} (N : Nat) (a0 : C) (K : V → List (Key × O) → Option R) : exF (X0 gl0) ((z99 N).ov R) s5 noX (fun f => bif Nat.beq f 92 then y8R else []) N 400 8 92 [.d (.int .i64) a0] A0 K =
  q4E N a0 (fun d1 m1 => K (V.d Ty.bool (C.bool (C.toBool (dk d1 0)))) []) := by
 rw [z3B]
 exact (show _ = jn (fun d1 m1 => (K (V.d Ty.bool (C.bool (C.toBool (dk d1 0)))) [])) (q6R N a0) by kernel_rfl).trans (y4 _ _)
noncomputable def z1I (N : Nat) {R : Type} : OvG R := fun xs _ K => match xs with
 | [.d t0 a0] => if t0 = (.int .i64) then q4E N a0 (fun d1 m1 => K (V.d Ty.bool (C.bool (C.toBool (dk d1 0)))) []) else none
 | _ => none
theorem y0a (N : Nat) {R : Type} : GOk (X0 gl0) 92 (z1I N (R := R)) := by
 intro xs A Kr r hr
 unfold z1I at hr
 split at hr
 ·simp only [Option.ite_none_right_eq_some] at hr
  obtain ⟨hty, hr⟩ := hr
  subst hty
  rw [← y65] at hr
  exact okA (z99 N) hr
 ·cases hr
noncomputable def y5a : Hints := [([1, 0, 1, 1], ⟨[], [(6, .sl 8 (.int .u64) 5006)], [], [], [], []⟩),
  ([4, 1, 0, 1, 1], ⟨[1, 10, 11], [(6, .sl 8 (.int .u64) 5006), (12, .d (.int .i64))], [], [], [], []⟩),
  ([1, 1, 4, 0, 1, 1, 5, 4, 1, 0, 1, 1], ⟨[1, 10, 11, 12], [(6, .sl 8 (.int .u64) 5006)], [], [], [], []⟩),
  ([9], ⟨[], [(4, .d (.int .u64)), (5, .d (.int .i64))], [], [], [], []⟩)]
noncomputable def z5Y (N : Nat) : OvS (X0 gl0) where
 g R := [(38, q8n N)]
 ok := fun R => List.forall_mem_cons.2 ⟨z6f N, fun _ h => nomatch h⟩
noncomputable def q6V {R : Type} (N : Nat) (k2 : KD R) : KD R → List C → List Es → Option R := (fun k3 d1 m1 => (bif decide (C.toInt (dk d1 4) < C.toInt (dk d1 2)) then (if 0 ≤ C.toInt (dk d1 4) ∧ C.toInt (dk d1 4) < (↑(List.length (C.elems (dk d1 1))) : Int) then (jn (fun d2 m2 => (bif Nat.beq (List.length (C.elems (dk d2 4))) (List.length (C.elems (dk d2 4))) then (k3 [dk d2 0, dk d2 1, dk d2 2, C.slice (C.elems (dk d2 4)), C.int (IntKind.wrap IntKind.i64 (C.toInt (dk d2 3) + 1))] []) else none)) (fun k4 => (bif decide (C.toInt (C.get (List.getD (C.elems (dk d1 1)) (Int.toNat (C.toInt (dk d1 4))) C.nil) 1) = C.toInt (dk d1 0)) then (bif Nat.beq (List.length (C.elems (dk d1 3))) (List.length (C.elems (dk d1 3))) then (if (List.length (C.elems (dk d1 3)) + 1) * 8 ≤ 140737488355328 ∧ List.length (C.elems (dk d1 3)) + 1 ≤ 9223372036854775807 then (bif Nat.beq (List.length (C.elems (dk d1 3)) + 1) (List.length (C.elems (dk d1 3) ++ [C.get (List.getD (C.elems (dk d1 1)) (Int.toNat (C.toInt (dk d1 4))) C.nil) 2])) then (k4 [dk d1 0, dk d1 1, dk d1 2, dk d1 4, C.slice (C.elems (dk d1 3) ++ [C.get (List.getD (C.elems (dk d1 1)) (Int.toNat (C.toInt (dk d1 4))) C.nil) 2])] []) else none) else none) else none) else (bif Nat.beq (List.length (C.elems (dk d1 3))) (List.length (C.elems (dk d1 3))) then (k4 [dk d1 0, dk d1 1, dk d1 2, dk d1 4, C.slice (C.elems (dk d1 3))] []) else none)))) else none) else (bif Nat.beq (List.length (C.elems (dk d1 3))) (List.length (C.elems (dk d1 3))) then (k2 [C.slice (C.elems (dk d1 3))] []) else none)))
noncomputable def q6U {R : Type} (N : Nat) (a0 a1 : C) (k1 : KD R) : Option R := (jn (fun d1 m1 => (q2u N (C.slice (C.elems (dk d1 0))) (fun d2 m2 => (k1 [dk d2 0, dk d2 1] [])))) (fun k2 => (u3 N (q6V N k2) [a1, C.get a0 4, C.int (↑(List.length (C.elems (C.get a0 4))) : Int), C.slice [], C.int 0] [])))
noncomputable def q33 {R : Type} (N : Nat) : C → C → KD R → Option R := lid "" (q6U N)
theorem z5X {R : Type} (N : Nat) (a0 a1 : C) (k : KD R) : q33 N a0 a1 k = q6U N a0 a1 k := by unfold q33; rw [w6]
theorem y3L {R : Type} (N : Nat) (a0 a1 : C) (K : V → List (Key × O) → Option R) : exF (X0 gl0) ((z5Y N).ov R) s5 (fun f r => bif Nat.beq f 108 then (bif Nat.beq r 0 then [(2, 5)] else []) else []) (fun f => bif Nat.beq f 108 then y5a else []) N 400 8 108 [.d w4 a0, .d (.int .i64) a1] A0 K =
  q33 N a0 a1 (fun d1 m1 => K (V.tup [V.d (Ty.int IntKind.u64) (dk d1 0), V.d (Ty.int IntKind.i64) (dk d1 1)]) []) := by
 rw [z5X]
 exact (show _ = jn (fun d1 m1 => (K (V.tup [V.d (Ty.int IntKind.u64) (dk d1 0), V.d (Ty.int IntKind.i64) (dk d1 1)]) [])) (q6U N a0 a1) by kernel_rfl).trans (y4 _ _)
noncomputable def z2h (N : Nat) {R : Type} : OvG R := fun xs _ K => match xs with
 | [.d t0 a0, .d t1 a1] => if t0 = w4 ∧ t1 = (.int .i64) then q33 N a0 a1 (fun d1 m1 => K (V.tup [V.d (Ty.int IntKind.u64) (dk d1 0), V.d (Ty.int IntKind.i64) (dk d1 1)]) []) else none
 | _ => none
theorem y49 (N : Nat) {R : Type} : GOk (X0 gl0) 108 (z2h N (R := R)) := by
 intro xs A Kr r hr
 unfold z2h at hr
 split at hr
 ·simp only [Option.ite_none_right_eq_some] at hr
  obtain ⟨hty, hr⟩ := hr
  obtain ⟨rfl, rfl⟩ := hty
  rw [← y3L] at hr
  exact okA (z5Y N) hr
 ·cases hr
noncomputable def y3K : Hints := [([9], ⟨[], [(2, .d (.int .i64))], [], [], [], []⟩)]
noncomputable def z4I (N : Nat) : OvS (X0 gl0) where
 g R := []
 ok := fun R => fun _ h => nomatch h
noncomputable def q51 {R : Type} (N : Nat) (a0 : C) (k1 : KD R) : Option R := (k1 [C.int (IntKind.wrap IntKind.i64 (1 - C.toInt a0))] [])
noncomputable def q4F {R : Type} (N : Nat) : C → KD R → Option R := lid "" (q51 N)
theorem z4H {R : Type} (N : Nat) (a0 : C) (k : KD R) : q4F N a0 k = q51 N a0 k := by unfold q4F; rw [w6]
theorem y1K {R : Type} (N : Nat) (a0 : C) (K : V → List (Key × O) → Option R) : exF (X0 gl0) ((z4I N).ov R) s5 noX (fun f => bif Nat.beq f 109 then y3K else []) N 400 8 109 [.d (.int .i64) a0] A0 K =
  q4F N a0 (fun d1 m1 => K (V.d (Ty.int IntKind.i64) (dk d1 0)) []) := by
 rw [z4H]
 exact (show _ = jn (fun d1 m1 => (K (V.d (Ty.int IntKind.i64) (dk d1 0)) [])) (q51 N a0) by kernel_rfl).trans (y4 _ _)
noncomputable def z0E (N : Nat) {R : Type} : OvG R := fun xs _ K => match xs with
 | [.d t0 a0] => if t0 = (.int .i64) then q4F N a0 (fun d1 m1 => K (V.d (Ty.int IntKind.i64) (dk d1 0)) []) else none
 | _ => none
theorem y3J (N : Nat) {R : Type} : GOk (X0 gl0) 109 (z0E N (R := R)) := by
 intro xs A Kr r hr
 unfold z0E at hr
 split at hr
 ·simp only [Option.ite_none_right_eq_some] at hr
  obtain ⟨hty, hr⟩ := hr
  subst hty
  rw [← y1K] at hr
  exact okA (z4I N) hr
 ·cases hr
noncomputable def y5c : Hints := [([1, 0, 1, 1, 1, 1, 1, 1], ⟨[], [(10, .d (.int .u64))], [], [], [], []⟩),
  ([4, 1, 0, 1, 1, 1, 1, 1, 1], ⟨[50, 51], [(10, .d (.int .u64)), (52, .d (.int .i64))], [], [], [], []⟩),
  ([9], ⟨[], [(6, .d (.int .u64)), (7, .d (.int .i64))], [], [], [], []⟩)]
noncomputable def z50 (N : Nat) : OvS (X0 gl0) where
 g R := [(38, q8n N), (85, z2l N), (92, z1I N), (108, z2h N), (109, z0E N)]
 ok := fun R => List.forall_mem_cons.2 ⟨z6f N, List.forall_mem_cons.2 ⟨y5A N, List.forall_mem_cons.2 ⟨y0a N, List.forall_mem_cons.2 ⟨y49 N, List.forall_mem_cons.2 ⟨y3J N, fun _ h => nomatch h⟩⟩⟩⟩⟩
noncomputable def q6X {R : Type} (N : Nat) (k1 : KD R) (k2 : KD R) : KD R → List C → List Es → Option R := (fun k3 d5 m5 => (bif decide (C.toInt (dk d5 3) < C.toInt (dk d5 1)) then (if 0 ≤ C.toInt (dk d5 3) ∧ C.toInt (dk d5 3) < (↑(List.length (C.elems (dk d5 0))) : Int) then (q37 N (dk d5 2) (List.getD (C.elems (dk d5 0)) (Int.toNat (C.toInt (dk d5 3))) C.nil) (fun d6 m6 => (bif !decide (C.toInt (dk d6 1) = 0) then (k1 [C.int 0, dk d6 1] []) else (k3 [dk d5 0, dk d5 1, dk d6 0, C.int (IntKind.wrap IntKind.i64 (C.toInt (dk d5 3) + 1))] [])))) else none) else (k2 [dk d5 2] [])))
noncomputable def q6W {R : Type} (N : Nat) (a0 a1 a2 : C) (k1 : KD R) : Option R := (q4E N a2 (fun d1 m1 => (bif !C.toBool (dk d1 0) then (k1 [C.int 0, C.int 1] []) else (q33 N a0 a2 (fun d2 m2 => (bif !decide (C.toInt (dk d2 1) = 0) then (k1 [C.int 0, dk d2 1] []) else (if 0 ≤ C.toInt a2 ∧ C.toInt a2 < 2 then (q4F N a2 (fun d3 m3 => (if 0 ≤ C.toInt (dk d3 0) ∧ C.toInt (dk d3 0) < 2 then (q2u N (C.slice [C.get a1 (Int.toNat (C.toInt a2)), C.get (C.get a0 2) (Int.toNat (C.toInt (dk d3 0)))]) (fun d4 m4 => (bif !decide (C.toInt (dk d4 1) = 0) then (k1 [C.int 0, dk d4 1] []) else (if 0 ≤ C.toInt a2 ∧ C.toInt a2 < 2 then (if 0 ≤ C.toInt a2 ∧ C.toInt a2 < 2 then (jn (fun d5 m5 => (k1 [dk d5 0, C.int 0] [])) (fun k2 => (u3 N (q6X N k1 k2) [C.slice [C.get (C.get a0 2) (Int.toNat (C.toInt a2)), C.get (C.get a0 3) (Int.toNat (C.toInt a2)), dk d2 0], C.int (↑3 : Int), dk d4 0, C.int 0] []))) else none) else none)))) else none))) else none)))))))
noncomputable def q34 {R : Type} (N : Nat) : C → C → C → KD R → Option R := lid "" (q6W N)
theorem z5Z {R : Type} (N : Nat) (a0 a1 a2 : C) (k : KD R) : q34 N a0 a1 a2 k = q6W N a0 a1 a2 k := by unfold q34; rw [w6]
theorem y3M {R : Type} (N : Nat) (a0 a1 a2 : C) (K : V → List (Key × O) → Option R) : exF (X0 gl0) ((z50 N).ov R) s5 (fun f r => bif Nat.beq f 84 then (bif Nat.beq r 0 then [(3, 5), (4, 5)] else bif Nat.beq r 6 then [(30, 7), (35, 7)] else []) else []) (fun f => bif Nat.beq f 84 then y5c else []) N 400 8 84 [.d w4 a0, .d (.arr 2 (.int .u64)) a1, .d (.int .i64) a2] A0 K =
  q34 N a0 a1 a2 (fun d1 m1 => K (V.tup [V.d (Ty.int IntKind.u64) (dk d1 0), V.d (Ty.int IntKind.i64) (dk d1 1)]) []) := by
 rw [z5Z]
 exact (show _ = jn (fun d1 m1 => (K (V.tup [V.d (Ty.int IntKind.u64) (dk d1 0), V.d (Ty.int IntKind.i64) (dk d1 1)]) [])) (q6W N a0 a1 a2) by kernel_rfl).trans (y4 _ _)
noncomputable def z2i (N : Nat) {R : Type} : OvG R := fun xs _ K => match xs with
 | [.d t0 a0, .d t1 a1, .d t2 a2] => if t0 = w4 ∧ t1 = (.arr 2 (.int .u64)) ∧ t2 = (.int .i64) then q34 N a0 a1 a2 (fun d1 m1 => K (V.tup [V.d (Ty.int IntKind.u64) (dk d1 0), V.d (Ty.int IntKind.i64) (dk d1 1)]) []) else none
 | _ => none
theorem y5b (N : Nat) {R : Type} : GOk (X0 gl0) 84 (z2i N (R := R)) := by
 intro xs A Kr r hr
 unfold z2i at hr
 split at hr
 ·simp only [Option.ite_none_right_eq_some] at hr
  obtain ⟨hty, hr⟩ := hr
  obtain ⟨rfl, rfl, rfl⟩ := hty
  rw [← y3M] at hr
  exact okA (z50 N) hr
 ·cases hr
noncomputable def y5e : Hints := [([9], ⟨[], [(4, .d (.int .i64))], [], [], [], []⟩)]
noncomputable def z52 (N : Nat) : OvS (X0 gl0) where
 g R := []
 ok := fun R => fun _ h => nomatch h
noncomputable def q6Z {R : Type} (N : Nat) (a1 : C) (k2 : KD R) (k3 : KD R) : KD R → List C → List Es → Option R := (fun k4 d1 m1 => (bif decide (C.toInt (dk d1 2) < C.toInt (dk d1 1)) then (if 0 ≤ C.toInt (dk d1 2) ∧ C.toInt (dk d1 2) < (↑(List.length (C.elems (dk d1 0))) : Int) then (jn (fun d2 m2 => (bif C.toBool (dk d2 0) then (k2 [dk d1 2] []) else (k4 [dk d1 0, dk d1 1, C.int (IntKind.wrap IntKind.i64 (C.toInt (dk d1 2) + 1))] []))) (fun k5 => (k5 [C.bool (decide (C.toInt (C.get (List.getD (C.elems (dk d1 0)) (Int.toNat (C.toInt (dk d1 2))) C.nil) 0) = C.toInt a1))] []))) else none) else (k3 [] [])))
noncomputable def q6Y {R : Type} (N : Nat) (a0 a1 : C) (k1 : KD R) : Option R := (jn (fun d1 m1 => (k1 [dk d1 0] [])) (fun k2 => (jn (fun d1 m1 => (k2 [C.int (-1)] [])) (fun k3 => (u3 N (q6Z N a1 k2 k3) [C.get a0 4, C.int (↑(List.length (C.elems (C.get a0 4))) : Int), C.int 0] [])))))
noncomputable def q35 {R : Type} (N : Nat) : C → C → KD R → Option R := lid "" (q6Y N)
theorem z51 {R : Type} (N : Nat) (a0 a1 : C) (k : KD R) : q35 N a0 a1 k = q6Y N a0 a1 k := by unfold q35; rw [w6]
theorem y3N {R : Type} (N : Nat) (a0 a1 : C) (K : V → List (Key × O) → Option R) : exF (X0 gl0) ((z52 N).ov R) s5 (fun f r => bif Nat.beq f 93 then (bif Nat.beq r 0 then [(2, 5)] else []) else bif Nat.beq f 116 then (bif Nat.beq r 0 then [(2, 5)] else []) else []) (fun f => bif Nat.beq f 93 then y5e else bif Nat.beq f 115 then [([1, 0, 1], ⟨[], [], [], [], [.g (.l 3)], []⟩), ([4, 1, 0, 1], ⟨[0, 1, 7], [(8, .d (.int .i64))], [], [], [.g (.l 3)], []⟩), ([9], ⟨[], [(4, .d (.int .i64))], [], [], [.g (.l 3)], []⟩)] else bif Nat.beq f 116 then [([9], ⟨[], [(3, .d .bool)], [], [], [], []⟩)] else []) N 400 8 93 [.d w4 a0, .d (.int .u64) a1] A0 K =
  q35 N a0 a1 (fun d1 m1 => K (V.d (Ty.int IntKind.i64) (dk d1 0)) []) := by
 rw [z51]
 exact (show _ = jn (fun d1 m1 => (K (V.d (Ty.int IntKind.i64) (dk d1 0)) [])) (q6Y N a0 a1) by kernel_rfl).trans (y4 _ _)
noncomputable def z2j (N : Nat) {R : Type} : OvG R := fun xs _ K => match xs with
 | [.d t0 a0, .d t1 a1] => if t0 = w4 ∧ t1 = (.int .u64) then q35 N a0 a1 (fun d1 m1 => K (V.d (Ty.int IntKind.i64) (dk d1 0)) []) else none
 | _ => none
theorem y5d (N : Nat) {R : Type} : GOk (X0 gl0) 93 (z2j N (R := R)) := by
 intro xs A Kr r hr
 unfold z2j at hr
 split at hr
 ·simp only [Option.ite_none_right_eq_some] at hr
  obtain ⟨hty, hr⟩ := hr
  obtain ⟨rfl, rfl⟩ := hty
  rw [← y3N] at hr
  exact okA (z52 N) hr
 ·cases hr
noncomputable def y3H : Hints := [([0, 0, 1], ⟨[2, 3], [(19, .d .bool)], [], [], [], []⟩),
  ([1, 0, 1, 1], ⟨[2, 3], [], [], [], [], []⟩),
  ([4, 1, 0, 1, 1], ⟨[2, 3, 21, 22], [(23, .d (.int .i64))], [], [], [], []⟩),
  ([0, 4, 1, 4, 0, 1, 1, 5, 4, 1, 0, 1, 1], ⟨[2, 3, 5, 6, 21, 22, 23], [(28, .d .bool)], [], [], [], []⟩),
  ([1, 0, 1, 1, 1], ⟨[], [], [], [], [], []⟩),
  ([4, 1, 0, 1, 1, 1], ⟨[2, 3, 46], [(47, .d (.int .i64))], [], [], [], []⟩),
  ([9], ⟨[], [(4, .d (.int .i64))], [], [], [], []⟩)]
noncomputable def z4G (N : Nat) : OvS (X0 gl0) where
 g R := [(84, z2i N), (92, z1I N), (93, z2j N)]
 ok := fun R => List.forall_mem_cons.2 ⟨y5b N, List.forall_mem_cons.2 ⟨y0a N, List.forall_mem_cons.2 ⟨y5d N, fun _ h => nomatch h⟩⟩⟩
noncomputable def q3L {R : Type} (N : Nat) (k1 : KD R) (k2 : KD R) : KD R → List C → List Es → Option R := (fun k3 d3 m3 => (bif decide (C.toInt (dk d3 3) < 2) then (if 0 ≤ C.toInt (dk d3 3) ∧ C.toInt (dk d3 3) < 2 then (q34 N (dk d3 0) (dk d3 1) (C.get (dk d3 2) (Int.toNat (C.toInt (dk d3 3)))) (fun d4 m4 => (bif !decide (C.toInt (dk d4 1) = 0) then (k1 [dk d4 1] []) else (k3 [dk d3 0, dk d3 1, dk d3 2, C.int (IntKind.wrap IntKind.i64 (C.toInt (dk d3 3) + 1))] [])))) else none) else (k2 [] [])))
noncomputable def q50 {R : Type} (N : Nat) (k1 : KD R) (k2 : KD R) : KD R → List C → List Es → Option R := (fun k3 d2 m2 => (bif decide (C.toInt (dk d2 4) < C.toInt (dk d2 3)) then (if 0 ≤ C.toInt (dk d2 4) ∧ C.toInt (dk d2 4) < (↑(List.length (C.elems (dk d2 2))) : Int) then (jn (fun d3 m3 => (bif C.toBool (dk d3 6) then (k1 [C.int 1] []) else (q35 N (dk d3 0) (C.get (dk d3 7) 0) (fun d4 m4 => (bif !decide (C.toInt (dk d4 0) = C.toInt (dk d3 2)) then (k1 [C.int 7] []) else (k3 [dk d3 0, dk d3 1, dk d3 3, dk d3 4, C.int (IntKind.wrap IntKind.i64 (C.toInt (dk d3 5) + 1))] [])))))) (fun k4 => (q4E N (C.get (List.getD (C.elems (dk d2 2)) (Int.toNat (C.toInt (dk d2 4))) C.nil) 1) (fun d3 m3 => (bif !C.toBool (dk d3 0) then (k4 [dk d2 0, dk d2 1, dk d2 4, dk d2 2, dk d2 3, dk d2 4, C.bool true, List.getD (C.elems (dk d2 2)) (Int.toNat (C.toInt (dk d2 4))) C.nil] []) else (k4 [dk d2 0, dk d2 1, dk d2 4, dk d2 2, dk d2 3, dk d2 4, C.bool (decide (C.toInt (C.get (List.getD (C.elems (dk d2 2)) (Int.toNat (C.toInt (dk d2 4))) C.nil) 2) = 0)), List.getD (C.elems (dk d2 2)) (Int.toNat (C.toInt (dk d2 4))) C.nil] [])))))) else none) else (k2 [dk d2 0, dk d2 1] [])))
noncomputable def q5Z {R : Type} (N : Nat) (a0 a1 : C) (k1 : KD R) : Option R := (jn (fun d1 m1 => (bif C.toBool (dk d1 2) then (k1 [C.int 8] []) else (jn (fun d2 m2 => (jn (fun d3 m3 => (k1 [C.int 0] [])) (fun k2 => (u3 N (q3L N k1 k2) [dk d2 0, dk d2 1, C.set (C.set (z0 (Ty.arr 2 (Ty.int IntKind.i64))) 0 (C.int 0)) 1 (C.int 1), C.int 0] [])))) (fun k2 => (u3 N (q50 N k1 k2) [dk d1 0, dk d1 1, C.get (dk d1 0) 4, C.int (↑(List.length (C.elems (C.get (dk d1 0) 4))) : Int), C.int 0] []))))) (fun k2 => (bif decide (200 < C.toInt (C.get a0 1)) then (k2 [a0, a1, C.bool true] []) else (k2 [a0, a1, C.bool (decide (8 < (↑(List.length (C.elems (C.get a0 4))) : Int)))] []))))
noncomputable def q2X {R : Type} (N : Nat) : C → C → KD R → Option R := lid "" (q5Z N)
theorem z4F {R : Type} (N : Nat) (a0 a1 : C) (k : KD R) : q2X N a0 a1 k = q5Z N a0 a1 k := by unfold q2X; rw [w6]
theorem y1J {R : Type} (N : Nat) (a0 a1 : C) (K : V → List (Key × O) → Option R) : exF (X0 gl0) ((z4G N).ov R) s5 (fun f r => bif Nat.beq f 66 then (bif Nat.beq r 0 then [(2, 5), (3, 5)] else []) else []) (fun f => bif Nat.beq f 66 then y3H else []) N 400 8 66 [.d w4 a0, .d (.arr 2 (.int .u64)) a1] A0 K =
  q2X N a0 a1 (fun d1 m1 => K (V.d (Ty.int IntKind.i64) (dk d1 0)) []) := by
 rw [z4F]
 exact (show _ = jn (fun d1 m1 => (K (V.d (Ty.int IntKind.i64) (dk d1 0)) [])) (q5Z N a0 a1) by kernel_rfl).trans (y4 _ _)
noncomputable def z0D (N : Nat) {R : Type} : OvG R := fun xs _ K => match xs with
 | [.d t0 a0, .d t1 a1] => if t0 = w4 ∧ t1 = (.arr 2 (.int .u64)) then q2X N a0 a1 (fun d1 m1 => K (V.d (Ty.int IntKind.i64) (dk d1 0)) []) else none
 | _ => none
theorem y3G (N : Nat) {R : Type} : GOk (X0 gl0) 66 (z0D N (R := R)) := by
 intro xs A Kr r hr
 unfold z0D at hr
 split at hr
 ·simp only [Option.ite_none_right_eq_some] at hr
  obtain ⟨hty, hr⟩ := hr
  obtain ⟨rfl, rfl⟩ := hty
  rw [← y1J] at hr
  exact okA (z4G N) hr
 ·cases hr
end Go.Proofs.YtgdonkaoajbclaaGreatDoor
namespace Go.Proofs.YtgdonkaoajbclaaGreatDoor
open Go Go.E
set_option maxRecDepth 100000
set_option maxHeartbeats 4000000
set_option linter.unusedSimpArgs false
variable {R : Type} {N : Nat}
theorem x7G (a : C) (k : KD R) : q4E N a k = k [.bool (decide (a.toInt = 0 ∨ a.toInt = 1))] [] := by
 rw [z3B]
 unfold q6R
 by_cases h : a.toInt = 0 <;> simp [h, go_sem, p9]
def j9 (s : C) : List C := (s.get 4).elems
def q96 (side : Int) (l : List C) : List C := (l.filter fun c => decide ((c.get 1).toInt = side)).map fun c => c.get 2
def q95 (s : C) (side : Int) : Int × Int := q6D (q96 side (j9 s))
theorem x0I {side : Int} {l : List C} {i : Nat} {c : C} (h : l[i]? = some c) : q96 side (l.take (i + 1)) = q96 side (l.take i) ++ (if (c.get 1).toInt = side then [c.get 2] else []) := by
 unfold q96
 rw [List.take_add_one, h, Option.toList_some, List.filter_append, List.map_append]
 by_cases hs : (c.get 1).toInt = side <;> simp [hs]
theorem y54 {side : Int} {l : List C} {i : Nat} : (q96 side (l.take i)).length ≤ i := by
 unfold q96
 rw [List.length_map]
 exact Nat.le_trans (List.length_filter_le _ _) (by rw [List.length_take]; omega)
theorem x3L (s side : C) (hl : (j9 s).length < 1099511627776) (hN : 2199023255552 < N) (k : KD R) : q33 N s side k = k [.int (q95 s side.toInt).1, .int (q95 s side.toInt).2] [] := by
 rw [z5X]
 unfold q6U
 rw [y4]
 refine q2v (F := q6V N _) (fun i => [side, s.get 4, .int (j9 s).length, .slice (q96 side.toInt ((j9 s).take i)), .int i]) (fun _ => []) (j9 s).length _ ?_ ?_ (by omega)
 ·intro i hi rec
  have hc : (j9 s)[i]? = some (j9 s)[i] := List.getElem?_eq_getElem hi
  have h1 : (i : Int) < ((j9 s).length : Int) := by omega
  have h2 := y54 (side := side.toInt) (l := j9 s) (i := i)
  have h3 : ((q96 side.toInt ((j9 s).take i)).length + 1) * 8 ≤ 140737488355328 ∧ (q96 side.toInt ((j9 s).take i)).length + 1 ≤ 9223372036854775807 := by omega
  have hd : (s.get 4).elems.getD i .nil = (j9 s)[i] := z3a hc
  have hs : (s.get 4).elems.length = (j9 s).length := rfl
  unfold q6V
  simp only [go_sem, y8, y7, hs, h1, hd, u5 (show i < 4611686018427387904 by omega), Int.natCast_nonneg, and_self, if_true, h3, Nat.beq_refl, cond_true, x0I hc]
  by_cases h : ((j9 s)[i].get 1).toInt = side.toInt
  ·simp [h]
  ·simp [h]
 ·intro rec
  unfold q6V
  simp only [go_sem, y8, y7, Int.lt_irrefl, if_false, Nat.beq_refl, cond_true, List.take_length]
  have h2 := y54 (side := side.toInt) (l := j9 s) (i := (j9 s).length)
  rw [List.take_length] at h2
  rw [y9X _ (by rw [y7]; omega) hN]
  rfl
def y8B (_ : Nat) (s : Int) (c : C) : Int ⊕ Int := if (z8Y s c.toInt).2 = 0 then .inl (z8Y s c.toInt).1 else .inr (z8Y s c.toInt).2
def z7t (s put : C) (side : Int) : Int × Int :=
 if side ≠ 0 ∧ side ≠ 1 then (0, 1) else if (q95 s side).2 ≠ 0 then (0, (q95 s side).2) else
  if (q6D [put.get side.toNat, (s.get 2).get (1 - side).toNat]).2 ≠ 0 then (0, (q6D [put.get side.toNat, (s.get 2).get (1 - side).toNat]).2) else
   y1g (q2r y8B 0 (q6D [put.get side.toNat, (s.get 2).get (1 - side).toNat]).1 [(s.get 2).get side.toNat, (s.get 3).get side.toNat, .int (q95 s side).1])
theorem x3S (s put side : C) (hl : (j9 s).length < 1099511627776) (hN : 2199023255552 < N) (k : KD R) : q34 N s put side k = k [.int (z7t s put side.toInt).1, .int (z7t s put side.toInt).2] [] := by
 rw [z5Z]
 unfold q6W z7t
 rw [z3B]
 unfold q6R
 by_cases hs : side.toInt ≠ 0 ∧ side.toInt ≠ 1
 ·simp [hs.1, hs.2, go_sem, y8, p9]
 ·have hs' : side.toInt = 0 ∨ side.toInt = 1 := by omega
  have h2 : 0 ≤ side.toInt ∧ side.toInt < 2 := by omega
  have h3 : 0 ≤ (1 - side.toInt) ∧ (1 - side.toInt) < 2 := by omega
  have w : IntKind.i64.wrap (1 - side.toInt) = 1 - side.toInt := IntWalk.i64_in _ (by omega)
  have hb : (bif decide (side.toInt = 0) then true else decide (side.toInt = 1)) = true := by rcases hs' with h | h <;> simp [h]
  have e : ∀ K : KD R, (bif decide (side.toInt = 0) then K [.bool true] [] else K [.bool (decide (side.toInt = 1))] []) = K [.bool true] [] := fun K => by rcases hs' with h | h <;> simp [h]
  rw [if_neg hs]
  simp only [go_sem, y8, p9, e, x3L s side hl hN, Bool.not_true, cond_false, h2, and_self, if_true, z4H, q51, w, h3]
  by_cases h4 : (q95 s side.toInt).2 = 0
  ·simp only [h4, decide_true, Bool.not_true, cond_false, ne_eq, not_true, if_false]
   rw [y9X _ (by simp [C.elems]) hN]
   simp only [go_sem, y8, y7]
   by_cases h5 : (q6D [put.get side.toInt.toNat, (s.get 2).get (1 - side.toInt).toNat]).2 = 0
   ·simp only [h5, decide_true, Bool.not_true, cond_false, ne_eq, not_true, if_false, if_true]
    refine (q5d (F := q6X N k _) (fun i (x : Int) => [.slice [(s.get 2).get side.toInt.toNat, (s.get 3).get side.toInt.toNat, .int (q95 s side.toInt).1], .int 3, .int x, .int i]) (fun _ _ => [])
     [(s.get 2).get side.toInt.toNat, (s.get 3).get side.toInt.toNat, .int (q95 s side.toInt).1] y8B (fun s => k [.int s, .int 0] []) (fun e => k [.int 0, .int e] []) ?_ ?_ (by simp; omega)).trans ?_
    ·intro i x c hx hi rec
     have hi3 : i < 3 := hi
     have h1 : (i : Int) < 3 := by omega
     have hlen : (i : Int) < ((0 + 1 + 1 + 1 : Nat) : Int) := by omega
     unfold q6X y8B
     simp only [go_sem, y8, y7, h1, sub_eq, u5 (show i < 4611686018427387904 by omega), Int.natCast_nonneg, and_self, if_true, z3a hx, List.length_cons, List.length_nil, hlen]
     by_cases h : (z8Y x c.toInt).2 = 0 <;> simp [h]
    ·intro x rec
     unfold q6X
     simp only [go_sem, y8, y7]
     simp
    ·unfold z2s y1g
     cases q2r y8B 0 (q6D [put.get side.toInt.toNat, (s.get 2).get (1 - side.toInt).toNat]).1 [(s.get 2).get side.toInt.toNat, (s.get 3).get side.toInt.toNat, .int (q95 s side.toInt).1] <;> rfl
   ·simp [h5]
  ·simp [h4]
def zz2 : C := .agg [.int 0, .int 1]
def findF (id : Int) (i : Nat) (_ : Unit) (c : C) : Unit ⊕ Nat := if (c.get 0).toInt = id then .inr i else .inl ()
def x0g : Unit ⊕ Nat → Int
 | .inl _ => -1
 | .inr i => i
def y0I (s : C) (id : Int) : Int := x0g (q2r (findF id) 0 () (j9 s))
theorem find_eq (s id : C) (hl : (j9 s).length < 1099511627776) (hN : 2199023255552 < N) (k : KD R) : q35 N s id k = k [.int (y0I s id.toInt)] [] := by
 rw [z51]
 unfold q6Y
 rw [y4, y4]
 refine (q5d (F := q6Z N id _ _) (fun i (_ : Unit) => [s.get 4, .int (j9 s).length, .int i]) (fun _ _ => []) (j9 s) (findF id.toInt) (fun _ => k [.int (-1)] []) (fun i => k [.int i] []) (s0 := ()) ?_ ?_ (by omega)).trans ?_
 ·intro i _ c hx hi rec
  have h1 : (i : Int) < ((j9 s).length : Int) := by omega
  have hd : (s.get 4).elems.getD i .nil = c := z3a hx
  have hs : (s.get 4).elems.length = (j9 s).length := rfl
  unfold q6Z findF
  simp only [go_sem, y8, p9, hs, h1, hd, u5 (show i < 4611686018427387904 by omega), Int.natCast_nonneg, and_self, if_true]
  by_cases h : (c.get 0).toInt = id.toInt <;> simp [h]
 ·intro _ rec
  unfold q6Z
  simp only [go_sem, y8, Int.lt_irrefl, if_false]
 ·unfold y0I z2s x0g
  cases q2r (findF id.toInt) 0 () (j9 s) <;> rfl
def z9N (s : C) (i : Nat) (_ : Unit) (c : C) : Unit ⊕ Int :=
 if ((c.get 1).toInt ≠ 0 ∧ (c.get 1).toInt ≠ 1) ∨ (c.get 2).toInt = 0 then .inr 1 else if y0I s (c.get 0).toInt = i then .inl () else .inr 7
def z3b (s put : C) (_ : Nat) (_ : Unit) (side : Int) : Unit ⊕ Int := if (z7t s put side).2 = 0 then .inl () else .inr (z7t s put side).2
def okE : Unit ⊕ Int → Int
 | .inl _ => 0
 | .inr e => e
def z5v (s put : C) : Int :=
 if 200 < (s.get 1).toInt ∨ 8 < (j9 s).length then 8 else match q2r (z9N s) 0 () (j9 s) with
  | .inl _ => okE (q2r (z3b s put) 0 () [0, 1])
  | .inr e => e
theorem x1A (s put : C) (hN : 2199023255552 < N) (k : KD R) : q2X N s put k = k [.int (z5v s put)] [] := by
 rw [z4F]
 have hz : C.set (C.set (z0 (Ty.arr 2 (Ty.int IntKind.i64))) 0 (C.int 0)) 1 (C.int 1) = zz2 := rfl
 unfold q5Z z5v
 rw [hz]
 by_cases h1 : 200 < (s.get 1).toInt
 ·simp [h1, go_sem, y8, p9]
 have h8e : ((8 : Int) < (((s.get 4).elems.length : Nat) : Int)) = (8 < (j9 s).length) := by
  show ((8 : Int) < (((j9 s).length : Nat) : Int)) = _
  exact propext ⟨fun h => by omega, fun h => by omega⟩
 by_cases h2 : 8 < (j9 s).length
 ·simp only [h1, h2, go_sem, y8, p9, h8e, or_true, if_true]
 have hl : (j9 s).length < 1099511627776 := by omega
 have key : ∀ k' : KD R, u3 N (q3L N k k') [s, put, zz2, .int 0] [] = z2s (fun _ => k' [] []) (fun e => k [.int e] []) (q2r (z3b s put) 0 () [0, 1]) := by
  intro k'
  refine q5d (F := q3L N k k') (fun i (_ : Unit) => [s, put, zz2, .int i]) (fun _ _ => []) [0, 1] (z3b s put) (fun _ => k' [] []) (fun e => k [.int e] []) (s0 := ()) ?_ ?_ (by simp; omega)
  ·intro i _ c hx hi rec
   have hi2 : i < 2 := hi
   have h1 : (i : Int) < 2 := by omega
   have hc : zz2.get i = .int c := by
    have : i = 0 ∨ i = 1 := by omega
    rcases this with rfl | rfl <;> simp at hx <;> subst hx <;> rfl
   unfold q3L z3b
   simp only [go_sem, y8, h1, hc, x3S s put _ hl hN, u5 (show i < 4611686018427387904 by omega), Int.natCast_nonneg, and_self, if_true]
   by_cases h : (z7t s put c).2 = 0 <;> simp [h]
  ·intro _ rec
   unfold q3L
   simp [go_sem, y8]
 have hor : ¬ (200 < (s.get 1).toInt ∨ 8 < (j9 s).length) := by omega
 rw [if_neg hor]
 simp only [h1, h2, go_sem, y8, p9, h8e, decide_false, cond_false]
 refine (q5d (F := q50 N k _) (fun i (_ : Unit) => [s, put, s.get 4, .int (j9 s).length, .int i]) (fun _ _ => []) (j9 s) (z9N s) (fun _ => k [.int (okE (q2r (z3b s put) 0 () [0, 1]))] []) (fun e => k [.int e] []) (s0 := ()) ?_ ?_ (by omega)).trans ?_
 ·intro i _ c hx hi rec
  have h1 : (i : Int) < ((j9 s).length : Int) := by omega
  have hd : (s.get 4).elems.getD i .nil = c := z3a hx
  have hs : (s.get 4).elems.length = (j9 s).length := rfl
  unfold q50 z9N
  simp only [go_sem, y8, p9, hs, h1, hd, u5 (show i < 4611686018427387904 by omega), Int.natCast_nonneg, and_self, if_true, find_eq s _ hl hN, x7G]
  by_cases h3 : (c.get 1).toInt = 0
  ·by_cases h4 : (c.get 2).toInt = 0
   ·simp [h3, h4]
   ·by_cases h5 : y0I s (c.get 0).toInt = i <;> simp [h3, h4, h5]
  ·by_cases h3' : (c.get 1).toInt = 1
   ·by_cases h4 : (c.get 2).toInt = 0
    ·simp [h3', h4]
    ·by_cases h5 : y0I s (c.get 0).toInt = i <;> simp [h3', h4, h5]
   ·simp [h3, h3']
 ·intro _ rec
  unfold q50
  simp only [go_sem, y8, Int.lt_irrefl, decide_false, cond_false, key]
  unfold z2s okE
  cases q2r (z3b s put) 0 () [0, 1] <;> rfl
 ·unfold z2s
  cases q2r (z9N s) 0 () (j9 s) <;> rfl
def zz : C := .agg [.int 0, .int 0]
end Go.Proofs.YtgdonkaoajbclaaGreatDoor
namespace Go.Proofs.YtgdonkaoajbclaaGreatDoor
open Go Go.E
set_option maxRecDepth 100000
set_option maxHeartbeats 4000000
set_option linter.unusedVariables false
end Go.Proofs.YtgdonkaoajbclaaGreatDoor
namespace Go.Proofs.YtgdonkaoajbclaaGreatDoor
open Go Go.E
set_option maxRecDepth 100000
set_option maxHeartbeats 4000000
set_option linter.unusedSimpArgs false
variable {R : Type} {N : Nat}
structure St where
 s : List Int
 e : Int
def St.fail (x : St) (c : Int) : St := ⟨x.s, if x.e = 0 then c else x.e⟩
def St.push (x : St) (a : Int) : St := if 32 ≤ x.s.length then x.fail 4 else ⟨a :: x.s, x.e⟩
structure OkA (x : St) (arr : C) : Prop where
 le : x.s.length ≤ 32
 is : arr.elems.take x.s.length = x.s.reverse.map C.int
def St.x2S (x : St) (arr : C) (a : Int) : C := if 32 ≤ x.s.length then arr else .agg (arr.elems.take x.s.length ++ [.int a])
section
variable {x : St} {arr : C}
theorem OkA.fail (h : OkA x arr) (c : Int) : OkA (x.fail c) arr := ⟨h.le, h.is⟩
theorem OkA.len (h : OkA x arr) : x.s.length ≤ arr.elems.length := by
 have := congrArg List.length h.is
 simp at this
 omega
theorem OkA.top {a : Int} {r : List Int} {e : Int} (h : OkA ⟨a :: r, e⟩ arr) : arr.get r.length = .int a := by
 have h2 : arr.elems.take (r.length + 1) = (a :: r).reverse.map C.int := h.is
 have h3 := congrArg (fun l => l[r.length]?) h2
 simp only [List.getElem?_take, Nat.lt_succ_self, if_true, List.reverse_cons, List.map_append] at h3
 rw [List.getElem?_append_right (by simp)] at h3
 have h4 : arr.elems[r.length]? = some (.int a) := by simpa using h3
 cases arr <;> simp only [C.elems, List.getElem?_nil, reduceCtorEq] at h4 <;> simp [C.get, h4]
theorem OkA.push (h : OkA x arr) (a : Int) : OkA (x.push a) (x.x2S arr a) := by
 unfold St.push St.x2S
 by_cases h1 : 32 ≤ x.s.length
 ·simp only [h1, if_true]; exact h.fail 4
 ·simp only [h1, if_false]
  refine ⟨show x.s.length + 1 ≤ 32 by omega, ?_⟩
  show List.take (x.s.length + 1) (arr.elems.take x.s.length ++ [C.int a]) = (a :: x.s).reverse.map C.int
  rw [h.is, List.take_of_length_le (by simp), List.reverse_cons, List.map_append]
  rfl
end
def St.put (x : St) (r : Int × Int) : St := if r.2 = 0 then x.push r.1 else x.fail r.2
structure WOk (w : C) : Prop where
 f : ∀ c ∈ (w.get 0).elems, c = .int c.toInt
 l0 : (w.get 0).elems.length < 4611686018427387904
 l1 : (w.get 1).elems.length < 4611686018427387904
 h : w.get 2 = .int (w.get 2).toInt
end Go.Proofs.YtgdonkaoajbclaaGreatDoor
namespace Go.Proofs.YtgdonkaoajbclaaGreatDoor
open Go Go.E
set_option maxRecDepth 100000
set_option maxHeartbeats 4000000
set_option linter.unusedSimpArgs false
variable {R : Type} {N : Nat}
structure x8K where
 i : Nat
 sp : Int
 x : St
 arr : C
end Go.Proofs.YtgdonkaoajbclaaGreatDoor
namespace Go.Proofs.YtgdonkaoajbclaaGreatDoor
open Go Go.E
set_option maxRecDepth 100000
set_option maxHeartbeats 4000000
set_option linter.unusedVariables false
noncomputable def z7W : Hints := [([1, 0, 1, 1, 1], ⟨[], [], [], [], [], []⟩),
  ([4, 1, 0, 1, 1, 1], ⟨[2, 3, 29], [(30, .d (.int .i64))], [], [], [], []⟩),
  ([0, 1, 4, 0, 1, 1, 5, 4, 1, 0, 1, 1, 1], ⟨[2, 3, 29, 30], [(49, .d .bool)], [], [], [], []⟩),
  ([9], ⟨[], [(4, .d (.int .i64))], [], [], [], []⟩)]
noncomputable def q9M (N : Nat) : OvS (X0 gl0) where
 g R := [(65, q4W N), (66, z0D N)]
 ok := fun R => List.forall_mem_cons.2 ⟨z5d N, List.forall_mem_cons.2 ⟨y3G N, fun _ h => nomatch h⟩⟩
noncomputable def q2J {R : Type} (N : Nat) (k1 : KD R) (k2 : KD R) : KD R → List C → List Es → Option R := (fun k3 d3 m3 => (bif decide (C.toInt (dk d3 3) < 2) then (if 0 ≤ C.toInt (dk d3 3) ∧ C.toInt (dk d3 3) < 2 then (jn (fun d4 m4 => (bif C.toBool (dk d4 4) then (k1 [C.int 12] []) else (k3 [dk d4 0, dk d4 1, dk d4 2, C.int (IntKind.wrap IntKind.i64 (C.toInt (dk d4 3) + 1))] []))) (fun k4 => (bif decide (C.toInt (C.get (C.get (dk d3 0) 8) 1) < C.toInt (C.get (C.get (dk d3 1) 0) 1)) then (if 0 ≤ C.toInt (dk d3 3) ∧ C.toInt (dk d3 3) < 2 then (k4 [dk d3 0, dk d3 1, dk d3 2, dk d3 3, C.bool (decide (C.toInt (C.get (C.get (C.get (dk d3 1) 0) 3) (Int.toNat (C.toInt (dk d3 3)))) < C.toInt (C.get (dk d3 2) (Int.toNat (C.toInt (dk d3 3))))))] []) else none) else (k4 [dk d3 0, dk d3 1, dk d3 2, dk d3 3, C.bool false] [])))) else none) else (k2 [] [])))
noncomputable def q2I {R : Type} (N : Nat) (a0 a1 : C) (k1 : KD R) : Option R := (bif decide (C.toInt (C.get a0 6) = 2) then (k1 [C.int 31] []) else (Y8 N (C.get a0 2) a1 (C.get a0 0) (fun d1 m1 => (bif !C.toBool (dk d1 0) then (k1 [C.int 20] []) else (q2X N (C.get a1 0) (C.get a0 4) (fun d2 m2 => (bif !decide (C.toInt (dk d2 0) = 0) then (k1 [dk d2 0] []) else (jn (fun d3 m3 => (k1 [C.int 0] [])) (fun k2 => (u3 N (q2J N k1 k2) [a0, a1, C.get a0 5, C.int 0] []))))))))))
noncomputable def F4 {R : Type} (N : Nat) : C → C → KD R → Option R := lid "" (q2I N)
theorem q9L {R : Type} (N : Nat) (a0 a1 : C) (k : KD R) : F4 N a0 a1 k = q2I N a0 a1 k := by unfold F4; rw [w6]
theorem z6Y {R : Type} (N : Nat) (a0 a1 : C) (K : V → List (Key × O) → Option R) : exF (X0 gl0) ((q9M N).ov R) s5 (fun f r => bif Nat.beq f 39 then (bif Nat.beq r 0 then [(2, 5), (3, 5)] else []) else []) (fun f => bif Nat.beq f 39 then z7W else []) N 400 8 39 [.d u9 a0, .d Y2 a1] A0 K =
  F4 N a0 a1 (fun d1 m1 => K (V.d (Ty.int IntKind.i64) (dk d1 0)) []) := by
 rw [q9L]
 exact (show _ = jn (fun d1 m1 => (K (V.d (Ty.int IntKind.i64) (dk d1 0)) [])) (q2I N a0 a1) by kernel_rfl).trans (y4 _ _)
noncomputable def q3w (N : Nat) {R : Type} : OvG R := fun xs _ K => match xs with
 | [.d t0 a0, .d t1 a1] => if t0 = u9 ∧ t1 = Y2 then F4 N a0 a1 (fun d1 m1 => K (V.d (Ty.int IntKind.i64) (dk d1 0)) []) else none
 | _ => none
theorem q9N (N : Nat) {R : Type} : GOk (X0 gl0) 39 (q3w N (R := R)) := by
 intro xs A Kr r hr
 unfold q3w at hr
 split at hr
 ·simp only [Option.ite_none_right_eq_some] at hr
  obtain ⟨hty, hr⟩ := hr
  obtain ⟨rfl, rfl⟩ := hty
  rw [← z6Y] at hr
  exact okA (q9M N) hr
 ·cases hr
noncomputable def y45 : Hints := [([9], ⟨[], [(2, .as (.ptr (.l 2) [] w4))], [], [(.l 2, .box (.d w4))], [], []⟩)]
noncomputable def z5S (N : Nat) : OvS (X0 gl0) where
 g R := [(89, z6W N)]
 ok := fun R => List.forall_mem_cons.2 ⟨y06 N, fun _ h => nomatch h⟩
noncomputable def q6S {R : Type} (N : Nat) (a0 : C) (k1 : KD R) : Option R := (bif Nat.beq (List.length (C.elems (C.get a0 4))) (List.length (C.elems (C.get a0 4))) then (k1 [C.agg [C.get a0 0, C.get a0 1, C.get a0 2, C.get a0 3, C.slice (C.elems (C.get a0 4))]] []) else none)
noncomputable def q2t {R : Type} (N : Nat) : C → KD R → Option R := lid "" (q6S N)
theorem z5R {R : Type} (N : Nat) (a0 : C) (k : KD R) : q2t N a0 k = q6S N a0 k := by unfold q2t; rw [w6]
theorem y3F {R : Type} (N : Nat) (a0 : C) (K : V → List (Key × O) → Option R) : exF (X0 gl0) ((z5S N).ov R) s5 noX (fun f => bif Nat.beq f 63 then y45 else []) N 400 8 63 [.d w4 a0] A0 K =
  q2t N a0 (fun d1 m1 => K (V.d w4 (dk d1 0)) []) := by
 rw [z5R]
 exact (show _ = jn (fun d1 m1 => (K (V.d w4 (dk d1 0)) [])) (q6S N a0) by kernel_rfl).trans (y4 _ _)
noncomputable def q8j (N : Nat) {R : Type} : OvG R := fun xs _ K => match xs with
 | [.d t0 a0] => if t0 = w4 then q2t N a0 (fun d1 m1 => K (V.d w4 (dk d1 0)) []) else none
 | _ => none
theorem z5T (N : Nat) {R : Type} : GOk (X0 gl0) 63 (q8j N (R := R)) := by
 intro xs A Kr r hr
 unfold q8j at hr
 split at hr
 ·simp only [Option.ite_none_right_eq_some] at hr
  obtain ⟨hty, hr⟩ := hr
  subst hty
  rw [← y3F] at hr
  exact okA (z5S N) hr
 ·cases hr
noncomputable def z7X : Hints := [([9], ⟨[], [(2, .as (.ptr (.l 2) [] u9))], [], [(.l 2, .box (.d u9))], [], []⟩)]
noncomputable def q9P (N : Nat) : OvS (X0 gl0) where
 g R := [(34, z11 N), (63, q8j N)]
 ok := fun R => List.forall_mem_cons.2 ⟨z4a N, List.forall_mem_cons.2 ⟨z5T N, fun _ h => nomatch h⟩⟩
noncomputable def q2K {R : Type} (N : Nat) (a0 : C) (k1 : KD R) : Option R := (q2t N (C.get a0 8) (fun d1 m1 => (bif Nat.beq (List.length (C.elems (C.get a0 3))) (List.length (C.elems (C.get a0 3))) then (k1 [C.agg [C.get a0 0, C.get a0 1, C.get a0 2, C.slice (C.elems (C.get a0 3)), C.get a0 4, C.get a0 5, C.get a0 6, C.get a0 7, dk d1 0]] []) else none)))
noncomputable def F5 {R : Type} (N : Nat) : C → KD R → Option R := lid "" (q2K N)
theorem q9O {R : Type} (N : Nat) (a0 : C) (k : KD R) : F5 N a0 k = q2K N a0 k := by unfold F5; rw [w6]
theorem z6Z {R : Type} (N : Nat) (a0 : C) (K : V → List (Key × O) → Option R) : exF (X0 gl0) ((q9P N).ov R) s5 (fun f r => bif Nat.beq f 36 then (bif Nat.beq r 1 then [(8, 7)] else []) else []) (fun f => bif Nat.beq f 36 then z7X else []) N 400 8 36 [.d u9 a0] A0 K =
  F5 N a0 (fun d1 m1 => K (V.d u9 (dk d1 0)) []) := by
 rw [q9O]
 exact (show _ = jn (fun d1 m1 => (K (V.d u9 (dk d1 0)) [])) (q2K N a0) by kernel_rfl).trans (y4 _ _)
noncomputable def q3x (N : Nat) {R : Type} : OvG R := fun xs _ K => match xs with
 | [.d t0 a0] => if t0 = u9 then F5 N a0 (fun d1 m1 => K (V.d u9 (dk d1 0)) []) else none
 | _ => none
theorem q9Q (N : Nat) {R : Type} : GOk (X0 gl0) 36 (q3x N (R := R)) := by
 intro xs A Kr r hr
 unfold q3x at hr
 split at hr
 ·simp only [Option.ite_none_right_eq_some] at hr
  obtain ⟨hty, hr⟩ := hr
  subst hty
  rw [← z6Z] at hr
  exact okA (q9P N) hr
 ·cases hr
noncomputable def z5h : Hints := [([1, 0, 1, 1], ⟨[2, 4], [], [], [], [], []⟩),
  ([9], ⟨[], [(4, .as (.ptr (.l 4) [] u9))], [], [(.l 4, .box (.d u9))], [], []⟩)]
noncomputable def q7J (N : Nat) : OvS (X0 gl0) where
 g R := [(36, q3x N), (63, q8j N)]
 ok := fun R => List.forall_mem_cons.2 ⟨q9Q N, List.forall_mem_cons.2 ⟨z5T N, fun _ h => nomatch h⟩⟩
noncomputable def q1Z {R : Type} (N : Nat) (a0 a1 : C) (k1 : KD R) : Option R := (F5 N a0 (fun d1 m1 => (jn (fun d2 m2 => (k1 [dk d2 0] [])) (fun k2 => (bif decide (C.toInt (C.get (C.get (dk d1 0) 8) 1) < C.toInt (C.get (C.get a1 0) 1)) then (q2t N (C.get a1 0) (fun d2 m2 => (k2 [C.set (dk d1 0) 8 (dk d2 0), C.agg [z0 (Ty.int IntKind.u32), z0 (Ty.arr 2 (Ty.int IntKind.i64)), C.agg [C.agg [C.agg (List.replicate 32 (C.int 0)), C.agg (List.replicate 32 (C.int 0))], C.int 0], C.slice [], z0 (Ty.arr 2 (Ty.int IntKind.u64)), z0 (Ty.arr 2 (Ty.int IntKind.u64)), z0 (Ty.int IntKind.i64), z0 (Ty.int IntKind.u64), C.agg [z0 (Ty.int IntKind.u32), z0 (Ty.int IntKind.u64), z0 (Ty.arr 2 (Ty.int IntKind.u64)), z0 (Ty.arr 2 (Ty.int IntKind.u64)), C.slice []]]] []))) else (k2 [dk d1 0, C.agg [z0 (Ty.int IntKind.u32), z0 (Ty.arr 2 (Ty.int IntKind.i64)), C.agg [C.agg [C.agg (List.replicate 32 (C.int 0)), C.agg (List.replicate 32 (C.int 0))], C.int 0], C.slice [], z0 (Ty.arr 2 (Ty.int IntKind.u64)), z0 (Ty.arr 2 (Ty.int IntKind.u64)), z0 (Ty.int IntKind.i64), z0 (Ty.int IntKind.u64), C.agg [z0 (Ty.int IntKind.u32), z0 (Ty.int IntKind.u64), z0 (Ty.arr 2 (Ty.int IntKind.u64)), z0 (Ty.arr 2 (Ty.int IntKind.u64)), C.slice []]]] []))))))
noncomputable def U7 {R : Type} (N : Nat) : C → C → KD R → Option R := lid "" (q1Z N)
theorem q7I {R : Type} (N : Nat) (a0 a1 : C) (k : KD R) : U7 N a0 a1 k = q1Z N a0 a1 k := by unfold U7; rw [w6]
theorem z4e {R : Type} (N : Nat) (a0 a1 : C) (K : V → List (Key × O) → Option R) : exF (X0 gl0) ((q7J N).ov R) s5 (fun f r => bif Nat.beq f 40 then (bif Nat.beq r 0 then [(3, 5)] else []) else []) (fun f => bif Nat.beq f 40 then z5h else []) N 400 8 40 [.d u9 a0, .d Y2 a1] A0 K =
  U7 N a0 a1 (fun d1 m1 => K (V.d u9 (dk d1 0)) []) := by
 rw [q7I]
 exact (show _ = jn (fun d1 m1 => (K (V.d u9 (dk d1 0)) [])) (q1Z N a0 a1) by kernel_rfl).trans (y4 _ _)
noncomputable def q2q (N : Nat) {R : Type} : OvG R := fun xs _ K => match xs with
 | [.d t0 a0, .d t1 a1] => if t0 = u9 ∧ t1 = Y2 then U7 N a0 a1 (fun d1 m1 => K (V.d u9 (dk d1 0)) []) else none
 | _ => none
theorem q7K (N : Nat) {R : Type} : GOk (X0 gl0) 40 (q2q N (R := R)) := by
 intro xs A Kr r hr
 unfold q2q at hr
 split at hr
 ·simp only [Option.ite_none_right_eq_some] at hr
  obtain ⟨hty, hr⟩ := hr
  obtain ⟨rfl, rfl⟩ := hty
  rw [← z4e] at hr
  exact okA (q7J N) hr
 ·cases hr
end Go.Proofs.YtgdonkaoajbclaaGreatDoor
namespace Go.Proofs.YtgdonkaoajbclaaGreatDoor
open Go Go.E
set_option maxRecDepth 100000
set_option maxHeartbeats 4000000
set_option linter.unusedSimpArgs false
variable {R : Type} {N : Nat}
def SOk (s : C) : Prop := s = .agg [s.get 0, s.get 1, s.get 2, s.get 3, .slice (j9 s)]
def mkB (id who roots : C) (rule : List C) (put paid ph un best : C) : C := .agg [id, who, roots, .slice rule, put, paid, ph, un, best]
theorem z5U {s : C} (h : SOk s) (k : KD R) : q2t N s k = k [s] [] := by
 rw [z5R]
 unfold q6S
 simp only [Nat.beq_refl, cond_true]
 exact congrArg (fun x => k [x] []) h.symm
section
variable {id who roots : C} {rule : List C} {put paid ph un best : C}
theorem z6X (h : SOk best) (k : KD R) : F5 N (mkB id who roots rule put paid ph un best) k = k [mkB id who roots rule put paid ph un best] [] := by
 rw [q9O]
 unfold q2K mkB
 simp only [go_sem, z5U h, y7, Nat.beq_refl, cond_true]
def y4j (best paid s : C) (_ : Nat) (_ : Unit) (side : Nat) : Unit ⊕ Int := if (best.get 1).toInt < (s.get 1).toInt ∧ ((s.get 3).get side).toInt < (paid.get side).toInt then .inr 12 else .inl ()
def q93 (ph put paid best d : C) (w : Bool) : Int :=
 if ph.toInt = 2 then 31 else if w = false then 20 else if z5v (d.get 0) put ≠ 0 then z5v (d.get 0) put else okE (q2r (y4j best paid (d.get 0)) 0 () [0, 1])
theorem look_eq {d : C} {w : Bool} (hW : ∀ k : KD R, Y8 N roots d id k = k [.bool w] []) (hN : 2199023255552 < N) (k : KD R) :
  F4 N (mkB id who roots rule put paid ph un best) d k = k [.int (q93 ph put paid best d w)] [] := by
 rw [q9L]
 unfold q2I q93 mkB
 simp only [go_sem, y8, p9, hW, x1A (d.get 0) put hN]
 by_cases h1 : ph.toInt = 2
 ·simp [h1]
 cases w
 ·simp [h1]
 by_cases h2 : z5v (d.get 0) put = 0
 case neg => simp [h1, h2]
 simp only [h1, h2, decide_true, decide_false, Bool.not_true, cond_false, ne_eq, not_true, if_false, Bool.true_eq_false]
 refine (q5d (F := q2J N k _) (fun i (_ : Unit) => [.agg [id, who, roots, .slice rule, put, paid, ph, un, best], d, paid, .int i]) (fun _ _ => []) ([0, 1] : List Nat) (y4j best paid (d.get 0)) (fun _ => k [.int 0] []) (fun e => k [.int e] []) (s0 := ()) ?_ ?_ (show 2 < N by omega)).trans ?_
 ·intro i _ c hx hi rec
  have hi2 : i < 2 := hi
  have h1 : (i : Int) < 2 := by omega
  have hc : c = i := by
   have : i = 0 ∨ i = 1 := by omega
   rcases this with rfl | rfl <;> simp at hx <;> exact hx.symm
  subst hc
  unfold q2J y4j
  simp only [go_sem, y8, p9, h1, u5 (show c < 4611686018427387904 by omega), Int.natCast_nonneg, and_self, if_true]
  by_cases h3 : (best.get 1).toInt < ((d.get 0).get 1).toInt
  ·by_cases h4 : (((d.get 0).get 3).get c).toInt < (paid.get c).toInt <;> simp [h3, h4]
  ·simp [h3]
 ·intro _ rec
  unfold q2J
  simp [go_sem, y8]
 ·unfold z2s okE
  cases q2r (y4j best paid (d.get 0)) 0 () [0, 1] <;> rfl
def q7t (best d : C) : C := if (best.get 1).toInt < ((d.get 0).get 1).toInt then d.get 0 else best
theorem x09 {d : C} (h : SOk best) (hd : SOk (d.get 0)) (k : KD R) : U7 N (mkB id who roots rule put paid ph un best) d k = k [mkB id who roots rule put paid ph un (q7t best d)] [] := by
 rw [q7I]
 unfold q1Z q7t
 rw [z6X h]
 unfold mkB
 simp only [go_sem, y8, z5U hd]
 by_cases h3 : (best.get 1).toInt < ((d.get 0).get 1).toInt <;> simp [h3]
structure x8L (put best : C) : Prop where
 p0 : put.get 0 = .int (put.get 0).toInt
 p1 : put.get 1 = .int (put.get 1).toInt
 r : best.get 1 = .int (best.get 1).toInt
def zB : C := .agg [.int 0, zz, .agg [.agg [.agg (List.replicate 32 (.int 0)), .agg (List.replicate 32 (.int 0))], .int 0], .slice [], zz, zz, .int 0, .int 0, .agg [.int 0, .int 0, zz, zz, .slice []]]
theorem z69 : C.agg
  [z0 (Ty.int IntKind.u32), z0 (Ty.arr 2 (Ty.int IntKind.i64)),
   C.agg [C.agg [C.agg (List.replicate 32 (C.int 0)), C.agg (List.replicate 32 (C.int 0))], C.int 0], C.slice [],
   z0 (Ty.arr 2 (Ty.int IntKind.u64)), z0 (Ty.arr 2 (Ty.int IntKind.u64)), z0 (Ty.int IntKind.i64),
   z0 (Ty.int IntKind.u64),
   C.agg
    [z0 (Ty.int IntKind.u32), z0 (Ty.int IntKind.u64), z0 (Ty.arr 2 (Ty.int IntKind.u64)),
     z0 (Ty.arr 2 (Ty.int IntKind.u64)), C.slice []]] = zB := rfl
end
end Go.Proofs.YtgdonkaoajbclaaGreatDoor
namespace Go.Proofs.YtgdonkaoajbclaaGreatDoor
open Go Go.E
set_option maxRecDepth 100000
set_option maxHeartbeats 4000000
set_option linter.unusedVariables false
noncomputable def z71 : Hints := [([0, 4, 0, 1], ⟨[1, 2, 3, 6], [(9, .d .bool)], [], [], [], []⟩),
  ([9], ⟨[], [(6, .as (.ptr (.l 6) [] u9)), (7, .d (.int .i64))], [], [(.l 6, .box (.d u9))], [], []⟩)]
noncomputable def q9T (N : Nat) : OvS (X0 gl0) where
 g R := [(36, q3x N), (37, q5F N)]
 ok := fun R => List.forall_mem_cons.2 ⟨q9Q N, List.forall_mem_cons.2 ⟨z0T N, fun _ h => nomatch h⟩⟩
noncomputable def q2M {R : Type} (N : Nat) (a0 a1 a2 : C) (k1 : KD R) : Option R := (jn (fun d1 m1 => (bif C.toBool (dk d1 2) then (k1 [C.int 1, C.agg [z0 (Ty.int IntKind.u32), z0 (Ty.arr 2 (Ty.int IntKind.i64)), C.agg [C.agg [C.agg (List.replicate 32 (C.int 0)), C.agg (List.replicate 32 (C.int 0))], C.int 0], C.slice [], z0 (Ty.arr 2 (Ty.int IntKind.u64)), z0 (Ty.arr 2 (Ty.int IntKind.u64)), z0 (Ty.int IntKind.i64), z0 (Ty.int IntKind.u64), C.agg [z0 (Ty.int IntKind.u32), z0 (Ty.int IntKind.u64), z0 (Ty.arr 2 (Ty.int IntKind.u64)), z0 (Ty.arr 2 (Ty.int IntKind.u64)), C.slice []]]] []) else (bif decide (C.toInt (C.get (dk d1 3) 6) = 2) then (k1 [C.int 31, C.agg [z0 (Ty.int IntKind.u32), z0 (Ty.arr 2 (Ty.int IntKind.i64)), C.agg [C.agg [C.agg (List.replicate 32 (C.int 0)), C.agg (List.replicate 32 (C.int 0))], C.int 0], C.slice [], z0 (Ty.arr 2 (Ty.int IntKind.u64)), z0 (Ty.arr 2 (Ty.int IntKind.u64)), z0 (Ty.int IntKind.i64), z0 (Ty.int IntKind.u64), C.agg [z0 (Ty.int IntKind.u32), z0 (Ty.int IntKind.u64), z0 (Ty.arr 2 (Ty.int IntKind.u64)), z0 (Ty.arr 2 (Ty.int IntKind.u64)), C.slice []]]] []) else (F5 N (dk d1 3) (fun d2 m2 => (if 0 ≤ C.toInt (dk d1 0) ∧ C.toInt (dk d1 0) < 2 then (q0h N (C.get (C.get (dk d2 0) 4) (Int.toNat (C.toInt (dk d1 0)))) (dk d1 1) (fun d3 m3 => (if 0 ≤ C.toInt (dk d1 0) ∧ C.toInt (dk d1 0) < 2 then (bif !decide (C.toInt (dk d3 1) = 0) then (k1 [dk d3 1, C.agg [z0 (Ty.int IntKind.u32), z0 (Ty.arr 2 (Ty.int IntKind.i64)), C.agg [C.agg [C.agg (List.replicate 32 (C.int 0)), C.agg (List.replicate 32 (C.int 0))], C.int 0], C.slice [], z0 (Ty.arr 2 (Ty.int IntKind.u64)), z0 (Ty.arr 2 (Ty.int IntKind.u64)), z0 (Ty.int IntKind.i64), z0 (Ty.int IntKind.u64), C.agg [z0 (Ty.int IntKind.u32), z0 (Ty.int IntKind.u64), z0 (Ty.arr 2 (Ty.int IntKind.u64)), z0 (Ty.arr 2 (Ty.int IntKind.u64)), C.slice []]]] []) else (q0h N (C.int 0) (C.get (C.get (C.set (dk d2 0) 4 (C.set (C.get (dk d2 0) 4) (Int.toNat (C.toInt (dk d1 0))) (dk d3 0))) 4) 0) (fun d4 m4 => (bif !decide (C.toInt (dk d4 1) = 0) then (bif !decide (C.toInt (dk d4 1) = 0) then (k1 [dk d4 1, C.agg [z0 (Ty.int IntKind.u32), z0 (Ty.arr 2 (Ty.int IntKind.i64)), C.agg [C.agg [C.agg (List.replicate 32 (C.int 0)), C.agg (List.replicate 32 (C.int 0))], C.int 0], C.slice [], z0 (Ty.arr 2 (Ty.int IntKind.u64)), z0 (Ty.arr 2 (Ty.int IntKind.u64)), z0 (Ty.int IntKind.i64), z0 (Ty.int IntKind.u64), C.agg [z0 (Ty.int IntKind.u32), z0 (Ty.int IntKind.u64), z0 (Ty.arr 2 (Ty.int IntKind.u64)), z0 (Ty.arr 2 (Ty.int IntKind.u64)), C.slice []]]] []) else (k1 [C.int 0, C.set (dk d2 0) 4 (C.set (C.get (dk d2 0) 4) (Int.toNat (C.toInt (dk d1 0))) (dk d3 0))] [])) else (q0h N (dk d4 0) (C.get (C.get (C.set (dk d2 0) 4 (C.set (C.get (dk d2 0) 4) (Int.toNat (C.toInt (dk d1 0))) (dk d3 0))) 4) 1) (fun d5 m5 => (bif !decide (C.toInt (dk d5 1) = 0) then (bif !decide (C.toInt (dk d5 1) = 0) then (k1 [dk d5 1, C.agg [z0 (Ty.int IntKind.u32), z0 (Ty.arr 2 (Ty.int IntKind.i64)), C.agg [C.agg [C.agg (List.replicate 32 (C.int 0)), C.agg (List.replicate 32 (C.int 0))], C.int 0], C.slice [], z0 (Ty.arr 2 (Ty.int IntKind.u64)), z0 (Ty.arr 2 (Ty.int IntKind.u64)), z0 (Ty.int IntKind.i64), z0 (Ty.int IntKind.u64), C.agg [z0 (Ty.int IntKind.u32), z0 (Ty.int IntKind.u64), z0 (Ty.arr 2 (Ty.int IntKind.u64)), z0 (Ty.arr 2 (Ty.int IntKind.u64)), C.slice []]]] []) else (k1 [C.int 0, C.set (dk d2 0) 4 (C.set (C.get (dk d2 0) 4) (Int.toNat (C.toInt (dk d1 0))) (dk d3 0))] [])) else (k1 [C.int 0, C.set (dk d2 0) 4 (C.set (C.get (dk d2 0) 4) (Int.toNat (C.toInt (dk d1 0))) (dk d3 0))] [])))))))) else none))) else none)))))) (fun k2 => (bif !decide (C.toInt a1 = 0) then (bif !decide (C.toInt a1 = 1) then (k2 [a1, a2, C.bool true, a0, C.agg [z0 (Ty.int IntKind.u32), z0 (Ty.arr 2 (Ty.int IntKind.i64)), C.agg [C.agg [C.agg (List.replicate 32 (C.int 0)), C.agg (List.replicate 32 (C.int 0))], C.int 0], C.slice [], z0 (Ty.arr 2 (Ty.int IntKind.u64)), z0 (Ty.arr 2 (Ty.int IntKind.u64)), z0 (Ty.int IntKind.i64), z0 (Ty.int IntKind.u64), C.agg [z0 (Ty.int IntKind.u32), z0 (Ty.int IntKind.u64), z0 (Ty.arr 2 (Ty.int IntKind.u64)), z0 (Ty.arr 2 (Ty.int IntKind.u64)), C.slice []]]] []) else (k2 [a1, a2, C.bool (decide (C.toInt a2 = 0)), a0, C.agg [z0 (Ty.int IntKind.u32), z0 (Ty.arr 2 (Ty.int IntKind.i64)), C.agg [C.agg [C.agg (List.replicate 32 (C.int 0)), C.agg (List.replicate 32 (C.int 0))], C.int 0], C.slice [], z0 (Ty.arr 2 (Ty.int IntKind.u64)), z0 (Ty.arr 2 (Ty.int IntKind.u64)), z0 (Ty.int IntKind.i64), z0 (Ty.int IntKind.u64), C.agg [z0 (Ty.int IntKind.u32), z0 (Ty.int IntKind.u64), z0 (Ty.arr 2 (Ty.int IntKind.u64)), z0 (Ty.arr 2 (Ty.int IntKind.u64)), C.slice []]]] [])) else (k2 [a1, a2, C.bool (decide (C.toInt a2 = 0)), a0, C.agg [z0 (Ty.int IntKind.u32), z0 (Ty.arr 2 (Ty.int IntKind.i64)), C.agg [C.agg [C.agg (List.replicate 32 (C.int 0)), C.agg (List.replicate 32 (C.int 0))], C.int 0], C.slice [], z0 (Ty.arr 2 (Ty.int IntKind.u64)), z0 (Ty.arr 2 (Ty.int IntKind.u64)), z0 (Ty.int IntKind.i64), z0 (Ty.int IntKind.u64), C.agg [z0 (Ty.int IntKind.u32), z0 (Ty.int IntKind.u64), z0 (Ty.arr 2 (Ty.int IntKind.u64)), z0 (Ty.arr 2 (Ty.int IntKind.u64)), C.slice []]]] []))))
noncomputable def F6 {R : Type} (N : Nat) : C → C → C → KD R → Option R := lid "" (q2M N)
theorem q9S {R : Type} (N : Nat) (a0 a1 a2 : C) (k : KD R) : F6 N a0 a1 a2 k = q2M N a0 a1 a2 k := by unfold F6; rw [w6]
theorem z61 {R : Type} (N : Nat) (a0 a1 a2 : C) (K : V → List (Key × O) → Option R) : exF (X0 gl0) ((q9T N).ov R) s5 noX (fun f => bif Nat.beq f 11 then z71 else []) N 400 8 11 [.d u9 a0, .d (.int .i64) a1, .d (.int .u64) a2] A0 K =
  F6 N a0 a1 a2 (fun d1 m1 => K (V.tup [V.d u9 (dk d1 1), V.d (Ty.int IntKind.i64) (dk d1 0)]) []) := by
 rw [q9S]
 exact (show _ = jn (fun d1 m1 => (K (V.tup [V.d u9 (dk d1 1), V.d (Ty.int IntKind.i64) (dk d1 0)]) [])) (q2M N a0 a1 a2) by kernel_rfl).trans (y4 _ _)
noncomputable def q6m (N : Nat) {R : Type} : OvG R := fun xs _ K => match xs with
 | [.d t0 a0, .d t1 a1, .d t2 a2] => if t0 = u9 ∧ t1 = (.int .i64) ∧ t2 = (.int .u64) then F6 N a0 a1 a2 (fun d1 m1 => K (V.tup [V.d u9 (dk d1 1), V.d (Ty.int IntKind.i64) (dk d1 0)]) []) else none
 | _ => none
theorem z70 (N : Nat) {R : Type} : GOk (X0 gl0) 11 (q6m N (R := R)) := by
 intro xs A Kr r hr
 unfold q6m at hr
 split at hr
 ·simp only [Option.ite_none_right_eq_some] at hr
  obtain ⟨hty, hr⟩ := hr
  obtain ⟨rfl, rfl, rfl⟩ := hty
  rw [← z61] at hr
  exact okA (q9T N) hr
 ·cases hr
end Go.Proofs.YtgdonkaoajbclaaGreatDoor
namespace Go.Proofs.YtgdonkaoajbclaaGreatDoor
open Go Go.E
set_option maxRecDepth 100000
set_option maxHeartbeats 4000000
set_option linter.unusedSimpArgs false
variable {R : Type} {N : Nat}
section
variable {id who roots : C} {rule : List C} {put paid ph un best : C}
def y0n (id who roots : C) (rule : List C) (put paid ph un best : C) (side amount : Int) : Int × C :=
 if (side ≠ 0 ∧ side ≠ 1) ∨ amount = 0 then (1, zB) else if ph.toInt = 2 then (31, zB) else
  if (q0s (put.get side.toNat).toInt amount).2 ≠ 0 then ((q0s (put.get side.toNat).toInt amount).2, zB) else
   if (q6D [(put.set side.toNat (.int (q0s (put.get side.toNat).toInt amount).1)).get 0, (put.set side.toNat (.int (q0s (put.get side.toNat).toInt amount).1)).get 1]).2 ≠ 0 then ((q6D [(put.set side.toNat (.int (q0s (put.get side.toNat).toInt amount).1)).get 0, (put.set side.toNat (.int (q0s (put.get side.toNat).toInt amount).1)).get 1]).2, zB) else
    (0, mkB id who roots rule (put.set side.toNat (.int (q0s (put.get side.toNat).toInt amount).1)) paid ph un best)
theorem y74 (h : SOk best) (side amount : C) (k : KD R) :
  F6 N (mkB id who roots rule put paid ph un best) side amount k = k [.int (y0n id who roots rule put paid ph un best side.toInt amount.toInt).1, (y0n id who roots rule put paid ph un best side.toInt amount.toInt).2] [] := by
 have h6 : (mkB id who roots rule put paid ph un best).get 6 = ph := rfl
 rw [q9S]
 unfold q2M y0n
 rw [z69]
 have e : ∀ K : KD R, jn K (fun K => (bif !decide (side.toInt = 0) then (bif !decide (side.toInt = 1) then K [side, amount, .bool true, mkB id who roots rule put paid ph un best, zB] [] else K [side, amount, .bool (decide (amount.toInt = 0)), mkB id who roots rule put paid ph un best, zB] []) else K [side, amount, .bool (decide (amount.toInt = 0)), mkB id who roots rule put paid ph un best, zB] [])) =
   K [side, amount, .bool (decide ((side.toInt ≠ 0 ∧ side.toInt ≠ 1) ∨ amount.toInt = 0)), mkB id who roots rule put paid ph un best, zB] [] := fun K => by
  rw [y4]
  by_cases h0 : side.toInt = 0
  ·simp [h0]
  ·by_cases h1 : side.toInt = 1 <;> simp [h0, h1]
 rw [e]
 by_cases a1 : (side.toInt ≠ 0 ∧ side.toInt ≠ 1) ∨ amount.toInt = 0
 ·simp only [x9, w7, w9, u6, p9, a1, decide_true, cond_true, if_true]
 have hs : 0 ≤ side.toInt ∧ side.toInt < 2 := by omega
 by_cases a2 : ph.toInt = 2
 ·simp only [x9, w7, w9, u6, p9, a1, a2, h6, decide_true, decide_false, cond_true, cond_false, if_true, if_false]
 simp only [x9, w7, w9, u6, p9, y8, a1, a2, h6, decide_false, cond_false, if_false, z6X h, hs, and_self, if_true, add_eq]
 unfold mkB
 simp only [x0L, z5z, Int.toNat_zero]
 by_cases b1 : (q0s (put.get side.toInt.toNat).toInt amount.toInt).2 = 0
 case neg => simp only [b1, decide_false, Bool.not_false, cond_true, ne_eq, not_false_iff, if_true]
 have e2 : ∀ x y : C, (q6D [x, y]).2 = if (q0s 0 x.toInt).2 = 0 then (q0s (q0s 0 x.toInt).1 y.toInt).2 else (q0s 0 x.toInt).2 := fun x y => by
  by_cases g1 : (q0s 0 x.toInt).2 = 0
  ·by_cases g2 : (q0s (q0s 0 x.toInt).1 y.toInt).2 = 0 <;> simp [q6D, q2r, y2k, y1g, g1, g2]
  ·simp [q6D, q2r, y2k, y1g, g1]
 simp only [b1, e2, decide_true, Bool.not_true, cond_false, ne_eq, not_true, if_false]
 by_cases b2 : (q0s 0 ((put.set side.toInt.toNat (C.int (q0s (put.get side.toInt.toNat).toInt amount.toInt).1)).get 0).toInt).2 = 0
 ·simp only [b2, decide_true, Bool.not_true, cond_false, if_true]
  by_cases b3 : (q0s (q0s 0 ((put.set side.toInt.toNat (C.int (q0s (put.get side.toInt.toNat).toInt amount.toInt).1)).get 0).toInt).1 ((put.set side.toInt.toNat (C.int (q0s (put.get side.toInt.toNat).toInt amount.toInt).1)).get 1).toInt).2 = 0
  ·simp only [b3, decide_true, Bool.not_true, cond_false, not_true, if_false]
  ·simp only [b3, decide_false, Bool.not_false, cond_true, not_false_iff, if_true]
 ·simp only [b2, decide_false, Bool.not_false, cond_true, if_false, not_false_iff, if_true]
end
end Go.Proofs.YtgdonkaoajbclaaGreatDoor
namespace Go.Proofs.YtgdonkaoajbclaaGreatDoor
open Go Go.E
set_option maxRecDepth 100000
set_option maxHeartbeats 4000000
noncomputable def x2W : OvS (X0 gl0) where
 g R := []
 ok := fun R => fun _ h => nomatch h
theorem y73 {f : FuncId} {xs : List V} {v : V} {L : List (Key × O)} (h : exF (X0 gl0) (x2W.ov (V × List (Key × O))) s5 (fun _ _ => []) (fun _ => []) 100 400 8 f xs A0 (fun v L => some (v, L)) = some (v, L)) (A : Key → Option O) : Q0 (X0 gl0) f xs A v L := by
 obtain ⟨v', L', h1, h2⟩ := y6g (ok0 gl0) (mo gl0) (x2W.x2T _) (y8e gl0) _ _ _ _ _ _ h
 cases h2
 exact h1.mono (y5R fun _ => rfl)
noncomputable def z3E (_ : Nat) {R : Type} : OvG R := fun xs _ K => match xs with
 | [.d t p] => if t = .slice 1 (.int .u8) then (if p.elems.length = 0 then K (.d (.int .i64) (.int 0)) [] else none) else none
 | _ => none
theorem y7b (N : Nat) {R : Type} : GOk (X0 gl0) 33 (z3E N (R := R)) := by
 intro xs A Kr r hr
 unfold z3E at hr
 split at hr
 ·simp only [Option.ite_none_right_eq_some] at hr
  obtain ⟨rfl, h0, hr⟩ := hr
  rename_i p
  refine ⟨_, _, z6U (ts := [.slice 1 (.int .u8)]) (cs := [p]) fun W => ?_, hr⟩
  have h1 := W 0 _ _ rfl rfl
  simp only [C.wf] at h1
  have e : p = .slice [] := by rw [h1.1, List.eq_nil_of_length_eq_zero h0]
  subst e
  exact y73 (by kernel_rfl) A
 ·cases hr
noncomputable def z9d (_ : Nat) {R : Type} : OvG R := fun xs _ K => match xs with
 | [.d t p, .d u w, .d s g] => if t = .slice 1 (.int .u8) ∧ u = q0y ∧ s = .int .i64 then (if p.elems.length = 0 then (bif decide (g.toInt = 200) then K (.tup [.d (.int .u64) (.int 0), .d (.int .i64) (.int 0), .d (.int .i64) (.int 9)]) [] else none) else none) else none
 | _ => none
theorem x0l (N : Nat) {R : Type} : GOk (X0 gl0) 67 (z9d N (R := R)) := by
 intro xs A Kr r hr
 unfold z9d at hr
 split at hr
 ·simp only [Option.ite_none_right_eq_some] at hr
  obtain ⟨⟨rfl, rfl, rfl⟩, h0, hr⟩ := hr
  rename_i p w g
  by_cases h2 : g.toInt = 200
  case neg => rw [decide_eq_false h2] at hr; cases hr
  rw [decide_eq_true h2] at hr
  refine ⟨_, _, z6U (ts := [.slice 1 (.int .u8), q0y, .int .i64]) (cs := [p, w, g]) fun W => ?_, hr⟩
  have h1 := W 0 _ _ rfl rfl
  have h3 := W 2 _ _ rfl rfl
  simp only [C.wf] at h1 h3
  have e : p = .slice [] := by rw [h1.1, List.eq_nil_of_length_eq_zero h0]
  have e2 : g = .int 200 := by rw [h3.1, h2]
  subst e e2
  exact y73 (by kernel_rfl) A
 ·cases hr
set_option linter.unusedVariables false
noncomputable def y1S : Hints := [([0, 1, 1, 1, 1, 1], ⟨[], [(0, .d .bool)], [], [], [], []⟩),
  ([9], ⟨[], [(0, .d .bool)], [], [], [], []⟩)]
noncomputable def z25 (N : Nat) : OvS (X0 gl0) where
 g R := [(34, z11 N), (89, z6W N)]
 ok := fun R => List.forall_mem_cons.2 ⟨z4a N, List.forall_mem_cons.2 ⟨y06 N, fun _ h => nomatch h⟩⟩
noncomputable def q5g {R : Type} (N : Nat) (k1 : KD R) : Option R := (jn (fun d1 m1 => (k1 [C.bool (C.toBool (dk d1 0))] [])) (fun k2 => (k2 [C.bool true] [])))
noncomputable def F0 {R : Type} (N : Nat) : KD R → Option R := lid "" (q5g N)
theorem z24 {R : Type} (N : Nat)  (k : KD R) : F0 N  k = q5g N  k := by unfold F0; rw [w6]
theorem y0v {R : Type} (N : Nat)  (K : V → List (Key × O) → Option R) : exF (X0 gl0) ((z25 N).ov R) s5 (fun f r => bif Nat.beq f 8 then (bif Nat.beq r 0 then [(5, 5), (6, 5)] else []) else bif Nat.beq f 12 then (bif Nat.beq r 0 then [(4, 5)] else []) else bif Nat.beq f 39 then (bif Nat.beq r 0 then [(2, 5), (3, 5)] else []) else bif Nat.beq f 65 then (bif Nat.beq r 0 then [(3, 5), (4, 5)] else []) else bif Nat.beq f 90 then (bif Nat.beq r 0 then [(2, 5), (3, 5)] else []) else bif Nat.beq f 91 then (bif Nat.beq r 0 then [(4, 5), (6, 5), (7, 5)] else []) else bif Nat.beq f 112 then (bif Nat.beq r 0 then [(5, 5), (6, 5), (9, 5)] else []) else bif Nat.beq f 135 then (bif Nat.beq r 0 then [(2, 5), (3, 5)] else []) else bif Nat.beq f 145 then (bif Nat.beq r 0 then [(2, 5)] else []) else bif Nat.beq f 146 then (bif Nat.beq r 0 then [(1, 5)] else bif Nat.beq r 2 then [(8, 100)] else []) else bif Nat.beq f 106 then (bif Nat.beq r 2 then [(5, 16)] else bif Nat.beq r 6 then [(5, 16)] else bif Nat.beq r 8 then [(5, 16)] else []) else bif Nat.beq f 131 then (bif Nat.beq r 4 then [(0, 16)] else []) else bif Nat.beq f 144 then (bif Nat.beq r 5 then [(0, 16)] else []) else bif Nat.beq f 132 then (bif Nat.beq r 1 then [(14, 4)] else []) else bif Nat.beq f 133 then (bif Nat.beq r 7 then [(27, 100), (3, 16)] else bif Nat.beq r 8 then [(3, 16)] else []) else bif Nat.beq f 147 then (bif Nat.beq r 0 then [(1, 5)] else []) else bif Nat.beq f 136 then (bif Nat.beq r 0 then [(2, 5), (3, 5)] else []) else bif Nat.beq f 114 then (bif Nat.beq r 0 then [(1, 5)] else bif Nat.beq r 1 then [(7, 1), (9, 1)] else []) else bif Nat.beq f 137 then (bif Nat.beq r 4 then [(16, 1)] else []) else bif Nat.beq f 138 then (bif Nat.beq r 0 then [(3, 5)] else bif Nat.beq r 1 then [(11, 1), (27, 1), (33, 1)] else bif Nat.beq r 5 then [(43, 1)] else []) else bif Nat.beq f 149 then (bif Nat.beq r 4 then [(15, 1)] else []) else bif Nat.beq f 151 then (bif Nat.beq r 0 then [(3, 5)] else bif Nat.beq r 1 then [(9, 1), (14, 1), (18, 1), (22, 1), (26, 1)] else []) else bif Nat.beq f 66 then (bif Nat.beq r 0 then [(2, 5), (3, 5)] else []) else bif Nat.beq f 84 then (bif Nat.beq r 0 then [(3, 5), (4, 5)] else []) else bif Nat.beq f 108 then (bif Nat.beq r 0 then [(2, 5)] else []) else bif Nat.beq f 93 then (bif Nat.beq r 0 then [(2, 5)] else []) else bif Nat.beq f 116 then (bif Nat.beq r 0 then [(2, 5)] else []) else bif Nat.beq f 40 then (bif Nat.beq r 0 then [(3, 5)] else []) else bif Nat.beq f 41 then (bif Nat.beq r 0 then [(1, 5)] else []) else bif Nat.beq f 67 then (bif Nat.beq r 0 then [(4, 5)] else []) else bif Nat.beq f 95 then (bif Nat.beq r 0 then [(4, 5)] else []) else bif Nat.beq f 29 then (bif Nat.beq r 20 then [(12, 6), (3, 6)] else []) else bif Nat.beq f 83 then (bif Nat.beq r 0 then [(4, 5)] else []) else bif Nat.beq f 107 then (bif Nat.beq r 0 then [(4, 5)] else []) else bif Nat.beq f 134 then (bif Nat.beq r 0 then [(3, 5)] else []) else bif Nat.beq f 58 then (bif Nat.beq r 0 then [(4, 5), (5, 5), (6, 5)] else bif Nat.beq r 14 then [(61, 4)] else bif Nat.beq r 18 then [(19, 6)] else []) else []) (fun f => bif Nat.beq f 6 then y1S else []) N 3000 20 6 [] A0 K =
  F0 N  (fun d1 m1 => K (V.d Ty.bool (C.bool (C.toBool (dk d1 0)))) []) := by
 rw [z24]
 exact (show _ = jn (fun d1 m1 => (K (V.d Ty.bool (C.bool (C.toBool (dk d1 0)))) [])) (q5g N ) by kernel_rfl).trans (y4 _ _)
noncomputable def q9w (N : Nat) {R : Type} : OvG R := fun xs _ K => match xs with
 | [] => F0 N  (fun d1 m1 => K (V.d Ty.bool (C.bool (C.toBool (dk d1 0)))) [])
 | _ => none
theorem y1R (N : Nat) {R : Type} : GOk (X0 gl0) 6 (q9w N (R := R)) := by
 intro xs A Kr r hr
 unfold q9w at hr
 split at hr
 ·skip
  rw [← y0v] at hr
  exact okA (z25 N) hr
 ·cases hr
noncomputable def y81 : Hints := [([0, 0, 1], ⟨[0, 3, 5, 6, 8], [(25, .d .bool)], [], [], [], []⟩),
  ([9], ⟨[], [(8, .as (.ptr (.l 8) [] u9)), (9, .d (.int .i64))], [], [(.l 8, .box (.d u9))], [], []⟩)]
noncomputable def y0k (N : Nat) : OvS (X0 gl0) where
 g R := [(33, z3E N), (34, z11 N), (35, q9Y N)]
 ok := fun R => List.forall_mem_cons.2 ⟨y7b N, List.forall_mem_cons.2 ⟨z4a N, List.forall_mem_cons.2 ⟨z8h N, fun _ h => nomatch h⟩⟩⟩
noncomputable def q90 {R : Type} (N : Nat) (a0 a1 a2 a3 : C) (k1 : KD R) : Option R := (jn (fun d1 m1 => (bif C.toBool (dk d1 4) then (k1 [C.int 1, C.agg [z0 (Ty.int IntKind.u32), z0 (Ty.arr 2 (Ty.int IntKind.i64)), C.agg [C.agg [C.agg (List.replicate 32 (C.int 0)), C.agg (List.replicate 32 (C.int 0))], C.int 0], C.slice [], z0 (Ty.arr 2 (Ty.int IntKind.u64)), z0 (Ty.arr 2 (Ty.int IntKind.u64)), z0 (Ty.int IntKind.i64), z0 (Ty.int IntKind.u64), C.agg [z0 (Ty.int IntKind.u32), z0 (Ty.int IntKind.u64), z0 (Ty.arr 2 (Ty.int IntKind.u64)), z0 (Ty.arr 2 (Ty.int IntKind.u64)), C.slice []]]] []) else (if List.length (C.elems (dk d1 1)) = 0 then (q3f N (dk d1 0) (fun d2 m2 => (bif Nat.beq (List.length (C.elems (dk d1 1))) (List.length (C.elems (dk d1 1))) && true then (k1 [C.int 0, C.agg [dk d1 0, dk d1 2, dk d1 3, C.slice (C.elems (dk d1 1)), z0 (Ty.arr 2 (Ty.int IntKind.u64)), z0 (Ty.arr 2 (Ty.int IntKind.u64)), z0 (Ty.int IntKind.i64), z0 (Ty.int IntKind.u64), dk d2 0]] []) else none))) else none))) (fun k2 => (bif decide (C.toInt (C.get a1 (Int.toNat 0)) = C.toInt (C.get a1 (Int.toNat 1))) then (k2 [a0, a3, a1, a2, C.bool true, C.agg [z0 (Ty.int IntKind.u32), z0 (Ty.arr 2 (Ty.int IntKind.i64)), C.agg [C.agg [C.agg (List.replicate 32 (C.int 0)), C.agg (List.replicate 32 (C.int 0))], C.int 0], C.slice [], z0 (Ty.arr 2 (Ty.int IntKind.u64)), z0 (Ty.arr 2 (Ty.int IntKind.u64)), z0 (Ty.int IntKind.i64), z0 (Ty.int IntKind.u64), C.agg [z0 (Ty.int IntKind.u32), z0 (Ty.int IntKind.u64), z0 (Ty.arr 2 (Ty.int IntKind.u64)), z0 (Ty.arr 2 (Ty.int IntKind.u64)), C.slice []]]] []) else (bif decide (C.toInt (C.get a2 1) < 0) then (k2 [a0, a3, a1, a2, C.bool true, C.agg [z0 (Ty.int IntKind.u32), z0 (Ty.arr 2 (Ty.int IntKind.i64)), C.agg [C.agg [C.agg (List.replicate 32 (C.int 0)), C.agg (List.replicate 32 (C.int 0))], C.int 0], C.slice [], z0 (Ty.arr 2 (Ty.int IntKind.u64)), z0 (Ty.arr 2 (Ty.int IntKind.u64)), z0 (Ty.int IntKind.i64), z0 (Ty.int IntKind.u64), C.agg [z0 (Ty.int IntKind.u32), z0 (Ty.int IntKind.u64), z0 (Ty.arr 2 (Ty.int IntKind.u64)), z0 (Ty.arr 2 (Ty.int IntKind.u64)), C.slice []]]] []) else (k2 [a0, a3, a1, a2, C.bool (decide (8 < C.toInt (C.get a2 1))), C.agg [z0 (Ty.int IntKind.u32), z0 (Ty.arr 2 (Ty.int IntKind.i64)), C.agg [C.agg [C.agg (List.replicate 32 (C.int 0)), C.agg (List.replicate 32 (C.int 0))], C.int 0], C.slice [], z0 (Ty.arr 2 (Ty.int IntKind.u64)), z0 (Ty.arr 2 (Ty.int IntKind.u64)), z0 (Ty.int IntKind.i64), z0 (Ty.int IntKind.u64), C.agg [z0 (Ty.int IntKind.u32), z0 (Ty.int IntKind.u64), z0 (Ty.arr 2 (Ty.int IntKind.u64)), z0 (Ty.arr 2 (Ty.int IntKind.u64)), C.slice []]]] [])))))
noncomputable def q6r {R : Type} (N : Nat) : C → C → C → C → KD R → Option R := lid "" (q90 N)
theorem y0j {R : Type} (N : Nat) (a0 a1 a2 a3 : C) (k : KD R) : q6r N a0 a1 a2 a3 k = q90 N a0 a1 a2 a3 k := by unfold q6r; rw [w6]
theorem y7a {R : Type} (N : Nat) (a0 a1 a2 a3 : C) (K : V → List (Key × O) → Option R) : exF (X0 gl0) ((y0k N).ov R) s5 (fun f r => bif Nat.beq f 8 then (bif Nat.beq r 0 then [(5, 5), (6, 5)] else bif Nat.beq r 6 then [(39, 7)] else []) else []) (fun f => bif Nat.beq f 8 then y81 else []) N 400 8 8 [.d (.int .u32) a0, .d (.arr 2 (.int .i64)) a1, .d c9 a2, .d (.slice 1 (.int .u8)) a3] A0 K =
  q6r N a0 a1 a2 a3 (fun d1 m1 => K (V.tup [V.d u9 (dk d1 1), V.d (Ty.int IntKind.i64) (dk d1 0)]) []) := by
 rw [y0j]
 exact (show _ = jn (fun d1 m1 => (K (V.tup [V.d u9 (dk d1 1), V.d (Ty.int IntKind.i64) (dk d1 0)]) [])) (q90 N a0 a1 a2 a3) by kernel_rfl).trans (y4 _ _)
noncomputable def z6a (N : Nat) {R : Type} : OvG R := fun xs _ K => match xs with
 | [.d t0 a0, .d t1 a1, .d t2 a2, .d t3 a3] => if t0 = (.int .u32) ∧ t1 = (.arr 2 (.int .i64)) ∧ t2 = c9 ∧ t3 = (.slice 1 (.int .u8)) then q6r N a0 a1 a2 a3 (fun d1 m1 => K (V.tup [V.d u9 (dk d1 1), V.d (Ty.int IntKind.i64) (dk d1 0)]) []) else none
 | _ => none
theorem y80 (N : Nat) {R : Type} : GOk (X0 gl0) 8 (z6a N (R := R)) := by
 intro xs A Kr r hr
 unfold z6a at hr
 split at hr
 ·simp only [Option.ite_none_right_eq_some] at hr
  obtain ⟨hty, hr⟩ := hr
  obtain ⟨rfl, rfl, rfl, rfl⟩ := hty
  rw [← y7a] at hr
  exact okA (y0k N) hr
 ·cases hr
noncomputable def y1V : Hints := [([9], ⟨[], [(2, .as (.ptr (.l 2) [] c9))], [], [(.l 2, .box (.d c9))], [], []⟩)]
noncomputable def z27 (N : Nat) : OvS (X0 gl0) where
 g R := []
 ok := fun R => fun _ h => nomatch h
noncomputable def q7X {R : Type} (N : Nat) (a0 : C) (k1 : KD R) : Option R := (k1 [C.set (C.set (C.agg [C.agg [C.agg (List.replicate 32 (C.int 0)), C.agg (List.replicate 32 (C.int 0))], C.int 0]) 0 (C.set (C.set (z0 (Ty.arr 2 (Ty.arr 32 (Ty.int IntKind.u8)))) 0 (C.get (C.get a0 0) (Int.toNat 0))) 1 (C.get (C.get a0 0) (Int.toNat 1)))) 1 (C.get a0 1)] [])
noncomputable def q17 {R : Type} (N : Nat) : C → KD R → Option R := lid "" (q7X N)
theorem z26 {R : Type} (N : Nat) (a0 : C) (k : KD R) : q17 N a0 k = q7X N a0 k := by unfold q17; rw [w6]
theorem y0w {R : Type} (N : Nat) (a0 : C) (K : V → List (Key × O) → Option R) : exF (X0 gl0) ((z27 N).ov R) s5 (fun f r => bif Nat.beq f 9 then (bif Nat.beq r 0 then [(1, 5)] else []) else []) (fun f => bif Nat.beq f 9 then y1V else []) N 400 8 9 [.d c9 a0] A0 K =
  q17 N a0 (fun d1 m1 => K (V.d c9 (dk d1 0)) []) := by
 rw [z26]
 exact (show _ = jn (fun d1 m1 => (K (V.d c9 (dk d1 0)) [])) (q7X N a0) by kernel_rfl).trans (y4 _ _)
noncomputable def q9x (N : Nat) {R : Type} : OvG R := fun xs _ K => match xs with
 | [.d t0 a0] => if t0 = c9 then q17 N a0 (fun d1 m1 => K (V.d c9 (dk d1 0)) []) else none
 | _ => none
theorem y1U (N : Nat) {R : Type} : GOk (X0 gl0) 9 (q9x N (R := R)) := by
 intro xs A Kr r hr
 unfold q9x at hr
 split at hr
 ·simp only [Option.ite_none_right_eq_some] at hr
  obtain ⟨hty, hr⟩ := hr
  subst hty
  rw [← y0w] at hr
  exact okA (z27 N) hr
 ·cases hr
noncomputable def z5b : Hints := [([9], ⟨[], [(2, .as (.ptr (.l 2) [] c9))], [], [(.l 2, .box (.d c9))], [], []⟩)]
noncomputable def q7E (N : Nat) : OvS (X0 gl0) where
 g R := []
 ok := fun R => fun _ h => nomatch h
noncomputable def q4h {R : Type} (N : Nat) (a0 : C) (k1 : KD R) : Option R := (if Int.ofNat 0 ≤ 2 ∧ 2 < (↑(List.length (C.elems (C.get (C.get a0 2) (Int.toNat 0)))) : Int) then (if Int.ofNat 0 ≤ 0 ∧ 0 < (↑(List.length (C.elems (List.getD (C.elems (C.get (C.get a0 2) (Int.toNat 0))) (Int.toNat 2) C.nil))) : Int) then (if Int.ofNat 0 ≤ 2 ∧ 2 < (↑(List.length (C.elems (C.get (C.get a0 2) (Int.toNat 1)))) : Int) then (if Int.ofNat 0 ≤ 0 ∧ 0 < (↑(List.length (C.elems (List.getD (C.elems (C.get (C.get a0 2) (Int.toNat 1))) (Int.toNat 2) C.nil))) : Int) then (k1 [C.set (C.set (C.agg [C.agg [C.agg (List.replicate 32 (C.int 0)), C.agg (List.replicate 32 (C.int 0))], C.int 0]) 0 (C.set (C.set (z0 (Ty.arr 2 (Ty.arr 32 (Ty.int IntKind.u8)))) 0 (List.getD (C.elems (List.getD (C.elems (C.get (C.get a0 2) (Int.toNat 0))) (Int.toNat 2) C.nil)) (Int.toNat 0) C.nil)) 1 (List.getD (C.elems (List.getD (C.elems (C.get (C.get a0 2) (Int.toNat 1))) (Int.toNat 2) C.nil)) (Int.toNat 0) C.nil))) 1 (C.int 2)] []) else none) else none) else none) else none)
noncomputable def q0a {R : Type} (N : Nat) : C → KD R → Option R := lid "" (q4h N)
theorem q7D {R : Type} (N : Nat) (a0 : C) (k : KD R) : q0a N a0 k = q4h N a0 k := by unfold q0a; rw [w6]
theorem z3K {R : Type} (N : Nat) (a0 : C) (K : V → List (Key × O) → Option R) : exF (X0 gl0) ((q7E N).ov R) s5 (fun f r => bif Nat.beq f 10 then (bif Nat.beq r 0 then [(1, 5)] else []) else []) (fun f => bif Nat.beq f 10 then z5b else []) N 400 8 10 [.d H0 a0] A0 K =
  q0a N a0 (fun d1 m1 => K (V.d c9 (dk d1 0)) []) := by
 rw [q7D]
 exact (show _ = jn (fun d1 m1 => (K (V.d c9 (dk d1 0)) [])) (q4h N a0) by kernel_rfl).trans (y4 _ _)
noncomputable def q4R (N : Nat) {R : Type} : OvG R := fun xs _ K => match xs with
 | [.d t0 a0] => if t0 = H0 then q0a N a0 (fun d1 m1 => K (V.d c9 (dk d1 0)) []) else none
 | _ => none
theorem z5a (N : Nat) {R : Type} : GOk (X0 gl0) 10 (q4R N (R := R)) := by
 intro xs A Kr r hr
 unfold q4R at hr
 split at hr
 ·simp only [Option.ite_none_right_eq_some] at hr
  obtain ⟨hty, hr⟩ := hr
  subst hty
  rw [← z3K] at hr
  exact okA (q7E N) hr
 ·cases hr
noncomputable def y69 : Hints := [([9], ⟨[], [(2, .d (.int .u64))], [], [], [], []⟩)]
noncomputable def z8l (N : Nat) : OvS (X0 gl0) where
 g R := [(67, z9d N)]
 ok := fun R => List.forall_mem_cons.2 ⟨x0l N, fun _ h => nomatch h⟩
noncomputable def q8m {R : Type} (N : Nat) (a0 : C) (k1 : KD R) : Option R := (if List.length (C.elems (C.get a0 3)) = 0 then (k1 [C.int 5] []) else none)
noncomputable def q3h {R : Type} (N : Nat) : C → KD R → Option R := lid "" (q8m N)
theorem z8k {R : Type} (N : Nat) (a0 : C) (k : KD R) : q3h N a0 k = q8m N a0 k := by unfold q3h; rw [w6]
theorem y5t {R : Type} (N : Nat) (a0 : C) (K : V → List (Key × O) → Option R) : exF (X0 gl0) ((z8l N).ov R) s5 (fun f r => bif Nat.beq f 41 then (bif Nat.beq r 0 then [(1, 5)] else []) else []) (fun f => bif Nat.beq f 41 then y69 else []) N 400 8 41 [.d u9 a0] A0 K =
  q3h N a0 (fun d1 m1 => K (V.d (Ty.int IntKind.u64) (dk d1 0)) []) := by
 rw [z8k]
 exact (show _ = jn (fun d1 m1 => (K (V.d (Ty.int IntKind.u64) (dk d1 0)) [])) (q8m N a0) by kernel_rfl).trans (y4 _ _)
noncomputable def z3D (N : Nat) {R : Type} : OvG R := fun xs _ K => match xs with
 | [.d t0 a0] => if t0 = u9 then q3h N a0 (fun d1 m1 => K (V.d (Ty.int IntKind.u64) (dk d1 0)) []) else none
 | _ => none
theorem y68 (N : Nat) {R : Type} : GOk (X0 gl0) 41 (z3D N (R := R)) := by
 intro xs A Kr r hr
 unfold z3D at hr
 split at hr
 ·simp only [Option.ite_none_right_eq_some] at hr
  obtain ⟨hty, hr⟩ := hr
  subst hty
  rw [← y5t] at hr
  exact okA (z8l N) hr
 ·cases hr
noncomputable def y5v : Hints := [([9], ⟨[], [(6, .as (.ptr (.l 6) [] u9)), (7, .d (.int .i64))], [], [(.l 6, .box (.d u9))], [], []⟩)]
noncomputable def z6c (N : Nat) : OvS (X0 gl0) where
 g R := [(37, q5F N), (39, q3w N), (40, q2q N), (41, z3D N)]
 ok := fun R => List.forall_mem_cons.2 ⟨z0T N, List.forall_mem_cons.2 ⟨q9N N, List.forall_mem_cons.2 ⟨q7K N, List.forall_mem_cons.2 ⟨y68 N, fun _ h => nomatch h⟩⟩⟩⟩
noncomputable def q63 {R : Type} (N : Nat) (a0 a1 a2 : C) (k1 : KD R) : Option R := (bif decide (C.toInt (C.get a0 6) = 1) then (k1 [C.int 3, C.agg [z0 (Ty.int IntKind.u32), z0 (Ty.arr 2 (Ty.int IntKind.i64)), C.agg [C.agg [C.agg (List.replicate 32 (C.int 0)), C.agg (List.replicate 32 (C.int 0))], C.int 0], C.slice [], z0 (Ty.arr 2 (Ty.int IntKind.u64)), z0 (Ty.arr 2 (Ty.int IntKind.u64)), z0 (Ty.int IntKind.i64), z0 (Ty.int IntKind.u64), C.agg [z0 (Ty.int IntKind.u32), z0 (Ty.int IntKind.u64), z0 (Ty.arr 2 (Ty.int IntKind.u64)), z0 (Ty.arr 2 (Ty.int IntKind.u64)), C.slice []]]] []) else (F4 N a0 a1 (fun d1 m1 => (bif !decide (C.toInt (dk d1 0) = 0) then (k1 [dk d1 0, C.agg [z0 (Ty.int IntKind.u32), z0 (Ty.arr 2 (Ty.int IntKind.i64)), C.agg [C.agg [C.agg (List.replicate 32 (C.int 0)), C.agg (List.replicate 32 (C.int 0))], C.int 0], C.slice [], z0 (Ty.arr 2 (Ty.int IntKind.u64)), z0 (Ty.arr 2 (Ty.int IntKind.u64)), z0 (Ty.int IntKind.i64), z0 (Ty.int IntKind.u64), C.agg [z0 (Ty.int IntKind.u32), z0 (Ty.int IntKind.u64), z0 (Ty.arr 2 (Ty.int IntKind.u64)), z0 (Ty.arr 2 (Ty.int IntKind.u64)), C.slice []]]] []) else (U7 N a0 a1 (fun d2 m2 => (q3h N (dk d2 0) (fun d3 m3 => (q0h N a2 (dk d3 0) (fun d4 m4 => (bif !decide (C.toInt (dk d4 1) = 0) then (k1 [dk d4 1, C.agg [z0 (Ty.int IntKind.u32), z0 (Ty.arr 2 (Ty.int IntKind.i64)), C.agg [C.agg [C.agg (List.replicate 32 (C.int 0)), C.agg (List.replicate 32 (C.int 0))], C.int 0], C.slice [], z0 (Ty.arr 2 (Ty.int IntKind.u64)), z0 (Ty.arr 2 (Ty.int IntKind.u64)), z0 (Ty.int IntKind.i64), z0 (Ty.int IntKind.u64), C.agg [z0 (Ty.int IntKind.u32), z0 (Ty.int IntKind.u64), z0 (Ty.arr 2 (Ty.int IntKind.u64)), z0 (Ty.arr 2 (Ty.int IntKind.u64)), C.slice []]]] []) else (k1 [C.int 0, C.set (C.set (dk d2 0) 6 (C.int 1)) 7 (dk d4 0)] []))))))))))))
noncomputable def q36 {R : Type} (N : Nat) : C → C → C → KD R → Option R := lid "" (q63 N)
theorem z6b {R : Type} (N : Nat) (a0 a1 a2 : C) (k : KD R) : q36 N a0 a1 a2 k = q63 N a0 a1 a2 k := by unfold q36; rw [w6]
theorem y3P {R : Type} (N : Nat) (a0 a1 a2 : C) (K : V → List (Key × O) → Option R) : exF (X0 gl0) ((z6c N).ov R) s5 (fun f r => bif Nat.beq f 12 then (bif Nat.beq r 0 then [(4, 5)] else []) else []) (fun f => bif Nat.beq f 12 then y5v else []) N 400 8 12 [.d u9 a0, .d Y2 a1, .d (.int .u64) a2] A0 K =
  q36 N a0 a1 a2 (fun d1 m1 => K (V.tup [V.d u9 (dk d1 1), V.d (Ty.int IntKind.i64) (dk d1 0)]) []) := by
 rw [z6b]
 exact (show _ = jn (fun d1 m1 => (K (V.tup [V.d u9 (dk d1 1), V.d (Ty.int IntKind.i64) (dk d1 0)]) [])) (q63 N a0 a1 a2) by kernel_rfl).trans (y4 _ _)
noncomputable def z2k (N : Nat) {R : Type} : OvG R := fun xs _ K => match xs with
 | [.d t0 a0, .d t1 a1, .d t2 a2] => if t0 = u9 ∧ t1 = Y2 ∧ t2 = (.int .u64) then q36 N a0 a1 a2 (fun d1 m1 => K (V.tup [V.d u9 (dk d1 1), V.d (Ty.int IntKind.i64) (dk d1 0)]) []) else none
 | _ => none
theorem y5u (N : Nat) {R : Type} : GOk (X0 gl0) 12 (z2k N (R := R)) := by
 intro xs A Kr r hr
 unfold z2k at hr
 split at hr
 ·simp only [Option.ite_none_right_eq_some] at hr
  obtain ⟨hty, hr⟩ := hr
  obtain ⟨rfl, rfl, rfl⟩ := hty
  rw [← y3P] at hr
  exact okA (z6c N) hr
 ·cases hr
noncomputable def y7o : Hints := [([9], ⟨[], [(2, .as (.ptr (.l 2) [] k9))], [], [(.l 2, .box (.d k9))], [], []⟩)]
noncomputable def z8v (N : Nat) : OvS (X0 gl0) where
 g R := []
 ok := fun R => fun _ h => nomatch h
noncomputable def q8x {R : Type} (N : Nat) (a0 : C) (k1 : KD R) : Option R := (k1 [C.set (C.set (C.set (C.set (C.set (C.agg [C.int 0, C.int 0, C.int 0, C.agg (List.replicate 32 (C.int 0)), C.int 0]) 0 (C.get a0 0)) 1 (C.get a0 1)) 2 (C.get a0 2)) 3 (C.get a0 3)) 4 (C.get a0 4)] [])
noncomputable def q5i {R : Type} (N : Nat) : C → KD R → Option R := lid "" (q8x N)
theorem z8u {R : Type} (N : Nat) (a0 : C) (k : KD R) : q5i N a0 k = q8x N a0 k := by unfold q5i; rw [w6]
theorem y5V {R : Type} (N : Nat) (a0 : C) (K : V → List (Key × O) → Option R) : exF (X0 gl0) ((z8v N).ov R) s5 (fun f r => bif Nat.beq f 68 then (bif Nat.beq r 0 then [(1, 5)] else []) else []) (fun f => bif Nat.beq f 68 then y7o else []) N 400 8 68 [.d k9 a0] A0 K =
  q5i N a0 (fun d1 m1 => K (V.d k9 (dk d1 0)) []) := by
 rw [z8u]
 exact (show _ = jn (fun d1 m1 => (K (V.d k9 (dk d1 0)) [])) (q8x N a0) by kernel_rfl).trans (y4 _ _)
noncomputable def z3N (N : Nat) {R : Type} : OvG R := fun xs _ K => match xs with
 | [.d t0 a0] => if t0 = k9 then q5i N a0 (fun d1 m1 => K (V.d k9 (dk d1 0)) []) else none
 | _ => none
theorem y7m (N : Nat) {R : Type} : GOk (X0 gl0) 68 (z3N N (R := R)) := by
 intro xs A Kr r hr
 unfold z3N at hr
 split at hr
 ·simp only [Option.ite_none_right_eq_some] at hr
  obtain ⟨hty, hr⟩ := hr
  subst hty
  rw [← y5V] at hr
  exact okA (z8v N) hr
 ·cases hr
noncomputable def y7l : Hints := [([1, 0, 1, 1], ⟨[2, 3], [], [], [(.l 3, .box (.agg w4 [.d (.int .u32), .d (.int .u64), .d (.arr 2 (.int .u64)), .d (.arr 2 (.int .u64)), (.ts 64 k9)]))], [], []⟩),
  ([4, 1, 0, 1, 1], ⟨[2, 3, 16, 17], [(18, .d (.int .i64))], [], [(.l 3, .box (.agg w4 [.d (.int .u32), .d (.int .u64), .d (.arr 2 (.int .u64)), .d (.arr 2 (.int .u64)), (.ts 64 k9)]))], [], []⟩),
  ([9], ⟨[], [(2, .as (.ptr (.l 2) [] w4))], [], [(.l 2, .box (.d w4))], [], []⟩)]
noncomputable def z8t (N : Nat) : OvS (X0 gl0) where
 g R := [(68, z3N N)]
 ok := fun R => List.forall_mem_cons.2 ⟨y7m N, fun _ h => nomatch h⟩
noncomputable def q8w {R : Type} (N : Nat) (k2 : KD R) : KD R → List C → List Es → Option R := (fun k3 d1 m1 => (bif decide (C.toInt (dk d1 2) < C.toInt (dk d1 1)) then (if 0 ≤ C.toInt (dk d1 2) ∧ C.toInt (dk d1 2) < (↑(List.length (C.elems (dk d1 0))) : Int) then (q5i N (List.getD (C.elems (dk d1 0)) (Int.toNat (C.toInt (dk d1 2))) C.nil) (fun d2 m2 => (bif Nat.beq (List.length (C.elems (dk d1 7))) (List.length (C.elems (dk d1 7))) then (if (List.length (C.elems (dk d1 7)) + 1) * 64 ≤ 140737488355328 ∧ List.length (C.elems (dk d1 7)) + 1 ≤ 9223372036854775807 then (bif Nat.beq (List.length (C.elems (dk d1 7)) + 1) (List.length (C.elems (dk d1 7) ++ [dk d2 0])) then (k3 [dk d1 0, dk d1 1, C.int (IntKind.wrap IntKind.i64 (C.toInt (dk d1 2) + 1)), dk d1 3, dk d1 4, dk d1 5, dk d1 6, C.slice (C.elems (dk d1 7) ++ [dk d2 0]), dk d1 8] []) else none) else none) else none))) else none) else (k2 [dk d1 3, dk d1 4, dk d1 5, dk d1 6, C.slice (C.elems (dk d1 7)), dk d1 8] [])))
noncomputable def q8v {R : Type} (N : Nat) (a0 : C) (k1 : KD R) : Option R := (jn (fun d1 m1 => (k1 [C.agg [dk d1 0, dk d1 1, dk d1 2, dk d1 3, C.slice (C.elems (dk d1 4))]] [])) (fun k2 => (u3 N (q8w N k2) [C.get a0 4, C.int (↑(List.length (C.elems (C.get a0 4))) : Int), C.int 0, C.get a0 0, C.get a0 1, C.get a0 2, C.get a0 3, C.slice [], C.agg [z0 (Ty.int IntKind.u32), z0 (Ty.int IntKind.u64), z0 (Ty.arr 2 (Ty.int IntKind.u64)), z0 (Ty.arr 2 (Ty.int IntKind.u64)), C.slice []]] [])))
noncomputable def q5h {R : Type} (N : Nat) : C → KD R → Option R := lid "" (q8v N)
theorem z8s {R : Type} (N : Nat) (a0 : C) (k : KD R) : q5h N a0 k = q8v N a0 k := by unfold q5h; rw [w6]
theorem y5U {R : Type} (N : Nat) (a0 : C) (K : V → List (Key × O) → Option R) : exF (X0 gl0) ((z8t N).ov R) s5 (fun f r => bif Nat.beq f 42 then (bif Nat.beq r 0 then [(1, 5)] else bif Nat.beq r 5 then [(25, 7), (5, 6)] else []) else []) (fun f => bif Nat.beq f 42 then y7l else []) N 400 8 42 [.d w4 a0] A0 K =
  q5h N a0 (fun d1 m1 => K (V.d w4 (dk d1 0)) []) := by
 rw [z8s]
 exact (show _ = jn (fun d1 m1 => (K (V.d w4 (dk d1 0)) [])) (q8v N a0) by kernel_rfl).trans (y4 _ _)
noncomputable def z3M (N : Nat) {R : Type} : OvG R := fun xs _ K => match xs with
 | [.d t0 a0] => if t0 = w4 then q5h N a0 (fun d1 m1 => K (V.d w4 (dk d1 0)) []) else none
 | _ => none
theorem y7j (N : Nat) {R : Type} : GOk (X0 gl0) 42 (z3M N (R := R)) := by
 intro xs A Kr r hr
 unfold z3M at hr
 split at hr
 ·simp only [Option.ite_none_right_eq_some] at hr
  obtain ⟨hty, hr⟩ := hr
  subst hty
  rw [← y5U] at hr
  exact okA (z8t N) hr
 ·cases hr
noncomputable def y7s : Hints := [([1, 0, 1, 1], ⟨[2, 3], [], [], [], [], []⟩),
  ([4, 1, 0, 1, 1], ⟨[1, 2, 3], [(5, .d (.int .i64))], [], [], [], []⟩),
  ([9], ⟨[], [(2, .as (.ptr (.l 2) [] W5))], [], [(.l 2, .box (.d W5))], [], []⟩)]
noncomputable def z8z (N : Nat) : OvS (X0 gl0) where
 g R := []
 ok := fun R => fun _ h => nomatch h
noncomputable def q8B {R : Type} (N : Nat) (k2 : KD R) : KD R → List C → List Es → Option R := (fun k3 d1 m1 => (bif decide (C.toInt (dk d1 1) < 32) then (if 0 ≤ C.toInt (dk d1 1) ∧ C.toInt (dk d1 1) < 32 then (if 0 ≤ C.toInt (dk d1 1) ∧ C.toInt (dk d1 1) < 32 then (if 0 ≤ C.toInt (dk d1 1) ∧ C.toInt (dk d1 1) < 32 then (if 0 ≤ C.toInt (dk d1 1) ∧ C.toInt (dk d1 1) < 32 then (k3 [dk d1 0, C.int (IntKind.wrap IntKind.i64 (C.toInt (dk d1 1) + 1)), dk d1 2, C.set (C.set (dk d1 3) 0 (C.set (C.get (dk d1 3) 0) (Int.toNat (C.toInt (dk d1 1))) (C.get (C.get (dk d1 0) 0) (Int.toNat (C.toInt (dk d1 1)))))) 1 (C.set (C.get (C.set (dk d1 3) 0 (C.set (C.get (dk d1 3) 0) (Int.toNat (C.toInt (dk d1 1))) (C.get (C.get (dk d1 0) 0) (Int.toNat (C.toInt (dk d1 1)))))) 1) (Int.toNat (C.toInt (dk d1 1))) (C.get (C.get (dk d1 0) 1) (Int.toNat (C.toInt (dk d1 1)))))] []) else none) else none) else none) else none) else (k2 [dk d1 2, dk d1 3] [])))
noncomputable def q8A {R : Type} (N : Nat) (a0 : C) (k1 : KD R) : Option R := (jn (fun d1 m1 => (k1 [dk d1 1] [])) (fun k2 => (u3 N (q8B N k2) [a0, C.int 0, C.agg [C.agg (List.replicate 32 (C.agg (List.replicate 16 (C.int 0)))), C.agg (List.replicate 32 (C.agg (List.replicate 16 (C.int 0))))], C.agg [C.agg (List.replicate 32 (C.agg (List.replicate 16 (C.int 0)))), C.agg (List.replicate 32 (C.agg (List.replicate 16 (C.int 0))))]] [])))
noncomputable def q5j {R : Type} (N : Nat) : C → KD R → Option R := lid "" (q8A N)
theorem z8y {R : Type} (N : Nat) (a0 : C) (k : KD R) : q5j N a0 k = q8A N a0 k := by unfold q5j; rw [w6]
theorem y5X {R : Type} (N : Nat) (a0 : C) (K : V → List (Key × O) → Option R) : exF (X0 gl0) ((z8z N).ov R) s5 (fun f r => bif Nat.beq f 69 then (bif Nat.beq r 0 then [(1, 5)] else []) else []) (fun f => bif Nat.beq f 69 then y7s else []) N 400 8 69 [.d W5 a0] A0 K =
  q5j N a0 (fun d1 m1 => K (V.d W5 (dk d1 0)) []) := by
 rw [z8y]
 exact (show _ = jn (fun d1 m1 => (K (V.d W5 (dk d1 0)) [])) (q8A N a0) by kernel_rfl).trans (y4 _ _)
noncomputable def z3P (N : Nat) {R : Type} : OvG R := fun xs _ K => match xs with
 | [.d t0 a0] => if t0 = W5 then q5j N a0 (fun d1 m1 => K (V.d W5 (dk d1 0)) []) else none
 | _ => none
theorem y7r (N : Nat) {R : Type} : GOk (X0 gl0) 69 (z3P N (R := R)) := by
 intro xs A Kr r hr
 unfold z3P at hr
 split at hr
 ·simp only [Option.ite_none_right_eq_some] at hr
  obtain ⟨hty, hr⟩ := hr
  subst hty
  rw [← y5X] at hr
  exact okA (z8z N) hr
 ·cases hr
noncomputable def y7q : Hints := [([1, 0, 1, 1], ⟨[2, 3], [], [], [(.l 3, .box (.agg j8 [.d W5, .d (.int .u32), (.ts 32 (.arr 32 (.int .u8)))]))], [], []⟩),
  ([4, 1, 0, 1, 1], ⟨[2, 3, 13, 14], [(15, .d (.int .i64))], [], [(.l 3, .box (.agg j8 [.d W5, .d (.int .u32), (.ts 32 (.arr 32 (.int .u8)))]))], [], []⟩),
  ([9], ⟨[], [(2, .as (.ptr (.l 2) [] j8))], [], [(.l 2, .box (.d j8))], [], []⟩)]
noncomputable def z8x (N : Nat) : OvS (X0 gl0) where
 g R := [(69, z3P N)]
 ok := fun R => List.forall_mem_cons.2 ⟨y7r N, fun _ h => nomatch h⟩
noncomputable def q8z {R : Type} (N : Nat) (k2 : KD R) : KD R → List C → List Es → Option R := (fun k3 d2 m2 => (bif decide (C.toInt (dk d2 2) < C.toInt (dk d2 1)) then (if 0 ≤ C.toInt (dk d2 2) ∧ C.toInt (dk d2 2) < (↑(List.length (C.elems (dk d2 0))) : Int) then (bif Nat.beq (List.length (C.elems (dk d2 5))) (List.length (C.elems (dk d2 5))) then (if (List.length (C.elems (dk d2 5)) + 1) * 32 ≤ 140737488355328 ∧ List.length (C.elems (dk d2 5)) + 1 ≤ 9223372036854775807 then (bif Nat.beq (List.length (C.elems (dk d2 5)) + 1) (List.length (C.elems (dk d2 5) ++ [List.getD (C.elems (dk d2 0)) (Int.toNat (C.toInt (dk d2 2))) C.nil])) then (k3 [dk d2 0, dk d2 1, C.int (IntKind.wrap IntKind.i64 (C.toInt (dk d2 2) + 1)), dk d2 3, dk d2 4, C.slice (C.elems (dk d2 5) ++ [List.getD (C.elems (dk d2 0)) (Int.toNat (C.toInt (dk d2 2))) C.nil]), dk d2 6] []) else none) else none) else none) else none) else (k2 [dk d2 3, dk d2 4, C.slice (C.elems (dk d2 5)), dk d2 6] [])))
noncomputable def q8y {R : Type} (N : Nat) (a0 : C) (k1 : KD R) : Option R := (q5j N (C.get a0 0) (fun d1 m1 => (jn (fun d2 m2 => (k1 [C.agg [dk d2 0, dk d2 1, C.slice (C.elems (dk d2 2))]] [])) (fun k2 => (u3 N (q8z N k2) [C.get a0 2, C.int (↑(List.length (C.elems (C.get a0 2))) : Int), C.int 0, dk d1 0, C.get a0 1, C.slice [], C.agg [C.agg [C.agg (List.replicate 32 (C.agg (List.replicate 16 (C.int 0)))), C.agg (List.replicate 32 (C.agg (List.replicate 16 (C.int 0))))], z0 (Ty.int IntKind.u32), C.slice []]] [])))))
noncomputable def q3n {R : Type} (N : Nat) : C → KD R → Option R := lid "" (q8y N)
theorem z8w {R : Type} (N : Nat) (a0 : C) (k : KD R) : q3n N a0 k = q8y N a0 k := by unfold q3n; rw [w6]
theorem y5W {R : Type} (N : Nat) (a0 : C) (K : V → List (Key × O) → Option R) : exF (X0 gl0) ((z8x N).ov R) s5 (fun f r => bif Nat.beq f 43 then (bif Nat.beq r 0 then [(1, 5)] else bif Nat.beq r 1 then [(8, 7)] else []) else []) (fun f => bif Nat.beq f 43 then y7q else []) N 400 8 43 [.d j8 a0] A0 K =
  q3n N a0 (fun d1 m1 => K (V.d j8 (dk d1 0)) []) := by
 rw [z8w]
 exact (show _ = jn (fun d1 m1 => (K (V.d j8 (dk d1 0)) [])) (q8y N a0) by kernel_rfl).trans (y4 _ _)
noncomputable def z3O (N : Nat) {R : Type} : OvG R := fun xs _ K => match xs with
 | [.d t0 a0] => if t0 = j8 then q3n N a0 (fun d1 m1 => K (V.d j8 (dk d1 0)) []) else none
 | _ => none
theorem y7p (N : Nat) {R : Type} : GOk (X0 gl0) 43 (z3O N (R := R)) := by
 intro xs A Kr r hr
 unfold z3O at hr
 split at hr
 ·simp only [Option.ite_none_right_eq_some] at hr
  obtain ⟨hty, hr⟩ := hr
  subst hty
  rw [← y5W] at hr
  exact okA (z8x N) hr
 ·cases hr
noncomputable def y7i : Hints := [([9], ⟨[], [(2, .as (.ptr (.l 2) [] Y2))], [], [(.l 2, .box (.d Y2))], [], []⟩)]
noncomputable def z8r (N : Nat) : OvS (X0 gl0) where
 g R := [(42, z3M N), (43, z3O N)]
 ok := fun R => List.forall_mem_cons.2 ⟨y7j N, List.forall_mem_cons.2 ⟨y7p N, fun _ h => nomatch h⟩⟩
noncomputable def q8u {R : Type} (N : Nat) (a0 : C) (k1 : KD R) : Option R := (q5h N (C.get a0 0) (fun d1 m1 => (q3n N (C.get (C.get a0 1) (Int.toNat 0)) (fun d2 m2 => (q3n N (C.get (C.get a0 1) (Int.toNat 1)) (fun d3 m3 => (k1 [C.agg [dk d1 0, C.set (C.set (z0 (Ty.arr 2 j8)) 0 (dk d2 0)) 1 (dk d3 0)]] [])))))))
noncomputable def q3m {R : Type} (N : Nat) : C → KD R → Option R := lid "" (q8u N)
theorem z8q {R : Type} (N : Nat) (a0 : C) (k : KD R) : q3m N a0 k = q8u N a0 k := by unfold q3m; rw [w6]
theorem y5T {R : Type} (N : Nat) (a0 : C) (K : V → List (Key × O) → Option R) : exF (X0 gl0) ((z8r N).ov R) s5 (fun f r => bif Nat.beq f 13 then (bif Nat.beq r 0 then [(1, 5)] else bif Nat.beq r 1 then [(5, 7), (9, 7), (13, 7)] else []) else []) (fun f => bif Nat.beq f 13 then y7i else []) N 400 8 13 [.d Y2 a0] A0 K =
  q3m N a0 (fun d1 m1 => K (V.d Y2 (dk d1 0)) []) := by
 rw [z8q]
 exact (show _ = jn (fun d1 m1 => (K (V.d Y2 (dk d1 0)) [])) (q8u N a0) by kernel_rfl).trans (y4 _ _)
noncomputable def z3L (N : Nat) {R : Type} : OvG R := fun xs _ K => match xs with
 | [.d t0 a0] => if t0 = Y2 then q3m N a0 (fun d1 m1 => K (V.d Y2 (dk d1 0)) []) else none
 | _ => none
theorem y7h (N : Nat) {R : Type} : GOk (X0 gl0) 13 (z3L N (R := R)) := by
 intro xs A Kr r hr
 unfold z3L at hr
 split at hr
 ·simp only [Option.ite_none_right_eq_some] at hr
  obtain ⟨hty, hr⟩ := hr
  subst hty
  rw [← y5T] at hr
  exact okA (z8r N) hr
 ·cases hr
noncomputable def z7Z : Hints := [([9], ⟨[], [(6, .as (.ptr (.l 6) [] u9)), (7, .d (.int .i64))], [], [(.l 6, .box (.d u9))], [], []⟩)]
noncomputable def q9R (N : Nat) : OvS (X0 gl0) where
 g R := [(39, q3w N), (40, q2q N)]
 ok := fun R => List.forall_mem_cons.2 ⟨q9N N, List.forall_mem_cons.2 ⟨q7K N, fun _ h => nomatch h⟩⟩
noncomputable def q0v {R : Type} (N : Nat) (a0 a1 a2 : C) (k1 : KD R) : Option R := (bif decide (C.toInt (C.get a0 6) = 0) then (k1 [C.int 3, C.agg [z0 (Ty.int IntKind.u32), z0 (Ty.arr 2 (Ty.int IntKind.i64)), C.agg [C.agg [C.agg (List.replicate 32 (C.int 0)), C.agg (List.replicate 32 (C.int 0))], C.int 0], C.slice [], z0 (Ty.arr 2 (Ty.int IntKind.u64)), z0 (Ty.arr 2 (Ty.int IntKind.u64)), z0 (Ty.int IntKind.i64), z0 (Ty.int IntKind.u64), C.agg [z0 (Ty.int IntKind.u32), z0 (Ty.int IntKind.u64), z0 (Ty.arr 2 (Ty.int IntKind.u64)), z0 (Ty.arr 2 (Ty.int IntKind.u64)), C.slice []]]] []) else (F4 N a0 a1 (fun d1 m1 => (bif !decide (C.toInt (dk d1 0) = 0) then (k1 [dk d1 0, C.agg [z0 (Ty.int IntKind.u32), z0 (Ty.arr 2 (Ty.int IntKind.i64)), C.agg [C.agg [C.agg (List.replicate 32 (C.int 0)), C.agg (List.replicate 32 (C.int 0))], C.int 0], C.slice [], z0 (Ty.arr 2 (Ty.int IntKind.u64)), z0 (Ty.arr 2 (Ty.int IntKind.u64)), z0 (Ty.int IntKind.i64), z0 (Ty.int IntKind.u64), C.agg [z0 (Ty.int IntKind.u32), z0 (Ty.int IntKind.u64), z0 (Ty.arr 2 (Ty.int IntKind.u64)), z0 (Ty.arr 2 (Ty.int IntKind.u64)), C.slice []]]] []) else (bif decide (C.toInt (C.get a0 7) ≤ C.toInt a2) then (k1 [C.int 29, C.agg [z0 (Ty.int IntKind.u32), z0 (Ty.arr 2 (Ty.int IntKind.i64)), C.agg [C.agg [C.agg (List.replicate 32 (C.int 0)), C.agg (List.replicate 32 (C.int 0))], C.int 0], C.slice [], z0 (Ty.arr 2 (Ty.int IntKind.u64)), z0 (Ty.arr 2 (Ty.int IntKind.u64)), z0 (Ty.int IntKind.i64), z0 (Ty.int IntKind.u64), C.agg [z0 (Ty.int IntKind.u32), z0 (Ty.int IntKind.u64), z0 (Ty.arr 2 (Ty.int IntKind.u64)), z0 (Ty.arr 2 (Ty.int IntKind.u64)), C.slice []]]] []) else (bif decide (C.toInt (C.get (C.get a1 0) 1) ≤ C.toInt (C.get (C.get a0 8) 1)) then (k1 [C.int 25, C.agg [z0 (Ty.int IntKind.u32), z0 (Ty.arr 2 (Ty.int IntKind.i64)), C.agg [C.agg [C.agg (List.replicate 32 (C.int 0)), C.agg (List.replicate 32 (C.int 0))], C.int 0], C.slice [], z0 (Ty.arr 2 (Ty.int IntKind.u64)), z0 (Ty.arr 2 (Ty.int IntKind.u64)), z0 (Ty.int IntKind.i64), z0 (Ty.int IntKind.u64), C.agg [z0 (Ty.int IntKind.u32), z0 (Ty.int IntKind.u64), z0 (Ty.arr 2 (Ty.int IntKind.u64)), z0 (Ty.arr 2 (Ty.int IntKind.u64)), C.slice []]]] []) else (U7 N a0 a1 (fun d2 m2 => (k1 [C.int 0, dk d2 0] [])))))))))
noncomputable def q0G {R : Type} (N : Nat) : C → C → C → KD R → Option R := lid "" (q0v N)
theorem q2L {R : Type} (N : Nat) (a0 a1 a2 : C) (k : KD R) : q0G N a0 a1 a2 k = q0v N a0 a1 a2 k := by unfold q0G; rw [w6]
theorem z60 {R : Type} (N : Nat) (a0 a1 a2 : C) (K : V → List (Key × O) → Option R) : exF (X0 gl0) ((q9R N).ov R) s5 (fun f r => bif Nat.beq f 15 then (bif Nat.beq r 0 then [(3, 5), (4, 5)] else []) else []) (fun f => bif Nat.beq f 15 then z7Z else []) N 400 8 15 [.d u9 a0, .d Y2 a1, .d (.int .u64) a2] A0 K =
  q0G N a0 a1 a2 (fun d1 m1 => K (V.tup [V.d u9 (dk d1 1), V.d (Ty.int IntKind.i64) (dk d1 0)]) []) := by
 rw [q2L]
 exact (show _ = jn (fun d1 m1 => (K (V.tup [V.d u9 (dk d1 1), V.d (Ty.int IntKind.i64) (dk d1 0)]) [])) (q0v N a0 a1 a2) by kernel_rfl).trans (y4 _ _)
noncomputable def q6l (N : Nat) {R : Type} : OvG R := fun xs _ K => match xs with
 | [.d t0 a0, .d t1 a1, .d t2 a2] => if t0 = u9 ∧ t1 = Y2 ∧ t2 = (.int .u64) then q0G N a0 a1 a2 (fun d1 m1 => K (V.tup [V.d u9 (dk d1 1), V.d (Ty.int IntKind.i64) (dk d1 0)]) []) else none
 | _ => none
theorem z7Y (N : Nat) {R : Type} : GOk (X0 gl0) 15 (q6l N (R := R)) := by
 intro xs A Kr r hr
 unfold q6l at hr
 split at hr
 ·simp only [Option.ite_none_right_eq_some] at hr
  obtain ⟨hty, hr⟩ := hr
  obtain ⟨rfl, rfl, rfl⟩ := hty
  rw [← z60] at hr
  exact okA (q9R N) hr
 ·cases hr
noncomputable def y3m : Hints := [([0, 0, 1], ⟨[2, 3], [(40, .d .bool)], [], [], [], []⟩),
  ([1, 0, 1, 1], ⟨[], [], [], [], [], []⟩),
  ([4, 1, 0, 1, 1], ⟨[2, 3], [(5, .d (.int .i64))], [], [], [], []⟩),
  ([9], ⟨[], [(4, .d .bool)], [], [], [], []⟩)]
noncomputable def z4r (N : Nat) : OvS (X0 gl0) where
 g R := []
 ok := fun R => fun _ h => nomatch h
noncomputable def q3F {R : Type} (N : Nat) (k1 : KD R) (k2 : KD R) : KD R → List C → List Es → Option R := (fun k3 d2 m2 => (bif decide (C.toInt (dk d2 2) < (↑(List.length (C.elems (C.get (dk d2 0) 4))) : Int)) then (if 0 ≤ C.toInt (dk d2 2) ∧ C.toInt (dk d2 2) < (↑(List.length (C.elems (C.get (dk d2 0) 4))) : Int) then (if 0 ≤ C.toInt (dk d2 2) ∧ C.toInt (dk d2 2) < (↑(List.length (C.elems (C.get (dk d2 1) 4))) : Int) then (bif !C.beq (List.getD (C.elems (C.get (dk d2 0) 4)) (Int.toNat (C.toInt (dk d2 2))) C.nil) (List.getD (C.elems (C.get (dk d2 1) 4)) (Int.toNat (C.toInt (dk d2 2))) C.nil) then (k1 [C.bool false] []) else (k3 [dk d2 0, dk d2 1, C.int (IntKind.wrap IntKind.i64 (C.toInt (dk d2 2) + 1))] [])) else none) else none) else (k2 [] [])))
noncomputable def q3E {R : Type} (N : Nat) (a0 a1 : C) (k1 : KD R) : Option R := (jn (fun d1 m1 => (bif C.toBool (dk d1 2) then (k1 [C.bool false] []) else (jn (fun d2 m2 => (k1 [C.bool true] [])) (fun k2 => (u3 N (q3F N k1 k2) [dk d1 0, dk d1 1, C.int 0] []))))) (fun k2 => (bif !decide (C.toInt (C.get a0 0) = C.toInt (C.get a1 0)) then (k2 [a0, a1, C.bool true] []) else (bif !decide (C.toInt (C.get a0 1) = C.toInt (C.get a1 1)) then (k2 [a0, a1, C.bool true] []) else (bif !C.beq (C.get a0 2) (C.get a1 2) then (k2 [a0, a1, C.bool true] []) else (bif !C.beq (C.get a0 3) (C.get a1 3) then (k2 [a0, a1, C.bool true] []) else (k2 [a0, a1, C.bool !decide ((↑(List.length (C.elems (C.get a0 4))) : Int) = (↑(List.length (C.elems (C.get a1 4))) : Int))] [])))))))
noncomputable def q0L {R : Type} (N : Nat) : C → C → KD R → Option R := lid "" (q3E N)
theorem q9q {R : Type} (N : Nat) (a0 a1 : C) (k : KD R) : q0L N a0 a1 k = q3E N a0 a1 k := by unfold q0L; rw [w6]
theorem y1t {R : Type} (N : Nat) (a0 a1 : C) (K : V → List (Key × O) → Option R) : exF (X0 gl0) ((z4r N).ov R) s5 (fun f r => bif Nat.beq f 16 then (bif Nat.beq r 0 then [(2, 5), (3, 5)] else []) else []) (fun f => bif Nat.beq f 16 then y3m else []) N 400 8 16 [.d w4 a0, .d w4 a1] A0 K =
  q0L N a0 a1 (fun d1 m1 => K (V.d Ty.bool (C.bool (C.toBool (dk d1 0)))) []) := by
 rw [q9q]
 exact (show _ = jn (fun d1 m1 => (K (V.d Ty.bool (C.bool (C.toBool (dk d1 0)))) [])) (q3E N a0 a1) by kernel_rfl).trans (y4 _ _)
noncomputable def z0w (N : Nat) {R : Type} : OvG R := fun xs _ K => match xs with
 | [.d t0 a0, .d t1 a1] => if t0 = w4 ∧ t1 = w4 then q0L N a0 a1 (fun d1 m1 => K (V.d Ty.bool (C.bool (C.toBool (dk d1 0)))) []) else none
 | _ => none
theorem y3l (N : Nat) {R : Type} : GOk (X0 gl0) 16 (z0w N (R := R)) := by
 intro xs A Kr r hr
 unfold z0w at hr
 split at hr
 ·simp only [Option.ite_none_right_eq_some] at hr
  obtain ⟨hty, hr⟩ := hr
  obtain ⟨rfl, rfl⟩ := hty
  rw [← y1t] at hr
  exact okA (z4r N) hr
 ·cases hr
noncomputable def y35 : Hints := [([9], ⟨[], [(2, .as (.ptr (.l 2) [] k9))], [], [(.l 2, .box (.d k9))], [], []⟩)]
noncomputable def z4V (N : Nat) : OvS (X0 gl0) where
 g R := []
 ok := fun R => fun _ h => nomatch h
noncomputable def q57 {R : Type} (N : Nat) (a0 : C) (k1 : KD R) : Option R := (k1 [C.set (C.set (C.set (C.set (C.set (C.agg [C.int 0, C.int 0, C.int 0, C.agg (List.replicate 32 (C.int 0)), C.int 0]) 0 (C.get a0 0)) 1 (C.get a0 1)) 2 (C.get a0 2)) 3 (C.get a0 3)) 4 (C.get a0 4)] [])
noncomputable def q23 {R : Type} (N : Nat) : C → KD R → Option R := lid "" (q57 N)
theorem z4U {R : Type} (N : Nat) (a0 : C) (k : KD R) : q23 N a0 k = q57 N a0 k := by unfold q23; rw [w6]
theorem y1X {R : Type} (N : Nat) (a0 : C) (K : V → List (Key × O) → Option R) : exF (X0 gl0) ((z4V N).ov R) s5 (fun f r => bif Nat.beq f 46 then (bif Nat.beq r 0 then [(1, 5)] else []) else []) (fun f => bif Nat.beq f 46 then y35 else []) N 400 8 46 [.d k9 a0] A0 K =
  q23 N a0 (fun d1 m1 => K (V.d k9 (dk d1 0)) []) := by
 rw [z4U]
 exact (show _ = jn (fun d1 m1 => (K (V.d k9 (dk d1 0)) [])) (q57 N a0) by kernel_rfl).trans (y4 _ _)
noncomputable def z1a (N : Nat) {R : Type} : OvG R := fun xs _ K => match xs with
 | [.d t0 a0] => if t0 = k9 then q23 N a0 (fun d1 m1 => K (V.d k9 (dk d1 0)) []) else none
 | _ => none
theorem y33 (N : Nat) {R : Type} : GOk (X0 gl0) 46 (z1a N (R := R)) := by
 intro xs A Kr r hr
 unfold z1a at hr
 split at hr
 ·simp only [Option.ite_none_right_eq_some] at hr
  obtain ⟨hty, hr⟩ := hr
  subst hty
  rw [← y1X] at hr
  exact okA (z4V N) hr
 ·cases hr
noncomputable def y32 : Hints := [([1, 0, 1, 1], ⟨[2, 3], [], [], [(.l 3, .box (.agg w4 [.d (.int .u32), .d (.int .u64), .d (.arr 2 (.int .u64)), .d (.arr 2 (.int .u64)), (.ts 64 k9)]))], [], []⟩),
  ([4, 1, 0, 1, 1], ⟨[2, 3, 16, 17], [(18, .d (.int .i64))], [], [(.l 3, .box (.agg w4 [.d (.int .u32), .d (.int .u64), .d (.arr 2 (.int .u64)), .d (.arr 2 (.int .u64)), (.ts 64 k9)]))], [], []⟩),
  ([9], ⟨[], [(2, .as (.ptr (.l 2) [] w4))], [], [(.l 2, .box (.d w4))], [], []⟩)]
noncomputable def z4S (N : Nat) : OvS (X0 gl0) where
 g R := [(46, z1a N)]
 ok := fun R => List.forall_mem_cons.2 ⟨y33 N, fun _ h => nomatch h⟩
noncomputable def q56 {R : Type} (N : Nat) (k2 : KD R) : KD R → List C → List Es → Option R := (fun k3 d1 m1 => (bif decide (C.toInt (dk d1 2) < C.toInt (dk d1 1)) then (if 0 ≤ C.toInt (dk d1 2) ∧ C.toInt (dk d1 2) < (↑(List.length (C.elems (dk d1 0))) : Int) then (q23 N (List.getD (C.elems (dk d1 0)) (Int.toNat (C.toInt (dk d1 2))) C.nil) (fun d2 m2 => (bif Nat.beq (List.length (C.elems (dk d1 7))) (List.length (C.elems (dk d1 7))) then (if (List.length (C.elems (dk d1 7)) + 1) * 64 ≤ 140737488355328 ∧ List.length (C.elems (dk d1 7)) + 1 ≤ 9223372036854775807 then (bif Nat.beq (List.length (C.elems (dk d1 7)) + 1) (List.length (C.elems (dk d1 7) ++ [dk d2 0])) then (k3 [dk d1 0, dk d1 1, C.int (IntKind.wrap IntKind.i64 (C.toInt (dk d1 2) + 1)), dk d1 3, dk d1 4, dk d1 5, dk d1 6, C.slice (C.elems (dk d1 7) ++ [dk d2 0]), dk d1 8] []) else none) else none) else none))) else none) else (k2 [dk d1 3, dk d1 4, dk d1 5, dk d1 6, C.slice (C.elems (dk d1 7)), dk d1 8] [])))
noncomputable def q55 {R : Type} (N : Nat) (a0 : C) (k1 : KD R) : Option R := (jn (fun d1 m1 => (k1 [C.agg [dk d1 0, dk d1 1, dk d1 2, dk d1 3, C.slice (C.elems (dk d1 4))]] [])) (fun k2 => (u3 N (q56 N k2) [C.get a0 4, C.int (↑(List.length (C.elems (C.get a0 4))) : Int), C.int 0, C.get a0 0, C.get a0 1, C.get a0 2, C.get a0 3, C.slice [], C.agg [z0 (Ty.int IntKind.u32), z0 (Ty.int IntKind.u64), z0 (Ty.arr 2 (Ty.int IntKind.u64)), z0 (Ty.arr 2 (Ty.int IntKind.u64)), C.slice []]] [])))
noncomputable def q0O {R : Type} (N : Nat) : C → KD R → Option R := lid "" (q55 N)
theorem z4R {R : Type} (N : Nat) (a0 : C) (k : KD R) : q0O N a0 k = q55 N a0 k := by unfold q0O; rw [w6]
theorem y1W {R : Type} (N : Nat) (a0 : C) (K : V → List (Key × O) → Option R) : exF (X0 gl0) ((z4S N).ov R) s5 (fun f r => bif Nat.beq f 17 then (bif Nat.beq r 0 then [(1, 5)] else bif Nat.beq r 5 then [(25, 7), (5, 6)] else []) else []) (fun f => bif Nat.beq f 17 then y32 else []) N 400 8 17 [.d w4 a0] A0 K =
  q0O N a0 (fun d1 m1 => K (V.d w4 (dk d1 0)) []) := by
 rw [z4R]
 exact (show _ = jn (fun d1 m1 => (K (V.d w4 (dk d1 0)) [])) (q55 N a0) by kernel_rfl).trans (y4 _ _)
noncomputable def z09 (N : Nat) {R : Type} : OvG R := fun xs _ K => match xs with
 | [.d t0 a0] => if t0 = w4 then q0O N a0 (fun d1 m1 => K (V.d w4 (dk d1 0)) []) else none
 | _ => none
theorem y31 (N : Nat) {R : Type} : GOk (X0 gl0) 17 (z09 N (R := R)) := by
 intro xs A Kr r hr
 unfold z09 at hr
 split at hr
 ·simp only [Option.ite_none_right_eq_some] at hr
  obtain ⟨hty, hr⟩ := hr
  subst hty
  rw [← y1W] at hr
  exact okA (z4S N) hr
 ·cases hr
noncomputable def y0m : Hints := [([0, 0, 1], ⟨[4, 5, 6, 7], [(27, .d .bool)], [], [], [], []⟩),
  ([0, 0, 1, 1, 1, 1, 1, 1, 1], ⟨[6, 7, 9, 10], [(61, .d .bool)], [], [], [], []⟩),
  ([0, 1, 1, 1, 1, 1, 1, 1, 1, 1, 1, 1, 1], ⟨[], [(8, .d .bool)], [], [], [], []⟩),
  ([9], ⟨[], [(8, .d .bool)], [], [], [], []⟩)]
noncomputable def z1M (N : Nat) : OvS (X0 gl0) where
 g R := [(6, q9w N), (7, z08 N), (8, z6a N), (9, q9x N), (10, q4R N), (11, q6m N), (12, z2k N), (13, z3L N), (14, q5w N), (15, q6l N), (16, z0w N), (17, z09 N)]
 ok := fun R => List.forall_mem_cons.2 ⟨y1R N, List.forall_mem_cons.2 ⟨y3Z N, List.forall_mem_cons.2 ⟨y80 N, List.forall_mem_cons.2 ⟨y1U N, List.forall_mem_cons.2 ⟨z5a N, List.forall_mem_cons.2 ⟨z70 N, List.forall_mem_cons.2 ⟨y5u N, List.forall_mem_cons.2 ⟨y7h N, List.forall_mem_cons.2 ⟨z6A N, List.forall_mem_cons.2 ⟨z7Y N, List.forall_mem_cons.2 ⟨y3l N, List.forall_mem_cons.2 ⟨y31 N, fun _ h => nomatch h⟩⟩⟩⟩⟩⟩⟩⟩⟩⟩⟩⟩
noncomputable def q4n {R : Type} (N : Nat) (a0 a1 a2 a3 : C) (k1 : KD R) : Option R := (jn (fun d1 m1 => (bif C.toBool (dk d1 2) then (F0 N (fun d2 m2 => (k1 [C.bool (C.toBool (dk d2 0))] []))) else (q22 N (dk d1 0) (dk d1 1) (fun d2 m2 => (q0a N (dk d2 0) (fun d3 m3 => (q17 N (dk d3 0) (fun d4 m4 => (q6r N (C.int 7) (C.set (C.set (z0 (Ty.arr 2 (Ty.int IntKind.i64))) 0 (C.int 0)) 1 (C.int 1)) (dk d4 0) (C.slice []) (fun d5 m5 => (F6 N (dk d5 1) (C.int 0) (C.int 100) (fun d6 m6 => (F6 N (dk d6 1) (C.int 1) (C.int 100) (fun d7 m7 => (jn (fun d8 m8 => (bif C.toBool (dk d8 0) then (k1 [C.bool false] []) else (J9 N (dk d8 3) (dk d8 1) (fun d9 m9 => (q3m N (dk d9 0) (fun d10 m10 => (q36 N (dk d8 4) (dk d10 0) (C.int 5) (fun d11 m11 => (bif !decide (C.toInt (dk d11 0) = 0) then (F0 N (fun d12 m12 => (k1 [C.bool (C.toBool (dk d12 0))] []))) else (bif decide (C.toInt (C.get (dk d8 1) 1) < C.toInt (C.get (dk d8 2) 1)) then (F0 N (fun d12 m12 => (k1 [C.bool (C.toBool (dk d12 0))] []))) else (J9 N (dk d8 3) (dk d8 2) (fun d12 m12 => (q3m N (dk d12 0) (fun d13 m13 => (q0G N (dk d11 1) (dk d13 0) (C.int 6) (fun d14 m14 => (jn (fun d15 m15 => (k1 [C.bool (C.toBool (dk d15 0))] [])) (fun k2 => (F0 N (fun d15 m15 => (bif C.toBool (dk d15 0) then (bif !decide (C.toInt (dk d14 0) = 0) then (bif decide (C.toInt (C.get (dk d14 1) 0) = 0) then (q0O N (C.get (dk d11 1) 8) (fun d16 m16 => (q0L N (dk d16 0) (dk d8 1) (fun d17 m17 => (k2 [C.bool (C.toBool (dk d17 0))] []))))) else (k2 [C.bool false] [])) else (k2 [C.bool false] [])) else (k2 [C.bool false] [])))))))))))))))))))))) (fun k2 => (bif !decide (C.toInt (dk d5 0) = 0) then (k2 [C.bool true, C.set (dk d1 3) 0 (C.int 7), C.set (dk d1 4) 0 (C.int 7), dk d2 0, dk d7 1] []) else (bif !decide (C.toInt (dk d6 0) = 0) then (k2 [C.bool true, C.set (dk d1 3) 0 (C.int 7), C.set (dk d1 4) 0 (C.int 7), dk d2 0, dk d7 1] []) else (k2 [C.bool !decide (C.toInt (dk d7 0) = 0), C.set (dk d1 3) 0 (C.int 7), C.set (dk d1 4) 0 (C.int 7), dk d2 0, dk d7 1] []))))))))))))))))))) (fun k2 => (bif decide (12 < (↑(List.length (C.elems (C.get a2 4))) : Int)) then (k2 [a0, a1, C.bool true, a2, a3] []) else (k2 [a0, a1, C.bool (decide (12 < (↑(List.length (C.elems (C.get a3 4))) : Int))), a2, a3] []))))
noncomputable def q2Z {R : Type} (N : Nat) : C → C → C → C → KD R → Option R := lid "" (q4n N)
theorem z1L {R : Type} (N : Nat) (a0 a1 a2 a3 : C) (k : KD R) : q2Z N a0 a1 a2 a3 k = q4n N a0 a1 a2 a3 k := by unfold q2Z; rw [w6]
theorem z9c {R : Type} (N : Nat) (a0 a1 a2 a3 : C) (K : V → List (Key × O) → Option R) : exF (X0 gl0) ((z1M N).ov R) s5 (fun f r => bif Nat.beq f 3 then (bif Nat.beq r 0 then [(4, 5), (5, 5)] else bif Nat.beq r 10 then [(66, 7), (67, 7), (68, 7), (9, 6)] else bif Nat.beq r 15 then [(84, 7), (85, 7), (86, 7), (9, 6), (14, 6)] else bif Nat.beq r 16 then [(89, 7), (102, 7), (104, 7), (14, 6), (16, 6)] else []) else []) (fun f => bif Nat.beq f 3 then y0m else []) N 400 8 3 [.d (.arr 32 (.int .u8)) a0, .d (.arr 32 (.int .u8)) a1, .d w4 a2, .d w4 a3] A0 K =
  q2Z N a0 a1 a2 a3 (fun d1 m1 => K (V.d Ty.bool (C.bool (C.toBool (dk d1 0)))) []) := by
 rw [z1L]
 exact (show _ = jn (fun d1 m1 => (K (V.d Ty.bool (C.bool (C.toBool (dk d1 0)))) [])) (q4n N a0 a1 a2 a3) by kernel_rfl).trans (y4 _ _)
noncomputable def q49 (N : Nat) {R : Type} : OvG R := fun xs _ K => match xs with
 | [.d t0 a0, .d t1 a1, .d t2 a2, .d t3 a3] => if t0 = (.arr 32 (.int .u8)) ∧ t1 = (.arr 32 (.int .u8)) ∧ t2 = w4 ∧ t3 = w4 then q2Z N a0 a1 a2 a3 (fun d1 m1 => K (V.d Ty.bool (C.bool (C.toBool (dk d1 0)))) []) else none
 | _ => none
theorem y0l (N : Nat) {R : Type} : GOk (X0 gl0) 3 (q49 N (R := R)) := by
 intro xs A Kr r hr
 unfold q49 at hr
 split at hr
 ·simp only [Option.ite_none_right_eq_some] at hr
  obtain ⟨hty, hr⟩ := hr
  obtain ⟨rfl, rfl, rfl, rfl⟩ := hty
  rw [← z9c] at hr
  exact okA (z1M N) hr
 ·cases hr
end Go.Proofs.YtgdonkaoajbclaaGreatDoor
