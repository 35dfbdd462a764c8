/-
 What the functions on the way compute, part 1.
 Conditions: none.
-/
import Derived.Test.YtgdonkaoajbclaaGreatDoorTf
import Derived.Laws.Externs
import Derived.Lib.Bytealg
set_option linter.all false
namespace Go.Proofs.YtgdonkaoajbclaaGreatDoor
open Go Go.E
set_option maxRecDepth 10000
set_option maxHeartbeats 4000000
set_option linter.unusedSimpArgs false
variable {gl : Nat → Option (Ty × C)}
def q1V (l : List UInt8) (m c : Int) : C := .agg [.str l, .int m, .int c]
def x0O : List C := [q1V [104, 97, 108, 116] 0 1, q1V [112, 117, 115, 104] 8 1, q1V [108, 111, 97, 100] 1 1, q1V [97, 100, 100] 0 1, q1V [115, 117, 98] 0 1, q1V [109, 117, 108] 0 3,
 q1V [108, 101, 115, 115] 0 1, q1V [115, 97, 109, 101] 0 1, q1V [110, 111, 116] 0 1, q1V [98, 111, 116, 104] 0 1, q1V [97, 110, 121] 0 1, q1V [106, 117, 109, 112] 2 1, q1V [105, 102] 2 1,
 q1V [116, 119, 105, 99, 101] 0 1, q1V [115, 119, 97, 112] 0 1, q1V [100, 114, 111, 112] 0 1, q1V [112, 97, 105, 100] 1 10, q1V [110, 111, 119] 0 1]
end Go.Proofs.YtgdonkaoajbclaaGreatDoor
namespace Go.Proofs.YtgdonkaoajbclaaGreatDoor
open Go Go.E
set_option maxRecDepth 10000
set_option linter.unusedSimpArgs false
variable {gl : Nat → Option (Ty × C)}
theorem y9C (A : Key → Option O) (cs : List C) : Q0 (X0 gl) 34 [.d (.slice 1 (.int .u8)) (.slice cs)] A (.ts 1 (.int .u8) cs) [] := by
 refine z1m (n := 8) (ok0 gl) Tryz.func34 rfl rfl (by simp) ?_
 intro A' hA
 refine q0r (q0P (ok0 gl) [] (by kernel_rfl) ?_)
 simp only [go_sem, ↓q1R, ↓q1S, ↓q1T, ↓q1U, ↓q1Q, ↓q0Z, ↓q00, ↓q02, ↓q01, reduceCtorEq, Nat.reduceEqDiff, ↓reduceIte, Nat.reduceAdd, Nat.reduceSub, Nat.reduceLT, Nat.reduceMul, Nat.reduceBEq, Int.reduceLE, Int.reduceLT, Int.reduceAdd, Int.reduceSub, Int.reduceToNat, Int.reduceNeg, Int.reduceMul, Nat.reduceLeDiff]
 refine q0r (q0r (q0P (ok0 gl) [] (by kernel_rfl) ?_))
 cases cs with
 | nil =>
  simp only [go_sem, ↓q1R, ↓q1S, ↓q1T, ↓q1U, ↓q1Q, ↓q0Z, ↓q00, ↓q02, ↓q01, reduceCtorEq, Nat.reduceEqDiff, ↓reduceIte, Nat.reduceAdd, Nat.reduceSub, Nat.reduceLT, Nat.reduceMul, Nat.reduceBEq, Int.reduceLE, Int.reduceLT, Int.reduceAdd, Int.reduceSub, Int.reduceToNat, Int.reduceNeg, Int.reduceMul, Nat.reduceLeDiff]
  refine z8T rfl ?_ (z0l ?_)
  ·refine q0r (q0P (ok0 gl) [] (by kernel_rfl) ?_)
   simp only [go_sem, ↓q1R, ↓q1S, ↓q1T, ↓q1U, ↓q1Q, ↓q0Z, ↓q00, ↓q02, ↓q01, reduceCtorEq, Nat.reduceEqDiff, ↓reduceIte, Nat.reduceAdd, Nat.reduceSub, Nat.reduceLT, Nat.reduceMul, Nat.reduceBEq, Int.reduceLE, Int.reduceLT, Int.reduceAdd, Int.reduceSub, Int.reduceToNat, Int.reduceNeg, Int.reduceMul, Nat.reduceLeDiff]
   refine z1n ⟨.inr rfl, ?_⟩
   simp only [q8h, go_sem, ↓q1R, ↓q1S, ↓q1T, ↓q1U, ↓q1Q, ↓q0Z, ↓q00, ↓q02, ↓q01, reduceCtorEq, Nat.reduceEqDiff, ↓reduceIte, Nat.reduceAdd, Nat.reduceSub, Nat.reduceLT, Nat.reduceMul, Nat.reduceBEq, Int.reduceLE, Int.reduceLT, Int.reduceAdd, Int.reduceSub, Int.reduceToNat, Int.reduceNeg, Int.reduceMul, Nat.reduceLeDiff, Tryz.f34]
  ·refine q0r (q0P (ok0 gl) [] (by kernel_rfl) ?_)
   simp only [go_sem, ↓q1R, ↓q1S, ↓q1T, ↓q1U, ↓q1Q, ↓q0Z, ↓q00, ↓q02, ↓q01, reduceCtorEq, Nat.reduceEqDiff, ↓reduceIte, Nat.reduceAdd, Nat.reduceSub, Nat.reduceLT, Nat.reduceMul, Nat.reduceBEq, Int.reduceLE, Int.reduceLT, Int.reduceAdd, Int.reduceSub, Int.reduceToNat, Int.reduceNeg, Int.reduceMul, Nat.reduceLeDiff]
   refine z1n ⟨.inr rfl, ?_⟩
   simp only [q8h, go_sem, ↓q1R, ↓q1S, ↓q1T, ↓q1U, ↓q1Q, ↓q0Z, ↓q00, ↓q02, ↓q01, reduceCtorEq, Nat.reduceEqDiff, ↓reduceIte, Nat.reduceAdd, Nat.reduceSub, Nat.reduceLT, Nat.reduceMul, Nat.reduceBEq, Int.reduceLE, Int.reduceLT, Int.reduceAdd, Int.reduceSub, Int.reduceToNat, Int.reduceNeg, Int.reduceMul, Nat.reduceLeDiff, Tryz.f34]
 | cons c cs =>
  simp only [go_sem, ↓q1R, ↓q1S, ↓q1T, ↓q1U, ↓q1Q, ↓q0Z, ↓q00, ↓q02, ↓q01, reduceCtorEq, Nat.reduceEqDiff, ↓reduceIte, Nat.reduceAdd, Nat.reduceSub, Nat.reduceLT, Nat.reduceMul, Nat.reduceBEq, Int.reduceLE, Int.reduceLT, Int.reduceAdd, Int.reduceSub, Int.reduceToNat, Int.reduceNeg, Int.reduceMul, Nat.reduceLeDiff]
  refine y8o _ rfl (fun h => by simp at h) (fun _ => z0l ?_)
  refine q0r (q0P (ok0 gl) [] (by kernel_rfl) ?_)
  simp only [go_sem, ↓q1R, ↓q1S, ↓q1T, ↓q1U, ↓q1Q, ↓q0Z, ↓q00, ↓q02, ↓q01, reduceCtorEq, Nat.reduceEqDiff, ↓reduceIte, Nat.reduceAdd, Nat.reduceSub, Nat.reduceLT, Nat.reduceMul, Nat.reduceBEq, Int.reduceLE, Int.reduceLT, Int.reduceAdd, Int.reduceSub, Int.reduceToNat, Int.reduceNeg, Int.reduceMul, Nat.reduceLeDiff]
  refine z1n ⟨.inr rfl, ?_⟩
  simp only [q8h, go_sem, ↓q1R, ↓q1S, ↓q1T, ↓q1U, ↓q1Q, ↓q0Z, ↓q00, ↓q02, ↓q01, reduceCtorEq, Nat.reduceEqDiff, ↓reduceIte, Nat.reduceAdd, Nat.reduceSub, Nat.reduceLT, Nat.reduceMul, Nat.reduceBEq, Int.reduceLE, Int.reduceLT, Int.reduceAdd, Int.reduceSub, Int.reduceToNat, Int.reduceNeg, Int.reduceMul, Nat.reduceLeDiff, Tryz.f34]
theorem y9B (A : Key → Option O) (cs : List C) : Q0 (X0 gl) 89 [.d (.slice 64 k9) (.slice cs)] A (.ts 64 k9 cs) [] := by
 refine z1m (n := 8) (ok0 gl) Tryz.func89 rfl rfl (by simp) ?_
 intro A' hA
 refine q0r (q0P (ok0 gl) [] (by kernel_rfl) ?_)
 simp only [go_sem, ↓q1R, ↓q1S, ↓q1T, ↓q1U, ↓q1Q, ↓q0Z, ↓q00, ↓q02, ↓q01, reduceCtorEq, Nat.reduceEqDiff, ↓reduceIte, Nat.reduceAdd, Nat.reduceSub, Nat.reduceLT, Nat.reduceMul, Nat.reduceBEq, Int.reduceLE, Int.reduceLT, Int.reduceAdd, Int.reduceSub, Int.reduceToNat, Int.reduceNeg, Int.reduceMul, Nat.reduceLeDiff]
 refine q0r (q0r (q0P (ok0 gl) [] (by kernel_rfl) ?_))
 cases cs with
 | nil =>
  simp only [go_sem, ↓q1R, ↓q1S, ↓q1T, ↓q1U, ↓q1Q, ↓q0Z, ↓q00, ↓q02, ↓q01, reduceCtorEq, Nat.reduceEqDiff, ↓reduceIte, Nat.reduceAdd, Nat.reduceSub, Nat.reduceLT, Nat.reduceMul, Nat.reduceBEq, Int.reduceLE, Int.reduceLT, Int.reduceAdd, Int.reduceSub, Int.reduceToNat, Int.reduceNeg, Int.reduceMul, Nat.reduceLeDiff]
  refine z8T rfl ?_ (z0l ?_)
  ·refine q0r (q0P (ok0 gl) [] (by kernel_rfl) ?_)
   simp only [go_sem, ↓q1R, ↓q1S, ↓q1T, ↓q1U, ↓q1Q, ↓q0Z, ↓q00, ↓q02, ↓q01, reduceCtorEq, Nat.reduceEqDiff, ↓reduceIte, Nat.reduceAdd, Nat.reduceSub, Nat.reduceLT, Nat.reduceMul, Nat.reduceBEq, Int.reduceLE, Int.reduceLT, Int.reduceAdd, Int.reduceSub, Int.reduceToNat, Int.reduceNeg, Int.reduceMul, Nat.reduceLeDiff]
   refine z1n ⟨.inr rfl, ?_⟩
   simp only [q8h, go_sem, ↓q1R, ↓q1S, ↓q1T, ↓q1U, ↓q1Q, ↓q0Z, ↓q00, ↓q02, ↓q01, reduceCtorEq, Nat.reduceEqDiff, ↓reduceIte, Nat.reduceAdd, Nat.reduceSub, Nat.reduceLT, Nat.reduceMul, Nat.reduceBEq, Int.reduceLE, Int.reduceLT, Int.reduceAdd, Int.reduceSub, Int.reduceToNat, Int.reduceNeg, Int.reduceMul, Nat.reduceLeDiff, Tryz.f89]
  ·refine q0r (q0P (ok0 gl) [] (by kernel_rfl) ?_)
   simp only [go_sem, ↓q1R, ↓q1S, ↓q1T, ↓q1U, ↓q1Q, ↓q0Z, ↓q00, ↓q02, ↓q01, reduceCtorEq, Nat.reduceEqDiff, ↓reduceIte, Nat.reduceAdd, Nat.reduceSub, Nat.reduceLT, Nat.reduceMul, Nat.reduceBEq, Int.reduceLE, Int.reduceLT, Int.reduceAdd, Int.reduceSub, Int.reduceToNat, Int.reduceNeg, Int.reduceMul, Nat.reduceLeDiff]
   refine z1n ⟨.inr rfl, ?_⟩
   simp only [q8h, go_sem, ↓q1R, ↓q1S, ↓q1T, ↓q1U, ↓q1Q, ↓q0Z, ↓q00, ↓q02, ↓q01, reduceCtorEq, Nat.reduceEqDiff, ↓reduceIte, Nat.reduceAdd, Nat.reduceSub, Nat.reduceLT, Nat.reduceMul, Nat.reduceBEq, Int.reduceLE, Int.reduceLT, Int.reduceAdd, Int.reduceSub, Int.reduceToNat, Int.reduceNeg, Int.reduceMul, Nat.reduceLeDiff, Tryz.f89]
 | cons c cs =>
  simp only [go_sem, ↓q1R, ↓q1S, ↓q1T, ↓q1U, ↓q1Q, ↓q0Z, ↓q00, ↓q02, ↓q01, reduceCtorEq, Nat.reduceEqDiff, ↓reduceIte, Nat.reduceAdd, Nat.reduceSub, Nat.reduceLT, Nat.reduceMul, Nat.reduceBEq, Int.reduceLE, Int.reduceLT, Int.reduceAdd, Int.reduceSub, Int.reduceToNat, Int.reduceNeg, Int.reduceMul, Nat.reduceLeDiff]
  refine y8o _ rfl (fun h => by simp at h) (fun _ => z0l ?_)
  refine q0r (q0P (ok0 gl) [] (by kernel_rfl) ?_)
  simp only [go_sem, ↓q1R, ↓q1S, ↓q1T, ↓q1U, ↓q1Q, ↓q0Z, ↓q00, ↓q02, ↓q01, reduceCtorEq, Nat.reduceEqDiff, ↓reduceIte, Nat.reduceAdd, Nat.reduceSub, Nat.reduceLT, Nat.reduceMul, Nat.reduceBEq, Int.reduceLE, Int.reduceLT, Int.reduceAdd, Int.reduceSub, Int.reduceToNat, Int.reduceNeg, Int.reduceMul, Nat.reduceLeDiff]
  refine z1n ⟨.inr rfl, ?_⟩
  simp only [q8h, go_sem, ↓q1R, ↓q1S, ↓q1T, ↓q1U, ↓q1Q, ↓q0Z, ↓q00, ↓q02, ↓q01, reduceCtorEq, Nat.reduceEqDiff, ↓reduceIte, Nat.reduceAdd, Nat.reduceSub, Nat.reduceLT, Nat.reduceMul, Nat.reduceBEq, Int.reduceLE, Int.reduceLT, Int.reduceAdd, Int.reduceSub, Int.reduceToNat, Int.reduceNeg, Int.reduceMul, Nat.reduceLeDiff, Tryz.f89]
end Go.Proofs.YtgdonkaoajbclaaGreatDoor
namespace Go.Proofs.YtgdonkaoajbclaaGreatDoor
open Go Go.E
set_option maxRecDepth 10000
set_option linter.unusedSimpArgs false
variable {gl : Nat → Option (Ty × C)}
theorem y9F (a b : C) : z7L (X0 gl) 64 [.d (.int .u64) a, .d (.int .u64) b, .d (.int .u64) (.int 0)] (.tup [.d (.int .u64) (.int ((a.toInt + b.toInt) % 18446744073709551616)), .d (.int .u64) (.int ((a.toInt + b.toInt) / 18446744073709551616))]) := by
 intro Γ w args hl hr
 have hs : args.size = 3 := hl.symm
 obtain ⟨e1, _, l1, m1⟩ := Z3 (hr 0 _ _ rfl (Array.getElem?_eq_getElem (by omega)))
 obtain ⟨e2, _, l2, m2⟩ := Z3 (hr 1 _ _ rfl (Array.getElem?_eq_getElem (by omega)))
 obtain ⟨e3, _, _, _⟩ := Z3 (hr 2 _ _ rfl (Array.getElem?_eq_getElem (by omega)))
 have ea : args = #[.int .u64 a.toInt, .int .u64 b.toInt, .int .u64 0] := by
  apply Array.ext
  ·simpa using hs
  ·intro i h1 h2
   match i with
   | 0 => simpa using e1
   | 1 => simpa using e2
   | 2 => simpa [C.toInt] using e3
   | i + 3 => omega
 have z : IntKind.u64.min = 0 := by decide
 have z' : IntKind.u64.max = 18446744073709551615 := by decide
 refine ⟨.tuple #[.int .u64 ((a.toInt + b.toInt) % 18446744073709551616), .int .u64 ((a.toInt + b.toInt) / 18446744073709551616)], ?_, #[_, _], rfl, ?_⟩
 ·have hrun := run_callFunc_extern (P := (X0 gl).P) (f := 64) (fn := Tryz.f64) (e := add64Entry) Tryz.func64 (by decide) rfl (by kernel_rfl) (by kernel_rfl) args w
  rw [hrun, ea, run_add64 _ _ _ (by omega) (by omega) (by omega) (by omega)]
  simp
 ·refine q6I rfl fun i x u hx hu => ?_
  match i with
  | 0 => simp at hx hu; subst hx; subst hu; exact ⟨rfl, k7 (by omega) (by omega)⟩
  | 1 => simp at hx hu; subst hx; subst hu; exact ⟨rfl, k7 (by omega) (by omega)⟩
  | i + 2 => simp at hx
end Go.Proofs.YtgdonkaoajbclaaGreatDoor
namespace Go.Proofs.YtgdonkaoajbclaaGreatDoor
open Go Go.E
set_option maxRecDepth 100000
def gl0 : Nat → Option (Ty × C) := fun g => bif Nat.beq g 0 then some (.arr 18 q1d, .agg x0O) else none
theorem x3N (gl : Nat → Option (Ty × C)) (h : gl 0 = some (.arr 18 q1d, .agg x0O)) : ∀ g x, gl0 g = some x → gl g = some x := by
 intro g x hx
 unfold gl0 at hx
 cases hb : Nat.beq g 0 with
 | true =>
  rw [hb, cond_true] at hx
  cases hx
  rw [Nat.eq_of_beq_eq_true hb]; exact h
 | false => rw [hb] at hx; cases hx
def y6P : List V → Option V := fun xs => match xs with
 | [.d (.int .u64) a, .d (.int .u64) b, .d (.int .u64) (.int c)] => if c = 0 then some (.tup [.d (.int .u64) (.int ((a.toInt + b.toInt) % 18446744073709551616)), .d (.int .u64) (.int ((a.toInt + b.toInt) / 18446744073709551616))]) else none
 | _ => none
def x2f : List (Nat × (List V → Option V)) := []
 ++ [(64, y6P)]
def s5 : q3B := z7w x2f
theorem x3U (gl : Nat → Option (Ty × C)) : q9m (X0 gl) x2f := by
 unfold x2f
 repeat' refine q9m.append ?_ ⟨?_, trivial⟩
 ·exact trivial
 ·intro xs v h
  have h : y6P xs = some v := h
  show z7L (X0 gl) 64 xs v
  unfold y6P at h
  split at h
  ·simp only [Option.ite_none_right_eq_some, Option.some.injEq] at h
   obtain ⟨rfl, rfl⟩ := h
   exact y9F _ _
  ·cases h
theorem y8e (gl : Nat → Option (Ty × C)) : q7z (X0 gl) s5 := y0K (x3U gl)
def noX : FuncId → Nat → List (Nat × Nat) := fun _ _ => []
noncomputable def z11 (_ : Nat) {R : Type} : OvG R := y05 1 (.int .u8)
theorem z4a (N : Nat) {R : Type} : GOk (X0 gl0) 34 (z11 N (R := R)) := y25 fun A cs => y9C A cs
noncomputable def z6W (_ : Nat) {R : Type} : OvG R := y05 64 k9
theorem y06 (N : Nat) {R : Type} : GOk (X0 gl0) 89 (z6W N (R := R)) := y25 fun A cs => y9B A cs
end Go.Proofs.YtgdonkaoajbclaaGreatDoor
namespace Go.Proofs.YtgdonkaoajbclaaGreatDoor
open Go Go.E
set_option maxRecDepth 10000
set_option linter.unusedSimpArgs false
variable {gl : Nat → Option (Ty × C)}
end Go.Proofs.YtgdonkaoajbclaaGreatDoor
namespace Go.Proofs.YtgdonkaoajbclaaGreatDoor
open Go Go.E
set_option maxRecDepth 100000
end Go.Proofs.YtgdonkaoajbclaaGreatDoor
namespace Go.Proofs.YtgdonkaoajbclaaGreatDoor
open Go Go.E
set_option maxRecDepth 10000
set_option maxHeartbeats 4000000
set_option linter.unusedSimpArgs false
variable {gl : Nat → Option (Ty × C)}
end Go.Proofs.YtgdonkaoajbclaaGreatDoor
namespace Go.Proofs.YtgdonkaoajbclaaGreatDoor
open Go Go.E
set_option maxRecDepth 100000
set_option maxHeartbeats 4000000
set_option linter.unusedVariables false
noncomputable def y7d : Hints := [([9], ⟨[], [(0, .as (.ptr (.l 1) [] Q2))], [], [(.l 1, .box (.d Q2))], [], []⟩)]
noncomputable def z8n (N : Nat) : OvS (X0 gl0) where
 g R := []
 ok := fun R => fun _ h => nomatch h
noncomputable def q8p {R : Type} (N : Nat) (k1 : KD R) : Option R := (k1 [C.set (C.agg [C.agg (List.replicate 8 (C.int 0)), C.agg (List.replicate 64 (C.int 0)), C.int 0]) 0 (C.set (C.set (C.set (C.set (C.set (C.set (C.set (C.set (z0 (Ty.arr 8 (Ty.int IntKind.u32))) 0 (C.int 1779033703)) 1 (C.int 3144134277)) 2 (C.int 1013904242)) 3 (C.int 2773480762)) 4 (C.int 1359893119)) 5 (C.int 2600822924)) 6 (C.int 528734635)) 7 (C.int 1541459225))] [])
noncomputable def q5b {R : Type} (N : Nat) : KD R → Option R := lid "" (q8p N)
theorem z8m {R : Type} (N : Nat)  (k : KD R) : q5b N  k = q8p N  k := by unfold q5b; rw [w6]
theorem y5G {R : Type} (N : Nat)  (K : V → List (Key × O) → Option R) : exF (X0 gl0) ((z8n N).ov R) s5 noX (fun f => bif Nat.beq f 130 then y7d else []) N 400 8 130 [] A0 K =
  q5b N  (fun d1 m1 => K (V.ptr (Key.l 1) [] Q2) [(Key.l 1, O.box (V.d Q2 (dk d1 0)))]) := by
 rw [z8m]
 exact (show _ = jn (fun d1 m1 => (K (V.ptr (Key.l 1) [] Q2) [(Key.l 1, O.box (V.d Q2 (dk d1 0)))])) (q8p N ) by kernel_rfl).trans (y4 _ _)
noncomputable def z3F (N : Nat) {R : Type} : OvG R := fun xs _ K => match xs with
 | [] => q5b N  (fun d1 m1 => K (V.ptr (Key.l 1) [] Q2) [(Key.l 1, O.box (V.d Q2 (dk d1 0)))])
 | _ => none
theorem okB {R : Type} (o : OvS (X0 gl0)) {tb hs N n d f xs} {A : Key → Option O} {K : V → List (Key × O) → Option R} {r} (h : exF (X0 gl0) (o.ov R) s5 tb hs N n d f xs A K = some r) : ∃ v L, Q0 (X0 gl0) f xs A v L ∧ K v L = some r := y6g (ok0 gl0) (mo gl0) (o.x2T _) (y8e gl0) _ _ _ _ _ _ h
theorem okA {R : Type} (o : OvS (X0 gl0)) {tb hs N n d f xs} {A : Key → Option O} {K : V → List (Key × O) → Option R} {r} (h : exF (X0 gl0) (o.ov R) s5 tb hs N n d f xs A0 K = some r) : ∃ v L, Q0 (X0 gl0) f xs A v L ∧ K v L = some r := let ⟨v, L, h1, h2⟩ := okB o h
 ⟨v, L, h1.mono (y5R fun _ => rfl), h2⟩
theorem y7c (N : Nat) {R : Type} : GOk (X0 gl0) 130 (z3F N (R := R)) := by
 intro xs A Kr r hr
 unfold z3F at hr
 split at hr
 ·skip
  rw [← y5G] at hr
  exact okA (z8n N) hr
 ·cases hr
noncomputable def y5E : Hints := [([1, 0, 1, 1], ⟨[], [(3, .d (.int .u32))], [], [], [], []⟩),
  ([4, 1, 0, 1, 1], ⟨[7, 8], [(3, .d (.int .u32)), (9, .d (.int .i64))], [], [], [], []⟩),
  ([9], ⟨[], [(2, .d (.int .u32))], [], [], [], []⟩)]
noncomputable def z6n (N : Nat) : OvS (X0 gl0) where
 g R := []
 ok := fun R => fun _ h => nomatch h
noncomputable def q7g {R : Type} (N : Nat) (k2 : KD R) : KD R → List C → List Es → Option R := (fun k3 d1 m1 => (bif decide (C.toInt (dk d1 3) < C.toInt (dk d1 1)) then (if 0 ≤ C.toInt (dk d1 3) ∧ C.toInt (dk d1 3) < (↑(List.length (C.elems (dk d1 0))) : Int) then (k3 [dk d1 0, dk d1 1, C.int (u1 BinOp.or IntKind.u32 (IntKind.wrap IntKind.u32 (C.toInt (dk d1 2) * 2 ^ min (Int.toNat 8) 32)) (IntKind.wrap IntKind.u32 (C.toInt (List.getD (C.elems (dk d1 0)) (Int.toNat (C.toInt (dk d1 3))) C.nil)))), C.int (IntKind.wrap IntKind.i64 (C.toInt (dk d1 3) + 1))] []) else none) else (k2 [dk d1 2] [])))
noncomputable def q7f {R : Type} (N : Nat) (a0 : C) (k1 : KD R) : Option R := (if Int.ofNat 0 ≤ 0 ∧ Int.ofNat 0 ≤ 4 ∧ 4 ≤ (↑(List.length (C.elems a0)) : Int) then (jn (fun d1 m1 => (k1 [dk d1 0] [])) (fun k2 => (u3 N (q7g N k2) [C.slice (cut (C.elems a0) 0 4), C.int (↑(List.length (cut (C.elems a0) 0 4)) : Int), C.int 0, C.int 0] []))) else none)
noncomputable def q38 {R : Type} (N : Nat) : C → KD R → Option R := lid "" (q7f N)
theorem z6m {R : Type} (N : Nat) (a0 : C) (k : KD R) : q38 N a0 k = q7f N a0 k := by unfold q38; rw [w6]
theorem y3T {R : Type} (N : Nat) (a0 : C) (K : V → List (Key × O) → Option R) : exF (X0 gl0) ((z6n N).ov R) s5 noX (fun f => bif Nat.beq f 156 then y5E else []) N 400 8 156 [.d (.slice 1 (.int .u8)) a0] A0 K =
  q38 N a0 (fun d1 m1 => K (V.d (Ty.int IntKind.u32) (dk d1 0)) []) := by
 rw [z6m]
 exact (show _ = jn (fun d1 m1 => (K (V.d (Ty.int IntKind.u32) (dk d1 0)) [])) (q7f N a0) by kernel_rfl).trans (y4 _ _)
noncomputable def z2m (N : Nat) {R : Type} : OvG R := fun xs _ K => match xs with
 | [.d t0 a0] => if t0 = (.slice 1 (.int .u8)) then q38 N a0 (fun d1 m1 => K (V.d (Ty.int IntKind.u32) (dk d1 0)) []) else none
 | _ => none
theorem y5D (N : Nat) {R : Type} : GOk (X0 gl0) 156 (z2m N (R := R)) := by
 intro xs A Kr r hr
 unfold z2m at hr
 split at hr
 ·simp only [Option.ite_none_right_eq_some] at hr
  obtain ⟨hty, hr⟩ := hr
  subst hty
  rw [← y3T] at hr
  exact okA (z6n N) hr
 ·cases hr
noncomputable def y3X : Hints := [([9], ⟨[], [(0, .as (.ptr (.l 0) [] (.arr 64 (.int .u32))))], [], [(.l 0, .box (.d (.arr 64 (.int .u32))))], [], []⟩)]
noncomputable def z4M (N : Nat) : OvS (X0 gl0) where
 g R := []
 ok := fun R => fun _ h => nomatch h
noncomputable def q53 {R : Type} (N : Nat) (k1 : KD R) : Option R := (k1 [C.set (C.set (C.set (C.set (C.set (C.set (C.set (C.set (C.set (C.set (C.set (C.set (C.set (C.set (C.set (C.set (C.set (C.set (C.set (C.set (C.set (C.set (C.set (C.set (C.set (C.set (C.set (C.set (C.set (C.set (C.set (C.set (C.set (C.set (C.set (C.set (C.set (C.set (C.set (C.set (C.set (C.set (C.set (C.set (C.set (C.set (C.set (C.set (C.set (C.set (C.set (C.set (C.set (C.set (C.set (C.set (C.set (C.set (C.set (C.set (C.set (C.set (C.set (C.set (z0 (Ty.arr 64 (Ty.int IntKind.u32))) 0 (C.int 1116352408)) 1 (C.int 1899447441)) 2 (C.int 3049323471)) 3 (C.int 3921009573)) 4 (C.int 961987163)) 5 (C.int 1508970993)) 6 (C.int 2453635748)) 7 (C.int 2870763221)) 8 (C.int 3624381080)) 9 (C.int 310598401)) 10 (C.int 607225278)) 11 (C.int 1426881987)) 12 (C.int 1925078388)) 13 (C.int 2162078206)) 14 (C.int 2614888103)) 15 (C.int 3248222580)) 16 (C.int 3835390401)) 17 (C.int 4022224774)) 18 (C.int 264347078)) 19 (C.int 604807628)) 20 (C.int 770255983)) 21 (C.int 1249150122)) 22 (C.int 1555081692)) 23 (C.int 1996064986)) 24 (C.int 2554220882)) 25 (C.int 2821834349)) 26 (C.int 2952996808)) 27 (C.int 3210313671)) 28 (C.int 3336571891)) 29 (C.int 3584528711)) 30 (C.int 113926993)) 31 (C.int 338241895)) 32 (C.int 666307205)) 33 (C.int 773529912)) 34 (C.int 1294757372)) 35 (C.int 1396182291)) 36 (C.int 1695183700)) 37 (C.int 1986661051)) 38 (C.int 2177026350)) 39 (C.int 2456956037)) 40 (C.int 2730485921)) 41 (C.int 2820302411)) 42 (C.int 3259730800)) 43 (C.int 3345764771)) 44 (C.int 3516065817)) 45 (C.int 3600352804)) 46 (C.int 4094571909)) 47 (C.int 275423344)) 48 (C.int 430227734)) 49 (C.int 506948616)) 50 (C.int 659060556)) 51 (C.int 883997877)) 52 (C.int 958139571)) 53 (C.int 1322822218)) 54 (C.int 1537002063)) 55 (C.int 1747873779)) 56 (C.int 1955562222)) 57 (C.int 2024104815)) 58 (C.int 2227730452)) 59 (C.int 2361852424)) 60 (C.int 2428436474)) 61 (C.int 2756734187)) 62 (C.int 3204031479)) 63 (C.int 3329325298)] [])
noncomputable def q20 {R : Type} (N : Nat) : KD R → Option R := lid "" (q53 N)
theorem z4L {R : Type} (N : Nat)  (k : KD R) : q20 N  k = q53 N  k := by unfold q20; rw [w6]
theorem y1P {R : Type} (N : Nat)  (K : V → List (Key × O) → Option R) : exF (X0 gl0) ((z4M N).ov R) s5 noX (fun f => bif Nat.beq f 157 then y3X else []) N 400 8 157 [] A0 K =
  q20 N  (fun d1 m1 => K (V.d (Ty.arr 64 (Ty.int IntKind.u32)) (dk d1 0)) []) := by
 rw [z4L]
 exact (show _ = jn (fun d1 m1 => (K (V.d (Ty.arr 64 (Ty.int IntKind.u32)) (dk d1 0)) [])) (q53 N ) by kernel_rfl).trans (y4 _ _)
noncomputable def z0V (N : Nat) {R : Type} : OvG R := fun xs _ K => match xs with
 | [] => q20 N  (fun d1 m1 => K (V.d (Ty.arr 64 (Ty.int IntKind.u32)) (dk d1 0)) [])
 | _ => none
theorem y3W (N : Nat) {R : Type} : GOk (X0 gl0) 157 (z0V N (R := R)) := by
 intro xs A Kr r hr
 unfold z0V at hr
 split at hr
 ·skip
  rw [← y1P] at hr
  exact okA (z4M N) hr
 ·cases hr
noncomputable def q92 : Hints := [([9], ⟨[], [(4, .d (.int .u32))], [], [], [], []⟩)]
noncomputable def q4q (N : Nat) : OvS (X0 gl0) where
 g R := []
 ok := fun R => fun _ h => nomatch h
noncomputable def q0f {R : Type} (N : Nat) (a0 a1 : C) (k1 : KD R) : Option R := (if 0 ≤ IntKind.wrap IntKind.u64 (32 - u1 BinOp.and IntKind.u64 (IntKind.wrap IntKind.u64 (C.toInt a1)) 31) then (k1 [C.int (u1 BinOp.or IntKind.u32 (IntKind.wrap IntKind.u32 (C.toInt a0 * 2 ^ min (Int.toNat (u1 BinOp.and IntKind.u64 (IntKind.wrap IntKind.u64 (C.toInt a1)) 31)) 32)) (Int.fdiv (C.toInt a0) (2 ^ min (Int.toNat (IntKind.wrap IntKind.u64 (32 - u1 BinOp.and IntKind.u64 (IntKind.wrap IntKind.u64 (C.toInt a1)) 31))) 32)))] []) else none)
noncomputable def Z0 {R : Type} (N : Nat) : C → C → KD R → Option R := lid "" (q0f N)
theorem q4p {R : Type} (N : Nat) (a0 a1 : C) (k : KD R) : Z0 N a0 a1 k = q0f N a0 a1 k := by unfold Z0; rw [w6]
theorem q9u {R : Type} (N : Nat) (a0 a1 : C) (K : V → List (Key × O) → Option R) : exF (X0 gl0) ((q4q N).ov R) s5 noX (fun f => bif Nat.beq f 159 then q92 else []) N 400 8 159 [.d (.int .u32) a0, .d (.int .i64) a1] A0 K =
  Z0 N a0 a1 (fun d1 m1 => K (V.d (Ty.int IntKind.u32) (dk d1 0)) []) := by
 rw [q4p]
 exact (show _ = jn (fun d1 m1 => (K (V.d (Ty.int IntKind.u32) (dk d1 0)) [])) (q0f N a0 a1) by kernel_rfl).trans (y4 _ _)
noncomputable def q1F (N : Nat) {R : Type} : OvG R := fun xs _ K => match xs with
 | [.d t0 a0, .d t1 a1] => if t0 = (.int .u32) ∧ t1 = (.int .i64) then Z0 N a0 a1 (fun d1 m1 => K (V.d (Ty.int IntKind.u32) (dk d1 0)) []) else none
 | _ => none
theorem q91 (N : Nat) {R : Type} : GOk (X0 gl0) 159 (q1F N (R := R)) := by
 intro xs A Kr r hr
 unfold q1F at hr
 split at hr
 ·simp only [Option.ite_none_right_eq_some] at hr
  obtain ⟨hty, hr⟩ := hr
  obtain ⟨rfl, rfl⟩ := hty
  rw [← q9u] at hr
  exact okA (q4q N) hr
 ·cases hr
noncomputable def y3V : Hints := [([1, 0, 1, 1], ⟨[0, 1, 2], [(11, .d (.int .u32))], [], [], [], []⟩),
  ([9], ⟨[], [(10, .d (.int .u32))], [], [], [], []⟩)]
noncomputable def z4K (N : Nat) : OvS (X0 gl0) where
 g R := [(159, q1F N)]
 ok := fun R => List.forall_mem_cons.2 ⟨q91 N, fun _ h => nomatch h⟩
noncomputable def q3M {R : Type} (N : Nat) (a0 a1 a2 a3 a4 : C) (k1 : KD R) : Option R := (Z0 N a0 (C.int (IntKind.wrap IntKind.i64 (0 - C.toInt a3))) (fun d1 m1 => (jn (fun d2 m2 => (Z0 N (dk d2 0) (C.int (IntKind.wrap IntKind.i64 (0 - C.toInt (dk d2 1)))) (fun d3 m3 => (Z0 N (dk d2 0) (C.int (IntKind.wrap IntKind.i64 (0 - C.toInt (dk d2 2)))) (fun d4 m4 => (k1 [C.int (u1 BinOp.xor IntKind.u32 (u1 BinOp.xor IntKind.u32 (C.toInt (dk d3 0)) (C.toInt (dk d4 0))) (C.toInt (dk d2 3)))] [])))))) (fun k2 => (bif C.toBool a4 then (if 0 ≤ C.toInt a3 then (k2 [a0, a1, a2, C.int (Int.fdiv (C.toInt a0) (2 ^ min (Int.toNat (C.toInt a3)) 32))] []) else none) else (k2 [a0, a1, a2, dk d1 0] []))))))
noncomputable def q0l {R : Type} (N : Nat) : C → C → C → C → C → KD R → Option R := lid "" (q3M N)
theorem q9t {R : Type} (N : Nat) (a0 a1 a2 a3 a4 : C) (k : KD R) : q0l N a0 a1 a2 a3 a4 k = q3M N a0 a1 a2 a3 a4 k := by unfold q0l; rw [w6]
theorem y1O {R : Type} (N : Nat) (a0 a1 a2 a3 a4 : C) (K : V → List (Key × O) → Option R) : exF (X0 gl0) ((z4K N).ov R) s5 noX (fun f => bif Nat.beq f 158 then y3V else []) N 400 8 158 [.d (.int .u32) a0, .d (.int .i64) a1, .d (.int .i64) a2, .d (.int .i64) a3, .d .bool a4] A0 K =
  q0l N a0 a1 a2 a3 a4 (fun d1 m1 => K (V.d (Ty.int IntKind.u32) (dk d1 0)) []) := by
 rw [q9t]
 exact (show _ = jn (fun d1 m1 => (K (V.d (Ty.int IntKind.u32) (dk d1 0)) [])) (q3M N a0 a1 a2 a3 a4) by kernel_rfl).trans (y4 _ _)
noncomputable def z0U (N : Nat) {R : Type} : OvG R := fun xs _ K => match xs with
 | [.d t0 a0, .d t1 a1, .d t2 a2, .d t3 a3, .d t4 a4] => if t0 = (.int .u32) ∧ t1 = (.int .i64) ∧ t2 = (.int .i64) ∧ t3 = (.int .i64) ∧ t4 = .bool then q0l N a0 a1 a2 a3 a4 (fun d1 m1 => K (V.d (Ty.int IntKind.u32) (dk d1 0)) []) else none
 | _ => none
theorem y3U (N : Nat) {R : Type} : GOk (X0 gl0) 158 (z0U N (R := R)) := by
 intro xs A Kr r hr
 unfold z0U at hr
 split at hr
 ·simp only [Option.ite_none_right_eq_some] at hr
  obtain ⟨hty, hr⟩ := hr
  obtain ⟨rfl, rfl, rfl, rfl, rfl⟩ := hty
  rw [← y1O] at hr
  exact okA (z4K N) hr
 ·cases hr
def q4L : List Sh := [.as (.ptr (.g (.l 1)) [] Q2)]
def q86 : List (Key × OSh) := [(.l 1, .box (.d Q2))]
noncomputable def z6s : Hints := [([1, 0, 1], ⟨[0, 2], [], [.g (.l 1)], [], [], []⟩),
  ([4, 1, 0, 1], ⟨[0, 2], [(12, .d (.int .i64))], [.g (.l 1)], [], [], []⟩),
  ([1, 0, 1, 1, 1], ⟨[0, 4], [], [.g (.l 1)], [], [], []⟩),
  ([4, 1, 0, 1, 1, 1], ⟨[0, 2, 4, 29], [(30, .d (.int .i64))], [.g (.l 1)], [], [], []⟩),
  ([1, 0, 1, 1, 4, 0, 1, 1, 5, 4, 1, 0, 1, 1, 1], ⟨[0, 2, 4, 6, 7, 29, 30], [], [.g (.l 1)], [], [], []⟩),
  ([1, 1, 1, 1, 1], ⟨[0], [], [.g (.l 1)], [], [], []⟩),
  ([4, 1, 1, 1, 1, 1], ⟨[0, 4], [(126, .d (.int .i64))], [.g (.l 1)], [], [], []⟩),
  ([9], ⟨[], [], [.g (.l 1)], [], [], []⟩)]
noncomputable def q85 (N : Nat) : OvS (X0 gl0) where
 g R := [(156, z2m N), (157, z0V N), (158, z0U N)]
 ok := fun R => List.forall_mem_cons.2 ⟨y5D N, List.forall_mem_cons.2 ⟨y3W N, List.forall_mem_cons.2 ⟨y3U N, fun _ h => nomatch h⟩⟩⟩
noncomputable def q2l {R : Type} (N : Nat) (k2 : KD R) : KD R → List C → List Es → Option R := (fun k3 d4 m4 => (bif decide (C.toInt (dk d4 0) < 8) then (if 0 ≤ C.toInt (dk d4 0) ∧ C.toInt (dk d4 0) < 8 then (if 0 ≤ C.toInt (dk d4 0) ∧ C.toInt (dk d4 0) < 8 then (if 0 ≤ C.toInt (dk d4 0) ∧ C.toInt (dk d4 0) < 8 then (k3 [C.int (IntKind.wrap IntKind.i64 (C.toInt (dk d4 0) + 1)), C.set (dk d4 1) 0 (C.set (C.get (dk d4 1) 0) (Int.toNat (C.toInt (dk d4 0))) (C.int (IntKind.wrap IntKind.u32 (C.toInt (C.get (C.get (dk d4 1) 0) (Int.toNat (C.toInt (dk d4 0)))) + C.toInt (C.get (dk d4 2) (Int.toNat (C.toInt (dk d4 0)))))))), dk d4 2] []) else none) else none) else none) else (k2 [dk d4 1] [])))
noncomputable def q0N {R : Type} (N : Nat) (k2 : KD R) : KD R → List C → List Es → Option R := (fun k3 d3 m3 => (bif decide (C.toInt (dk d3 1) < 64) then (if 0 ≤ C.toInt (dk d3 1) ∧ C.toInt (dk d3 1) < 64 then (jn (fun d4 m4 => (q0l N (C.get (dk d4 6) (Int.toNat 4)) (C.int 6) (C.int 11) (C.int 25) (C.bool false) (fun d5 m5 => (if 0 ≤ C.toInt (dk d4 1) ∧ C.toInt (dk d4 1) < 16 then (q0l N (C.get (dk d4 6) (Int.toNat 0)) (C.int 2) (C.int 13) (C.int 22) (C.bool false) (fun d6 m6 => (k3 [dk d4 2, C.int (IntKind.wrap IntKind.i64 (C.toInt (dk d4 3) + 1)), dk d4 4, dk d4 5, C.set (C.set (C.set (C.set (C.set (C.set (C.set (C.set (z0 (Ty.arr 8 (Ty.int IntKind.u32))) 0 (C.int (IntKind.wrap IntKind.u32 (IntKind.wrap IntKind.u32 (IntKind.wrap IntKind.u32 (IntKind.wrap IntKind.u32 (IntKind.wrap IntKind.u32 (IntKind.wrap IntKind.u32 (C.toInt (C.get (dk d4 6) (Int.toNat 7)) + C.toInt (dk d5 0)) + u1 BinOp.xor IntKind.u32 (C.toInt (C.get (dk d4 6) (Int.toNat 6))) (u1 BinOp.and IntKind.u32 (C.toInt (C.get (dk d4 6) (Int.toNat 4))) (u1 BinOp.xor IntKind.u32 (C.toInt (C.get (dk d4 6) (Int.toNat 5))) (C.toInt (C.get (dk d4 6) (Int.toNat 6)))))) + C.toInt (dk d4 0)) + C.toInt (C.get (dk d4 5) (Int.toNat (C.toInt (dk d4 1))))) + C.toInt (dk d6 0)) + u1 BinOp.or IntKind.u32 (u1 BinOp.and IntKind.u32 (C.toInt (C.get (dk d4 6) (Int.toNat 0))) (C.toInt (C.get (dk d4 6) (Int.toNat 1)))) (u1 BinOp.and IntKind.u32 (C.toInt (C.get (dk d4 6) (Int.toNat 2))) (u1 BinOp.or IntKind.u32 (C.toInt (C.get (dk d4 6) (Int.toNat 0))) (C.toInt (C.get (dk d4 6) (Int.toNat 1))))))))) 1 (C.get (dk d4 6) (Int.toNat 0))) 2 (C.get (dk d4 6) (Int.toNat 1))) 3 (C.get (dk d4 6) (Int.toNat 2))) 4 (C.int (IntKind.wrap IntKind.u32 (C.toInt (C.get (dk d4 6) (Int.toNat 3)) + IntKind.wrap IntKind.u32 (IntKind.wrap IntKind.u32 (IntKind.wrap IntKind.u32 (IntKind.wrap IntKind.u32 (C.toInt (C.get (dk d4 6) (Int.toNat 7)) + C.toInt (dk d5 0)) + u1 BinOp.xor IntKind.u32 (C.toInt (C.get (dk d4 6) (Int.toNat 6))) (u1 BinOp.and IntKind.u32 (C.toInt (C.get (dk d4 6) (Int.toNat 4))) (u1 BinOp.xor IntKind.u32 (C.toInt (C.get (dk d4 6) (Int.toNat 5))) (C.toInt (C.get (dk d4 6) (Int.toNat 6)))))) + C.toInt (dk d4 0)) + C.toInt (C.get (dk d4 5) (Int.toNat (C.toInt (dk d4 1))))))))) 5 (C.get (dk d4 6) (Int.toNat 4))) 6 (C.get (dk d4 6) (Int.toNat 5))) 7 (C.get (dk d4 6) (Int.toNat 6))] []))) else none)))) (fun k4 => (bif decide (16 ≤ C.toInt (dk d3 1)) then (if 0 ≤ Int.tmod (C.toInt (dk d3 1)) 16 ∧ Int.tmod (C.toInt (dk d3 1)) 16 < 16 then (if 0 ≤ Int.tmod (IntKind.wrap IntKind.i64 (C.toInt (dk d3 1) + 1)) 16 ∧ Int.tmod (IntKind.wrap IntKind.i64 (C.toInt (dk d3 1) + 1)) 16 < 16 then (q0l N (C.get (dk d3 3) (Int.toNat (Int.tmod (IntKind.wrap IntKind.i64 (C.toInt (dk d3 1) + 1)) 16))) (C.int 7) (C.int 18) (C.int 3) (C.bool true) (fun d4 m4 => (if 0 ≤ Int.tmod (IntKind.wrap IntKind.i64 (C.toInt (dk d3 1) + 9)) 16 ∧ Int.tmod (IntKind.wrap IntKind.i64 (C.toInt (dk d3 1) + 9)) 16 < 16 then (if 0 ≤ Int.tmod (IntKind.wrap IntKind.i64 (C.toInt (dk d3 1) + 14)) 16 ∧ Int.tmod (IntKind.wrap IntKind.i64 (C.toInt (dk d3 1) + 14)) 16 < 16 then (q0l N (C.get (dk d3 3) (Int.toNat (Int.tmod (IntKind.wrap IntKind.i64 (C.toInt (dk d3 1) + 14)) 16))) (C.int 17) (C.int 19) (C.int 10) (C.bool true) (fun d5 m5 => (if 0 ≤ Int.tmod (C.toInt (dk d3 1)) 16 ∧ Int.tmod (C.toInt (dk d3 1)) 16 < 16 then (k4 [C.get (dk d3 0) (Int.toNat (C.toInt (dk d3 1))), C.int (Int.tmod (C.toInt (dk d3 1)) 16), dk d3 0, dk d3 1, dk d3 2, C.set (dk d3 3) (Int.toNat (Int.tmod (C.toInt (dk d3 1)) 16)) (C.int (IntKind.wrap IntKind.u32 (C.toInt (C.get (dk d3 3) (Int.toNat (Int.tmod (C.toInt (dk d3 1)) 16))) + IntKind.wrap IntKind.u32 (IntKind.wrap IntKind.u32 (C.toInt (dk d4 0) + C.toInt (C.get (dk d3 3) (Int.toNat (Int.tmod (IntKind.wrap IntKind.i64 (C.toInt (dk d3 1) + 9)) 16)))) + C.toInt (dk d5 0))))), dk d3 4] []) else none))) else none) else none))) else none) else none) else (k4 [C.get (dk d3 0) (Int.toNat (C.toInt (dk d3 1))), C.int (Int.tmod (C.toInt (dk d3 1)) 16), dk d3 0, dk d3 1, dk d3 2, dk d3 3, dk d3 4] [])))) else none) else (k2 [dk d3 2, dk d3 4] [])))
noncomputable def q2k {R : Type} (N : Nat) (k2 : KD R) : KD R → List C → List Es → Option R := (fun k3 d1 m1 => (bif decide (C.toInt (dk d1 0) < 16) then (if 0 ≤ IntKind.wrap IntKind.i64 (4 * C.toInt (dk d1 0)) ∧ IntKind.wrap IntKind.i64 (4 * C.toInt (dk d1 0)) ≤ 64 ∧ Int.ofNat 64 ≤ 64 then (q38 N (C.slice (List.take (Int.toNat (64 - IntKind.wrap IntKind.i64 (4 * C.toInt (dk d1 0)))) (List.drop (Int.toNat (IntKind.wrap IntKind.i64 (4 * C.toInt (dk d1 0)))) (C.elems (C.get (dk d1 1) 1))))) (fun d2 m2 => (if 0 ≤ C.toInt (dk d1 0) ∧ C.toInt (dk d1 0) < 16 then (k3 [C.int (IntKind.wrap IntKind.i64 (C.toInt (dk d1 0) + 1)), dk d1 1, C.set (dk d1 2) (Int.toNat (C.toInt (dk d1 0))) (dk d2 0)] []) else none))) else none) else (k2 [dk d1 1, dk d1 2] [])))
noncomputable def q2j {R : Type} (N : Nat) (b0 : C) (k1 : KD R) : Option R := (jn (fun d1 m1 => (q20 N (fun d2 m2 => (jn (fun d3 m3 => (jn (fun d4 m4 => (k1 [dk d4 0] [])) (fun k2 => (u3 N (q2l N k2) [C.int 0, dk d3 0, dk d3 1] [])))) (fun k2 => (u3 N (q0N N k2) [dk d2 0, C.int 0, dk d1 0, dk d1 1, C.get (dk d1 0) 0] [])))))) (fun k2 => (u3 N (q2k N k2) [C.int 0, b0, z0 (Ty.arr 16 (Ty.int IntKind.u32))] [])))
noncomputable def q0u {R : Type} (N : Nat) : C → KD R → Option R := lid "" (q2j N)
theorem q84 {R : Type} (N : Nat) (b0 : C) (k : KD R) : q0u N b0 k = q2j N b0 k := by unfold q0u; rw [w6]
theorem z48 {R : Type} (N : Nat) (b0 : C) (K : V → List (Key × O) → Option R) : exF (X0 gl0) ((q85 N).ov R) s5 (fun f r => bif Nat.beq f 154 then (bif Nat.beq r 12 then [(46, 7), (58, 7)] else bif Nat.beq r 15 then [(91, 7)] else bif Nat.beq r 16 then [(104, 7)] else bif Nat.beq r 4 then [(22, 8)] else []) else []) (fun f => bif Nat.beq f 154 then z6s else []) N 400 8 154 (Sh.W4 q4L 0 [b0]) (z8 (u0 q86 (Sh.q0m q4L) 0 [b0] [])) K =
  q0u N b0 (fun d1 m1 => K (V.tup []) [(Key.g (Key.l 1), O.box (V.d Q2 (dk d1 0)))]) := by
 rw [q84]
 exact (show _ = jn (fun d1 m1 => (K (V.tup []) [(Key.g (Key.l 1), O.box (V.d Q2 (dk d1 0)))])) (q2j N b0) by kernel_rfl).trans (y4 _ _)
noncomputable def q5t (N : Nat) {R : Type} : OvG R := q7S q4L q86 fun ds ms K => q0u N (dk ds 0) (fun d1 m1 => K (V.tup []) [(Key.g (Key.l 1), O.box (V.d Q2 (dk d1 0)))])
theorem z6r (N : Nat) {R : Type} : GOk (X0 gl0) 154 (q5t N (R := R)) := by
 unfold q5t
 refine q2W fun ds ms K r hr => ?_
 rw [← z48] at hr
 exact okB (q85 N) hr
def q6h : List Sh := [.as (.ptr (.g (.l 1)) [] Q2), .d (.slice 1 (.int .u8))]
def z0Y : List (Key × OSh) := [(.l 1, .box (.d Q2))]
noncomputable def z9f : Hints := [([], ⟨[0], [], [.g (.l 1)], [], [], []⟩),
  ([4], ⟨[0], [(1, .d (.slice 1 (.int .u8)))], [.g (.l 1)], [], [], []⟩),
  ([1, 1, 1, 1, 4, 1, 5, 4], ⟨[0, 1], [], [.g (.l 1)], [], [], []⟩),
  ([9], ⟨[], [], [.g (.l 1)], [], [], []⟩)]
noncomputable def z0X (N : Nat) : OvS (X0 gl0) where
 g R := [(154, q5t N)]
 ok := fun R => List.forall_mem_cons.2 ⟨z6r N, fun _ h => nomatch h⟩
noncomputable def q1E {R : Type} (N : Nat) (k2 : KD R) : KD R → List C → List Es → Option R := (fun k3 d1 m1 => (bif decide (0 < (↑(List.length (C.elems (dk d1 0))) : Int)) then (if 0 ≤ Int.tmod (C.toInt (C.get (dk d1 1) 2)) 64 ∧ Int.tmod (C.toInt (C.get (dk d1 1) 2)) 64 ≤ 64 ∧ Int.ofNat 64 ≤ 64 then (if 0 < Int.toNat (64 - Int.tmod (C.toInt (C.get (dk d1 1) 2)) 64) then (if 0 ≤ (↑(min (List.length (C.elems (dk d1 0))) (Int.toNat (64 - Int.tmod (C.toInt (C.get (dk d1 1) 2)) 64))) : Int) ∧ (↑(min (List.length (C.elems (dk d1 0))) (Int.toNat (64 - Int.tmod (C.toInt (C.get (dk d1 1) 2)) 64))) : Int) ≤ (↑(List.length (C.elems (dk d1 0))) : Int) ∧ (↑(List.length (C.elems (dk d1 0))) : Int) ≤ (↑(List.length (C.elems (dk d1 0))) : Int) then (jn (fun d2 m2 => (k3 [dk d2 0, dk d2 1] [])) (fun k4 => (bif decide (Int.tmod (C.toInt (C.get (C.set (C.set (dk d1 1) 1 (C.agg (q1h (C.elems (C.get (dk d1 1) 1)) (Int.toNat (Int.tmod (C.toInt (C.get (dk d1 1) 2)) 64)) (Int.toNat (64 - Int.tmod (C.toInt (C.get (dk d1 1) 2)) 64)) (C.elems (dk d1 0))))) 2 (C.int (IntKind.wrap IntKind.u64 (C.toInt (C.get (C.set (dk d1 1) 1 (C.agg (q1h (C.elems (C.get (dk d1 1) 1)) (Int.toNat (Int.tmod (C.toInt (C.get (dk d1 1) 2)) 64)) (Int.toNat (64 - Int.tmod (C.toInt (C.get (dk d1 1) 2)) 64)) (C.elems (dk d1 0))))) 2) + IntKind.wrap IntKind.u64 (↑(min (List.length (C.elems (dk d1 0))) (Int.toNat (64 - Int.tmod (C.toInt (C.get (dk d1 1) 2)) 64))) : Int))))) 2)) 64 = 0) then (q0u N (C.set (C.set (dk d1 1) 1 (C.agg (q1h (C.elems (C.get (dk d1 1) 1)) (Int.toNat (Int.tmod (C.toInt (C.get (dk d1 1) 2)) 64)) (Int.toNat (64 - Int.tmod (C.toInt (C.get (dk d1 1) 2)) 64)) (C.elems (dk d1 0))))) 2 (C.int (IntKind.wrap IntKind.u64 (C.toInt (C.get (C.set (dk d1 1) 1 (C.agg (q1h (C.elems (C.get (dk d1 1) 1)) (Int.toNat (Int.tmod (C.toInt (C.get (dk d1 1) 2)) 64)) (Int.toNat (64 - Int.tmod (C.toInt (C.get (dk d1 1) 2)) 64)) (C.elems (dk d1 0))))) 2) + IntKind.wrap IntKind.u64 (↑(min (List.length (C.elems (dk d1 0))) (Int.toNat (64 - Int.tmod (C.toInt (C.get (dk d1 1) 2)) 64))) : Int))))) (fun d2 m2 => (k4 [C.slice (cut (C.elems (dk d1 0)) (↑(min (List.length (C.elems (dk d1 0))) (Int.toNat (64 - Int.tmod (C.toInt (C.get (dk d1 1) 2)) 64))) : Int) (↑(List.length (C.elems (dk d1 0))) : Int)), dk d2 0] []))) else (k4 [C.slice (cut (C.elems (dk d1 0)) (↑(min (List.length (C.elems (dk d1 0))) (Int.toNat (64 - Int.tmod (C.toInt (C.get (dk d1 1) 2)) 64))) : Int) (↑(List.length (C.elems (dk d1 0))) : Int)), C.set (C.set (dk d1 1) 1 (C.agg (q1h (C.elems (C.get (dk d1 1) 1)) (Int.toNat (Int.tmod (C.toInt (C.get (dk d1 1) 2)) 64)) (Int.toNat (64 - Int.tmod (C.toInt (C.get (dk d1 1) 2)) 64)) (C.elems (dk d1 0))))) 2 (C.int (IntKind.wrap IntKind.u64 (C.toInt (C.get (C.set (dk d1 1) 1 (C.agg (q1h (C.elems (C.get (dk d1 1) 1)) (Int.toNat (Int.tmod (C.toInt (C.get (dk d1 1) 2)) 64)) (Int.toNat (64 - Int.tmod (C.toInt (C.get (dk d1 1) 2)) 64)) (C.elems (dk d1 0))))) 2) + IntKind.wrap IntKind.u64 (↑(min (List.length (C.elems (dk d1 0))) (Int.toNat (64 - Int.tmod (C.toInt (C.get (dk d1 1) 2)) 64))) : Int))))] [])))) else none) else none) else none) else (k2 [dk d1 1] [])))
noncomputable def q3i {R : Type} (N : Nat) (a0 b0 : C) (k1 : KD R) : Option R := (jn (fun d1 m1 => (k1 [dk d1 0] [])) (fun k2 => (u3 N (q1E N k2) [a0, b0] [])))
noncomputable def H3 {R : Type} (N : Nat) : C → C → KD R → Option R := lid "" (q3i N)
theorem z0W {R : Type} (N : Nat) (a0 b0 : C) (k : KD R) : H3 N a0 b0 k = q3i N a0 b0 k := by unfold H3; rw [w6]
theorem z7T {R : Type} (N : Nat) (a0 b0 : C) (K : V → List (Key × O) → Option R) : exF (X0 gl0) ((z0X N).ov R) s5 noX (fun f => bif Nat.beq f 144 then z9f else []) N 400 8 144 (Sh.W4 q6h 0 [a0, b0]) (z8 (u0 z0Y (Sh.q0m q6h) 0 [a0, b0] [])) K =
  H3 N a0 b0 (fun d1 m1 => K (V.tup []) [(Key.g (Key.l 1), O.box (V.d Q2 (dk d1 0)))]) := by
 rw [z0W]
 exact (show _ = jn (fun d1 m1 => (K (V.tup []) [(Key.g (Key.l 1), O.box (V.d Q2 (dk d1 0)))])) (q3i N a0 b0) by kernel_rfl).trans (y4 _ _)
noncomputable def q4o (N : Nat) {R : Type} : OvG R := q7S q6h z0Y fun ds ms K => H3 N (dk ds 0) (dk ds 1) (fun d1 m1 => K (V.tup []) [(Key.g (Key.l 1), O.box (V.d Q2 (dk d1 0)))])
theorem z0Z (N : Nat) {R : Type} : GOk (X0 gl0) 144 (q4o N (R := R)) := by
 unfold q4o
 refine q2W fun ds ms K r hr => ?_
 rw [← z7T] at hr
 exact okB (z0X N) hr
def q4M : List Sh := [.as (.ptr (.g (.l 1)) [] Q2), .d (.slice 24 (.slice 1 (.int .u8)))]
def q89 : List (Key × OSh) := [(.l 1, .box (.d Q2))]
noncomputable def z6u : Hints := [([1, 1], ⟨[0], [], [.g (.l 1)], [], [], []⟩),
  ([4, 1, 1], ⟨[0, 8, 9], [(10, .d (.int .i64))], [.g (.l 1)], [], [], []⟩),
  ([9], ⟨[], [], [.g (.l 1)], [], [], []⟩)]
noncomputable def q88 (N : Nat) : OvS (X0 gl0) where
 g R := [(144, q4o N)]
 ok := fun R => List.forall_mem_cons.2 ⟨z0Z N, fun _ h => nomatch h⟩
noncomputable def q2n {R : Type} (N : Nat) (k2 : KD R) : KD R → List C → List Es → Option R := (fun k3 d1 m1 => (bif decide (C.toInt (dk d1 2) < C.toInt (dk d1 1)) then (if 0 ≤ C.toInt (dk d1 2) ∧ C.toInt (dk d1 2) < (↑(List.length (C.elems (dk d1 0))) : Int) then (H3 N (List.getD (C.elems (dk d1 0)) (Int.toNat (C.toInt (dk d1 2))) C.nil) (dk d1 3) (fun d2 m2 => (k3 [dk d1 0, dk d1 1, C.int (IntKind.wrap IntKind.i64 (C.toInt (dk d1 2) + 1)), dk d2 0] []))) else none) else (k2 [dk d1 3] [])))
noncomputable def q2m {R : Type} (N : Nat) (a0 b0 : C) (k1 : KD R) : Option R := (jn (fun d1 m1 => (k1 [dk d1 0] [])) (fun k2 => (u3 N (q2n N k2) [a0, C.int (↑(List.length (C.elems a0)) : Int), C.int 0, b0] [])))
noncomputable def J8 {R : Type} (N : Nat) : C → C → KD R → Option R := lid "" (q2m N)
theorem q87 {R : Type} (N : Nat) (a0 b0 : C) (k : KD R) : J8 N a0 b0 k = q2m N a0 b0 k := by unfold J8; rw [w6]
theorem z49 {R : Type} (N : Nat) (a0 b0 : C) (K : V → List (Key × O) → Option R) : exF (X0 gl0) ((q88 N).ov R) s5 noX (fun f => bif Nat.beq f 131 then z6u else []) N 400 8 131 (Sh.W4 q4M 0 [a0, b0]) (z8 (u0 q89 (Sh.q0m q4M) 0 [a0, b0] [])) K =
  J8 N a0 b0 (fun d1 m1 => K (V.tup []) [(Key.g (Key.l 1), O.box (V.d Q2 (dk d1 0)))]) := by
 rw [q87]
 exact (show _ = jn (fun d1 m1 => (K (V.tup []) [(Key.g (Key.l 1), O.box (V.d Q2 (dk d1 0)))])) (q2m N a0 b0) by kernel_rfl).trans (y4 _ _)
noncomputable def q5u (N : Nat) {R : Type} : OvG R := q7S q4M q89 fun ds ms K => J8 N (dk ds 0) (dk ds 1) (fun d1 m1 => K (V.tup []) [(Key.g (Key.l 1), O.box (V.d Q2 (dk d1 0)))])
theorem z6t (N : Nat) {R : Type} : GOk (X0 gl0) 131 (q5u N (R := R)) := by
 unfold q5u
 refine q2W fun ds ms K r hr => ?_
 rw [← z49] at hr
 exact okB (q88 N) hr
noncomputable def y5F : Hints := [([9], ⟨[], [(2, .sl 1 (.int .u8) 5002)], [], [], [], []⟩)]
noncomputable def z6p (N : Nat) : OvS (X0 gl0) where
 g R := []
 ok := fun R => fun _ h => nomatch h
noncomputable def q4K {R : Type} (N : Nat) (a0 : C) (k1 : KD R) : Option R := (k1 [C.slice [C.int (IntKind.wrap IntKind.u8 (Int.fdiv (C.toInt a0) (2 ^ min (Int.toNat 24) 32))), C.int (IntKind.wrap IntKind.u8 (Int.fdiv (C.toInt a0) (2 ^ min (Int.toNat 16) 32))), C.int (IntKind.wrap IntKind.u8 (Int.fdiv (C.toInt a0) (2 ^ min (Int.toNat 8) 32))), C.int (IntKind.wrap IntKind.u8 (C.toInt a0))]] [])
noncomputable def q0H {R : Type} (N : Nat) : C → KD R → Option R := lid "" (q4K N)
theorem z6o {R : Type} (N : Nat) (a0 : C) (k : KD R) : q0H N a0 k = q4K N a0 k := by unfold q0H; rw [w6]
theorem y3Y {R : Type} (N : Nat) (a0 : C) (K : V → List (Key × O) → Option R) : exF (X0 gl0) ((z6p N).ov R) s5 (fun f r => bif Nat.beq f 132 then (bif Nat.beq r 1 then [(14, 4)] else []) else []) (fun f => bif Nat.beq f 132 then y5F else []) N 400 8 132 [.d (.int .u32) a0] A0 K =
  q0H N a0 (fun d1 m1 => K (V.ts 1 (Ty.int IntKind.u8) (C.elems (dk d1 0))) []) := by
 rw [z6o]
 exact (show _ = jn (fun d1 m1 => (bif Nat.beq (List.length (C.elems (dk d1 0))) (List.length (C.elems (dk d1 0))) then
  (K (V.ts 1 (Ty.int IntKind.u8) (C.elems (dk d1 0))) [])
 else
  none)) (q4K N a0) by kernel_rfl).trans ((y4 _ _).trans (congrArg (q4K N a0) (funext fun _ => funext fun _ => by simp only [Nat.beq_refl, cond_true])))
noncomputable def q8o (N : Nat) {R : Type} : OvG R := fun xs _ K => match xs with
 | [.d t0 a0] => if t0 = (.int .u32) then q0H N a0 (fun d1 m1 => K (V.ts 1 (Ty.int IntKind.u8) (C.elems (dk d1 0))) []) else none
 | _ => none
theorem z6q (N : Nat) {R : Type} : GOk (X0 gl0) 132 (q8o N (R := R)) := by
 intro xs A Kr r hr
 unfold q8o at hr
 split at hr
 ·simp only [Option.ite_none_right_eq_some] at hr
  obtain ⟨hty, hr⟩ := hr
  subst hty
  rw [← y3Y] at hr
  exact okA (z6p N) hr
 ·cases hr
def q6i : List Sh := [.as (.ptr (.g (.l 1)) [] Q2)]
def z02 : List (Key × OSh) := [(.l 1, .box (.d Q2))]
noncomputable def z9h : Hints := [([1, 0, 1, 1, 1, 1, 1, 1, 1, 1, 1], ⟨[0, 2, 6], [], [.g (.l 1)], [], [], []⟩),
  ([4, 1, 0, 1, 1, 1, 1, 1, 1, 1, 1, 1], ⟨[0, 2, 6, 38], [(39, .d (.int .i64))], [.g (.l 1)], [], [], []⟩),
  ([9], ⟨[], [(2, .as (.ptr (.l 2) [] (.arr 32 (.int .u8))))], [.g (.l 1)], [(.l 2, .box (.d (.arr 32 (.int .u8))))], [], []⟩)]
noncomputable def z01 (N : Nat) : OvS (X0 gl0) where
 g R := [(132, q8o N), (144, q4o N)]
 ok := fun R => List.forall_mem_cons.2 ⟨z6q N, List.forall_mem_cons.2 ⟨z0Z N, fun _ h => nomatch h⟩⟩
noncomputable def q3k {R : Type} (N : Nat) (k2 : KD R) : KD R → List C → List Es → Option R := (fun k3 d5 m5 => (bif decide (C.toInt (dk d5 1) < 8) then (if 0 ≤ C.toInt (dk d5 1) ∧ C.toInt (dk d5 1) < 8 then (if 0 ≤ IntKind.wrap IntKind.i64 (4 * C.toInt (dk d5 1)) ∧ IntKind.wrap IntKind.i64 (4 * C.toInt (dk d5 1)) ≤ 32 ∧ Int.ofNat 32 ≤ 32 then (q0H N (C.get (dk d5 0) (Int.toNat (C.toInt (dk d5 1)))) (fun d6 m6 => (if 0 < Int.toNat (32 - IntKind.wrap IntKind.i64 (4 * C.toInt (dk d5 1))) then (k3 [dk d5 0, C.int (IntKind.wrap IntKind.i64 (C.toInt (dk d5 1) + 1)), dk d5 2, dk d5 3, C.agg (q1h (C.elems (dk d5 4)) (Int.toNat (IntKind.wrap IntKind.i64 (4 * C.toInt (dk d5 1)))) (Int.toNat (32 - IntKind.wrap IntKind.i64 (4 * C.toInt (dk d5 1)))) (C.elems (dk d6 0)))] []) else none))) else none) else none) else (k2 [dk d5 2, dk d5 3, dk d5 4] [])))
noncomputable def q3j {R : Type} (N : Nat) (b0 : C) (k1 : KD R) : Option R := (if 0 ≤ IntKind.wrap IntKind.u64 (64 - Int.tmod (IntKind.wrap IntKind.u64 (C.toInt (C.get b0 2) + 8)) 64) ∧ IntKind.wrap IntKind.u64 (64 - Int.tmod (IntKind.wrap IntKind.u64 (C.toInt (C.get b0 2) + 8)) 64) ≤ IntKind.wrap IntKind.u64 (64 - Int.tmod (IntKind.wrap IntKind.u64 (C.toInt (C.get b0 2) + 8)) 64) ∧ IntKind.wrap IntKind.u64 (64 - Int.tmod (IntKind.wrap IntKind.u64 (C.toInt (C.get b0 2) + 8)) 64) ≤ 9223372036854775807 ∧ Int.toNat (IntKind.wrap IntKind.u64 (64 - Int.tmod (IntKind.wrap IntKind.u64 (C.toInt (C.get b0 2) + 8)) 64)) * 1 ≤ 140737488355328 then (if Int.ofNat 0 ≤ 0 ∧ 0 < (↑(Int.toNat (IntKind.wrap IntKind.u64 (64 - Int.tmod (IntKind.wrap IntKind.u64 (C.toInt (C.get b0 2) + 8)) 64))) : Int) then (H3 N (C.slice (List.take (Int.toNat (IntKind.wrap IntKind.u64 (64 - Int.tmod (IntKind.wrap IntKind.u64 (C.toInt (C.get b0 2) + 8)) 64))) (List.drop 0 (List.set (List.replicate (Int.toNat (IntKind.wrap IntKind.u64 (64 - Int.tmod (IntKind.wrap IntKind.u64 (C.toInt (C.get b0 2) + 8)) 64))) (z0 (Ty.int IntKind.u8))) 0 (C.int 128))))) b0 (fun d1 m1 => (q0H N (C.int (IntKind.wrap IntKind.u32 (Int.fdiv (IntKind.wrap IntKind.u64 (C.toInt (C.get b0 2) * 8)) (2 ^ min (Int.toNat 32) 64)))) (fun d2 m2 => (q0H N (C.int (IntKind.wrap IntKind.u32 (IntKind.wrap IntKind.u64 (C.toInt (C.get b0 2) * 8)))) (fun d3 m3 => (bif Nat.beq (List.length (C.elems (dk d2 0))) (List.length (C.elems (dk d2 0))) then (if (List.length (C.elems (dk d2 0)) + List.length (C.elems (dk d3 0))) * 1 ≤ 140737488355328 ∧ List.length (C.elems (dk d2 0)) + List.length (C.elems (dk d3 0)) ≤ 9223372036854775807 then (H3 N (C.slice (C.elems (dk d2 0) ++ C.elems (dk d3 0))) (dk d1 0) (fun d4 m4 => (jn (fun d5 m5 => (k1 [dk d5 2, dk d5 0] [])) (fun k2 => (u3 N (q3k N k2) [C.get (dk d4 0) 0, C.int 0, b0, z0 (Ty.arr 32 (Ty.int IntKind.u8)), z0 (Ty.arr 32 (Ty.int IntKind.u8))] []))))) else none) else none))))))) else none) else none)
noncomputable def q0X {R : Type} (N : Nat) : C → KD R → Option R := lid "" (q3j N)
theorem z00 {R : Type} (N : Nat) (b0 : C) (k : KD R) : q0X N b0 k = q3j N b0 k := by unfold q0X; rw [w6]
theorem z7U {R : Type} (N : Nat) (b0 : C) (K : V → List (Key × O) → Option R) : exF (X0 gl0) ((z01 N).ov R) s5 (fun f r => bif Nat.beq f 133 then (bif Nat.beq r 7 then [(27, 100), (3, 16)] else bif Nat.beq r 8 then [(3, 16)] else []) else []) (fun f => bif Nat.beq f 133 then z9h else []) N 400 8 133 (Sh.W4 q6i 0 [b0]) (z8 (u0 z02 (Sh.q0m q6i) 0 [b0] [])) K =
  q0X N b0 (fun d1 m1 => K (V.d (Ty.arr 32 (Ty.int IntKind.u8)) (dk d1 0)) [(Key.g (Key.l 1), O.box (V.d Q2 (dk d1 1)))]) := by
 rw [z00]
 exact (show _ = jn (fun d1 m1 => (K (V.d (Ty.arr 32 (Ty.int IntKind.u8)) (dk d1 0)) [(Key.g (Key.l 1), O.box (V.d Q2 (dk d1 1)))])) (q3j N b0) by kernel_rfl).trans (y4 _ _)
noncomputable def q7h (N : Nat) {R : Type} : OvG R := q7S q6i z02 fun ds ms K => q0X N (dk ds 0) (fun d1 m1 => K (V.d (Ty.arr 32 (Ty.int IntKind.u8)) (dk d1 0)) [(Key.g (Key.l 1), O.box (V.d Q2 (dk d1 1)))])
theorem z9g (N : Nat) {R : Type} : GOk (X0 gl0) 133 (q7h N (R := R)) := by
 unfold q7h
 refine q2W fun ds ms K r hr => ?_
 rw [← z7U] at hr
 exact okB (z01 N) hr
noncomputable def y7e : Hints := [([1, 0, 1, 1, 1], ⟨[4, 5], [], [], [], [], []⟩),
  ([4, 1, 0, 1, 1, 1], ⟨[4, 5, 17, 18], [(19, .d (.int .i64))], [], [], [], []⟩),
  ([9], ⟨[], [(4, .as (.ptr (.l 4) [] (.arr 32 (.int .u8))))], [], [(.l 4, .box (.d (.arr 32 (.int .u8))))], [], []⟩)]
noncomputable def z8p (N : Nat) : OvS (X0 gl0) where
 g R := [(130, z3F N), (131, q5u N), (132, q8o N), (133, q7h N)]
 ok := fun R => List.forall_mem_cons.2 ⟨y7c N, List.forall_mem_cons.2 ⟨z6t N, List.forall_mem_cons.2 ⟨z6q N, List.forall_mem_cons.2 ⟨z9g N, fun _ h => nomatch h⟩⟩⟩⟩
noncomputable def q8s {R : Type} (N : Nat) (k2 : KD R) : KD R → List C → List Es → Option R := (fun k3 d3 m3 => (bif decide (C.toInt (dk d3 2) < C.toInt (dk d3 1)) then (if 0 ≤ C.toInt (dk d3 2) ∧ C.toInt (dk d3 2) < (↑(List.length (C.elems (dk d3 0))) : Int) then (q0H N (C.int (IntKind.wrap IntKind.u32 (↑(List.length (C.elems (List.getD (C.elems (dk d3 0)) (Int.toNat (C.toInt (dk d3 2))) C.nil))) : Int))) (fun d4 m4 => (J8 N (C.slice [C.slice (C.elems (dk d4 0)), List.getD (C.elems (dk d3 0)) (Int.toNat (C.toInt (dk d3 2))) C.nil]) (dk d3 4) (fun d5 m5 => (k3 [dk d3 0, dk d3 1, C.int (IntKind.wrap IntKind.i64 (C.toInt (dk d3 2) + 1)), dk d3 3, dk d5 0] []))))) else none) else (k2 [dk d3 3, dk d3 4] [])))
noncomputable def q8q {R : Type} (N : Nat) (a0 a1 : C) (k1 : KD R) : Option R := (q5b N (fun d1 m1 => (J8 N (C.slice [C.slice [a0, C.int (IntKind.wrap IntKind.u8 (↑(List.length (C.elems a1)) : Int))]]) (dk d1 0) (fun d2 m2 => (jn (fun d3 m3 => (q0X N (dk d3 1) (fun d4 m4 => (k1 [dk d4 0] [])))) (fun k2 => (u3 N (q8s N k2) [a1, C.int (↑(List.length (C.elems a1)) : Int), C.int 0, z0 (Ty.arr 32 (Ty.int IntKind.u8)), dk d2 0] [])))))))
noncomputable def q1g {R : Type} (N : Nat) : C → C → KD R → Option R := lid "" (q8q N)
theorem z8o {R : Type} (N : Nat) (a0 a1 : C) (k : KD R) : q1g N a0 a1 k = q8q N a0 a1 k := by unfold q1g; rw [w6]
theorem y5H {R : Type} (N : Nat) (a0 a1 : C) (K : V → List (Key × O) → Option R) : exF (X0 gl0) ((z8p N).ov R) s5 (fun f r => bif Nat.beq f 106 then (bif Nat.beq r 2 then [(5, 16)] else bif Nat.beq r 6 then [(5, 16)] else bif Nat.beq r 8 then [(5, 16)] else []) else []) (fun f => bif Nat.beq f 106 then y7e else []) N 400 8 106 [.d (.int .u8) a0, .d (.slice 24 (.slice 1 (.int .u8))) a1] A0 K =
  q1g N a0 a1 (fun d1 m1 => K (V.d (Ty.arr 32 (Ty.int IntKind.u8)) (dk d1 0)) []) := by
 rw [z8o]
 exact (show _ = jn (fun d1 m1 => (K (V.d (Ty.arr 32 (Ty.int IntKind.u8)) (dk d1 0)) [])) (q8q N a0 a1) by kernel_rfl).trans (y4 _ _)
noncomputable def q5c (N : Nat) {R : Type} : OvG R := fun xs _ K => match xs with
 | [.d t0 a0, .d t1 a1] => if t0 = (.int .u8) ∧ t1 = (.slice 24 (.slice 1 (.int .u8))) then q1g N a0 a1 (fun d1 m1 => K (V.d (Ty.arr 32 (Ty.int IntKind.u8)) (dk d1 0)) []) else none
 | _ => none
theorem q8r (N : Nat) {R : Type} : GOk (X0 gl0) 106 (q5c N (R := R)) := by
 intro xs A Kr r hr
 unfold q5c at hr
 split at hr
 ·simp only [Option.ite_none_right_eq_some] at hr
  obtain ⟨hty, hr⟩ := hr
  obtain ⟨rfl, rfl⟩ := hty
  rw [← y5H] at hr
  exact okA (z8p N) hr
 ·cases hr
def q6e : List Sh := [.ts 1 (.int .u8), .d (.int .u64), .d (.int .i64)]
def z0I : List (Key × OSh) := []
noncomputable def z87 : Hints := [([1, 0, 1], ⟨[], [(0, .sl 1 (.int .u8) 5000)], [], [], [], []⟩),
  ([4, 1, 0, 1], ⟨[1], [(0, .sl 1 (.int .u8) 5000), (7, .d (.int .i64))], [], [], [], []⟩),
  ([9], ⟨[], [(6, .sl 1 (.int .u8) 5006)], [], [], [], []⟩)]
noncomputable def z0H (N : Nat) : OvS (X0 gl0) where
 g R := []
 ok := fun R => fun _ h => nomatch h
noncomputable def q1A {R : Type} (N : Nat) (k2 : KD R) : KD R → List C → List Es → Option R := (fun k3 d1 m1 => (bif decide (0 ≤ C.toInt (dk d1 2)) then (if 0 ≤ IntKind.wrap IntKind.i64 (8 * C.toInt (dk d1 2)) then (bif Nat.beq (List.length (C.elems (dk d1 1))) (List.length (C.elems (dk d1 1))) then (if (List.length (C.elems (dk d1 1)) + 1) * 1 ≤ 140737488355328 ∧ List.length (C.elems (dk d1 1)) + 1 ≤ 9223372036854775807 then (bif Nat.beq (List.length (C.elems (dk d1 1)) + 1) (List.length (C.elems (dk d1 1) ++ [C.int (IntKind.wrap IntKind.u8 (Int.fdiv (C.toInt (dk d1 0)) (2 ^ min (Int.toNat (IntKind.wrap IntKind.i64 (8 * C.toInt (dk d1 2)))) 64)))])) then (k3 [dk d1 0, C.slice (C.elems (dk d1 1) ++ [C.int (IntKind.wrap IntKind.u8 (Int.fdiv (C.toInt (dk d1 0)) (2 ^ min (Int.toNat (IntKind.wrap IntKind.i64 (8 * C.toInt (dk d1 2)))) 64)))]), C.int (IntKind.wrap IntKind.i64 (C.toInt (dk d1 2) - 1))] []) else none) else none) else none) else none) else (bif Nat.beq (List.length (C.elems (dk d1 1))) (List.length (C.elems (dk d1 1))) then (k2 [C.slice (C.elems (dk d1 1))] []) else none)))
noncomputable def q1z {R : Type} (N : Nat) (a0 a1 a2 : C) (k1 : KD R) : Option R := (jn (fun d1 m1 => (bif Nat.beq (List.length (C.elems (dk d1 0))) (List.length (C.elems (dk d1 0))) then (k1 [C.slice (C.elems (dk d1 0))] []) else none)) (fun k2 => (bif Nat.beq (List.length (C.elems a0)) (List.length (C.elems a0)) then (u3 N (q1A N k2) [a1, C.slice (C.elems a0), C.int (IntKind.wrap IntKind.i64 (C.toInt a2 - 1))] []) else none)))
noncomputable def q0k {R : Type} (N : Nat) : C → C → C → KD R → Option R := lid "" (q1z N)
theorem z0G {R : Type} (N : Nat) (a0 a1 a2 : C) (k : KD R) : q0k N a0 a1 a2 k = q1z N a0 a1 a2 k := by unfold q0k; rw [w6]
theorem z7P {R : Type} (N : Nat) (a0 a1 a2 : C) (K : V → List (Key × O) → Option R) : exF (X0 gl0) ((z0H N).ov R) s5 noX (fun f => bif Nat.beq f 148 then z87 else []) N 400 8 148 (Sh.W4 q6e 0 [a0, a1, a2]) (z8 (u0 z0I (Sh.q0m q6e) 0 [a0, a1, a2] [])) K =
  q0k N a0 a1 a2 (fun d1 m1 => K (V.ts 1 (Ty.int IntKind.u8) (C.elems (dk d1 0))) []) := by
 rw [z0G]
 exact (show _ = jn (fun d1 m1 => (bif Nat.beq (List.length (C.elems (dk d1 0))) (List.length (C.elems (dk d1 0))) then
  (K (V.ts 1 (Ty.int IntKind.u8) (C.elems (dk d1 0))) [])
 else
  none)) (q1z N a0 a1 a2) by kernel_rfl).trans ((y4 _ _).trans (congrArg (q1z N a0 a1 a2) (funext fun _ => funext fun _ => by simp only [Nat.beq_refl, cond_true])))
noncomputable def q4l (N : Nat) {R : Type} : OvG R := q7S q6e z0I fun ds ms K => q0k N (dk ds 0) (dk ds 1) (dk ds 2) (fun d1 m1 => K (V.ts 1 (Ty.int IntKind.u8) (C.elems (dk d1 0))) [])
theorem z0J (N : Nat) {R : Type} : GOk (X0 gl0) 148 (q4l N (R := R)) := by
 unfold q4l
 refine q2W fun ds ms K r hr => ?_
 rw [← z7P] at hr
 exact okB (z0H N) hr
def q4I : List Sh := [.ts 1 (.int .u8), .d (.slice 8 (.int .u64))]
def q81 : List (Key × OSh) := []
noncomputable def z56 : Hints := [([1, 0, 1], ⟨[], [(0, .sl 1 (.int .u8) 5000)], [], [], [], []⟩),
  ([4, 1, 0, 1], ⟨[7, 8], [(0, .sl 1 (.int .u8) 5000), (9, .d (.int .i64))], [], [], [], []⟩),
  ([9], ⟨[], [(4, .sl 1 (.int .u8) 5004)], [], [], [], []⟩)]
noncomputable def q80 (N : Nat) : OvS (X0 gl0) where
 g R := [(148, q4l N)]
 ok := fun R => List.forall_mem_cons.2 ⟨z0J N, fun _ h => nomatch h⟩
noncomputable def q2i {R : Type} (N : Nat) (k2 : KD R) : KD R → List C → List Es → Option R := (fun k3 d1 m1 => (bif decide (C.toInt (dk d1 3) < C.toInt (dk d1 1)) then (if 0 ≤ C.toInt (dk d1 3) ∧ C.toInt (dk d1 3) < (↑(List.length (C.elems (dk d1 0))) : Int) then (bif Nat.beq (List.length (C.elems (dk d1 2))) (List.length (C.elems (dk d1 2))) then (q0k N (C.slice (C.elems (dk d1 2))) (List.getD (C.elems (dk d1 0)) (Int.toNat (C.toInt (dk d1 3))) C.nil) (C.int 8) (fun d2 m2 => (bif Nat.beq (List.length (C.elems (dk d2 0))) (List.length (C.elems (dk d2 0))) then (k3 [dk d1 0, dk d1 1, C.slice (C.elems (dk d2 0)), C.int (IntKind.wrap IntKind.i64 (C.toInt (dk d1 3) + 1))] []) else none))) else none) else none) else (bif Nat.beq (List.length (C.elems (dk d1 2))) (List.length (C.elems (dk d1 2))) then (k2 [C.slice (C.elems (dk d1 2))] []) else none)))
noncomputable def q0M {R : Type} (N : Nat) (a0 a1 : C) (k1 : KD R) : Option R := (jn (fun d1 m1 => (bif Nat.beq (List.length (C.elems (dk d1 0))) (List.length (C.elems (dk d1 0))) then (k1 [C.slice (C.elems (dk d1 0))] []) else none)) (fun k2 => (bif Nat.beq (List.length (C.elems a0)) (List.length (C.elems a0)) then (u3 N (q2i N k2) [a1, C.int (↑(List.length (C.elems a1)) : Int), C.slice (C.elems a0), C.int 0] []) else none)))
noncomputable def Y1 {R : Type} (N : Nat) : C → C → KD R → Option R := lid "" (q0M N)
theorem q8Z {R : Type} (N : Nat) (a0 a1 : C) (k : KD R) : Y1 N a0 a1 k = q0M N a0 a1 k := by unfold Y1; rw [w6]
theorem z47 {R : Type} (N : Nat) (a0 a1 : C) (K : V → List (Key × O) → Option R) : exF (X0 gl0) ((q80 N).ov R) s5 (fun f r => bif Nat.beq f 149 then (bif Nat.beq r 4 then [(15, 1)] else []) else []) (fun f => bif Nat.beq f 149 then z56 else []) N 400 8 149 (Sh.W4 q4I 0 [a0, a1]) (z8 (u0 q81 (Sh.q0m q4I) 0 [a0, a1] [])) K =
  Y1 N a0 a1 (fun d1 m1 => K (V.ts 1 (Ty.int IntKind.u8) (C.elems (dk d1 0))) []) := by
 rw [q8Z]
 exact (show _ = jn (fun d1 m1 => (bif Nat.beq (List.length (C.elems (dk d1 0))) (List.length (C.elems (dk d1 0))) then
  (K (V.ts 1 (Ty.int IntKind.u8) (C.elems (dk d1 0))) [])
 else
  none)) (q0M N a0 a1) by kernel_rfl).trans ((y4 _ _).trans (congrArg (q0M N a0 a1) (funext fun _ => funext fun _ => by simp only [Nat.beq_refl, cond_true])))
noncomputable def q2D (N : Nat) {R : Type} : OvG R := q7S q4I q81 fun ds ms K => Y1 N (dk ds 0) (dk ds 1) (fun d1 m1 => K (V.ts 1 (Ty.int IntKind.u8) (C.elems (dk d1 0))) [])
theorem q82 (N : Nat) {R : Type} : GOk (X0 gl0) 149 (q2D N (R := R)) := by
 unfold q2D
 refine q2W fun ds ms K r hr => ?_
 rw [← z47] at hr
 exact okB (q80 N) hr
def q6g : List Sh := [.ts 1 (.int .u8), .d (.slice 1 (.int .u8))]
def z0Q : List (Key × OSh) := []
noncomputable def z9a : Hints := [([9], ⟨[], [(4, .sl 1 (.int .u8) 5004)], [], [], [], []⟩)]
noncomputable def z0P (N : Nat) : OvS (X0 gl0) where
 g R := []
 ok := fun R => fun _ h => nomatch h
noncomputable def q1C {R : Type} (N : Nat) (a0 a1 : C) (k1 : KD R) : Option R := (bif Nat.beq (List.length (C.elems a0)) (List.length (C.elems a0)) then (if (List.length (C.elems a0) + List.length (C.elems a1)) * 1 ≤ 140737488355328 ∧ List.length (C.elems a0) + List.length (C.elems a1) ≤ 9223372036854775807 then (bif Nat.beq (List.length (C.elems a0) + List.length (C.elems a1)) (List.length (C.elems a0 ++ C.elems a1)) then (k1 [C.slice (C.elems a0 ++ C.elems a1)] []) else none) else none) else none)
noncomputable def H2 {R : Type} (N : Nat) : C → C → KD R → Option R := lid "" (q1C N)
theorem z0O {R : Type} (N : Nat) (a0 a1 : C) (k : KD R) : H2 N a0 a1 k = q1C N a0 a1 k := by unfold H2; rw [w6]
theorem z7R {R : Type} (N : Nat) (a0 a1 : C) (K : V → List (Key × O) → Option R) : exF (X0 gl0) ((z0P N).ov R) s5 noX (fun f => bif Nat.beq f 150 then z9a else []) N 400 8 150 (Sh.W4 q6g 0 [a0, a1]) (z8 (u0 z0Q (Sh.q0m q6g) 0 [a0, a1] [])) K =
  H2 N a0 a1 (fun d1 m1 => K (V.ts 1 (Ty.int IntKind.u8) (C.elems (dk d1 0))) []) := by
 rw [z0O]
 exact (show _ = jn (fun d1 m1 => (bif Nat.beq (List.length (C.elems (dk d1 0))) (List.length (C.elems (dk d1 0))) then
  (K (V.ts 1 (Ty.int IntKind.u8) (C.elems (dk d1 0))) [])
 else
  none)) (q1C N a0 a1) by kernel_rfl).trans ((y4 _ _).trans (congrArg (q1C N a0 a1) (funext fun _ => funext fun _ => by simp only [Nat.beq_refl, cond_true])))
noncomputable def q4m (N : Nat) {R : Type} : OvG R := q7S q6g z0Q fun ds ms K => H2 N (dk ds 0) (dk ds 1) (fun d1 m1 => K (V.ts 1 (Ty.int IntKind.u8) (C.elems (dk d1 0))) [])
theorem z0R (N : Nat) {R : Type} : GOk (X0 gl0) 150 (q4m N (R := R)) := by
 unfold q4m
 refine q2W fun ds ms K r hr => ?_
 rw [← z7R] at hr
 exact okB (z0P N) hr
def q5s : List Sh := [.ts 1 (.int .u8), .d (.slice 4 (.int .u32))]
def q9H : List (Key × OSh) := []
noncomputable def z7S : Hints := [([1, 0, 1], ⟨[], [(0, .sl 1 (.int .u8) 5000)], [], [], [], []⟩),
  ([4, 1, 0, 1], ⟨[7, 8], [(0, .sl 1 (.int .u8) 5000), (9, .d (.int .i64))], [], [], [], []⟩),
  ([9], ⟨[], [(4, .sl 1 (.int .u8) 5004)], [], [], [], []⟩)]
noncomputable def q9G (N : Nat) : OvS (X0 gl0) where
 g R := [(148, q4l N)]
 ok := fun R => List.forall_mem_cons.2 ⟨z0J N, fun _ h => nomatch h⟩
noncomputable def q2C {R : Type} (N : Nat) (k2 : KD R) : KD R → List C → List Es → Option R := (fun k3 d1 m1 => (bif decide (C.toInt (dk d1 3) < C.toInt (dk d1 1)) then (if 0 ≤ C.toInt (dk d1 3) ∧ C.toInt (dk d1 3) < (↑(List.length (C.elems (dk d1 0))) : Int) then (bif Nat.beq (List.length (C.elems (dk d1 2))) (List.length (C.elems (dk d1 2))) then (q0k N (C.slice (C.elems (dk d1 2))) (C.int (IntKind.wrap IntKind.u64 (C.toInt (List.getD (C.elems (dk d1 0)) (Int.toNat (C.toInt (dk d1 3))) C.nil)))) (C.int 4) (fun d2 m2 => (bif Nat.beq (List.length (C.elems (dk d2 0))) (List.length (C.elems (dk d2 0))) then (k3 [dk d1 0, dk d1 1, C.slice (C.elems (dk d2 0)), C.int (IntKind.wrap IntKind.i64 (C.toInt (dk d1 3) + 1))] []) else none))) else none) else none) else (bif Nat.beq (List.length (C.elems (dk d1 2))) (List.length (C.elems (dk d1 2))) then (k2 [C.slice (C.elems (dk d1 2))] []) else none)))
noncomputable def q1b {R : Type} (N : Nat) (a0 a1 : C) (k1 : KD R) : Option R := (jn (fun d1 m1 => (bif Nat.beq (List.length (C.elems (dk d1 0))) (List.length (C.elems (dk d1 0))) then (k1 [C.slice (C.elems (dk d1 0))] []) else none)) (fun k2 => (bif Nat.beq (List.length (C.elems a0)) (List.length (C.elems a0)) then (u3 N (q2C N k2) [a1, C.int (↑(List.length (C.elems a1)) : Int), C.slice (C.elems a0), C.int 0] []) else none)))
noncomputable def W8 {R : Type} (N : Nat) : C → C → KD R → Option R := lid "" (q1b N)
theorem q9F {R : Type} (N : Nat) (a0 a1 : C) (k : KD R) : W8 N a0 a1 k = q1b N a0 a1 k := by unfold W8; rw [w6]
theorem z55 {R : Type} (N : Nat) (a0 a1 : C) (K : V → List (Key × O) → Option R) : exF (X0 gl0) ((q9G N).ov R) s5 (fun f r => bif Nat.beq f 137 then (bif Nat.beq r 4 then [(16, 1)] else []) else []) (fun f => bif Nat.beq f 137 then z7S else []) N 400 8 137 (Sh.W4 q5s 0 [a0, a1]) (z8 (u0 q9H (Sh.q0m q5s) 0 [a0, a1] [])) K =
  W8 N a0 a1 (fun d1 m1 => K (V.ts 1 (Ty.int IntKind.u8) (C.elems (dk d1 0))) []) := by
 rw [q9F]
 exact (show _ = jn (fun d1 m1 => (bif Nat.beq (List.length (C.elems (dk d1 0))) (List.length (C.elems (dk d1 0))) then
  (K (V.ts 1 (Ty.int IntKind.u8) (C.elems (dk d1 0))) [])
 else
  none)) (q1b N a0 a1) by kernel_rfl).trans ((y4 _ _).trans (congrArg (q1b N a0 a1) (funext fun _ => funext fun _ => by simp only [Nat.beq_refl, cond_true])))
noncomputable def q3g (N : Nat) {R : Type} : OvG R := q7S q5s q9H fun ds ms K => W8 N (dk ds 0) (dk ds 1) (fun d1 m1 => K (V.ts 1 (Ty.int IntKind.u8) (C.elems (dk d1 0))) [])
theorem q9I (N : Nat) {R : Type} : GOk (X0 gl0) 137 (q3g N (R := R)) := by
 unfold q3g
 refine q2W fun ds ms K r hr => ?_
 rw [← z55] at hr
 exact okB (q9G N) hr
def q6f : List Sh := [.ts 1 (.int .u8), .d (.slice 32 (.arr 32 (.int .u8)))]
def z0M : List (Key × OSh) := []
noncomputable def z89 : Hints := [([1, 0, 1], ⟨[], [(0, .sl 1 (.int .u8) 5000)], [], [], [], []⟩),
  ([4, 1, 0, 1], ⟨[7, 8], [(0, .sl 1 (.int .u8) 5000), (9, .d (.int .i64))], [], [], [], []⟩),
  ([9], ⟨[], [(4, .sl 1 (.int .u8) 5004)], [], [], [], []⟩)]
noncomputable def z0L (N : Nat) : OvS (X0 gl0) where
 g R := []
 ok := fun R => fun _ h => nomatch h
noncomputable def z0N {R : Type} (N : Nat) (k2 : KD R) : KD R → List C → List Es → Option R := (fun k3 d1 m1 => (bif decide (C.toInt (dk d1 3) < C.toInt (dk d1 1)) then (if 0 ≤ C.toInt (dk d1 3) ∧ C.toInt (dk d1 3) < (↑(List.length (C.elems (dk d1 0))) : Int) then (bif Nat.beq (List.length (C.elems (dk d1 2))) (List.length (C.elems (dk d1 2))) then (if (List.length (C.elems (dk d1 2)) + List.length (List.take 32 (List.drop 0 (C.elems (List.getD (C.elems (dk d1 0)) (Int.toNat (C.toInt (dk d1 3))) C.nil))))) * 1 ≤ 140737488355328 ∧ List.length (C.elems (dk d1 2)) + List.length (List.take 32 (List.drop 0 (C.elems (List.getD (C.elems (dk d1 0)) (Int.toNat (C.toInt (dk d1 3))) C.nil)))) ≤ 9223372036854775807 then (bif Nat.beq (List.length (C.elems (dk d1 2)) + List.length (List.take 32 (List.drop 0 (C.elems (List.getD (C.elems (dk d1 0)) (Int.toNat (C.toInt (dk d1 3))) C.nil))))) (List.length (C.elems (dk d1 2) ++ List.take 32 (List.drop 0 (C.elems (List.getD (C.elems (dk d1 0)) (Int.toNat (C.toInt (dk d1 3))) C.nil))))) then (k3 [dk d1 0, dk d1 1, C.slice (C.elems (dk d1 2) ++ List.take 32 (List.drop 0 (C.elems (List.getD (C.elems (dk d1 0)) (Int.toNat (C.toInt (dk d1 3))) C.nil)))), C.int (IntKind.wrap IntKind.i64 (C.toInt (dk d1 3) + 1))] []) else none) else none) else none) else none) else (bif Nat.beq (List.length (C.elems (dk d1 2))) (List.length (C.elems (dk d1 2))) then (k2 [C.slice (C.elems (dk d1 2))] []) else none)))
noncomputable def q1B {R : Type} (N : Nat) (a0 a1 a2 : C) (k1 : KD R) : Option R := (jn (fun d1 m1 => (bif Nat.beq (List.length (C.elems (dk d1 0))) (List.length (C.elems (dk d1 0))) then (k1 [C.slice (C.elems (dk d1 0))] []) else none)) (fun k2 => (bif Nat.beq (List.length (C.elems a0)) (List.length (C.elems a0)) then (u3 N (z0N N k2) [a1, C.int (↑(List.length (C.elems a1)) : Int), C.slice (C.elems a0), C.int 0] []) else none)))
noncomputable def q0W {R : Type} (N : Nat) : C → C → C → KD R → Option R := lid "" (q1B N)
theorem z0K {R : Type} (N : Nat) (a0 a1 a2 : C) (k : KD R) : q0W N a0 a1 a2 k = q1B N a0 a1 a2 k := by unfold q0W; rw [w6]
theorem z7Q {R : Type} (N : Nat) (a0 a1 a2 : C) (K : V → List (Key × O) → Option R) : exF (X0 gl0) ((z0L N).ov R) s5 noX (fun f => bif Nat.beq f 155 then z89 else []) N 400 8 155 (Sh.W4 q6f 0 [a0, a1, a2]) (z8 (u0 z0M (Sh.q0m q6f) 0 [a0, a1, a2] [])) K =
  q0W N a0 a1 a2 (fun d1 m1 => K (V.ts 1 (Ty.int IntKind.u8) (C.elems (dk d1 0))) []) := by
 rw [z0K]
 exact (show _ = jn (fun d1 m1 => (bif Nat.beq (List.length (C.elems (dk d1 0))) (List.length (C.elems (dk d1 0))) then
  (K (V.ts 1 (Ty.int IntKind.u8) (C.elems (dk d1 0))) [])
 else
  none)) (q1B N a0 a1 a2) by kernel_rfl).trans ((y4 _ _).trans (congrArg (q1B N a0 a1 a2) (funext fun _ => funext fun _ => by simp only [Nat.beq_refl, cond_true])))
noncomputable def q62 (N : Nat) {R : Type} : OvG R := q7S q6f z0M fun ds ms K => q0W N (dk ds 0) (dk ds 1) (dk ds 2) (fun d1 m1 => K (V.ts 1 (Ty.int IntKind.u8) (C.elems (dk d1 0))) [])
theorem z88 (N : Nat) {R : Type} : GOk (X0 gl0) 155 (q62 N (R := R)) := by
 unfold q62
 refine q2W fun ds ms K r hr => ?_
 rw [← z7Q] at hr
 exact okB (z0L N) hr
noncomputable def y4W : Hints := [([1, 0, 1, 1], ⟨[0, 7], [], [], [], [], []⟩),
  ([4, 1, 0, 1, 1], ⟨[0, 7], [(1, .d (.int .u64)), (8, .d (.int .i64))], [], [], [], []⟩),
  ([9], ⟨[], [(6, .sl 1 (.int .u8) 5006)], [], [], [], []⟩)]
noncomputable def z5P (N : Nat) : OvS (X0 gl0) where
 g R := []
 ok := fun R => fun _ h => nomatch h
noncomputable def q4C {R : Type} (N : Nat) (a2 : C) (k2 : KD R) : KD R → List C → List Es → Option R := (fun k3 d1 m1 => (bif decide (0 ≤ C.toInt (dk d1 5)) then (if 0 ≤ C.toInt (dk d1 5) ∧ C.toInt (dk d1 5) < (↑(Int.toNat (C.toInt (dk d1 2))) : Int) then (if Ty.arr (Int.toNat (C.toInt a2)) (Ty.int IntKind.u8) = Ty.arr (Int.toNat (C.toInt a2)) (Ty.int IntKind.u8) then (k3 [dk d1 0, C.int (↑(Int.toNat (C.toInt (dk d1 1))) : Int), C.int (↑(Int.toNat (C.toInt (dk d1 2))) : Int), C.int (↑(Int.toNat (C.toInt (dk d1 3))) : Int), C.int (IntKind.wrap IntKind.u64 (Int.tdiv (C.toInt (dk d1 4)) 256)), C.int (IntKind.wrap IntKind.i64 (C.toInt (dk d1 5) - 1)), C.set (dk d1 6) (Int.toNat (C.toInt (dk d1 1)) + Int.toNat (C.toInt (dk d1 5))) (C.int (IntKind.wrap IntKind.u8 (Int.tmod (C.toInt (dk d1 4)) 256)))] []) else none) else none) else (if Ty.arr (Int.toNat (C.toInt a2)) (Ty.int IntKind.u8) = Ty.arr (Int.toNat (C.toInt a2)) (Ty.int IntKind.u8) then (k2 [dk d1 0, C.int (↑(Int.toNat (C.toInt (dk d1 1))) : Int), C.int (↑(Int.toNat (C.toInt (dk d1 2))) : Int), C.int (↑(Int.toNat (C.toInt (dk d1 3))) : Int), dk d1 6] []) else none)))
noncomputable def q4B {R : Type} (N : Nat) (a0 a1 a2 : C) (k1 : KD R) : Option R := (if 0 ≤ C.toInt a2 ∧ C.toInt a2 ≤ C.toInt a2 ∧ C.toInt a2 ≤ 9223372036854775807 ∧ Int.toNat (C.toInt a2) * 1 ≤ 140737488355328 then (jn (fun d1 m1 => (bif Nat.beq (List.length (C.elems (dk d1 0))) (List.length (C.elems (dk d1 0))) then (if (List.length (C.elems (dk d1 0)) + List.length (List.take (Int.toNat (C.toInt (dk d1 2))) (List.drop (Int.toNat (C.toInt (dk d1 1))) (C.elems (dk d1 4))))) * 1 ≤ 140737488355328 ∧ List.length (C.elems (dk d1 0)) + List.length (List.take (Int.toNat (C.toInt (dk d1 2))) (List.drop (Int.toNat (C.toInt (dk d1 1))) (C.elems (dk d1 4)))) ≤ 9223372036854775807 then (bif Nat.beq (List.length (C.elems (dk d1 0)) + List.length (List.take (Int.toNat (C.toInt (dk d1 2))) (List.drop (Int.toNat (C.toInt (dk d1 1))) (C.elems (dk d1 4))))) (List.length (C.elems (dk d1 0) ++ List.take (Int.toNat (C.toInt (dk d1 2))) (List.drop (Int.toNat (C.toInt (dk d1 1))) (C.elems (dk d1 4))))) then (k1 [C.slice (C.elems (dk d1 0) ++ List.take (Int.toNat (C.toInt (dk d1 2))) (List.drop (Int.toNat (C.toInt (dk d1 1))) (C.elems (dk d1 4))))] []) else none) else none) else none)) (fun k2 => (if Ty.arr (Int.toNat (C.toInt a2)) (Ty.int IntKind.u8) = Ty.arr (Int.toNat (C.toInt a2)) (Ty.int IntKind.u8) then (u3 N (q4C N a2 k2) [a0, C.int 0, C.int (↑(Int.toNat (C.toInt a2)) : Int), C.int (↑(Int.toNat (C.toInt a2)) : Int), a1, C.int (IntKind.wrap IntKind.i64 (C.toInt a2 - 1)), C.agg (List.replicate (Int.toNat (C.toInt a2)) (z0 (Ty.int IntKind.u8)))] []) else none))) else none)
noncomputable def Q7 {R : Type} (N : Nat) : C → C → C → KD R → Option R := lid "" (q4B N)
theorem z5O {R : Type} (N : Nat) (a0 a1 a2 : C) (k : KD R) : Q7 N a0 a1 a2 k = q4B N a0 a1 a2 k := by unfold Q7; rw [w6]
theorem y3z {R : Type} (N : Nat) (a0 a1 a2 : C) (K : V → List (Key × O) → Option R) : exF (X0 gl0) ((z5P N).ov R) s5 noX (fun f => bif Nat.beq f 99 then y4W else []) N 400 8 99 [.d (.slice 1 (.int .u8)) a0, .d (.int .u64) a1, .d (.int .i64) a2] A0 K =
  Q7 N a0 a1 a2 (fun d1 m1 => K (V.ts 1 (Ty.int IntKind.u8) (C.elems (dk d1 0))) []) := by
 rw [z5O]
 exact (show _ = jn (fun d1 m1 => (bif Nat.beq (List.length (C.elems (dk d1 0))) (List.length (C.elems (dk d1 0))) then
  (K (V.ts 1 (Ty.int IntKind.u8) (C.elems (dk d1 0))) [])
 else
  none)) (q4B N a0 a1 a2) by kernel_rfl).trans ((y4 _ _).trans (congrArg (q4B N a0 a1 a2) (funext fun _ => funext fun _ => by simp only [Nat.beq_refl, cond_true])))
noncomputable def q3Z (N : Nat) {R : Type} : OvG R := fun xs _ K => match xs with
 | [.d t0 a0, .d t1 a1, .d t2 a2] => if t0 = (.slice 1 (.int .u8)) ∧ t1 = (.int .u64) ∧ t2 = (.int .i64) then Q7 N a0 a1 a2 (fun d1 m1 => K (V.ts 1 (Ty.int IntKind.u8) (C.elems (dk d1 0))) []) else none
 | _ => none
theorem q6O (N : Nat) {R : Type} : GOk (X0 gl0) 99 (q3Z N (R := R)) := by
 intro xs A Kr r hr
 unfold q3Z at hr
 split at hr
 ·simp only [Option.ite_none_right_eq_some] at hr
  obtain ⟨hty, hr⟩ := hr
  obtain ⟨rfl, rfl, rfl⟩ := hty
  rw [← y3z] at hr
  exact okA (z5P N) hr
 ·cases hr
end Go.Proofs.YtgdonkaoajbclaaGreatDoor
namespace Go.Proofs.YtgdonkaoajbclaaGreatDoor
open Go Go.E
set_option maxRecDepth 100000
set_option maxHeartbeats 4000000
set_option linter.unusedSimpArgs false
variable {R : Type} {N : Nat}
def W64 (a : Int) : Prop := 0 ≤ a ∧ a < 18446744073709551616
theorem wrap_u8 (x : Int) : IntKind.u8.wrap x = x % 256 := by simp [IntKind.wrap, IntKind.bits, IntKind.signed]
theorem wrap_i64 {n : Int} (h : -9223372036854775808 ≤ n) (h2 : n < 9223372036854775808) : IntKind.i64.wrap n = n := IntWalk.i64_in _ (by omega)
def J7 : Nat → Int → List C
 | 0, _ => []
 | k + 1, n => J7 k (n / 256) ++ [.int (n % 256)]
theorem Z4 : ∀ (k : Nat) (n : Int), (J7 k n).length = k
 | 0, _ => rfl
 | k + 1, n => by simp [J7, Z4 k]
theorem y2B : ∀ (k : Nat) (n : Int), J7 (k + 1) n = .int (n / 256 ^ k % 256) :: J7 k n
 | 0, n => by simp [J7]
 | k + 1, n => by
  have e : n / 256 / 256 ^ k = n / 256 ^ (k + 1) := by
   rw [Int.ediv_ediv_of_nonneg (by omega), Int.pow_succ, Int.mul_comm]
  rw [J7, y2B k (n / 256), e]
  rfl
theorem z53 (k2 : KD R) (c : C) (hc : 0 ≤ c.toInt) : ∀ (m : Nat) (out : List C) (N' : Nat), m ≤ 8 → m < N' → out.length + m ≤ 1000000000000 →
  u3 N' (q1A N k2) [c, .slice out, .int ((m : Int) - 1)] [] = k2 [.slice (out ++ J7 m c.toInt)] []
 | 0, out, N', _, hN, _ => by
  obtain ⟨n, rfl⟩ : ∃ n, N' = n + 1 := ⟨N' - 1, by omega⟩
  rw [Z5]
  unfold q1A
  simp [go_sem, y8, y7, J7]
 | m + 1, out, N', hm, hN, hl => by
  obtain ⟨n, rfl⟩ : ∃ n, N' = n + 1 := ⟨N' - 1, by omega⟩
  have e0 : ((m + 1 : Nat) : Int) - 1 = m := by omega
  have e1 : IntKind.i64.wrap (8 * (m : Int)) = 8 * m := wrap_i64 (by omega) (by omega)
  have e2 : IntKind.i64.wrap ((m : Int) - 1) = m - 1 := wrap_i64 (by omega) (by omega)
  have e3 : min (8 * (m : Int)).toNat 64 = 8 * m := by omega
  have e4 : Int.fdiv c.toInt (2 ^ (8 * m)) = c.toInt / 256 ^ m := by
   rw [Int.fdiv_eq_ediv_of_nonneg _ (Int.pow_nonneg (by omega)), Int.pow_mul]; rfl
  have h1 : (0 : Int) ≤ 8 * m := by omega
  have h2 : (out.length + 1) * 1 ≤ 140737488355328 ∧ out.length + 1 ≤ 9223372036854775807 := by omega
  have hb : ∀ rec : KD R, q1A N k2 rec [c, .slice out, .int m] [] = rec [c, .slice (out ++ [.int (c.toInt / 256 ^ m % 256)]), .int ((m : Int) - 1)] [] := by
   intro rec
   unfold q1A
   simp only [x9, w7, w9, y8, y7, e1, e2, e3, e4, wrap_u8, h1, h2, and_self, if_true, Int.natCast_nonneg, decide_true, cond_true, Nat.beq_refl, List.length_append, List.length_cons, List.length_nil, Nat.zero_add]
  rw [Z5, e0, hb]
  rw [z53 k2 c hc m _ n (by omega) (by omega) (by simp; omega), y2B]
  simp
theorem y0b (out : List C) (c : C) (hc : 0 ≤ c.toInt) (m : Nat) (hm : m ≤ 8) (hl : out.length + m ≤ 1000000000000) (hN : 100 < N) (k : KD R) :
  q0k N (.slice out) c (.int m) k = k [.slice (out ++ J7 m c.toInt)] [] := by
 rw [z0G]
 unfold q1z
 simp only [y4, y8, y7, x9, Nat.beq_refl, cond_true]
 rw [wrap_i64 (by omega) (by omega), z53 _ c hc m out N hm (by omega) hl]
 rfl
theorem y0c (out l : List C) (hl : out.length + l.length ≤ 1000000000000) (k : KD R) : H2 N (.slice out) (.slice l) k = k [.slice (out ++ l)] [] := by
 rw [z0O]
 unfold q1C
 simp only [y7, Nat.beq_refl, cond_true, List.length_append]
 rw [if_pos (by omega)]
def q0d (k : Nat) (l : List C) : List C := l.flatMap fun c => J7 k c.toInt
theorem y0f {k : Nat} {l : List C} {i : Nat} (h : i < l.length) : q0d k (l.take (i + 1)) = q0d k (l.take i) ++ J7 k (l.getD i .nil).toInt := by
 have : l.take (i + 1) = l.take i ++ [l.getD i .nil] := by
  rw [List.take_add_one, List.getElem?_eq_getElem h, List.getD_eq_getElem?_getD, List.getElem?_eq_getElem h]; rfl
 rw [this]; simp [q0d]
theorem z57 (k : Nat) : ∀ l : List C, (q0d k l).length = k * l.length
 | [] => rfl
 | c :: l => by
  have := z57 k l
  simp only [q0d, List.flatMap_cons, List.length_append, Z4, List.length_cons] at this ⊢
  rw [this, Nat.mul_succ]; omega
theorem q3s {l : List C} {i : Nat} (h : i < l.length) : l.getD i .nil ∈ l := by
 rw [List.getD_eq_getElem?_getD, List.getElem?_eq_getElem h]; exact List.getElem_mem h
theorem q60 (out l : List C) (hc : ∀ c ∈ l, 0 ≤ c.toInt) (hl : out.length + 8 * l.length ≤ 1000000000000) (hN : l.length + 100 < N) (k : KD R) :
  Y1 N (.slice out) (.slice l) k = k [.slice (out ++ q0d 8 l)] [] := by
 rw [q8Z]
 unfold q0M
 simp only [y4, y8, y7, x9, Nat.beq_refl, cond_true]
 have key := q2v (F := q2i N fun d1 m1 => k [.slice (dk d1 0).elems] []) (fun i => [.slice l, .int l.length, .slice (out ++ q0d 8 (l.take i)), .int i]) (fun _ => []) l.length (k [.slice (out ++ q0d 8 l)] []) ?_ ?_ (N := N) (by omega)
 ·simpa [q0d] using key
 ·intro i hi rec
  have h1 : (i : Int) < (l.length : Int) := by omega
  unfold q2i
  simp only [x9, w7, w9, u6, y8, y7, h1, decide_true, cond_true, Int.natCast_nonneg, and_self, if_true, Nat.beq_refl, Int.toNat_natCast]
  rw [show C.int 8 = C.int ((8 : Nat) : Int) from rfl, y0b _ _ (hc _ (q3s hi)) 8 (by omega) (by simp [z57]; omega) (by omega)]
  simp only [x9, y7, Nat.beq_refl, cond_true, y0f hi, u5 (show i < 4611686018427387904 by omega), List.append_assoc]
 ·intro rec
  unfold q2i
  simp only [x9, w7, w9, u6, y8, y7, Int.lt_irrefl, decide_false, cond_false, Nat.beq_refl, cond_true, List.take_length]
theorem z8j (out l : List C) (hc : ∀ c ∈ l, 0 ≤ c.toInt ∧ c.toInt < 18446744073709551616) (hl : out.length + 4 * l.length ≤ 1000000000000) (hN : l.length + 100 < N) (k : KD R) :
  W8 N (.slice out) (.slice l) k = k [.slice (out ++ q0d 4 l)] [] := by
 rw [q9F]
 unfold q1b
 simp only [y4, y8, y7, x9, Nat.beq_refl, cond_true]
 have key := q2v (F := q2C N fun d1 m1 => k [.slice (dk d1 0).elems] []) (fun i => [.slice l, .int l.length, .slice (out ++ q0d 4 (l.take i)), .int i]) (fun _ => []) l.length (k [.slice (out ++ q0d 4 l)] []) ?_ ?_ (N := N) (by omega)
 ·simpa [q0d] using key
 ·intro i hi rec
  have h1 : (i : Int) < (l.length : Int) := by omega
  have h2 := hc _ (q3s hi)
  unfold q2C
  simp only [x9, w7, w9, u6, y8, y7, h1, decide_true, cond_true, Int.natCast_nonneg, and_self, if_true, Nat.beq_refl, Int.toNat_natCast]
  rw [wrap_u64 h2.1 h2.2, show C.int 4 = C.int ((4 : Nat) : Int) from rfl, y0b _ _ (by simpa [y8] using h2.1) 4 (by omega) (by simp [z57]; omega) (by omega)]
  simp only [x9, y8, y7, Nat.beq_refl, cond_true, y0f hi, u5 (show i < 4611686018427387904 by omega), List.append_assoc]
 ·intro rec
  unfold q2C
  simp only [x9, w7, w9, u6, y8, y7, Int.lt_irrefl, decide_false, cond_false, Nat.beq_refl, cond_true, List.take_length]
theorem y8T (out : List C) (c x : C) (hc : c.elems.length = 32) (hl : out.length + 32 ≤ 1000000000000) (hN : 100 < N) (k : KD R) :
  q0W N (.slice out) (.slice [c]) x k = k [.slice (out ++ c.elems)] [] := by
 obtain ⟨n, rfl⟩ : ∃ n, N = n + 2 := ⟨N - 2, by omega⟩
 have e1 : c.elems.take 32 = c.elems := by rw [List.take_of_length_le (by omega)]
 have w1 : IntKind.i64.wrap (0 + 1) = 1 := by decide
 rw [z0K]
 unfold q1B
 simp only [y4, y8, y7, x9, Nat.beq_refl, cond_true]
 rw [Z5]
 unfold z0N
 simp only [x9, w7, w9, u6, y8, y7, List.length_cons, List.length_nil, Nat.zero_add, List.getD_cons_zero, Int.toNat_zero, List.drop_zero, e1, hc, Nat.beq_refl, cond_true, List.length_append, w1]
 rw [if_pos (by omega), Z5]
 simp [go_sem, y8, y7]
 intro h
 omega
theorem y2w (a0 : C) (S : Nat) (k2 : KD R) : ∀ (m : Nat) (c : C) (X : List C) (N' : Nat), m ≤ S → S ≤ 8 → m < N' → W64 c.toInt →
  u3 N' (q4C N (.int S) k2) [a0, .int 0, .int S, .int S, c, .int ((m : Int) - 1), .agg (List.replicate m (.int 0) ++ X)] [] = k2 [a0, .int 0, .int S, .int S, .agg (J7 m c.toInt ++ X)] []
 | 0, c, X, N', _, _, hN, _ => by
  obtain ⟨n', rfl⟩ : ∃ n, N' = n + 1 := ⟨N' - 1, by omega⟩
  rw [Z5]
  unfold q4C
  simp [go_sem, y8, y7, J7]
 | m + 1, c, X, N', hm, hS, hN, hn => by
  generalize hcn : c.toInt = n at hn ⊢
  obtain ⟨n', rfl⟩ : ∃ n, N' = n + 1 := ⟨N' - 1, by omega⟩
  have e0 : ((m + 1 : Nat) : Int) - 1 = m := by omega
  have e2 : IntKind.i64.wrap ((m : Int) - 1) = m - 1 := wrap_i64 (by omega) (by omega)
  have e3 : Int.tdiv n 256 = n / 256 := Int.tdiv_eq_ediv_of_nonneg hn.1
  have e4 : Int.tmod n 256 = n % 256 := Int.tmod_eq_emod_of_nonneg hn.1
  have e5 : IntKind.u64.wrap (n / 256) = n / 256 := wrap_u64 (by have := hn.1; omega) (by have := hn.2; omega)
  have h1 : (m : Int) < (S : Int) := by omega
  have e6 : C.set (.agg (List.replicate (m + 1) (.int 0) ++ X)) m (.int (n % 256 % 256)) = .agg (List.replicate m (.int 0) ++ (.int (n % 256) :: X)) := by
   have : List.replicate (m + 1) (C.int 0) ++ X = List.replicate m (C.int 0) ++ (.int 0 :: X) := by rw [List.replicate_succ']; simp
   rw [this]
   simp [C.set, List.set_append]
  have hb : ∀ rec : KD R, q4C N (.int S) k2 rec [a0, .int 0, .int S, .int S, c, .int m, .agg (List.replicate (m + 1) (.int 0) ++ X)] [] =
    rec [a0, .int 0, .int S, .int S, .int (n / 256), .int ((m : Int) - 1), .agg (List.replicate m (.int 0) ++ (.int (n % 256) :: X))] [] := by
   intro rec
   unfold q4C
   simp only [x9, w7, w9, u6, j3, F3, q2x, y8, hcn, Int.natCast_nonneg, decide_true, cond_true, Int.toNat_natCast, h1, and_self, if_true, Int.toNat_zero, Nat.zero_add, e2, e3, e4, e5, wrap_u8, e6]
   rfl
  rw [Z5, e0, hb, y2w a0 S k2 m (.int (n / 256)) _ n' (by omega) hS (by omega) (by simp only [y8]; exact ⟨by have := hn.1; omega, by have := hn.2; omega⟩)]
  simp [J7, y8]
theorem z0e (out : List C) (c : C) (hn : W64 c.toInt) (S : Nat) (hS : S ≤ 8) (hl : out.length + S ≤ 1000000000000) (hN : 100 < N) (k : KD R) :
  Q7 N (.slice out) c (.int S) k = k [.slice (out ++ J7 S c.toInt)] [] := by
 rw [z5O]
 unfold q4B
 simp only [y4, y8, y7, if_true, Int.toNat_natCast]
 rw [if_pos (by omega), wrap_i64 (by omega) (by omega)]
 have := y2w (N := N) (.slice out) S (fun d1 m1 => (bif Nat.beq (List.length (C.elems (dk d1 0))) (List.length (C.elems (dk d1 0))) then
    (if (List.length (C.elems (dk d1 0)) +
    List.length
     (List.take (Int.toNat (C.toInt (dk d1 2))) (List.drop (Int.toNat (C.toInt (dk d1 1))) (C.elems (dk d1 4))))) *
   1 ≤
  140737488355328 ∧
 List.length (C.elems (dk d1 0)) +
   List.length
    (List.take (Int.toNat (C.toInt (dk d1 2))) (List.drop (Int.toNat (C.toInt (dk d1 1))) (C.elems (dk d1 4)))) ≤
  9223372036854775807 then
     (bif Nat.beq
 (List.length (C.elems (dk d1 0)) +
  List.length
   (List.take (Int.toNat (C.toInt (dk d1 2))) (List.drop (Int.toNat (C.toInt (dk d1 1))) (C.elems (dk d1 4)))))
 (List.length
  (C.elems (dk d1 0) ++
   List.take (Int.toNat (C.toInt (dk d1 2))) (List.drop (Int.toNat (C.toInt (dk d1 1))) (C.elems (dk d1 4))))) then
      (k [C.slice
  (C.elems (dk d1 0) ++
   List.take (Int.toNat (C.toInt (dk d1 2))) (List.drop (Int.toNat (C.toInt (dk d1 1))) (C.elems (dk d1 4))))] [])
     else
      none)
    else
     none)
   else
    none)) S c [] N (Nat.le_refl _) hS (by omega) hn
 rw [List.append_nil] at this
 refine Eq.trans this ?_
 have e1 : (J7 S c.toInt).take S = J7 S c.toInt := by rw [List.take_of_length_le (by rw [Z4]; omega)]
 simp only [List.append_nil, x9, w7, w9, j3, y8, y7, q3v, Int.toNat_natCast, Int.toNat_zero, List.drop_zero, e1, List.length_append, Z4, Nat.beq_refl, cond_true]
 rw [if_pos (by omega)]
end Go.Proofs.YtgdonkaoajbclaaGreatDoor
namespace Go.Proofs.YtgdonkaoajbclaaGreatDoor
open Go Go.E
set_option maxRecDepth 100000
set_option maxHeartbeats 4000000
set_option linter.unusedSimpArgs false
variable {R : Type} {N : Nat}
theorem q4N {F : KD R → KD R → List C → List Es → Option R} (inv : Nat → List C → Prop) (P : List C → Prop)
  (step : ∀ n st, inv n st → (∃ st' n', n' < n ∧ inv n' st' ∧ ∀ k rec : KD R, F k rec st [] = rec st' []) ∨ (∃ d, P d ∧ ∀ k rec : KD R, F k rec st [] = k d [])) :
  ∀ (m n : Nat) (st : List C) (N : Nat), n ≤ m → inv n st → n < N → ∃ d, P d ∧ ∀ k : KD R, u3 N (F k) st [] = k d []
 | m, n, st, N, hm, hi, hN => by
  obtain ⟨N, rfl⟩ : ∃ a, N = a + 1 := ⟨N - 1, by omega⟩
  rcases step n st hi with ⟨st', n', h1, h2, h3⟩ | ⟨d, h1, h2⟩
  ·match m with
   | 0 => omega
   | m + 1 =>
    obtain ⟨d, h4, h5⟩ := q4N inv P step m n' st' N (by omega) h2 (by omega)
    exact ⟨d, h4, fun k => by rw [Z5, h3, h5]⟩
  ·exact ⟨d, h1, fun k => by rw [Z5, h2]⟩
theorem j6 {F : KD R → KD R → List C → List Es → Option R} (n : Nat) (inv : Nat → List C → Prop) (P : List C → Prop)
  (step : ∀ i st, i < n → inv i st → ∃ st', inv (i + 1) st' ∧ ∀ k rec : KD R, F k rec st [] = rec st' [])
  (stop : ∀ st, inv n st → ∃ d, P d ∧ ∀ k rec : KD R, F k rec st [] = k d [])
  {N : Nat} (hN : n < N) {st : List C} (h0 : inv 0 st) : ∃ d, P d ∧ ∀ k : KD R, u3 N (F k) st [] = k d [] := by
 refine q4N (fun m st => ∃ i, i + m = n ∧ inv i st) P (fun m st hi => ?_) n n st N (Nat.le_refl n) ⟨0, by omega, h0⟩ hN
 obtain ⟨i, h1, h2⟩ := hi
 by_cases e : i = n
 ·subst e; exact .inr (stop st h2)
 ·obtain ⟨st', h3, h4⟩ := step i st (by omega) h2
  exact .inl ⟨st', m - 1, by omega, ⟨i + 1, by omega, h3⟩, h4⟩
theorem q3S (x : Int) : 0 ≤ IntKind.u64.wrap x ∧ IntKind.u64.wrap x < 18446744073709551616 := by
 have : IntKind.u64.wrap x = x % 18446744073709551616 := by simp [IntKind.wrap, IntKind.bits, IntKind.signed]
 omega
theorem z5D (x : C) (k : Int) : ∃ n : Int, ∀ k' : KD R, Z0 N x (.int k) k' = k' [.int n] [] :=
 ⟨_, fun k' => by
  rw [q4p]
  unfold q0f
  rw [if_pos (q3S _).1]⟩
theorem z1w (x : C) (a b c : Int) (f : Bool) (hc : 0 ≤ c) : ∃ n : Int, ∀ k : KD R, q0l N x (.int a) (.int b) (.int c) (.bool f) k = k [.int n] [] := by
 obtain ⟨n1, h1⟩ := z5D (R := R) (N := N) x (IntKind.wrap IntKind.i64 (0 - c))
 obtain ⟨n2, h2⟩ := z5D (R := R) (N := N) x (IntKind.wrap IntKind.i64 (0 - a))
 obtain ⟨n3, h3⟩ := z5D (R := R) (N := N) x (IntKind.wrap IntKind.i64 (0 - b))
 cases f
 ·refine ⟨?v1, fun k => ?eq1⟩
  case eq1 =>
   rw [q9t]
   unfold q3M
   simp only [y4, x9, w7, w9, u6, y8, p9, h1, h2, h3, cond_false]
   rfl
 ·refine ⟨?v2, fun k => ?eq2⟩
  case eq2 =>
   rw [q9t]
   unfold q3M
   simp only [y4, x9, w7, w9, u6, y8, p9, h1, h2, h3, cond_true, if_pos hc]
   rfl
theorem x1i (l : List C) (hl : 4 ≤ l.length) (hN : 10 < N) : ∃ n : Int, ∀ k : KD R, q38 N (.slice l) k = k [.int n] [] := by
 have hc : (cut l 0 4).length = 4 := by simp [cut]; omega
 have key := j6 (R := R) (F := fun k2 => q7g N k2) 4 (fun i st => ∃ x : Int, st = [.slice (cut l 0 4), .int 4, .int x, .int i]) (fun d => ∃ n : Int, d = [.int n]) ?_ ?_ (N := N) (by omega) (st := [.slice (cut l 0 4), .int 4, .int 0, .int (0 : Nat)]) ⟨0, rfl⟩
 ·obtain ⟨d, ⟨n, rfl⟩, h⟩ := key
  refine ⟨n, fun k => ?_⟩
  rw [z6m]
  unfold q7f
  have h4 : (4 : Int) ≤ (l.length : Int) := by omega
  simp only [y7, hc, h4, y4]
  rw [if_pos ⟨by decide, by decide, trivial⟩]
  exact h _
 ·rintro i st hi ⟨x, rfl⟩
  refine ⟨_, ⟨?x3, rfl⟩, fun k rec => ?eq3⟩
  case eq3 =>
   have h1 : (i : Int) < 4 := by omega
   have h2 : (i : Int) < ((4 : Nat) : Int) := by omega
   unfold q7g
   simp only [x9, w7, w9, u6, y8, y7, hc, h1, h2, decide_true, cond_true, Int.natCast_nonneg, and_self, if_true, u5 (show i < 4611686018427387904 by omega)]
   rfl
 ·rintro st ⟨x, rfl⟩
  refine ⟨_, ⟨x, rfl⟩, fun k rec => ?_⟩
  unfold q7g
  have h : ¬ ((4 : Nat) : Int) < 4 := by decide
  simp only [x9, w7, w9, u6, y8, h, decide_false, cond_false]
theorem U9 (x m : Int) (hx : 0 ≤ x) (hm : 0 < m) : 0 ≤ Int.tmod x m ∧ Int.tmod x m < m := ⟨Int.tmod_nonneg _ hx, Int.tmod_lt_of_pos _ hm⟩
theorem x0K (s n : C) (w : List C) (hw : w.length = 64) (hN : 100 < N) : ∃ s', ∀ k : KD R, q0u N (.agg [s, .agg w, n]) k = k [.agg [s', .agg w, n]] [] := by
 obtain ⟨d1, ⟨x1, rfl⟩, h1⟩ := j6 (R := R) (F := fun k2 => q2k N k2) 16 (fun i st => ∃ x : C, st = [.int i, .agg [s, .agg w, n], x]) (fun d => ∃ x : C, d = [.agg [s, .agg w, n], x])
  (fun i st hi hst => by
   obtain ⟨x, rfl⟩ := hst
   have e1 : (i : Int) < 16 := by omega
   have e2 : IntKind.i64.wrap (4 * (i : Int)) = 4 * i := wrap_i64 (by omega) (by omega)
   have c1 : 0 ≤ 4 * (i : Int) ∧ 4 * (i : Int) ≤ 64 ∧ Int.ofNat 64 ≤ 64 := ⟨by omega, by omega, by decide⟩
   obtain ⟨v, hv⟩ := x1i (R := R) (N := N) (List.take (64 - 4 * (i : Int)).toNat (List.drop (4 * (i : Int)).toNat w)) (by simp; omega) (by omega)
   refine ⟨_, ⟨?x4, rfl⟩, fun k rec => ?eq4⟩
   case eq4 =>
    unfold q2k
    simp only [x9, w7, w9, y8, e1, e2, decide_true, cond_true, Int.natCast_nonneg, and_self, if_true, q29, q3v, hv, c1, u5 (show i < 4611686018427387904 by omega)]
    rfl)
  (fun st hst => by
   obtain ⟨x, rfl⟩ := hst
   refine ⟨_, ⟨x, rfl⟩, fun k rec => ?_⟩
   unfold q2k
   have h : ¬ ((16 : Nat) : Int) < 16 := by decide
   simp only [x9, w7, w9, y8, h, decide_false, cond_false])
  (N := N) (by omega) (st := [.int (0 : Nat), .agg [s, .agg w, n], z0 (.arr 16 (.int .u32))]) ⟨_, rfl⟩
 obtain ⟨st0, hst0⟩ : ∃ x : C, ∀ k : KD R, q20 N k = k [x] [] := ⟨_, fun k => by rw [z4L]; unfold q53; rfl⟩
 obtain ⟨d2, ⟨x2, rfl⟩, h2⟩ := j6 (R := R) (F := fun k2 => q0N N k2) 64 (fun i st => ∃ x y : C, st = [st0, .int i, .agg [s, .agg w, n], x, y]) (fun d => ∃ y : C, d = [.agg [s, .agg w, n], y])
  (fun i st hi hst => by
   obtain ⟨x, y, rfl⟩ := hst
   have e1 : (i : Int) < 64 := by omega
   have r0 := U9 (i : Int) 16 (by omega) (by omega)
   have q1 : IntKind.i64.wrap ((i : Int) + 1) = i + 1 := wrap_i64 (by omega) (by omega)
   have q9 : IntKind.i64.wrap ((i : Int) + 9) = i + 9 := wrap_i64 (by omega) (by omega)
   have q14 : IntKind.i64.wrap ((i : Int) + 14) = i + 14 := wrap_i64 (by omega) (by omega)
   have r1 := U9 ((i : Int) + 1) 16 (by omega) (by omega)
   have r9 := U9 ((i : Int) + 9) 16 (by omega) (by omega)
   have r14 := U9 ((i : Int) + 14) 16 (by omega) (by omega)
   obtain ⟨a1, ha1⟩ := z1w (R := R) (N := N) (C.get y (Int.toNat 4)) 6 11 25 false (by omega)
   obtain ⟨a2, ha2⟩ := z1w (R := R) (N := N) (C.get y (Int.toNat 0)) 2 13 22 false (by omega)
   obtain ⟨a3, ha3⟩ := z1w (R := R) (N := N) (C.get x (Int.toNat (Int.tmod ((i : Int) + 1) 16))) 7 18 3 true (by omega)
   obtain ⟨a4, ha4⟩ := z1w (R := R) (N := N) (C.get x (Int.toNat (Int.tmod ((i : Int) + 14) 16))) 17 19 10 true (by omega)
   have e5 : ((i + 1 : Nat) : Int) = (i : Int) + 1 := by omega
   by_cases e2 : 16 ≤ (i : Int)
   ·refine ⟨_, ⟨?x5, ?y5, rfl⟩, fun k rec => ?eq5⟩
    case eq5 =>
     unfold q0N
     simp only [y4, x9, w7, w9, u6, j3, F3, q2x, y8, e1, e2, q1, q9, q14, r0, r1, r9, r14, decide_true, cond_true, Int.natCast_nonneg, and_self, if_true, ha1, ha2, ha3, ha4, e5]
     rfl
   ·refine ⟨_, ⟨?x6, ?y6, rfl⟩, fun k rec => ?eq6⟩
    case eq6 =>
     unfold q0N
     simp only [y4, x9, w7, w9, u6, j3, F3, q2x, y8, e1, e2, q1, r0, decide_true, decide_false, cond_true, cond_false, Int.natCast_nonneg, and_self, if_true, ha1, ha2, e5]
     rfl)
  (fun st hst => by
   obtain ⟨x, y, rfl⟩ := hst
   refine ⟨_, ⟨y, rfl⟩, fun k rec => ?_⟩
   unfold q0N
   have h : ¬ ((64 : Nat) : Int) < 64 := by decide
   simp only [x9, w7, w9, u6, j3, y8, h, decide_false, cond_false])
  (N := N) (by omega) (st := [st0, .int (0 : Nat), .agg [s, .agg w, n], x1, s]) ⟨_, _, rfl⟩
 obtain ⟨d3, ⟨x3, rfl⟩, h3⟩ := j6 (R := R) (F := fun k2 => q2l N k2) 8 (fun i st => ∃ x : C, st = [.int i, .agg [x, .agg w, n], x2]) (fun d => ∃ x : C, d = [.agg [x, .agg w, n]])
  (fun i st hi hst => by
   obtain ⟨x, rfl⟩ := hst
   have e1 : (i : Int) < 8 := by omega
   refine ⟨_, ⟨?x7, rfl⟩, fun k rec => ?eq7⟩
   case eq7 =>
    unfold q2l
    simp only [x9, w7, w9, y8, e1, decide_true, cond_true, Int.natCast_nonneg, and_self, if_true, q4v, u5 (show i < 4611686018427387904 by omega)]
    rfl)
  (fun st hst => by
   obtain ⟨x, rfl⟩ := hst
   refine ⟨_, ⟨x, rfl⟩, fun k rec => ?_⟩
   unfold q2l
   have h : ¬ ((8 : Nat) : Int) < 8 := by decide
   simp only [x9, w7, w9, y8, h, decide_false, cond_false])
  (N := N) (by omega) (st := [.int (0 : Nat), .agg [s, .agg w, n], x2]) ⟨_, rfl⟩
 refine ⟨x3, fun k => ?_⟩
 rw [q84]
 unfold q2j
 simp only [y4]
 refine (h1 _).trans ?_
 simp only [hst0, x9, w7, q1n]
 refine (h2 _).trans ?_
 simp only [x9, w7]
 exact (h3 _).trans rfl
def q6a (m : C) : Prop := ∃ (s : C) (w : List C) (n : Int), m = .agg [s, .agg w, .int n] ∧ w.length = 64 ∧ W64 n
theorem y1H (l : List C) (m : C) (hm : q6a m) (hN : l.length + 100 < N) : ∃ m', q6a m' ∧ ∀ k : KD R, H3 N (.slice l) m k = k [m'] [] := by
 obtain ⟨d, ⟨m', h1, rfl⟩, h⟩ := q4N (R := R) (F := fun k2 => q1E N k2) (fun n st => ∃ (l : List C) (m : C), st = [.slice l, m] ∧ q6a m ∧ l.length ≤ n) (fun d => ∃ m', q6a m' ∧ d = [m'])
  (fun n st hst => by
   obtain ⟨l, m, rfl, ⟨s, w, a, rfl, hw, ha⟩, hl⟩ := hst
   by_cases e : 0 < (l.length : Int)
   ·left
    have r := U9 a 64 ha.1 (by omega)
    generalize hq : Int.tmod a 64 = q at *
    have cw : (q1h w q.toNat (64 - q).toNat l).length = 64 := by rw [z1o (by omega)]; exact hw
    have c1 : 0 < (64 - q).toNat := by omega
    generalize hp : min l.length (64 - q).toNat = p at *
    have c2 : 0 ≤ (p : Int) ∧ (p : Int) ≤ (l.length : Int) ∧ (l.length : Int) ≤ (l.length : Int) := by omega
    have c3 : 0 ≤ q ∧ q ≤ 64 ∧ Int.ofNat 64 ≤ 64 := ⟨r.1, by omega, by decide⟩
    obtain ⟨s', hs'⟩ := x0K (R := R) (N := N) s (.int (IntKind.u64.wrap (a + IntKind.u64.wrap (p : Int)))) _ cw (by omega)
    have wn := q3S (a + IntKind.u64.wrap (p : Int))
    have cl : (cut l (p : Int) (l.length : Int)).length < l.length := by simp [cut]; omega
    by_cases z : Int.tmod (IntKind.u64.wrap (a + IntKind.u64.wrap (p : Int))) 64 = 0
    ·refine ⟨_, (cut l (p : Int) (l.length : Int)).length, by omega, ⟨cut l (p : Int) (l.length : Int), _, rfl, ⟨?s8, _, _, rfl, cw, wn⟩, Nat.le_refl _⟩, fun k rec => ?eq8⟩
     case eq8 =>
      unfold q1E
      simp only [y4, x9, w7, y8, y7, q3v, q1n, q29, q6u, q4v, q6o, z1x, e, hq, hp, c1, c2, c3, z, decide_true, cond_true, and_self, if_true, hs']
      rfl
    ·refine ⟨_, (cut l (p : Int) (l.length : Int)).length, by omega, ⟨cut l (p : Int) (l.length : Int), _, rfl, ⟨?s9, _, _, rfl, cw, wn⟩, Nat.le_refl _⟩, fun k rec => ?eq9⟩
     case eq9 =>
      unfold q1E
      simp only [y4, x9, w7, y8, y7, q3v, q1n, q29, q6u, q4v, q6o, z1x, e, hq, hp, c1, c2, c3, z, decide_true, decide_false, cond_true, cond_false, and_self, if_true]
      rfl
   ·right
    refine ⟨_, ⟨_, ⟨s, w, a, rfl, hw, ha⟩, rfl⟩, fun k rec => ?_⟩
    unfold q1E
    simp only [x9, w7, y7, e, decide_false, cond_false])
  l.length l.length [.slice l, m] N (Nat.le_refl _) ⟨l, m, rfl, hm, Nat.le_refl _⟩ (by omega)
 refine ⟨m', h1, fun k => ?_⟩
 rw [z0W]
 unfold q3i
 simp only [y4]
 exact (h _).trans rfl
theorem y2n (l : List C) (m : C) (hm : q6a m) (B : Nat) (hb : ∀ x ∈ l, ∃ y : List C, x = .slice y ∧ y.length ≤ B) (hl : l.length < N) (hN : B + 100 < N) (hN2 : N < 4611686018427387904) : ∃ m', q6a m' ∧ ∀ k : KD R, J8 N (.slice l) m k = k [m'] [] := by
 obtain ⟨d, ⟨m', h1, rfl⟩, h⟩ := j6 (R := R) (F := fun k2 => q2n N k2) l.length (fun i st => ∃ m : C, q6a m ∧ st = [.slice l, .int l.length, .int i, m]) (fun d => ∃ m', q6a m' ∧ d = [m'])
  (fun i st hi hst => by
   obtain ⟨m, hm, rfl⟩ := hst
   have e1 : (i : Int) < (l.length : Int) := by omega
   obtain ⟨y, hy, hyl⟩ := hb _ (q3s hi)
   obtain ⟨m2, h2, h3⟩ := y1H (R := R) (N := N) y m hm (by omega)
   refine ⟨_, ⟨m2, h2, rfl⟩, fun k rec => ?_⟩
   unfold q2n
   simp only [x9, w7, w9, u6, y8, y7, e1, decide_true, cond_true, Int.natCast_nonneg, and_self, if_true, Int.toNat_natCast, hy, h3, u5 (show i < 4611686018427387904 by omega)])
  (fun st hst => by
   obtain ⟨m, hm, rfl⟩ := hst
   refine ⟨_, ⟨m, hm, rfl⟩, fun k rec => ?_⟩
   unfold q2n
   simp only [x9, w7, w9, u6, y8, Int.lt_irrefl, decide_false, cond_false])
  (N := N) (by omega) (st := [.slice l, .int l.length, .int (0 : Nat), m]) ⟨m, hm, rfl⟩
 refine ⟨m', h1, fun k => ?_⟩
 rw [q87]
 unfold q2m
 simp only [y4, y7]
 exact (h _).trans rfl
def Dig (c : C) : Prop := ∃ l : List C, c = .agg l ∧ l.length = 32
theorem z7v (n : C) : ∃ x : List C, x.length = 4 ∧ ∀ k : KD R, q0H N n k = k [.slice x] [] :=
 ⟨[C.int (IntKind.wrap IntKind.u8 (Int.fdiv (C.toInt n) (2 ^ min (Int.toNat 24) 32))), C.int (IntKind.wrap IntKind.u8 (Int.fdiv (C.toInt n) (2 ^ min (Int.toNat 16) 32))), C.int (IntKind.wrap IntKind.u8 (Int.fdiv (C.toInt n) (2 ^ min (Int.toNat 8) 32))), C.int (IntKind.wrap IntKind.u8 (C.toInt n))], rfl, fun k => by rw [z6o]; unfold q4K; rfl⟩
theorem x3r (m : C) (hm : q6a m) (hN : 1000 < N) : ∃ c, Dig c ∧ ∀ k : KD R, q0X N m k = k [c, m] [] := by
 obtain ⟨s, w, a, rfl, hw, ha⟩ := hm
 have r := U9 (IntKind.u64.wrap (a + 8)) 64 (q3S _).1 (by omega)
 generalize hq : Int.tmod (IntKind.u64.wrap (a + 8)) 64 = q at r
 have e1 : IntKind.u64.wrap (64 - q) = 64 - q := wrap_u64 (by omega) (by omega)
 obtain ⟨m1, hm1, h1⟩ := y1H (R := R) (N := N) (List.take (64 - q).toNat (List.drop 0 (List.set (List.replicate (64 - q).toNat (z0 (Ty.int IntKind.u8))) 0 (C.int 128)))) (.agg [s, .agg w, .int a]) ⟨s, w, a, rfl, hw, ha⟩ (by simp; omega)
 obtain ⟨f1, hf1, g1⟩ := z7v (R := R) (N := N) (C.int (IntKind.wrap IntKind.u32 (Int.fdiv (IntKind.wrap IntKind.u64 (a * 8)) (2 ^ min (Int.toNat 32) 64))))
 obtain ⟨f2, hf2, g2⟩ := z7v (R := R) (N := N) (C.int (IntKind.wrap IntKind.u32 (IntKind.wrap IntKind.u64 (a * 8))))
 obtain ⟨m2, hm2, h2⟩ := y1H (R := R) (N := N) (f1 ++ f2) m1 hm1 (by simp; omega)
 obtain ⟨d, ⟨z, hz, rfl⟩, h3⟩ := j6 (R := R) (F := fun k2 => q3k N k2) 8 (fun i st => ∃ z : C, Dig z ∧ st = [m2.get 0, .int i, .agg [s, .agg w, .int a], z0 (.arr 32 (.int .u8)), z]) (fun d => ∃ z, Dig z ∧ d = [.agg [s, .agg w, .int a], z0 (.arr 32 (.int .u8)), z])
  (fun i st hi hst => by
   obtain ⟨z, ⟨zl, rfl, hzl⟩, rfl⟩ := hst
   have e1 : (i : Int) < 8 := by omega
   have e2 : IntKind.i64.wrap (4 * (i : Int)) = 4 * i := wrap_i64 (by omega) (by omega)
   obtain ⟨f, hf, g⟩ := z7v (R := R) (N := N) (C.get (m2.get 0) i)
   have c1 : 0 < (32 - 4 * (i : Int)).toNat := by omega
   refine ⟨_, ⟨_, ⟨_, rfl, by rw [z1o (cs := zl) (lo := (4 * (i : Int)).toNat) (n := (32 - 4 * (i : Int)).toNat) (ys := f) (by omega)]; exact hzl⟩, rfl⟩, fun k rec => ?_⟩
   unfold q3k
   have c2 : 0 ≤ 4 * (i : Int) ∧ 4 * (i : Int) ≤ 32 ∧ Int.ofNat 32 ≤ 32 := ⟨by omega, by omega, by decide⟩
   simp only [x9, w7, w9, u6, j3, y8, y7, q3v, e1, e2, c1, c2, decide_true, cond_true, Int.natCast_nonneg, and_self, if_true, Int.toNat_natCast, g, u5 (show i < 4611686018427387904 by omega)])
  (fun st hst => by
   obtain ⟨z, hz, rfl⟩ := hst
   refine ⟨_, ⟨z, hz, rfl⟩, fun k rec => ?_⟩
   unfold q3k
   have h : ¬ ((8 : Nat) : Int) < 8 := by decide
   simp only [x9, w7, w9, u6, j3, y8, h, decide_false, cond_false])
  (N := N) (by omega) (st := [m2.get 0, .int (0 : Nat), .agg [s, .agg w, .int a], z0 (.arr 32 (.int .u8)), z0 (.arr 32 (.int .u8))]) ⟨_, ⟨_, rfl, by decide⟩, rfl⟩
 refine ⟨z, hz, fun k => ?_⟩
 rw [z00]
 unfold q3j
 simp only [q6u, y8, hq, e1]
 rw [if_pos (by omega), if_pos (by constructor <;> simp <;> omega), h1]
 simp only [x9, g1, g2, y7, Nat.beq_refl, cond_true, hf1, hf2]
 rw [if_pos (by omega), h2]
 simp only [y4, x9]
 exact (h3 _).trans rfl
theorem z7J (a0 : C) (l : List C) (B : Nat) (hb : ∀ x ∈ l, ∃ y : List C, x = .slice y ∧ y.length ≤ B) (hl : l.length + 1000 < N) (hN : B + 1000 < N) (hN2 : N < 4611686018427387904) : ∃ c, Dig c ∧ ∀ k : KD R, q1g N a0 (.slice l) k = k [c] [] := by
 obtain ⟨m0, hm0, h0⟩ : ∃ m, q6a m ∧ ∀ k : KD R, q5b N k = k [m] [] := ⟨_, ⟨_, List.replicate 64 (.int 0), 0, by rfl, by simp, by unfold W64; omega⟩, fun k => by rw [z8m]; unfold q8p; rfl⟩
 obtain ⟨m1, hm1, h1⟩ := y2n (R := R) (N := N) [C.slice [a0, C.int (IntKind.wrap IntKind.u8 (l.length : Int))]] m0 hm0 10 (fun x hx => ⟨_, List.mem_singleton.1 hx, by simp⟩) (by simp; omega) (by omega) hN2
 obtain ⟨d, ⟨m2, hm2, rfl⟩, h2⟩ := j6 (R := R) (F := fun k2 => q8s N k2) l.length (fun i st => ∃ m : C, q6a m ∧ st = [.slice l, .int l.length, .int i, z0 (.arr 32 (.int .u8)), m]) (fun d => ∃ m', q6a m' ∧ d = [z0 (.arr 32 (.int .u8)), m'])
  (fun i st hi hst => by
   obtain ⟨m, hm, rfl⟩ := hst
   have e1 : (i : Int) < (l.length : Int) := by omega
   obtain ⟨y, hy, hyl⟩ := hb _ (q3s hi)
   obtain ⟨f, hf, g⟩ := z7v (R := R) (N := N) (C.int (IntKind.wrap IntKind.u32 (y.length : Int)))
   obtain ⟨m2, h2, h3⟩ := y2n (R := R) (N := N) [C.slice f, C.slice y] m hm (B + 4) (fun x hx => by
    simp only [List.mem_cons, List.not_mem_nil, or_false] at hx
    rcases hx with rfl | rfl
    ·exact ⟨_, rfl, by omega⟩
    ·exact ⟨_, rfl, by omega⟩) (by simp; omega) (by omega) hN2
   refine ⟨_, ⟨m2, h2, rfl⟩, fun k rec => ?_⟩
   unfold q8s
   simp only [x9, w7, w9, u6, j3, y8, y7, e1, decide_true, cond_true, Int.natCast_nonneg, and_self, if_true, Int.toNat_natCast, hy, g, h3, u5 (show i < 4611686018427387904 by omega)])
  (fun st hst => by
   obtain ⟨m, hm, rfl⟩ := hst
   refine ⟨_, ⟨m, hm, rfl⟩, fun k rec => ?_⟩
   unfold q8s
   simp only [x9, w7, w9, u6, j3, y8, Int.lt_irrefl, decide_false, cond_false])
  (N := N) (by omega) (st := [.slice l, .int l.length, .int (0 : Nat), z0 (.arr 32 (.int .u8)), m1]) ⟨m1, hm1, rfl⟩
 obtain ⟨c, hc, h3⟩ := x3r (R := R) (N := N) m2 hm2 (by omega)
 refine ⟨c, hc, fun k => ?_⟩
 rw [z8o]
 unfold q8q
 simp only [h0, x9, y7, h1, y4]
 refine (h2 _).trans ?_
 simp only [w7, h3, x9]
end Go.Proofs.YtgdonkaoajbclaaGreatDoor
namespace Go.Proofs.YtgdonkaoajbclaaGreatDoor
open Go Go.E
set_option maxRecDepth 100000
set_option maxHeartbeats 4000000
set_option linter.unusedVariables false
noncomputable def y60 : Hints := [([1, 0, 1, 1], ⟨[], [(5, .d (.int .u64))], [], [], [], []⟩),
  ([4, 1, 0, 1, 1], ⟨[0, 1], [(5, .d (.int .u64)), (6, .d (.int .i64))], [], [], [], []⟩),
  ([1, 0, 1, 4, 0, 1, 5, 4, 1, 0, 1, 1], ⟨[0, 1, 5, 6], [(7, .d (.int .u64))], [], [], [], []⟩),
  ([9], ⟨[], [(4, .d (.int .u64))], [], [], [], []⟩)]
noncomputable def z8d (N : Nat) : OvS (X0 gl0) where
 g R := []
 ok := fun R => fun _ h => nomatch h
noncomputable def q5D {R : Type} (N : Nat) (k2 : KD R) : KD R → List C → List Es → Option R := (fun k3 d1 m1 => (bif decide (C.toInt (dk d1 3) < IntKind.wrap IntKind.i64 (IntKind.wrap IntKind.i64 (8 * C.toInt (dk d1 1)) + 8)) then (if 0 ≤ C.toInt (dk d1 3) ∧ C.toInt (dk d1 3) < (↑(List.length (C.toStr (dk d1 0))) : Int) then (jn (fun d2 m2 => (k3 [dk d2 0, dk d2 1, C.int (IntKind.wrap IntKind.u64 (IntKind.wrap IntKind.u64 (IntKind.wrap IntKind.u64 (C.toInt (dk d2 2) * 16) + C.toInt (dk d2 4)) - 48)), C.int (IntKind.wrap IntKind.i64 (C.toInt (dk d2 3) + 1))] [])) (fun k4 => (bif decide (97 ≤ IntKind.wrap IntKind.u64 (↑(UInt8.toNat (List.getD (C.toStr (dk d1 0)) (Int.toNat (C.toInt (dk d1 3))) { toBitVec := { toFin := ⟨0, Nat.mod_lt 0 (BitVec.ofNat._proof_1 8)⟩ } })) : Int)) then (k4 [dk d1 0, dk d1 1, dk d1 2, dk d1 3, C.int (IntKind.wrap IntKind.u64 (IntKind.wrap IntKind.u64 (↑(UInt8.toNat (List.getD (C.toStr (dk d1 0)) (Int.toNat (C.toInt (dk d1 3))) { toBitVec := { toFin := ⟨0, Nat.mod_lt 0 (BitVec.ofNat._proof_1 8)⟩ } })) : Int) - 39))] []) else (k4 [dk d1 0, dk d1 1, dk d1 2, dk d1 3, C.int (IntKind.wrap IntKind.u64 (↑(UInt8.toNat (List.getD (C.toStr (dk d1 0)) (Int.toNat (C.toInt (dk d1 3))) { toBitVec := { toFin := ⟨0, Nat.mod_lt 0 (BitVec.ofNat._proof_1 8)⟩ } })) : Int))] [])))) else none) else (k2 [dk d1 2] [])))
noncomputable def q8i {R : Type} (N : Nat) (a0 a1 : C) (k1 : KD R) : Option R := (jn (fun d1 m1 => (k1 [dk d1 0] [])) (fun k2 => (u3 N (q5D N k2) [a0, a1, C.int 0, C.int (IntKind.wrap IntKind.i64 (8 * C.toInt a1))] [])))
noncomputable def q3d {R : Type} (N : Nat) : C → C → KD R → Option R := lid "" (q8i N)
theorem z8c {R : Type} (N : Nat) (a0 a1 : C) (k : KD R) : q3d N a0 a1 k = q8i N a0 a1 k := by unfold q3d; rw [w6]
theorem y4V {R : Type} (N : Nat) (a0 a1 : C) (K : V → List (Key × O) → Option R) : exF (X0 gl0) ((z8d N).ov R) s5 noX (fun f => bif Nat.beq f 97 then y60 else []) N 400 8 97 [.d .str a0, .d (.int .i64) a1] A0 K =
  q3d N a0 a1 (fun d1 m1 => K (V.d (Ty.int IntKind.u64) (dk d1 0)) []) := by
 rw [z8c]
 exact (show _ = jn (fun d1 m1 => (K (V.d (Ty.int IntKind.u64) (dk d1 0)) [])) (q8i N a0 a1) by kernel_rfl).trans (y4 _ _)
noncomputable def q9X (N : Nat) {R : Type} : OvG R := fun xs _ K => match xs with
 | [.d t0 a0, .d t1 a1] => if t0 = .str ∧ t1 = (.int .i64) then q3d N a0 a1 (fun d1 m1 => K (V.d (Ty.int IntKind.u64) (dk d1 0)) []) else none
 | _ => none
theorem z8e (N : Nat) {R : Type} : GOk (X0 gl0) 97 (q9X N (R := R)) := by
 intro xs A Kr r hr
 unfold q9X at hr
 split at hr
 ·simp only [Option.ite_none_right_eq_some] at hr
  obtain ⟨hty, hr⟩ := hr
  obtain ⟨rfl, rfl⟩ := hty
  rw [← y4V] at hr
  exact okA (z8d N) hr
 ·cases hr
noncomputable def y1D : Hints := [([1, 0, 1, 1], ⟨[0, 2], [(7, .d (.int .u64))], [], [], [], []⟩),
  ([4, 1, 0, 1, 1], ⟨[0, 1, 2], [(7, .d (.int .u64)), (8, .d (.int .i64))], [], [], [], []⟩),
  ([9], ⟨[], [(6, .d (.int .u64))], [], [], [], []⟩)]
noncomputable def z2U (N : Nat) : OvS (X0 gl0) where
 g R := []
 ok := fun R => fun _ h => nomatch h
noncomputable def q48 {R : Type} (N : Nat) (k2 : KD R) : KD R → List C → List Es → Option R := (fun k3 d1 m1 => (bif decide (C.toInt (dk d1 4) < C.toInt (dk d1 1)) then (k3 [dk d1 0, dk d1 1, C.bool (C.toBool (dk d1 2)), C.int (IntKind.wrap IntKind.u64 (C.toInt (dk d1 3) * 2)), C.int (IntKind.wrap IntKind.i64 (C.toInt (dk d1 4) + 1))] []) else (k2 [dk d1 0, C.bool (C.toBool (dk d1 2)), dk d1 3] [])))
noncomputable def q2U {R : Type} (N : Nat) (a0 a1 a2 : C) (k1 : KD R) : Option R := (jn (fun d1 m1 => (bif C.toBool (dk d1 1) then (if C.toInt (dk d1 2) ≠ 0 then (if C.toInt (dk d1 2) ≠ 0 then (if C.toInt (dk d1 2) ≠ 0 then (k1 [C.int (IntKind.wrap IntKind.u64 (IntKind.wrap IntKind.u64 (Int.tdiv (C.toInt (dk d1 0)) (C.toInt (dk d1 2))) + IntKind.wrap IntKind.u64 (Int.tmod (C.toInt (dk d1 0)) (C.toInt (dk d1 2)) * IntKind.wrap IntKind.u64 (Int.tdiv 4294967296 (C.toInt (dk d1 2))))))] []) else none) else none) else none) else (if C.toInt (dk d1 2) ≠ 0 then (k1 [C.int (IntKind.wrap IntKind.u64 (Int.tdiv (C.toInt (dk d1 0)) (C.toInt (dk d1 2))))] []) else none))) (fun k2 => (u3 N (q48 N k2) [a0, a1, C.bool (C.toBool a2), C.int 1, C.int 0] [])))
noncomputable def b9 {R : Type} (N : Nat) : C → C → C → KD R → Option R := lid "" (q2U N)
theorem q7R {R : Type} (N : Nat) (a0 a1 a2 : C) (k : KD R) : b9 N a0 a1 a2 k = q2U N a0 a1 a2 k := by unfold b9; rw [w6]
theorem z90 {R : Type} (N : Nat) (a0 a1 a2 : C) (K : V → List (Key × O) → Option R) : exF (X0 gl0) ((z2U N).ov R) s5 noX (fun f => bif Nat.beq f 122 then y1D else []) N 400 8 122 [.d (.int .u64) a0, .d (.int .i64) a1, .d .bool a2] A0 K =
  b9 N a0 a1 a2 (fun d1 m1 => K (V.d (Ty.int IntKind.u64) (dk d1 0)) []) := by
 rw [q7R]
 exact (show _ = jn (fun d1 m1 => (K (V.d (Ty.int IntKind.u64) (dk d1 0)) [])) (q2U N a0 a1 a2) by kernel_rfl).trans (y4 _ _)
noncomputable def q9s (N : Nat) {R : Type} : OvG R := fun xs _ K => match xs with
 | [.d t0 a0, .d t1 a1, .d t2 a2] => if t0 = (.int .u64) ∧ t1 = (.int .i64) ∧ t2 = .bool then b9 N a0 a1 a2 (fun d1 m1 => K (V.d (Ty.int IntKind.u64) (dk d1 0)) []) else none
 | _ => none
theorem y1C (N : Nat) {R : Type} : GOk (X0 gl0) 122 (q9s N (R := R)) := by
 intro xs A Kr r hr
 unfold q9s at hr
 split at hr
 ·simp only [Option.ite_none_right_eq_some] at hr
  obtain ⟨hty, hr⟩ := hr
  obtain ⟨rfl, rfl, rfl⟩ := hty
  rw [← z90] at hr
  exact okA (z2U N) hr
 ·cases hr
noncomputable def z2W : Hints := [([1, 0, 1, 1], ⟨[1, 3], [(7, .sl 8 (.int .u64) 5007)], [], [], [], [(.int .u64)]⟩),
  ([4, 1, 0, 1, 1], ⟨[1, 2, 3], [(7, .sl 8 (.int .u64) 5007), (8, .d (.int .i64))], [], [], [], [(.int .u64)]⟩),
  ([0, 1, 5, 4, 1, 0, 1, 1], ⟨[1, 2, 3, 8], [(7, .sl 8 (.int .u64) 5007)], [], [], [], [(.int .u64)]⟩),
  ([1, 0, 1, 1, 1, 1, 1], ⟨[1, 11], [], [], [], [], [(.int .u64)]⟩),
  ([4, 1, 0, 1, 1, 1, 1, 1], ⟨[1, 3, 11], [(7, .sl 8 (.int .u64) 5007), (12, .d (.int .i64))], [], [], [], [(.int .u64)]⟩),
  ([1, 0, 1, 1, 1, 1, 1, 1, 1], ⟨[], [(24, .vec (.l 1000000000195) 8 (.int .u64))], [], [], [], [(.int .u64)]⟩),
  ([4, 1, 0, 1, 1, 1, 1, 1, 1, 1], ⟨[1, 11], [(24, .vec (.l 1000000000195) 8 (.int .u64)), (25, .d (.int .i64))], [], [], [], [(.int .u64)]⟩),
  ([9], ⟨[], [(6, .vec (.l 1) 8 (.int .u64))], [], [(.l 1, .box (.arr (.int .u64)))], [], [(.int .u64)]⟩)]
noncomputable def q6q (N : Nat) : OvS (X0 gl0) where
 g R := [(97, q9X N), (122, q9s N)]
 ok := fun R => List.forall_mem_cons.2 ⟨z8e N, List.forall_mem_cons.2 ⟨y1C N, fun _ h => nomatch h⟩⟩
noncomputable def q0V {R : Type} (N : Nat) (k2 : KD R) : KD R → List C → List Es → Option R := (fun k3 d3 m3 => (bif decide (C.toInt (dk d3 3) < 8) then (if 0 ≤ C.toInt (dk d3 3) ∧ C.toInt (dk d3 3) < (↑(List.length (C.elems (dk d3 0))) : Int) then (if 0 ≤ C.toInt (dk d3 3) ∧ C.toInt (dk d3 3) < (↑(Int.toNat (C.toInt (dk d3 1))) : Int) then (if false = false ∧ (Int.toNat (C.toInt (dk d3 2)) + 1) * 8 ≤ 140737488355328 ∧ Int.toNat (C.toInt (dk d3 2)) + 1 ≤ 9223372036854775807 then (if List.length (C.elems (dk d3 4)) = List.length (C.elems (dk d3 4)) then (if Int.toNat (C.toInt (dk d3 2)) + 1 = List.length (List.take (Int.toNat (C.toInt (dk d3 2))) (C.elems (dk d3 5)) ++ [C.int (Int.tmod (IntKind.wrap IntKind.u64 (C.toInt (List.getD (C.elems (dk d3 0)) (Int.toNat (C.toInt (dk d3 3))) C.nil) + C.toInt (C.get (dk d3 4) (0 + Int.toNat (C.toInt (dk d3 3)))))) 4294967296)]) then (k3 [dk d3 0, C.int (↑(Int.toNat (C.toInt (dk d3 1))) : Int), C.int (↑(Int.toNat (C.toInt (dk d3 2)) + 1) : Int), C.int (IntKind.wrap IntKind.i64 (C.toInt (dk d3 3) + 1)), dk d3 4, C.agg (List.take (Int.toNat (C.toInt (dk d3 2))) (C.elems (dk d3 5)) ++ [C.int (Int.tmod (IntKind.wrap IntKind.u64 (C.toInt (List.getD (C.elems (dk d3 0)) (Int.toNat (C.toInt (dk d3 3))) C.nil) + C.toInt (C.get (dk d3 4) (0 + Int.toNat (C.toInt (dk d3 3)))))) 4294967296)])] []) else none) else none) else none) else none) else none) else (if List.length (C.elems (dk d3 5)) = List.length (C.elems (dk d3 5)) then (k2 [C.int (↑(Int.toNat (C.toInt (dk d3 2))) : Int), dk d3 5] []) else none)))
noncomputable def q0U {R : Type} (N : Nat) (k2 : KD R) : KD R → List C → List Es → Option R := (fun k3 d2 m2 => (bif decide (C.toInt (dk d2 4) < 64) then (if 0 ≤ Int.tmod (IntKind.wrap IntKind.i64 (69 - C.toInt (dk d2 4))) 8 ∧ Int.tmod (IntKind.wrap IntKind.i64 (69 - C.toInt (dk d2 4))) 8 < (↑(Int.toNat (C.toInt (dk d2 2))) : Int) then (if 0 ≤ Int.tmod (IntKind.wrap IntKind.i64 (70 - C.toInt (dk d2 4))) 8 ∧ Int.tmod (IntKind.wrap IntKind.i64 (70 - C.toInt (dk d2 4))) 8 < (↑(Int.toNat (C.toInt (dk d2 2))) : Int) then (if 0 ≤ Int.tmod (IntKind.wrap IntKind.i64 (68 - C.toInt (dk d2 4))) 8 ∧ Int.tmod (IntKind.wrap IntKind.i64 (68 - C.toInt (dk d2 4))) 8 < (↑(Int.toNat (C.toInt (dk d2 2))) : Int) then (b9 N (C.get (dk d2 5) (0 + Int.toNat (Int.tmod (IntKind.wrap IntKind.i64 (68 - C.toInt (dk d2 4))) 8))) (C.int 6) (C.bool true) (fun d3 m3 => (if 0 ≤ Int.tmod (IntKind.wrap IntKind.i64 (68 - C.toInt (dk d2 4))) 8 ∧ Int.tmod (IntKind.wrap IntKind.i64 (68 - C.toInt (dk d2 4))) 8 < (↑(Int.toNat (C.toInt (dk d2 2))) : Int) then (b9 N (C.get (dk d2 5) (0 + Int.toNat (Int.tmod (IntKind.wrap IntKind.i64 (68 - C.toInt (dk d2 4))) 8))) (C.int 11) (C.bool true) (fun d4 m4 => (if 0 ≤ Int.tmod (IntKind.wrap IntKind.i64 (68 - C.toInt (dk d2 4))) 8 ∧ Int.tmod (IntKind.wrap IntKind.i64 (68 - C.toInt (dk d2 4))) 8 < (↑(Int.toNat (C.toInt (dk d2 2))) : Int) then (b9 N (C.get (dk d2 5) (0 + Int.toNat (Int.tmod (IntKind.wrap IntKind.i64 (68 - C.toInt (dk d2 4))) 8))) (C.int 25) (C.bool true) (fun d5 m5 => (if 0 ≤ Int.tmod (IntKind.wrap IntKind.i64 (71 - C.toInt (dk d2 4))) 8 ∧ Int.tmod (IntKind.wrap IntKind.i64 (71 - C.toInt (dk d2 4))) 8 < (↑(Int.toNat (C.toInt (dk d2 2))) : Int) then (if 0 ≤ Int.tmod (IntKind.wrap IntKind.i64 (68 - C.toInt (dk d2 4))) 8 ∧ Int.tmod (IntKind.wrap IntKind.i64 (68 - C.toInt (dk d2 4))) 8 < (↑(Int.toNat (C.toInt (dk d2 2))) : Int) then (if 0 ≤ Int.tmod (IntKind.wrap IntKind.i64 (68 - C.toInt (dk d2 4))) 8 ∧ Int.tmod (IntKind.wrap IntKind.i64 (68 - C.toInt (dk d2 4))) 8 < (↑(Int.toNat (C.toInt (dk d2 2))) : Int) then (q3d N (C.get (dk d2 1) 1) (dk d2 4) (fun d6 m6 => (if 0 ≤ C.toInt (dk d2 4) ∧ C.toInt (dk d2 4) < (↑(List.length (C.elems (dk d2 3))) : Int) then (if 0 ≤ Int.tmod (IntKind.wrap IntKind.i64 (65 - C.toInt (dk d2 4))) 8 ∧ Int.tmod (IntKind.wrap IntKind.i64 (65 - C.toInt (dk d2 4))) 8 < (↑(Int.toNat (C.toInt (dk d2 2))) : Int) then (if 0 ≤ Int.tmod (IntKind.wrap IntKind.i64 (66 - C.toInt (dk d2 4))) 8 ∧ Int.tmod (IntKind.wrap IntKind.i64 (66 - C.toInt (dk d2 4))) 8 < (↑(Int.toNat (C.toInt (dk d2 2))) : Int) then (if 0 ≤ Int.tmod (IntKind.wrap IntKind.i64 (64 - C.toInt (dk d2 4))) 8 ∧ Int.tmod (IntKind.wrap IntKind.i64 (64 - C.toInt (dk d2 4))) 8 < (↑(Int.toNat (C.toInt (dk d2 2))) : Int) then (b9 N (C.get (dk d2 5) (0 + Int.toNat (Int.tmod (IntKind.wrap IntKind.i64 (64 - C.toInt (dk d2 4))) 8))) (C.int 2) (C.bool true) (fun d7 m7 => (if 0 ≤ Int.tmod (IntKind.wrap IntKind.i64 (64 - C.toInt (dk d2 4))) 8 ∧ Int.tmod (IntKind.wrap IntKind.i64 (64 - C.toInt (dk d2 4))) 8 < (↑(Int.toNat (C.toInt (dk d2 2))) : Int) then (b9 N (C.get (dk d2 5) (0 + Int.toNat (Int.tmod (IntKind.wrap IntKind.i64 (64 - C.toInt (dk d2 4))) 8))) (C.int 13) (C.bool true) (fun d8 m8 => (if 0 ≤ Int.tmod (IntKind.wrap IntKind.i64 (64 - C.toInt (dk d2 4))) 8 ∧ Int.tmod (IntKind.wrap IntKind.i64 (64 - C.toInt (dk d2 4))) 8 < (↑(Int.toNat (C.toInt (dk d2 2))) : Int) then (b9 N (C.get (dk d2 5) (0 + Int.toNat (Int.tmod (IntKind.wrap IntKind.i64 (64 - C.toInt (dk d2 4))) 8))) (C.int 22) (C.bool true) (fun d9 m9 => (if 0 ≤ Int.tmod (IntKind.wrap IntKind.i64 (67 - C.toInt (dk d2 4))) 8 ∧ Int.tmod (IntKind.wrap IntKind.i64 (67 - C.toInt (dk d2 4))) 8 < (↑(Int.toNat (C.toInt (dk d2 2))) : Int) then (if 0 ≤ Int.tmod (IntKind.wrap IntKind.i64 (67 - C.toInt (dk d2 4))) 8 ∧ Int.tmod (IntKind.wrap IntKind.i64 (67 - C.toInt (dk d2 4))) 8 < (↑(Int.toNat (C.toInt (dk d2 2))) : Int) then (if 0 ≤ Int.tmod (IntKind.wrap IntKind.i64 (64 - C.toInt (dk d2 4))) 8 ∧ Int.tmod (IntKind.wrap IntKind.i64 (64 - C.toInt (dk d2 4))) 8 < (↑(Int.toNat (C.toInt (dk d2 2))) : Int) then (if 0 ≤ Int.tmod (IntKind.wrap IntKind.i64 (64 - C.toInt (dk d2 4))) 8 ∧ Int.tmod (IntKind.wrap IntKind.i64 (64 - C.toInt (dk d2 4))) 8 < (↑(Int.toNat (C.toInt (dk d2 2))) : Int) then (if 0 ≤ Int.tmod (IntKind.wrap IntKind.i64 (71 - C.toInt (dk d2 4))) 8 ∧ Int.tmod (IntKind.wrap IntKind.i64 (71 - C.toInt (dk d2 4))) 8 < (↑(Int.toNat (C.toInt (dk d2 2))) : Int) then (bif Nat.beq (List.length (C.elems (dk d2 3))) (List.length (C.elems (dk d2 3))) then (if List.length (C.elems (dk d2 5)) = List.length (C.elems (C.set (C.set (dk d2 5) (0 + Int.toNat (Int.tmod (IntKind.wrap IntKind.i64 (67 - C.toInt (dk d2 4))) 8)) (C.int (Int.tmod (IntKind.wrap IntKind.u64 (C.toInt (C.get (dk d2 5) (0 + Int.toNat (Int.tmod (IntKind.wrap IntKind.i64 (67 - C.toInt (dk d2 4))) 8))) + IntKind.wrap IntKind.u64 (IntKind.wrap IntKind.u64 (IntKind.wrap IntKind.u64 (IntKind.wrap IntKind.u64 (C.toInt (C.get (dk d2 5) (0 + Int.toNat (Int.tmod (IntKind.wrap IntKind.i64 (71 - C.toInt (dk d2 4))) 8))) + u1 BinOp.xor IntKind.u64 (u1 BinOp.xor IntKind.u64 (C.toInt (dk d3 0)) (C.toInt (dk d4 0))) (C.toInt (dk d5 0))) + IntKind.wrap IntKind.u64 (u1 BinOp.and IntKind.u64 (C.toInt (C.get (dk d2 5) (0 + Int.toNat (Int.tmod (IntKind.wrap IntKind.i64 (68 - C.toInt (dk d2 4))) 8)))) (C.toInt (C.get (dk d2 5) (0 + Int.toNat (Int.tmod (IntKind.wrap IntKind.i64 (69 - C.toInt (dk d2 4))) 8)))) + u1 BinOp.and IntKind.u64 (IntKind.wrap IntKind.u64 (4294967295 - C.toInt (C.get (dk d2 5) (0 + Int.toNat (Int.tmod (IntKind.wrap IntKind.i64 (68 - C.toInt (dk d2 4))) 8))))) (C.toInt (C.get (dk d2 5) (0 + Int.toNat (Int.tmod (IntKind.wrap IntKind.i64 (70 - C.toInt (dk d2 4))) 8)))))) + C.toInt (dk d6 0)) + C.toInt (List.getD (C.elems (dk d2 3)) (Int.toNat (C.toInt (dk d2 4))) C.nil)))) 4294967296))) (0 + Int.toNat (Int.tmod (IntKind.wrap IntKind.i64 (71 - C.toInt (dk d2 4))) 8)) (C.int (Int.tmod (IntKind.wrap IntKind.u64 (IntKind.wrap IntKind.u64 (IntKind.wrap IntKind.u64 (IntKind.wrap IntKind.u64 (IntKind.wrap IntKind.u64 (IntKind.wrap IntKind.u64 (C.toInt (C.get (dk d2 5) (0 + Int.toNat (Int.tmod (IntKind.wrap IntKind.i64 (71 - C.toInt (dk d2 4))) 8))) + u1 BinOp.xor IntKind.u64 (u1 BinOp.xor IntKind.u64 (C.toInt (dk d3 0)) (C.toInt (dk d4 0))) (C.toInt (dk d5 0))) + IntKind.wrap IntKind.u64 (u1 BinOp.and IntKind.u64 (C.toInt (C.get (dk d2 5) (0 + Int.toNat (Int.tmod (IntKind.wrap IntKind.i64 (68 - C.toInt (dk d2 4))) 8)))) (C.toInt (C.get (dk d2 5) (0 + Int.toNat (Int.tmod (IntKind.wrap IntKind.i64 (69 - C.toInt (dk d2 4))) 8)))) + u1 BinOp.and IntKind.u64 (IntKind.wrap IntKind.u64 (4294967295 - C.toInt (C.get (dk d2 5) (0 + Int.toNat (Int.tmod (IntKind.wrap IntKind.i64 (68 - C.toInt (dk d2 4))) 8))))) (C.toInt (C.get (dk d2 5) (0 + Int.toNat (Int.tmod (IntKind.wrap IntKind.i64 (70 - C.toInt (dk d2 4))) 8)))))) + C.toInt (dk d6 0)) + C.toInt (List.getD (C.elems (dk d2 3)) (Int.toNat (C.toInt (dk d2 4))) C.nil)) + u1 BinOp.xor IntKind.u64 (u1 BinOp.xor IntKind.u64 (C.toInt (dk d7 0)) (C.toInt (dk d8 0))) (C.toInt (dk d9 0))) + u1 BinOp.xor IntKind.u64 (u1 BinOp.xor IntKind.u64 (u1 BinOp.and IntKind.u64 (C.toInt (C.get (C.set (dk d2 5) (0 + Int.toNat (Int.tmod (IntKind.wrap IntKind.i64 (67 - C.toInt (dk d2 4))) 8)) (C.int (Int.tmod (IntKind.wrap IntKind.u64 (C.toInt (C.get (dk d2 5) (0 + Int.toNat (Int.tmod (IntKind.wrap IntKind.i64 (67 - C.toInt (dk d2 4))) 8))) + IntKind.wrap IntKind.u64 (IntKind.wrap IntKind.u64 (IntKind.wrap IntKind.u64 (IntKind.wrap IntKind.u64 (C.toInt (C.get (dk d2 5) (0 + Int.toNat (Int.tmod (IntKind.wrap IntKind.i64 (71 - C.toInt (dk d2 4))) 8))) + u1 BinOp.xor IntKind.u64 (u1 BinOp.xor IntKind.u64 (C.toInt (dk d3 0)) (C.toInt (dk d4 0))) (C.toInt (dk d5 0))) + IntKind.wrap IntKind.u64 (u1 BinOp.and IntKind.u64 (C.toInt (C.get (dk d2 5) (0 + Int.toNat (Int.tmod (IntKind.wrap IntKind.i64 (68 - C.toInt (dk d2 4))) 8)))) (C.toInt (C.get (dk d2 5) (0 + Int.toNat (Int.tmod (IntKind.wrap IntKind.i64 (69 - C.toInt (dk d2 4))) 8)))) + u1 BinOp.and IntKind.u64 (IntKind.wrap IntKind.u64 (4294967295 - C.toInt (C.get (dk d2 5) (0 + Int.toNat (Int.tmod (IntKind.wrap IntKind.i64 (68 - C.toInt (dk d2 4))) 8))))) (C.toInt (C.get (dk d2 5) (0 + Int.toNat (Int.tmod (IntKind.wrap IntKind.i64 (70 - C.toInt (dk d2 4))) 8)))))) + C.toInt (dk d6 0)) + C.toInt (List.getD (C.elems (dk d2 3)) (Int.toNat (C.toInt (dk d2 4))) C.nil)))) 4294967296))) (0 + Int.toNat (Int.tmod (IntKind.wrap IntKind.i64 (64 - C.toInt (dk d2 4))) 8)))) (C.toInt (C.get (dk d2 5) (0 + Int.toNat (Int.tmod (IntKind.wrap IntKind.i64 (65 - C.toInt (dk d2 4))) 8))))) (u1 BinOp.and IntKind.u64 (C.toInt (C.get (C.set (dk d2 5) (0 + Int.toNat (Int.tmod (IntKind.wrap IntKind.i64 (67 - C.toInt (dk d2 4))) 8)) (C.int (Int.tmod (IntKind.wrap IntKind.u64 (C.toInt (C.get (dk d2 5) (0 + Int.toNat (Int.tmod (IntKind.wrap IntKind.i64 (67 - C.toInt (dk d2 4))) 8))) + IntKind.wrap IntKind.u64 (IntKind.wrap IntKind.u64 (IntKind.wrap IntKind.u64 (IntKind.wrap IntKind.u64 (C.toInt (C.get (dk d2 5) (0 + Int.toNat (Int.tmod (IntKind.wrap IntKind.i64 (71 - C.toInt (dk d2 4))) 8))) + u1 BinOp.xor IntKind.u64 (u1 BinOp.xor IntKind.u64 (C.toInt (dk d3 0)) (C.toInt (dk d4 0))) (C.toInt (dk d5 0))) + IntKind.wrap IntKind.u64 (u1 BinOp.and IntKind.u64 (C.toInt (C.get (dk d2 5) (0 + Int.toNat (Int.tmod (IntKind.wrap IntKind.i64 (68 - C.toInt (dk d2 4))) 8)))) (C.toInt (C.get (dk d2 5) (0 + Int.toNat (Int.tmod (IntKind.wrap IntKind.i64 (69 - C.toInt (dk d2 4))) 8)))) + u1 BinOp.and IntKind.u64 (IntKind.wrap IntKind.u64 (4294967295 - C.toInt (C.get (dk d2 5) (0 + Int.toNat (Int.tmod (IntKind.wrap IntKind.i64 (68 - C.toInt (dk d2 4))) 8))))) (C.toInt (C.get (dk d2 5) (0 + Int.toNat (Int.tmod (IntKind.wrap IntKind.i64 (70 - C.toInt (dk d2 4))) 8)))))) + C.toInt (dk d6 0)) + C.toInt (List.getD (C.elems (dk d2 3)) (Int.toNat (C.toInt (dk d2 4))) C.nil)))) 4294967296))) (0 + Int.toNat (Int.tmod (IntKind.wrap IntKind.i64 (64 - C.toInt (dk d2 4))) 8)))) (C.toInt (C.get (dk d2 5) (0 + Int.toNat (Int.tmod (IntKind.wrap IntKind.i64 (66 - C.toInt (dk d2 4))) 8)))))) (u1 BinOp.and IntKind.u64 (C.toInt (C.get (dk d2 5) (0 + Int.toNat (Int.tmod (IntKind.wrap IntKind.i64 (65 - C.toInt (dk d2 4))) 8)))) (C.toInt (C.get (dk d2 5) (0 + Int.toNat (Int.tmod (IntKind.wrap IntKind.i64 (66 - C.toInt (dk d2 4))) 8))))))) 4294967296)))) then (k3 [dk d2 0, dk d2 1, C.int (↑(Int.toNat (C.toInt (dk d2 2))) : Int), C.slice (C.elems (dk d2 3)), C.int (IntKind.wrap IntKind.i64 (C.toInt (dk d2 4) + 1)), C.set (C.set (dk d2 5) (0 + Int.toNat (Int.tmod (IntKind.wrap IntKind.i64 (67 - C.toInt (dk d2 4))) 8)) (C.int (Int.tmod (IntKind.wrap IntKind.u64 (C.toInt (C.get (dk d2 5) (0 + Int.toNat (Int.tmod (IntKind.wrap IntKind.i64 (67 - C.toInt (dk d2 4))) 8))) + IntKind.wrap IntKind.u64 (IntKind.wrap IntKind.u64 (IntKind.wrap IntKind.u64 (IntKind.wrap IntKind.u64 (C.toInt (C.get (dk d2 5) (0 + Int.toNat (Int.tmod (IntKind.wrap IntKind.i64 (71 - C.toInt (dk d2 4))) 8))) + u1 BinOp.xor IntKind.u64 (u1 BinOp.xor IntKind.u64 (C.toInt (dk d3 0)) (C.toInt (dk d4 0))) (C.toInt (dk d5 0))) + IntKind.wrap IntKind.u64 (u1 BinOp.and IntKind.u64 (C.toInt (C.get (dk d2 5) (0 + Int.toNat (Int.tmod (IntKind.wrap IntKind.i64 (68 - C.toInt (dk d2 4))) 8)))) (C.toInt (C.get (dk d2 5) (0 + Int.toNat (Int.tmod (IntKind.wrap IntKind.i64 (69 - C.toInt (dk d2 4))) 8)))) + u1 BinOp.and IntKind.u64 (IntKind.wrap IntKind.u64 (4294967295 - C.toInt (C.get (dk d2 5) (0 + Int.toNat (Int.tmod (IntKind.wrap IntKind.i64 (68 - C.toInt (dk d2 4))) 8))))) (C.toInt (C.get (dk d2 5) (0 + Int.toNat (Int.tmod (IntKind.wrap IntKind.i64 (70 - C.toInt (dk d2 4))) 8)))))) + C.toInt (dk d6 0)) + C.toInt (List.getD (C.elems (dk d2 3)) (Int.toNat (C.toInt (dk d2 4))) C.nil)))) 4294967296))) (0 + Int.toNat (Int.tmod (IntKind.wrap IntKind.i64 (71 - C.toInt (dk d2 4))) 8)) (C.int (Int.tmod (IntKind.wrap IntKind.u64 (IntKind.wrap IntKind.u64 (IntKind.wrap IntKind.u64 (IntKind.wrap IntKind.u64 (IntKind.wrap IntKind.u64 (IntKind.wrap IntKind.u64 (C.toInt (C.get (dk d2 5) (0 + Int.toNat (Int.tmod (IntKind.wrap IntKind.i64 (71 - C.toInt (dk d2 4))) 8))) + u1 BinOp.xor IntKind.u64 (u1 BinOp.xor IntKind.u64 (C.toInt (dk d3 0)) (C.toInt (dk d4 0))) (C.toInt (dk d5 0))) + IntKind.wrap IntKind.u64 (u1 BinOp.and IntKind.u64 (C.toInt (C.get (dk d2 5) (0 + Int.toNat (Int.tmod (IntKind.wrap IntKind.i64 (68 - C.toInt (dk d2 4))) 8)))) (C.toInt (C.get (dk d2 5) (0 + Int.toNat (Int.tmod (IntKind.wrap IntKind.i64 (69 - C.toInt (dk d2 4))) 8)))) + u1 BinOp.and IntKind.u64 (IntKind.wrap IntKind.u64 (4294967295 - C.toInt (C.get (dk d2 5) (0 + Int.toNat (Int.tmod (IntKind.wrap IntKind.i64 (68 - C.toInt (dk d2 4))) 8))))) (C.toInt (C.get (dk d2 5) (0 + Int.toNat (Int.tmod (IntKind.wrap IntKind.i64 (70 - C.toInt (dk d2 4))) 8)))))) + C.toInt (dk d6 0)) + C.toInt (List.getD (C.elems (dk d2 3)) (Int.toNat (C.toInt (dk d2 4))) C.nil)) + u1 BinOp.xor IntKind.u64 (u1 BinOp.xor IntKind.u64 (C.toInt (dk d7 0)) (C.toInt (dk d8 0))) (C.toInt (dk d9 0))) + u1 BinOp.xor IntKind.u64 (u1 BinOp.xor IntKind.u64 (u1 BinOp.and IntKind.u64 (C.toInt (C.get (C.set (dk d2 5) (0 + Int.toNat (Int.tmod (IntKind.wrap IntKind.i64 (67 - C.toInt (dk d2 4))) 8)) (C.int (Int.tmod (IntKind.wrap IntKind.u64 (C.toInt (C.get (dk d2 5) (0 + Int.toNat (Int.tmod (IntKind.wrap IntKind.i64 (67 - C.toInt (dk d2 4))) 8))) + IntKind.wrap IntKind.u64 (IntKind.wrap IntKind.u64 (IntKind.wrap IntKind.u64 (IntKind.wrap IntKind.u64 (C.toInt (C.get (dk d2 5) (0 + Int.toNat (Int.tmod (IntKind.wrap IntKind.i64 (71 - C.toInt (dk d2 4))) 8))) + u1 BinOp.xor IntKind.u64 (u1 BinOp.xor IntKind.u64 (C.toInt (dk d3 0)) (C.toInt (dk d4 0))) (C.toInt (dk d5 0))) + IntKind.wrap IntKind.u64 (u1 BinOp.and IntKind.u64 (C.toInt (C.get (dk d2 5) (0 + Int.toNat (Int.tmod (IntKind.wrap IntKind.i64 (68 - C.toInt (dk d2 4))) 8)))) (C.toInt (C.get (dk d2 5) (0 + Int.toNat (Int.tmod (IntKind.wrap IntKind.i64 (69 - C.toInt (dk d2 4))) 8)))) + u1 BinOp.and IntKind.u64 (IntKind.wrap IntKind.u64 (4294967295 - C.toInt (C.get (dk d2 5) (0 + Int.toNat (Int.tmod (IntKind.wrap IntKind.i64 (68 - C.toInt (dk d2 4))) 8))))) (C.toInt (C.get (dk d2 5) (0 + Int.toNat (Int.tmod (IntKind.wrap IntKind.i64 (70 - C.toInt (dk d2 4))) 8)))))) + C.toInt (dk d6 0)) + C.toInt (List.getD (C.elems (dk d2 3)) (Int.toNat (C.toInt (dk d2 4))) C.nil)))) 4294967296))) (0 + Int.toNat (Int.tmod (IntKind.wrap IntKind.i64 (64 - C.toInt (dk d2 4))) 8)))) (C.toInt (C.get (dk d2 5) (0 + Int.toNat (Int.tmod (IntKind.wrap IntKind.i64 (65 - C.toInt (dk d2 4))) 8))))) (u1 BinOp.and IntKind.u64 (C.toInt (C.get (C.set (dk d2 5) (0 + Int.toNat (Int.tmod (IntKind.wrap IntKind.i64 (67 - C.toInt (dk d2 4))) 8)) (C.int (Int.tmod (IntKind.wrap IntKind.u64 (C.toInt (C.get (dk d2 5) (0 + Int.toNat (Int.tmod (IntKind.wrap IntKind.i64 (67 - C.toInt (dk d2 4))) 8))) + IntKind.wrap IntKind.u64 (IntKind.wrap IntKind.u64 (IntKind.wrap IntKind.u64 (IntKind.wrap IntKind.u64 (C.toInt (C.get (dk d2 5) (0 + Int.toNat (Int.tmod (IntKind.wrap IntKind.i64 (71 - C.toInt (dk d2 4))) 8))) + u1 BinOp.xor IntKind.u64 (u1 BinOp.xor IntKind.u64 (C.toInt (dk d3 0)) (C.toInt (dk d4 0))) (C.toInt (dk d5 0))) + IntKind.wrap IntKind.u64 (u1 BinOp.and IntKind.u64 (C.toInt (C.get (dk d2 5) (0 + Int.toNat (Int.tmod (IntKind.wrap IntKind.i64 (68 - C.toInt (dk d2 4))) 8)))) (C.toInt (C.get (dk d2 5) (0 + Int.toNat (Int.tmod (IntKind.wrap IntKind.i64 (69 - C.toInt (dk d2 4))) 8)))) + u1 BinOp.and IntKind.u64 (IntKind.wrap IntKind.u64 (4294967295 - C.toInt (C.get (dk d2 5) (0 + Int.toNat (Int.tmod (IntKind.wrap IntKind.i64 (68 - C.toInt (dk d2 4))) 8))))) (C.toInt (C.get (dk d2 5) (0 + Int.toNat (Int.tmod (IntKind.wrap IntKind.i64 (70 - C.toInt (dk d2 4))) 8)))))) + C.toInt (dk d6 0)) + C.toInt (List.getD (C.elems (dk d2 3)) (Int.toNat (C.toInt (dk d2 4))) C.nil)))) 4294967296))) (0 + Int.toNat (Int.tmod (IntKind.wrap IntKind.i64 (64 - C.toInt (dk d2 4))) 8)))) (C.toInt (C.get (dk d2 5) (0 + Int.toNat (Int.tmod (IntKind.wrap IntKind.i64 (66 - C.toInt (dk d2 4))) 8)))))) (u1 BinOp.and IntKind.u64 (C.toInt (C.get (dk d2 5) (0 + Int.toNat (Int.tmod (IntKind.wrap IntKind.i64 (65 - C.toInt (dk d2 4))) 8)))) (C.toInt (C.get (dk d2 5) (0 + Int.toNat (Int.tmod (IntKind.wrap IntKind.i64 (66 - C.toInt (dk d2 4))) 8))))))) 4294967296))] []) else none) else none) else none) else none) else none) else none) else none))) else none))) else none))) else none) else none) else none) else none))) else none) else none) else none))) else none))) else none))) else none) else none) else none) else (if List.length (C.elems (dk d2 5)) = List.length (C.elems (dk d2 5)) then (k2 [dk d2 0, C.int (↑(Int.toNat (C.toInt (dk d2 2))) : Int), dk d2 5] []) else none)))
noncomputable def F8 {R : Type} (N : Nat) (k2 : KD R) : KD R → List C → List Es → Option R := (fun k3 d1 m1 => (bif decide (C.toInt (dk d1 4) < 64) then (jn (fun d2 m2 => (bif Nat.beq (List.length (C.elems (dk d2 4))) (List.length (C.elems (dk d2 4))) then (k3 [dk d2 0, dk d2 1, dk d2 2, C.slice (C.elems (dk d2 4)), C.int (IntKind.wrap IntKind.i64 (C.toInt (dk d2 3) + 1))] []) else none)) (fun k4 => (bif decide (C.toInt (dk d1 4) < 16) then (if 0 ≤ IntKind.wrap IntKind.i64 (4 * C.toInt (dk d1 4)) ∧ IntKind.wrap IntKind.i64 (4 * C.toInt (dk d1 4)) < (↑(List.length (C.elems (dk d1 1))) : Int) then (if 0 ≤ IntKind.wrap IntKind.i64 (IntKind.wrap IntKind.i64 (4 * C.toInt (dk d1 4)) + 1) ∧ IntKind.wrap IntKind.i64 (IntKind.wrap IntKind.i64 (4 * C.toInt (dk d1 4)) + 1) < (↑(List.length (C.elems (dk d1 1))) : Int) then (if 0 ≤ IntKind.wrap IntKind.i64 (IntKind.wrap IntKind.i64 (4 * C.toInt (dk d1 4)) + 2) ∧ IntKind.wrap IntKind.i64 (IntKind.wrap IntKind.i64 (4 * C.toInt (dk d1 4)) + 2) < (↑(List.length (C.elems (dk d1 1))) : Int) then (if 0 ≤ IntKind.wrap IntKind.i64 (IntKind.wrap IntKind.i64 (4 * C.toInt (dk d1 4)) + 3) ∧ IntKind.wrap IntKind.i64 (IntKind.wrap IntKind.i64 (4 * C.toInt (dk d1 4)) + 3) < (↑(List.length (C.elems (dk d1 1))) : Int) then (bif Nat.beq (List.length (C.elems (dk d1 3))) (List.length (C.elems (dk d1 3))) then (if (List.length (C.elems (dk d1 3)) + 1) * 8 ≤ 140737488355328 ∧ List.length (C.elems (dk d1 3)) + 1 ≤ 9223372036854775807 then (bif Nat.beq (List.length (C.elems (dk d1 3)) + 1) (List.length (C.elems (dk d1 3) ++ [C.int (IntKind.wrap IntKind.u64 (IntKind.wrap IntKind.u64 (IntKind.wrap IntKind.u64 (IntKind.wrap IntKind.u64 (IntKind.wrap IntKind.u64 (IntKind.wrap IntKind.u64 (IntKind.wrap IntKind.u64 (C.toInt (List.getD (C.elems (dk d1 1)) (Int.toNat (IntKind.wrap IntKind.i64 (4 * C.toInt (dk d1 4)))) C.nil)) * 256) + IntKind.wrap IntKind.u64 (C.toInt (List.getD (C.elems (dk d1 1)) (Int.toNat (IntKind.wrap IntKind.i64 (IntKind.wrap IntKind.i64 (4 * C.toInt (dk d1 4)) + 1))) C.nil))) * 256) + IntKind.wrap IntKind.u64 (C.toInt (List.getD (C.elems (dk d1 1)) (Int.toNat (IntKind.wrap IntKind.i64 (IntKind.wrap IntKind.i64 (4 * C.toInt (dk d1 4)) + 2))) C.nil))) * 256) + IntKind.wrap IntKind.u64 (C.toInt (List.getD (C.elems (dk d1 1)) (Int.toNat (IntKind.wrap IntKind.i64 (IntKind.wrap IntKind.i64 (4 * C.toInt (dk d1 4)) + 3))) C.nil))))])) then (k4 [dk d1 0, dk d1 1, dk d1 2, dk d1 4, C.slice (C.elems (dk d1 3) ++ [C.int (IntKind.wrap IntKind.u64 (IntKind.wrap IntKind.u64 (IntKind.wrap IntKind.u64 (IntKind.wrap IntKind.u64 (IntKind.wrap IntKind.u64 (IntKind.wrap IntKind.u64 (IntKind.wrap IntKind.u64 (C.toInt (List.getD (C.elems (dk d1 1)) (Int.toNat (IntKind.wrap IntKind.i64 (4 * C.toInt (dk d1 4)))) C.nil)) * 256) + IntKind.wrap IntKind.u64 (C.toInt (List.getD (C.elems (dk d1 1)) (Int.toNat (IntKind.wrap IntKind.i64 (IntKind.wrap IntKind.i64 (4 * C.toInt (dk d1 4)) + 1))) C.nil))) * 256) + IntKind.wrap IntKind.u64 (C.toInt (List.getD (C.elems (dk d1 1)) (Int.toNat (IntKind.wrap IntKind.i64 (IntKind.wrap IntKind.i64 (4 * C.toInt (dk d1 4)) + 2))) C.nil))) * 256) + IntKind.wrap IntKind.u64 (C.toInt (List.getD (C.elems (dk d1 1)) (Int.toNat (IntKind.wrap IntKind.i64 (IntKind.wrap IntKind.i64 (4 * C.toInt (dk d1 4)) + 3))) C.nil))))])] []) else none) else none) else none) else none) else none) else none) else none) else (if 0 ≤ IntKind.wrap IntKind.i64 (C.toInt (dk d1 4) - 15) ∧ IntKind.wrap IntKind.i64 (C.toInt (dk d1 4) - 15) < (↑(List.length (C.elems (dk d1 3))) : Int) then (if 0 ≤ IntKind.wrap IntKind.i64 (C.toInt (dk d1 4) - 2) ∧ IntKind.wrap IntKind.i64 (C.toInt (dk d1 4) - 2) < (↑(List.length (C.elems (dk d1 3))) : Int) then (b9 N (List.getD (C.elems (dk d1 3)) (Int.toNat (IntKind.wrap IntKind.i64 (C.toInt (dk d1 4) - 15))) C.nil) (C.int 7) (C.bool true) (fun d2 m2 => (b9 N (List.getD (C.elems (dk d1 3)) (Int.toNat (IntKind.wrap IntKind.i64 (C.toInt (dk d1 4) - 15))) C.nil) (C.int 18) (C.bool true) (fun d3 m3 => (b9 N (List.getD (C.elems (dk d1 3)) (Int.toNat (IntKind.wrap IntKind.i64 (C.toInt (dk d1 4) - 15))) C.nil) (C.int 3) (C.bool false) (fun d4 m4 => (b9 N (List.getD (C.elems (dk d1 3)) (Int.toNat (IntKind.wrap IntKind.i64 (C.toInt (dk d1 4) - 2))) C.nil) (C.int 17) (C.bool true) (fun d5 m5 => (b9 N (List.getD (C.elems (dk d1 3)) (Int.toNat (IntKind.wrap IntKind.i64 (C.toInt (dk d1 4) - 2))) C.nil) (C.int 19) (C.bool true) (fun d6 m6 => (b9 N (List.getD (C.elems (dk d1 3)) (Int.toNat (IntKind.wrap IntKind.i64 (C.toInt (dk d1 4) - 2))) C.nil) (C.int 10) (C.bool false) (fun d7 m7 => (if 0 ≤ IntKind.wrap IntKind.i64 (C.toInt (dk d1 4) - 16) ∧ IntKind.wrap IntKind.i64 (C.toInt (dk d1 4) - 16) < (↑(List.length (C.elems (dk d1 3))) : Int) then (if 0 ≤ IntKind.wrap IntKind.i64 (C.toInt (dk d1 4) - 7) ∧ IntKind.wrap IntKind.i64 (C.toInt (dk d1 4) - 7) < (↑(List.length (C.elems (dk d1 3))) : Int) then (bif Nat.beq (List.length (C.elems (dk d1 3))) (List.length (C.elems (dk d1 3))) then (if (List.length (C.elems (dk d1 3)) + 1) * 8 ≤ 140737488355328 ∧ List.length (C.elems (dk d1 3)) + 1 ≤ 9223372036854775807 then (bif Nat.beq (List.length (C.elems (dk d1 3)) + 1) (List.length (C.elems (dk d1 3) ++ [C.int (Int.tmod (IntKind.wrap IntKind.u64 (IntKind.wrap IntKind.u64 (IntKind.wrap IntKind.u64 (C.toInt (List.getD (C.elems (dk d1 3)) (Int.toNat (IntKind.wrap IntKind.i64 (C.toInt (dk d1 4) - 16))) C.nil) + u1 BinOp.xor IntKind.u64 (u1 BinOp.xor IntKind.u64 (C.toInt (dk d2 0)) (C.toInt (dk d3 0))) (C.toInt (dk d4 0))) + C.toInt (List.getD (C.elems (dk d1 3)) (Int.toNat (IntKind.wrap IntKind.i64 (C.toInt (dk d1 4) - 7))) C.nil)) + u1 BinOp.xor IntKind.u64 (u1 BinOp.xor IntKind.u64 (C.toInt (dk d5 0)) (C.toInt (dk d6 0))) (C.toInt (dk d7 0)))) 4294967296)])) then (k4 [dk d1 0, dk d1 1, dk d1 2, dk d1 4, C.slice (C.elems (dk d1 3) ++ [C.int (Int.tmod (IntKind.wrap IntKind.u64 (IntKind.wrap IntKind.u64 (IntKind.wrap IntKind.u64 (C.toInt (List.getD (C.elems (dk d1 3)) (Int.toNat (IntKind.wrap IntKind.i64 (C.toInt (dk d1 4) - 16))) C.nil) + u1 BinOp.xor IntKind.u64 (u1 BinOp.xor IntKind.u64 (C.toInt (dk d2 0)) (C.toInt (dk d3 0))) (C.toInt (dk d4 0))) + C.toInt (List.getD (C.elems (dk d1 3)) (Int.toNat (IntKind.wrap IntKind.i64 (C.toInt (dk d1 4) - 7))) C.nil)) + u1 BinOp.xor IntKind.u64 (u1 BinOp.xor IntKind.u64 (C.toInt (dk d5 0)) (C.toInt (dk d6 0))) (C.toInt (dk d7 0)))) 4294967296)])] []) else none) else none) else none) else none) else none))))))))))))) else none) else none)))) else (bif Nat.beq (List.length (C.elems (dk d1 3))) (List.length (C.elems (dk d1 3))) then (k2 [dk d1 0, dk d1 2, C.slice (C.elems (dk d1 3))] []) else none)))
noncomputable def q0T {R : Type} (N : Nat) (a0 a1 a2 : C) (k1 : KD R) : Option R := (jn (fun d1 m1 => (if List.isEmpty (C.elems (dk d1 0)) = false then (jn (fun d2 m2 => (jn (fun d3 m3 => (if List.length (C.elems (dk d3 1)) = List.length (C.elems (dk d3 1)) then (k1 [C.int (↑(Int.toNat (C.toInt (dk d3 0))) : Int), dk d3 1] []) else none)) (fun k2 => (if List.length (C.elems (dk d2 2)) = List.length (C.elems (dk d2 2)) then (u3 N (q0V N k2) [dk d2 0, C.int (↑(Int.toNat (C.toInt (dk d2 1))) : Int), C.int 0, C.int 0, dk d2 2, C.agg []] []) else none)))) (fun k2 => (bif Nat.beq (List.length (C.elems (dk d1 2))) (List.length (C.elems (dk d1 2))) then (if List.length (C.elems (dk d1 0)) = List.length (C.elems (dk d1 0)) then (u3 N (q0U N k2) [dk d1 0, dk d1 1, C.int (↑(List.length (C.elems (dk d1 0))) : Int), C.slice (C.elems (dk d1 2)), C.int 0, C.agg (C.elems (dk d1 0))] []) else none) else none))) else none)) (fun k2 => (u3 N (F8 N k2) [a1, a2, a0, C.slice [], C.int 0] [])))
noncomputable def J1 {R : Type} (N : Nat) : C → C → C → KD R → Option R := lid "" (q0T N)
theorem q6p {R : Type} (N : Nat) (a0 a1 a2 : C) (k : KD R) : J1 N a0 a1 a2 k = q0T N a0 a1 a2 k := by unfold J1; rw [w6]
theorem z2d {R : Type} (N : Nat) (a0 a1 a2 : C) (K : V → List (Key × O) → Option R) : exF (X0 gl0) ((q6q N).ov R) s5 (fun f r => bif Nat.beq f 98 then (bif Nat.beq r 0 then [(3, 5)] else bif Nat.beq r 12 then [(115, 3)] else bif Nat.beq r 18 then [(148, 7), (153, 7), (159, 7)] else bif Nat.beq r 19 then [(185, 7)] else bif Nat.beq r 21 then [(208, 7), (213, 7), (219, 7)] else []) else []) (fun f => bif Nat.beq f 98 then z2W else []) N 400 8 98 [.d o7 a0, .d (.slice 8 (.int .u64)) a1, .d (.slice 1 (.int .u8)) a2] A0 K =
  J1 N a0 a1 a2 (fun d1 m1 => K (V.sr (Key.l 1) [] 0 (Int.toNat (C.toInt (dk d1 0))) none 8 (Ty.int IntKind.u64)) [(Key.l 1, O.box (V.d (Ty.arr (List.length (C.elems (dk d1 1))) (Ty.int IntKind.u64)) (dk d1 1)))]) := by
 rw [q6p]
 exact (show _ = jn (fun d1 m1 => (K (V.sr (Key.l 1) [] 0 (Int.toNat (C.toInt (dk d1 0))) none 8 (Ty.int IntKind.u64)) [(Key.l 1, O.box (V.d (Ty.arr (List.length (C.elems (dk d1 1))) (Ty.int IntKind.u64)) (dk d1 1)))])) (q0T N a0 a1 a2) by kernel_rfl).trans (y4 _ _)
noncomputable def q3e (N : Nat) {R : Type} : OvG R := fun xs _ K => match xs with
 | [.d t0 a0, .d t1 a1, .d t2 a2] => if t0 = o7 ∧ t1 = (.slice 8 (.int .u64)) ∧ t2 = (.slice 1 (.int .u8)) then J1 N a0 a1 a2 (fun d1 m1 => K (V.sr (Key.l 1) [] 0 (Int.toNat (C.toInt (dk d1 0))) none 8 (Ty.int IntKind.u64)) [(Key.l 1, O.box (V.d (Ty.arr (List.length (C.elems (dk d1 1))) (Ty.int IntKind.u64)) (dk d1 1)))]) else none
 | _ => none
theorem z2V (N : Nat) {R : Type} : GOk (X0 gl0) 98 (q3e N (R := R)) := by
 intro xs A Kr r hr
 unfold q3e at hr
 split at hr
 ·simp only [Option.ite_none_right_eq_some] at hr
  obtain ⟨hty, hr⟩ := hr
  obtain ⟨rfl, rfl, rfl⟩ := hty
  rw [← z2d] at hr
  exact okA (q6q N) hr
 ·cases hr
noncomputable def z5N : Hints := [([0, 1, 1, 1], ⟨[1, 2, 4], [(5, .sl 1 (.int .u8) 5005)], [], [], [], [(.int .u64)]⟩),
  ([4, 0, 1, 1, 1], ⟨[1, 2, 4], [(5, .sl 1 (.int .u8) 5005)], [], [], [], [(.int .u64)]⟩),
  ([1, 0, 1, 1, 1, 1, 1, 1], ⟨[2, 4, 7], [(5, .sl 1 (.int .u8) 5005)], [], [], [], [(.int .u64)]⟩),
  ([4, 1, 0, 1, 1, 1, 1, 1, 1], ⟨[2, 4, 7], [(5, .sl 1 (.int .u8) 5005), (6, .d (.int .u64)), (8, .d (.int .i64))], [], [], [], [(.int .u64)]⟩),
  ([1, 0, 1, 1, 1, 1, 1, 1, 1, 1, 1], ⟨[2, 4], [(5, .sl 1 (.int .u8) 5005), (9, .vec (.l 1000000000075) 8 (.int .u64))], [], [], [], [(.int .u64)]⟩),
  ([4, 1, 0, 1, 1, 1, 1, 1, 1, 1, 1, 1], ⟨[2, 4], [(5, .sl 1 (.int .u8) 5005), (9, .vec (.l 1000000000075) 8 (.int .u64)), (10, .d (.int .i64))], [], [], [], [(.int .u64)]⟩),
  ([0, 1, 1, 1, 1, 1, 1, 1, 1, 1, 1], ⟨[4], [(9, .vec (.l 1000000000075) 8 (.int .u64))], [], [], [], [(.int .u64)]⟩),
  ([1, 0, 1, 1, 1, 1, 1, 1, 1, 1, 1, 1, 1, 1], ⟨[4, 11], [], [], [], [], [(.int .u64)]⟩),
  ([4, 1, 0, 1, 1, 1, 1, 1, 1, 1, 1, 1, 1, 1, 1], ⟨[4, 11], [(9, .vec (.l 1000000000075) 8 (.int .u64)), (12, .d (.int .i64))], [], [], [], [(.int .u64)]⟩),
  ([9], ⟨[], [(4, .as (.ptr (.l 4) [] (.arr 32 (.int .u8))))], [], [(.l 4, .box (.d (.arr 32 (.int .u8))))], [], [(.int .u64)]⟩),
  ([4, 0, 1, 1, 1, 1, 1, 1, 1, 1, 1, 1], ⟨[2, 4], [(5, .d (.slice 1 (.int .u8))), (9, .vec (.l 1000000000075) 8 (.int .u64))], [], [], [], [(.int .u64)]⟩)]
noncomputable def q8V (N : Nat) : OvS (X0 gl0) where
 g R := [(97, q9X N), (98, q3e N)]
 ok := fun R => List.forall_mem_cons.2 ⟨z8e N, List.forall_mem_cons.2 ⟨z2V N, fun _ h => nomatch h⟩⟩
noncomputable def q2g {R : Type} (N : Nat) (k2 : KD R) : KD R → List C → List Es → Option R := (fun k3 d5 m5 => (bif decide (0 ≤ C.toInt (dk d5 1)) then (if 0 ≤ IntKind.wrap IntKind.i64 (Int.tdiv (C.toInt (dk d5 1)) 4) ∧ IntKind.wrap IntKind.i64 (Int.tdiv (C.toInt (dk d5 1)) 4) < (↑(Int.toNat (C.toInt (dk d5 0))) : Int) then (if 0 ≤ C.toInt (dk d5 1) ∧ C.toInt (dk d5 1) < 32 then (if 0 ≤ IntKind.wrap IntKind.i64 (Int.tdiv (C.toInt (dk d5 1)) 4) ∧ IntKind.wrap IntKind.i64 (Int.tdiv (C.toInt (dk d5 1)) 4) < (↑(Int.toNat (C.toInt (dk d5 0))) : Int) then (if 0 ≤ IntKind.wrap IntKind.i64 (Int.tdiv (C.toInt (dk d5 1)) 4) ∧ IntKind.wrap IntKind.i64 (Int.tdiv (C.toInt (dk d5 1)) 4) < (↑(Int.toNat (C.toInt (dk d5 0))) : Int) then (if List.length (C.elems (dk d5 4)) = List.length (C.elems (C.set (dk d5 4) (0 + Int.toNat (IntKind.wrap IntKind.i64 (Int.tdiv (C.toInt (dk d5 1)) 4))) (C.int (IntKind.wrap IntKind.u64 (Int.tdiv (C.toInt (C.get (dk d5 4) (0 + Int.toNat (IntKind.wrap IntKind.i64 (Int.tdiv (C.toInt (dk d5 1)) 4))))) 256))))) then (k3 [C.int (↑(Int.toNat (C.toInt (dk d5 0))) : Int), C.int (IntKind.wrap IntKind.i64 (C.toInt (dk d5 1) - 1)), dk d5 2, C.set (dk d5 3) (Int.toNat (C.toInt (dk d5 1))) (C.int (IntKind.wrap IntKind.u8 (Int.tmod (C.toInt (C.get (dk d5 4) (0 + Int.toNat (IntKind.wrap IntKind.i64 (Int.tdiv (C.toInt (dk d5 1)) 4))))) 256))), C.set (dk d5 4) (0 + Int.toNat (IntKind.wrap IntKind.i64 (Int.tdiv (C.toInt (dk d5 1)) 4))) (C.int (IntKind.wrap IntKind.u64 (Int.tdiv (C.toInt (C.get (dk d5 4) (0 + Int.toNat (IntKind.wrap IntKind.i64 (Int.tdiv (C.toInt (dk d5 1)) 4))))) 256)))] []) else none) else none) else none) else none) else none) else (k2 [dk d5 2, dk d5 3] [])))
noncomputable def q2f {R : Type} (N : Nat) (k2 : KD R) : KD R → List C → List Es → Option R := (fun k3 d4 m4 => (bif decide (0 < (↑(List.length (C.elems (dk d4 1))) : Int)) then (if Int.ofNat 0 ≤ 0 ∧ Int.ofNat 0 ≤ 64 ∧ 64 ≤ (↑(List.length (C.elems (dk d4 1))) : Int) then (J1 N (dk d4 0) (C.slice (List.take (Int.toNat (C.toInt (dk d4 2))) (List.drop 0 (C.elems (dk d4 4))))) (C.slice (cut (C.elems (dk d4 1)) 0 64)) (fun d5 m5 => (if Int.ofNat 0 ≤ 64 ∧ 64 ≤ (↑(List.length (C.elems (dk d4 1))) : Int) ∧ (↑(List.length (C.elems (dk d4 1))) : Int) ≤ (↑(List.length (C.elems (dk d4 1))) : Int) then (if List.length (C.elems (dk d5 1)) = List.length (C.elems (dk d5 1)) then (k3 [dk d4 0, C.slice (cut (C.elems (dk d4 1)) 64 (↑(List.length (C.elems (dk d4 1))) : Int)), C.int (↑(Int.toNat (C.toInt (dk d5 0))) : Int), dk d4 3, dk d5 1] []) else none) else none))) else none) else (if List.length (C.elems (dk d4 4)) = List.length (C.elems (dk d4 4)) then (k2 [C.int (↑(Int.toNat (C.toInt (dk d4 2))) : Int), dk d4 3, dk d4 4] []) else none)))
noncomputable def q2e {R : Type} (N : Nat) (k2 : KD R) : KD R → List C → List Es → Option R := (fun k3 d3 m3 => (bif decide (C.toInt (dk d3 3) < 8) then (q3d N (C.get (dk d3 0) 0) (dk d3 3) (fun d4 m4 => (if 0 ≤ C.toInt (dk d3 3) ∧ C.toInt (dk d3 3) < (↑(Int.toNat (C.toInt (dk d3 2))) : Int) then (bif Nat.beq (List.length (C.elems (dk d3 1))) (List.length (C.elems (dk d3 1))) then (if List.length (C.elems (dk d3 5)) = List.length (C.elems (C.set (dk d3 5) (0 + Int.toNat (C.toInt (dk d3 3))) (dk d4 0))) then (k3 [dk d3 0, C.slice (C.elems (dk d3 1)), C.int (↑(Int.toNat (C.toInt (dk d3 2))) : Int), C.int (IntKind.wrap IntKind.i64 (C.toInt (dk d3 3) + 1)), dk d3 4, C.set (dk d3 5) (0 + Int.toNat (C.toInt (dk d3 3))) (dk d4 0)] []) else none) else none) else none))) else (bif Nat.beq (List.length (C.elems (dk d3 1))) (List.length (C.elems (dk d3 1))) then (if List.length (C.elems (dk d3 5)) = List.length (C.elems (dk d3 5)) then (k2 [dk d3 0, C.slice (C.elems (dk d3 1)), C.int (↑(Int.toNat (C.toInt (dk d3 2))) : Int), dk d3 4, dk d3 5] []) else none) else none)))
noncomputable def q2d {R : Type} (N : Nat) (k2 : KD R) : KD R → List C → List Es → Option R := (fun k3 d2 m2 => (bif decide (0 ≤ C.toInt (dk d2 6)) then (if 0 ≤ C.toInt (dk d2 6) ∧ C.toInt (dk d2 6) < (↑(Int.toNat (C.toInt (dk d2 2))) : Int) then (bif Nat.beq (List.length (C.elems (dk d2 4))) (List.length (C.elems (dk d2 4))) then (k3 [dk d2 0, C.int (↑(Int.toNat (C.toInt (dk d2 1))) : Int), C.int (↑(Int.toNat (C.toInt (dk d2 2))) : Int), C.int (↑(Int.toNat (C.toInt (dk d2 3))) : Int), C.slice (C.elems (dk d2 4)), C.int (IntKind.wrap IntKind.u64 (Int.tdiv (C.toInt (dk d2 5)) 256)), C.int (IntKind.wrap IntKind.i64 (C.toInt (dk d2 6) - 1)), dk d2 7, C.set (dk d2 8) (Int.toNat (C.toInt (dk d2 1)) + Int.toNat (C.toInt (dk d2 6))) (C.int (IntKind.wrap IntKind.u8 (Int.tmod (C.toInt (dk d2 5)) 256)))] []) else none) else none) else (bif Nat.beq (List.length (C.elems (dk d2 4))) (List.length (C.elems (dk d2 4))) then (k2 [dk d2 0, C.int (↑(Int.toNat (C.toInt (dk d2 1))) : Int), C.int (↑(Int.toNat (C.toInt (dk d2 2))) : Int), C.int (↑(Int.toNat (C.toInt (dk d2 3))) : Int), C.slice (C.elems (dk d2 4)), dk d2 7, dk d2 8] []) else none)))
noncomputable def q2c {R : Type} (N : Nat) (k2 : KD R) : KD R → List C → List Es → Option R := (fun k3 d1 m1 => (bif !decide (Int.tmod (↑(List.length (C.elems (dk d1 2))) : Int) 64 = 56) then (bif Nat.beq (List.length (C.elems (dk d1 2))) (List.length (C.elems (dk d1 2))) then (if (List.length (C.elems (dk d1 2)) + 1) * 1 ≤ 140737488355328 ∧ List.length (C.elems (dk d1 2)) + 1 ≤ 9223372036854775807 then (bif Nat.beq (List.length (C.elems (dk d1 2)) + 1) (List.length (C.elems (dk d1 2) ++ [C.int 0])) then (k3 [dk d1 0, dk d1 1, C.slice (C.elems (dk d1 2) ++ [C.int 0]), dk d1 3] []) else none) else none) else none) else (bif Nat.beq (List.length (C.elems (dk d1 2))) (List.length (C.elems (dk d1 2))) then (k2 [dk d1 0, dk d1 1, C.slice (C.elems (dk d1 2)), dk d1 3] []) else none)))
noncomputable def q2b {R : Type} (N : Nat) (a0 a1 : C) (k1 : KD R) : Option R := (bif Nat.beq (List.length (C.elems a1)) (List.length (C.elems a1)) then (if (List.length (C.elems a1) + 1) * 1 ≤ 140737488355328 ∧ List.length (C.elems a1) + 1 ≤ 9223372036854775807 then (jn (fun d1 m1 => (jn (fun d2 m2 => (bif Nat.beq (List.length (C.elems (dk d2 4))) (List.length (C.elems (dk d2 4))) then (if (List.length (C.elems (dk d2 4)) + List.length (List.take (Int.toNat (C.toInt (dk d2 2))) (List.drop (Int.toNat (C.toInt (dk d2 1))) (C.elems (dk d2 6))))) * 1 ≤ 140737488355328 ∧ List.length (C.elems (dk d2 4)) + List.length (List.take (Int.toNat (C.toInt (dk d2 2))) (List.drop (Int.toNat (C.toInt (dk d2 1))) (C.elems (dk d2 6)))) ≤ 9223372036854775807 then (jn (fun d3 m3 => (jn (fun d4 m4 => (jn (fun d5 m5 => (k1 [dk d5 1] [])) (fun k2 => (if List.length (C.elems (dk d4 2)) = List.length (C.elems (dk d4 2)) then (u3 N (q2g N k2) [C.int (↑(Int.toNat (C.toInt (dk d4 0))) : Int), C.int 31, dk d4 1, z0 (Ty.arr 32 (Ty.int IntKind.u8)), dk d4 2] []) else none)))) (fun k2 => (if List.length (C.elems (dk d3 4)) = List.length (C.elems (dk d3 4)) then (u3 N (q2f N k2) [dk d3 0, C.slice (C.elems (dk d3 1)), C.int (↑(Int.toNat (C.toInt (dk d3 2))) : Int), dk d3 3, dk d3 4] []) else none)))) (fun k2 => (bif Nat.beq (List.length (C.elems (dk d2 4)) + List.length (List.take (Int.toNat (C.toInt (dk d2 2))) (List.drop (Int.toNat (C.toInt (dk d2 1))) (C.elems (dk d2 6))))) (List.length (C.elems (dk d2 4) ++ List.take (Int.toNat (C.toInt (dk d2 2))) (List.drop (Int.toNat (C.toInt (dk d2 1))) (C.elems (dk d2 6))))) then (u3 N (q2e N k2) [dk d2 0, C.slice (C.elems (dk d2 4) ++ List.take (Int.toNat (C.toInt (dk d2 2))) (List.drop (Int.toNat (C.toInt (dk d2 1))) (C.elems (dk d2 6)))), C.int (↑(Int.toNat 8) : Int), C.int 0, dk d2 5, C.agg (List.replicate 8 (z0 (Ty.int IntKind.u64)))] []) else none))) else none) else none)) (fun k2 => (bif Nat.beq (List.length (C.elems (dk d1 2))) (List.length (C.elems (dk d1 2))) then (u3 N (q2d N k2) [dk d1 1, C.int 0, C.int (↑(Int.toNat 8) : Int), C.int (↑(Int.toNat 8) : Int), C.slice (C.elems (dk d1 2)), C.int (IntKind.wrap IntKind.u64 (IntKind.wrap IntKind.u64 (↑(List.length (C.elems (dk d1 0))) : Int) * 8)), C.int 7, dk d1 3, C.agg (List.replicate 8 (z0 (Ty.int IntKind.u8)))] []) else none)))) (fun k2 => (bif Nat.beq (List.length (C.elems a1) + 1) (List.length (C.elems a1 ++ [C.int 128])) then (u3 N (q2c N k2) [a1, a0, C.slice (C.elems a1 ++ [C.int 128]), z0 (Ty.arr 32 (Ty.int IntKind.u8))] []) else none))) else none) else none)
noncomputable def X9 {R : Type} (N : Nat) : C → C → KD R → Option R := lid "" (q2b N)
theorem q8U {R : Type} (N : Nat) (a0 a1 : C) (k : KD R) : X9 N a0 a1 k = q2b N a0 a1 k := by unfold X9; rw [w6]
theorem z45 {R : Type} (N : Nat) (a0 a1 : C) (K : V → List (Key × O) → Option R) : exF (X0 gl0) ((q8V N).ov R) s5 (fun f r => bif Nat.beq f 71 then (bif Nat.beq r 0 then [(2, 5)] else bif Nat.beq r 13 then [(45, 9)] else bif Nat.beq r 19 then [(1000009, 17)] else []) else []) (fun f => bif Nat.beq f 71 then z5N else []) N 400 8 71 [.d o7 a0, .d (.slice 1 (.int .u8)) a1] A0 K =
  X9 N a0 a1 (fun d1 m1 => K (V.d (Ty.arr 32 (Ty.int IntKind.u8)) (dk d1 0)) []) := by
 rw [q8U]
 exact (show _ = jn (fun d1 m1 => (K (V.d (Ty.arr 32 (Ty.int IntKind.u8)) (dk d1 0)) [])) (q2b N a0 a1) by kernel_rfl).trans (y4 _ _)
noncomputable def q2B (N : Nat) {R : Type} : OvG R := fun xs _ K => match xs with
 | [.d t0 a0, .d t1 a1] => if t0 = o7 ∧ t1 = (.slice 1 (.int .u8)) then X9 N a0 a1 (fun d1 m1 => K (V.d (Ty.arr 32 (Ty.int IntKind.u8)) (dk d1 0)) []) else none
 | _ => none
theorem q8W (N : Nat) {R : Type} : GOk (X0 gl0) 71 (q2B N (R := R)) := by
 intro xs A Kr r hr
 unfold q2B at hr
 split at hr
 ·simp only [Option.ite_none_right_eq_some] at hr
  obtain ⟨hty, hr⟩ := hr
  obtain ⟨rfl, rfl⟩ := hty
  rw [← z45] at hr
  exact okA (q8V N) hr
 ·cases hr
noncomputable def y3w : Hints := [([1, 0, 1, 1], ⟨[], [(5, .sl 1 (.int .u8) 5005)], [], [], [], []⟩),
  ([4, 1, 0, 1, 1], ⟨[1], [(5, .sl 1 (.int .u8) 5005), (6, .d (.int .i64))], [], [], [], []⟩),
  ([9], ⟨[], [(4, .sl 1 (.int .u8) 5004)], [], [], [], []⟩)]
noncomputable def z4B (N : Nat) : OvS (X0 gl0) where
 g R := []
 ok := fun R => fun _ h => nomatch h
noncomputable def q5X {R : Type} (N : Nat) (k2 : KD R) : KD R → List C → List Es → Option R := (fun k3 d1 m1 => (bif decide (C.toInt (dk d1 2) < (↑(List.length (C.elems (dk d1 0))) : Int)) then (if 0 ≤ C.toInt (dk d1 2) ∧ C.toInt (dk d1 2) < (↑(List.length (C.elems (dk d1 0))) : Int) then (bif Nat.beq (List.length (C.elems (dk d1 1))) (List.length (C.elems (dk d1 1))) then (if (List.length (C.elems (dk d1 1)) + 4) * 1 ≤ 140737488355328 ∧ List.length (C.elems (dk d1 1)) + 4 ≤ 9223372036854775807 then (if 0 ≤ C.toInt (dk d1 2) ∧ C.toInt (dk d1 2) < (↑(List.length (C.elems (dk d1 0))) : Int) then (bif Nat.beq (List.length (C.elems (dk d1 1)) + 4) (List.length (C.elems (dk d1 1) ++ [C.int (IntKind.wrap IntKind.u8 (IntKind.wrap IntKind.i64 (Int.tdiv (↑(List.length (C.elems (List.getD (C.elems (dk d1 0)) (Int.toNat (C.toInt (dk d1 2))) C.nil))) : Int) 16777216))), C.int (IntKind.wrap IntKind.u8 (IntKind.wrap IntKind.i64 (Int.tdiv (↑(List.length (C.elems (List.getD (C.elems (dk d1 0)) (Int.toNat (C.toInt (dk d1 2))) C.nil))) : Int) 65536))), C.int (IntKind.wrap IntKind.u8 (IntKind.wrap IntKind.i64 (Int.tdiv (↑(List.length (C.elems (List.getD (C.elems (dk d1 0)) (Int.toNat (C.toInt (dk d1 2))) C.nil))) : Int) 256))), C.int (IntKind.wrap IntKind.u8 (↑(List.length (C.elems (List.getD (C.elems (dk d1 0)) (Int.toNat (C.toInt (dk d1 2))) C.nil))) : Int))])) then (if (List.length (C.elems (dk d1 1) ++ [C.int (IntKind.wrap IntKind.u8 (IntKind.wrap IntKind.i64 (Int.tdiv (↑(List.length (C.elems (List.getD (C.elems (dk d1 0)) (Int.toNat (C.toInt (dk d1 2))) C.nil))) : Int) 16777216))), C.int (IntKind.wrap IntKind.u8 (IntKind.wrap IntKind.i64 (Int.tdiv (↑(List.length (C.elems (List.getD (C.elems (dk d1 0)) (Int.toNat (C.toInt (dk d1 2))) C.nil))) : Int) 65536))), C.int (IntKind.wrap IntKind.u8 (IntKind.wrap IntKind.i64 (Int.tdiv (↑(List.length (C.elems (List.getD (C.elems (dk d1 0)) (Int.toNat (C.toInt (dk d1 2))) C.nil))) : Int) 256))), C.int (IntKind.wrap IntKind.u8 (↑(List.length (C.elems (List.getD (C.elems (dk d1 0)) (Int.toNat (C.toInt (dk d1 2))) C.nil))) : Int))]) + List.length (C.elems (List.getD (C.elems (dk d1 0)) (Int.toNat (C.toInt (dk d1 2))) C.nil))) * 1 ≤ 140737488355328 ∧ List.length (C.elems (dk d1 1) ++ [C.int (IntKind.wrap IntKind.u8 (IntKind.wrap IntKind.i64 (Int.tdiv (↑(List.length (C.elems (List.getD (C.elems (dk d1 0)) (Int.toNat (C.toInt (dk d1 2))) C.nil))) : Int) 16777216))), C.int (IntKind.wrap IntKind.u8 (IntKind.wrap IntKind.i64 (Int.tdiv (↑(List.length (C.elems (List.getD (C.elems (dk d1 0)) (Int.toNat (C.toInt (dk d1 2))) C.nil))) : Int) 65536))), C.int (IntKind.wrap IntKind.u8 (IntKind.wrap IntKind.i64 (Int.tdiv (↑(List.length (C.elems (List.getD (C.elems (dk d1 0)) (Int.toNat (C.toInt (dk d1 2))) C.nil))) : Int) 256))), C.int (IntKind.wrap IntKind.u8 (↑(List.length (C.elems (List.getD (C.elems (dk d1 0)) (Int.toNat (C.toInt (dk d1 2))) C.nil))) : Int))]) + List.length (C.elems (List.getD (C.elems (dk d1 0)) (Int.toNat (C.toInt (dk d1 2))) C.nil)) ≤ 9223372036854775807 then (bif Nat.beq (List.length (C.elems (dk d1 1) ++ [C.int (IntKind.wrap IntKind.u8 (IntKind.wrap IntKind.i64 (Int.tdiv (↑(List.length (C.elems (List.getD (C.elems (dk d1 0)) (Int.toNat (C.toInt (dk d1 2))) C.nil))) : Int) 16777216))), C.int (IntKind.wrap IntKind.u8 (IntKind.wrap IntKind.i64 (Int.tdiv (↑(List.length (C.elems (List.getD (C.elems (dk d1 0)) (Int.toNat (C.toInt (dk d1 2))) C.nil))) : Int) 65536))), C.int (IntKind.wrap IntKind.u8 (IntKind.wrap IntKind.i64 (Int.tdiv (↑(List.length (C.elems (List.getD (C.elems (dk d1 0)) (Int.toNat (C.toInt (dk d1 2))) C.nil))) : Int) 256))), C.int (IntKind.wrap IntKind.u8 (↑(List.length (C.elems (List.getD (C.elems (dk d1 0)) (Int.toNat (C.toInt (dk d1 2))) C.nil))) : Int))]) + List.length (C.elems (List.getD (C.elems (dk d1 0)) (Int.toNat (C.toInt (dk d1 2))) C.nil))) (List.length (C.elems (dk d1 1) ++ [C.int (IntKind.wrap IntKind.u8 (IntKind.wrap IntKind.i64 (Int.tdiv (↑(List.length (C.elems (List.getD (C.elems (dk d1 0)) (Int.toNat (C.toInt (dk d1 2))) C.nil))) : Int) 16777216))), C.int (IntKind.wrap IntKind.u8 (IntKind.wrap IntKind.i64 (Int.tdiv (↑(List.length (C.elems (List.getD (C.elems (dk d1 0)) (Int.toNat (C.toInt (dk d1 2))) C.nil))) : Int) 65536))), C.int (IntKind.wrap IntKind.u8 (IntKind.wrap IntKind.i64 (Int.tdiv (↑(List.length (C.elems (List.getD (C.elems (dk d1 0)) (Int.toNat (C.toInt (dk d1 2))) C.nil))) : Int) 256))), C.int (IntKind.wrap IntKind.u8 (↑(List.length (C.elems (List.getD (C.elems (dk d1 0)) (Int.toNat (C.toInt (dk d1 2))) C.nil))) : Int))] ++ C.elems (List.getD (C.elems (dk d1 0)) (Int.toNat (C.toInt (dk d1 2))) C.nil))) then (k3 [dk d1 0, C.slice (C.elems (dk d1 1) ++ [C.int (IntKind.wrap IntKind.u8 (IntKind.wrap IntKind.i64 (Int.tdiv (↑(List.length (C.elems (List.getD (C.elems (dk d1 0)) (Int.toNat (C.toInt (dk d1 2))) C.nil))) : Int) 16777216))), C.int (IntKind.wrap IntKind.u8 (IntKind.wrap IntKind.i64 (Int.tdiv (↑(List.length (C.elems (List.getD (C.elems (dk d1 0)) (Int.toNat (C.toInt (dk d1 2))) C.nil))) : Int) 65536))), C.int (IntKind.wrap IntKind.u8 (IntKind.wrap IntKind.i64 (Int.tdiv (↑(List.length (C.elems (List.getD (C.elems (dk d1 0)) (Int.toNat (C.toInt (dk d1 2))) C.nil))) : Int) 256))), C.int (IntKind.wrap IntKind.u8 (↑(List.length (C.elems (List.getD (C.elems (dk d1 0)) (Int.toNat (C.toInt (dk d1 2))) C.nil))) : Int))] ++ C.elems (List.getD (C.elems (dk d1 0)) (Int.toNat (C.toInt (dk d1 2))) C.nil)), C.int (IntKind.wrap IntKind.i64 (C.toInt (dk d1 2) + 1))] []) else none) else none) else none) else none) else none) else none) else none) else (bif Nat.beq (List.length (C.elems (dk d1 1))) (List.length (C.elems (dk d1 1))) then (k2 [C.slice (C.elems (dk d1 1))] []) else none)))
noncomputable def q3K {R : Type} (N : Nat) (a0 a1 : C) (k1 : KD R) : Option R := (jn (fun d1 m1 => (bif Nat.beq (List.length (C.elems (dk d1 0))) (List.length (C.elems (dk d1 0))) then (k1 [C.slice (C.elems (dk d1 0))] []) else none)) (fun k2 => (u3 N (q5X N k2) [a1, C.slice [a0, C.int (IntKind.wrap IntKind.u8 (↑(List.length (C.elems a1)) : Int))], C.int 0] [])))
noncomputable def q1w {R : Type} (N : Nat) : C → C → KD R → Option R := lid "" (q3K N)
theorem z4A {R : Type} (N : Nat) (a0 a1 : C) (k : KD R) : q1w N a0 a1 k = q3K N a0 a1 k := by unfold q1w; rw [w6]
theorem y1E {R : Type} (N : Nat) (a0 a1 : C) (K : V → List (Key × O) → Option R) : exF (X0 gl0) ((z4B N).ov R) s5 (fun f r => bif Nat.beq f 88 then (bif Nat.beq r 1 then [(12, 4)] else []) else []) (fun f => bif Nat.beq f 88 then y3w else []) N 400 8 88 [.d (.int .u8) a0, .d (.slice 24 (.slice 1 (.int .u8))) a1] A0 K =
  q1w N a0 a1 (fun d1 m1 => K (V.ts 1 (Ty.int IntKind.u8) (C.elems (dk d1 0))) []) := by
 rw [z4A]
 exact (show _ = jn (fun d1 m1 => (bif Nat.beq (List.length (C.elems (dk d1 0))) (List.length (C.elems (dk d1 0))) then
  (K (V.ts 1 (Ty.int IntKind.u8) (C.elems (dk d1 0))) [])
 else
  none)) (q3K N a0 a1) by kernel_rfl).trans ((y4 _ _).trans (congrArg (q3K N a0 a1) (funext fun _ => funext fun _ => by simp only [Nat.beq_refl, cond_true])))
noncomputable def q6N (N : Nat) {R : Type} : OvG R := fun xs _ K => match xs with
 | [.d t0 a0, .d t1 a1] => if t0 = (.int .u8) ∧ t1 = (.slice 24 (.slice 1 (.int .u8))) then q1w N a0 a1 (fun d1 m1 => K (V.ts 1 (Ty.int IntKind.u8) (C.elems (dk d1 0))) []) else none
 | _ => none
theorem z4C (N : Nat) {R : Type} : GOk (X0 gl0) 88 (q6N N (R := R)) := by
 intro xs A Kr r hr
 unfold q6N at hr
 split at hr
 ·simp only [Option.ite_none_right_eq_some] at hr
  obtain ⟨hty, hr⟩ := hr
  obtain ⟨rfl, rfl⟩ := hty
  rw [← y1E] at hr
  exact okA (z4B N) hr
 ·cases hr
noncomputable def z46 : Hints := [([9], ⟨[], [(6, .as (.ptr (.l 6) [] (.arr 32 (.int .u8))))], [], [(.l 6, .box (.d (.arr 32 (.int .u8))))], [], []⟩)]
noncomputable def q7C (N : Nat) : OvS (X0 gl0) where
 g R := [(71, q2B N), (88, q6N N)]
 ok := fun R => List.forall_mem_cons.2 ⟨q8W N, List.forall_mem_cons.2 ⟨z4C N, fun _ h => nomatch h⟩⟩
noncomputable def q1L {R : Type} (N : Nat) (a0 a1 a2 : C) (k1 : KD R) : Option R := (q1w N a1 a2 (fun d1 m1 => (X9 N a0 (C.slice (C.elems (dk d1 0))) (fun d2 m2 => (k1 [dk d2 0] [])))))
noncomputable def Y7 {R : Type} (N : Nat) : C → C → C → KD R → Option R := lid "" (q1L N)
theorem q7B {R : Type} (N : Nat) (a0 a1 a2 : C) (k : KD R) : Y7 N a0 a1 a2 k = q1L N a0 a1 a2 k := by unfold Y7; rw [w6]
theorem z3y {R : Type} (N : Nat) (a0 a1 a2 : C) (K : V → List (Key × O) → Option R) : exF (X0 gl0) ((q7C N).ov R) s5 (fun f r => bif Nat.beq f 61 then (bif Nat.beq r 0 then [(3, 5)] else bif Nat.beq r 1 then [(11, 7)] else []) else []) (fun f => bif Nat.beq f 61 then z46 else []) N 400 8 61 [.d o7 a0, .d (.int .u8) a1, .d (.slice 24 (.slice 1 (.int .u8))) a2] A0 K =
  Y7 N a0 a1 a2 (fun d1 m1 => K (V.d (Ty.arr 32 (Ty.int IntKind.u8)) (dk d1 0)) []) := by
 rw [q7B]
 exact (show _ = jn (fun d1 m1 => (K (V.d (Ty.arr 32 (Ty.int IntKind.u8)) (dk d1 0)) [])) (q1L N a0 a1 a2) by kernel_rfl).trans (y4 _ _)
noncomputable def F9 (N : Nat) {R : Type} : OvG R := fun xs _ K => match xs with
 | [.d t0 a0, .d t1 a1, .d t2 a2] => if t0 = o7 ∧ t1 = (.int .u8) ∧ t2 = (.slice 24 (.slice 1 (.int .u8))) then Y7 N a0 a1 a2 (fun d1 m1 => K (V.d (Ty.arr 32 (Ty.int IntKind.u8)) (dk d1 0)) []) else none
 | _ => none
theorem q1M (N : Nat) {R : Type} : GOk (X0 gl0) 61 (F9 N (R := R)) := by
 intro xs A Kr r hr
 unfold F9 at hr
 split at hr
 ·simp only [Option.ite_none_right_eq_some] at hr
  obtain ⟨hty, hr⟩ := hr
  obtain ⟨rfl, rfl, rfl⟩ := hty
  rw [← z3y] at hr
  exact okA (q7C N) hr
 ·cases hr
end Go.Proofs.YtgdonkaoajbclaaGreatDoor
namespace Go.Proofs.YtgdonkaoajbclaaGreatDoor
open Go Go.E
set_option maxRecDepth 100000
set_option maxHeartbeats 4000000
set_option linter.unusedSimpArgs false
variable {R : Type} {N : Nat}
theorem q0w (x : C) (a : Int) (h0 : 0 ≤ a) (h1 : a ≤ 40) (b : Bool) (hN : 100 < N) : ∃ v : Int, ∀ k : KD R, b9 N x (.int a) (.bool b) k = k [.int v] [] := by
 obtain ⟨n, rfl⟩ := Int.eq_ofNat_of_zero_le h0
 obtain ⟨d, ⟨p, hp, rfl⟩, h⟩ := j6 (R := R) (F := fun k2 => q48 N k2) n (fun i st => ∃ p : Nat, st = [x, .int n, .bool b, .int p, .int i] ∧ 1 ≤ p ∧ p ≤ 2 ^ i) (fun d => ∃ p : Nat, 1 ≤ p ∧ d = [x, .bool b, .int p])
  (fun i st hi hst => by
   obtain ⟨p, rfl, hp, hp2⟩ := hst
   have e1 : (i : Int) < (n : Int) := by omega
   have e2 : 2 ^ i ≤ 2 ^ 40 := Nat.pow_le_pow_right (by omega) (by omega)
   have e3 : IntKind.u64.wrap ((p : Int) * 2) = ((p * 2 : Nat) : Int) := by rw [wrap_u64 (by omega) (by omega)]; omega
   refine ⟨_, ⟨p * 2, rfl, by omega, by rw [Nat.pow_succ]; omega⟩, fun k rec => ?_⟩
   unfold q48
   simp only [x9, w7, w9, u6, j3, y8, p9, e1, e3, decide_true, cond_true, u5 (show i < 4611686018427387904 by omega)])
  (fun st hst => by
   obtain ⟨p, rfl, hp, hp2⟩ := hst
   refine ⟨_, ⟨p, hp, rfl⟩, fun k rec => ?_⟩
   unfold q48
   simp only [x9, w7, w9, u6, j3, y8, p9, Int.lt_irrefl, decide_false, cond_false])
  (N := N) (by omega) (st := [x, .int n, .bool b, .int (1 : Nat), .int (0 : Nat)]) ⟨1, rfl, by omega, by simp⟩
 have hne : (p : Int) ≠ 0 := by omega
 cases b
 ·refine ⟨?v1, fun k => ?eq1⟩
  case eq1 =>
   rw [q7R]
   unfold q2U
   simp only [y4, p9]
   refine (h _).trans ?_
   simp only [x9, w7, w9, p9, y8, cond_false]
   exact if_pos hne
 ·refine ⟨?v2, fun k => ?eq2⟩
  case eq2 =>
   rw [q7R]
   unfold q2U
   simp only [y4, p9]
   refine (h _).trans ?_
   simp only [x9, w7, w9, p9, y8, cond_true]
   refine (if_pos hne).trans ?_
   refine (if_pos hne).trans ?_
   exact if_pos hne
theorem x1a (s : C) (a : Int) (h0 : 0 ≤ a) (h1 : 8 * a + 8 ≤ (s.toStr.length : Int)) (h2 : a ≤ 1000) (hN : 100 < N) : ∃ v : Int, ∀ k : KD R, q3d N s (.int a) k = k [.int v] [] := by
 obtain ⟨n, rfl⟩ := Int.eq_ofNat_of_zero_le h0
 have q1 : IntKind.i64.wrap (8 * (n : Int)) = 8 * n := wrap_i64 (by omega) (by omega)
 have q2 : IntKind.i64.wrap (8 * (n : Int) + 8) = 8 * n + 8 := wrap_i64 (by omega) (by omega)
 obtain ⟨d, ⟨v, rfl⟩, h⟩ := j6 (R := R) (F := fun k2 => q5D N k2) 8 (fun i st => ∃ v : Int, st = [s, .int n, .int v, .int (8 * n + i)]) (fun d => ∃ v : Int, d = [.int v])
  (fun i st hi hst => by
   obtain ⟨v, rfl⟩ := hst
   have e1 : 8 * (n : Int) + i < 8 * n + 8 := by omega
   have e2 : 0 ≤ 8 * (n : Int) + i ∧ 8 * (n : Int) + i < (s.toStr.length : Int) := by omega
   have e3 : IntKind.i64.wrap (8 * (n : Int) + i + 1) = 8 * n + ((i + 1 : Nat) : Int) := by rw [wrap_i64 (by omega) (by omega)]; omega
   by_cases z : 97 ≤ IntKind.u64.wrap ((List.getD s.toStr (8 * (n : Int) + i).toNat 0).toNat : Int)
   ·refine ⟨_, ⟨?x3, rfl⟩, fun k rec => ?eq3⟩
    case eq3 =>
     unfold q5D
     simp only [y4, x9, w7, w9, u6, j3, y8, q1, q2, e1, e3, decide_true, cond_true]
     rw [if_pos e2]
     refine (congrArg (fun b => cond b _ _) (decide_eq_true z)).trans ?_
     rfl
   ·refine ⟨_, ⟨?x4, rfl⟩, fun k rec => ?eq4⟩
    case eq4 =>
     unfold q5D
     simp only [y4, x9, w7, w9, u6, j3, y8, q1, q2, e1, e3, decide_true, cond_true]
     rw [if_pos e2]
     refine (congrArg (fun b => cond b _ _) (decide_eq_false z)).trans ?_
     rfl)
  (fun st hst => by
   obtain ⟨v, rfl⟩ := hst
   refine ⟨_, ⟨v, rfl⟩, fun k rec => ?_⟩
   unfold q5D
   have e : ¬ 8 * (n : Int) + ((8 : Nat) : Int) < 8 * n + 8 := by omega
   simp only [x9, w7, w9, u6, y8, q1, q2, e, decide_false, cond_false])
  (N := N) (by omega) (st := [s, .int n, .int 0, .int (8 * n + (0 : Nat))]) ⟨0, rfl⟩
 refine ⟨v, fun k => ?_⟩
 rw [z8c]
 unfold q8i
 simp only [y4, y8, q1]
 rw [show (8 * (n : Int)) = 8 * n + (0 : Nat) by omega]
 exact (h _).trans rfl
theorem z2E (l : List C) (i : Nat) (x : C) : C.set (.agg l) i x = .agg (l.set i x) := rfl
theorem x08 (t : C) (h b : List C) (hh : h.length = 8) (hb : b.length = 64) (ht : (t.get 1).toStr.length = 512) (hN : 1000 < N) : ∃ v : List C, v.length = 8 ∧ ∀ k : KD R, J1 N t (.slice h) (.slice b) k = k [.int 8, .agg v] [] := by
 obtain ⟨d1, ⟨w, hw, rfl⟩, h1⟩ := j6 (R := R) (F := fun k2 => F8 N k2) 64 (fun i st => ∃ w : List C, w.length = i ∧ st = [.slice h, .slice b, t, .slice w, .int i]) (fun d => ∃ w : List C, w.length = 64 ∧ d = [.slice h, t, .slice w])
  (fun i st hi hst => by
   obtain ⟨w, hw, rfl⟩ := hst
   have e1 : (i : Int) < 64 := by omega
   have g1 : (i + 1) * 8 ≤ 140737488355328 ∧ i + 1 ≤ 9223372036854775807 := by omega
   by_cases z : (i : Int) < 16
   ·have p0 : IntKind.i64.wrap (4 * (i : Int)) = 4 * i := wrap_i64 (by omega) (by omega)
    have p1 : IntKind.i64.wrap (4 * (i : Int) + 1) = 4 * i + 1 := wrap_i64 (by omega) (by omega)
    have p2 : IntKind.i64.wrap (4 * (i : Int) + 2) = 4 * i + 2 := wrap_i64 (by omega) (by omega)
    have p3 : IntKind.i64.wrap (4 * (i : Int) + 3) = 4 * i + 3 := wrap_i64 (by omega) (by omega)
    have c0 : 0 ≤ 4 * (i : Int) ∧ 4 * (i : Int) < ((64 : Nat) : Int) := by omega
    have c1 : 0 ≤ 4 * (i : Int) + 1 ∧ 4 * (i : Int) + 1 < ((64 : Nat) : Int) := by omega
    have c2 : 0 ≤ 4 * (i : Int) + 2 ∧ 4 * (i : Int) + 2 < ((64 : Nat) : Int) := by omega
    have c3 : 0 ≤ 4 * (i : Int) + 3 ∧ 4 * (i : Int) + 3 < ((64 : Nat) : Int) := by omega
    refine ⟨_, ⟨w ++ [?x5], by simp [hw], rfl⟩, fun k rec => ?eq5⟩
    case eq5 =>
     unfold F8
     simp only [y4, x9, w7, w9, u6, j3, y8, y7, e1, z, p0, p1, p2, p3, hb, c0, c1, c2, c3, hw, g1, decide_true, cond_true, and_self, if_true, Nat.beq_refl, List.length_append, List.length_cons, List.length_nil, Nat.zero_add, u5 (show i < 4611686018427387904 by omega)]
     rfl
   ·have p15 : IntKind.i64.wrap ((i : Int) - 15) = i - 15 := wrap_i64 (by omega) (by omega)
    have p2 : IntKind.i64.wrap ((i : Int) - 2) = i - 2 := wrap_i64 (by omega) (by omega)
    have p16 : IntKind.i64.wrap ((i : Int) - 16) = i - 16 := wrap_i64 (by omega) (by omega)
    have p7 : IntKind.i64.wrap ((i : Int) - 7) = i - 7 := wrap_i64 (by omega) (by omega)
    have c15 : 0 ≤ (i : Int) - 15 ∧ (i : Int) - 15 < (i : Int) := by omega
    have c2 : 0 ≤ (i : Int) - 2 ∧ (i : Int) - 2 < (i : Int) := by omega
    have c16 : 0 ≤ (i : Int) - 16 ∧ (i : Int) - 16 < (i : Int) := by omega
    have c7 : 0 ≤ (i : Int) - 7 ∧ (i : Int) - 7 < (i : Int) := by omega
    obtain ⟨a1, r1⟩ := q0w (R := R) (N := N) (w.getD ((i : Int) - 15).toNat .nil) 7 (by omega) (by omega) true (by omega)
    obtain ⟨a2, r2⟩ := q0w (R := R) (N := N) (w.getD ((i : Int) - 15).toNat .nil) 18 (by omega) (by omega) true (by omega)
    obtain ⟨a3, r3⟩ := q0w (R := R) (N := N) (w.getD ((i : Int) - 15).toNat .nil) 3 (by omega) (by omega) false (by omega)
    obtain ⟨a4, r4⟩ := q0w (R := R) (N := N) (w.getD ((i : Int) - 2).toNat .nil) 17 (by omega) (by omega) true (by omega)
    obtain ⟨a5, r5⟩ := q0w (R := R) (N := N) (w.getD ((i : Int) - 2).toNat .nil) 19 (by omega) (by omega) true (by omega)
    obtain ⟨a6, r6⟩ := q0w (R := R) (N := N) (w.getD ((i : Int) - 2).toNat .nil) 10 (by omega) (by omega) false (by omega)
    refine ⟨_, ⟨w ++ [?x6], by simp [hw], rfl⟩, fun k rec => ?eq6⟩
    case eq6 =>
     unfold F8
     simp only [y4, x9, w7, w9, u6, j3, y8, y7, e1, z, p15, p2, p16, p7, c15, c2, c16, c7, hw, g1, r1, r2, r3, r4, r5, r6, decide_true, decide_false, cond_true, cond_false, and_self, if_true, Nat.beq_refl, List.length_append, List.length_cons, List.length_nil, Nat.zero_add, u5 (show i < 4611686018427387904 by omega)]
     rfl)
  (fun st hst => by
   obtain ⟨w, hw, rfl⟩ := hst
   refine ⟨_, ⟨w, hw, rfl⟩, fun k rec => ?_⟩
   unfold F8
   have e : ¬ ((64 : Nat) : Int) < 64 := by decide
   simp only [x9, w7, w9, u6, j3, y8, y7, e, decide_false, cond_false, Nat.beq_refl, cond_true])
  (N := N) (by omega) (st := [.slice h, .slice b, t, .slice [], .int (0 : Nat)]) ⟨[], rfl, rfl⟩
 obtain ⟨d2, ⟨v, hv, rfl⟩, h2⟩ := j6 (R := R) (F := fun k2 => q0U N k2) 64 (fun i st => ∃ v : List C, v.length = 8 ∧ st = [.slice h, t, .int 8, .slice w, .int i, .agg v]) (fun d => ∃ v : List C, v.length = 8 ∧ d = [.slice h, .int 8, .agg v])
  (fun i st hi hst => by
   obtain ⟨v, hv, rfl⟩ := hst
   have e1 : (i : Int) < 64 := by omega
   have e0 : 0 ≤ (i : Int) ∧ (i : Int) < ((64 : Nat) : Int) := by omega
   have e8 : Int.toNat 8 = 8 := rfl
   have q : ∀ a : Int, 64 ≤ a → a ≤ 71 → IntKind.i64.wrap (a - (i : Int)) = a - i ∧ 0 ≤ Int.tmod (a - i) 8 ∧ Int.tmod (a - i) 8 < ((8 : Nat) : Int) := fun a h1 h2 => ⟨wrap_i64 (by omega) (by omega), (U9 _ 8 (by omega) (by omega)).1, (U9 _ 8 (by omega) (by omega)).2⟩
   have q64 := q 64 (by omega) (by omega)
   have q65 := q 65 (by omega) (by omega)
   have q66 := q 66 (by omega) (by omega)
   have q67 := q 67 (by omega) (by omega)
   have q68 := q 68 (by omega) (by omega)
   have q69 := q 69 (by omega) (by omega)
   have q70 := q 70 (by omega) (by omega)
   have q71 := q 71 (by omega) (by omega)
   clear q
   obtain ⟨a1, r1⟩ := q0w (R := R) (N := N) (C.get (.agg v) (0 + (Int.tmod (68 - (i : Int)) 8).toNat)) 6 (by omega) (by omega) true (by omega)
   obtain ⟨a2, r2⟩ := q0w (R := R) (N := N) (C.get (.agg v) (0 + (Int.tmod (68 - (i : Int)) 8).toNat)) 11 (by omega) (by omega) true (by omega)
   obtain ⟨a3, r3⟩ := q0w (R := R) (N := N) (C.get (.agg v) (0 + (Int.tmod (68 - (i : Int)) 8).toNat)) 25 (by omega) (by omega) true (by omega)
   obtain ⟨a4, r4⟩ := q0w (R := R) (N := N) (C.get (.agg v) (0 + (Int.tmod (64 - (i : Int)) 8).toNat)) 2 (by omega) (by omega) true (by omega)
   obtain ⟨a5, r5⟩ := q0w (R := R) (N := N) (C.get (.agg v) (0 + (Int.tmod (64 - (i : Int)) 8).toNat)) 13 (by omega) (by omega) true (by omega)
   obtain ⟨a6, r6⟩ := q0w (R := R) (N := N) (C.get (.agg v) (0 + (Int.tmod (64 - (i : Int)) 8).toNat)) 22 (by omega) (by omega) true (by omega)
   obtain ⟨a7, r7⟩ := x1a (R := R) (N := N) (t.get 1) i (by omega) (by omega) (by omega) (by omega)
   refine ⟨_, ⟨List.set (List.set v ?a7 ?b7) ?c7 ?d7, by simp [hv], rfl⟩, fun k rec => ?eq7⟩
   case eq7 =>
    unfold q0U
    simp only [x9, w7, w9, u6, j3, F3, y8, y7, q3v, z2E, e0, e1, e8, q64, q65, q66, q67, q68, q69, q70, q71, hw, hv, r1, r2, r3, r4, r5, r6, r7, decide_true, cond_true, and_self, if_true, Nat.beq_refl, List.length_set, u5 (show i < 4611686018427387904 by omega)]
    rfl)
  (fun st hst => by
   obtain ⟨v, hv, rfl⟩ := hst
   refine ⟨_, ⟨v, hv, rfl⟩, fun k rec => ?_⟩
   unfold q0U
   have e : ¬ ((64 : Nat) : Int) < 64 := by decide
   simp only [x9, w7, w9, u6, j3, F3, y8, y7, e, decide_false, cond_false, if_true]
   rfl)
  (N := N) (by omega) (st := [.slice h, t, .int 8, .slice w, .int (0 : Nat), .agg h]) ⟨h, hh, rfl⟩
 obtain ⟨d3, ⟨o, ho, rfl⟩, h3⟩ := j6 (R := R) (F := fun k2 => q0V N k2) 8 (fun i st => ∃ o : List C, o.length = i ∧ st = [.slice h, .int 8, .int i, .int i, .agg v, .agg o]) (fun d => ∃ o : List C, o.length = 8 ∧ d = [.int 8, .agg o])
  (fun i st hi hst => by
   obtain ⟨o, ho, rfl⟩ := hst
   have e1 : (i : Int) < 8 := by omega
   have e8 : Int.toNat 8 = 8 := rfl
   have e2 : 0 ≤ (i : Int) ∧ (i : Int) < ((8 : Nat) : Int) := by omega
   have g1 : (i + 1) * 8 ≤ 140737488355328 ∧ i + 1 ≤ 9223372036854775807 := by omega
   have ht : o.take i = o := List.take_of_length_le (by omega)
   refine ⟨_, ⟨o ++ [?x8], by simp [ho], rfl⟩, fun k rec => ?eq8⟩
   case eq8 =>
    unfold q0V
    simp only [x9, w7, w9, u6, j3, F3, y8, y7, q3v, e1, e2, e8, hh, g1, ht, ho, decide_true, cond_true, and_self, if_true, Int.toNat_natCast, List.length_append, List.length_cons, List.length_nil, Nat.zero_add, u5 (show i < 4611686018427387904 by omega)]
    rfl)
  (fun st hst => by
   obtain ⟨o, ho, rfl⟩ := hst
   refine ⟨_, ⟨o, ho, rfl⟩, fun k rec => ?_⟩
   unfold q0V
   have e : ¬ ((8 : Nat) : Int) < 8 := by decide
   simp only [x9, w7, w9, u6, j3, F3, y8, y7, e, decide_false, cond_false, if_true]
   rfl)
  (N := N) (by omega) (st := [.slice h, .int 8, .int (0 : Nat), .int (0 : Nat), .agg v, .agg []]) ⟨[], rfl, rfl⟩
 refine ⟨o, ho, fun k => ?_⟩
 rw [q6p]
 unfold q0T
 simp only [y4]
 refine (h1 _).trans ?_
 have ne : h.isEmpty = false := by cases h <;> simp_all
 simp only [x9, w7, w9, y7, q3v, ne, hh, Nat.beq_refl, cond_true, if_true]
 refine (h2 _).trans ?_
 simp only [x9, w7, w9, y8, if_true]
 refine (h3 _).trans ?_
 simp only [x9, w7, w9, y8, if_true]
 rfl
end Go.Proofs.YtgdonkaoajbclaaGreatDoor
namespace Go.Proofs.YtgdonkaoajbclaaGreatDoor
open Go Go.E
set_option maxRecDepth 100000
set_option maxHeartbeats 4000000
set_option linter.unusedSimpArgs false
variable {R : Type} {N : Nat}
def y9I (t : C) : Prop := (t.get 0).toStr.length = 64 ∧ (t.get 1).toStr.length = 512
theorem x1f (t : C) (ht : y9I t) (p : List C) (hp : p.length ≤ 200000) (hN : 300000 < N) : ∃ c, Dig c ∧ ∀ k : KD R, X9 N t (.slice p) k = k [c] [] := by
 have e8 : Int.toNat 8 = 8 := rfl
 obtain ⟨d5, ⟨b, hb1, hb2, rfl⟩, h5⟩ := q4N (R := R) (F := fun k2 => q2c N k2)
  (fun n st => ∃ b : List C, n = (120 - b.length % 64) % 64 ∧ b.length + n ≤ 200100 ∧ st = [.slice p, t, .slice b, z0 (.arr 32 (.int .u8))]) (fun d => ∃ b : List C, b.length % 64 = 56 ∧ b.length ≤ 200100 ∧ d = [.slice p, t, .slice b, z0 (.arr 32 (.int .u8))])
  (fun n st hst => by
   obtain ⟨b, hn, hb, rfl⟩ := hst
   have em : Int.tmod (b.length : Int) 64 = (b.length : Int) % 64 := Int.tmod_eq_emod_of_nonneg (by omega)
   have g1 : (b.length + 1) * 1 ≤ 140737488355328 ∧ b.length + 1 ≤ 9223372036854775807 := by omega
   by_cases z : b.length % 64 = 56
   ·have z' : (b.length : Int) % 64 = 56 := by omega
    refine .inr ⟨_, ⟨b, z, by omega, rfl⟩, fun k rec => ?_⟩
    unfold q2c
    simp only [x9, w7, w9, u6, y7, em, z', decide_true, Bool.not_true, cond_false, cond_true, Nat.beq_refl]
   ·have z' : ¬ (b.length : Int) % 64 = 56 := by omega
    refine .inl ⟨_, n - 1, by omega, ⟨b ++ [C.int 0], by simp; omega, by simp; omega, rfl⟩, fun k rec => ?_⟩
    unfold q2c
    simp only [x9, w7, w9, u6, y7, em, z', g1, decide_false, Bool.not_false, cond_true, Nat.beq_refl, and_self, if_true, List.length_append, List.length_cons, List.length_nil, Nat.zero_add])
  64 ((120 - (p.length + 1) % 64) % 64) [.slice p, t, .slice (p ++ [C.int 128]), z0 (.arr 32 (.int .u8))] N (by omega) ⟨p ++ [C.int 128], by simp, by simp; omega, rfl⟩ (by omega)
 obtain ⟨d4, ⟨e, he, rfl⟩, h4⟩ := q4N (R := R) (F := fun k2 => q2d N k2)
  (fun n st => ∃ (e : List C) (x : Int), e.length = 8 ∧ n ≤ 8 ∧ st = [t, .int 0, .int (8 : Nat), .int (8 : Nat), .slice b, .int x, .int ((n : Int) - 1), z0 (.arr 32 (.int .u8)), .agg e]) (fun d => ∃ e : List C, e.length = 8 ∧ d = [t, .int (0 : Nat), .int (8 : Nat), .int (8 : Nat), .slice b, z0 (.arr 32 (.int .u8)), .agg e])
  (fun n st hst => by
   obtain ⟨e, x, he, hn, rfl⟩ := hst
   by_cases z : n = 0
   ·have z' : ¬ 0 ≤ (n : Int) - 1 := by omega
    refine .inr ⟨_, ⟨e, he, rfl⟩, fun k rec => ?_⟩
    unfold q2d
    simp only [x9, w7, w9, u6, j3, F3, q2x, z6S, y2e, y7, y8, z', decide_false, cond_false, cond_true, Nat.beq_refl, Int.toNat_natCast, Int.toNat_zero]
   ·have z' : 0 ≤ (n : Int) - 1 := by omega
    have c1 : 0 ≤ (n : Int) - 1 ∧ (n : Int) - 1 < ((8 : Nat) : Int) := by omega
    have w1 : IntKind.i64.wrap ((n : Int) - 1 - 1) = ((n - 1 : Nat) : Int) - 1 := by rw [wrap_i64 (by omega) (by omega)]; omega
    refine .inl ⟨_, n - 1, by omega, ⟨e.set ?i1 ?v1, ?x1, by simp [he], by omega, rfl⟩, fun k rec => ?eq1⟩
    case eq1 =>
     unfold q2d
     simp only [x9, w7, w9, u6, j3, F3, q2x, z6S, y2e, y7, y8, c1, w1, z2E, decide_true, cond_true, Nat.beq_refl, and_self, if_true, Int.toNat_natCast]
     rfl)
  8 8 [t, .int 0, .int (8 : Nat), .int (8 : Nat), .slice b, C.int (IntKind.wrap IntKind.u64 (IntKind.wrap IntKind.u64 (p.length : Int) * 8)), .int (((8 : Nat) : Int) - 1), z0 (.arr 32 (.int .u8)), C.agg (List.replicate 8 (z0 (Ty.int IntKind.u8)))] N (Nat.le_refl _) ⟨_, _, by simp, Nat.le_refl _, rfl⟩ (by omega)
 have te : List.take 8 (List.drop 0 e) = e := by rw [List.drop_zero]; exact List.take_of_length_le (by omega)
 have hbl : (b ++ e).length % 64 = 0 := by simp; omega
 have hbl2 : (b ++ e).length ≤ 200200 := by simp; omega
 generalize hb3 : b ++ e = b3 at *
 obtain ⟨d3, ⟨h, hh, rfl⟩, h3⟩ := j6 (R := R) (F := fun k2 => q2e N k2) 8
  (fun i st => ∃ h : List C, h.length = 8 ∧ st = [t, .slice b3, .int (8 : Nat), .int i, z0 (.arr 32 (.int .u8)), .agg h]) (fun d => ∃ h : List C, h.length = 8 ∧ d = [t, .slice b3, .int (8 : Nat), z0 (.arr 32 (.int .u8)), .agg h])
  (fun i st hi hst => by
   obtain ⟨h, hh, rfl⟩ := hst
   have e1 : (i : Int) < 8 := by omega
   have c1 : 0 ≤ (i : Int) ∧ (i : Int) < ((8 : Nat) : Int) := by omega
   obtain ⟨v, hv⟩ := x1a (R := R) (N := N) (t.get 0) i (by omega) (by have := ht.1; omega) (by omega) (by omega)
   refine ⟨_, ⟨h.set (0 + i) (.int v), by simp [hh], rfl⟩, fun k rec => ?_⟩
   unfold q2e
   simp only [x9, w7, w9, u6, j3, F3, y7, y8, q3v, e1, c1, hv, z2E, decide_true, cond_true, Nat.beq_refl, and_self, if_true, Int.toNat_natCast, List.length_set, u5 (show i < 4611686018427387904 by omega)])
  (fun st hst => by
   obtain ⟨h, hh, rfl⟩ := hst
   refine ⟨_, ⟨h, hh, rfl⟩, fun k rec => ?_⟩
   unfold q2e
   have e : ¬ ((8 : Nat) : Int) < 8 := by decide
   simp only [x9, w7, w9, u6, j3, F3, y7, y8, e, decide_false, cond_false, cond_true, Nat.beq_refl, if_true, Int.toNat_natCast])
  (N := N) (by omega) (st := [t, .slice b3, .int (8 : Nat), .int (0 : Nat), z0 (.arr 32 (.int .u8)), C.agg (List.replicate 8 (z0 (Ty.int IntKind.u64)))]) ⟨_, by simp, rfl⟩
 obtain ⟨d2, ⟨v, hv, rfl⟩, h2⟩ := q4N (R := R) (F := fun k2 => q2f N k2)
  (fun n st => ∃ (b h : List C), b.length = n ∧ n % 64 = 0 ∧ h.length = 8 ∧ st = [t, .slice b, .int (8 : Nat), z0 (.arr 32 (.int .u8)), .agg h]) (fun d => ∃ h : List C, h.length = 8 ∧ d = [.int (8 : Nat), z0 (.arr 32 (.int .u8)), .agg h])
  (fun n st hst => by
   obtain ⟨b, h, hb, hn, hh, rfl⟩ := hst
   by_cases z : n = 0
   ·have z' : ¬ 0 < (b.length : Int) := by omega
    refine .inr ⟨_, ⟨h, hh, rfl⟩, fun k rec => ?_⟩
    unfold q2f
    simp only [x9, w7, w9, u6, j3, y7, y8, z', decide_false, cond_false, if_true, Int.toNat_natCast]
   ·have z' : 0 < (b.length : Int) := by omega
    have c1 : 64 ≤ (b.length : Int) := by omega
    have c2 : Int.ofNat 0 ≤ 0 ∧ Int.ofNat 0 ≤ 64 ∧ 64 ≤ (b.length : Int) := ⟨by decide, by decide, c1⟩
    have th : List.take 8 (List.drop 0 h) = h := by rw [List.drop_zero]; exact List.take_of_length_le (by omega)
    obtain ⟨v, hv, hbl⟩ := x08 (R := R) (N := N) t h (cut b 0 64) hh (by simp [cut]; omega) ht.2 (by omega)
    refine .inl ⟨_, (cut b 64 (b.length : Int)).length, by simp [cut]; omega, ⟨cut b 64 (b.length : Int), v, rfl, by simp [cut]; omega, hv, rfl⟩, fun k rec => ?_⟩
    unfold q2f
    simp only [x9, w7, w9, u6, j3, y7, y8, q3v, z', c2, c1, th, hbl, decide_true, cond_true, and_self, if_true, Int.toNat_natCast, Int.le_refl]
    rfl)
  b3.length b3.length [t, .slice b3, .int (8 : Nat), z0 (.arr 32 (.int .u8)), .agg h] N (Nat.le_refl _) ⟨b3, h, rfl, hbl, hh, rfl⟩ (by omega)
 obtain ⟨d1, ⟨c, hc, rfl⟩, h1⟩ := q4N (R := R) (F := fun k2 => q2g N k2)
  (fun n st => ∃ (c h : List C), c.length = 32 ∧ h.length = 8 ∧ n ≤ 32 ∧ st = [.int (8 : Nat), .int ((n : Int) - 1), z0 (.arr 32 (.int .u8)), .agg c, .agg h]) (fun d => ∃ c : List C, c.length = 32 ∧ d = [z0 (.arr 32 (.int .u8)), .agg c])
  (fun n st hst => by
   obtain ⟨c, h, hc, hh, hn, rfl⟩ := hst
   by_cases z : n = 0
   ·have z' : ¬ 0 ≤ (n : Int) - 1 := by omega
    refine .inr ⟨_, ⟨c, hc, rfl⟩, fun k rec => ?_⟩
    unfold q2g
    simp only [x9, w7, w9, u6, j3, y8, z', decide_false, cond_false]
   ·have z' : 0 ≤ (n : Int) - 1 := by omega
    have z2 : (n : Int) - 1 < 32 := by omega
    have q : Int.tdiv ((n : Int) - 1) 4 = ((n : Int) - 1) / 4 := Int.tdiv_eq_ediv_of_nonneg z'
    have q2 : IntKind.i64.wrap (((n : Int) - 1) / 4) = ((n : Int) - 1) / 4 := wrap_i64 (by omega) (by omega)
    have c1 : 0 ≤ ((n : Int) - 1) / 4 ∧ ((n : Int) - 1) / 4 < ((8 : Nat) : Int) := by omega
    have w1 : IntKind.i64.wrap ((n : Int) - 1 - 1) = ((n - 1 : Nat) : Int) - 1 := by rw [wrap_i64 (by omega) (by omega)]; omega
    refine .inl ⟨_, n - 1, by omega, ⟨c.set ?i2 ?v2, h.set ?j2 ?w2, by simp [hc], by simp [hh], by omega, rfl⟩, fun k rec => ?eq2⟩
    case eq2 =>
     unfold q2g
     simp only [x9, w7, w9, u6, j3, y8, q3v, z', z2, q, q2, c1, w1, z2E, decide_true, cond_true, and_self, if_true, Int.toNat_natCast, List.length_set]
     rfl)
  32 32 [.int (8 : Nat), .int (((32 : Nat) : Int) - 1), z0 (.arr 32 (.int .u8)), z0 (.arr 32 (.int .u8)), .agg v] N (Nat.le_refl _) ⟨List.replicate 32 (.int 0), v, by simp, hv, Nat.le_refl _, rfl⟩ (by omega)
 refine ⟨.agg c, ⟨c, rfl, hc⟩, fun k => ?_⟩
 rw [q8U]
 unfold q2b
 have g1 : (p.length + 1) * 1 ≤ 140737488355328 ∧ p.length + 1 ≤ 9223372036854775807 := by omega
 have g2 : (b.length + 8) * 1 ≤ 140737488355328 ∧ b.length + 8 ≤ 9223372036854775807 := by omega
 simp only [y4, y7, Nat.beq_refl, cond_true, g1, and_self, if_true, List.length_append, List.length_cons, List.length_nil, Nat.zero_add]
 refine (h5 _).trans ?_
 simp only [x9, w7, w9, u6, y7, Nat.beq_refl, cond_true, e8]
 refine (h4 _).trans ?_
 simp only [x9, w7, w9, u6, j3, F3, q2x, y7, q3v, y8, Nat.beq_refl, cond_true, Int.toNat_natCast, te, he, g2, and_self, if_true, hb3, List.length_append]
 refine (h3 _).trans ?_
 simp only [x9, w7, w9, u6, j3, F3, y7, y8, Nat.beq_refl, cond_true, Int.toNat_natCast, if_true]
 refine (h2 _).trans ?_
 simp only [x9, w7, w9, y8, Int.toNat_natCast, if_true]
 refine (h1 _).trans ?_
 rfl
end Go.Proofs.YtgdonkaoajbclaaGreatDoor
namespace Go.Proofs.YtgdonkaoajbclaaGreatDoor
open Go Go.E
set_option maxRecDepth 100000
set_option maxHeartbeats 4000000
set_option linter.unusedVariables false
noncomputable def y1x : Hints := [([1, 0, 1, 1], ⟨[], [(3, .d (.int .i64))], [], [], [], []⟩),
  ([4, 1, 0, 1, 1], ⟨[0], [(3, .d (.int .i64)), (4, .d (.int .i64))], [], [], [], []⟩),
  ([9], ⟨[], [(2, .d (.int .i64))], [], [], [], []⟩)]
noncomputable def z2M (N : Nat) : OvS (X0 gl0) where
 g R := []
 ok := fun R => fun _ h => nomatch h
noncomputable def z2N {R : Type} (N : Nat) (k2 : KD R) : KD R → List C → List Es → Option R := (fun k3 d1 m1 => (bif decide (C.toInt (dk d1 2) < C.toInt (dk d1 0)) then (k3 [dk d1 0, C.int (IntKind.wrap IntKind.i64 (2 * C.toInt (dk d1 1))), C.int (IntKind.wrap IntKind.i64 (C.toInt (dk d1 2) + 1))] []) else (k2 [dk d1 1] [])))
noncomputable def q43 {R : Type} (N : Nat) (a0 : C) (k1 : KD R) : Option R := (jn (fun d1 m1 => (k1 [dk d1 0] [])) (fun k2 => (u3 N (z2N N k2) [a0, C.int 1, C.int 0] [])))
noncomputable def q16 {R : Type} (N : Nat) : C → KD R → Option R := lid "" (q43 N)
theorem z2L {R : Type} (N : Nat) (a0 : C) (k : KD R) : q16 N a0 k = q43 N a0 k := by unfold q16; rw [w6]
theorem z9W {R : Type} (N : Nat) (a0 : C) (K : V → List (Key × O) → Option R) : exF (X0 gl0) ((z2M N).ov R) s5 noX (fun f => bif Nat.beq f 59 then y1x else []) N 400 8 59 [.d (.int .i64) a0] A0 K =
  q16 N a0 (fun d1 m1 => K (V.d (Ty.int IntKind.i64) (dk d1 0)) []) := by
 rw [z2L]
 exact (show _ = jn (fun d1 m1 => (K (V.d (Ty.int IntKind.i64) (dk d1 0)) [])) (q43 N a0) by kernel_rfl).trans (y4 _ _)
noncomputable def q9r (N : Nat) {R : Type} : OvG R := fun xs _ K => match xs with
 | [.d t0 a0] => if t0 = (.int .i64) then q16 N a0 (fun d1 m1 => K (V.d (Ty.int IntKind.i64) (dk d1 0)) []) else none
 | _ => none
theorem y1w (N : Nat) {R : Type} : GOk (X0 gl0) 59 (q9r N (R := R)) := by
 intro xs A Kr r hr
 unfold q9r at hr
 split at hr
 ·simp only [Option.ite_none_right_eq_some] at hr
  obtain ⟨hty, hr⟩ := hr
  subst hty
  rw [← z9W] at hr
  exact okA (z2M N) hr
 ·cases hr
noncomputable def y1y : Hints := [([1, 0, 1, 1], ⟨[2, 3], [], [], [], [], []⟩),
  ([4, 1, 0, 1, 1], ⟨[1, 2, 3], [(4, .d (.int .i64))], [], [], [], []⟩),
  ([9], ⟨[], [(2, .as (.ptr (.l 2) [] (.arr 16 (.int .u8))))], [], [(.l 2, .box (.d (.arr 16 (.int .u8))))], [], []⟩)]
noncomputable def z2P (N : Nat) : OvS (X0 gl0) where
 g R := []
 ok := fun R => fun _ h => nomatch h
noncomputable def q45 {R : Type} (N : Nat) (k2 : KD R) : KD R → List C → List Es → Option R := (fun k3 d1 m1 => (bif decide (C.toInt (dk d1 1) < 16) then (if 0 ≤ C.toInt (dk d1 1) ∧ C.toInt (dk d1 1) < 32 then (if 0 ≤ C.toInt (dk d1 1) ∧ C.toInt (dk d1 1) < 16 then (k3 [dk d1 0, C.int (IntKind.wrap IntKind.i64 (C.toInt (dk d1 1) + 1)), dk d1 2, C.set (dk d1 3) (Int.toNat (C.toInt (dk d1 1))) (C.get (dk d1 0) (Int.toNat (C.toInt (dk d1 1))))] []) else none) else none) else (k2 [dk d1 2, dk d1 3] [])))
noncomputable def q44 {R : Type} (N : Nat) (a0 : C) (k1 : KD R) : Option R := (jn (fun d1 m1 => (k1 [dk d1 1] [])) (fun k2 => (u3 N (q45 N k2) [a0, C.int 0, z0 (Ty.arr 16 (Ty.int IntKind.u8)), z0 (Ty.arr 16 (Ty.int IntKind.u8))] [])))
noncomputable def q07 {R : Type} (N : Nat) : C → KD R → Option R := lid "" (q44 N)
theorem z2O {R : Type} (N : Nat) (a0 : C) (k : KD R) : q07 N a0 k = q44 N a0 k := by unfold q07; rw [w6]
theorem z9X {R : Type} (N : Nat) (a0 : C) (K : V → List (Key × O) → Option R) : exF (X0 gl0) ((z2P N).ov R) s5 (fun f r => bif Nat.beq f 110 then (bif Nat.beq r 0 then [(1, 5)] else []) else []) (fun f => bif Nat.beq f 110 then y1y else []) N 400 8 110 [.d (.arr 32 (.int .u8)) a0] A0 K =
  q07 N a0 (fun d1 m1 => K (V.d (Ty.arr 16 (Ty.int IntKind.u8)) (dk d1 0)) []) := by
 rw [z2O]
 exact (show _ = jn (fun d1 m1 => (K (V.d (Ty.arr 16 (Ty.int IntKind.u8)) (dk d1 0)) [])) (q44 N a0) by kernel_rfl).trans (y4 _ _)
noncomputable def q5R (N : Nat) {R : Type} : OvG R := fun xs _ K => match xs with
 | [.d t0 a0] => if t0 = (.arr 32 (.int .u8)) then q07 N a0 (fun d1 m1 => K (V.d (Ty.arr 16 (Ty.int IntKind.u8)) (dk d1 0)) []) else none
 | _ => none
theorem z2Q (N : Nat) {R : Type} : GOk (X0 gl0) 110 (q5R N (R := R)) := by
 intro xs A Kr r hr
 unfold q5R at hr
 split at hr
 ·simp only [Option.ite_none_right_eq_some] at hr
  obtain ⟨hty, hr⟩ := hr
  subst hty
  rw [← z9X] at hr
  exact okA (z2P N) hr
 ·cases hr
noncomputable def y1B : Hints := [([9], ⟨[], [(4, .as (.ptr (.l 4) [] (.arr 16 (.int .u8))))], [], [(.l 4, .box (.d (.arr 16 (.int .u8))))], [], []⟩)]
noncomputable def z2S (N : Nat) : OvS (X0 gl0) where
 g R := [(61, F9 N), (110, q5R N)]
 ok := fun R => List.forall_mem_cons.2 ⟨q1M N, List.forall_mem_cons.2 ⟨z2Q N, fun _ h => nomatch h⟩⟩
noncomputable def q47 {R : Type} (N : Nat) (a0 a1 : C) (k1 : KD R) : Option R := (Y7 N a0 (C.int 5) (C.slice [C.slice (cut (C.elems a1) 0 16)]) (fun d1 m1 => (q07 N (dk d1 0) (fun d2 m2 => (k1 [dk d2 0] [])))))
noncomputable def q08 {R : Type} (N : Nat) : C → C → KD R → Option R := lid "" (q47 N)
theorem z2R {R : Type} (N : Nat) (a0 a1 : C) (k : KD R) : q08 N a0 a1 k = q47 N a0 a1 k := by unfold q08; rw [w6]
theorem z9Z {R : Type} (N : Nat) (a0 a1 : C) (K : V → List (Key × O) → Option R) : exF (X0 gl0) ((z2S N).ov R) s5 (fun f r => bif Nat.beq f 86 then (bif Nat.beq r 0 then [(2, 5), (3, 5)] else bif Nat.beq r 1 then [(8, 7), (9, 7)] else []) else []) (fun f => bif Nat.beq f 86 then y1B else []) N 400 8 86 [.d o7 a0, .d (.arr 16 (.int .u8)) a1] A0 K =
  q08 N a0 a1 (fun d1 m1 => K (V.d (Ty.arr 16 (Ty.int IntKind.u8)) (dk d1 0)) []) := by
 rw [z2R]
 exact (show _ = jn (fun d1 m1 => (K (V.d (Ty.arr 16 (Ty.int IntKind.u8)) (dk d1 0)) [])) (q47 N a0 a1) by kernel_rfl).trans (y4 _ _)
noncomputable def q5W (N : Nat) {R : Type} : OvG R := fun xs _ K => match xs with
 | [.d t0 a0, .d t1 a1] => if t0 = o7 ∧ t1 = (.arr 16 (.int .u8)) then q08 N a0 a1 (fun d1 m1 => K (V.d (Ty.arr 16 (Ty.int IntKind.u8)) (dk d1 0)) []) else none
 | _ => none
theorem z2T (N : Nat) {R : Type} : GOk (X0 gl0) 86 (q5W N (R := R)) := by
 intro xs A Kr r hr
 unfold q5W at hr
 split at hr
 ·simp only [Option.ite_none_right_eq_some] at hr
  obtain ⟨hty, hr⟩ := hr
  obtain ⟨rfl, rfl⟩ := hty
  rw [← z9Z] at hr
  exact okA (z2S N) hr
 ·cases hr
noncomputable def z9Y : Hints := [([9], ⟨[], [(10, .as (.ptr (.l 10) [] (.arr 16 (.int .u8))))], [], [(.l 10, .box (.d (.arr 16 (.int .u8))))], [], []⟩)]
noncomputable def z1G (N : Nat) : OvS (X0 gl0) where
 g R := [(61, F9 N), (99, q3Z N), (110, q5R N)]
 ok := fun R => List.forall_mem_cons.2 ⟨q1M N, List.forall_mem_cons.2 ⟨q6O N, List.forall_mem_cons.2 ⟨z2Q N, fun _ h => nomatch h⟩⟩⟩
noncomputable def q4k {R : Type} (N : Nat) (a0 a1 a2 a3 a4 : C) (k1 : KD R) : Option R := (Q7 N (C.slice []) (C.int (IntKind.wrap IntKind.u64 (C.toInt a2))) (C.int 4) (fun d1 m1 => (Y7 N a0 (C.int 1) (C.slice [C.slice (cut (C.elems a1) 0 32), C.slice (C.elems (dk d1 0)), C.slice [C.int (IntKind.wrap IntKind.u8 (C.toInt a3)), C.int (IntKind.wrap IntKind.u8 (C.toInt a4))]]) (fun d2 m2 => (q07 N (dk d2 0) (fun d3 m3 => (k1 [dk d3 0] [])))))))
noncomputable def F7 {R : Type} (N : Nat) : C → C → C → C → C → KD R → Option R := lid "" (q4k N)
theorem z1F {R : Type} (N : Nat) (a0 a1 a2 a3 a4 : C) (k : KD R) : F7 N a0 a1 a2 a3 a4 k = q4k N a0 a1 a2 a3 a4 k := by unfold F7; rw [w6]
theorem z83 {R : Type} (N : Nat) (a0 a1 a2 a3 a4 : C) (K : V → List (Key × O) → Option R) : exF (X0 gl0) ((z1G N).ov R) s5 (fun f r => bif Nat.beq f 87 then (bif Nat.beq r 0 then [(5, 5), (6, 5)] else bif Nat.beq r 1 then [(22, 7), (23, 7)] else []) else []) (fun f => bif Nat.beq f 87 then z9Y else []) N 400 8 87 [.d o7 a0, .d (.arr 32 (.int .u8)) a1, .d (.int .u32) a2, .d (.int .i64) a3, .d (.int .i64) a4] A0 K =
  F7 N a0 a1 a2 a3 a4 (fun d1 m1 => K (V.d (Ty.arr 16 (Ty.int IntKind.u8)) (dk d1 0)) []) := by
 rw [z1F]
 exact (show _ = jn (fun d1 m1 => (K (V.d (Ty.arr 16 (Ty.int IntKind.u8)) (dk d1 0)) [])) (q4k N a0 a1 a2 a3 a4) by kernel_rfl).trans (y4 _ _)
noncomputable def q46 (N : Nat) {R : Type} : OvG R := fun xs _ K => match xs with
 | [.d t0 a0, .d t1 a1, .d t2 a2, .d t3 a3, .d t4 a4] => if t0 = o7 ∧ t1 = (.arr 32 (.int .u8)) ∧ t2 = (.int .u32) ∧ t3 = (.int .i64) ∧ t4 = (.int .i64) then F7 N a0 a1 a2 a3 a4 (fun d1 m1 => K (V.d (Ty.arr 16 (Ty.int IntKind.u8)) (dk d1 0)) []) else none
 | _ => none
theorem z1H (N : Nat) {R : Type} : GOk (X0 gl0) 87 (q46 N (R := R)) := by
 intro xs A Kr r hr
 unfold q46 at hr
 split at hr
 ·simp only [Option.ite_none_right_eq_some] at hr
  obtain ⟨hty, hr⟩ := hr
  obtain ⟨rfl, rfl, rfl, rfl, rfl⟩ := hty
  rw [← z83] at hr
  exact okA (z1G N) hr
 ·cases hr
noncomputable def y3u : Hints := [([1, 0, 1, 1], ⟨[3, 6], [(7, .sl 1 (.int .u8) 5007)], [], [], [], []⟩),
  ([4, 1, 0, 1, 1], ⟨[2, 3, 4, 6], [(7, .sl 1 (.int .u8) 5007), (8, .d (.int .i64))], [], [], [], []⟩),
  ([1, 4, 0, 1, 5, 4, 1, 0, 1, 1], ⟨[2, 3, 4, 6, 8], [(7, .sl 1 (.int .u8) 5007)], [], [], [], []⟩),
  ([4, 1, 4, 0, 1, 5, 4, 1, 0, 1, 1], ⟨[2, 3, 4, 6, 8], [(7, .sl 1 (.int .u8) 5007), (9, .d (.int .i64))], [], [], [], []⟩),
  ([9], ⟨[], [(6, .as (.ptr (.l 6) [] (.arr 32 (.int .u8))))], [], [(.l 6, .box (.d (.arr 32 (.int .u8))))], [], []⟩)]
noncomputable def z4z (N : Nat) : OvS (X0 gl0) where
 g R := [(61, F9 N), (86, q5W N), (87, q46 N)]
 ok := fun R => List.forall_mem_cons.2 ⟨q1M N, List.forall_mem_cons.2 ⟨z2T N, List.forall_mem_cons.2 ⟨z1H N, fun _ h => nomatch h⟩⟩⟩
noncomputable def q3J {R : Type} (N : Nat) (k4 : KD R) : KD R → List C → List Es → Option R := (fun k5 d2 m2 => (bif decide (C.toInt (dk d2 5) < 2) then (F7 N (dk d2 1) (dk d2 2) (dk d2 0) (dk d2 3) (dk d2 5) (fun d3 m3 => (q08 N (dk d2 1) (dk d3 0) (fun d4 m4 => (bif Nat.beq (List.length (C.elems (dk d2 4))) (List.length (C.elems (dk d2 4))) then (if (List.length (C.elems (dk d2 4)) + List.length (List.take 16 (List.drop 0 (C.elems (dk d4 0))))) * 1 ≤ 140737488355328 ∧ List.length (C.elems (dk d2 4)) + List.length (List.take 16 (List.drop 0 (C.elems (dk d4 0)))) ≤ 9223372036854775807 then (bif Nat.beq (List.length (C.elems (dk d2 4)) + List.length (List.take 16 (List.drop 0 (C.elems (dk d4 0))))) (List.length (C.elems (dk d2 4) ++ List.take 16 (List.drop 0 (C.elems (dk d4 0))))) then (k5 [dk d2 0, dk d2 1, dk d2 2, dk d2 3, C.slice (C.elems (dk d2 4) ++ List.take 16 (List.drop 0 (C.elems (dk d4 0)))), C.int (IntKind.wrap IntKind.i64 (C.toInt (dk d2 5) + 1)), dk d2 6] []) else none) else none) else none))))) else (bif Nat.beq (List.length (C.elems (dk d2 4))) (List.length (C.elems (dk d2 4))) then (k4 [dk d2 0, dk d2 1, dk d2 2, dk d2 3, C.slice (C.elems (dk d2 4)), dk d2 6] []) else none)))
noncomputable def q5V {R : Type} (N : Nat) (k2 : KD R) : KD R → List C → List Es → Option R := (fun k3 d1 m1 => (bif decide (C.toInt (dk d1 4) < 32) then (jn (fun d2 m2 => (bif Nat.beq (List.length (C.elems (dk d2 4))) (List.length (C.elems (dk d2 4))) then (k3 [dk d2 0, dk d2 1, dk d2 2, C.slice (C.elems (dk d2 4)), C.int (IntKind.wrap IntKind.i64 (C.toInt (dk d2 3) + 1)), dk d2 5] []) else none)) (fun k4 => (bif Nat.beq (List.length (C.elems (dk d1 3))) (List.length (C.elems (dk d1 3))) then (u3 N (q3J N k4) [dk d1 0, dk d1 1, dk d1 2, dk d1 4, C.slice (C.elems (dk d1 3)), C.int 0, dk d1 5] []) else none))) else (bif Nat.beq (List.length (C.elems (dk d1 3))) (List.length (C.elems (dk d1 3))) then (k2 [dk d1 1, C.slice (C.elems (dk d1 3)), dk d1 5] []) else none)))
noncomputable def q5U {R : Type} (N : Nat) (a0 a1 a2 : C) (k1 : KD R) : Option R := (jn (fun d1 m1 => (Y7 N (dk d1 0) (C.int 2) (C.slice [C.slice (C.elems (dk d1 1))]) (fun d2 m2 => (k1 [dk d2 0] [])))) (fun k2 => (u3 N (q5V N k2) [a2, a0, a1, C.slice [], C.int 0, z0 (Ty.arr 32 (Ty.int IntKind.u8))] [])))
noncomputable def q2T {R : Type} (N : Nat) : C → C → C → KD R → Option R := lid "" (q5U N)
theorem z4y {R : Type} (N : Nat) (a0 a1 a2 : C) (k : KD R) : q2T N a0 a1 a2 k = q5U N a0 a1 a2 k := by unfold q2T; rw [w6]
theorem y1A {R : Type} (N : Nat) (a0 a1 a2 : C) (K : V → List (Key × O) → Option R) : exF (X0 gl0) ((z4z N).ov R) s5 (fun f r => bif Nat.beq f 60 then (bif Nat.beq r 0 then [(3, 5), (4, 5)] else bif Nat.beq r 8 then [(25, 7), (26, 7)] else []) else []) (fun f => bif Nat.beq f 60 then y3u else []) N 400 8 60 [.d o7 a0, .d (.arr 32 (.int .u8)) a1, .d (.int .u32) a2] A0 K =
  q2T N a0 a1 a2 (fun d1 m1 => K (V.d (Ty.arr 32 (Ty.int IntKind.u8)) (dk d1 0)) []) := by
 rw [z4y]
 exact (show _ = jn (fun d1 m1 => (K (V.d (Ty.arr 32 (Ty.int IntKind.u8)) (dk d1 0)) [])) (q5U N a0 a1 a2) by kernel_rfl).trans (y4 _ _)
noncomputable def z0A (N : Nat) {R : Type} : OvG R := fun xs _ K => match xs with
 | [.d t0 a0, .d t1 a1, .d t2 a2] => if t0 = o7 ∧ t1 = (.arr 32 (.int .u8)) ∧ t2 = (.int .u32) then q2T N a0 a1 a2 (fun d1 m1 => K (V.d (Ty.arr 32 (Ty.int IntKind.u8)) (dk d1 0)) []) else none
 | _ => none
theorem y3t (N : Nat) {R : Type} : GOk (X0 gl0) 60 (z0A N (R := R)) := by
 intro xs A Kr r hr
 unfold z0A at hr
 split at hr
 ·simp only [Option.ite_none_right_eq_some] at hr
  obtain ⟨hty, hr⟩ := hr
  obtain ⟨rfl, rfl, rfl⟩ := hty
  rw [← y1A] at hr
  exact okA (z4z N) hr
 ·cases hr
noncomputable def y3q : Hints := [([1, 0, 1, 1], ⟨[3], [(7, .sl 32 (.arr 32 (.int .u8)) 5007)], [], [], [], []⟩),
  ([4, 1, 0, 1, 1], ⟨[2, 3, 4], [(7, .sl 32 (.arr 32 (.int .u8)) 5007), (8, .d (.int .i64))], [], [], [], []⟩),
  ([0, 1, 1, 1, 1], ⟨[], [(9, .sl 24 (.slice 32 (.arr 32 (.int .u8))) 5009)], [], [], [], []⟩),
  ([4, 0, 1, 1, 1, 1], ⟨[3], [(7, .sl 32 (.arr 32 (.int .u8)) 5007), (9, .sl 24 (.slice 32 (.arr 32 (.int .u8))) 5009)], [], [], [], []⟩),
  ([1, 0, 1, 4, 1, 5, 4, 0, 1, 1, 1, 1], ⟨[3], [(9, .sl 24 (.slice 32 (.arr 32 (.int .u8))) 5009), (10, .sl 32 (.arr 32 (.int .u8)) 5010)], [], [], [], []⟩),
  ([4, 1, 0, 1, 4, 1, 5, 4, 0, 1, 1, 1, 1], ⟨[3], [(7, .sl 32 (.arr 32 (.int .u8)) 5007), (9, .sl 24 (.slice 32 (.arr 32 (.int .u8))) 5009), (10, .sl 32 (.arr 32 (.int .u8)) 5010), (11, .d (.int .i64))], [], [], [], []⟩),
  ([9], ⟨[], [(6, .sl 24 (.slice 32 (.arr 32 (.int .u8))) 5006)], [], [], [], []⟩)]
noncomputable def z4v (N : Nat) : OvS (X0 gl0) where
 g R := [(59, q9r N), (60, z0A N), (61, F9 N)]
 ok := fun R => List.forall_mem_cons.2 ⟨y1w N, List.forall_mem_cons.2 ⟨y3t N, List.forall_mem_cons.2 ⟨q1M N, fun _ h => nomatch h⟩⟩⟩
noncomputable def q3I {R : Type} (N : Nat) (k4 : KD R) : KD R → List C → List Es → Option R := (fun k5 d3 m3 => (bif decide (C.toInt (dk d3 4) < (↑(List.length (C.elems (dk d3 1))) : Int)) then (if 0 ≤ C.toInt (dk d3 4) ∧ C.toInt (dk d3 4) < (↑(List.length (C.elems (dk d3 1))) : Int) then (if 0 ≤ IntKind.wrap IntKind.i64 (C.toInt (dk d3 4) + 1) ∧ IntKind.wrap IntKind.i64 (C.toInt (dk d3 4) + 1) < (↑(List.length (C.elems (dk d3 1))) : Int) then (Y7 N (dk d3 0) (C.int 3) (C.slice [C.slice (cut (C.elems (List.getD (C.elems (dk d3 1)) (Int.toNat (C.toInt (dk d3 4))) C.nil)) 0 32), C.slice (cut (C.elems (List.getD (C.elems (dk d3 1)) (Int.toNat (IntKind.wrap IntKind.i64 (C.toInt (dk d3 4) + 1))) C.nil)) 0 32)]) (fun d4 m4 => (bif Nat.beq (List.length (C.elems (dk d3 3))) (List.length (C.elems (dk d3 3))) then (if (List.length (C.elems (dk d3 3)) + 1) * 32 ≤ 140737488355328 ∧ List.length (C.elems (dk d3 3)) + 1 ≤ 9223372036854775807 then (bif Nat.beq (List.length (C.elems (dk d3 1))) (List.length (C.elems (dk d3 1))) then (bif Nat.beq (List.length (C.elems (dk d3 2))) (List.length (C.elems (dk d3 2))) then (bif Nat.beq (List.length (C.elems (dk d3 3)) + 1) (List.length (C.elems (dk d3 3) ++ [dk d4 0])) then (k5 [dk d3 0, C.slice (C.elems (dk d3 1)), C.slice (C.elems (dk d3 2)), C.slice (C.elems (dk d3 3) ++ [dk d4 0]), C.int (IntKind.wrap IntKind.i64 (C.toInt (dk d3 4) + 2))] []) else none) else none) else none) else none) else none))) else none) else none) else (bif Nat.beq (List.length (C.elems (dk d3 2))) (List.length (C.elems (dk d3 2))) then (bif Nat.beq (List.length (C.elems (dk d3 3))) (List.length (C.elems (dk d3 3))) then (k4 [dk d3 0, C.slice (C.elems (dk d3 2)), C.slice (C.elems (dk d3 3))] []) else none) else none)))
noncomputable def q5Q {R : Type} (N : Nat) (k2 : KD R) : KD R → List C → List Es → Option R := (fun k3 d2 m2 => (bif decide (1 < (↑(List.length (C.elems (dk d2 1))) : Int)) then (jn (fun d3 m3 => (bif Nat.beq (List.length (C.elems (dk d3 1))) (List.length (C.elems (dk d3 1))) then (if (List.length (C.elems (dk d3 1)) + 1) * 24 ≤ 140737488355328 ∧ List.length (C.elems (dk d3 1)) + 1 ≤ 9223372036854775807 then (bif Nat.beq (List.length (C.elems (dk d3 2))) (List.length (C.elems (dk d3 2))) then (bif Nat.beq (List.length (C.elems (dk d3 1)) + 1) (List.length (C.elems (dk d3 1) ++ [C.slice (C.elems (dk d3 2))])) then (k3 [dk d3 0, C.slice (C.elems (dk d3 2)), C.slice (C.elems (dk d3 1) ++ [C.slice (C.elems (dk d3 2))])] []) else none) else none) else none) else none)) (fun k4 => (bif Nat.beq (List.length (C.elems (dk d2 1))) (List.length (C.elems (dk d2 1))) then (bif Nat.beq (List.length (C.elems (dk d2 2))) (List.length (C.elems (dk d2 2))) then (u3 N (q3I N k4) [dk d2 0, C.slice (C.elems (dk d2 1)), C.slice (C.elems (dk d2 2)), C.slice [], C.int 0] []) else none) else none))) else (bif Nat.beq (List.length (C.elems (dk d2 2))) (List.length (C.elems (dk d2 2))) then (k2 [C.slice (C.elems (dk d2 2))] []) else none)))
noncomputable def q5P {R : Type} (N : Nat) (k2 : KD R) : KD R → List C → List Es → Option R := (fun k3 d1 m1 => (q16 N (dk d1 0) (fun d2 m2 => (bif decide (C.toInt (dk d1 4) < C.toInt (dk d2 0)) then (q2T N (dk d1 1) (dk d1 2) (C.int (IntKind.wrap IntKind.u32 (C.toInt (dk d1 4)))) (fun d3 m3 => (bif Nat.beq (List.length (C.elems (dk d1 3))) (List.length (C.elems (dk d1 3))) then (if (List.length (C.elems (dk d1 3)) + 1) * 32 ≤ 140737488355328 ∧ List.length (C.elems (dk d1 3)) + 1 ≤ 9223372036854775807 then (bif Nat.beq (List.length (C.elems (dk d1 3)) + 1) (List.length (C.elems (dk d1 3) ++ [dk d3 0])) then (k3 [dk d1 0, dk d1 1, dk d1 2, C.slice (C.elems (dk d1 3) ++ [dk d3 0]), C.int (IntKind.wrap IntKind.i64 (C.toInt (dk d1 4) + 1))] []) else none) else none) else none))) else (bif Nat.beq (List.length (C.elems (dk d1 3))) (List.length (C.elems (dk d1 3))) then (k2 [dk d1 1, C.slice (C.elems (dk d1 3))] []) else none)))))
noncomputable def q3H {R : Type} (N : Nat) (a0 a1 a2 : C) (k1 : KD R) : Option R := (jn (fun d1 m1 => (jn (fun d2 m2 => (bif Nat.beq (List.length (C.elems (dk d2 0))) (List.length (C.elems (dk d2 0))) then (k1 [C.slice (C.elems (dk d2 0))] []) else none)) (fun k2 => (bif Nat.beq (List.length (C.elems (dk d1 1))) (List.length (C.elems (dk d1 1))) then (u3 N (q5Q N k2) [dk d1 0, C.slice (C.elems (dk d1 1)), C.slice [C.slice (C.elems (dk d1 1))]] []) else none)))) (fun k2 => (u3 N (q5P N k2) [a2, a0, a1, C.slice [], C.int 0] [])))
noncomputable def q1v {R : Type} (N : Nat) : C → C → C → KD R → Option R := lid "" (q3H N)
theorem z4u {R : Type} (N : Nat) (a0 a1 a2 : C) (k : KD R) : q1v N a0 a1 a2 k = q3H N a0 a1 a2 k := by unfold q1v; rw [w6]
theorem y1v {R : Type} (N : Nat) (a0 a1 a2 : C) (K : V → List (Key × O) → Option R) : exF (X0 gl0) ((z4v N).ov R) s5 (fun f r => bif Nat.beq f 32 then (bif Nat.beq r 0 then [(3, 5), (4, 5)] else bif Nat.beq r 6 then [(27, 4)] else bif Nat.beq r 12 then [(49, 7)] else []) else []) (fun f => bif Nat.beq f 32 then y3q else []) N 400 8 32 [.d o7 a0, .d (.arr 32 (.int .u8)) a1, .d (.int .i64) a2] A0 K =
  q1v N a0 a1 a2 (fun d1 m1 => K (V.ts 24 (Ty.slice 32 (Ty.arr 32 (Ty.int IntKind.u8))) (C.elems (dk d1 0))) []) := by
 rw [z4u]
 exact (show _ = jn (fun d1 m1 => (bif Nat.beq (List.length (C.elems (dk d1 0))) (List.length (C.elems (dk d1 0))) then
  (K (V.ts 24 (Ty.slice 32 (Ty.arr 32 (Ty.int IntKind.u8))) (C.elems (dk d1 0))) [])
 else
  none)) (q3H N a0 a1 a2) by kernel_rfl).trans ((y4 _ _).trans (congrArg (q3H N a0 a1 a2) (funext fun _ => funext fun _ => by simp only [Nat.beq_refl, cond_true])))
noncomputable def z0y (N : Nat) {R : Type} : OvG R := fun xs _ K => match xs with
 | [.d t0 a0, .d t1 a1, .d t2 a2] => if t0 = o7 ∧ t1 = (.arr 32 (.int .u8)) ∧ t2 = (.int .i64) then q1v N a0 a1 a2 (fun d1 m1 => K (V.ts 24 (Ty.slice 32 (Ty.arr 32 (Ty.int IntKind.u8))) (C.elems (dk d1 0))) []) else none
 | _ => none
theorem y3p (N : Nat) {R : Type} : GOk (X0 gl0) 32 (z0y N (R := R)) := by
 intro xs A Kr r hr
 unfold z0y at hr
 split at hr
 ·simp only [Option.ite_none_right_eq_some] at hr
  obtain ⟨hty, hr⟩ := hr
  obtain ⟨rfl, rfl, rfl⟩ := hty
  rw [← y1v] at hr
  exact okA (z4v N) hr
 ·cases hr
noncomputable def y4U : Hints := [([1, 0, 1, 1], ⟨[], [(5, .d (.int .i64))], [], [], [], []⟩),
  ([4, 1, 0, 1, 1], ⟨[1], [(5, .d (.int .i64)), (6, .d (.int .i64))], [], [], [], []⟩),
  ([9], ⟨[], [(4, .d (.int .i64))], [], [], [], []⟩)]
noncomputable def z5M (N : Nat) : OvS (X0 gl0) where
 g R := []
 ok := fun R => fun _ h => nomatch h
noncomputable def q6M {R : Type} (N : Nat) (k2 : KD R) : KD R → List C → List Es → Option R := (fun k3 d1 m1 => (bif decide (C.toInt (dk d1 2) < IntKind.wrap IntKind.i64 (7 - Int.tmod (C.toInt (dk d1 0)) 8)) then (k3 [dk d1 0, C.int (IntKind.wrap IntKind.i64 (Int.tdiv (C.toInt (dk d1 1)) 2)), C.int (IntKind.wrap IntKind.i64 (C.toInt (dk d1 2) + 1))] []) else (k2 [dk d1 1] [])))
noncomputable def q6L {R : Type} (N : Nat) (a0 a1 : C) (k1 : KD R) : Option R := (if 0 ≤ IntKind.wrap IntKind.i64 (Int.tdiv (C.toInt a1) 8) ∧ IntKind.wrap IntKind.i64 (Int.tdiv (C.toInt a1) 8) < 32 then (jn (fun d1 m1 => (k1 [C.int (Int.tmod (C.toInt (dk d1 0)) 2)] [])) (fun k2 => (u3 N (q6M N k2) [a1, C.int (IntKind.wrap IntKind.i64 (C.toInt (C.get a0 (Int.toNat (IntKind.wrap IntKind.i64 (Int.tdiv (C.toInt a1) 8)))))), C.int 0] []))) else none)
noncomputable def q3Y {R : Type} (N : Nat) : C → C → KD R → Option R := lid "" (q6L N)
theorem z5L {R : Type} (N : Nat) (a0 a1 : C) (k : KD R) : q3Y N a0 a1 k = q6L N a0 a1 k := by unfold q3Y; rw [w6]
theorem y3v {R : Type} (N : Nat) (a0 a1 : C) (K : V → List (Key × O) → Option R) : exF (X0 gl0) ((z5M N).ov R) s5 (fun f r => bif Nat.beq f 96 then (bif Nat.beq r 0 then [(2, 5)] else []) else []) (fun f => bif Nat.beq f 96 then y4U else []) N 400 8 96 [.d (.arr 32 (.int .u8)) a0, .d (.int .i64) a1] A0 K =
  q3Y N a0 a1 (fun d1 m1 => K (V.d (Ty.int IntKind.i64) (dk d1 0)) []) := by
 rw [z5L]
 exact (show _ = jn (fun d1 m1 => (K (V.d (Ty.int IntKind.i64) (dk d1 0)) [])) (q6L N a0 a1) by kernel_rfl).trans (y4 _ _)
noncomputable def z2c (N : Nat) {R : Type} : OvG R := fun xs _ K => match xs with
 | [.d t0 a0, .d t1 a1] => if t0 = (.arr 32 (.int .u8)) ∧ t1 = (.int .i64) then q3Y N a0 a1 (fun d1 m1 => K (V.d (Ty.int IntKind.i64) (dk d1 0)) []) else none
 | _ => none
theorem y4T (N : Nat) {R : Type} : GOk (X0 gl0) 96 (z2c N (R := R)) := by
 intro xs A Kr r hr
 unfold z2c at hr
 split at hr
 ·simp only [Option.ite_none_right_eq_some] at hr
  obtain ⟨hty, hr⟩ := hr
  obtain ⟨rfl, rfl⟩ := hty
  rw [← y3v] at hr
  exact okA (z5M N) hr
 ·cases hr
noncomputable def y3s : Hints := [([1, 0, 1, 1], ⟨[8, 9], [], [], [], [], []⟩),
  ([4, 1, 0, 1, 1], ⟨[2, 4, 5, 7, 8, 9], [(10, .d (.int .i64))], [], [], [], []⟩),
  ([9], ⟨[], [(8, .as (.ptr (.l 8) [] W5))], [], [(.l 8, .box (.d W5))], [], []⟩)]
noncomputable def z4x (N : Nat) : OvS (X0 gl0) where
 g R := [(86, q5W N), (87, q46 N), (96, z2c N)]
 ok := fun R => List.forall_mem_cons.2 ⟨z2T N, List.forall_mem_cons.2 ⟨z1H N, List.forall_mem_cons.2 ⟨y4T N, fun _ h => nomatch h⟩⟩⟩
noncomputable def q5T {R : Type} (N : Nat) (k2 : KD R) : KD R → List C → List Es → Option R := (fun k3 d1 m1 => (bif decide (C.toInt (dk d1 4) < 32) then (q3Y N (dk d1 3) (dk d1 4) (fun d2 m2 => (F7 N (dk d1 1) (dk d1 2) (dk d1 0) (dk d1 4) (dk d2 0) (fun d3 m3 => (if 0 ≤ C.toInt (dk d1 4) ∧ C.toInt (dk d1 4) < 32 then (F7 N (dk d1 1) (dk d1 2) (dk d1 0) (dk d1 4) (C.int (IntKind.wrap IntKind.i64 (1 - C.toInt (dk d2 0)))) (fun d4 m4 => (q08 N (dk d1 1) (dk d4 0) (fun d5 m5 => (if 0 ≤ C.toInt (dk d1 4) ∧ C.toInt (dk d1 4) < 32 then (k3 [dk d1 0, dk d1 1, dk d1 2, dk d1 3, C.int (IntKind.wrap IntKind.i64 (C.toInt (dk d1 4) + 1)), dk d1 5, C.set (C.set (dk d1 6) 0 (C.set (C.get (dk d1 6) 0) (Int.toNat (C.toInt (dk d1 4))) (dk d3 0))) 1 (C.set (C.get (C.set (dk d1 6) 0 (C.set (C.get (dk d1 6) 0) (Int.toNat (C.toInt (dk d1 4))) (dk d3 0))) 1) (Int.toNat (C.toInt (dk d1 4))) (dk d5 0))] []) else none))))) else none))))) else (k2 [dk d1 5, dk d1 6] [])))
noncomputable def q5S {R : Type} (N : Nat) (a0 a1 a2 a3 : C) (k1 : KD R) : Option R := (jn (fun d1 m1 => (k1 [dk d1 1] [])) (fun k2 => (u3 N (q5T N k2) [a2, a0, a1, a3, C.int 0, C.agg [C.agg (List.replicate 32 (C.agg (List.replicate 16 (C.int 0)))), C.agg (List.replicate 32 (C.agg (List.replicate 16 (C.int 0))))], C.agg [C.agg (List.replicate 32 (C.agg (List.replicate 16 (C.int 0)))), C.agg (List.replicate 32 (C.agg (List.replicate 16 (C.int 0))))]] [])))
noncomputable def q2S {R : Type} (N : Nat) : C → C → C → C → KD R → Option R := lid "" (q5S N)
theorem z4w {R : Type} (N : Nat) (a0 a1 a2 a3 : C) (k : KD R) : q2S N a0 a1 a2 a3 k = q5S N a0 a1 a2 a3 k := by unfold q2S; rw [w6]
theorem y1z {R : Type} (N : Nat) (a0 a1 a2 a3 : C) (K : V → List (Key × O) → Option R) : exF (X0 gl0) ((z4x N).ov R) s5 (fun f r => bif Nat.beq f 70 then (bif Nat.beq r 0 then [(4, 5), (5, 5), (7, 5)] else bif Nat.beq r 7 then [(36, 7), (37, 7)] else []) else []) (fun f => bif Nat.beq f 70 then y3s else []) N 400 8 70 [.d o7 a0, .d (.arr 32 (.int .u8)) a1, .d (.int .u32) a2, .d (.arr 32 (.int .u8)) a3] A0 K =
  q2S N a0 a1 a2 a3 (fun d1 m1 => K (V.d W5 (dk d1 0)) []) := by
 rw [z4w]
 exact (show _ = jn (fun d1 m1 => (K (V.d W5 (dk d1 0)) [])) (q5S N a0 a1 a2 a3) by kernel_rfl).trans (y4 _ _)
noncomputable def z0z (N : Nat) {R : Type} : OvG R := fun xs _ K => match xs with
 | [.d t0 a0, .d t1 a1, .d t2 a2, .d t3 a3] => if t0 = o7 ∧ t1 = (.arr 32 (.int .u8)) ∧ t2 = (.int .u32) ∧ t3 = (.arr 32 (.int .u8)) then q2S N a0 a1 a2 a3 (fun d1 m1 => K (V.d W5 (dk d1 0)) []) else none
 | _ => none
theorem y3r (N : Nat) {R : Type} : GOk (X0 gl0) 70 (z0z N (R := R)) := by
 intro xs A Kr r hr
 unfold z0z at hr
 split at hr
 ·simp only [Option.ite_none_right_eq_some] at hr
  obtain ⟨hty, hr⟩ := hr
  obtain ⟨rfl, rfl, rfl, rfl⟩ := hty
  rw [← y1z] at hr
  exact okA (z4x N) hr
 ·cases hr
noncomputable def y3o : Hints := [([1, 0, 1, 1, 1], ⟨[10, 11], [], [], [(.l 11, .box (.agg j8 [.d W5, .d (.int .u32), (.ts 32 (.arr 32 (.int .u8)))]))], [], []⟩),
  ([4, 1, 0, 1, 1, 1], ⟨[2, 10, 11], [(12, .d (.int .i64)), (13, .d (.int .i64))], [], [(.l 11, .box (.agg j8 [.d W5, .d (.int .u32), (.ts 32 (.arr 32 (.int .u8)))]))], [], []⟩),
  ([1, 0, 1, 4, 0, 1, 5, 4, 1, 0, 1, 1, 1], ⟨[2, 10, 11, 12, 13], [(14, .d (.int .i64))], [], [(.l 11, .box (.agg j8 [.d W5, .d (.int .u32), (.ts 32 (.arr 32 (.int .u8)))]))], [], []⟩),
  ([9], ⟨[], [(10, .as (.ptr (.l 10) [] j8))], [], [(.l 10, .box (.d j8))], [], []⟩)]
noncomputable def z4t (N : Nat) : OvS (X0 gl0) where
 g R := [(70, z0z N)]
 ok := fun R => List.forall_mem_cons.2 ⟨y3r N, fun _ h => nomatch h⟩
noncomputable def q3G {R : Type} (N : Nat) (k2 : KD R) : KD R → List C → List Es → Option R := (fun k3 d2 m2 => (bif decide (C.toInt (dk d2 2) < IntKind.wrap IntKind.i64 ((↑(List.length (C.elems (dk d2 0))) : Int) - 1)) then (jn (fun d3 m3 => (if 0 ≤ C.toInt (dk d3 2) ∧ C.toInt (dk d3 2) < (↑(List.length (C.elems (dk d3 0))) : Int) then (if 0 ≤ C.toInt (dk d3 3) ∧ C.toInt (dk d3 3) < (↑(List.length (C.elems (List.getD (C.elems (dk d3 0)) (Int.toNat (C.toInt (dk d3 2))) C.nil))) : Int) then (bif Nat.beq (List.length (C.elems (dk d3 6))) (List.length (C.elems (dk d3 6))) then (if (List.length (C.elems (dk d3 6)) + 1) * 32 ≤ 140737488355328 ∧ List.length (C.elems (dk d3 6)) + 1 ≤ 9223372036854775807 then (bif Nat.beq (List.length (C.elems (dk d3 6)) + 1) (List.length (C.elems (dk d3 6) ++ [List.getD (C.elems (List.getD (C.elems (dk d3 0)) (Int.toNat (C.toInt (dk d3 2))) C.nil)) (Int.toNat (C.toInt (dk d3 3))) C.nil])) then (k3 [dk d3 0, C.int (IntKind.wrap IntKind.i64 (Int.tdiv (C.toInt (dk d3 1)) 2)), C.int (IntKind.wrap IntKind.i64 (C.toInt (dk d3 2) + 1)), dk d3 4, dk d3 5, C.slice (C.elems (dk d3 6) ++ [List.getD (C.elems (List.getD (C.elems (dk d3 0)) (Int.toNat (C.toInt (dk d3 2))) C.nil)) (Int.toNat (C.toInt (dk d3 3))) C.nil]), dk d3 7] []) else none) else none) else none) else none) else none)) (fun k4 => (bif decide (Int.tmod (C.toInt (dk d2 1)) 2 = 1) then (k4 [dk d2 0, dk d2 1, dk d2 2, C.int (IntKind.wrap IntKind.i64 (C.toInt (dk d2 1) - 1)), dk d2 3, dk d2 4, C.slice (C.elems (dk d2 5)), dk d2 6] []) else (k4 [dk d2 0, dk d2 1, dk d2 2, C.int (IntKind.wrap IntKind.i64 (C.toInt (dk d2 1) + 1)), dk d2 3, dk d2 4, C.slice (C.elems (dk d2 5)), dk d2 6] [])))) else (k2 [dk d2 3, dk d2 4, C.slice (C.elems (dk d2 5)), dk d2 6] [])))
noncomputable def q5O {R : Type} (N : Nat) (a0 a1 a2 a3 a4 : C) (k1 : KD R) : Option R := (q2S N a0 a1 (C.int (IntKind.wrap IntKind.u32 (C.toInt a3))) a4 (fun d1 m1 => (jn (fun d2 m2 => (k1 [C.agg [dk d2 0, dk d2 1, C.slice (C.elems (dk d2 2))]] [])) (fun k2 => (u3 N (q3G N k2) [a2, a3, C.int 0, dk d1 0, C.int (IntKind.wrap IntKind.u32 (C.toInt a3)), C.slice [], C.agg [C.agg [C.agg (List.replicate 32 (C.agg (List.replicate 16 (C.int 0)))), C.agg (List.replicate 32 (C.agg (List.replicate 16 (C.int 0))))], z0 (Ty.int IntKind.u32), C.slice []]] [])))))
noncomputable def q2R {R : Type} (N : Nat) : C → C → C → C → C → KD R → Option R := lid "" (q5O N)
theorem z4s {R : Type} (N : Nat) (a0 a1 a2 a3 a4 : C) (k : KD R) : q2R N a0 a1 a2 a3 a4 k = q5O N a0 a1 a2 a3 a4 k := by unfold q2R; rw [w6]
theorem y1u {R : Type} (N : Nat) (a0 a1 a2 a3 a4 : C) (K : V → List (Key × O) → Option R) : exF (X0 gl0) ((z4t N).ov R) s5 (fun f r => bif Nat.beq f 44 then (bif Nat.beq r 0 then [(5, 5), (6, 5), (9, 5)] else []) else []) (fun f => bif Nat.beq f 44 then y3o else []) N 400 8 44 [.d o7 a0, .d (.arr 32 (.int .u8)) a1, .d (.slice 24 (.slice 32 (.arr 32 (.int .u8)))) a2, .d (.int .i64) a3, .d (.arr 32 (.int .u8)) a4] A0 K =
  q2R N a0 a1 a2 a3 a4 (fun d1 m1 => K (V.d j8 (dk d1 0)) []) := by
 rw [z4s]
 exact (show _ = jn (fun d1 m1 => (K (V.d j8 (dk d1 0)) [])) (q5O N a0 a1 a2 a3 a4) by kernel_rfl).trans (y4 _ _)
noncomputable def z0x (N : Nat) {R : Type} : OvG R := fun xs _ K => match xs with
 | [.d t0 a0, .d t1 a1, .d t2 a2, .d t3 a3, .d t4 a4] => if t0 = o7 ∧ t1 = (.arr 32 (.int .u8)) ∧ t2 = (.slice 24 (.slice 32 (.arr 32 (.int .u8)))) ∧ t3 = (.int .i64) ∧ t4 = (.arr 32 (.int .u8)) then q2R N a0 a1 a2 a3 a4 (fun d1 m1 => K (V.d j8 (dk d1 0)) []) else none
 | _ => none
theorem y3n (N : Nat) {R : Type} : GOk (X0 gl0) 44 (z0x N (R := R)) := by
 intro xs A Kr r hr
 unfold z0x at hr
 split at hr
 ·simp only [Option.ite_none_right_eq_some] at hr
  obtain ⟨hty, hr⟩ := hr
  obtain ⟨rfl, rfl, rfl, rfl, rfl⟩ := hty
  rw [← y1u] at hr
  exact okA (z4t N) hr
 ·cases hr
end Go.Proofs.YtgdonkaoajbclaaGreatDoor
namespace Go.Proofs.YtgdonkaoajbclaaGreatDoor
open Go Go.E
set_option maxRecDepth 100000
set_option maxHeartbeats 4000000
set_option linter.unusedSimpArgs false
variable {R : Type} {N : Nat}
def x29 (B : Nat) (l : List C) : Prop := ∀ x ∈ l, ∃ y : List C, x = .slice y ∧ y.length ≤ B
theorem y6R (a0 : C) (l : List C) (B : Nat) (hb : x29 B l) (hB : B ≤ 1000000) (hl : l.length ≤ 100) (hN : 1000 < N) : ∃ o : List C, o.length ≤ 2 + l.length * (B + 4) ∧ ∀ k : KD R, q1w N a0 (.slice l) k = k [.slice o] [] := by
 obtain ⟨d, ⟨o, ho, rfl⟩, h⟩ := j6 (R := R) (F := fun k2 => q5X N k2) l.length (fun i st => ∃ o : List C, o.length ≤ 2 + i * (B + 4) ∧ st = [.slice l, .slice o, .int i]) (fun d => ∃ o : List C, o.length ≤ 2 + l.length * (B + 4) ∧ d = [.slice o])
  (fun i st hi hst => by
   obtain ⟨o, ho, rfl⟩ := hst
   have e1 : (i : Int) < (l.length : Int) := by omega
   obtain ⟨y, hy, hyl⟩ := hb _ (q3s hi)
   have m1 : i * (B + 4) ≤ 100 * (B + 4) := Nat.mul_le_mul_right _ (by omega)
   have g1 : (o.length + 4) * 1 ≤ 140737488355328 ∧ o.length + 4 ≤ 9223372036854775807 := by omega
   have g2 : (o.length + 4 + y.length) * 1 ≤ 140737488355328 ∧ o.length + 4 + y.length ≤ 9223372036854775807 := by omega
   refine ⟨_, ⟨o ++ [?a1, ?b1, ?c1, ?d1] ++ y, by simp [Nat.succ_mul]; omega, rfl⟩, fun k rec => ?eq1⟩
   case eq1 =>
    unfold q5X
    simp only [x9, w7, w9, y8, y7, e1, hy, g1, g2, decide_true, cond_true, Int.natCast_nonneg, and_self, if_true, Int.toNat_natCast, Nat.beq_refl, List.length_append, List.length_cons, List.length_nil, Nat.zero_add, Nat.reduceAdd, u5 (show i < 4611686018427387904 by omega)]
    rfl)
  (fun st hst => by
   obtain ⟨o, ho, rfl⟩ := hst
   refine ⟨_, ⟨o, ho, rfl⟩, fun k rec => ?_⟩
   unfold q5X
   simp only [x9, w7, w9, y8, y7, Int.lt_irrefl, decide_false, cond_false, Nat.beq_refl, cond_true])
  (N := N) (by omega) (st := [.slice l, .slice [a0, C.int (IntKind.wrap IntKind.u8 (l.length : Int))], .int (0 : Nat)]) ⟨_, by simp, rfl⟩
 refine ⟨o, ho, fun k => ?_⟩
 rw [z4A]
 unfold q3K
 simp only [y4, y7]
 refine (h _).trans ?_
 simp only [x9, y7, Nat.beq_refl, cond_true]
theorem y2V (c : C) (hN : 100 < N) : ∃ l : List C, l.length = 16 ∧ ∀ k : KD R, q07 N c k = k [.agg l] [] := by
 obtain ⟨d, ⟨v, hv, rfl⟩, h⟩ := j6 (R := R) (F := fun k2 => q45 N k2) 16 (fun i st => ∃ v : List C, v.length = 16 ∧ st = [c, .int i, z0 (.arr 16 (.int .u8)), .agg v]) (fun d => ∃ v : List C, v.length = 16 ∧ d = [z0 (.arr 16 (.int .u8)), .agg v])
  (fun i st hi hst => by
   obtain ⟨v, hv, rfl⟩ := hst
   have e1 : (i : Int) < 16 := by omega
   have e2 : (i : Int) < 32 := by omega
   refine ⟨_, ⟨v.set i (c.get i), by simp [hv], rfl⟩, fun k rec => ?_⟩
   unfold q45
   simp only [x9, w7, w9, u6, y8, e1, e2, z2E, decide_true, cond_true, Int.natCast_nonneg, and_self, if_true, Int.toNat_natCast, u5 (show i < 4611686018427387904 by omega)])
  (fun st hst => by
   obtain ⟨v, hv, rfl⟩ := hst
   refine ⟨_, ⟨v, hv, rfl⟩, fun k rec => ?_⟩
   unfold q45
   have e : ¬ ((16 : Nat) : Int) < 16 := by decide
   simp only [x9, w7, w9, u6, y8, e, decide_false, cond_false])
  (N := N) (by omega) (st := [c, .int (0 : Nat), z0 (.arr 16 (.int .u8)), z0 (.arr 16 (.int .u8))]) ⟨List.replicate 16 (.int 0), by simp, rfl⟩
 refine ⟨v, hv, fun k => ?_⟩
 rw [z2O]
 unfold q44
 simp only [y4]
 exact (h _).trans rfl
section
variable {t : C} (hOf : ∀ (p : List C), p.length ≤ 200000 → ∃ c, Dig c ∧ ∀ k : KD R, X9 N t (.slice p) k = k [c] [])
include hOf
theorem z3z (a0 : C) (l : List C) (B : Nat) (hb : x29 B l) (hB : B ≤ 1100) (hl : l.length ≤ 100) (hN : 1000 < N) : ∃ c, Dig c ∧ ∀ k : KD R, Y7 N t a0 (.slice l) k = k [c] [] := by
 obtain ⟨o, ho, h1⟩ := y6R (R := R) (N := N) a0 l B hb (by omega) hl hN
 have m1 : l.length * (B + 4) ≤ 100 * 1104 := Nat.mul_le_mul hl (by omega)
 obtain ⟨c, hc, h2⟩ := hOf o (by omega)
 refine ⟨c, hc, fun k => ?_⟩
 rw [q7B]
 unfold q1L
 simp only [h1, x9, y7, h2]
theorem z95 (c : C) (hN : 1000 < N) : ∃ l : List C, l.length = 16 ∧ ∀ k : KD R, q08 N t c k = k [.agg l] [] := by
 obtain ⟨d, hd, h1⟩ := z3z hOf (.int 5) [C.slice (cut (C.elems c) 0 16)] 100 (fun x hx => ⟨_, List.mem_singleton.1 hx, by simp [cut]; omega⟩) (by omega) (by simp) hN
 obtain ⟨l, hl, h2⟩ := y2V (R := R) (N := N) d (by omega)
 refine ⟨l, hl, fun k => ?_⟩
 rw [z2R]
 unfold q47
 simp only [h1, x9, h2]
theorem z2e (a1 a2 a3 a4 : C) (hN : 1000 < N) : ∃ l : List C, l.length = 16 ∧ ∀ k : KD R, F7 N t a1 a2 a3 a4 k = k [.agg l] [] := by
 have hn : ∀ k : KD R, Q7 N (.slice []) (.int (IntKind.u64.wrap a2.toInt)) (.int 4) k = k [.slice ([] ++ J7 4 (IntKind.u64.wrap a2.toInt))] [] := fun k => z0e [] (.int (IntKind.u64.wrap a2.toInt)) (q3S _) 4 (by omega) (by simp) (by omega) k
 obtain ⟨d, hd, h1⟩ := z3z hOf (.int 1) [C.slice (cut (C.elems a1) 0 32), C.slice ([] ++ J7 4 (IntKind.u64.wrap a2.toInt)), C.slice [C.int (IntKind.wrap IntKind.u8 (C.toInt a3)), C.int (IntKind.wrap IntKind.u8 (C.toInt a4))]] 100 (fun x hx => by
  simp only [List.mem_cons, List.not_mem_nil, or_false] at hx
  rcases hx with rfl | rfl | rfl
  ·exact ⟨_, rfl, by simp [cut]; omega⟩
  ·exact ⟨_, rfl, by simp [Z4]⟩
  ·exact ⟨_, rfl, by simp⟩) (by omega) (by simp) hN
 obtain ⟨l, hl, h2⟩ := y2V (R := R) (N := N) d (by omega)
 refine ⟨l, hl, fun k => ?_⟩
 rw [z1F]
 unfold q4k
 simp only [hn, y7, x9, h1, h2]
theorem x0e (a1 a2 : C) (hN : 1000 < N) : ∃ c, Dig c ∧ ∀ k : KD R, q2T N t a1 a2 k = k [c] [] := by
 have inner : ∀ (x3 z : C) (o : List C), o.length ≤ 1000 → ∃ o' : List C, o'.length ≤ o.length + 32 ∧ ∀ k : KD R, u3 N (q3J N k) [a2, t, a1, x3, .slice o, .int 0, z] [] = k [a2, t, a1, x3, .slice o', z] [] := by
  intro x3 z o ho
  obtain ⟨d, ⟨o', ho', rfl⟩, h⟩ := j6 (R := R) (F := fun k2 => q3J N k2) 2 (fun i st => ∃ o' : List C, o'.length ≤ o.length + 16 * i ∧ st = [a2, t, a1, x3, .slice o', .int i, z]) (fun d => ∃ o' : List C, o'.length ≤ o.length + 32 ∧ d = [a2, t, a1, x3, .slice o', z])
   (fun i st hi hst => by
    obtain ⟨o', ho', rfl⟩ := hst
    have e1 : (i : Int) < 2 := by omega
    obtain ⟨s, hs, h1⟩ := z2e hOf a1 a2 x3 (.int i) hN
    obtain ⟨c, hc, h2⟩ := z95 hOf (.agg s) hN
    have e3 : List.take 16 c = c := List.take_of_length_le (by omega)
    have g1 : (o'.length + c.length) * 1 ≤ 140737488355328 ∧ o'.length + c.length ≤ 9223372036854775807 := by omega
    refine ⟨_, ⟨o' ++ c, by simp; omega, rfl⟩, fun k rec => ?_⟩
    unfold q3J
    simp only [x9, w7, w9, u6, j3, F3, q2x, y8, y7, q3v, e1, h1, h2, List.drop_zero, e3, g1, decide_true, cond_true, and_self, if_true, Nat.beq_refl, List.length_append, u5 (show i < 4611686018427387904 by omega)])
   (fun st hst => by
    obtain ⟨o', ho', rfl⟩ := hst
    refine ⟨_, ⟨o', by omega, rfl⟩, fun k rec => ?_⟩
    unfold q3J
    have e : ¬ ((2 : Nat) : Int) < 2 := by decide
    simp only [x9, w7, w9, u6, j3, F3, q2x, y8, y7, e, decide_false, cond_false, cond_true, Nat.beq_refl])
   (N := N) (by omega) (st := [a2, t, a1, x3, .slice o, .int (0 : Nat), z]) ⟨o, by omega, rfl⟩
  exact ⟨o', ho', h⟩
 obtain ⟨d, ⟨o, ho, rfl⟩, h⟩ := j6 (R := R) (F := fun k2 => q5V N k2) 32 (fun i st => ∃ o : List C, o.length ≤ 32 * i ∧ st = [a2, t, a1, .slice o, .int i, z0 (.arr 32 (.int .u8))]) (fun d => ∃ o : List C, o.length ≤ 1024 ∧ d = [t, .slice o, z0 (.arr 32 (.int .u8))])
  (fun i st hi hst => by
   obtain ⟨o, ho, rfl⟩ := hst
   have e1 : (i : Int) < 32 := by omega
   obtain ⟨o', ho', h1⟩ := inner (.int i) (z0 (.arr 32 (.int .u8))) o (by omega)
   refine ⟨_, ⟨o', by omega, rfl⟩, fun k rec => ?_⟩
   unfold q5V
   simp only [y4, x9, w7, w9, u6, j3, F3, y8, y7, e1, h1, decide_true, cond_true, Nat.beq_refl, u5 (show i < 4611686018427387904 by omega)])
  (fun st hst => by
   obtain ⟨o, ho, rfl⟩ := hst
   refine ⟨_, ⟨o, by omega, rfl⟩, fun k rec => ?_⟩
   unfold q5V
   have e : ¬ ((32 : Nat) : Int) < 32 := by decide
   simp only [x9, w7, w9, u6, j3, F3, y8, y7, e, decide_false, cond_false, cond_true, Nat.beq_refl])
  (N := N) (by omega) (st := [a2, t, a1, .slice [], .int (0 : Nat), z0 (.arr 32 (.int .u8))]) ⟨[], by simp, rfl⟩
 obtain ⟨c, hc, h2⟩ := z3z hOf (.int 2) [C.slice o] 1100 (fun x hx => ⟨_, List.mem_singleton.1 hx, by omega⟩) (by omega) (by simp) hN
 refine ⟨c, hc, fun k => ?_⟩
 rw [z4y]
 unfold q5U
 simp only [y4]
 refine (h _).trans ?_
 simp only [x9, w7, y7, h2]
omit hOf in
theorem x1M (a0 : C) (i : Nat) (hi : i < 32) (hN : 1000 < N) : ∃ v : Int, ∀ k : KD R, q3Y N a0 (.int i) k = k [.int v] [] := by
 have r := U9 (i : Int) 8 (by omega) (by omega)
 have q0 : IntKind.i64.wrap (7 - Int.tmod (i : Int) 8) = 7 - Int.tmod (i : Int) 8 := wrap_i64 (by omega) (by omega)
 obtain ⟨m, hm⟩ := Int.eq_ofNat_of_zero_le (show 0 ≤ 7 - Int.tmod (i : Int) 8 by omega)
 have wm : IntKind.i64.wrap (m : Int) = m := wrap_i64 (by omega) (by omega)
 obtain ⟨d, ⟨v, rfl⟩, h⟩ := j6 (R := R) (F := fun k2 => q6M N k2) m (fun j st => ∃ v : Int, st = [.int i, .int v, .int j]) (fun d => ∃ v : Int, d = [.int v])
  (fun j st hj hst => by
   obtain ⟨v, rfl⟩ := hst
   have e1 : (j : Int) < (m : Int) := by omega
   refine ⟨_, ⟨IntKind.wrap IntKind.i64 (Int.tdiv v 2), rfl⟩, fun k rec => ?_⟩
   unfold q6M
   simp only [x9, w7, w9, y8, q0, hm, wm, e1, decide_true, cond_true, u5 (show j < 4611686018427387904 by omega)])
  (fun st hst => by
   obtain ⟨v, rfl⟩ := hst
   refine ⟨_, ⟨v, rfl⟩, fun k rec => ?_⟩
   unfold q6M
   simp only [x9, w7, w9, y8, q0, hm, wm, Int.lt_irrefl, decide_false, cond_false])
  (N := N) (by omega) (st := [.int i, .int (IntKind.wrap IntKind.i64 (C.toInt (C.get a0 (Int.toNat (IntKind.wrap IntKind.i64 (Int.tdiv (i : Int) 8)))))), .int (0 : Nat)]) ⟨_, rfl⟩
 have d8 : 0 ≤ Int.tdiv (i : Int) 8 ∧ Int.tdiv (i : Int) 8 < 32 := by
  rw [Int.tdiv_eq_ediv_of_nonneg (by omega)]; omega
 have q8 : IntKind.i64.wrap (Int.tdiv (i : Int) 8) = Int.tdiv (i : Int) 8 := wrap_i64 (by omega) (by omega)
 refine ⟨Int.tmod v 2, fun k => ?_⟩
 rw [z5L]
 unfold q6L
 simp only [y4, y8]
 refine (if_pos (by rw [q8]; exact d8)).trans ?_
 exact (h _).trans rfl
theorem x0d (a1 a2 a3 : C) (hN : 1000 < N) : ∃ c, ∀ k : KD R, q2S N t a1 a2 a3 k = k [c] [] := by
 obtain ⟨d, ⟨x, v, rfl⟩, h⟩ := j6 (R := R) (F := fun k2 => q5T N k2) 32 (fun i st => ∃ x v : C, st = [a2, t, a1, a3, .int i, x, v]) (fun d => ∃ x v : C, d = [x, v])
  (fun i st hi hst => by
   obtain ⟨x, v, rfl⟩ := hst
   have e1 : (i : Int) < 32 := by omega
   obtain ⟨b, h1⟩ := x1M (R := R) (N := N) a3 i hi hN
   obtain ⟨s1, _, h2⟩ := z2e hOf a1 a2 (.int i) (.int b) hN
   obtain ⟨s2, _, h3⟩ := z2e hOf a1 a2 (.int i) (.int (IntKind.wrap IntKind.i64 (1 - b))) hN
   obtain ⟨c, _, h4⟩ := z95 hOf (.agg s2) hN
   refine ⟨_, ⟨x, ?v2, rfl⟩, fun k rec => ?eq2⟩
   case eq2 =>
    unfold q5T
    simp only [x9, w7, w9, u6, j3, F3, q2x, y8, e1, h1, h2, h3, h4, decide_true, cond_true, Int.natCast_nonneg, and_self, if_true, u5 (show i < 4611686018427387904 by omega)]
    rfl)
  (fun st hst => by
   obtain ⟨x, v, rfl⟩ := hst
   refine ⟨_, ⟨x, v, rfl⟩, fun k rec => ?_⟩
   unfold q5T
   have e : ¬ ((32 : Nat) : Int) < 32 := by decide
   simp only [x9, w7, w9, u6, j3, F3, q2x, y8, e, decide_false, cond_false])
  (N := N) (by omega) (st := [a2, t, a1, a3, .int (0 : Nat), C.agg
  [C.agg (List.replicate 32 (C.agg (List.replicate 16 (C.int 0)))),
   C.agg (List.replicate 32 (C.agg (List.replicate 16 (C.int 0))))], C.agg
  [C.agg (List.replicate 32 (C.agg (List.replicate 16 (C.int 0)))),
   C.agg (List.replicate 32 (C.agg (List.replicate 16 (C.int 0))))]]) ⟨_, _, rfl⟩
 refine ⟨v, fun k => ?_⟩
 rw [z4w]
 unfold q5S
 simp only [y4]
 exact (h _).trans rfl
end
end Go.Proofs.YtgdonkaoajbclaaGreatDoor
namespace Go.Proofs.YtgdonkaoajbclaaGreatDoor
open Go Go.E
set_option maxRecDepth 100000
set_option maxHeartbeats 4000000
set_option linter.unusedVariables false
def q7p : List Sh := [.ts 1 (.int .u8), .d k9]
def z1Z : List (Key × OSh) := []
noncomputable def y02 : Hints := [([9], ⟨[], [(4, .sl 1 (.int .u8) 5004)], [], [], [], []⟩)]
noncomputable def z1Y (N : Nat) : OvS (X0 gl0) where
 g R := [(149, q2D N), (150, q4m N), (155, q62 N)]
 ok := fun R => List.forall_mem_cons.2 ⟨q82 N, List.forall_mem_cons.2 ⟨z0R N, List.forall_mem_cons.2 ⟨z88 N, fun _ h => nomatch h⟩⟩⟩
noncomputable def q2p {R : Type} (N : Nat) (a0 a1 : C) (k1 : KD R) : Option R := (bif Nat.beq (List.length (C.elems a0)) (List.length (C.elems a0)) then (Y1 N (C.slice (C.elems a0)) (C.slice [C.get a1 0]) (fun d1 m1 => (bif Nat.beq (List.length (C.elems (dk d1 0))) (List.length (C.elems (dk d1 0))) then (H2 N (C.slice (C.elems (dk d1 0))) (C.slice [C.int (IntKind.wrap IntKind.u8 (C.toInt (C.get a1 1)))]) (fun d2 m2 => (bif Nat.beq (List.length (C.elems (dk d2 0))) (List.length (C.elems (dk d2 0))) then (Y1 N (C.slice (C.elems (dk d2 0))) (C.slice [C.get a1 2]) (fun d3 m3 => (bif Nat.beq (List.length (C.elems (dk d3 0))) (List.length (C.elems (dk d3 0))) then (q0W N (C.slice (C.elems (dk d3 0))) (C.slice [C.get a1 3]) C.nil (fun d4 m4 => (bif Nat.beq (List.length (C.elems (dk d4 0))) (List.length (C.elems (dk d4 0))) then (Y1 N (C.slice (C.elems (dk d4 0))) (C.slice [C.get a1 4]) (fun d5 m5 => (bif Nat.beq (List.length (C.elems (dk d5 0))) (List.length (C.elems (dk d5 0))) then (k1 [C.slice (C.elems (dk d5 0))] []) else none))) else none))) else none))) else none))) else none))) else none)
noncomputable def q1p {R : Type} (N : Nat) : C → C → KD R → Option R := lid "" (q2p N)
theorem z1X {R : Type} (N : Nat) (a0 a1 : C) (k : KD R) : q1p N a0 a1 k = q2p N a0 a1 k := by unfold q1p; rw [w6]
theorem z9z {R : Type} (N : Nat) (a0 a1 : C) (K : V → List (Key × O) → Option R) : exF (X0 gl0) ((z1Y N).ov R) s5 (fun f r => bif Nat.beq f 151 then (bif Nat.beq r 0 then [(3, 5)] else bif Nat.beq r 1 then [(9, 1), (14, 1), (18, 1), (22, 1), (26, 1)] else []) else []) (fun f => bif Nat.beq f 151 then y02 else []) N 400 8 151 (Sh.W4 q7p 0 [a0, a1]) (z8 (u0 z1Z (Sh.q0m q7p) 0 [a0, a1] [])) K =
  q1p N a0 a1 (fun d1 m1 => K (V.ts 1 (Ty.int IntKind.u8) (C.elems (dk d1 0))) []) := by
 rw [z1X]
 exact (show _ = jn (fun d1 m1 => (bif Nat.beq (List.length (C.elems (dk d1 0))) (List.length (C.elems (dk d1 0))) then
  (K (V.ts 1 (Ty.int IntKind.u8) (C.elems (dk d1 0))) [])
 else
  none)) (q2p N a0 a1) by kernel_rfl).trans ((y4 _ _).trans (congrArg (q2p N a0 a1) (funext fun _ => funext fun _ => by simp only [Nat.beq_refl, cond_true])))
noncomputable def q78 (N : Nat) {R : Type} : OvG R := q7S q7p z1Z fun ds ms K => q1p N (dk ds 0) (dk ds 1) (fun d1 m1 => K (V.ts 1 (Ty.int IntKind.u8) (C.elems (dk d1 0))) [])
theorem y01 (N : Nat) {R : Type} : GOk (X0 gl0) 151 (q78 N (R := R)) := by
 unfold q78
 refine q2W fun ds ms K r hr => ?_
 rw [← z9z] at hr
 exact okB (z1Y N) hr
noncomputable def y3k : Hints := [([9], ⟨[], [(4, .sl 1 (.int .u8) 5004)], [], [], [], []⟩)]
noncomputable def z4q (N : Nat) : OvS (X0 gl0) where
 g R := [(99, q3Z N)]
 ok := fun R => List.forall_mem_cons.2 ⟨q6O N, fun _ h => nomatch h⟩
noncomputable def q3D {R : Type} (N : Nat) (a0 a1 : C) (k1 : KD R) : Option R := (Q7 N a0 (C.get a1 0) (C.int 8) (fun d1 m1 => (bif Nat.beq (List.length (C.elems (dk d1 0))) (List.length (C.elems (dk d1 0))) then (if (List.length (C.elems (dk d1 0)) + 1) * 1 ≤ 140737488355328 ∧ List.length (C.elems (dk d1 0)) + 1 ≤ 9223372036854775807 then (Q7 N (C.slice (C.elems (dk d1 0) ++ [C.int (IntKind.wrap IntKind.u8 (C.toInt (C.get a1 1)))])) (C.get a1 2) (C.int 8) (fun d2 m2 => (bif Nat.beq (List.length (C.elems (dk d2 0))) (List.length (C.elems (dk d2 0))) then (if (List.length (C.elems (dk d2 0)) + List.length (cut (C.elems (C.get a1 3)) 0 32)) * 1 ≤ 140737488355328 ∧ List.length (C.elems (dk d2 0)) + List.length (cut (C.elems (C.get a1 3)) 0 32) ≤ 9223372036854775807 then (Q7 N (C.slice (C.elems (dk d2 0) ++ cut (C.elems (C.get a1 3)) 0 32)) (C.get a1 4) (C.int 8) (fun d3 m3 => (bif Nat.beq (List.length (C.elems (dk d3 0))) (List.length (C.elems (dk d3 0))) then (k1 [C.slice (C.elems (dk d3 0))] []) else none))) else none) else none))) else none) else none)))
noncomputable def q2Q {R : Type} (N : Nat) : C → C → KD R → Option R := lid "" (q3D N)
theorem z4p {R : Type} (N : Nat) (a0 a1 : C) (k : KD R) : q2Q N a0 a1 k = q3D N a0 a1 k := by unfold q2Q; rw [w6]
theorem y1s {R : Type} (N : Nat) (a0 a1 : C) (K : V → List (Key × O) → Option R) : exF (X0 gl0) ((z4q N).ov R) s5 (fun f r => bif Nat.beq f 123 then (bif Nat.beq r 0 then [(3, 5)] else []) else []) (fun f => bif Nat.beq f 123 then y3k else []) N 400 8 123 [.d (.slice 1 (.int .u8)) a0, .d k9 a1] A0 K =
  q2Q N a0 a1 (fun d1 m1 => K (V.ts 1 (Ty.int IntKind.u8) (C.elems (dk d1 0))) []) := by
 rw [z4p]
 exact (show _ = jn (fun d1 m1 => (bif Nat.beq (List.length (C.elems (dk d1 0))) (List.length (C.elems (dk d1 0))) then
  (K (V.ts 1 (Ty.int IntKind.u8) (C.elems (dk d1 0))) [])
 else
  none)) (q3D N a0 a1) by kernel_rfl).trans ((y4 _ _).trans (congrArg (q3D N a0 a1) (funext fun _ => funext fun _ => by simp only [Nat.beq_refl, cond_true])))
noncomputable def z0v (N : Nat) {R : Type} : OvG R := fun xs _ K => match xs with
 | [.d t0 a0, .d t1 a1] => if t0 = (.slice 1 (.int .u8)) ∧ t1 = k9 then q2Q N a0 a1 (fun d1 m1 => K (V.ts 1 (Ty.int IntKind.u8) (C.elems (dk d1 0))) []) else none
 | _ => none
theorem y3j (N : Nat) {R : Type} : GOk (X0 gl0) 123 (z0v N (R := R)) := by
 intro xs A Kr r hr
 unfold z0v at hr
 split at hr
 ·simp only [Option.ite_none_right_eq_some] at hr
  obtain ⟨hty, hr⟩ := hr
  obtain ⟨rfl, rfl⟩ := hty
  rw [← y1s] at hr
  exact okA (z4q N) hr
 ·cases hr
end Go.Proofs.YtgdonkaoajbclaaGreatDoor
namespace Go.Proofs.YtgdonkaoajbclaaGreatDoor
open Go Go.E
set_option maxRecDepth 100000
set_option maxHeartbeats 4000000
set_option linter.unusedSimpArgs false
variable {R : Type} {N : Nat}
structure z7M (c : C) : Prop where
 id : W64 (c.get 0).toInt
 am : W64 (c.get 2).toInt
 hash : (c.get 3).elems.length = 32
 exp : W64 (c.get 4).toInt
def z10 (c : C) : List C := J7 8 (c.get 0).toInt ++ [.int ((c.get 1).toInt % 256)] ++ J7 8 (c.get 2).toInt ++ (c.get 3).elems ++ J7 8 (c.get 4).toInt
theorem y24 {c : C} (h : z7M c) : (z10 c).length = 57 := by simp [z10, Z4, h.hash]
theorem z21 (k : Nat) (c : C) : q0d k [c] = J7 k c.toInt := by simp [q0d]
theorem x1S {c : C} (h : W64 c.toInt) : ∀ x ∈ [c], 0 ≤ x.toInt := by intro x hx; simp at hx; subst hx; exact h.1
theorem y87 (out : List C) (c : C) (h : z7M c) (hl : out.length ≤ 100000000) (hN : 200 < N) (k : KD R) : q1p N (.slice out) c k = k [.slice (out ++ z10 c)] [] := by
 rw [z1X]
 unfold q2p
 simp only [y7, Nat.beq_refl, cond_true]
 rw [q60 _ _ (x1S h.id) (by simp; omega) (by simp; omega)]
 simp only [x9, y7, Nat.beq_refl, cond_true, wrap_u8, z21]
 rw [y0c _ _ (by simp [Z4]; omega)]
 simp only [x9, y7, Nat.beq_refl, cond_true]
 rw [q60 _ _ (x1S h.am) (by simp [Z4]; omega) (by simp; omega)]
 simp only [x9, y7, Nat.beq_refl, cond_true, z21]
 rw [y8T _ _ _ h.hash (by simp [Z4]; omega) (by omega)]
 simp only [x9, y7, Nat.beq_refl, cond_true]
 rw [q60 _ _ (x1S h.exp) (by simp [Z4, h.hash]; omega) (by simp; omega)]
 simp only [x9, y7, Nat.beq_refl, cond_true, z21, z10, List.append_assoc]
theorem x1L (out : List C) (c : C) (h : z7M c) (hl : out.length ≤ 100000000) (hN : 200 < N) (k : KD R) : q2Q N (.slice out) c k = k [.slice (out ++ z10 c)] [] := by
 have e1 : cut (c.get 3).elems 0 32 = (c.get 3).elems := by
  unfold cut
  rw [List.take_of_length_le (by rw [h.hash]; decide)]; rfl
 have e8 : C.int 8 = C.int ((8 : Nat) : Int) := rfl
 rw [z4p]
 unfold q3D
 rw [e8, z0e _ _ h.id 8 (by omega) (by omega) (by omega)]
 simp only [x9, y7, Nat.beq_refl, cond_true, wrap_u8]
 rw [if_pos (by simp [Z4]; omega), z0e _ _ h.am 8 (by omega) (by simp [Z4]; omega) (by omega)]
 simp only [x9, y7, Nat.beq_refl, cond_true, e1, h.hash]
 rw [if_pos (by simp [Z4]; omega), z0e _ _ h.exp 8 (by omega) (by simp [Z4, h.hash]; omega) (by omega)]
 simp only [x9, y7, Nat.beq_refl, cond_true, z10, List.append_assoc]
end Go.Proofs.YtgdonkaoajbclaaGreatDoor
namespace Go.Proofs.YtgdonkaoajbclaaGreatDoor
open Go Go.E
set_option maxRecDepth 100000
set_option maxHeartbeats 4000000
set_option linter.unusedVariables false
noncomputable def y1r : Hints := [([1, 0, 1, 1, 1, 1, 1], ⟨[], [(0, .sl 1 (.int .u8) 5000)], [], [], [], []⟩),
  ([4, 1, 0, 1, 1, 1, 1, 1], ⟨[3], [(0, .sl 1 (.int .u8) 5000), (5, .d (.int .i64))], [], [], [], []⟩),
  ([9], ⟨[], [(4, .sl 1 (.int .u8) 5004)], [], [], [], []⟩)]
noncomputable def z2K (N : Nat) : OvS (X0 gl0) where
 g R := [(99, q3Z N), (123, z0v N)]
 ok := fun R => List.forall_mem_cons.2 ⟨q6O N, List.forall_mem_cons.2 ⟨y3j N, fun _ h => nomatch h⟩⟩
noncomputable def q42 {R : Type} (N : Nat) (k2 : KD R) : KD R → List C → List Es → Option R := (fun k3 d7 m7 => (bif decide (C.toInt (dk d7 2) < (↑(List.length (C.elems (C.get (dk d7 0) 4))) : Int)) then (if 0 ≤ C.toInt (dk d7 2) ∧ C.toInt (dk d7 2) < (↑(List.length (C.elems (C.get (dk d7 0) 4))) : Int) then (q2Q N (C.slice (C.elems (dk d7 1))) (List.getD (C.elems (C.get (dk d7 0) 4)) (Int.toNat (C.toInt (dk d7 2))) C.nil) (fun d8 m8 => (bif Nat.beq (List.length (C.elems (dk d8 0))) (List.length (C.elems (dk d8 0))) then (k3 [dk d7 0, C.slice (C.elems (dk d8 0)), C.int (IntKind.wrap IntKind.i64 (C.toInt (dk d7 2) + 1))] []) else none))) else none) else (bif Nat.beq (List.length (C.elems (dk d7 1))) (List.length (C.elems (dk d7 1))) then (k2 [C.slice (C.elems (dk d7 1))] []) else none)))
noncomputable def q2P {R : Type} (N : Nat) (a0 a1 : C) (k1 : KD R) : Option R := (Q7 N a0 (C.int (IntKind.wrap IntKind.u64 (C.toInt (C.get a1 0)))) (C.int 4) (fun d1 m1 => (Q7 N (C.slice (C.elems (dk d1 0))) (C.get a1 1) (C.int 8) (fun d2 m2 => (Q7 N (C.slice (C.elems (dk d2 0))) (C.get (C.get a1 2) (Int.toNat 0)) (C.int 8) (fun d3 m3 => (Q7 N (C.slice (C.elems (dk d3 0))) (C.get (C.get a1 2) (Int.toNat 1)) (C.int 8) (fun d4 m4 => (Q7 N (C.slice (C.elems (dk d4 0))) (C.get (C.get a1 3) (Int.toNat 0)) (C.int 8) (fun d5 m5 => (Q7 N (C.slice (C.elems (dk d5 0))) (C.get (C.get a1 3) (Int.toNat 1)) (C.int 8) (fun d6 m6 => (bif Nat.beq (List.length (C.elems (dk d6 0))) (List.length (C.elems (dk d6 0))) then (if (List.length (C.elems (dk d6 0)) + 1) * 1 ≤ 140737488355328 ∧ List.length (C.elems (dk d6 0)) + 1 ≤ 9223372036854775807 then (jn (fun d7 m7 => (bif Nat.beq (List.length (C.elems (dk d7 0))) (List.length (C.elems (dk d7 0))) then (k1 [C.slice (C.elems (dk d7 0))] []) else none)) (fun k2 => (bif Nat.beq (List.length (C.elems (dk d6 0)) + 1) (List.length (C.elems (dk d6 0) ++ [C.int (IntKind.wrap IntKind.u8 (↑(List.length (C.elems (C.get a1 4))) : Int))])) then (u3 N (q42 N k2) [a1, C.slice (C.elems (dk d6 0) ++ [C.int (IntKind.wrap IntKind.u8 (↑(List.length (C.elems (C.get a1 4))) : Int))]), C.int 0] []) else none))) else none) else none)))))))))))))
noncomputable def q15 {R : Type} (N : Nat) : C → C → KD R → Option R := lid "" (q2P N)
theorem z2J {R : Type} (N : Nat) (a0 a1 : C) (k : KD R) : q15 N a0 a1 k = q2P N a0 a1 k := by unfold q15; rw [w6]
theorem z9V {R : Type} (N : Nat) (a0 a1 : C) (K : V → List (Key × O) → Option R) : exF (X0 gl0) ((z2K N).ov R) s5 (fun f r => bif Nat.beq f 100 then (bif Nat.beq r 0 then [(3, 5)] else []) else []) (fun f => bif Nat.beq f 100 then y1r else []) N 400 8 100 [.d (.slice 1 (.int .u8)) a0, .d w4 a1] A0 K =
  q15 N a0 a1 (fun d1 m1 => K (V.ts 1 (Ty.int IntKind.u8) (C.elems (dk d1 0))) []) := by
 rw [z2J]
 exact (show _ = jn (fun d1 m1 => (bif Nat.beq (List.length (C.elems (dk d1 0))) (List.length (C.elems (dk d1 0))) then
  (K (V.ts 1 (Ty.int IntKind.u8) (C.elems (dk d1 0))) [])
 else
  none)) (q2P N a0 a1) by kernel_rfl).trans ((y4 _ _).trans (congrArg (q2P N a0 a1) (funext fun _ => funext fun _ => by simp only [Nat.beq_refl, cond_true])))
noncomputable def q9p (N : Nat) {R : Type} : OvG R := fun xs _ K => match xs with
 | [.d t0 a0, .d t1 a1] => if t0 = (.slice 1 (.int .u8)) ∧ t1 = w4 then q15 N a0 a1 (fun d1 m1 => K (V.ts 1 (Ty.int IntKind.u8) (C.elems (dk d1 0))) []) else none
 | _ => none
theorem y1q (N : Nat) {R : Type} : GOk (X0 gl0) 100 (q9p N (R := R)) := by
 intro xs A Kr r hr
 unfold q9p at hr
 split at hr
 ·simp only [Option.ite_none_right_eq_some] at hr
  obtain ⟨hty, hr⟩ := hr
  obtain ⟨rfl, rfl⟩ := hty
  rw [← z9V] at hr
  exact okA (z2K N) hr
 ·cases hr
noncomputable def y3h : Hints := [([9], ⟨[], [(2, .d (.slice 1 (.int .u8)))], [], [], [], []⟩)]
noncomputable def z4o (N : Nat) : OvS (X0 gl0) where
 g R := [(88, q6N N), (99, q3Z N), (100, q9p N)]
 ok := fun R => List.forall_mem_cons.2 ⟨z4C N, List.forall_mem_cons.2 ⟨q6O N, List.forall_mem_cons.2 ⟨y1q N, fun _ h => nomatch h⟩⟩⟩
noncomputable def q5N {R : Type} (N : Nat) (a0 : C) (k1 : KD R) : Option R := (Q7 N (C.slice []) (C.int (IntKind.wrap IntKind.u64 (C.toInt (C.get a0 0)))) (C.int 4) (fun d1 m1 => (q15 N (C.slice []) a0 (fun d2 m2 => (q1w N (C.int 4) (C.slice [C.slice (C.elems (dk d1 0)), C.slice (C.elems (dk d2 0))]) (fun d3 m3 => (k1 [C.slice (C.elems (dk d3 0))] [])))))))
noncomputable def q4A {R : Type} (N : Nat) : C → KD R → Option R := lid "" (q5N N)
theorem z4n {R : Type} (N : Nat) (a0 : C) (k : KD R) : q4A N a0 k = q5N N a0 k := by unfold q4A; rw [w6]
theorem y1p {R : Type} (N : Nat) (a0 : C) (K : V → List (Key × O) → Option R) : exF (X0 gl0) ((z4o N).ov R) s5 (fun f r => bif Nat.beq f 72 then (bif Nat.beq r 0 then [(1, 5)] else []) else []) (fun f => bif Nat.beq f 72 then y3h else []) N 400 8 72 [.d w4 a0] A0 K =
  q4A N a0 (fun d1 m1 => K (V.d (Ty.slice 1 (Ty.int IntKind.u8)) (dk d1 0)) []) := by
 rw [z4n]
 exact (show _ = jn (fun d1 m1 => (K (V.d (Ty.slice 1 (Ty.int IntKind.u8)) (dk d1 0)) [])) (q5N N a0) by kernel_rfl).trans (y4 _ _)
noncomputable def z0u (N : Nat) {R : Type} : OvG R := fun xs _ K => match xs with
 | [.d t0 a0] => if t0 = w4 then q4A N a0 (fun d1 m1 => K (V.d (Ty.slice 1 (Ty.int IntKind.u8)) (dk d1 0)) []) else none
 | _ => none
theorem y3g (N : Nat) {R : Type} : GOk (X0 gl0) 72 (z0u N (R := R)) := by
 intro xs A Kr r hr
 unfold z0u at hr
 split at hr
 ·simp only [Option.ite_none_right_eq_some] at hr
  obtain ⟨hty, hr⟩ := hr
  subst hty
  rw [← y1p] at hr
  exact okA (z4o N) hr
 ·cases hr
noncomputable def y4S : Hints := [([9], ⟨[], [(4, .as (.ptr (.l 4) [] (.arr 32 (.int .u8))))], [], [(.l 4, .box (.d (.arr 32 (.int .u8))))], [], []⟩)]
noncomputable def z5K (N : Nat) : OvS (X0 gl0) where
 g R := [(71, q2B N), (72, z0u N)]
 ok := fun R => List.forall_mem_cons.2 ⟨q8W N, List.forall_mem_cons.2 ⟨y3g N, fun _ h => nomatch h⟩⟩
noncomputable def q6K {R : Type} (N : Nat) (a0 a1 : C) (k1 : KD R) : Option R := (q4A N a1 (fun d1 m1 => (X9 N a0 (dk d1 0) (fun d2 m2 => (k1 [dk d2 0] [])))))
noncomputable def q3X {R : Type} (N : Nat) : C → C → KD R → Option R := lid "" (q6K N)
theorem z5J {R : Type} (N : Nat) (a0 a1 : C) (k : KD R) : q3X N a0 a1 k = q6K N a0 a1 k := by unfold q3X; rw [w6]
theorem y3i {R : Type} (N : Nat) (a0 a1 : C) (K : V → List (Key × O) → Option R) : exF (X0 gl0) ((z5K N).ov R) s5 (fun f r => bif Nat.beq f 45 then (bif Nat.beq r 0 then [(2, 5), (3, 5)] else bif Nat.beq r 1 then [(7, 7), (8, 7)] else []) else []) (fun f => bif Nat.beq f 45 then y4S else []) N 400 8 45 [.d o7 a0, .d w4 a1] A0 K =
  q3X N a0 a1 (fun d1 m1 => K (V.d (Ty.arr 32 (Ty.int IntKind.u8)) (dk d1 0)) []) := by
 rw [z5J]
 exact (show _ = jn (fun d1 m1 => (K (V.d (Ty.arr 32 (Ty.int IntKind.u8)) (dk d1 0)) [])) (q6K N a0 a1) by kernel_rfl).trans (y4 _ _)
noncomputable def z2b (N : Nat) {R : Type} : OvG R := fun xs _ K => match xs with
 | [.d t0 a0, .d t1 a1] => if t0 = o7 ∧ t1 = w4 then q3X N a0 a1 (fun d1 m1 => K (V.d (Ty.arr 32 (Ty.int IntKind.u8)) (dk d1 0)) []) else none
 | _ => none
theorem y4R (N : Nat) {R : Type} : GOk (X0 gl0) 45 (z2b N (R := R)) := by
 intro xs A Kr r hr
 unfold z2b at hr
 split at hr
 ·simp only [Option.ite_none_right_eq_some] at hr
  obtain ⟨hty, hr⟩ := hr
  obtain ⟨rfl, rfl⟩ := hty
  rw [← y3i] at hr
  exact okA (z5K N) hr
 ·cases hr
end Go.Proofs.YtgdonkaoajbclaaGreatDoor
