/-
 What the functions on the way compute, part 1.
 Conditions: none.
-/
import Derived.Test.YtefppgmopnnphaaDoorTf
import Derived.Laws.Externs
import Derived.Lib.Bytealg
import Derived.Lib.ItoaNum
import Derived.Shelf.LaysM
import Derived.Shelf.Pu.ParseUintPublic10
import Derived.Shelf.Strings.Count
import Derived.Shelf.Strings.Search3
import Derived.Shelf.Strconv.Itoa3
import Derived.Shelf.RegionOpenPlain
import Derived.Lib.Builder
import Derived.Lib.UnsafeStr
import Derived.Lib.ParseIntBCases
import Derived.Lib.SplitLaws
import Derived.Shelf.Strings.SplitCore
import Derived.Shelf.SlSortCmp.NoneTotal
import Derived.Sort.Statements
import Derived.Maps.RangeWalk
import Derived.Sort.Grow
import Derived.Deep.Draws
import Derived.Maps.RangeRun
import Derived.Laws.AppendOwn
import Derived.OwnWalk
import Derived.LoopTactic
set_option linter.all false
namespace Go.Proofs.YtefppgmopnnphaaDoor
open Go Go.E
set_option maxRecDepth 10000
set_option linter.unusedSimpArgs false
variable {gl : Nat → Option (Ty × C)}
theorem y3Y (A : Key → Option O) (cs : List C) : j7 (X0 gl) 24 [.d (.slice 32 r9) (.slice cs)] A (.ts 32 r9 cs) [] := by
 refine q46 (n := 8) (ok0 gl) Tryd.func24 rfl rfl (by simp) ?_
 intro A' hA
 refine U3 (q0x (ok0 gl) [] (by kernel_rfl) ?_)
 simp only [go_sem, ↓q1s, ↓q1t, ↓q1u, ↓q1v, ↓q1r, ↓q0D, ↓q0E, ↓q0G, ↓q0F, reduceCtorEq, Nat.reduceEqDiff, ↓reduceIte, Nat.reduceAdd, Nat.reduceSub, Nat.reduceLT, Nat.reduceMul, Nat.reduceBEq, Int.reduceLE, Int.reduceLT, Int.reduceAdd, Int.reduceSub, Int.reduceToNat, Int.reduceNeg, Int.reduceMul, Nat.reduceLeDiff]
 refine U3 (U3 (q0x (ok0 gl) [] (by kernel_rfl) ?_))
 cases cs with
 | nil =>
  simp only [go_sem, ↓q1s, ↓q1t, ↓q1u, ↓q1v, ↓q1r, ↓q0D, ↓q0E, ↓q0G, ↓q0F, reduceCtorEq, Nat.reduceEqDiff, ↓reduceIte, Nat.reduceAdd, Nat.reduceSub, Nat.reduceLT, Nat.reduceMul, Nat.reduceBEq, Int.reduceLE, Int.reduceLT, Int.reduceAdd, Int.reduceSub, Int.reduceToNat, Int.reduceNeg, Int.reduceMul, Nat.reduceLeDiff]
  refine z3o rfl ?_ (q69 ?_)
  ·refine U3 (q0x (ok0 gl) [] (by kernel_rfl) ?_)
   simp only [go_sem, ↓q1s, ↓q1t, ↓q1u, ↓q1v, ↓q1r, ↓q0D, ↓q0E, ↓q0G, ↓q0F, reduceCtorEq, Nat.reduceEqDiff, ↓reduceIte, Nat.reduceAdd, Nat.reduceSub, Nat.reduceLT, Nat.reduceMul, Nat.reduceBEq, Int.reduceLE, Int.reduceLT, Int.reduceAdd, Int.reduceSub, Int.reduceToNat, Int.reduceNeg, Int.reduceMul, Nat.reduceLeDiff]
   refine q7Q ⟨.inr rfl, ?_⟩
   simp only [q4G, go_sem, ↓q1s, ↓q1t, ↓q1u, ↓q1v, ↓q1r, ↓q0D, ↓q0E, ↓q0G, ↓q0F, reduceCtorEq, Nat.reduceEqDiff, ↓reduceIte, Nat.reduceAdd, Nat.reduceSub, Nat.reduceLT, Nat.reduceMul, Nat.reduceBEq, Int.reduceLE, Int.reduceLT, Int.reduceAdd, Int.reduceSub, Int.reduceToNat, Int.reduceNeg, Int.reduceMul, Nat.reduceLeDiff, Tryd.f24]
  ·refine U3 (q0x (ok0 gl) [] (by kernel_rfl) ?_)
   simp only [go_sem, ↓q1s, ↓q1t, ↓q1u, ↓q1v, ↓q1r, ↓q0D, ↓q0E, ↓q0G, ↓q0F, reduceCtorEq, Nat.reduceEqDiff, ↓reduceIte, Nat.reduceAdd, Nat.reduceSub, Nat.reduceLT, Nat.reduceMul, Nat.reduceBEq, Int.reduceLE, Int.reduceLT, Int.reduceAdd, Int.reduceSub, Int.reduceToNat, Int.reduceNeg, Int.reduceMul, Nat.reduceLeDiff]
   refine q7Q ⟨.inr rfl, ?_⟩
   simp only [q4G, go_sem, ↓q1s, ↓q1t, ↓q1u, ↓q1v, ↓q1r, ↓q0D, ↓q0E, ↓q0G, ↓q0F, reduceCtorEq, Nat.reduceEqDiff, ↓reduceIte, Nat.reduceAdd, Nat.reduceSub, Nat.reduceLT, Nat.reduceMul, Nat.reduceBEq, Int.reduceLE, Int.reduceLT, Int.reduceAdd, Int.reduceSub, Int.reduceToNat, Int.reduceNeg, Int.reduceMul, Nat.reduceLeDiff, Tryd.f24]
 | cons c cs =>
  simp only [go_sem, ↓q1s, ↓q1t, ↓q1u, ↓q1v, ↓q1r, ↓q0D, ↓q0E, ↓q0G, ↓q0F, reduceCtorEq, Nat.reduceEqDiff, ↓reduceIte, Nat.reduceAdd, Nat.reduceSub, Nat.reduceLT, Nat.reduceMul, Nat.reduceBEq, Int.reduceLE, Int.reduceLT, Int.reduceAdd, Int.reduceSub, Int.reduceToNat, Int.reduceNeg, Int.reduceMul, Nat.reduceLeDiff]
  refine y2E _ rfl (fun h => by simp at h) (fun _ => q69 ?_)
  refine U3 (q0x (ok0 gl) [] (by kernel_rfl) ?_)
  simp only [go_sem, ↓q1s, ↓q1t, ↓q1u, ↓q1v, ↓q1r, ↓q0D, ↓q0E, ↓q0G, ↓q0F, reduceCtorEq, Nat.reduceEqDiff, ↓reduceIte, Nat.reduceAdd, Nat.reduceSub, Nat.reduceLT, Nat.reduceMul, Nat.reduceBEq, Int.reduceLE, Int.reduceLT, Int.reduceAdd, Int.reduceSub, Int.reduceToNat, Int.reduceNeg, Int.reduceMul, Nat.reduceLeDiff]
  refine q7Q ⟨.inr rfl, ?_⟩
  simp only [q4G, go_sem, ↓q1s, ↓q1t, ↓q1u, ↓q1v, ↓q1r, ↓q0D, ↓q0E, ↓q0G, ↓q0F, reduceCtorEq, Nat.reduceEqDiff, ↓reduceIte, Nat.reduceAdd, Nat.reduceSub, Nat.reduceLT, Nat.reduceMul, Nat.reduceBEq, Int.reduceLE, Int.reduceLT, Int.reduceAdd, Int.reduceSub, Int.reduceToNat, Int.reduceNeg, Int.reduceMul, Nat.reduceLeDiff, Tryd.f24]
theorem y04 (A : Key → Option O) (cs : List C) : j7 (X0 gl) 25 [.d (.slice 32 y5) (.slice cs)] A (.ts 32 y5 cs) [] := by
 refine q46 (n := 8) (ok0 gl) Tryd.func25 rfl rfl (by simp) ?_
 intro A' hA
 refine U3 (q0x (ok0 gl) [] (by kernel_rfl) ?_)
 simp only [go_sem, ↓q1s, ↓q1t, ↓q1u, ↓q1v, ↓q1r, ↓q0D, ↓q0E, ↓q0G, ↓q0F, reduceCtorEq, Nat.reduceEqDiff, ↓reduceIte, Nat.reduceAdd, Nat.reduceSub, Nat.reduceLT, Nat.reduceMul, Nat.reduceBEq, Int.reduceLE, Int.reduceLT, Int.reduceAdd, Int.reduceSub, Int.reduceToNat, Int.reduceNeg, Int.reduceMul, Nat.reduceLeDiff]
 refine U3 (U3 (q0x (ok0 gl) [] (by kernel_rfl) ?_))
 cases cs with
 | nil =>
  simp only [go_sem, ↓q1s, ↓q1t, ↓q1u, ↓q1v, ↓q1r, ↓q0D, ↓q0E, ↓q0G, ↓q0F, reduceCtorEq, Nat.reduceEqDiff, ↓reduceIte, Nat.reduceAdd, Nat.reduceSub, Nat.reduceLT, Nat.reduceMul, Nat.reduceBEq, Int.reduceLE, Int.reduceLT, Int.reduceAdd, Int.reduceSub, Int.reduceToNat, Int.reduceNeg, Int.reduceMul, Nat.reduceLeDiff]
  refine z3o rfl ?_ (q69 ?_)
  ·refine U3 (q0x (ok0 gl) [] (by kernel_rfl) ?_)
   simp only [go_sem, ↓q1s, ↓q1t, ↓q1u, ↓q1v, ↓q1r, ↓q0D, ↓q0E, ↓q0G, ↓q0F, reduceCtorEq, Nat.reduceEqDiff, ↓reduceIte, Nat.reduceAdd, Nat.reduceSub, Nat.reduceLT, Nat.reduceMul, Nat.reduceBEq, Int.reduceLE, Int.reduceLT, Int.reduceAdd, Int.reduceSub, Int.reduceToNat, Int.reduceNeg, Int.reduceMul, Nat.reduceLeDiff]
   refine q7Q ⟨.inr rfl, ?_⟩
   simp only [q4G, go_sem, ↓q1s, ↓q1t, ↓q1u, ↓q1v, ↓q1r, ↓q0D, ↓q0E, ↓q0G, ↓q0F, reduceCtorEq, Nat.reduceEqDiff, ↓reduceIte, Nat.reduceAdd, Nat.reduceSub, Nat.reduceLT, Nat.reduceMul, Nat.reduceBEq, Int.reduceLE, Int.reduceLT, Int.reduceAdd, Int.reduceSub, Int.reduceToNat, Int.reduceNeg, Int.reduceMul, Nat.reduceLeDiff, Tryd.f25]
  ·refine U3 (q0x (ok0 gl) [] (by kernel_rfl) ?_)
   simp only [go_sem, ↓q1s, ↓q1t, ↓q1u, ↓q1v, ↓q1r, ↓q0D, ↓q0E, ↓q0G, ↓q0F, reduceCtorEq, Nat.reduceEqDiff, ↓reduceIte, Nat.reduceAdd, Nat.reduceSub, Nat.reduceLT, Nat.reduceMul, Nat.reduceBEq, Int.reduceLE, Int.reduceLT, Int.reduceAdd, Int.reduceSub, Int.reduceToNat, Int.reduceNeg, Int.reduceMul, Nat.reduceLeDiff]
   refine q7Q ⟨.inr rfl, ?_⟩
   simp only [q4G, go_sem, ↓q1s, ↓q1t, ↓q1u, ↓q1v, ↓q1r, ↓q0D, ↓q0E, ↓q0G, ↓q0F, reduceCtorEq, Nat.reduceEqDiff, ↓reduceIte, Nat.reduceAdd, Nat.reduceSub, Nat.reduceLT, Nat.reduceMul, Nat.reduceBEq, Int.reduceLE, Int.reduceLT, Int.reduceAdd, Int.reduceSub, Int.reduceToNat, Int.reduceNeg, Int.reduceMul, Nat.reduceLeDiff, Tryd.f25]
 | cons c cs =>
  simp only [go_sem, ↓q1s, ↓q1t, ↓q1u, ↓q1v, ↓q1r, ↓q0D, ↓q0E, ↓q0G, ↓q0F, reduceCtorEq, Nat.reduceEqDiff, ↓reduceIte, Nat.reduceAdd, Nat.reduceSub, Nat.reduceLT, Nat.reduceMul, Nat.reduceBEq, Int.reduceLE, Int.reduceLT, Int.reduceAdd, Int.reduceSub, Int.reduceToNat, Int.reduceNeg, Int.reduceMul, Nat.reduceLeDiff]
  refine y2E _ rfl (fun h => by simp at h) (fun _ => q69 ?_)
  refine U3 (q0x (ok0 gl) [] (by kernel_rfl) ?_)
  simp only [go_sem, ↓q1s, ↓q1t, ↓q1u, ↓q1v, ↓q1r, ↓q0D, ↓q0E, ↓q0G, ↓q0F, reduceCtorEq, Nat.reduceEqDiff, ↓reduceIte, Nat.reduceAdd, Nat.reduceSub, Nat.reduceLT, Nat.reduceMul, Nat.reduceBEq, Int.reduceLE, Int.reduceLT, Int.reduceAdd, Int.reduceSub, Int.reduceToNat, Int.reduceNeg, Int.reduceMul, Nat.reduceLeDiff]
  refine q7Q ⟨.inr rfl, ?_⟩
  simp only [q4G, go_sem, ↓q1s, ↓q1t, ↓q1u, ↓q1v, ↓q1r, ↓q0D, ↓q0E, ↓q0G, ↓q0F, reduceCtorEq, Nat.reduceEqDiff, ↓reduceIte, Nat.reduceAdd, Nat.reduceSub, Nat.reduceLT, Nat.reduceMul, Nat.reduceBEq, Int.reduceLE, Int.reduceLT, Int.reduceAdd, Int.reduceSub, Int.reduceToNat, Int.reduceNeg, Int.reduceMul, Nat.reduceLeDiff, Tryd.f25]
end Go.Proofs.YtefppgmopnnphaaDoor
namespace Go.Proofs.YtefppgmopnnphaaDoor
open Go Go.E
set_option maxRecDepth 10000
set_option linter.unusedSimpArgs false
variable {gl : Nat → Option (Ty × C)}
theorem y32 (a b : C) : q8o (X0 gl) 45 [.d (.int .u64) a, .d (.int .u64) b, .d (.int .u64) (.int 0)] (.tup [.d (.int .u64) (.int ((a.toInt + b.toInt) % 18446744073709551616)), .d (.int .u64) (.int ((a.toInt + b.toInt) / 18446744073709551616))]) := by
 intro Γ w args hl hr
 have hs : args.size = 3 := hl.symm
 obtain ⟨e1, _, l1, m1⟩ := o8 (hr 0 _ _ rfl (Array.getElem?_eq_getElem (by omega)))
 obtain ⟨e2, _, l2, m2⟩ := o8 (hr 1 _ _ rfl (Array.getElem?_eq_getElem (by omega)))
 obtain ⟨e3, _, _, _⟩ := o8 (hr 2 _ _ rfl (Array.getElem?_eq_getElem (by omega)))
 have ea : args = #[.int .u64 a.toInt, .int .u64 b.toInt, .int .u64 0] := by
  apply Array.ext
  ·simpa using hs
  ·intro i h1 h2
   match i with
   | 0 => simpa using e1
   | 1 => simpa using e2
   | 2 => simpa [C.toInt] using e3
   | i + 3 => omega
 have z : IntKind.u64.min = 0 := by decide
 have z' : IntKind.u64.max = 18446744073709551615 := by decide
 refine ⟨.tuple #[.int .u64 ((a.toInt + b.toInt) % 18446744073709551616), .int .u64 ((a.toInt + b.toInt) / 18446744073709551616)], ?_, #[_, _], rfl, ?_⟩
 ·have hrun := run_callFunc_extern (P := (X0 gl).P) (f := 45) (fn := Tryd.f45) (e := add64Entry) Tryd.func45 (by decide) rfl (by kernel_rfl) (by kernel_rfl) args w
  rw [hrun, ea, run_add64 _ _ _ (by omega) (by omega) (by omega) (by omega)]
  simp
 ·refine q4H rfl fun i x u hx hu => ?_
  match i with
  | 0 => simp at hx hu; subst hx; subst hu; exact ⟨rfl, v8 (by omega) (by omega)⟩
  | 1 => simp at hx hu; subst hx; subst hu; exact ⟨rfl, v8 (by omega) (by omega)⟩
  | i + 2 => simp at hx
end Go.Proofs.YtefppgmopnnphaaDoor
namespace Go.Proofs.YtefppgmopnnphaaDoor
open Go Go.E
set_option maxRecDepth 100000
def z0a : List V → Option V := fun xs => match xs with
 | [.d .str s, .d (.int .u8) b] => some (.d (.int .i64) (.int (Go.Lib.indexByte s.toStr b.toInt.toNat.toUInt8)))
 | _ => none
def y00 : List V → Option V := fun xs => match xs with
 | [.d .str s, .d (.int .u8) b] => some (.d (.int .i64) (.int (Go.Lib.countByte s.toStr b.toInt.toNat.toUInt8 : Nat)))
 | _ => none
theorem z1J (c : UInt8) : ∀ l : List UInt8, Go.Lib.indexByte l c < (l.length : Int) ∨ l = []
 | [] => .inr rfl
 | b :: l => by
  left
  unfold Go.Lib.indexByte
  simp only [List.length_cons]
  rcases z1J c l with h | h
  ·split
   ·omega
   ·split <;> omega
  ·subst h
   split
   ·simp
   ·simp [Go.Lib.indexByte]
theorem z8r (gl : Nat → Option (Ty × C)) (xs : List V) (v : V) (h : z0a xs = some v) : q8o (X0 gl) 105 xs v := by
 unfold z0a at h
 split at h
 ·rename_i s b
  cases h
  intro Γ w args hl hr
  have hs : args.size = 2 := hl.symm
  obtain ⟨e1, _, h1⟩ := X5 (hr 0 _ _ rfl (Array.getElem?_eq_getElem (by omega)))
  obtain ⟨e2, _, _, _⟩ := o8 (hr 1 _ _ rfl (Array.getElem?_eq_getElem (by omega)))
  have ea : args = #[.string ⟨s.toStr.toArray⟩, .int .u8 b.toInt] := by
   apply Array.ext
   ·simpa using hs
   ·intro i h1 h2
    match i with
    | 0 => simpa using e1
    | 1 => simpa using e2
    | i + 2 => omega
  refine ⟨.int .i64 (Go.Lib.indexByte s.toStr b.toInt.toNat.toUInt8), ?_, ?_⟩
  ·have hrun := run_callFunc_extern (P := (X0 gl).P) (f := 105) (fn := Tryd.f105) (e := Extern.BytealgIndexByte.indexByte) Tryd.func105 (by decide) rfl (by kernel_rfl) (by kernel_rfl) args w
   rw [hrun, ea, Go.Lib.run_indexByteString]
   simp
  ·have m1 : IntKind.i64.min = -9223372036854775808 := by decide
   have m2 : IntKind.i64.max = 9223372036854775807 := by decide
   have q1 := Go.Lib.indexByte_ge s.toStr b.toInt.toNat.toUInt8
   have q2 : Go.Lib.indexByte s.toStr b.toInt.toNat.toUInt8 ≤ 140737488355328 := by
    rcases z1J b.toInt.toNat.toUInt8 s.toStr with h | h
    ·omega
    ·rw [h]; simp [Go.Lib.indexByte]
   exact v8 (by omega) (by omega)
 ·cases h
theorem y5B (gl : Nat → Option (Ty × C)) (xs : List V) (v : V) (h : y00 xs = some v) : q8o (X0 gl) 87 xs v := by
 unfold y00 at h
 split at h
 ·rename_i s b
  cases h
  intro Γ w args hl hr
  have hs : args.size = 2 := hl.symm
  obtain ⟨e1, _, h1⟩ := X5 (hr 0 _ _ rfl (Array.getElem?_eq_getElem (by omega)))
  obtain ⟨e2, _, _, _⟩ := o8 (hr 1 _ _ rfl (Array.getElem?_eq_getElem (by omega)))
  have ea : args = #[.string ⟨s.toStr.toArray⟩, .int .u8 b.toInt] := by
   apply Array.ext
   ·simpa using hs
   ·intro i h1 h2
    match i with
    | 0 => simpa using e1
    | 1 => simpa using e2
    | i + 2 => omega
  refine ⟨.int .i64 (Go.Lib.countByte s.toStr b.toInt.toNat.toUInt8 : Nat), ?_, ?_⟩
  ·have hrun := run_callFunc_extern (P := (X0 gl).P) (f := 87) (fn := Tryd.f87) (e := Extern.BytealgCount.count) Tryd.func87 (by decide) rfl (by kernel_rfl) (by kernel_rfl) args w
   rw [hrun, ea, Go.Lib.run_countString]
   simp
  ·have m1 : IntKind.i64.min = -9223372036854775808 := by decide
   have m2 : IntKind.i64.max = 9223372036854775807 := by decide
   have q : Go.Lib.countByte s.toStr b.toInt.toNat.toUInt8 ≤ s.toStr.length := List.count_le_length
   exact v8 (by omega) (by omega)
 ·cases h
def q6S : List (Nat × Ty × C) → Nat → Option (Ty × C)
 | [], _ => none
 | (i, x) :: l, g => bif Nat.beq g i then some x else q6S l g
theorem z7w {gl : Nat → Option (Ty × C)} : ∀ {l : List (Nat × Ty × C)}, l.map (fun p => gl p.1) = l.map (fun p => some p.2) → ∀ g x, q6S l g = some x → gl g = some x
 | [], _, g, x, h => by cases h
 | (i, y) :: l, h0, g, x, h => by
  simp only [List.map_cons, List.cons.injEq] at h0
  simp only [q6S] at h
  cases hb : Nat.beq g i with
  | true =>
   rw [hb, cond_true] at h
   cases h
   rw [Nat.eq_of_beq_eq_true hb]; exact h0.1
  | false =>
   rw [hb, cond_false] at h
   exact z7w h0.2 g x h
def y6P : List (Nat × Ty × C) :=
 (0, .arr 20 (.int .u64), .agg (Go.Lib.pow10Tab.map C.int)) ::
 (6, .iface, .bool true) ::
 (7, .iface, .bool true) ::
 []
def gl0 : Nat → Option (Ty × C) := q6S y6P
theorem y8x (gl : Nat → Option (Ty × C)) (h : y6P.map (fun p => gl p.1) = y6P.map (fun p => some p.2)) : ∀ g x, gl0 g = some x → gl g = some x := z7w h
def y1f : List V → Option V := fun xs => match xs with
 | [.d (.int .u64) a, .d (.int .u64) b, .d (.int .u64) (.int c)] => if c = 0 then some (.tup [.d (.int .u64) (.int ((a.toInt + b.toInt) % 18446744073709551616)), .d (.int .u64) (.int ((a.toInt + b.toInt) / 18446744073709551616))]) else none
 | _ => none
def y60 : List (Nat × (List V → Option V)) := []
 ++ [(45, y1f)]
 ++ [(105, z0a)]
 ++ [(87, y00)]
def J9 : q1P := z2A y60
theorem y8D (gl : Nat → Option (Ty × C)) : q6q (X0 gl) y60 := by
 unfold y60
 repeat' refine q6q.append ?_ ⟨?_, trivial⟩
 ·exact trivial
 ·intro xs v h
  have h : y1f xs = some v := h
  show q8o (X0 gl) 45 xs v
  unfold y1f at h
  split at h
  ·simp only [Option.ite_none_right_eq_some, Option.some.injEq] at h
   obtain ⟨rfl, rfl⟩ := h
   exact y32 _ _
  ·cases h
 ·exact z8r gl
 ·exact y5B gl
theorem y2t (gl : Nat → Option (Ty × C)) : q34 (X0 gl) J9 := z5o (y8D gl)
def noX : FuncId → Nat → List (Nat × Nat) := fun _ _ => []
noncomputable def z18 (_ : Nat) {R : Type} : OvG R := z5H 32 r9
theorem z5I (N : Nat) {R : Type} : GOk (X0 gl0) 24 (z18 N (R := R)) := z7U fun A cs => y3Y A cs
noncomputable def q8R (_ : Nat) {R : Type} : OvG R := z5H 32 y5
theorem z19 (N : Nat) {R : Type} : GOk (X0 gl0) 25 (q8R N (R := R)) := z7U fun A cs => y04 A cs
end Go.Proofs.YtefppgmopnnphaaDoor
namespace Go.Proofs.YtefppgmopnnphaaDoor
open Go Go.E Go.RowKit
set_option maxRecDepth 100000
set_option maxHeartbeats 4000000
set_option linter.unusedSimpArgs false
def q38 (b : UInt8) : Bool := (decide (97 ≤ b.toNat) && decide (b.toNat ≤ 122)) || (decide (48 ≤ b.toNat) && decide (b.toNat ≤ 57)) || b.toNat == 46
def q0P (l : List UInt8) : Bool := decide (1 ≤ l.length) && decide (l.length ≤ 20) && l.all q38
theorem y8K (s : ByteArray) (pos : Nat) (h : pos < s.size) : s.data.toList.drop pos = (s[pos]'h) :: s.data.toList.drop (pos + 1) := by
 have h2 : pos < s.data.toList.length := by rw [Array.length_toList]; exact h
 rw [List.drop_eq_getElem_cons h2]
 congr 1
theorem y4S (s : ByteArray) (w : World) : Calls Tryd.prog 28 #[.string s] w fun e w' => e = .returned (.bool (q0P s.data.toList)) ∧ (w' = w ∨ ∃ pos, w' = w.iter s pos) := by
 go_enter Tryd.func28, Tryd.ntmps28
 go_wp2
 ·rename_i h1 h2
  go_ret
  refine ⟨?_, .inl rfl⟩
  have : q0P s.data.toList = false := by
   unfold q0P
   rw [Array.length_toList]
   have e : s.data.size = s.size := rfl
   rw [e]
   rcases h2 with h2 | h2
   ·omega
   ·rw [decide_eq_false (show ¬ s.size ≤ 20 by omega)]; simp
  rw [this]
  rfl
 ·have h2 : 1 ≤ (s.size : Int) ∧ (s.size : Int) ≤ 20 := by assumption
  have hlen : q0P s.data.toList = s.data.toList.all q38 := by
   unfold q0P
   rw [Array.length_toList]
   have e : s.data.size = s.size := rfl
   rw [e, decide_eq_true (show 1 ≤ s.size by omega), decide_eq_true (show s.size ≤ 20 by omega)]; simp
  have hlen0 : (s.data.toList.drop 0).all q38 = q0P s.data.toList := hlen.symm
  clear hlen
  generalize hres : q0P s.data.toList = res at hlen0
  go_loopw [4] (fun _ w' => ∃ (pos : Nat), w' = w.iter s pos ∧ (s.data.toList.drop pos).all q38 = res) (fun _ w' => s.size - w'.iterPos w.heap.size)
  case atStart => exact ⟨0, rfl, hlen0⟩
  case round =>
   obtain ⟨pos, rfl, hc⟩ := hrel
   by_cases hp : pos < s.size
   ·have hdec : ∃ (r wd : Nat), 1 ≤ wd ∧ ((r = (s[pos]'hp).toNat ∧ wd = 1) ∨ (128 ≤ r ∧ q38 (s[pos]'hp) = false)) ∧ ∀ ty, (Instr.next (.pointer (some ⟨w.heap.size, 0, none⟩)) true ty).run Tryd.prog (w.iter s pos) = .ok (.tuple #[.bool true, .int .i64 pos, .int .i32 (r : Int)]) (w.iter s (pos + wd)) := by
     by_cases ha : (s[pos]'hp).toNat < 128
     ·refine ⟨(s[pos]'hp).toNat, 1, Nat.le_refl _, .inl ⟨rfl, rfl⟩, fun ty => ?_⟩
      exact run_next_ascii w s pos ty hp ha
     ·have q := decode_high s pos hp (by omega)
      refine ⟨(Utf8.decode s pos).1, (Utf8.decode s pos).2, q.2, .inr ⟨q.1, ?_⟩, fun ty => run_next_any w s pos ty hp⟩
      unfold q38
      rw [decide_eq_false (show ¬ (s[pos]'hp).toNat ≤ 122 by omega), decide_eq_false (show ¬ (s[pos]'hp).toNat ≤ 57 by omega), show ((s[pos]'hp).toNat == 46) = false from by simp; omega]
      simp
    rw [y8K s pos hp, List.all_cons] at hc
    generalize (s[pos]'hp) = b0 at hc hdec
    obtain ⟨r, wd, hwd, hr, hnx⟩ := hdec
    clear h2 hlen0
    have hk : q38 b0 = true ↔ ((97 ≤ (r : Int) ∧ (r : Int) ≤ 122) ∨ (48 ≤ (r : Int) ∧ (r : Int) ≤ 57) ∨ (r : Int) = 46) := by
     rcases hr with ⟨rfl, _⟩ | ⟨h1, h2⟩
     ·unfold q38
      simp
      omega
     ·rw [h2]
      simp
      omega
    have hw1 : q38 b0 = true → wd = 1 := fun h => by
     rcases hr with ⟨_, h1⟩ | ⟨_, h2⟩
     ·exact h1
     ·rw [h] at h2; cases h2
    clear hr
    go_wp2
    all_goals (first
     | (go_ret
        have hb : q38 b0 = false := by
         rw [← Bool.not_eq_true, hk]
         try simp only [bne_iff_ne, ne_eq, bne_eq_false_iff_eq] at *
         omega
        rw [hb, Bool.false_and] at hc
        refine ⟨?_, .inr ⟨_, rfl⟩⟩
        (first | rw [hres, ← hc] | rw [← hc])
        rfl)
     | (have hb : q38 b0 = true := hk.2 (by
       try simp only [bne_iff_ne, ne_eq, bne_eq_false_iff_eq] at *
       omega)
        have := hw1 hb
        subst this
        rw [hb, Bool.true_and] at hc
        refine ⟨⟨pos + 1, rfl, hc⟩, ?_⟩
        simp
        omega))
   ·have hnx : ∀ ty, (Instr.next (.pointer (some ⟨w.heap.size, 0, none⟩)) true ty).run Tryd.prog (w.iter s pos) = _ := fun ty => run_next_end w s pos ty hp
    clear h2 hlen0
    go_wp2
    go_ret
    rw [List.drop_eq_nil_of_le (by rw [Array.length_toList]; exact Nat.le_of_not_lt hp)] at hc
    refine ⟨?_, .inr ⟨_, rfl⟩⟩
    (first | rw [hres, ← hc] | rw [← hc])
    rfl
 ·rename_i h1
  go_ret
  refine ⟨?_, .inl rfl⟩
  have : q0P s.data.toList = false := by
   unfold q0P
   rw [Array.length_toList]
   have e : s.data.size = s.size := rfl
   rw [e, decide_eq_false (show ¬ 1 ≤ s.size by omega)]; simp
  rw [this]
  rfl
theorem y6Y (w : World) (s : ByteArray) (pos : Nat) : Ext w (w.iter s pos) := by
 refine ⟨?_, fun b hb => ?_, ?_⟩
 ·simp [World.iter]
 ·exact heap_alloc_old w _ hb
 ·rfl
theorem y1w (A : Key → Option O) (c : C) : j7 (X0 gl0) 28 [.d .str c] A (.d .bool (.bool (q0P c.toStr))) [] := by
 intro A' Γ w args hA' hg hc hn hr
 obtain ⟨cc, hok⟩ := hc
 have hs : args.size = 1 := hn.symm
 obtain ⟨e1, _, _⟩ := X5 (hr 0 _ _ rfl (Array.getElem?_eq_getElem (by omega)))
 have ea : args = #[.string ⟨c.toStr.toArray⟩] := by
  apply Array.ext
  ·simpa using hs
  ·intro i h1 h2
   match i with
   | 0 => simpa using e1
   | i + 1 => omega
 rw [ea]
 refine (y4S ⟨c.toStr.toArray⟩ w).mono fun e w' he => ?_
 obtain ⟨he1, he2⟩ := he
 have hext : Ext w w' := by
  rcases he2 with rfl | ⟨pos, rfl⟩
  ·exact .refl _
  ·exact y6Y _ _ _
 refine ⟨_, Γ, he1, .refl Γ, (cc.ext hext).congr (fun _ => rfl) (fun _ => rfl) (fun _ h => h), ?_⟩
 exact w8
noncomputable def q2V (_ : Nat) {R : Type} : OvG R := fun xs _ K => match xs with
 | [.d .str c] => K (.d .bool (.bool (q0P c.toStr))) []
 | _ => none
theorem q7A (N : Nat) {R : Type} : GOk (X0 gl0) 28 (q2V N (R := R)) := by
 intro xs A Kr r hr
 unfold q2V at hr
 split at hr
 ·exact ⟨_, _, y1w A _, hr⟩
 ·cases hr
end Go.Proofs.YtefppgmopnnphaaDoor
set_option linter.all false
namespace Go.Proofs
open Go.Shelf Go.Lib Go.RowKit
def Tryd.q3d : Go.Shelf.Ren := ⟨fun | 246 => 111 | 283 => 66 | 284 => 67 | 285 => 68 | 286 => 69 | 129 => 64 | 317 => 81 | 318 => 82 | 319 => 83 | 320 => 84 | 337 => 92 | 338 => 93 | n => n, fun | 2 => 2 | 3 => 3 | 9 => 9 | 4 => 4 | 171 => 129 | 0 => 0 | 53 => 23 | 37 => 88 | 5 => 5 | 173 => 131 | 212 => 144 | 51 => 124 | 20 => 20 | 213 => 145 | 46 => 111 | 232 => 160 | 233 => 161 | n => n, fun | 17 => 0 | 18 => 2 | 19 => 3 | n => n⟩
theorem Tryd.q7x : Go.Proofs.LaysM.n246 Tryd.prog Tryd.q3d := {
 mixed := by kernel_rfl
 f129 := Tryd.func64.trans (congrArg some (by kernel_rfl))
 f246 := Tryd.func111.trans (congrArg some (by kernel_rfl))
 f283 := Tryd.func66.trans (congrArg some (by kernel_rfl))
 f284 := Tryd.func67.trans (congrArg some (by kernel_rfl))
 f285 := Tryd.func68.trans (congrArg some (by kernel_rfl))
 f286 := Tryd.func69.trans (congrArg some (by kernel_rfl))
 f317 := Tryd.func81.trans (congrArg some (by kernel_rfl))
 f318 := Tryd.func82.trans (congrArg some (by kernel_rfl))
 f319 := Tryd.func83.trans (congrArg some (by kernel_rfl))
 f320 := Tryd.func84.trans (congrArg some (by kernel_rfl))
 f337 := Tryd.func92.trans (congrArg some (by kernel_rfl))
 f338 := Tryd.func93.trans (congrArg some (by kernel_rfl))
 t0 := Tryd.underlying0
 a0 := Tryd.isAgg0
 z0 := Tryd.sizeOf0
 v0 := Tryd.zeroValue0
 t2 := Tryd.underlying2
 a2 := Tryd.isAgg2
 z2 := Tryd.sizeOf2
 v2 := Tryd.zeroValue2
 t3 := Tryd.underlying3
 a3 := Tryd.isAgg3
 z3 := Tryd.sizeOf3
 v3 := Tryd.zeroValue3
 t4 := Tryd.underlying4
 a4 := Tryd.isAgg4
 z4 := Tryd.sizeOf4
 v4 := Tryd.zeroValue4
 t5 := Tryd.underlying5
 a5 := Tryd.isAgg5
 z5 := Tryd.sizeOf5
 v5 := Tryd.zeroValue5
 t9 := Tryd.underlying9
 a9 := Tryd.isAgg9
 z9 := Tryd.sizeOf9
 v9 := Tryd.zeroValue9
 t20 := Tryd.underlying20
 a20 := Tryd.isAgg20
 z20 := Tryd.sizeOf20
 v20 := Tryd.zeroValue20
 t37 := Tryd.underlying88
 a37 := Tryd.isAgg88
 z37 := Tryd.sizeOf88
 v37 := Tryd.zeroValue88
 t46 := Tryd.underlying111
 a46 := Tryd.isAgg111
 z46 := Tryd.sizeOf111
 v46 := Tryd.zeroValue111
 t51 := Tryd.underlying124
 a51 := Tryd.isAgg124
 z51 := Tryd.sizeOf124
 v51 := Tryd.zeroValue124
 t53 := Tryd.underlying23
 a53 := Tryd.isAgg23
 z53 := Tryd.sizeOf23
 v53 := Tryd.zeroValue23
 t171 := Tryd.underlying129
 a171 := Tryd.isAgg129
 z171 := Tryd.sizeOf129
 v171 := Tryd.zeroValue129
 t173 := Tryd.underlying131
 a173 := Tryd.isAgg131
 z173 := Tryd.sizeOf131
 v173 := Tryd.zeroValue131
 t212 := Tryd.underlying144
 a212 := Tryd.isAgg144
 z212 := Tryd.sizeOf144
 v212 := Tryd.zeroValue144
 t213 := Tryd.underlying145
 a213 := Tryd.isAgg145
 z213 := Tryd.sizeOf145
 t232 := Tryd.underlying160
 a232 := Tryd.isAgg160
 z232 := Tryd.sizeOf160
 v232 := Tryd.zeroValue160
 t233 := Tryd.underlying161
 a233 := Tryd.isAgg161
 z233 := Tryd.sizeOf161
 v233 := Tryd.zeroValue161
 g17 := by kernel_rfl
 g18 := by kernel_rfl
 g19 := by kernel_rfl
 i0 := by kernel_rfl
 i2 := by kernel_rfl
 i3 := by kernel_rfl
 i4 := by kernel_rfl
 i5 := by kernel_rfl
 i9 := by kernel_rfl
 i20 := by kernel_rfl
 i37 := by kernel_rfl
 i46 := by kernel_rfl
 i51 := by kernel_rfl
 i53 := by kernel_rfl
 i171 := by kernel_rfl
 i173 := by kernel_rfl
 i212 := by kernel_rfl
 i232 := by kernel_rfl
 i233 := by kernel_rfl
 m17 := by kernel_rfl
 m18 := by kernel_rfl
 m19 := by kernel_rfl }
def Tryd.y0h : Go.Shelf.Ren := ⟨fun | 14 => 74 | 16 => 89 | 17 => 90 | 19 => 99 | 20 => 100 | 21 => 101 | 22 => 102 | 23 => 103 | 24 => 104 | 25 => 107 | 27 => 109 | 26 => 108 | 28 => 110 | 29 => 111 | 30 => 66 | 31 => 67 | 32 => 68 | 33 => 69 | 35 => 64 | 34 => 81 | 36 => 82 | 37 => 83 | 38 => 84 | 39 => 92 | 40 => 93 | n => n, fun | 9 => 9 | 3 => 3 | 22 => 23 | 24 => 92 | 25 => 134 | 4 => 4 | 34 => 155 | 5 => 5 | 36 => 111 | 37 => 88 | 0 => 0 | 39 => 157 | 21 => 21 | 44 => 170 | 47 => 112 | 50 => 174 | 48 => 172 | 2 => 2 | 52 => 129 | 55 => 131 | 59 => 144 | 60 => 124 | 20 => 20 | 61 => 145 | 65 => 160 | 66 => 161 | 67 => 96 | n => n, fun | 0 => 6 | 1 => 7 | 2 => 0 | 3 => 2 | 4 => 3 | n => n⟩
theorem Tryd.z3N : Go.Proofs.LaysPu.n14 Tryd.prog Tryd.y0h := {
 mixed := by kernel_rfl
 f14 := Tryd.func74.trans (congrArg some (by kernel_rfl))
 f16 := Tryd.func89.trans (congrArg some (by kernel_rfl))
 f17 := Tryd.func90.trans (congrArg some (by kernel_rfl))
 f19 := Tryd.func99.trans (congrArg some (by kernel_rfl))
 f20 := Tryd.func100.trans (congrArg some (by kernel_rfl))
 f21 := Tryd.func101.trans (congrArg some (by kernel_rfl))
 f22 := Tryd.func102.trans (congrArg some (by kernel_rfl))
 f23 := Tryd.func103.trans (congrArg some (by kernel_rfl))
 f24 := Tryd.func104.trans (congrArg some (by kernel_rfl))
 f25 := Tryd.func107.trans (congrArg some (by kernel_rfl))
 f26 := Tryd.func108.trans (congrArg some (by kernel_rfl))
 f27 := Tryd.func109.trans (congrArg some (by kernel_rfl))
 f28 := Tryd.func110.trans (congrArg some (by kernel_rfl))
 f29 := Tryd.func111.trans (congrArg some (by kernel_rfl))
 f30 := Tryd.func66.trans (congrArg some (by kernel_rfl))
 f31 := Tryd.func67.trans (congrArg some (by kernel_rfl))
 f32 := Tryd.func68.trans (congrArg some (by kernel_rfl))
 f33 := Tryd.func69.trans (congrArg some (by kernel_rfl))
 f34 := Tryd.func81.trans (congrArg some (by kernel_rfl))
 f35 := Tryd.func64.trans (congrArg some (by kernel_rfl))
 f36 := Tryd.func82.trans (congrArg some (by kernel_rfl))
 f37 := Tryd.func83.trans (congrArg some (by kernel_rfl))
 f38 := Tryd.func84.trans (congrArg some (by kernel_rfl))
 f39 := Tryd.func92.trans (congrArg some (by kernel_rfl))
 f40 := Tryd.func93.trans (congrArg some (by kernel_rfl))
 t0 := Tryd.underlying0
 a0 := Tryd.isAgg0
 z0 := Tryd.sizeOf0
 v0 := Tryd.zeroValue0
 i0 := by kernel_rfl
 t2 := Tryd.underlying2
 a2 := Tryd.isAgg2
 z2 := Tryd.sizeOf2
 v2 := Tryd.zeroValue2
 i2 := by kernel_rfl
 t3 := Tryd.underlying3
 a3 := Tryd.isAgg3
 z3 := Tryd.sizeOf3
 v3 := Tryd.zeroValue3
 i3 := by kernel_rfl
 t4 := Tryd.underlying4
 a4 := Tryd.isAgg4
 z4 := Tryd.sizeOf4
 v4 := Tryd.zeroValue4
 i4 := by kernel_rfl
 t5 := Tryd.underlying5
 a5 := Tryd.isAgg5
 z5 := Tryd.sizeOf5
 v5 := Tryd.zeroValue5
 i5 := by kernel_rfl
 t9 := Tryd.underlying9
 a9 := Tryd.isAgg9
 z9 := Tryd.sizeOf9
 v9 := Tryd.zeroValue9
 i9 := by kernel_rfl
 t20 := Tryd.underlying20
 a20 := Tryd.isAgg20
 z20 := Tryd.sizeOf20
 v20 := Tryd.zeroValue20
 i20 := by kernel_rfl
 t21 := Tryd.underlying21
 a21 := Tryd.isAgg21
 z21 := Tryd.sizeOf21
 v21 := Tryd.zeroValue21
 i21 := by kernel_rfl
 t22 := Tryd.underlying23
 a22 := Tryd.isAgg23
 z22 := Tryd.sizeOf23
 v22 := Tryd.zeroValue23
 i22 := by kernel_rfl
 t24 := Tryd.underlying92
 a24 := Tryd.isAgg92
 z24 := Tryd.sizeOf92
 v24 := Tryd.zeroValue92
 i24 := by kernel_rfl
 t25 := Tryd.underlying134
 a25 := Tryd.isAgg134
 z25 := Tryd.sizeOf134
 v25 := Tryd.zeroValue134
 i25 := by kernel_rfl
 t34 := Tryd.underlying155
 a34 := Tryd.isAgg155
 z34 := Tryd.sizeOf155
 v34 := Tryd.zeroValue155
 i34 := by kernel_rfl
 c34 := by kernel_rfl
 t36 := Tryd.underlying111
 a36 := Tryd.isAgg111
 z36 := Tryd.sizeOf111
 v36 := Tryd.zeroValue111
 i36 := by kernel_rfl
 t37 := Tryd.underlying88
 a37 := Tryd.isAgg88
 z37 := Tryd.sizeOf88
 v37 := Tryd.zeroValue88
 i37 := by kernel_rfl
 t39 := Tryd.underlying157
 a39 := Tryd.isAgg157
 z39 := Tryd.sizeOf157
 v39 := Tryd.zeroValue157
 i39 := by kernel_rfl
 t44 := Tryd.underlying170
 a44 := Tryd.isAgg170
 z44 := Tryd.sizeOf170
 v44 := Tryd.zeroValue170
 i44 := by kernel_rfl
 t47 := Tryd.underlying112
 a47 := Tryd.isAgg112
 z47 := Tryd.sizeOf112
 v47 := Tryd.zeroValue112
 i47 := by kernel_rfl
 t48 := Tryd.underlying172
 a48 := Tryd.isAgg172
 z48 := Tryd.sizeOf172
 v48 := Tryd.zeroValue172
 i48 := by kernel_rfl
 t50 := Tryd.underlying174
 a50 := Tryd.isAgg174
 z50 := Tryd.sizeOf174
 v50 := Tryd.zeroValue174
 i50 := by kernel_rfl
 t52 := Tryd.underlying129
 a52 := Tryd.isAgg129
 z52 := Tryd.sizeOf129
 v52 := Tryd.zeroValue129
 i52 := by kernel_rfl
 t55 := Tryd.underlying131
 a55 := Tryd.isAgg131
 z55 := Tryd.sizeOf131
 v55 := Tryd.zeroValue131
 i55 := by kernel_rfl
 t59 := Tryd.underlying144
 a59 := Tryd.isAgg144
 z59 := Tryd.sizeOf144
 v59 := Tryd.zeroValue144
 i59 := by kernel_rfl
 t60 := Tryd.underlying124
 a60 := Tryd.isAgg124
 z60 := Tryd.sizeOf124
 v60 := Tryd.zeroValue124
 i60 := by kernel_rfl
 t61 := Tryd.underlying145
 a61 := Tryd.isAgg145
 z61 := Tryd.sizeOf145
 t65 := Tryd.underlying160
 a65 := Tryd.isAgg160
 z65 := Tryd.sizeOf160
 v65 := Tryd.zeroValue160
 i65 := by kernel_rfl
 t66 := Tryd.underlying161
 a66 := Tryd.isAgg161
 z66 := Tryd.sizeOf161
 v66 := Tryd.zeroValue161
 i66 := by kernel_rfl
 t67 := Tryd.underlying96
 a67 := Tryd.isAgg96
 z67 := Tryd.sizeOf96
 v67 := Tryd.zeroValue96
 i67 := by kernel_rfl
 g0 := by kernel_rfl
 m0 := by kernel_rfl
 g1 := by kernel_rfl
 m1 := by kernel_rfl
 g2 := by kernel_rfl
 m2 := by kernel_rfl
 g3 := by kernel_rfl
 m3 := by kernel_rfl
 g4 := by kernel_rfl
 m4 := by kernel_rfl }
theorem Tryd.strconv_ParseUint_10_at64_ok (s : ByteArray) (hmax : s.size ≤ 9223372036854775806) (u : Nat) (h : Lib.parseUintB 64 s.data.toList = .ok u) (w : World) :
  Calls Tryd.prog 74 #[.string s, .int .i64 10, .int .i64 64] w fun e w' => e = .returned (.tuple #[.int .u64 u, .nilIface]) ∧ (w' = w ∨ w' = Lib.bytesWorld w 5 s) := Any.strconv_ParseUint_10_at64_ok Tryd.z3N s hmax u h w
theorem Tryd.strconv_ParseUint_10_at64_range (s : ByteArray) (hlim : s.size ≤ 281474976710656) (h : Lib.parseUintB 64 s.data.toList = .range) (ev : Value) (w : World) (hv : w.cell? ⟨7, 0, none⟩ = some ev) (hev : ev = .nilIface ∨ ∃ te pe, ev = .iface te pe) :
  Calls Tryd.prog 74 #[.string s, .int .i64 10, .int .i64 64] w fun e w' => ∃ N, e = .returned (.tuple #[.int .u64 18446744073709551615, .iface 157 (.pointer (some ⟨N, 0, none⟩))]) ∧ w.heap.size ≤ N ∧ w'.heap[N]? = some (.cells #[.string ⟨#[80, 97, 114, 115, 101, 85, 105, 110, 116]⟩, .string s, ev] 170 (0, 0)) ∧ Below w.heap.size w w' := Any.strconv_ParseUint_10_at64_range Tryd.z3N s hlim h ev w hv hev
def Tryd.y1z : Go.Shelf.Ren := ⟨fun | 143 => 73 | 219 => 88 | 217 => 95 | 225 => 96 | 224 => 97 | 267 => 98 | 266 => 105 | 314 => 106 | n => n, fun | 9 => 9 | 3 => 3 | 4 => 4 | 5 => 5 | 46 => 111 | 146 => 166 | 51 => 124 | n => n, fun | 1 => 1 | n => n⟩
theorem Tryd.y8t : Go.Proofs.Lays.n143 Tryd.prog Tryd.y1z := {
 mixed := by kernel_rfl
 f143 := Tryd.func73.trans (congrArg some (by kernel_rfl))
 f217 := Tryd.func95.trans (congrArg some (by kernel_rfl))
 f219 := Tryd.func88.trans (congrArg some (by kernel_rfl))
 f224 := Tryd.func97.trans (congrArg some (by kernel_rfl))
 f225 := Tryd.func96.trans (congrArg some (by kernel_rfl))
 f266 := Tryd.func105.trans (congrArg some (by kernel_rfl))
 f267 := Tryd.func98.trans (congrArg some (by kernel_rfl))
 f314 := Tryd.func106.trans (congrArg some (by kernel_rfl))
 t3 := Tryd.underlying3
 a3 := Tryd.isAgg3
 z3 := Tryd.sizeOf3
 v3 := Tryd.zeroValue3
 t4 := Tryd.underlying4
 a4 := Tryd.isAgg4
 z4 := Tryd.sizeOf4
 v4 := Tryd.zeroValue4
 t5 := Tryd.underlying5
 a5 := Tryd.isAgg5
 z5 := Tryd.sizeOf5
 v5 := Tryd.zeroValue5
 t9 := Tryd.underlying9
 a9 := Tryd.isAgg9
 z9 := Tryd.sizeOf9
 v9 := Tryd.zeroValue9
 t46 := Tryd.underlying111
 a46 := Tryd.isAgg111
 z46 := Tryd.sizeOf111
 v46 := Tryd.zeroValue111
 t51 := Tryd.underlying124
 a51 := Tryd.isAgg124
 z51 := Tryd.sizeOf124
 v51 := Tryd.zeroValue124
 t146 := Tryd.underlying166
 a146 := Tryd.isAgg166
 z146 := Tryd.sizeOf166
 v146 := Tryd.zeroValue166
 g1 := by kernel_rfl }
theorem Tryd.strings_Index_one (s : ByteArray) (c : UInt8) (w : World) :
  Calls Tryd.prog 73 #[.string s, .string ⟨#[c]⟩] w fun e w' => e = .returned (.int .i64 (Lib.indexByte s.data.toList c)) ∧ w' = w := Any.strings_Index_one Tryd.y8t s c w
def Tryd.y1A : Go.Shelf.Ren := ⟨fun | 138 => 72 | 195 => 85 | 218 => 87 | 143 => 73 | 219 => 88 | 217 => 95 | 225 => 96 | 224 => 97 | 267 => 98 | 266 => 105 | 314 => 106 | n => n, fun | 9 => 9 | 3 => 3 | 4 => 4 | 5 => 5 | 0 => 0 | 46 => 111 | 146 => 166 | 51 => 124 | n => n, fun | 1 => 1 | n => n⟩
theorem Tryd.y8u : Go.Proofs.Lays.n138 Tryd.prog Tryd.y1A := {
 mixed := by kernel_rfl
 f138 := Tryd.func72.trans (congrArg some (by kernel_rfl))
 f143 := Tryd.func73.trans (congrArg some (by kernel_rfl))
 f195 := Tryd.func85.trans (congrArg some (by kernel_rfl))
 f217 := Tryd.func95.trans (congrArg some (by kernel_rfl))
 f218 := Tryd.func87.trans (congrArg some (by kernel_rfl))
 f219 := Tryd.func88.trans (congrArg some (by kernel_rfl))
 f224 := Tryd.func97.trans (congrArg some (by kernel_rfl))
 f225 := Tryd.func96.trans (congrArg some (by kernel_rfl))
 f266 := Tryd.func105.trans (congrArg some (by kernel_rfl))
 f267 := Tryd.func98.trans (congrArg some (by kernel_rfl))
 f314 := Tryd.func106.trans (congrArg some (by kernel_rfl))
 t0 := Tryd.underlying0
 a0 := Tryd.isAgg0
 z0 := Tryd.sizeOf0
 v0 := Tryd.zeroValue0
 t3 := Tryd.underlying3
 a3 := Tryd.isAgg3
 z3 := Tryd.sizeOf3
 v3 := Tryd.zeroValue3
 t4 := Tryd.underlying4
 a4 := Tryd.isAgg4
 z4 := Tryd.sizeOf4
 v4 := Tryd.zeroValue4
 t5 := Tryd.underlying5
 a5 := Tryd.isAgg5
 z5 := Tryd.sizeOf5
 v5 := Tryd.zeroValue5
 t9 := Tryd.underlying9
 a9 := Tryd.isAgg9
 z9 := Tryd.sizeOf9
 v9 := Tryd.zeroValue9
 t46 := Tryd.underlying111
 a46 := Tryd.isAgg111
 z46 := Tryd.sizeOf111
 v46 := Tryd.zeroValue111
 t51 := Tryd.underlying124
 a51 := Tryd.isAgg124
 z51 := Tryd.sizeOf124
 v51 := Tryd.zeroValue124
 t146 := Tryd.underlying166
 a146 := Tryd.isAgg166
 z146 := Tryd.sizeOf166
 v146 := Tryd.zeroValue166
 g1 := by kernel_rfl }
theorem Tryd.strings_Count_one (s : ByteArray) (c : UInt8) (w : World) :
  Calls Tryd.prog 72 #[.string s, .string ⟨#[c]⟩] w fun e w' => e = .returned (.int .i64 (Lib.countByte s.data.toList c)) ∧ w' = w := Any.strings_Count_one Tryd.y8u s c w
def Tryd.z3b : Go.Shelf.Ren := ⟨fun | 146 => 41 | 221 => 52 | 268 => 71 | 138 => 72 | 143 => 73 | 195 => 85 | 197 => 86 | 218 => 87 | 219 => 88 | 260 => 94 | 217 => 95 | 225 => 96 | 224 => 97 | 267 => 98 | 266 => 105 | 314 => 106 | n => n, fun | 9 => 9 | 31 => 100 | 3 => 3 | 4 => 4 | 0 => 0 | 105 => 148 | 21 => 21 | 5 => 5 | 46 => 111 | 119 => 162 | 139 => 165 | 138 => 164 | 146 => 166 | 51 => 124 | n => n, fun | 1 => 1 | 3 => 4 | 4 => 5 | n => n⟩
theorem Tryd.y8s : Go.Proofs.Lays.n146 Tryd.prog Tryd.z3b := {
 mixed := by kernel_rfl
 f138 := Tryd.func72.trans (congrArg some (by kernel_rfl))
 f143 := Tryd.func73.trans (congrArg some (by kernel_rfl))
 f146 := Tryd.func41.trans (congrArg some (by kernel_rfl))
 f195 := Tryd.func85.trans (congrArg some (by kernel_rfl))
 f197 := Tryd.func86.trans (congrArg some (by kernel_rfl))
 f217 := Tryd.func95.trans (congrArg some (by kernel_rfl))
 f218 := Tryd.func87.trans (congrArg some (by kernel_rfl))
 f219 := Tryd.func88.trans (congrArg some (by kernel_rfl))
 f221 := Tryd.func52.trans (congrArg some (by kernel_rfl))
 f224 := Tryd.func97.trans (congrArg some (by kernel_rfl))
 f225 := Tryd.func96.trans (congrArg some (by kernel_rfl))
 f260 := Tryd.func94.trans (congrArg some (by kernel_rfl))
 f266 := Tryd.func105.trans (congrArg some (by kernel_rfl))
 f267 := Tryd.func98.trans (congrArg some (by kernel_rfl))
 f268 := Tryd.func71.trans (congrArg some (by kernel_rfl))
 f314 := Tryd.func106.trans (congrArg some (by kernel_rfl))
 t0 := Tryd.underlying0
 a0 := Tryd.isAgg0
 z0 := Tryd.sizeOf0
 v0 := Tryd.zeroValue0
 t3 := Tryd.underlying3
 a3 := Tryd.isAgg3
 z3 := Tryd.sizeOf3
 v3 := Tryd.zeroValue3
 t4 := Tryd.underlying4
 a4 := Tryd.isAgg4
 z4 := Tryd.sizeOf4
 v4 := Tryd.zeroValue4
 t5 := Tryd.underlying5
 a5 := Tryd.isAgg5
 z5 := Tryd.sizeOf5
 v5 := Tryd.zeroValue5
 t9 := Tryd.underlying9
 a9 := Tryd.isAgg9
 z9 := Tryd.sizeOf9
 v9 := Tryd.zeroValue9
 t21 := Tryd.underlying21
 a21 := Tryd.isAgg21
 z21 := Tryd.sizeOf21
 v21 := Tryd.zeroValue21
 t31 := Tryd.underlying100
 a31 := Tryd.isAgg100
 z31 := Tryd.sizeOf100
 v31 := Tryd.zeroValue100
 t46 := Tryd.underlying111
 a46 := Tryd.isAgg111
 z46 := Tryd.sizeOf111
 v46 := Tryd.zeroValue111
 t51 := Tryd.underlying124
 a51 := Tryd.isAgg124
 z51 := Tryd.sizeOf124
 v51 := Tryd.zeroValue124
 t105 := Tryd.underlying148
 a105 := Tryd.isAgg148
 z105 := Tryd.sizeOf148
 v105 := Tryd.zeroValue148
 t119 := Tryd.underlying162
 a119 := Tryd.isAgg162
 z119 := Tryd.sizeOf162
 t138 := Tryd.underlying164
 a138 := Tryd.isAgg164
 z138 := Tryd.sizeOf164
 v138 := Tryd.zeroValue164
 t139 := Tryd.underlying165
 a139 := Tryd.isAgg165
 z139 := Tryd.sizeOf165
 v139 := Tryd.zeroValue165
 t146 := Tryd.underlying166
 a146 := Tryd.isAgg166
 z146 := Tryd.sizeOf166
 v146 := Tryd.zeroValue166
 g1 := by kernel_rfl
 g3 := by kernel_rfl
 g4 := by kernel_rfl }
end Go.Proofs
namespace Go.Proofs.YtefppgmopnnphaaDoor
open Go Go.E Go.RowKit Go.Shelf Go.Sort Go.Lib
set_option maxRecDepth 100000
set_option maxHeartbeats 6400000
set_option linter.unusedSimpArgs false
theorem y1J (w : World) (T : TypeId) (nd : Nat) (hs : nd ≤ 24) : Holds (fun (b : UInt8) => Value.int .u8 (b.toNat : Int)) (w.alloc (.cells zeros24 T)) w.heap.size 0 (Array.replicate nd (0 : UInt8)) := fun j hj => by
 have hj' : j < nd := by simpa using hj
 refine ⟨?_, World.frozen?_alloc_new _ _ _ _⟩
 rw [World.cell?_alloc_new, zeros24_at _ (by omega), getElem!_pos _ j hj]
 simp
theorem y6W (w : World) (o : Obj) (dk : Array UInt8) (k : Nat) : ∃ os, (putRow (fun (b : UInt8) => Value.int .u8 (b.toNat : Int)) (w.alloc o) w.heap.size 0 dk).drewN k = grow (w.drewN k) os := by
 rw [alloc_eq_grow]
 obtain ⟨os', _, e⟩ := putRow_grow_new (fun (b : UInt8) => Value.int .u8 (b.toNat : Int)) w #[o] w.heap.size 0 dk (Nat.le_refl _)
 exact ⟨os', by rw [e]; rfl⟩
def y1h (w : World) : Prop := ∀ i, i < 20 → w.cell? ⟨0, i, none⟩ = some (.int .u64 ((10 ^ i : Nat) : Int))
theorem y2T {w : World} (h : y1h w) (o : Obj) : y1h (w.alloc o) := fun i hi => by
 have h' := h i hi
 have hlt : 0 < w.heap.size := by
  rcases Nat.lt_or_ge 0 w.heap.size with h1 | h1
  ·exact h1
  ·simp [World.cell?, Array.getElem?_eq_none h1] at h'
 unfold World.cell? at h' ⊢
 rw [RowKit.Below.heap_alloc w o _ hlt]
 exact h'
theorem y6A (u : Nat) (h1 : 1 ≤ u) (h2 : u < 18446744073709551616) (w : World) (htab : y1h w) :
  Calls Tryd.prog 67 #[.int .u64 u] w fun e w' => e = .returned (.int .i64 (Lib.nDigits u)) ∧ w' = w := by
 have e129 : ∀ args w, (callFunc 64 args).run Tryd.prog w = .ok (.enter 64 args) w := enters_of Tryd.func64 (by kernel_rfl) rfl
 have e317 : ∀ args w, (callFunc 81 args).run Tryd.prog w = .ok (.enter 81 args) w := enters_of Tryd.func81 (by kernel_rfl) rfl
 have e318 : ∀ args w, (callFunc 82 args).run Tryd.prog w = .ok (.enter 82 args) w := enters_of Tryd.func82 (by kernel_rfl) rfl
 obtain ⟨hnd, h19⟩ := Lib.numDigits_eq u h1 h2
 have hL : Lib.bitLen u ≤ 64 := Lib.bitLen_le u 64 (Nat.le_refl _) h2
 have hcell := htab (Lib.l10 (Lib.bitLen u)) (by omega)
 have hto : ((u : Int)).toNat = u := by omega
 generalize hq : Lib.l10 (Lib.bitLen u) = q at hnd h19 hcell
 generalize hT : 10 ^ q = T at hnd hcell
 have h20 : q < 20 := by omega
 have Hnd := Lib.hid hnd
 clear hnd htab
 go_enter Tryd.func67, Tryd.ntmps67
 go_wp2_with (first
  | (go_at_fn 64; refine (Any.bits_Len64 (P := Tryd.prog) (ρ := Tryd.q3d) { Tryd.q7x with } _ _ (by omega) (by omega)).mono ?_; rintro e w' ⟨rfl, rfl⟩)
  | (go_at_fn 81; refine (Any.internal_strconv_log10Pow2 (P := Tryd.prog) (ρ := Tryd.q3d) { Tryd.q7x with } _ (by first | exact hL | (rw [hto]; exact hL)) _).mono ?_; rintro e w' ⟨rfl, rfl⟩)
  | (go_at_fn 82; refine (Any.internal_strconv_bool2_int (P := Tryd.prog) (ρ := Tryd.q3d) { Tryd.q7x with } _ _).mono ?_; rintro e w' ⟨rfl, rfl⟩))
 all_goals go_ret
 all_goals (
  refine ⟨?_, rfl⟩
  have hnd := Hnd.out
  congr 2
  split at hnd <;> simp_all <;> omega)
theorem y6U (u : Nat) (h : u < 18446744073709551616) (w : World) (htab : y1h w) :
  Calls Tryd.prog 50 #[.int .u64 u, .int .i64 10] w fun e w' => e = .returned (.string ⟨(Lib.decDigits u).toArray⟩) ∧ ∃ k os, w' = grow (w.drewN k) os := by
 have e283 : ∀ args w, (callFunc 66 args).run Tryd.prog w = .ok (.enter 66 args) w := enters_of Tryd.func66 (by kernel_rfl) rfl
 have e284 : ∀ args w, (callFunc 67 args).run Tryd.prog w = .ok (.enter 67 args) w := enters_of Tryd.func67 (by kernel_rfl) rfl
 have e285 : ∀ args w, (callFunc 68 args).run Tryd.prog w = .ok (.enter 68 args) w := enters_of Tryd.func68 (by kernel_rfl) rfl
 by_cases hs : u < 100
 ·go_enter Tryd.func50, Tryd.ntmps50
  go_wp2_with (go_at_fn 66; refine (Any.internal_strconv_small { Tryd.q7x with } u hs _).mono ?_; rintro e w' ⟨rfl, rfl⟩)
  go_ret
  exact ⟨rfl, 0, #[], by simp [World.drewN_zero]⟩
 ·have hu1 : 1 ≤ u := by omega
  have hnd20 : Lib.nDigits u ≤ 20 := by have := Lib.numDigits_eq u hu1 h; split at this <;> omega
  have hal : Tryd.prog.arrayLen 129 = 24 := by kernel_rfl
  have hsl1 : ∀ W, (Instr.sliceAt 129 (.pointer (some ⟨w.heap.size, 0, none⟩)) none (some (.int .i64 (Lib.nDigits u : Int))) none).run Tryd.prog W = .ok (.slice (some ⟨w.heap.size, 0, none⟩) (Lib.nDigits u) 24) W := fun W => by
   rw [run_sliceAt_array_h W 129 ⟨w.heap.size, 0, none⟩ (by kernel_rfl) .i64 (Lib.nDigits u : Int) (by omega) (by rw [hal]; omega)]
   go_simp
  have hH0 := y1J w 129 (Lib.nDigits u) (by omega)
  have hfmt := Any.internal_strconv_formatBase10 (P := Tryd.prog) (ρ := Tryd.q3d) { Tryd.q7x with } w.heap.size 0 24 u (Array.replicate (Lib.nDigits u) 0) (w.alloc (.cells Lib.zeros24 129)) hH0 (by rw [Array.size_replicate]; exact Lib.lt_pow_nDigits u) h (by rw [Array.size_replicate]; omega)
  rw [Array.size_replicate] at hfmt
  have HH0 := Lib.hid hH0
  clear hH0 hal
  go_enter Tryd.func50, Tryd.ntmps50
  go_wp2_with (first
   | (go_at_fn 67; refine (y6A u hu1 h _ (y2T htab _)).mono ?_; rintro e w' ⟨rfl, rfl⟩))
  go_at_fn 68
  refine hfmt.mono ?_
  rintro e w' ⟨rfl, k, v', dk, rfl, hF⟩
  have hcv : (convert 88 9 (.slice (some ⟨w.heap.size, 0, none⟩) (Lib.nDigits u) 24)).run Tryd.prog ((putRow (fun (b : UInt8) => Value.int .u8 (b.toNat : Int)) (w.alloc (.cells Lib.zeros24 129)) w.heap.size 0 dk).drewN k) = .ok (.string ⟨(Lib.decDigits u).toArray⟩) ((putRow (fun (b : UInt8) => Value.int .u8 (b.toNat : Int)) (w.alloc (.cells Lib.zeros24 129)) w.heap.size 0 dk).drewN k) := by
   have h := run_convert_bytes_back (P := Tryd.prog) ((putRow (fun (b : UInt8) => Value.int .u8 (b.toNat : Int)) (w.alloc (.cells Lib.zeros24 129)) w.heap.size 0 dk).drewN k) 88 9 5 ⟨w.heap.size, 0, none⟩ 24 (Lib.decDigits u) (by kernel_rfl) (by kernel_rfl) (by kernel_rfl) (fun j hj => by
    rw [Lib.row_is_numeral hF j hj, Lib.add_plain, World.cell?_drewN]
    exact cell?_putRow (fun (b : UInt8) => Value.int .u8 (b.toNat : Int)) _ w.heap.size 0 _ dk HH0.out (by rw [hF.size, Array.size_replicate]) j (by rw [hF.size]; rw [Lib.decDigits_length] at hj; exact hj))
   rw [Lib.decDigits_length] at h
   exact h
  go_wp2
  go_ret
  obtain ⟨os, eo⟩ := y6W w (.cells Lib.zeros24 129) dk k
  exact ⟨rfl, k, os, eo⟩
theorem y73 {Γ : G} {w : World} {s : S} (c : z8 Γ w s) (h : Γ.gl 0 = some (.arr 20 (.int .u64), .agg (Go.Lib.pow10Tab.map C.int))) : y1h w := fun i hi => by
 obtain ⟨l, h1, h2, h3⟩ := c.hgl _ _ _ h
 obtain ⟨arr, T, fr, r, h4, h5⟩ := c.hH _ _ h1
 simp only [z6] at h3
 obtain ⟨cs, e, _, _, _, hr⟩ := h3
 cases e
 have hi' : (Go.Lib.pow10Tab.map C.int)[i]? = some (.int ((10 ^ i : Nat) : Int)) := by
  have h6 := Go.Lib.pow10Tab_at i hi
  have h7 := Go.Lib.pow10Tab_length
  rw [List.getElem?_map]
  rw [List.getD_eq_getElem?_getD] at h6
  cases h8 : Go.Lib.pow10Tab[i]? with
  | none => rw [List.getElem?_eq_none_iff] at h8; omega
  | some z => rw [h8] at h6; simp only [Option.getD_some] at h6; rw [h6]; rfl
 have h9 := hr _ _ hi'
 have m1 : IntKind.u64.min = 0 := by decide
 simp only [z6, Ty.size, Nat.mul_one] at h9 h2
 obtain ⟨n, h11, h10, _, _⟩ := h9
 cases h11
 have h12 : (chunk (chunk l 0 (20 * 1)) i 1)[0]? = some (.int .u64 ((10 ^ i : Nat) : Int)) := by rw [h10]; rfl
 have h13 : l[i]? = some (.int .u64 ((10 ^ i : Nat) : Int)) := by
  simp only [chunk, List.drop_zero, List.getElem?_take, List.getElem?_drop] at h12
  simp at h12
  exact h12.2
 unfold World.cell?
 simp only [h4]
 have h14 : arr[i]? = some (.int .u64 ((10 ^ i : Nat) : Int)) := by
  have hl : i < l.length := by omega
  rw [← Array.getElem?_toList, h5, List.getElem?_append_left hl]
  exact h13
 simpa using h14
theorem y6Z (w : World) (k : Nat) (os : Array Obj) : Ext w (grow (w.drewN k) os) := by
 refine ⟨?_, fun b hb => ?_, ?_⟩
 ·simp [grow, World.drewN]
 ·simp [grow, World.drewN, Array.getElem?_append, hb]
 ·rfl
theorem z15 (u : Nat) (h : u < 18446744073709551616) : (Lib.decDigits u).length ≤ 20 := by
 rw [Lib.decDigits_length]
 by_cases h1 : 1 ≤ u
 ·have := Lib.numDigits_eq u h1 h; split at this <;> omega
 ·have : u = 0 := by omega
  subst this; simp [Lib.nDigits]
def y3T : Nat → Nat → List UInt8
 | 0, _ => []
 | f + 1, n => bif Nat.blt n 10 then [UInt8.ofNat (48 + n)] else y3T f (n / 10) ++ [UInt8.ofNat (48 + n % 10)]
def H2 (n : Nat) : List UInt8 := y3T 20 n
theorem y2D : ∀ (f n : Nat), n < 10 ^ (f + 1) → y3T (f + 1) n = Lib.decDigits n
 | f, n, h => by
  rw [Lib.decDigits, y3T]
  by_cases hn : n < 10
  ·rw [dif_pos hn, show Nat.blt n 10 = true from by simpa [Nat.blt_eq] using hn]; rfl
  ·rw [dif_neg hn, show Nat.blt n 10 = false from by rw [← Bool.not_eq_true, Nat.blt_eq]; exact hn]
   cases f with
   | zero => simp at h; omega
   | succ f =>
    have h' : n / 10 < 10 ^ (f + 1) := by rw [Nat.pow_succ] at h; omega
    rw [cond_false, y2D f (n / 10) h']
theorem q9t (n : Nat) (h : n < 18446744073709551616) : H2 n = Lib.decDigits n := y2D 19 n (Nat.lt_of_lt_of_le h (by decide))
theorem y3D (A : Key → Option O) (c : C) : j7 (X0 gl0) 50 [.d (.int .u64) c, .d (.int .i64) (.int 10)] A (.d .str (.str (H2 c.toInt.toNat))) [] := by
 intro A' Γ w args hA' hg hc hn hr
 obtain ⟨cc, hok⟩ := hc
 have hs : args.size = 2 := hn.symm
 obtain ⟨e1, _, h1, h2⟩ := o8 (hr 0 _ _ rfl (Array.getElem?_eq_getElem (by omega)))
 obtain ⟨e2, _, _, _⟩ := o8 (hr 1 _ _ rfl (Array.getElem?_eq_getElem (by omega)))
 have m1 : IntKind.u64.min = 0 := by decide
 have m2 : IntKind.u64.max = 18446744073709551615 := by decide
 have ea : args = #[.int .u64 (c.toInt.toNat : Int), .int .i64 10] := by
  apply Array.ext
  ·simpa using hs
  ·intro i h1 h2
   match i with
   | 0 =>
    have : ((c.toInt.toNat : Nat) : Int) = c.toInt := by omega
    simpa [this] using e1
   | 1 => simpa [C.toInt] using e2
   | i + 2 => omega
 rw [ea]
 refine (y6U c.toInt.toNat (by omega) w (y73 cc (by rw [hg]; rfl))).mono fun e w' he => ?_
 obtain ⟨he1, k, os, he2⟩ := he
 subst he2
 refine ⟨_, Γ, he1, .refl Γ, (cc.ext (y6Z w k os)).congr (fun _ => rfl) (fun _ => rfl) (fun _ h => h), ?_⟩
 have := z15 c.toInt.toNat (by omega)
 rw [q9t _ (by omega)]
 exact q1H (by omega)
noncomputable def z1R (_ : Nat) {R : Type} : OvG R := fun xs _ K => match xs with
 | [.d (.int .u64) c, .d (.int .i64) (.int b)] => if b = 10 then K (.d .str (.str (H2 c.toInt.toNat))) [] else none
 | _ => none
theorem z6D (N : Nat) {R : Type} : GOk (X0 gl0) 50 (z1R N (R := R)) := by
 intro xs A Kr r hr
 unfold z1R at hr
 split at hr
 ·rename_i c b
  by_cases hb : b = 10
  ·subst hb
   exact ⟨_, _, y3D A c, by simpa using hr⟩
  ·rw [if_neg hb] at hr; cases hr
 ·cases hr
open Go Go.E Go.RowKit Go.Shelf
theorem y5I : ∃ i z, Tryd.prog.info? 5 = some i ∧ i.zero = some z ∧ i.size = 1 ∧ i.bytes = 1 ∧ z.cells.size = 1 := by
 have h : ((Tryd.prog.info? 5).map fun i => (i.size, i.bytes, i.zero.map fun z => z.cells.size)) = some (1, 1, some 1) := by kernel_rfl
 obtain ⟨i, hi, h2⟩ := Option.map_eq_some_iff.1 h
 simp only [Prod.mk.injEq] at h2
 obtain ⟨h3, h4, h5⟩ := h2
 obtain ⟨z, hz, h6⟩ := Option.map_eq_some_iff.1 h5
 exact ⟨i, z, hi, hz, h3, h4, h6⟩
theorem y7n : liesAt Tryd.prog Tryd.prog.depth 90 (2 / Tryd.prog.cellsOf 90) 0 90 1 = true := by kernel_rfl
theorem y09 : (Tryd.prog.info? 90).map (·.size) = some 2 := by kernel_rfl
theorem y3U (b : Nat) (w : World) (v : Value) (hw : w.heap[b]? = some (.cells #[.pointer none, v] 90 (0, 0))) :
  Calls Tryd.prog 49 #[.pointer (some ⟨b, 0, none⟩)] w fun e w' => e = .returned (.tuple #[]) ∧ w' = w.setCell ⟨b, 0, none⟩ (.pointer (some ⟨b, 0, none⟩)) := by
 obtain ⟨j, hj, hjs⟩ := Option.map_eq_some_iff.1 y09
 have h0 : w.cell? ⟨b, 0, none⟩ = some (.pointer none) := by rw [Lib.cell_of_heap hw]; rfl
 have hsh : w.shape? b = some (90, 2) := by simp [World.shape?, hw]
 have hfz : w.frozen? ⟨b, 0, none⟩ = false := Lib.frozen_of_heap hw 0
 go_enter Tryd.func49, Tryd.ntmps49
 go_wp2
 rw [Lib.run_to_unsafe w ⟨b, 0, none⟩ (t := 90) (by kernel_rfl) (by kernel_rfl) hj (by rw [hjs]; decide) hsh (Nat.zero_lt_succ 1)]
 simp only [Result.andThen]
 rw [Oper.upon_value]
 go_wp2
 rw [run_callFunc_extern Tryd.func65 (by kernel_rfl) (by kernel_rfl) (by kernel_rfl) (e := Extern.AbiNoEscape.same) (by kernel_rfl)]
 rw [Lib.run_noEscape]
 simp only [Result.andThen]
 rw [Oper.upon_value]
 go_wp2
 rw [Lib.run_from_unsafe w ⟨b, 0, none⟩ (u := 90) (by kernel_rfl) (by kernel_rfl) hj hsh y7n]
 simp only [Result.andThen]
 rw [Oper.upon_value]
 go_wp2
 go_end0
 exact ⟨rfl, rfl⟩
theorem y5C (b : Nat) (w : World) (v : Value) (hw : w.heap[b]? = some (.cells #[.pointer (some ⟨b, 0, none⟩), v] 90 (0, 0))) :
  Calls Tryd.prog 49 #[.pointer (some ⟨b, 0, none⟩)] w fun e w' => e = .returned (.tuple #[]) ∧ w' = w := by
 obtain ⟨j, hj, hjs⟩ := Option.map_eq_some_iff.1 y09
 have h0 : w.cell? ⟨b, 0, none⟩ = some (.pointer (some ⟨b, 0, none⟩)) := by rw [Lib.cell_of_heap hw]; rfl
 go_enter Tryd.func49, Tryd.ntmps49
 go_wp2
 rw [Lib.run_neq_ptr_same w _ (te := 90) (by kernel_rfl) hj]
 go_wp2
 go_end0
 exact ⟨rfl, rfl⟩
theorem y7i (b : Nat) (w : World) (adr v : Value) (hw : w.heap[b]? = some (.cells #[adr, v] 90 (0, 0))) (ha : adr = .pointer none ∨ adr = .pointer (some ⟨b, 0, none⟩)) :
  Calls Tryd.prog 49 #[.pointer (some ⟨b, 0, none⟩)] w fun e w' => e = .returned (.tuple #[]) ∧ oof w' = oof w ∧ w'.heap.size = w.heap.size ∧ w'.heap[b]? = some (.cells #[.pointer (some ⟨b, 0, none⟩), v] 90 (0, 0)) ∧ ∀ b2, b2 ≠ b → w'.heap[b2]? = w.heap[b2]? := by
 rcases ha with rfl | rfl
 ·refine (y3U b w v hw).mono ?_
  rintro e w' ⟨rfl, rfl⟩
  refine ⟨rfl, rfl, by simp [World.setCell], by simp [World.setCell, Array.getElem?_modify, hw], fun b2 h => ?_⟩
  have : b ≠ b2 := fun e => h e.symm
  simp [World.setCell, Array.getElem?_modify, this]
 ·refine (y5C b w v hw).mono ?_
  rintro e w' ⟨rfl, rfl⟩
  exact ⟨rfl, rfl, rfl, hw, fun _ _ => rfl⟩
def y37 (w w' : World) (b : Nat) (v : Value) (l l' : List UInt8) : Prop := oof w' = oof w ∧ w.heap.size ≤ w'.heap.size ∧ ∃ v', w'.heap[b]? = some (.cells #[.pointer (some ⟨b, 0, none⟩), v'] 90 (0, 0)) ∧
 ((v' = v ∧ l' = l ∧ ∀ b2, b2 < w.heap.size → b2 ≠ b → w'.heap[b2]? = w.heap[b2]?) ∨
   ∃ g cap arr, v' = .slice (some ⟨g, 0, none⟩) l'.length cap ∧ w'.heap[g]? = some (.cells arr 5 (0, 0)) ∧ arr.size = cap ∧ arr.toList.take l'.length = p9 l' ∧ l'.length ≤ cap ∧ cap ≤ maxLen ∧ 0 < cap ∧
    (w.heap.size ≤ g ∨ v = .slice (some ⟨g, 0, none⟩) l.length cap) ∧ ∀ b2, b2 < w.heap.size → b2 ≠ g → b2 ≠ b → w'.heap[b2]? = w.heap[b2]?)
theorem y20 {w w' : World} {v : Value} {l : List UInt8} {b : Nat} (h : z2g w v l) (hb : ∀ g n c, v = .slice (some ⟨g, 0, none⟩) n c → g ≠ b) (hs : ∀ b2, b2 ≠ b → w'.heap[b2]? = w.heap[b2]?) : z2g w' v l := by
 rcases h with h | ⟨g, cap, arr, rfl, h1, h2⟩
 ·exact .inl h
 ·exact .inr ⟨g, cap, arr, rfl, by rw [hs g (hb g _ _ rfl)]; exact h1, h2⟩
theorem y5X {w w1 w2 w3 : World} {b : Nat} {v v' : Value} {l l' : List UInt8} (hlt : b < w.heap.size) (hvb : ∀ g n c, v = .slice (some ⟨g, 0, none⟩) n c → g ≠ b)
  (h1 : oof w1 = oof w) (h2 : w.heap.size ≤ w1.heap.size) (h3 : w1.heap[b]? = some (.cells #[.pointer (some ⟨b, 0, none⟩), v] 90 (0, 0))) (h4 : ∀ b2, b2 < w.heap.size → b2 ≠ b → w1.heap[b2]? = w.heap[b2]?)
  (hg : y4b w1 w2 v v' l l') (h5 : w3 = w2.setCell ⟨b, 1, none⟩ v') : y37 w w3 b v l l' := by
 obtain ⟨g1, g2, g3⟩ := hg
 have hb2 : w2.heap[b]? = some (.cells #[.pointer (some ⟨b, 0, none⟩), v] 90 (0, 0)) := by
  rcases g3 with ⟨_, _, g4⟩ | ⟨g, cap, arr, _, e2, _, _, _, _, _, e8, e9⟩
  ·rw [g4 b (by omega)]; exact h3
  ·have hne : b ≠ g := by
    rcases e8 with e8 | e8
    ·omega
    ·exact (hvb _ _ _ e8).symm
   rw [e9 b (by omega) hne]; exact h3
 have hoth : ∀ b2, b2 ≠ b → w3.heap[b2]? = w2.heap[b2]? := fun b2 h => by
  have : b ≠ b2 := fun e => h e.symm
  rw [h5]; simp [World.setCell, Array.getElem?_modify, this]
 refine ⟨by rw [h5]; exact g1.trans h1, by rw [h5]; simp [World.setCell]; omega, v', by rw [h5]; simp [World.setCell, Array.getElem?_modify, hb2], ?_⟩
 rcases g3 with ⟨rfl, rfl, g4⟩ | ⟨g, cap, arr, e1, e2, e3, e4, e5, e6, e7, e8, e9⟩
 ·exact .inl ⟨rfl, rfl, fun b2 hb hn => by rw [hoth b2 hn, g4 b2 (by omega), h4 b2 hb hn]⟩
 ·have hne : g ≠ b := by
   rcases e8 with e8 | e8
   ·omega
   ·exact hvb _ _ _ e8
  refine .inr ⟨g, cap, arr, e1, by rw [hoth g hne]; exact e2, e3, e4, e5, e6, e7, e8.imp (fun h => by omega) id, fun b2 hb hn hn' => ?_⟩
  rw [hoth b2 hn', e9 b2 (by omega) hn, h4 b2 hb hn']
theorem y5W (b : Nat) (w : World) (adr v : Value) (l s : List UInt8) (hw : w.heap[b]? = some (.cells #[adr, v] 90 (0, 0))) (ha : adr = .pointer none ∨ adr = .pointer (some ⟨b, 0, none⟩)) (hv : z2g w v l) (hvb : ∀ g n c, v = .slice (some ⟨g, 0, none⟩) n c → g ≠ b) (hl : (l ++ s).length ≤ 140737488355328) :
  Calls Tryd.prog 36 #[.pointer (some ⟨b, 0, none⟩), .string ⟨s.toArray⟩] w fun e w' => e = .returned (.tuple #[.int .i64 s.length, .nilIface]) ∧ y37 w w' b v l (l ++ s) := by
 obtain ⟨i, z, hi, hz, i1, i2, i3⟩ := y5I
 have hlt : b < w.heap.size := Go.E.lt_of_heap hw
 have e240 : ∀ args w, (callFunc 49 args).run Tryd.prog w = .ok (.enter 49 args) w := enters_of Tryd.func49 (by kernel_rfl) rfl
 have hsz : (⟨s.toArray⟩ : ByteArray).size = s.length := by simp [ByteArray.size]
 go_enter Tryd.func36, Tryd.ntmps36
 go_wp2_with (go_at_fn 49; refine (y7i b w adr v hw ha).mono ?_)
 rintro e w1 ⟨rfl, h1, h2, h3, h4⟩
 have c0 : w1.cell? ⟨b, 0, none⟩ = some (.pointer (some ⟨b, 0, none⟩)) := by rw [Lib.cell_of_heap h3]; rfl
 have c1 : w1.cell? ⟨b, 1, none⟩ = some v := by rw [Lib.cell_of_heap h3]; rfl
 have hv1 := y20 hv hvb h4
 go_wp2_with (at_builtin; refine z2N rfl _ _ 88 9 rfl (by kernel_rfl) hi hz i1 i2 i3 rfl rfl hl (by have := Src.ofString (P := Tryd.prog) (w := w1) (tx := 9) (by kernel_rfl) (⟨s.toArray⟩ : ByteArray); rw [hsz] at this; exact this) hv1 ?_)
 intro v' w2 hg
 have hb2 : w2.heap[b]? = some (.cells #[.pointer (some ⟨b, 0, none⟩), v] 90 (0, 0)) := by
  rcases hg.2.2 with ⟨_, _, g4⟩ | ⟨g, cap, arr, _, e2, _, _, _, _, _, e8, e9⟩
  ·rw [g4 b (by omega)]; exact h3
  ·have hne : b ≠ g := by
    rcases e8 with e8 | e8
    ·omega
    ·exact (hvb _ _ _ e8).symm
   rw [e9 b (by omega) hne]; exact h3
 have d0 : w2.cell? ⟨b, 0, none⟩ = some (.pointer (some ⟨b, 0, none⟩)) := by rw [Lib.cell_of_heap hb2]; rfl
 have d1 : w2.cell? ⟨b, 1, none⟩ = some v := by rw [Lib.cell_of_heap hb2]; rfl
 have f1 : w2.frozen? ⟨b, 1, none⟩ = false := Lib.frozen_of_heap hb2 1
 have hone : v'.oneCell' = true := by
  rcases hg.2.2 with ⟨rfl, _⟩ | ⟨g, cap, arr, rfl, _⟩
  ·rcases hv with ⟨rfl, _⟩ | ⟨_, _, _, rfl, _⟩ <;> rfl
  ·rfl
 obtain ⟨ao, n', cap, rfl⟩ : ∃ ao n' cap, v' = .slice ao n' cap := by
  rcases hg.2.2 with ⟨rfl, _⟩ | ⟨g, cap, arr, rfl, _⟩
  ·rcases hv with ⟨rfl, _⟩ | ⟨_, _, _, rfl, _⟩ <;> exact ⟨_, _, _, rfl⟩
  ·exact ⟨_, _, _, rfl⟩
 go_wp2
 go_ret2
 exact ⟨by simp [hsz], y5X hlt hvb h1 (by omega) h3 (fun b2 _ h => h4 b2 h) hg rfl⟩
theorem z8Y (W : World) (q : Option Addr) : (Builtin.unsafeString_ #[112, 3] 9 #[.pointer q, .int .i64 0]).run Tryd.prog W = .ok (.string .empty) W :=
 Lib.run_unsafeString_none W _ _ _ q
theorem y7m (b : Nat) (w : World) (adr v : Value) (l : List UInt8) (hw : w.heap[b]? = some (.cells #[adr, v] 90 (0, 0))) (hv : z2g w v l) (hlen : l.length ≤ 140737488355328) :
  Calls Tryd.prog 38 #[.pointer (some ⟨b, 0, none⟩)] w fun e w' => e = .returned (.string ⟨l.toArray⟩) ∧ oof w' = oof w ∧ w'.heap.size = w.heap.size ∧
   ((∀ b2 : Nat, w'.heap[b2]? = w.heap[b2]?) ∨ ∃ (g cap : Nat) (arr : Array Value) (fr : Nat × Nat), v = .slice (some ⟨g, 0, none⟩) l.length cap ∧ w.heap[g]? = some (.cells arr 5 (0, 0)) ∧ w'.heap[g]? = some (.cells arr 5 fr) ∧ ∀ b2 : Nat, b2 ≠ g → w'.heap[b2]? = w.heap[b2]?) := by
 have mixed : Tryd.prog.follows Departure.mixedOrders = true := by kernel_rfl
 rcases hv with ⟨rfl, rfl⟩ | ⟨g, cap, arr, rfl, h1, h2, h3, h4, h5, h6⟩
 ·have hUS := z8Y
  have c1 : w.drew.cell? ⟨b, 1, none⟩ = some (.slice none 0 0) := by
   have : w.drew.heap[b]? = some (.cells #[adr, .slice none 0 0] 90 (0, 0)) := hw
   rw [Lib.cell_of_heap this]; rfl
  have hSD : (Builtin.unsafeSliceData_ #[88] 112 #[.slice none 0 0]).run Tryd.prog w.drew = .ok (.pointer none) w.drew := rfl
  go_enter Tryd.func38, Tryd.ntmps38
  go_wp2
  go_region_o
  all_goals (go_wp2; go_ret; exact ⟨rfl, rfl, rfl, .inl fun _ => rfl⟩)
 ·by_cases hl : l = []
  ·subst hl
   have hUS := z8Y
   have c1 : w.drew.cell? ⟨b, 1, none⟩ = some (.slice (some ⟨g, 0, none⟩) 0 cap) := by
    have : w.drew.heap[b]? = some (.cells #[adr, .slice (some ⟨g, 0, none⟩) 0 cap] 90 (0, 0)) := hw
    rw [Lib.cell_of_heap this]; rfl
   have hSD : (Builtin.unsafeSliceData_ #[88] 112 #[.slice (some ⟨g, 0, none⟩) 0 cap]).run Tryd.prog w.drew = .ok (.pointer (some ⟨g, 0, none⟩)) w.drew :=
    Lib.run_unsafeSliceData_row _ _ _ _ _ _ (by omega)
   go_enter Tryd.func38, Tryd.ntmps38
   go_wp2
   go_region_o
   all_goals (go_wp2; go_ret; exact ⟨rfl, rfl, rfl, .inl fun _ => rfl⟩)
  ·have c1 : w.drew.cell? ⟨b, 1, none⟩ = some (.slice (some ⟨g, 0, none⟩) l.length cap) := by
    have : w.drew.heap[b]? = some (.cells #[adr, .slice (some ⟨g, 0, none⟩) l.length cap] 90 (0, 0)) := hw
    rw [Lib.cell_of_heap this]; rfl
   have hSD : (Builtin.unsafeSliceData_ #[88] 112 #[.slice (some ⟨g, 0, none⟩) l.length cap]).run Tryd.prog w.drew = .ok (.pointer (some ⟨g, 0, none⟩)) w.drew :=
    Lib.run_unsafeSliceData_row _ _ _ _ _ _ (by omega)
   have hUS : (Builtin.unsafeString_ #[112, 3] 9 #[.pointer (some ⟨g, 0, none⟩), .int .i64 l.length]).run Tryd.prog w.drew = .ok (.string ⟨l.toArray⟩) (w.drew.freeze ⟨g, 0, none⟩ l.length) := by
    refine Lib.run_unsafeString_row w.drew 112 3 9 5 (by kernel_rfl) (by kernel_rfl) g arr.size (by have hg' : w.drew.heap[g]? = some (.cells arr 5 (0, 0)) := h1; simp [World.shape?, hg']) l hl (by omega) (by omega) ?_
    intro j x hx
    have hg' : w.drew.heap[g]? = some (.cells arr 5 (0, 0)) := h1
    have hb : (p9 l)[j]? = some (.int .u8 (x.toNat : Int)) := by simp [p9, hx]
    rw [← h3, List.getElem?_take] at hb
    split at hb
    ·rw [Array.getElem?_toList] at hb
     simp [World.cell?, Addr.add_lit, hg', hb]
    ·cases hb
   have hll : l.length ≠ 0 := by simpa using hl
   have hfr : ∃ fr, (w.drew.freeze ⟨g, 0, none⟩ l.length).heap[g]? = some (.cells arr 5 fr) := by
    have hg' : w.drew.heap[g]? = some (.cells arr 5 (0, 0)) := h1
    simp [World.freeze, hll, Array.getElem?_modify, hg']
   have hot : ∀ b2, b2 ≠ g → (w.drew.freeze ⟨g, 0, none⟩ l.length).heap[b2]? = w.heap[b2]? := fun b2 h => by
    have : g ≠ b2 := fun e => h e.symm
    simp [World.freeze, hll, Array.getElem?_modify, this]
    rfl
   have hoo : oof (w.drew.freeze ⟨g, 0, none⟩ l.length) = oof w := by simp [World.freeze, hll, oof]; exact ⟨rfl, rfl⟩
   have hsz : (w.drew.freeze ⟨g, 0, none⟩ l.length).heap.size = w.heap.size := by simp [World.freeze, hll]
   go_enter Tryd.func38, Tryd.ntmps38
   go_wp2
   go_region_o
   all_goals (go_wp2; go_ret; exact ⟨rfl, hoo, hsz, .inr (by obtain ⟨fr, h⟩ := hfr; exact ⟨g, cap, arr, fr, rfl, h1, h, hot⟩)⟩)
theorem y08 {A A' : Key → Option O} {Γ : G} {w : World} {xs : List V} {k : Key} {l : List UInt8} {T : TypeId} {v0 : Value} (c : z8 Γ w (S.start xs A')) (hA' : ∀ k o, A k = some o → A' k = some o) (hA : A k = some (.it l T)) (h0 : q9 Γ (.ptr (.g k) [] q0S) v0) :
  ∃ b adr v, v0 = .pointer (some ⟨b, 0, none⟩) ∧ (S.start xs A').obj (.g k) = some (.it l T) ∧ Γ.ι (.g k) = some (b, q0S) ∧ w.heap[b]? = some (.cells #[adr, v] T (0, 0)) ∧ (adr = .pointer none ∨ adr = .pointer (some ⟨b, 0, none⟩)) ∧ l.length ≤ 140737488355328 ∧ z2g w v l ∧ (∀ g n c, v = .slice (some ⟨g, 0, none⟩) n c → g ≠ b) ∧ q0o [adr, v] ∧
   ((v = .slice none 0 0 ∧ l = []) ∨ ∃ g cap, v = .slice (some ⟨g, 0, none⟩) l.length cap ∧ Γ.H g = some (p9 l) ∧ Γ.κ g = some (.home (.g k) .bld, cap) ∧ l.length ≤ cap ∧ cap ≤ maxLen ∧ 0 < cap) := by
 have hobj : (S.start xs A').obj (.g k) = some (.it l T) := hA' _ _ hA
 obtain ⟨b, τ0, off, h1, h2, hpv⟩ := H4 h0
 have e : (off, q0S) = (0, τ0) := by simpa [Ty.walk] using h2.symm
 cases e
 obtain ⟨b', adr, v, i1, i2, i3, i4, i5, i6, i7⟩ := c.own h1 hobj
 rw [h1] at i1; cases i1
 refine ⟨b, adr, v, hpv, hobj, h1, i4, i5, i6, c.y9N i7, fun g n cc hv => ?_, ?_, i7⟩
 ·intro e
  subst e
  rcases i7 with ⟨h, _⟩ | ⟨g, cap, h, q, _⟩
  ·rw [hv] at h; cases h
  ·rw [hv] at h; cases h
   rw [i2] at q; cases q
 ·have ha : adr.oneCell' = true := by rcases i5 with rfl | rfl <;> rfl
  have hv : v.oneCell' = true := by rcases i7 with ⟨rfl, _⟩ | ⟨g, cap, rfl, _⟩ <;> rfl
  intro u hu
  simp at hu
  rcases hu with rfl | rfl
  ·exact ha
  ·exact hv
theorem y2N {Γ : G} {w w' : World} {s : S} (c : z8 Γ w s) {k : Key} {l l' : List UInt8} {b : Nat} {adr v : Value} (ho : s.obj k = some (.it l 90)) (hι : Γ.ι k = some (b, q0S)) (hw : w.heap[b]? = some (.cells #[adr, v] 90 (0, 0)))
  (hv : (v = .slice none 0 0 ∧ l = []) ∨ ∃ g cap, v = .slice (some ⟨g, 0, none⟩) l.length cap ∧ Γ.H g = some (p9 l) ∧ Γ.κ g = some (.home k .bld, cap) ∧ l.length ≤ cap ∧ cap ≤ maxLen ∧ 0 < cap) (hlen : l'.length ≤ 140737488355328) (hpre : ∃ m, l' = l ++ m) (h : y37 w w' b v l l') :
  ∃ Γ', GLe Γ Γ' ∧ r8 Γ Γ' ∧ z8 Γ' w' { s with loc := (k, .it l' 90) :: s.loc } := by
 obtain ⟨h1, h2, v', h3, h4⟩ := h
 exact c.x0A ho hι hw hv h1 h2 h3 (.inr rfl) hlen hpre h4
theorem y2M {A : Key → Option O} {k : Key} {l : List UInt8} (hA : A k = some (.it l 90)) (c : C) (hl : (l ++ c.toStr).length ≤ 140737488355328) :
  j7 (X0 gl0) 36 [.ptr (.g k) [] q0S, .d .str c] A (.tup [.d (.int .i64) (.int c.toStr.length), .d .iface .nil]) [(.g k, .it (l ++ c.toStr) 90)] := by
 intro A' Γ w args hA' hg hc hn hr
 obtain ⟨cc, hok⟩ := hc
 have hs : args.size = 2 := hn.symm
 obtain ⟨b, adr, v, hpv, hobj, hι, hw, ha, hll, hrow, hvb, h1c, hv⟩ := y08 cc hA' hA (hr 0 _ _ rfl (Array.getElem?_eq_getElem (by omega)))
 obtain ⟨e1, _, _⟩ := X5 (hr 1 _ _ rfl (Array.getElem?_eq_getElem (by omega)))
 have ea : args = #[.pointer (some ⟨b, 0, none⟩), .string ⟨c.toStr.toArray⟩] := by
  apply Array.ext
  ·simpa using hs
  ·intro i h1 h2
   match i with
   | 0 => simpa using hpv
   | 1 => simpa using e1
   | i + 2 => omega
 rw [ea]
 refine (y5W b w adr v l c.toStr hw ha hrow hvb hl).mono fun e w' he => ?_
 obtain ⟨he1, he2⟩ := he
 obtain ⟨Γ', g1, g2, g3⟩ := y2N cc hobj hι hw hv hl ⟨_, rfl⟩ he2
 refine ⟨_, Γ', he1, g1, g3.congr (fun _ => rfl) (fun _ => rfl) (fun _ h => h), ?_⟩
 have m1 : IntKind.i64.min = -9223372036854775808 := by decide
 have m2 : IntKind.i64.max = 9223372036854775807 := by decide
 rw [List.length_append] at hl
 show q9 Γ' (.tup [.d (.int .i64) (.int (c.toStr.length : Int)), .d .iface .nil]) (.tuple #[.int .i64 (c.toStr.length : Int), .nilIface])
 refine ⟨#[.int .i64 (c.toStr.length : Int), .nilIface], rfl, ?_⟩
 show y9 Γ' [.d (.int .i64) (.int (c.toStr.length : Int)), .d .iface .nil] [.int .i64 (c.toStr.length : Int), .nilIface]
 simp only [y9]
 refine ⟨_, _, rfl, ?_, rfl, _, _, rfl, ?_, rfl, rfl⟩
 ·show q8 Γ' none [] (.d (.int .i64) (.int (c.toStr.length : Int))) [.int .i64 (c.toStr.length : Int)]
  have q : q9 Γ' (.d (.int .i64) (.int (c.toStr.length : Int))) (.int .i64 (c.toStr.length : Int)) := v8 (by omega) (by omega)
  simpa only [q8, Value.cells] using (j6.1 q).1
 ·show q8 Γ' none [] (.d .iface .nil) [.nilIface]
  have q : q9 Γ' (.d .iface .nil) .nilIface := j6.2 ⟨by simp [z6, Value.cells], rfl⟩
  simpa only [q8, Value.cells] using (j6.1 q).1
noncomputable def q11 (_ : Nat) {R : Type} : OvG R := fun xs A K => match xs with
 | [.ptr (.g k) [] τ, .d .str c] => (match A k with
  | some (.it l T) => if Ty.beq τ q0S = true ∧ T = 90 ∧ (l ++ c.toStr).length ≤ 140737488355328 then K (.tup [.d (.int .i64) (.int c.toStr.length), .d .iface .nil]) [(.g k, .it (l ++ c.toStr) 90)] else none
  | _ => none)
 | _ => none
theorem q6o (N : Nat) {R : Type} : GOk (X0 gl0) 36 (q11 N (R := R)) := by
 intro xs A Kr r hr
 unfold q11 at hr
 split at hr
 ·split at hr
  ·rename_i hA
   simp only [Option.ite_none_right_eq_some] at hr
   obtain ⟨⟨h1, rfl, h3⟩, hr⟩ := hr
   rw [(Ty.beq_iff _ _).1 h1]
   exact ⟨_, _, y2M hA _ h3, hr⟩
  ·cases hr
 ·cases hr
theorem y31 {A : Key → Option O} {k : Key} {l : List UInt8} (hA : A k = some (.it l 90)) :
  j7 (X0 gl0) 38 [.ptr (.g k) [] q0S] A (.d .str (.str l)) [(.g k, .box (.top q0S))] := by
 intro A' Γ w args hA' hg hc hn hr
 obtain ⟨cc, hok⟩ := hc
 have hs : args.size = 1 := hn.symm
 obtain ⟨b, adr, v, hpv, hobj, hι, hw, ha, hll, hrow, hvb, h1c, hv⟩ := y08 cc hA' hA (hr 0 _ _ rfl (Array.getElem?_eq_getElem (by omega)))
 have ea : args = #[.pointer (some ⟨b, 0, none⟩)] := by
  apply Array.ext
  ·simpa using hs
  ·intro i h1 h2
   match i with
   | 0 => simpa using hpv
   | i + 1 => omega
 rw [ea]
 refine (y7m b w adr v l hw hrow hll).mono fun e w' he => ?_
 obtain ⟨he1, he2, he3, he4⟩ := he
 have key : ∃ Γ', GLe Γ Γ' ∧ r8 Γ Γ' ∧ z8 Γ' w' { S.start [.ptr (.g k) [] q0S] A' with loc := (.g k, .box (.top q0S)) :: (S.start [.ptr (.g k) [] q0S] A').loc } := by
  rcases he4 with h | ⟨g, cap, arr, fr, h1, h2, h3, h4⟩
  ·exact cc.y5J hobj hι hw h1c he2 (by omega) none (fun g h => by cases h) fun b2 _ _ => h b2
  ·refine cc.y5J hobj hι hw h1c he2 (by omega) (some g) (fun g' h => ?_) fun b2 _ h => h4 b2 fun e => h (by rw [e])
   cases h
   refine ⟨?_, arr, 5, fr, h2, h3⟩
   rcases hv with ⟨q, _⟩ | ⟨g2, cap2, q, _, q3, _⟩
   ·rw [h1] at q; cases q
   ·rw [h1] at q; cases q
    exact ⟨_, q3⟩
 obtain ⟨Γ', g1, g2, g3⟩ := key
 refine ⟨_, Γ', he1, g1, g3.congr (fun _ => rfl) (fun _ => rfl) (fun _ h => h), ?_⟩
 exact q1H hll
noncomputable def q5a (_ : Nat) {R : Type} : OvG R := fun xs A K => match xs with
 | [.ptr (.g k) [] τ] => (match A k with
  | some (.it l T) => if Ty.beq τ q0S = true ∧ T = 90 then K (.d .str (.str l)) [(.g k, .box (.top q0S))] else none
  | _ => none)
 | _ => none
theorem z0O (N : Nat) {R : Type} : GOk (X0 gl0) 38 (q5a N (R := R)) := by
 intro xs A Kr r hr
 unfold q5a at hr
 split at hr
 ·split at hr
  ·rename_i hA
   simp only [Option.ite_none_right_eq_some] at hr
   obtain ⟨⟨h1, rfl⟩, hr⟩ := hr
   rw [(Ty.beq_iff _ _).1 h1]
   exact ⟨_, _, y31 hA, hr⟩
  ·cases hr
 ·cases hr
end Go.Proofs.YtefppgmopnnphaaDoor
namespace Go.Proofs.YtefppgmopnnphaaDoor
open Go Go.E Go.RowKit Go.Shelf
set_option maxRecDepth 100000
set_option maxHeartbeats 6400000
set_option linter.unusedSimpArgs false
def u9 (b : UInt8) : List UInt8 → List (List UInt8)
 | [] => [[]]
 | c :: s => if c = b then [] :: u9 b s else match u9 b s with
  | [] => [[c]]
  | x :: l => (c :: x) :: l
theorem q9K (b : UInt8) : ∀ s, (u9 b s).length ≤ s.length + 1
 | [] => Nat.le_refl _
 | c :: s => by
  have ih := q9K b s
  unfold u9
  split
  ·simp only [List.length_cons]; omega
  ·split
   ·simp
   ·rename_i h; rw [h] at ih; simp only [List.length_cons] at ih ⊢; omega
theorem q9J (b : UInt8) : ∀ s, ∀ x ∈ u9 b s, x.length ≤ s.length
 | [], x, h => by simp [u9] at h; simp [h]
 | c :: s, x, h => by
  have ih := q9J b s
  unfold u9 at h
  split at h
  ·rcases List.mem_cons.1 h with rfl | h
   ·simp
   ·have := ih x h; simp only [List.length_cons]; omega
  ·split at h
   ·simp at h; simp [h]
   ·rename_i y l e
    rcases List.mem_cons.1 h with rfl | h
    ·have := ih y (by rw [e]; simp); simp only [List.length_cons]; omega
    ·have := ih x (by rw [e]; simp [h]); simp only [List.length_cons]; omega
theorem z4u (b : UInt8) : ∀ s : List UInt8, Lib.splitK [b] 0 (Lib.count s [b]) s = u9 b s
 | [] => by rw [Lib.count_one]; rfl
 | c :: s => by
  have ih := z4u b s
  by_cases hc : c = b
  ·subst hc
   have hix : Lib.index (c :: s) [c] = ((0 : Nat) : Int) := by rw [Lib.index]; simp [List.isPrefixOf]
   rw [Lib.count_cons_eq, Nat.add_comm]
   unfold Lib.splitK u9
   rw [hix, if_neg (by decide), if_pos rfl]
   simp [ih]
  ·rw [Lib.count_cons_ne _ _ _ hc]
   unfold u9
   rw [if_neg hc, ← ih]
   have hp : ([b] : List UInt8).isPrefixOf (c :: s) = false := by simp [List.isPrefixOf, Ne.symm hc]
   have hix : Lib.index (c :: s) [b] = if Lib.index s [b] == -1 then -1 else Lib.index s [b] + 1 := by rw [Lib.index, hp]; simp
   by_cases hm : Lib.index s [b] = -1
   ·rw [Lib.count_miss hm]; rfl
   ·have hge := Lib.index_ge s [b]
    obtain ⟨i, hi⟩ : ∃ i : Nat, Lib.index s [b] = i := ⟨(Lib.index s [b]).toNat, by omega⟩
    rw [Lib.count_hit (by simp) hi, Nat.add_comm]
    unfold Lib.splitK
    rw [hix, hi]
    have h1 : ((i : Int) == -1) = false := by rw [beq_eq_false_iff_ne]; omega
    simp only [h1, Bool.false_eq_true, if_false]
    have h2 : (((i : Int) + 1) == -1) = false := by rw [beq_eq_false_iff_ne]; omega
    simp only [h2, Bool.false_eq_true, if_false]
    have h3 : ((i : Int) + 1).toNat = i + 1 := by omega
    have h4 : (i : Int).toNat = i := by omega
    simp [h3, h4]
theorem y4m (s : ByteArray) (b : UInt8) (w : World) (hs : s.size < 4294967281) :
  Calls Tryd.prog 41 #[.string s, .string ⟨#[b]⟩] w fun e w' =>
   e = .returned (.slice (some ⟨w.heap.size, 0, none⟩) (Lib.countB s ⟨#[b]⟩ + 1) (Lib.countB s ⟨#[b]⟩ + 1)) ∧ w' = w.alloc (.cells ((Lib.splitB ⟨#[b]⟩ 0 (Lib.countB s ⟨#[b]⟩) s).map Value.string).toArray 9) := by
 have h1 : 1 ≤ (⟨#[b]⟩ : ByteArray).size := Nat.le_refl 1
 have hle := Lib.countB_le ⟨#[b]⟩ h1 s.size s (Nat.le_refl _)
 have hlen := Lib.splitB_all ⟨#[b]⟩ h1 0 _ s rfl
 have c := Any.strings_genSplit_core (P := Tryd.prog) (ρ := Tryd.z3b) { Tryd.y8s with } (by kernel_rfl) s ⟨#[b]⟩ 0 (-1) (Lib.countB s ⟨#[b]⟩ + 1) w hs h1 (Nat.zero_le _)
  (fun x c hx => (Tryd.strings_Index_one x b _).mono fun e w' ⟨he, hw⟩ => ⟨by rw [he]; show _ = Ending.returned (Value.int .i64 (Lib.index x.data.toList [b])); rw [Lib.index_one], hw⟩)
  ((Tryd.strings_Count_one s b w).mono fun e w' ⟨he, hw⟩ => ⟨by rw [he]; show _ = Ending.returned (Value.int .i64 ((Lib.count s.data.toList [b] : Nat) : Int)); rw [Lib.count_one]; rfl, hw⟩)
  (by decide) (by decide) (by rw [if_pos (by decide)]; omega)
 rw [Nat.add_sub_cancel, hlen] at c
 have e2 : Lib.cellsOf (Lib.splitB ⟨#[b]⟩ 0 (Lib.countB s ⟨#[b]⟩) s) (Lib.countB s ⟨#[b]⟩ + 1) = ((Lib.splitB ⟨#[b]⟩ 0 (Lib.countB s ⟨#[b]⟩) s).map Value.string).toArray := by rw [← hlen]; exact Lib.cellsOf_full _
 rw [e2] at c
 have e221 : ∀ args w, (callFunc 52 args).run Tryd.prog w = .ok (.enter 52 args) w := enters_of Tryd.func52 (by kernel_rfl) rfl
 go_enter Tryd.func41, Tryd.ntmps41
 go_wp2_with (go_at_fn 52; refine c.mono ?_; rintro e w' ⟨rfl, hw⟩; rw [hw])
 go_ret
 exact ⟨rfl, rfl⟩
theorem z5n {w w' : World} (h : Below w.heap.size w w') : Ext w w' := ⟨h.size, fun b hb => h.block b hb, by unfold oof; rw [h.os, h.output]⟩
theorem y6y {l : List UInt8} (h : l.length = 1) : l = [l.headD 0] := by
 match l, h with
 | [x], _ => rfl
theorem y1m (A : Key → Option O) (s p : C) (h1 : p.toStr.length = 1) (hl : s.toStr.length < 4294967281) :
  j7 (X0 gl0) 41 [.d .str s, .d .str p] A (.d (.slice 16 .str) (.slice ((u9 (p.toStr.headD 0) s.toStr).map C.str))) [] := by
 intro A' Γ w args hA' hg hc hn hr
 obtain ⟨cc, hok⟩ := hc
 have hs : args.size = 2 := hn.symm
 obtain ⟨e1, _, hb⟩ := X5 (hr 0 _ _ rfl (Array.getElem?_eq_getElem (by omega)))
 obtain ⟨e2, _, _⟩ := X5 (hr 1 _ _ rfl (Array.getElem?_eq_getElem (by omega)))
 rw [y6y h1] at e2
 generalize hbb : p.toStr.headD 0 = b at e2 ⊢
 have ea : args = #[.string ⟨s.toStr.toArray⟩, .string ⟨#[b]⟩] := by
  apply Array.ext
  ·simpa using hs
  ·intro i h1 h2
   match i with
   | 0 => simpa using e1
   | 1 => simpa using e2
   | i + 2 => omega
 have hsz : (⟨s.toStr.toArray⟩ : ByteArray).size = s.toStr.length := by simp [ByteArray.size]
 rw [ea]
 refine (y4m ⟨s.toStr.toArray⟩ b w (by rw [hsz]; exact hl)).mono fun e w' he => ?_
 obtain ⟨he1, he2⟩ := he
 have hd : (Lib.splitB ⟨#[b]⟩ 0 (Lib.countB ⟨s.toStr.toArray⟩ ⟨#[b]⟩) ⟨s.toStr.toArray⟩).map (·.data.toList) = u9 b s.toStr := by
  rw [Lib.splitB_data]
  exact z4u b s.toStr
 have hlen := Lib.splitB_all ⟨#[b]⟩ (Nat.le_refl 1) 0 _ (⟨s.toStr.toArray⟩ : ByteArray) rfl
 have hlen2 : (u9 b s.toStr).length = Lib.countB ⟨s.toStr.toArray⟩ ⟨#[b]⟩ + 1 := by rw [← hd, List.length_map, hlen]
 have hcells : (Lib.splitB ⟨#[b]⟩ 0 (Lib.countB ⟨s.toStr.toArray⟩ ⟨#[b]⟩) ⟨s.toStr.toArray⟩).map Value.string = (u9 b s.toStr).map fun x => Value.string ⟨x.toArray⟩ := by
  rw [← hd, List.map_map]; rfl
 rw [hcells] at he2
 have hnew : w'.heap[w.heap.size]? = some (.cells ((u9 b s.toStr).map fun x => Value.string ⟨x.toArray⟩).toArray 9 (0, 0)) := by rw [he2]; exact heap_alloc_new _ _
 obtain ⟨c1, p1, g1⟩ := cc.q0N (he2 ▸ Ext.alloc _ _) (l := (u9 b s.toStr).map fun x => Value.string ⟨x.toArray⟩) (r := []) hnew (by simp)
 refine ⟨_, Γ.q0N w.heap.size ((u9 b s.toStr).map fun x => Value.string ⟨x.toArray⟩), he1, g1, ?_, ?_⟩
 ·exact c1.congr (fun _ => rfl) (fun _ => rfl) (fun _ h => h)
 have hul := q9K b s.toStr
 refine j6.2 ⟨?_, rfl⟩
 rw [← hlen2]
 show z6 _ _ [_] _
 refine u6 (by simp) (Nat.le_refl _) (by unfold maxLen; omega) (by omega) (.inr ⟨w.heap.size, 0, _, rfl, w9 _ _ _, by simp [Ty.size], fun i c' hi => ?_⟩)
 rw [List.getElem?_map] at hi
 cases hx : (u9 b s.toStr)[i]? with
 | none => rw [hx] at hi; cases hi
 | some x =>
  rw [hx] at hi
  simp only [Option.map_some, Option.some.injEq] at hi
  subst hi
  simp only [z6, Ty.size]
  refine ⟨x, rfl, ?_, ?_⟩
  ·rw [show 0 + i * 1 = i by omega]
   simp only [chunk]
   have h2 := (List.getElem?_eq_some_iff.1 hx)
   obtain ⟨hi1, hi2⟩ := h2
   rw [List.drop_eq_getElem_cons (by simpa using hi1)]
   simp [hi2]
  ·have := q9J b s.toStr x (List.mem_of_getElem? hx); omega
noncomputable def q5S (_ : Nat) {R : Type} : OvG R := fun xs _ K => match xs with
 | [.d .str s, .d .str p] => if p.toStr.length = 1 ∧ s.toStr.length < 4294967281 then K (.d (.slice 16 .str) (.slice ((u9 (p.toStr.headD 0) s.toStr).map C.str))) [] else none
 | _ => none
theorem z1F (N : Nat) {R : Type} : GOk (X0 gl0) 41 (q5S N (R := R)) := by
 intro xs A Kr r hr
 unfold q5S at hr
 split at hr
 ·simp only [Option.ite_none_right_eq_some] at hr
  obtain ⟨⟨h1, h2⟩, hr⟩ := hr
  exact ⟨_, _, y1m A _ _ h1 h2, hr⟩
 ·cases hr
def q28 (s : List UInt8) : Int := match Lib.parseUintB 64 s with
 | .ok u => u
 | .range => 18446744073709551615
 | _ => 0
def q8C (s : List UInt8) : C := match Lib.parseUintB 64 s with
 | .ok _ => .nil
 | _ => .bool true
theorem y3k (s : List UInt8) : 0 ≤ q28 s ∧ q28 s ≤ 18446744073709551615 := by
 unfold q28
 split
 ·rename_i u h; have := Lib.parseUintB_le h; omega
 ·omega
 ·omega
theorem y10 {Γ : G} {w : World} {s : S} (c : z8 Γ w s) {g : Nat} (h : Γ.gl g = some (.iface, .bool true)) : ∃ t v, w.cell? ⟨g, 0, none⟩ = some (.iface t v) := by
 obtain ⟨l, h1, h2, h3⟩ := c.hgl _ _ _ h
 obtain ⟨arr, T, fr, r, h4, h5⟩ := c.hH _ _ h1
 simp only [z6] at h3
 rcases h3 with ⟨h, _⟩ | ⟨_, t, v, h3⟩
 ·cases h
 refine ⟨t, v, ?_⟩
 have h12 : (chunk l 0 1)[0]? = some (.iface t v) := by
  have : (Ty.iface).size = 1 := rfl
  rw [this] at h3
  rw [h3]; rfl
 have h13 : l[0]? = some (.iface t v) := by
  simp only [chunk, List.drop_zero, List.getElem?_take] at h12
  simpa using h12
 unfold World.cell?
 simp only [h4]
 have h14 : arr[0]? = some (.iface t v) := by
  have hl : 0 < l.length := by have : (Ty.iface).size = 1 := rfl; omega
  rw [← Array.getElem?_toList, h5, List.getElem?_append_left hl]
  exact h13
 simpa using h14
theorem y5n (w : World) (e : TypeId) (s : ByteArray) : Ext w (Lib.bytesWorld w e s) := by
 refine ⟨?_, fun b hb => ?_, rfl⟩
 ·simp [Lib.bytesWorld, World.freeze, World.alloc, World.drew, -World.alloc_eq, -World.drew_eq]
 ·have h1 : w.heap.size ≠ b := by omega
  have h2 : b < w.heap.size + 1 := by omega
  simp [Lib.bytesWorld, World.freeze, World.alloc, World.drew, -World.alloc_eq, -World.drew_eq, Array.getElem?_modify, Array.getElem?_push, h1, Ne.symm h1]
theorem y9u (s : ByteArray) (hlim : s.size ≤ 281474976710656) (h : Lib.parseUintB 64 s.data.toList = Lib.parseUintB 64 []) (ev : Value) (w : World) (hv : w.cell? ⟨6, 0, none⟩ = some ev) (hev : ev = .nilIface ∨ ∃ te pe, ev = .iface te pe) :
  Calls Tryd.prog 74 #[.string s, .int .i64 10, .int .i64 64] w fun e w' => ∃ t N, e = .returned (.tuple #[.int .u64 0, .iface t (.pointer (some ⟨N, 0, none⟩))]) ∧ Below w.heap.size w w' :=
 (Any.strconv_ParseUint_10_at64_syntax Tryd.z3N s hlim h ev w hv hev).mono fun e w' ⟨N, h1, _, _, h2⟩ => ⟨_, N, h1, h2⟩
theorem y4Q (A : Key → Option O) (s : C) :
  j7 (X0 gl0) 74 [.d .str s, .d (.int .i64) (.int 10), .d (.int .i64) (.int 64)] A (.tup [.d (.int .u64) (.int (q28 s.toStr)), .d .iface (q8C s.toStr)]) [] := by
 intro A' Γ w args hA' hg hc hn hr
 obtain ⟨cc, hok⟩ := hc
 have hs : args.size = 3 := hn.symm
 obtain ⟨e1, _, hb⟩ := X5 (hr 0 _ _ rfl (Array.getElem?_eq_getElem (by omega)))
 obtain ⟨e2, _, _, _⟩ := o8 (hr 1 _ _ rfl (Array.getElem?_eq_getElem (by omega)))
 obtain ⟨e3, _, _, _⟩ := o8 (hr 2 _ _ rfl (Array.getElem?_eq_getElem (by omega)))
 have ea : args = #[.string ⟨s.toStr.toArray⟩, .int .i64 10, .int .i64 64] := by
  apply Array.ext
  ·simpa using hs
  ·intro i h1 h2
   match i with
   | 0 => simpa using e1
   | 1 => simpa [C.toInt] using e2
   | 2 => simpa [C.toInt] using e3
   | i + 3 => omega
 have hsz : (⟨s.toStr.toArray⟩ : ByteArray).size = s.toStr.length := by simp [ByteArray.size]
 rw [ea]
 have m1 : IntKind.u64.min = 0 := by decide
 have m2 : IntKind.u64.max = 18446744073709551615 := by decide
 obtain ⟨n1, n2⟩ := y3k s.toStr
 have hfin : ∀ (e : Ending) (w' : World) (v : Value), e = .returned (.tuple #[.int .u64 (q28 s.toStr), v]) → Ext w w' → q9 Γ (.d .iface (q8C s.toStr)) v →
   ∃ u Γ', e = .returned u ∧ GLe Γ Γ' ∧ z8 Γ' w' (S.fin (.tup [.d (.int .u64) (.int (q28 s.toStr)), .d .iface (q8C s.toStr)]) [] A') ∧ q9 Γ' (V.X9 2000 (.tup [.d (.int .u64) (.int (q28 s.toStr)), .d .iface (q8C s.toStr)])) u := by
  intro e w' v he hx hr
  refine ⟨_, Γ, he, .refl Γ, (cc.ext hx).congr (fun _ => rfl) (fun _ => rfl) (fun _ h => h), ?_⟩
  refine ⟨_, rfl, ?_⟩
  have h1 : q9 Γ (.d (.int .u64) (.int (q28 s.toStr))) (.int .u64 (q28 s.toStr)) := j6.2 ⟨by simp only [z6]; exact ⟨_, rfl, by simp [Value.cells], by omega, by omega⟩, rfl⟩
  obtain ⟨h1, h2⟩ := h1
  obtain ⟨h3, h4⟩ := hr
  refine ⟨_, _, rfl, h1, h2, _, _, rfl, h3, h4, rfl⟩
 cases h : Lib.parseUintB 64 s.toStr with
 | ok u =>
  refine (Tryd.strconv_ParseUint_10_at64_ok ⟨s.toStr.toArray⟩ (by rw [hsz]; omega) u h w).mono fun e w' he => ?_
  obtain ⟨he1, he2⟩ := he
  refine hfin e w' .nilIface ?_ ?_ ?_
  ·rw [he1]; unfold q28; rw [h]
  ·rcases he2 with rfl | rfl
   ·exact .refl _
   ·exact y5n w _ _
  ·unfold q8C; rw [h]; exact j6.2 ⟨by simp [z6, Value.cells], rfl⟩
 | range =>
  obtain ⟨t, v, hv⟩ := y10 cc (g := 7) (by rw [hg]; rfl)
  refine (Tryd.strconv_ParseUint_10_at64_range ⟨s.toStr.toArray⟩ (by rw [hsz]; omega) h _ w hv (Or.inr ⟨t, v, rfl⟩)).mono fun e w' he => ?_
  obtain ⟨n, he1, _, _, he2⟩ := he
  refine hfin e w' _ (by rw [he1]; unfold q28; rw [h]) (z5n he2) ?_
  unfold q8C; rw [h]; exact j6.2 ⟨by simp [z6, Value.cells], rfl⟩
 | _ =>
  obtain ⟨t, v, hv⟩ := y10 cc (g := 6) (by rw [hg]; rfl)
  refine (y9u ⟨s.toStr.toArray⟩ (by rw [hsz]; omega) h _ w hv (Or.inr ⟨t, v, rfl⟩)).mono fun e w' he => ?_
  obtain ⟨_, n, he1, he2⟩ := he
  refine hfin e w' _ (by rw [he1]; unfold q28; rw [h]) (z5n he2) ?_
  unfold q8C; rw [h]; exact j6.2 ⟨by simp [z6, Value.cells], rfl⟩
noncomputable def q4T (_ : Nat) {R : Type} : OvG R := fun xs _ K => match xs with
 | [.d .str s, .d (.int .i64) (.int b), .d (.int .i64) (.int z)] => if b = 10 ∧ z = 64 then K (.tup [.d (.int .u64) (.int (q28 s.toStr)), .d .iface (q8C s.toStr)]) [] else none
 | _ => none
theorem z3K (N : Nat) {R : Type} : GOk (X0 gl0) 74 (q4T N (R := R)) := by
 intro xs A Kr r hr
 unfold q4T at hr
 split at hr
 ·simp only [Option.ite_none_right_eq_some] at hr
  obtain ⟨⟨rfl, rfl⟩, hr⟩ := hr
  exact ⟨_, _, y4Q A _, hr⟩
 ·cases hr
end Go.Proofs.YtefppgmopnnphaaDoor
set_option linter.all false
namespace Go.Proofs
open Go.Shelf
def Tryd.z07 : Go.Shelf.Ren := ⟨fun | 6 => 31 | 15 => 47 | 14 => 46 | 28 => 63 | 29 => 64 | 20 => 55 | 21 => 56 | 22 => 57 | 23 => 58 | 24 => 59 | 25 => 60 | 26 => 61 | 27 => 62 | 46 => 76 | 47 => 77 | 48 => 78 | 49 => 79 | 50 => 80 | 57 => 91 | n => n, fun | 22 => 43 | 24 => 47 | 25 => 83 | 3 => 3 | 39 => 111 | 0 => 0 | 53 => 124 | 55 => 23 | 4 => 4 | 46 => 118 | 45 => 117 | 50 => 84 | 5 => 5 | 9 => 9 | 66 => 136 | 70 => 140 | 76 => 152 | 77 => 153 | n => n, fun | n => n⟩
theorem Tryd.q5J : Go.Proofs.SlLaysF0.n6 Tryd.prog Tryd.z07 := {
 mixed := by kernel_rfl
 f6 := ⟨Tryd.f31.name, by decide, Tryd.func31.trans (congrArg some (by kernel_rfl))⟩
 f14 := ⟨Tryd.f46.name, by decide, Tryd.func46.trans (congrArg some (by kernel_rfl))⟩
 f15 := Tryd.func47.trans (congrArg some (by kernel_rfl))
 f20 := ⟨Tryd.f55.name, by decide, Tryd.func55.trans (congrArg some (by kernel_rfl))⟩
 f21 := ⟨Tryd.f56.name, by decide, Tryd.func56.trans (congrArg some (by kernel_rfl))⟩
 f22 := ⟨Tryd.f57.name, by decide, Tryd.func57.trans (congrArg some (by kernel_rfl))⟩
 f23 := ⟨Tryd.f58.name, by decide, Tryd.func58.trans (congrArg some (by kernel_rfl))⟩
 f24 := ⟨Tryd.f59.name, by decide, Tryd.func59.trans (congrArg some (by kernel_rfl))⟩
 f25 := ⟨Tryd.f60.name, by decide, Tryd.func60.trans (congrArg some (by kernel_rfl))⟩
 f26 := ⟨Tryd.f61.name, by decide, Tryd.func61.trans (congrArg some (by kernel_rfl))⟩
 f27 := ⟨Tryd.f62.name, by decide, Tryd.func62.trans (congrArg some (by kernel_rfl))⟩
 f28 := Tryd.func63.trans (congrArg some (by kernel_rfl))
 f29 := Tryd.func64.trans (congrArg some (by kernel_rfl))
 f46 := ⟨Tryd.f76.name, by decide, Tryd.func76.trans (congrArg some (by kernel_rfl))⟩
 f47 := Tryd.func77.trans (congrArg some (by kernel_rfl))
 f48 := Tryd.func78.trans (congrArg some (by kernel_rfl))
 f49 := ⟨Tryd.f79.name, by decide, Tryd.func79.trans (congrArg some (by kernel_rfl))⟩
 f50 := ⟨Tryd.f80.name, by decide, Tryd.func80.trans (congrArg some (by kernel_rfl))⟩
 f57 := ⟨Tryd.f91.name, by decide, Tryd.func91.trans (congrArg some (by kernel_rfl))⟩
 t0 := Tryd.underlying0
 a0 := Tryd.isAgg0
 z0 := Tryd.sizeOf0
 v0 := Tryd.zeroValue0
 t3 := Tryd.underlying3
 a3 := Tryd.isAgg3
 z3 := Tryd.sizeOf3
 v3 := Tryd.zeroValue3
 t4 := Tryd.underlying4
 a4 := Tryd.isAgg4
 z4 := Tryd.sizeOf4
 v4 := Tryd.zeroValue4
 t5 := Tryd.underlying5
 a5 := Tryd.isAgg5
 z5 := Tryd.sizeOf5
 v5 := Tryd.zeroValue5
 t9 := Tryd.underlying9
 a9 := Tryd.isAgg9
 z9 := Tryd.sizeOf9
 v9 := Tryd.zeroValue9
 t22 := Tryd.underlying43
 a22 := Tryd.isAgg43
 z22 := Tryd.sizeOf43
 v22 := Tryd.zeroValue43
 t25 := Tryd.underlying83
 a25 := Tryd.isAgg83
 z25 := Tryd.sizeOf83
 v25 := Tryd.zeroValue83
 t39 := Tryd.underlying111
 a39 := Tryd.isAgg111
 z39 := Tryd.sizeOf111
 v39 := Tryd.zeroValue111
 t45 := Tryd.underlying117
 a45 := Tryd.isAgg117
 z45 := Tryd.sizeOf117
 v45 := Tryd.zeroValue117
 t46 := Tryd.underlying118
 a46 := Tryd.isAgg118
 z46 := Tryd.sizeOf118
 v46 := Tryd.zeroValue118
 t50 := Tryd.underlying84
 a50 := Tryd.isAgg84
 z50 := Tryd.sizeOf84
 v50 := Tryd.zeroValue84
 t53 := Tryd.underlying124
 a53 := Tryd.isAgg124
 z53 := Tryd.sizeOf124
 v53 := Tryd.zeroValue124
 t55 := Tryd.underlying23
 a55 := Tryd.isAgg23
 z55 := Tryd.sizeOf23
 v55 := Tryd.zeroValue23
 t66 := Tryd.underlying136
 a66 := Tryd.isAgg136
 z66 := Tryd.sizeOf136
 v66 := Tryd.zeroValue136
 t70 := Tryd.underlying140
 a70 := Tryd.isAgg140
 z70 := Tryd.sizeOf140
 v70 := Tryd.zeroValue140
 t76 := Tryd.underlying152
 a76 := Tryd.isAgg152
 z76 := Tryd.sizeOf152
 v76 := Tryd.zeroValue152
 t77 := Tryd.underlying153
 a77 := Tryd.isAgg153
 z77 := Tryd.sizeOf153
 v77 := Tryd.zeroValue153 }
end Go.Proofs
namespace Go.Proofs.YtefppgmopnnphaaDoor
open Go Go.E Go.RowKit Go.Sort
set_option maxRecDepth 100000
set_option maxHeartbeats 4000000
set_option linter.unusedSimpArgs false
theorem z5N : ∀ x : List UInt8, Op.bytesLess x x = false
 | [] => rfl
 | a :: x => by simp [Op.bytesLess, z5N x]
theorem z5M : ∀ x y z : List UInt8, Op.bytesLess x y = true → Op.bytesLess y z = true → Op.bytesLess x z = true
 | _, [], _, h, _ => by simp [Op.bytesLess] at h
 | _, _ :: _, [], _, h => by simp [Op.bytesLess] at h
 | [], _ :: _, _ :: _, _, _ => by simp [Op.bytesLess]
 | a :: x, b :: y, c :: z, h, h' => by
  have ih := z5M x y z
  simp only [Op.bytesLess, Bool.or_eq_true, decide_eq_true_eq, Bool.and_eq_true, beq_iff_eq, UInt8.lt_iff_toNat_lt, ← UInt8.toNat_inj] at h h' ⊢
  rcases h with h | ⟨h, h1⟩ <;> rcases h' with h' | ⟨h', h2⟩
  ·left; omega
  ·left; omega
  ·left; omega
  ·right; exact ⟨by omega, ih h1 h2⟩
theorem z8M : ∀ x y : List UInt8, Op.bytesLess x y = true ∨ x = y ∨ Op.bytesLess y x = true
 | [], [] => by simp
 | [], _ :: _ => by simp [Op.bytesLess]
 | _ :: _, [] => by simp [Op.bytesLess]
 | a :: x, b :: y => by
  have ih := z8M x y
  simp only [Op.bytesLess, Bool.or_eq_true, decide_eq_true_eq, Bool.and_eq_true, beq_iff_eq, UInt8.lt_iff_toNat_lt, List.cons.injEq]
  by_cases h1 : a.toNat < b.toNat
  ·exact .inl (.inl h1)
  by_cases h2 : b.toNat < a.toNat
  ·exact .inr (.inr (.inl h2))
  have e : a = b := UInt8.toNat_inj.1 (by omega)
  subst e
  rcases ih with h | h | h
  ·exact .inl (.inr ⟨rfl, h⟩)
  ·exact .inr (.inl ⟨rfl, h⟩)
  ·exact .inr (.inr (.inr ⟨rfl, h⟩))
theorem y6b {x y z : List UInt8} (h1 : Op.bytesLess x y = false) (h2 : Op.bytesLess y z = false) : Op.bytesLess x z = false := by
 rcases z8M x y with h | h | h
 ·rw [h] at h1; cases h1
 ·rw [h]; exact h2
 ·rcases z8M y z with g | g | g
  ·rw [g] at h2; cases h2
  ·rw [← g]; exact h1
  ·cases hxz : Op.bytesLess x z with
   | false => rfl
   | true =>
    have := z5M _ _ _ h hxz
    rw [this] at h2; cases h2
def cfS (x y : List UInt8) : Int := if Op.bytesLess x y = true then -1 else if (Op.bytesLess x y || x == y) = true then 0 else 1
abbrev w6 := List UInt8 × Int × Int
def cfL (x y : w6) : Int := cfS x.1 y.1
theorem z1A (x y : w6) : ltOf cfL x y = Op.bytesLess x.1 y.1 := by
 unfold ltOf cfL cfS
 cases h : Op.bytesLess x.1 y.1 <;> simp
 split <;> simp
theorem x01 : SWO (ltOf cfL) where
 irrefl x := by rw [z1A, z5N]
 trans x y z h1 h2 := by rw [z1A] at *; exact z5M _ _ _ h1 h2
 ntrans x y z h1 h2 := by rw [z1A] at *; exact y6b h1 h2
def b5 (x : w6) : List Value := [.string ⟨x.1.toArray⟩, .int .u64 x.2.1, .int .u64 x.2.2]
theorem y5a (x : ByteArray) (w : World) : Calls Tryd.prog 48 #[.string x] w fun e w' => e = .returned (.bool false) ∧ w' = w := by
 go_enter Tryd.func48, Tryd.ntmps48
 go_wp2
 go_ret
 exact ⟨by simp, rfl⟩
theorem y8X (x y : List UInt8) (w : World) : Calls Tryd.prog 33 #[.string ⟨x.toArray⟩, .string ⟨y.toArray⟩] w fun e w' => e = .returned (.int .i64 (cfS x y)) ∧ w' = w := by
 have h1 := fun (z : ByteArray) (w : World) => y5a z w
 have hu : Tryd.prog.underlying 9 = some .string := by kernel_rfl
 have h2 : ∀ w, (binOp .lss 9 (.string ⟨x.toArray⟩) (.string ⟨y.toArray⟩)).run Tryd.prog w = .ok (.bool (Op.bytesLess x y)) w := fun w => by
  simp [binOp, run_underlying hu, Op.stringOp]
 have h3 : ∀ w, (binOp .gtr 9 (.string ⟨x.toArray⟩) (.string ⟨y.toArray⟩)).run Tryd.prog w = .ok (.bool (!(Op.bytesLess x y || x == y))) w := fun w => by
  simp [binOp, run_underlying hu, Op.stringOp]
 unfold cfS
 clear h2
 generalize (x == y) = q at h3 ⊢
 cases hl : Op.bytesLess x y <;> cases q <;> simp only [hl, Bool.or_self, Bool.or_true, Bool.or_false, Bool.not_true, Bool.not_false, Bool.false_eq_true, if_true, if_false, reduceIte] at h3 ⊢
 all_goals go_enter Tryd.func33, Tryd.ntmps33
 all_goals go_wp2_with (go_at_call 48; refine (h1 _ _).mono ?_; rintro e w' ⟨rfl, rfl⟩)
 all_goals go_ret
 all_goals exact ⟨rfl, rfl⟩
theorem y4Z (x y : w6) (w : World) : Calls Tryd.prog 32 #[.agg (b5 x).toArray, .agg (b5 y).toArray] w fun e w' => e = .returned (.int .i64 (cfL x y)) ∧ ∃ q os', w' = grow (w.drewN q) os' := by
 have h1 := fun w => y8X x.1 y.1 w
 unfold cfL
 generalize cfS x.1 y.1 = r at h1 ⊢
 unfold b5
 go_enter Tryd.func32, Tryd.ntmps32
 go_wp2_with (go_at_call 33; refine (h1 _).mono ?_; rintro e w' ⟨rfl, rfl⟩)
 go_ret
 exact ⟨rfl, 0, _, by rw [alloc_eq_grow, alloc_eq_grow, grow_grow]; rfl⟩
theorem z4j {P : Program} (w : World) {ops : Array Oper} {rest : List Oper} {o : Oper} {a : Act} {Q : Exit → Act → World → Prop} (hg : o.guard = none) (it : Operand) (hop : o.op = Op.next it false)
  (r bm since c0 : Nat) (seen : Array Nat) (es : Array MapEntry) (clock : Nat) (hit : a.eval it = .pointer (some ⟨r, 0, none⟩))
  (hr : w.heap[r]? = some (.mapIter (some bm) since seen c0)) (hb : w.heap[bm]? = some (.map es clock)) (hold : ∀ x ∈ es.toList, x.born < since) (hsc : since ≤ c0) (hcl : since ≤ clock) (hn : (es.toList.map (·.born)).Nodup)
  (hDone : (leftOf es seen).size = 0 → wpList P ops Q rest (a.put o.dst (.tuple #[.bool false])) w)
  (hMore : ∀ e ∈ (leftOf es seen).toList, ∀ w2 : World, w2.heap[r]? = some (.mapIter (some bm) since (seen.push e.born) clock) → w2.heap.size = w.heap.size → (∀ b, b ≠ r → w2.heap[b]? = w.heap[b]?) → oof w2 = oof w →
   (Instr.entry (.pointer (some ⟨r, 0, none⟩))).run P w2 = .ok (.tuple #[e.key, e.val]) w2 → wpList P ops Q rest (a.put o.dst (.tuple #[.bool true, e.key, e.val])) w2) :
  wpList P ops Q (o :: rest) a w := by
 refine wpList_plain hg fun K' hK' => ?_
 unfold Oper.wp
 rcases run_next_at (P := P) w o.type r bm since c0 seen es clock hr hb hold hsc with ⟨h0, hrun⟩ | ⟨e, he, w1, hw1, hrun⟩
 ·simp [execOp, hop, hit, hrun, Result.andThen]
  exact hK' _ _ (hDone h0)
 ·simp [execOp, hop, hit, hrun, Result.andThen]
  have hlt : r < w1.heap.size := by rcases hw1 with rfl | rfl <;> exact (Array.getElem?_eq_some_iff.1 hr).1
  have h1 : (ChangeMaps.setBlock w1 r (.mapIter (some bm) since (seen.push e.born) clock)).heap[r]? = some (.mapIter (some bm) since (seen.push e.born) clock) := by
   simp [ChangeMaps.setBlock, hlt]
  have h2 : ∀ b, b ≠ r → (ChangeMaps.setBlock w1 r (.mapIter (some bm) since (seen.push e.born) clock)).heap[b]? = w.heap[b]? := by
   intro b hb'
   rcases hw1 with rfl | rfl <;> simp [ChangeMaps.setBlock, Array.getElem?_setIfInBounds, Ne.symm hb'] <;> rfl
  have hne : bm ≠ r := by intro e; subst e; rw [hr] at hb; cases hb
  refine hK' _ _ (hMore e he _ h1 (by rcases hw1 with rfl | rfl <;> simp [ChangeMaps.setBlock] <;> rfl) h2 (by rcases hw1 with rfl | rfl <;> rfl) ?_)
  exact run_entry_at _ r bm since seen es clock e h1 (by rw [h2 _ hne]; exact hb) (mem_left he).1 hn
theorem y81 (n : Nat) (t : Array Value) (h : t.size = n) : t = ((List.range n).map fun i => t.getD i undef).toArray := by
 subst h
 refine Array.toList_inj.1 (List.ext_getElem? fun i => ?_)
 by_cases hi : i < t.size
 ·simp [hi, List.getElem?_range hi]
 ·rw [List.getElem?_eq_none (by simpa using Nat.le_of_not_lt hi), List.getElem?_eq_none (by simpa using Nat.le_of_not_lt hi)]
theorem q9l (e : MapEntry) : ∀ l : List MapEntry, (l.map (·.born)).Nodup → e ∈ l → l.Perm (e :: l.filter fun x => !(x.born == e.born))
 | [], _, h => by cases h
 | x :: l, hn, he => by
  simp only [List.map_cons, List.nodup_cons] at hn
  rcases List.mem_cons.1 he with rfl | he
  ·have : l.filter (fun x => !(x.born == e.born)) = l := by
    refine List.filter_eq_self.2 fun y hy => ?_
    have : y.born ≠ e.born := fun h => hn.1 (h ▸ List.mem_map_of_mem hy)
    simp [this]
   simp only [List.filter_cons, beq_self_eq_true, Bool.not_true, Bool.false_eq_true, if_false, this]
   exact .refl _
  ·have hne : x.born ≠ e.born := fun h => hn.1 (h ▸ List.mem_map_of_mem he)
   have ih := q9l e l hn.2 he
   simp only [List.filter_cons, (by simpa using hne : (x.born == e.born) = false), Bool.not_false, if_true]
   exact (ih.cons x).trans (.swap _ _ _)
theorem y40 {ms : Array MapEntry} {seen : Array Nat} {e : MapEntry} (hn : (ms.toList.map (·.born)).Nodup) (he : e ∈ (leftOf ms seen).toList) : (leftOf ms seen).toList.Perm (e :: (leftOf ms (seen.push e.born)).toList) := by
 have h1 : (leftOf ms (seen.push e.born)).toList = (leftOf ms seen).toList.filter fun x => !(x.born == e.born) := by
  unfold leftOf
  rw [Array.toList_filter, Array.toList_filter, List.filter_filter]
  refine List.filter_congr fun x _ => ?_
  rw [contains_push]
  cases seen.contains x.born <;> cases (x.born == e.born) <;> rfl
 rw [h1]
 refine q9l e _ ?_ he
 unfold leftOf
 rw [Array.toList_filter]
 exact hn.sublist (List.Sublist.map _ List.filter_sublist)
theorem flat_get : ∀ (zs : List w6) (t : Nat), t < zs.length * 3 → (zs.flatMap b5)[t]? = some ((b5 (zs.toArray[t / 3]!))[t % 3]!)
 | [], t, h => by simp at h
 | x :: zs, t, h => by
  have hx : (b5 x).length = 3 := rfl
  simp only [List.length_cons] at h
  by_cases ht : t < 3
  ·have h0 : t / 3 = 0 := by omega
   have h1 : t % 3 = t := by omega
   rw [List.flatMap_cons, List.getElem?_append_left (by omega), h0, h1]
   have hz : (x :: zs).toArray[0]! = x := rfl
   rw [hz, List.getElem?_eq_getElem (by omega), List.getElem!_eq_getElem?_getD, List.getElem?_eq_getElem (by omega)]
   rfl
  ·rw [List.flatMap_cons, List.getElem?_append_right (by omega), hx, flat_get zs (t - 3) (by omega)]
   have h0 : t / 3 = (t - 3) / 3 + 1 := by omega
   have h1 : (t - 3) % 3 = t % 3 := by omega
   have h2 : (t - 3) / 3 < zs.length := by omega
   rw [h0, h1]
   congr 3
   rw [getElem!_pos _ _ (by simpa using h2), getElem!_pos _ _ (by simpa using h2)]
   simp
theorem y1K {w : World} {g : Nat} {cur : Array Value} {e : TypeId} {zs : List w6} (hb : w.heap[g]? = some (.cells cur e (0, 0))) (ht : cur.toList.take (zs.length * 3) = zs.flatMap b5) : HoldsK b5 3 w g 0 zs.toArray := by
 intro j hj
 have hj' : j < zs.length * 3 := by simpa using hj
 refine ⟨?_, by simp [World.frozen?, hb]⟩
 have h1 : (cur.toList.take (zs.length * 3))[j]? = (zs.flatMap b5)[j]? := by rw [ht]
 rw [List.getElem?_take_of_lt hj', flat_get zs j hj'] at h1
 simp only [World.cell?, hb, Nat.zero_add, Option.isSome_none, Bool.false_eq_true, if_false]
 rw [← Array.getElem?_toList, h1, get_flatK _ _ _ _ (by simpa using hj')]
 rfl
theorem z9c {w : World} {g n cap base : Nat} {os : Array Obj} {cur : Array Value} {e : TypeId} {zs : List w6} {d : Array w6} (hd : d.size = zs.length) (hb : w.heap[g]? = some (.cells cur e (0, 0))) (hbase : base ≤ g) (h1 : zs.length ≤ cap) (h2 : cap ≤ maxLen) (h3 : cur.size = cap * 3) :
  (sortWorldK b5 3 w g 0 n d os).ownsRow base e 3 (.slice (some ⟨g, 0, none⟩) d.toList.length cap) d.toList.length (d.toList.flatMap b5) ∧ w.grownBy (sortWorldK b5 3 w g 0 n d os) (some g) := by
 have hg : g < w.heap.size := (Array.getElem?_eq_some_iff.1 hb).1
 have hl : d.toList.length = zs.length := by simpa using hd
 have hle : zs.length * 3 ≤ cap * 3 := Nat.mul_le_mul_right _ h1
 refine ⟨⟨?_, .inr ⟨g, cap, putCells id 0 (flatK b5 3 d) cur, by simp, hbase, ?_, by omega, h2, by simp [putCells, h3], ?_⟩⟩, rfl, rfl, rfl, by simp [sortWorldK, putRowK, putRow, mapBlock, Sort.ahead, grow], fun k hk hne => ?_⟩
 ·have : ∀ l : List w6, (l.flatMap b5).length = l.length * 3 := by
   intro l
   induction l with
   | nil => rfl
   | cons x l ih => rw [List.flatMap_cons, List.length_append, ih]; simp [b5]; omega
  exact this _
 ·unfold sortWorldK
  rw [heap_grow_old _ _ (by simpa [putRowK, putRow, mapBlock, Sort.ahead] using hg)]
  simp [putRowK, putRow, mapBlock, Sort.ahead, Array.getElem?_modify, hb, onCells]
 ·apply List.ext_getElem?
  intro j
  by_cases hj : j < d.toList.length * 3
  ·rw [List.getElem?_take_of_lt hj, Array.getElem?_toList, flat_get _ _ hj]
   have hc : j < cur.size := by omega
   have hf : j < d.size * 3 := by simpa using hj
   simp only [putCells, Array.getElem?_mapIdx, Array.getElem?_eq_getElem hc, Option.map_some, Nat.zero_le, Nat.zero_add, size_flatK, hf, and_self, if_true, Nat.sub_zero, get_flatK _ _ _ _ hf, id, Array.toArray_toList]
  ·rw [List.getElem?_take_eq_none (by omega), List.getElem?_eq_none]
   have : ∀ l : List w6, (l.flatMap b5).length = l.length * 3 := by
    intro l
    induction l with
    | nil => rfl
    | cons x l ih => rw [List.flatMap_cons, List.length_append, ih]; simp [b5]; omega
   rw [this]; omega
 ·unfold sortWorldK
  rw [heap_grow_old _ _ (by simpa [putRowK, putRow, mapBlock, Sort.ahead] using hk)]
  have : g ≠ k := fun e => hne (by rw [e])
  simp [putRowK, putRow, mapBlock, Sort.ahead, Array.getElem?_modify, this]
def z14 : Value → w6
 | .agg ⟨[.string s, .int _ a, .int _ b]⟩ => (s.data.toList, a, b)
 | _ => default
theorem y0S (x : w6) : z14 (.agg (b5 x).toArray) = x := by
 obtain ⟨a, b, c⟩ := x
 simp [z14, b5]
theorem y2Y (base : Nat) (w : World) (v : Value) (zs : List w6) (hz : zs.length ≤ 1048576) (hrow : w.ownsRow base 47 3 v zs.length (zs.flatMap b5)) :
  Calls Tryd.prog 31 #[v, .func (.func 32) #[] #[]] w fun e w' => e = .returned (.tuple #[]) ∧ ∃ ys : List w6, ys.Perm zs ∧ (∀ i j, i < j → j < ys.length → ltOf cfL ys[j]! ys[i]! = false) ∧
   w'.ownsRow base 47 3 v ys.length (ys.flatMap b5) ∧ w.grownBy w' v.ownBlock := by
 rcases hrow.2 with ⟨rfl, hn⟩ | ⟨g, cap, cur, rfl, hbase, hb, h1, h2, h3, h4⟩
 ·have hz0 : zs = [] := List.eq_nil_of_length_eq_zero hn
  subst hz0
  have hS := AnyF.slices_SortFunc_none (P := Tryd.prog) (ρ := Tryd.z07) Tryd.q5J none 0 (.func (.func 32) #[] #[]) w
  change Calls Tryd.prog 31 _ _ _ at hS
  refine hS.mono ?_
  rintro e w' ⟨rfl, rfl⟩
  exact ⟨rfl, [], .refl _, fun i j _ h => by simp at h, hrow, rfl, rfl, rfl, Nat.le_refl _, fun _ _ _ => rfl⟩
 ·have hS := AnyQ.slices_SortFunc (P := Tryd.prog) (ρ := Tryd.z07) Tryd.q5J 3 (fun w => by kernel_rfl) (fun w => by kernel_rfl) b5 (fun _ => rfl) (fun x u hu => by simp [b5] at hu; rcases hu with rfl | rfl | rfl <;> rfl) cfL x01 32 #[] g 0 cap zs.toArray w
   (enters_of Tryd.func32 (by kernel_rfl) rfl) (fun _ _ _ _ x y => y4Z x y _) (y1K hb h4) (Array.getElem?_eq_some_iff.1 hb).1 (by simp; omega)
  change Calls Tryd.prog 31 _ _ _ at hS
  rw [List.size_toArray] at hS
  refine hS.mono ?_
  rintro e w' ⟨rfl, d, n, os, hp, hs, rfl⟩
  have hd : d.size = zs.length := by simpa using hp.1
  obtain ⟨k1, k2⟩ := z9c (n := n) (os := os) hd hb hbase h1 h2 h3
  have hl : d.toList.length = zs.length := by simpa using hd
  refine ⟨rfl, d.toList, ?_, fun i j hij hj => ?_, ?_, k2⟩
  ·have := hp.2.2
   rw [show d.extract 0 zs.length = d by rw [← hd, Array.extract_size], show zs.toArray.extract 0 zs.length = zs.toArray by simp] at this
   exact this
  ·have := hs i j (Nat.zero_le _) hij (by omega)
   have e : ∀ k, k < d.size → d.toList[k]! = d[k]! := fun k hk => by rw [getElem!_pos _ k (by simpa using hk), getElem!_pos _ k hk]; simp
   rw [e i (by omega), e j (by omega)]; exact this
  ·rw [hl] at k1 ⊢; exact k1
theorem z8x (W : World) (T : TypeId) (x : w6) : ∀ (j : Nat) (u : Value), (b5 x)[j]? = some u → (W.alloc (.cells #[.string ⟨x.1.toArray⟩, .int .u64 x.2.1, .int .u64 x.2.2] T)).cell? ((⟨W.heap.size, 0, none⟩ : Addr).add j) = some u := by
 intro j u hu
 have hadd : (⟨W.heap.size, 0, none⟩ : Addr).add j = ⟨W.heap.size, j, none⟩ := by unfold Addr.add; split <;> simp_all
 rw [hadd, cell_of_row _ _ j _ T (0, 0) (heap_alloc_new W _)]
 unfold b5 at hu
 match j, hu with
 | 0, hu => simpa using hu
 | 1, hu => simpa using hu
 | 2, hu => simpa using hu
theorem y59 (w : World) (a : Act) (bm : Nat) (ms : Array MapEntry) (clock : Nat) (xs : List w6) (hb : w.heap[bm]? = some (.map ms clock)) (hborn : ∀ x ∈ ms.toList, x.born < clock) (hnd : (ms.toList.map (·.born)).Nodup)
  (hval : ms.toList.map (·.val) = xs.map fun x => Value.agg (b5 x).toArray) (hsz : xs.length ≤ 1048576) (ha : a.tmps.size = 79) (h6 : a.tmps.getD 6 undef = .map (some bm)) (h14 : a.tmps.getD 14 undef = .slice none 0 0) (c : Code)
  (hc : Tryd.f16.body.map (z0m 4) = some c) :
  c.wp Tryd.prog (fun e a' w' => e = .ret ∧ a'.tmps.size = 79 ∧ a'.defers = a.defers ∧ a'.tmps.getD 5 undef = .int .i64 0 ∧ ∃ ys : List w6, ys.Perm xs ∧ (∀ i j, i < j → j < ys.length → ltOf cfL ys[j]! ys[i]! = false) ∧
   w'.ownsRow w.heap.size 47 3 (a'.tmps.getD 4 undef) ys.length (ys.flatMap b5) ∧ Ext w w') a w := by
 obtain ⟨t, df⟩ := a
 simp only at ha h6 h14
 have hm : Tryd.prog.underlying 77 = some (.map 9 47) := by kernel_rfl
 have hrange := run_range_map (P := Tryd.prog) w 77 _ _ bm ms clock hm hb
 have lit := (y81 79 t ha).trans (show _ = _ from rfl)
 generalize hf : (fun i => t.getD i undef) = f at lit
 have e6 : f 6 = .map (some bm) := by rw [← hf]; exact h6
 have e14 : f 14 = .slice none 0 0 := by rw [← hf]; exact h14
 simp only [List.range, List.range.loop, List.map, e6, e14] at lit
 rw [lit]
 clear lit h6 h14 ha e6 e14 hf
 obtain rfl := Option.some.inj hc
 clear hc
 simp only [z0m]
 obtain ⟨i0, hi, hz0, hz1, hz2⟩ := info_parts (show (Tryd.prog.info? 47).map (fun i => (i.zero, i.size, i.bytes)) = some (some (.agg #[.string ⟨#[]⟩, .int .u64 0, .int .u64 0]), 3, 32) by kernel_rfl)
 have hml : ms.toList.length = xs.length := by simpa using congrArg List.length hval
 have hbl := Go.E.lt_of_heap hb
 go_wp2
 go_loopw [14] (fun v wr => ∃ (seen : Array Nat) (col : List MapEntry) (c0 : Nat), wr.heap[w.heap.size]? = some (.mapIter (some bm) clock seen c0) ∧ clock ≤ c0 ∧ (col ++ (leftOf ms seen).toList).Perm ms.toList ∧
   wr.ownsRow (w.heap.size + 1) 47 3 v col.length (col.flatMap fun e => e.val.cells.toList) ∧ Ext w wr ∧ w.heap.size + 1 ≤ wr.heap.size)
  (fun _ wr => (leftOf ms (wr.iterSeen w.heap.size)).size)
 case atStart =>
  refine ⟨#[], [], clock, heap_alloc_new _ _, Nat.le_refl _, ?_, World.ownsRow_nil _ _ _ _, Ext.alloc _ _, by simp⟩
  have hlf : leftOf ms #[] = ms := Array.filter_eq_self.2 fun x _ => by simp
  rw [hlf]
  exact .refl _
 case round =>
  obtain ⟨seen, col, c0, hr, hc0, hperm, hrow, hext, hsz1⟩ := hrel
  have hb' : wr.heap[bm]? = some (.map ms clock) := by rw [hext.old bm hbl]; exact hb
  go_wp2_with (first | (at_next; refine z4j _ rfl _ rfl w.heap.size bm clock c0 seen ms clock rfl hr hb' hborn hc0 (Nat.le_refl _) hnd ?_ ?_) | go_in)
  ·intro hl0
   have hemp : (leftOf ms seen).toList = [] := List.eq_nil_of_length_eq_zero (by simpa using hl0)
   rw [hemp, List.append_nil] at hperm
   have hcv : (col.map (·.val)).Perm (xs.map fun x => Value.agg (b5 x).toArray) := by rw [← hval]; exact hperm.map _
   have hz1 : ((col.map (·.val)).map z14).Perm xs := by
    have := hcv.map z14
    rw [List.map_map] at this
    simpa [Function.comp_def, y0S] using this
   have hz2 : ∀ e ∈ col, e.val = .agg (b5 (z14 e.val)).toArray := fun e he => by
    have := hcv.mem_iff.1 (List.mem_map_of_mem (f := fun e : MapEntry => e.val) he)
    obtain ⟨x, _, hx⟩ := List.mem_map.1 this
    rw [← hx, y0S]
   have hlen : ((col.map (·.val)).map z14).length = col.length := by simp
   have hfl : (col.flatMap fun e => e.val.cells.toList) = ((col.map (·.val)).map z14).flatMap b5 := by
    rw [List.map_map, List.flatMap_map]
    unfold List.flatMap
    congr 1
    refine List.map_congr_left fun e he => ?_
    conv => lhs; rw [hz2 e he]
    rfl
   rw [hfl, ← hlen] at hrow
   generalize (col.map (·.val)).map z14 = zs at hrow hz1 hfl hlen
   have hS := y2Y (w.heap.size + 1) wr u14 zs (by rw [hz1.length_eq]; exact hsz) hrow
   have hne : ∀ b, b < w.heap.size → some b ≠ u14.ownBlock := fun b hb h => by have := (hrow.lt b h.symm).1; omega
   clear hfl hlen hz2 hcv hperm hemp hl0 hr hb'
   go_wp2_with (go_at_call 31; refine hS.mono ?_; rintro e w' ⟨rfl, ys, y1, y2, y3, y4⟩)
   refine ⟨ys, y1.trans hz1, by simpa using y2, ⟨y3.1, y3.2.imp id fun ⟨g, cap, cur, q1, q2, q3⟩ => ⟨g, cap, cur, q1, by omega, q3⟩⟩, ?_, ?_, ?_⟩
   ·exact Nat.le_trans hext.size y4.size
   ·intro b hb
    rw [y4.block b (Nat.lt_of_lt_of_le hb hext.size) (hne b hb)]; exact hext.old b hb
   ·have h1 : oof w' = oof wr := by unfold oof; rw [y4.os, y4.output]
    exact h1.trans hext.oo
  ·intro e he w2 hr2 hs2 hkeep hoof hen
   have he := Array.mem_toList_iff.2 he
   have hme := mem_left he
   obtain ⟨x, hx, hev⟩ : ∃ x ∈ xs, Value.agg (b5 x).toArray = e.val := by
    have := List.mem_map_of_mem (f := fun e : MapEntry => e.val) hme.1
    rw [hval] at this
    simpa using this
   have hcl : col.length + 1 ≤ xs.length := by
    have h1 := hperm.length_eq
    have h2 : 0 < (leftOf ms seen).toList.length := List.length_pos_of_mem he
    rw [List.length_append, hml] at h1
    omega
   rw [← hev] at hen ⊢
   simp only [b5, List.map] at hen ⊢
   have hrow2 : w2.ownsRow (w.heap.size + 1) 47 3 u14 col.length (col.flatMap fun e => e.val.cells.toList) := by
    refine ⟨hrow.1, hrow.2.imp id fun ⟨g, cap, cur, q1, q2, q3, q4⟩ => ⟨g, cap, cur, q1, q2, ?_, q4⟩⟩
    rw [hkeep g (by omega)]; exact q3
   have hext2 : Ext w w2 := ⟨by omega, fun b hb => (hkeep b (by omega)).trans (hext.old b hb), hoof.trans hext.oo⟩
   have hw2 : w.heap.size < w2.heap.size := Go.E.lt_of_heap hr2
   clear hext hs2 hkeep hoof hc0 hsz1
   go_wp2_with (first
    | (at_builtin; go_loud (refine wpList_append_own _ rfl _ _ 43 rfl (w.heap.size + 1) 47 i0 (.agg #[.string ⟨#[]⟩, .int .u64 0, .int .u64 0]) 3 32 (by kernel_rfl) hi hz0 hz1 hz2 rfl (by decide) _ _ _ rfl ((hrow2.alloc _).alloc _) ⟨w2.heap.size + 1, 0, none⟩ 1 1 (b5 x) rfl rfl (by have := z8x (w2.alloc (.cells #[.string ⟨x.1.toArray⟩, .int .u64 x.2.1, .int .u64 x.2.2] 47)) 47 x; simpa using this) (fun u hu => by simp [b5] at hu; rcases hu with rfl | rfl | rfl <;> rfl) (by unfold maxLen; omega) (by omega) (by simp; omega) ?_; intro v' w3 hown' hgrow3 hnil3))
    | go_in)
   have hgrow3 : ((w2.alloc (.cells #[.string ⟨x.1.toArray⟩, .int .u64 x.2.1, .int .u64 x.2.2] 47)).alloc (.cells #[.string ⟨x.1.toArray⟩, .int .u64 x.2.1, .int .u64 x.2.2] 47)).grownBy w3 u14.ownBlock := hgrow3
   have hold : ∀ b, b < w2.heap.size → some b ≠ u14.ownBlock → w3.heap[b]? = w2.heap[b]? := fun b hb hne => by
    rw [hgrow3.block b (by simp; omega) hne, heap_alloc_old _ _ (by simp; omega), heap_alloc_old _ _ hb]
   have hne : ∀ b, b ≤ w.heap.size → some b ≠ u14.ownBlock := fun b hb h => by have := (hrow2.lt b h.symm).1; omega
   have hr3 : w3.heap[w.heap.size]? = some (.mapIter (some bm) clock (seen.push e.born) clock) := by rw [hold _ hw2 (hne _ (Nat.le_refl _))]; exact hr2
   refine ⟨⟨_, col ++ [e], clock, hr3, Nat.le_refl _, ?_, ?_, ⟨?_, ?_, ?_⟩, ?_⟩, ?_⟩
   ·rw [List.append_assoc]
    exact ((y40 hnd he).symm.append_left col).trans hperm
   ·rw [List.length_append, List.flatMap_append]
    simpa [← hev, Value.cells, b5] using hown'
   ·have := hgrow3.size; simp at this; omega
   ·intro b hb
    rw [hold b (by omega) (hne b (by omega))]; exact hext2.old b hb
   ·have h1 : oof w3 = oof w2 := by unfold oof; rw [hgrow3.os, hgrow3.output]; rfl
    exact h1.trans hext2.oo
   ·have := hgrow3.size; simp at this; omega
   ·have e1 : w3.iterSeen w.heap.size = seen.push e.born := by unfold World.iterSeen; rw [hr3]
    have e2 : wr.iterSeen w.heap.size = seen := by unfold World.iterSeen; rw [hr]
    rw [e1, e2]
    exact left_shrinks ms seen e he
def q1m : C → List UInt8
 | .agg (.str l :: _) => l
 | _ => []
def ndB : List (List UInt8) → Bool
 | [] => true
 | x :: l => !l.contains x && ndB l
def q5J (m : Es) : List C := (m.map (·.2)).mergeSort fun x y => !Op.bytesLess (q1m y) (q1m x)
def okL (m : Es) : Bool := Nat.ble m.length 1048576 && ndB (m.map fun e => q1m e.2)
def y3E (s : S) (v : List C) : S := { s with env := [(4, .d (.slice 32 x8) (.slice v)), (5, .d (.int .i64) (.int 0))] }
noncomputable def z96 {R : Type} (s : S) (k : S → Option R) : Option R :=
 match s.get 6 with
 | .mp key => (match s.obj key with
  | some (.map kτ vτ es) => (match s.get 14 with
   | .nilc => if kτ = .str ∧ vτ = x8 ∧ q2T x8 es = true then bif okL (unE es) then k (y3E s (q5J (unE es))) else none else none
   | _ => none)
  | _ => none)
 | _ => none
def q5R : C → w6
 | .agg [.str l, .int a, .int b] => (l, a, b)
 | _ => default
def Y0 (x : w6) : C := .agg [.str x.1, .int x.2.1, .int x.2.2]
theorem z9k {H : Hp} {vs : List Value} {c : C} (h : z6 H x8 vs c) : vs = b5 (q5R c) ∧ c = Y0 (q5R c) := by
 have h0 : z6 H (.struct 3 [0, 1, 2] [.str, .int .u64, .int .u64]) vs c := h
 simp only [z6, r6] at h0
 obtain ⟨cs, rfl, hl, _, c1, cs1, rfl, _, ⟨l, rfl, r1, _⟩, c2, cs2, rfl, _, ⟨a, rfl, r2, _⟩, c3, cs3, rfl, _, ⟨b, rfl, r3, _⟩, rfl⟩ := h0
 match vs, hl with
 | [x, y, z], _ =>
  simp [chunk, Ty.size] at r1 r2 r3
  subst r1; subst r2; subst r3
  exact ⟨rfl, rfl⟩
theorem z9j {H H' : Hp} {x : w6} (h : z6 H x8 (b5 x) (Y0 x)) : z6 H' x8 (b5 x) (Y0 x) := by
 have h0 : z6 H (.struct 3 [0, 1, 2] [.str, .int .u64, .int .u64]) (b5 x) (Y0 x) := h
 show z6 H' (.struct 3 [0, 1, 2] [.str, .int .u64, .int .u64]) (b5 x) (Y0 x)
 simp only [z6, r6] at h0 ⊢
 exact h0
theorem z3q : ∀ (ys : List w6) (i : Nat) (x : w6), ys[i]? = some x → chunk (ys.flatMap b5) (i * 3) 3 = b5 x
 | [], i, x, h => by simp at h
 | y :: ys, 0, x, h => by
  simp at h; subst h
  simp [chunk, b5]
 | y :: ys, i + 1, x, h => by
  have ih := z3q ys i x (by simpa using h)
  unfold chunk at ih ⊢
  rw [List.flatMap_cons, List.drop_append, show (b5 y).length = 3 from rfl, List.drop_of_length_le (by simp [b5]; omega), List.nil_append, show (i + 1) * 3 - 3 = i * 3 by omega]
  exact ih
theorem z7B : ∀ ys : List w6, (ys.flatMap b5).length = ys.length * 3
 | [] => rfl
 | y :: ys => by rw [List.flatMap_cons, List.length_append, z7B ys]; simp [b5]; omega
theorem y7H : ∀ {l : List (List UInt8)}, ndB l = true → l.Nodup
 | [], _ => List.nodup_nil
 | x :: l, h => by
  simp only [ndB, Bool.and_eq_true, Bool.not_eq_true', List.contains_eq_mem, decide_eq_false_iff_not] at h
  exact List.nodup_cons.2 ⟨h.1, y7H h.2⟩
theorem y4R {α β : Type} (f : α → β) : ∀ {l : List α}, (l.map f).Nodup → ∀ x ∈ l, ∀ y ∈ l, f x = f y → x = y
 | [], _, x, hx, _, _, _ => by cases hx
 | z :: l, hn, x, hx, y, hy, e => by
  simp only [List.map_cons, List.nodup_cons] at hn
  rcases List.mem_cons.1 hx with hx | hx <;> rcases List.mem_cons.1 hy with hy | hy
  ·rw [hx, hy]
  ·exact absurd (by rw [← hx, e]; exact List.mem_map_of_mem hy) hn.1
  ·exact absurd (by rw [← hy, ← e]; exact List.mem_map_of_mem hx) hn.1
  ·exact y4R f hn.2 x hx y hy e
theorem z06 {m : Es} {ys : List w6} (hok : okL m = true) (hm : ∀ e ∈ m, e.2 = Y0 (q5R e.2)) (hp : ys.Perm (m.map fun e => q5R e.2)) (hs : ∀ i j, i < j → j < ys.length → ltOf cfL ys[j]! ys[i]! = false) : ys.map Y0 = q5J m := by
 simp only [okL, Bool.and_eq_true] at hok
 have hnd := y7H hok.2
 have hperm : (ys.map Y0).Perm (m.map (·.2)) := by
  have := hp.map Y0
  rw [List.map_map] at this
  rw [show m.map (·.2) = m.map (Y0 ∘ fun e => q5R e.2) from List.map_congr_left fun e he => hm e he]
  exact this
 have hinj : ∀ x ∈ m.map (·.2), ∀ y ∈ m.map (·.2), q1m x = q1m y → x = y := by
  intro x hx y hy e
  have h1 : (m.map (·.2)).map q1m = m.map fun e => q1m e.2 := by rw [List.map_map]; rfl
  rw [← h1] at hnd
  exact y4R q1m hnd x hx y hy e
 refine List.Perm.eq_of_pairwise (le := fun x y => (!Op.bytesLess (q1m y) (q1m x)) = true) (fun a b ha hb h1 h2 => ?_) ?_ (List.pairwise_mergeSort ?_ ?_ _) (hperm.trans (List.mergeSort_perm _ _).symm)
 ·refine hinj a (hperm.mem_iff.1 ha) b ((List.mergeSort_perm _ _).mem_iff.1 hb) ?_
  simp only [Bool.not_eq_true'] at h1 h2
  rcases z8M (q1m a) (q1m b) with h | h | h
  ·rw [h] at h2; cases h2
  ·exact h
  ·rw [h] at h1; cases h1
 ·rw [List.pairwise_map]
  refine List.pairwise_iff_getElem.2 fun i j hi hj hij => ?_
  have := hs i j hij hj
  rw [z1A, getElem!_pos ys j hj, getElem!_pos ys i hi] at this
  simpa [Y0, q1m] using this
 ·intro a b c h1 h2
  simp only [Bool.not_eq_true'] at h1 h2 ⊢
  exact y6b h2 h1
 ·intro a b
  simp only [Bool.or_eq_true, Bool.not_eq_true']
  cases h : Op.bytesLess (q1m b) (q1m a) with
  | false => exact .inl rfl
  | true =>
   right
   cases h' : Op.bytesLess (q1m a) (q1m b) with
   | false => rfl
   | true => have := z5M _ _ _ h h'; rw [z5N] at this; cases this
theorem y4X {R : Type} (fn : Func) (c : Code) (hf : (X0 gl0).P.funcs[16]? = some fn) (hb : fn.body = some c) : y5Q (R := R) (X0 gl0) fn.ntmps (z0m 4 c) z96 := by
 have hfn : Tryd.f16 = fn := Option.some.inj ((show (X0 gl0).P.funcs[16]? = some Tryd.f16 from Tryd.func16).symm.trans hf)
 subst hfn
 intro s k r h
 unfold z96 at h
 split at h
 ·rename_i key h6
  split at h
  ·rename_i kτ vτ es hobj
   split at h
   ·rename_i h14
    simp only [Option.ite_none_right_eq_some] at h
    obtain ⟨⟨rfl, rfl, hall⟩, h⟩ := h
    cases hok : okL (unE es) with
    | false => rw [hok] at h; cases h
    | true =>
     rw [hok, cond_true] at h
     refine ⟨_, h, rfl, fun A' hA Ψ hΨ => ?_⟩
     intro Γ0 a w hat
     obtain ⟨Γ, g1, g3, c0, hs, hn, hdf, hAo⟩ := hat
     obtain ⟨bm, hι, h6v⟩ := q62 (show q9 Γ (.mp key) (a.tmps.getD 6 undef) from h6 ▸ hs 6)
     have h14v := Y1 (show q9 Γ .nilc (a.tmps.getD 14 undef) from h14 ▸ hs 14)
     obtain ⟨b', ms, clock, e1, _, _, e4, e5, e6, e7, e8⟩ := c0.own hι (W0 hA hobj)
     rw [hι] at e1; cases e1
     have hlen : (unE es).length = ms.size := by simp [unE, e5]
     have hes : ∀ i (h : i < es.length), es[i] = ((unE es)[i]'(by simpa [unE] using h) |>.1, .d x8 ((unE es)[i]'(by simpa [unE] using h) |>.2)) := by
      intro i h
      have hd := y0Z hall
      have : (dE x8 (unE es))[i]? = es[i]? := by rw [hd]
      rw [List.getElem?_eq_getElem h] at this
      simp only [dE, List.getElem?_map, List.getElem?_eq_getElem (show i < (unE es).length by simpa [unE] using h), Option.map_some, Option.some.injEq] at this
      exact this.symm
     have hrep : ∀ i (h : i < ms.size) (h' : i < (unE es).length), z6 Γ.H x8 ms[i].val.cells.toList (unE es)[i].2 ∧ w4 ms[i].val = true := by
      intro i h h'
      obtain ⟨_, _, a3, a4, _⟩ := e6 i ms[i] (es[i]'(by omega)) (Array.getElem?_eq_getElem h) (List.getElem?_eq_getElem (by omega))
      rw [hes i (by omega)] at a3
      simp only [q8] at a3
      exact ⟨a3, a4⟩
     have hval : ms.toList.map (·.val) = ((unE es).map fun e => q5R e.2).map fun x => Value.agg (b5 x).toArray := by
      apply List.ext_getElem
      ·simp [hlen]
      ·intro i h1 h2
       have h1' : i < ms.size := by simpa using h1
       obtain ⟨r1, r2⟩ := hrep i h1' (by omega)
       obtain ⟨r3, _⟩ := z9k r1
       simp only [List.getElem_map, Array.getElem_toList]
       cases hv : ms[i].val with
       | agg vs => rw [hv] at r3; simp only [Value.cells] at r3; rw [← r3]
       | _ => rw [hv] at r2; cases r2
     have hok' := hok
     simp only [okL, Bool.and_eq_true] at hok'
     have hmL : ∀ e ∈ unE es, e.2 = Y0 (q5R e.2) ∧ z6 Γ.H x8 (b5 (q5R e.2)) e.2 := by
      intro e he
      obtain ⟨i, hi, rfl⟩ := List.mem_iff_getElem.1 he
      obtain ⟨r1, _⟩ := hrep i (by omega) hi
      obtain ⟨r3, r4⟩ := z9k r1
      exact ⟨r4, r3 ▸ r1⟩
     have hborn : ∀ x ∈ ms.toList, x.born < clock := by
      intro x hx
      obtain ⟨i, hi, rfl⟩ := List.mem_iff_getElem.1 hx
      exact e7 i _ (by simp at hi; simp [hi])
     have hnd : (ms.toList.map (·.born)).Nodup := by
      rw [List.nodup_iff_pairwise_ne, List.pairwise_map]
      refine List.pairwise_iff_getElem.2 fun i j hi hj hij h => ?_
      have := e8 i j ms[i] ms[j] (Array.getElem?_eq_getElem _) (Array.getElem?_eq_getElem _) (by simpa using h)
      omega
     have key := y59 w a bm ms clock _ e4 hborn hnd hval (by simpa using Nat.le_of_ble_eq_true hok'.1) hn h6v h14v (z0m 4 c) (by rw [hb]; rfl)
     refine wp_mono key ?_
     rintro e a' w' ⟨rfl, q1, q2, q3, ys, q4, q5, q6, q7⟩
     refine ⟨_, hΨ, ?_⟩
     have hsrt := z06 hok (fun e he => (hmL e he).1) q4 q5
     have hys : ys.length ≤ 1048576 := by rw [q4.length_eq]; simpa using Nat.le_of_ble_eq_true hok'.1
     have hR : ∀ (H : Hp) x, x ∈ ys → z6 H x8 (b5 x) (Y0 x) := by
      intro H x hx
      obtain ⟨e, he, rfl⟩ := List.mem_map.1 (q4.mem_iff.1 hx)
      have := hmL e he
      exact z9j (this.1 ▸ this.2)
     have fin : ∀ Γ1, GLe Γ Γ1 → r8 Γ Γ1 → z8 Γ1 w' (s.wA A') → z6 Γ1.H (.slice 32 x8) [a'.tmps.getD 4 undef] (.slice (ys.map Y0)) → w4 (a'.tmps.getD 4 undef) = false → At (X0 gl0) Tryd.f16.ntmps Γ0 ((y3E s (q5J (unE es))).wA A') a' w' := by
      intro Γ1 p1 p2 p3 p4 p5
      refine ⟨Γ1, g1.trans p1, p1.gl.trans g3, p3.env _, fun i => ?_, q1, q2.trans hdf, hAo⟩
      show q9 Γ1 (S.get (y3E s _) i) _
      unfold y3E S.get
      by_cases h4 : i = 4
      ·subst h4
       show q9 Γ1 (.d (.slice 32 x8) (.slice (q5J (unE es)))) _
       rw [← hsrt]
       exact j6.2 ⟨by rw [x5 p5]; exact p4, p5⟩
      ·by_cases h5 : i = 5
       ·subst h5
        rw [q3]
        exact v8 (by decide) (by decide)
       ·have : Go.E.look [(4, V.d (.slice 32 x8) (.slice (q5J (unE es)))), (5, .d (.int .i64) (.int 0))] i = none := by
         simp [Go.E.look, Ne.symm h4, Ne.symm h5]
        simp only [this, Option.getD_none]
        trivial
     rcases q6.2 with ⟨hv, hn0⟩ | ⟨g, cap, cur, hv, hbase, hg, u1, u2, u3, u4⟩
     ·have hy0 : ys = [] := List.eq_nil_of_length_eq_zero hn0
      subst hy0
      rw [hv] at fin
      refine fin Γ (.refl Γ) (.refl Γ) (c0.ext q7) ?_ rfl
      simp only [z6]
      exact ⟨none, 0, 0, [], rfl, rfl, rfl, Nat.le_refl _, by decide, by decide, .inl rfl⟩
     ·rw [hv] at fin
      have hgl : g < w'.heap.size := Go.E.lt_of_heap hg
      let w1 : World := { w' with heap := w'.heap.extract 0 g }
      have hs1 : w1.heap.size = g := by simp [w1]; omega
      have x1 : Ext w w1 := ⟨by omega, fun b hb => by
       rw [← q7.old b hb]
       simp [w1, Array.getElem?_extract]
       omega, q7.oo⟩
      have x2 : Ext w1 w' := ⟨by omega, fun b hb => by
       have : b < g := by omega
       simp [w1, Array.getElem?_extract]
       omega, rfl⟩
      obtain ⟨k1, k2, k3⟩ := (c0.ext x1).q0N x2 (l := ys.flatMap b5) (r := cur.toList.drop (ys.length * 3)) (by rw [hs1]; exact hg) (by rw [← u4, List.take_append_drop])
      refine fin _ k3 k2 k1 ?_ rfl
      simp only [z6]
      refine ⟨_, ys.length, cap, ys.map Y0, rfl, rfl, by simp, u1, u2, by omega, .inr ⟨g, 0, ys.flatMap b5, rfl, ?_, ?_, fun i c hi => ?_⟩⟩
      ·rw [← hs1]; exact w9 _ _ _
      ·rw [z7B]
       show 0 + ys.length * 3 ≤ _
       omega
      ·rw [List.getElem?_map] at hi
       cases hy : ys[i]? with
       | none => rw [hy] at hi; cases hi
       | some x =>
        rw [hy] at hi
        cases hi
        show z6 _ x8 (chunk (ys.flatMap b5) (0 + i * 3) 3) _
        rw [Nat.zero_add, z3q ys i x hy]
        exact hR _ x (List.mem_of_getElem? hy)
   ·cases h
  ·cases h
 ·cases h
open Go Go.E
set_option linter.unusedVariables false
noncomputable def y1D : Hints := [([1, 0, 1, 1], ⟨[], [(3, .sl 32 y5 5003)], [], [], [], []⟩),
  ([4, 1, 0, 1, 1], ⟨[9, 10], [(3, .sl 32 y5 5003), (11, .d (.int .i64))], [], [], [], []⟩),
  ([1, 0, 1, 1, 4, 0, 1, 1, 5, 4, 1, 0, 1, 1], ⟨[6, 9, 10, 11], [(3, .sl 32 y5 5003)], [], [(.l 6, .box (.agg y5 [.d (.int .u64), (.ts 32 r9)]))], [], []⟩),
  ([4, 1, 0, 1, 1, 4, 0, 1, 1, 5, 4, 1, 0, 1, 1], ⟨[6, 9, 10, 11, 19, 20], [(3, .sl 32 y5 5003), (21, .d (.int .i64))], [], [(.l 6, .box (.agg y5 [.d (.int .u64), (.ts 32 r9)]))], [], []⟩),
  ([9], ⟨[], [(2, .sl 32 y5 5002)], [], [], [], []⟩)]
noncomputable def z3d (N : Nat) : OvS (X0 gl0) where
 g R := []
 ok := fun R => fun _ h => nomatch h
noncomputable def q5T {R : Type} (N : Nat) (k4 : KD R) : KD R → List C → List Es → Option R := (fun k5 d2 m2 => (bif decide (C.toInt (dk d2 6) < C.toInt (dk d2 4)) then (if 0 ≤ C.toInt (dk d2 6) ∧ C.toInt (dk d2 6) < (↑(List.length (C.elems (dk d2 3))) : Int) then (bif Nat.beq (List.length (C.elems (dk d2 8))) (List.length (C.elems (dk d2 8))) then (if (List.length (C.elems (dk d2 8)) + 1) * 32 ≤ 140737488355328 ∧ List.length (C.elems (dk d2 8)) + 1 ≤ 9223372036854775807 then (bif Nat.beq (List.length (C.elems (dk d2 8)) + 1) (List.length (C.elems (dk d2 8) ++ [C.set (C.set (C.set (C.agg [C.str [], C.int 0, C.bool false]) 0 (C.get (List.getD (C.elems (dk d2 3)) (Int.toNat (C.toInt (dk d2 6))) C.nil) 0)) 1 (C.get (List.getD (C.elems (dk d2 3)) (Int.toNat (C.toInt (dk d2 6))) C.nil) 1)) 2 (C.get (List.getD (C.elems (dk d2 3)) (Int.toNat (C.toInt (dk d2 6))) C.nil) 2)])) then (bif Nat.beq (List.length (C.elems (dk d2 5))) (List.length (C.elems (dk d2 5))) then (k5 [dk d2 0, dk d2 1, dk d2 2, dk d2 3, dk d2 4, C.slice (C.elems (dk d2 5)), C.int (IntKind.wrap IntKind.i64 (C.toInt (dk d2 6) + 1)), dk d2 7, C.slice (C.elems (dk d2 8) ++ [C.set (C.set (C.set (C.agg [C.str [], C.int 0, C.bool false]) 0 (C.get (List.getD (C.elems (dk d2 3)) (Int.toNat (C.toInt (dk d2 6))) C.nil) 0)) 1 (C.get (List.getD (C.elems (dk d2 3)) (Int.toNat (C.toInt (dk d2 6))) C.nil) 1)) 2 (C.get (List.getD (C.elems (dk d2 3)) (Int.toNat (C.toInt (dk d2 6))) C.nil) 2)])] []) else none) else none) else none) else none) else none) else (bif Nat.beq (List.length (C.elems (dk d2 5))) (List.length (C.elems (dk d2 5))) then (k4 [dk d2 0, dk d2 1, dk d2 2, C.slice (C.elems (dk d2 5)), dk d2 7, C.slice (C.elems (dk d2 8))] []) else none)))
noncomputable def q8D {R : Type} (N : Nat) (k2 : KD R) : KD R → List C → List Es → Option R := (fun k3 d1 m1 => (bif decide (C.toInt (dk d1 3) < C.toInt (dk d1 1)) then (if 0 ≤ C.toInt (dk d1 3) ∧ C.toInt (dk d1 3) < (↑(List.length (C.elems (dk d1 0))) : Int) then (jn (fun d2 m2 => (bif Nat.beq (List.length (C.elems (dk d2 3))) (List.length (C.elems (dk d2 3))) then (if (List.length (C.elems (dk d2 3)) + 1) * 32 ≤ 140737488355328 ∧ List.length (C.elems (dk d2 3)) + 1 ≤ 9223372036854775807 then (bif Nat.beq (List.length (C.elems (dk d2 3)) + 1) (List.length (C.elems (dk d2 3) ++ [C.agg [dk d2 4, C.slice (C.elems (dk d2 5))]])) then (k3 [dk d2 0, dk d2 1, C.slice (C.elems (dk d2 3) ++ [C.agg [dk d2 4, C.slice (C.elems (dk d2 5))]]), C.int (IntKind.wrap IntKind.i64 (C.toInt (dk d2 2) + 1))] []) else none) else none) else none)) (fun k4 => (bif Nat.beq (List.length (C.elems (dk d1 2))) (List.length (C.elems (dk d1 2))) then (c4 N (q5T N k4) [dk d1 0, dk d1 1, dk d1 3, C.get (List.getD (C.elems (dk d1 0)) (Int.toNat (C.toInt (dk d1 3))) C.nil) 1, C.int (↑(List.length (C.elems (C.get (List.getD (C.elems (dk d1 0)) (Int.toNat (C.toInt (dk d1 3))) C.nil) 1))) : Int), C.slice (C.elems (dk d1 2)), C.int 0, C.get (List.getD (C.elems (dk d1 0)) (Int.toNat (C.toInt (dk d1 3))) C.nil) 0, C.slice []] []) else none))) else none) else (bif Nat.beq (List.length (C.elems (dk d1 2))) (List.length (C.elems (dk d1 2))) then (k2 [C.slice (C.elems (dk d1 2))] []) else none)))
noncomputable def q3O {R : Type} (N : Nat) (a0 : C) (k1 : KD R) : Option R := (jn (fun d1 m1 => (bif Nat.beq (List.length (C.elems (dk d1 0))) (List.length (C.elems (dk d1 0))) then (k1 [C.slice (C.elems (dk d1 0))] []) else none)) (fun k2 => (c4 N (q8D N k2) [a0, C.int (↑(List.length (C.elems a0)) : Int), C.slice [], C.int 0] [])))
noncomputable def q3s {R : Type} (N : Nat) : C → KD R → Option R := lid "" (q3O N)
theorem z3c {R : Type} (N : Nat) (a0 : C) (k : KD R) : q3s N a0 k = q3O N a0 k := by unfold q3s; rw [Q9]
theorem y0j {R : Type} (N : Nat) (a0 : C) (K : V → List (Key × O) → Option R) : exF (X0 gl0) ((z3d N).ov R) J9 noX (fun f => bif Nat.beq f 10 then y1D else []) N 400 8 10 [.d (.slice 32 y5) a0] A0 K =
  q3s N a0 (fun d1 m1 => K (V.ts 32 y5 (C.elems (dk d1 0))) []) := by
 rw [z3c]
 exact (show _ = jn (fun d1 m1 => (bif Nat.beq (List.length (C.elems (dk d1 0))) (List.length (C.elems (dk d1 0))) then
  (K (V.ts 32 y5 (C.elems (dk d1 0))) [])
 else
  none)) (q3O N a0) by kernel_rfl).trans ((s5 _ _).trans (congrArg (q3O N a0) (funext fun _ => funext fun _ => by simp only [Nat.beq_refl, cond_true])))
noncomputable def q94 (N : Nat) {R : Type} : OvG R := fun xs _ K => match xs with
 | [.d t0 a0] => if t0 = (.slice 32 y5) then q3s N a0 (fun d1 m1 => K (V.ts 32 y5 (C.elems (dk d1 0))) []) else none
 | _ => none
theorem okB {R : Type} (o : OvS (X0 gl0)) {tb hs N n d f xs} {A : Key → Option O} {K : V → List (Key × O) → Option R} {r} (h : exF (X0 gl0) (o.ov R) J9 tb hs N n d f xs A K = some r) : ∃ v L, j7 (X0 gl0) f xs A v L ∧ K v L = some r := y0y (ok0 gl0) (mo gl0) (o.y7D _) (y2t gl0) _ _ _ _ _ _ h
theorem okA {R : Type} (o : OvS (X0 gl0)) {tb hs N n d f xs} {A : Key → Option O} {K : V → List (Key × O) → Option R} {r} (h : exF (X0 gl0) (o.ov R) J9 tb hs N n d f xs A0 K = some r) : ∃ v L, j7 (X0 gl0) f xs A v L ∧ K v L = some r := let ⟨v, L, h1, h2⟩ := okB o h
 ⟨v, L, h1.mono (y0g fun _ => rfl), h2⟩
theorem y1B (N : Nat) {R : Type} : GOk (X0 gl0) 10 (q94 N (R := R)) := by
 intro xs A Kr r hr
 unfold q94 at hr
 split at hr
 ·simp only [Option.ite_none_right_eq_some] at hr
  obtain ⟨hty, hr⟩ := hr
  subst hty
  rw [← y0j] at hr
  exact okA (z3d N) hr
 ·cases hr
noncomputable def z8o : Hints := [([1, 0, 1, 1], ⟨[], [(3, .sl 32 y5 5003)], [], [], [], []⟩),
  ([4, 1, 0, 1, 1], ⟨[9, 10], [(3, .sl 32 y5 5003), (11, .d (.int .i64))], [], [], [], []⟩),
  ([1, 0, 1, 1, 4, 0, 1, 1, 5, 4, 1, 0, 1, 1], ⟨[6, 9, 10, 11], [(3, .sl 32 y5 5003)], [], [(.l 6, .box (.agg y5 [.d (.int .u64), (.ts 32 r9)]))], [], []⟩),
  ([4, 1, 0, 1, 1, 4, 0, 1, 1, 5, 4, 1, 0, 1, 1], ⟨[6, 9, 10, 11, 19, 20], [(3, .sl 32 y5 5003), (21, .d (.int .i64))], [], [(.l 6, .box (.agg y5 [.d (.int .u64), (.ts 32 r9)]))], [], []⟩),
  ([9], ⟨[], [(2, .sl 32 y5 5002)], [], [], [], []⟩)]
noncomputable def z0H (N : Nat) : OvS (X0 gl0) where
 g R := []
 ok := fun R => fun _ h => nomatch h
noncomputable def q39 {R : Type} (N : Nat) (k4 : KD R) : KD R → List C → List Es → Option R := (fun k5 d2 m2 => (bif decide (C.toInt (dk d2 6) < C.toInt (dk d2 4)) then (if 0 ≤ C.toInt (dk d2 6) ∧ C.toInt (dk d2 6) < (↑(List.length (C.elems (dk d2 3))) : Int) then (bif Nat.beq (List.length (C.elems (dk d2 8))) (List.length (C.elems (dk d2 8))) then (if (List.length (C.elems (dk d2 8)) + 1) * 32 ≤ 140737488355328 ∧ List.length (C.elems (dk d2 8)) + 1 ≤ 9223372036854775807 then (bif Nat.beq (List.length (C.elems (dk d2 8)) + 1) (List.length (C.elems (dk d2 8) ++ [C.set (C.set (C.set (C.agg [C.str [], C.int 0, C.bool false]) 0 (C.get (List.getD (C.elems (dk d2 3)) (Int.toNat (C.toInt (dk d2 6))) C.nil) 0)) 1 (C.get (List.getD (C.elems (dk d2 3)) (Int.toNat (C.toInt (dk d2 6))) C.nil) 1)) 2 (C.get (List.getD (C.elems (dk d2 3)) (Int.toNat (C.toInt (dk d2 6))) C.nil) 2)])) then (bif Nat.beq (List.length (C.elems (dk d2 5))) (List.length (C.elems (dk d2 5))) then (k5 [dk d2 0, dk d2 1, dk d2 2, dk d2 3, dk d2 4, C.slice (C.elems (dk d2 5)), C.int (IntKind.wrap IntKind.i64 (C.toInt (dk d2 6) + 1)), dk d2 7, C.slice (C.elems (dk d2 8) ++ [C.set (C.set (C.set (C.agg [C.str [], C.int 0, C.bool false]) 0 (C.get (List.getD (C.elems (dk d2 3)) (Int.toNat (C.toInt (dk d2 6))) C.nil) 0)) 1 (C.get (List.getD (C.elems (dk d2 3)) (Int.toNat (C.toInt (dk d2 6))) C.nil) 1)) 2 (C.get (List.getD (C.elems (dk d2 3)) (Int.toNat (C.toInt (dk d2 6))) C.nil) 2)])] []) else none) else none) else none) else none) else none) else (bif Nat.beq (List.length (C.elems (dk d2 5))) (List.length (C.elems (dk d2 5))) then (k4 [dk d2 0, dk d2 1, dk d2 2, C.slice (C.elems (dk d2 5)), dk d2 7, C.slice (C.elems (dk d2 8))] []) else none)))
noncomputable def q6w {R : Type} (N : Nat) (k2 : KD R) : KD R → List C → List Es → Option R := (fun k3 d1 m1 => (bif decide (C.toInt (dk d1 3) < C.toInt (dk d1 1)) then (if 0 ≤ C.toInt (dk d1 3) ∧ C.toInt (dk d1 3) < (↑(List.length (C.elems (dk d1 0))) : Int) then (jn (fun d2 m2 => (bif Nat.beq (List.length (C.elems (dk d2 3))) (List.length (C.elems (dk d2 3))) then (if (List.length (C.elems (dk d2 3)) + 1) * 32 ≤ 140737488355328 ∧ List.length (C.elems (dk d2 3)) + 1 ≤ 9223372036854775807 then (bif Nat.beq (List.length (C.elems (dk d2 3)) + 1) (List.length (C.elems (dk d2 3) ++ [C.agg [dk d2 4, C.slice (C.elems (dk d2 5))]])) then (k3 [dk d2 0, dk d2 1, C.slice (C.elems (dk d2 3) ++ [C.agg [dk d2 4, C.slice (C.elems (dk d2 5))]]), C.int (IntKind.wrap IntKind.i64 (C.toInt (dk d2 2) + 1))] []) else none) else none) else none)) (fun k4 => (bif Nat.beq (List.length (C.elems (dk d1 2))) (List.length (C.elems (dk d1 2))) then (c4 N (q39 N k4) [dk d1 0, dk d1 1, dk d1 3, C.get (List.getD (C.elems (dk d1 0)) (Int.toNat (C.toInt (dk d1 3))) C.nil) 1, C.int (↑(List.length (C.elems (C.get (List.getD (C.elems (dk d1 0)) (Int.toNat (C.toInt (dk d1 3))) C.nil) 1))) : Int), C.slice (C.elems (dk d1 2)), C.int 0, C.get (List.getD (C.elems (dk d1 0)) (Int.toNat (C.toInt (dk d1 3))) C.nil) 0, C.slice []] []) else none))) else none) else (bif Nat.beq (List.length (C.elems (dk d1 2))) (List.length (C.elems (dk d1 2))) then (k2 [C.slice (C.elems (dk d1 2))] []) else none)))
noncomputable def q2w {R : Type} (N : Nat) (a0 : C) (k1 : KD R) : Option R := (jn (fun d1 m1 => (bif Nat.beq (List.length (C.elems (dk d1 0))) (List.length (C.elems (dk d1 0))) then (k1 [C.slice (C.elems (dk d1 0))] []) else none)) (fun k2 => (c4 N (q6w N k2) [a0, C.int (↑(List.length (C.elems a0)) : Int), C.slice [], C.int 0] [])))
noncomputable def q0w {R : Type} (N : Nat) : C → KD R → Option R := lid "" (q2w N)
theorem z0G {R : Type} (N : Nat) (a0 : C) (k : KD R) : q0w N a0 k = q2w N a0 k := by unfold q0w; rw [Q9]
theorem z6w {R : Type} (N : Nat) (a0 : C) (K : V → List (Key × O) → Option R) : exF (X0 gl0) ((z0H N).ov R) J9 noX (fun f => bif Nat.beq f 15 then z8o else []) N 400 8 15 [.d (.slice 32 y5) a0] A0 K =
  q0w N a0 (fun d1 m1 => K (V.ts 32 y5 (C.elems (dk d1 0))) []) := by
 rw [z0G]
 exact (show _ = jn (fun d1 m1 => (bif Nat.beq (List.length (C.elems (dk d1 0))) (List.length (C.elems (dk d1 0))) then
  (K (V.ts 32 y5 (C.elems (dk d1 0))) [])
 else
  none)) (q2w N a0) by kernel_rfl).trans ((s5 _ _).trans (congrArg (q2w N a0) (funext fun _ => funext fun _ => by simp only [Nat.beq_refl, cond_true])))
noncomputable def q7y (N : Nat) {R : Type} : OvG R := fun xs _ K => match xs with
 | [.d t0 a0] => if t0 = (.slice 32 y5) then q0w N a0 (fun d1 m1 => K (V.ts 32 y5 (C.elems (dk d1 0))) []) else none
 | _ => none
theorem z8m (N : Nat) {R : Type} : GOk (X0 gl0) 15 (q7y N (R := R)) := by
 intro xs A Kr r hr
 unfold q7y at hr
 split at hr
 ·simp only [Option.ite_none_right_eq_some] at hr
  obtain ⟨hty, hr⟩ := hr
  subst hty
  rw [← z6w] at hr
  exact okA (z0H N) hr
 ·cases hr
noncomputable def z6u : Hints := [([1, 0, 1, 1], ⟨[0], [(3, .d (.int .i64))], [], [], [], []⟩),
  ([4, 1, 0, 1, 1], ⟨[0, 8, 9], [(3, .d (.int .i64)), (10, .d (.int .i64))], [], [], [], []⟩),
  ([1, 1, 4, 0, 1, 1, 5, 4, 1, 0, 1, 1], ⟨[0, 8, 9, 10], [(3, .d (.int .i64))], [], [], [], []⟩),
  ([4, 1, 1, 4, 0, 1, 1, 5, 4, 1, 0, 1, 1], ⟨[0, 8, 9, 10, 15, 16], [(3, .d (.int .i64)), (17, .d (.int .i64))], [], [], [], []⟩),
  ([0, 1, 1, 1], ⟨[], [(2, .d .bool)], [], [], [], []⟩),
  ([9], ⟨[], [(2, .d .bool)], [], [], [], []⟩)]
noncomputable def q9d (N : Nat) : OvS (X0 gl0) where
 g R := []
 ok := fun R => fun _ h => nomatch h
noncomputable def q17 {R : Type} (N : Nat) (k4 : KD R) : KD R → List C → List Es → Option R := (fun k5 d2 m2 => (bif decide (C.toInt (dk d2 7) < C.toInt (dk d2 5)) then (if 0 ≤ C.toInt (dk d2 7) ∧ C.toInt (dk d2 7) < (↑(List.length (C.elems (dk d2 4))) : Int) then (k5 [dk d2 0, dk d2 1, dk d2 2, dk d2 3, dk d2 4, dk d2 5, C.int (IntKind.wrap IntKind.i64 (C.toInt (dk d2 6) + IntKind.wrap IntKind.i64 (1 + (↑(List.length (C.toStr (C.get (List.getD (C.elems (dk d2 4)) (Int.toNat (C.toInt (dk d2 7))) C.nil) 0))) : Int)))), C.int (IntKind.wrap IntKind.i64 (C.toInt (dk d2 7) + 1))] []) else none) else (k4 [dk d2 0, dk d2 1, dk d2 2, dk d2 3, dk d2 6] [])))
noncomputable def q3u {R : Type} (N : Nat) (k2 : KD R) : KD R → List C → List Es → Option R := (fun k3 d1 m1 => (bif decide (C.toInt (dk d1 4) < C.toInt (dk d1 2)) then (if 0 ≤ C.toInt (dk d1 4) ∧ C.toInt (dk d1 4) < (↑(List.length (C.elems (dk d1 1))) : Int) then (jn (fun d2 m2 => (k3 [dk d2 0, dk d2 1, dk d2 2, dk d2 4, C.int (IntKind.wrap IntKind.i64 (C.toInt (dk d2 3) + 1))] [])) (fun k4 => (c4 N (q17 N k4) [dk d1 0, dk d1 1, dk d1 2, dk d1 4, C.get (List.getD (C.elems (dk d1 1)) (Int.toNat (C.toInt (dk d1 4))) C.nil) 1, C.int (↑(List.length (C.elems (C.get (List.getD (C.elems (dk d1 1)) (Int.toNat (C.toInt (dk d1 4))) C.nil) 1))) : Int), dk d1 3, C.int 0] []))) else none) else (k2 [dk d1 0, dk d1 3] [])))
noncomputable def q3t {R : Type} (N : Nat) (a0 : C) (k1 : KD R) : Option R := (jn (fun d1 m1 => (jn (fun d2 m2 => (k1 [C.bool (C.toBool (dk d2 0))] [])) (fun k2 => (bif decide (C.toInt (dk d1 1) ≤ 5000) then (k2 [C.bool (decide ((↑(List.length (C.elems (dk d1 0))) : Int) ≤ 200))] []) else (k2 [C.bool false] []))))) (fun k2 => (c4 N (q3u N k2) [a0, a0, C.int (↑(List.length (C.elems a0)) : Int), C.int 0, C.int 0] [])))
noncomputable def q1C {R : Type} (N : Nat) : C → KD R → Option R := lid "" (q3t N)
theorem q9c {R : Type} (N : Nat) (a0 : C) (k : KD R) : q1C N a0 k = q3t N a0 k := by unfold q1C; rw [Q9]
theorem z4Z {R : Type} (N : Nat) (a0 : C) (K : V → List (Key × O) → Option R) : exF (X0 gl0) ((q9d N).ov R) J9 noX (fun f => bif Nat.beq f 8 then z6u else []) N 400 8 8 [.d (.slice 32 y5) a0] A0 K =
  q1C N a0 (fun d1 m1 => K (V.d Ty.bool (C.bool (C.toBool (dk d1 0)))) []) := by
 rw [q9c]
 exact (show _ = jn (fun d1 m1 => (K (V.d Ty.bool (C.bool (C.toBool (dk d1 0)))) [])) (q3t N a0) by kernel_rfl).trans (s5 _ _)
noncomputable def q6v (N : Nat) {R : Type} : OvG R := fun xs _ K => match xs with
 | [.d t0 a0] => if t0 = (.slice 32 y5) then q1C N a0 (fun d1 m1 => K (V.d Ty.bool (C.bool (C.toBool (dk d1 0)))) []) else none
 | _ => none
theorem z6s (N : Nat) {R : Type} : GOk (X0 gl0) 8 (q6v N (R := R)) := by
 intro xs A Kr r hr
 unfold q6v at hr
 split at hr
 ·simp only [Option.ite_none_right_eq_some] at hr
  obtain ⟨hty, hr⟩ := hr
  subst hty
  rw [← z4Z] at hr
  exact okA (q9d N) hr
 ·cases hr
noncomputable def z9X : Hints := [([9], ⟨[], [(4, .d (.int .u64)), (5, .d (.int .i64))], [], [], [], []⟩)]
noncomputable def z1s (N : Nat) : OvS (X0 gl0) where
 g R := []
 ok := fun R => fun _ h => nomatch h
noncomputable def q4Q {R : Type} (N : Nat) (a0 a1 : C) (k1 : KD R) : Option R := (bif !decide ((C.toInt a0 + C.toInt a1) / 18446744073709551616 = 0) then (k1 [C.int 0, C.int 11] []) else (k1 [C.int ((C.toInt a0 + C.toInt a1) % 18446744073709551616), C.int 0] []))
noncomputable def q0p {R : Type} (N : Nat) : C → C → KD R → Option R := lid "" (q4Q N)
theorem z1r {R : Type} (N : Nat) (a0 a1 : C) (k : KD R) : q0p N a0 a1 k = q4Q N a0 a1 k := by unfold q0p; rw [Q9]
theorem z8l {R : Type} (N : Nat) (a0 a1 : C) (K : V → List (Key × O) → Option R) : exF (X0 gl0) ((z1s N).ov R) J9 noX (fun f => bif Nat.beq f 30 then z9X else []) N 400 8 30 [.d (.int .u64) a0, .d (.int .u64) a1] A0 K =
  q0p N a0 a1 (fun d1 m1 => K (V.tup [V.d (Ty.int IntKind.u64) (dk d1 0), V.d (Ty.int IntKind.i64) (dk d1 1)]) []) := by
 rw [z1r]
 exact (show _ = jn (fun d1 m1 => (K (V.tup [V.d (Ty.int IntKind.u64) (dk d1 0), V.d (Ty.int IntKind.i64) (dk d1 1)]) [])) (q4Q N a0 a1) by kernel_rfl).trans (s5 _ _)
noncomputable def q5P (N : Nat) {R : Type} : OvG R := fun xs _ K => match xs with
 | [.d t0 a0, .d t1 a1] => if t0 = (.int .u64) ∧ t1 = (.int .u64) then q0p N a0 a1 (fun d1 m1 => K (V.tup [V.d (Ty.int IntKind.u64) (dk d1 0), V.d (Ty.int IntKind.i64) (dk d1 1)]) []) else none
 | _ => none
theorem z1t (N : Nat) {R : Type} : GOk (X0 gl0) 30 (q5P N (R := R)) := by
 intro xs A Kr r hr
 unfold q5P at hr
 split at hr
 ·simp only [Option.ite_none_right_eq_some] at hr
  obtain ⟨hty, hr⟩ := hr
  obtain ⟨rfl, rfl⟩ := hty
  rw [← z8l] at hr
  exact okA (z1s N) hr
 ·cases hr
noncomputable def q8H : Hints := [([1, 0, 1], ⟨[2, 3], [], [], [], [], []⟩),
  ([4, 1, 0, 1], ⟨[2, 3, 9, 10], [(11, .d (.int .i64))], [], [], [], []⟩),
  ([9], ⟨[], [(2, .as (.ptr (.l 2) [] (.int .u64))), (3, .as (.ptr (.l 3) [] (.int .u64))), (4, .d (.int .i64))], [], [(.l 2, .box (.d (.int .u64))), (.l 3, .box (.d (.int .u64)))], [], []⟩)]
noncomputable def q3S (N : Nat) : OvS (X0 gl0) where
 g R := [(30, q5P N)]
 ok := fun R => List.forall_mem_cons.2 ⟨z1t N, fun _ h => nomatch h⟩
noncomputable def q0s {R : Type} (N : Nat) (k1 : KD R) (k2 : KD R) : KD R → List C → List Es → Option R := (fun k3 d1 m1 => (bif decide (C.toInt (dk d1 2) < C.toInt (dk d1 1)) then (if 0 ≤ C.toInt (dk d1 2) ∧ C.toInt (dk d1 2) < (↑(List.length (C.elems (dk d1 0))) : Int) then (bif C.toBool (C.get (List.getD (C.elems (dk d1 0)) (Int.toNat (C.toInt (dk d1 2))) C.nil) 2) then (q0p N (dk d1 4) (C.get (List.getD (C.elems (dk d1 0)) (Int.toNat (C.toInt (dk d1 2))) C.nil) 1) (fun d2 m2 => (bif !decide (C.toInt (dk d2 1) = 0) then (k1 [dk d2 1, C.int 0, C.int 0] []) else (k3 [dk d1 0, dk d1 1, C.int (IntKind.wrap IntKind.i64 (C.toInt (dk d1 2) + 1)), dk d1 3, dk d2 0] [])))) else (q0p N (dk d1 3) (C.get (List.getD (C.elems (dk d1 0)) (Int.toNat (C.toInt (dk d1 2))) C.nil) 1) (fun d2 m2 => (bif !decide (C.toInt (dk d2 1) = 0) then (k1 [dk d2 1, C.int 0, C.int 0] []) else (k3 [dk d1 0, dk d1 1, C.int (IntKind.wrap IntKind.i64 (C.toInt (dk d1 2) + 1)), dk d2 0, dk d1 4] []))))) else none) else (k2 [dk d1 3, dk d1 4] [])))
noncomputable def q0r {R : Type} (N : Nat) (a0 : C) (k1 : KD R) : Option R := (jn (fun d1 m1 => (k1 [C.int 0, dk d1 0, dk d1 1] [])) (fun k2 => (c4 N (q0s N k1 k2) [C.get a0 1, C.int (↑(List.length (C.elems (C.get a0 1))) : Int), C.int 0, Q1 (Ty.int IntKind.u64), Q1 (Ty.int IntKind.u64)] [])))
noncomputable def Y3 {R : Type} (N : Nat) : C → KD R → Option R := lid "" (q0r N)
theorem q3R {R : Type} (N : Nat) (a0 : C) (k : KD R) : Y3 N a0 k = q0r N a0 k := by unfold Y3; rw [Q9]
theorem q7Z {R : Type} (N : Nat) (a0 : C) (K : V → List (Key × O) → Option R) : exF (X0 gl0) ((q3S N).ov R) J9 (fun f r => bif Nat.beq f 29 then (bif Nat.beq r 0 then [(1, 5)] else bif Nat.beq r 7 then [(24, 7), (6, 6)] else []) else []) (fun f => bif Nat.beq f 29 then q8H else []) N 400 8 29 [.d y5 a0] A0 K =
  Y3 N a0 (fun d1 m1 => K (V.tup [V.d (Ty.int IntKind.u64) (dk d1 1), V.d (Ty.int IntKind.u64) (dk d1 2), V.d (Ty.int IntKind.i64) (dk d1 0)]) []) := by
 rw [q3R]
 exact (show _ = jn (fun d1 m1 => (K (V.tup [V.d (Ty.int IntKind.u64) (dk d1 1), V.d (Ty.int IntKind.u64) (dk d1 2), V.d (Ty.int IntKind.i64) (dk d1 0)]) [])) (q0r N a0) by kernel_rfl).trans (s5 _ _)
noncomputable def q19 (N : Nat) {R : Type} : OvG R := fun xs _ K => match xs with
 | [.d t0 a0] => if t0 = y5 then Y3 N a0 (fun d1 m1 => K (V.tup [V.d (Ty.int IntKind.u64) (dk d1 1), V.d (Ty.int IntKind.u64) (dk d1 2), V.d (Ty.int IntKind.i64) (dk d1 0)]) []) else none
 | _ => none
theorem q8G (N : Nat) {R : Type} : GOk (X0 gl0) 29 (q19 N (R := R)) := by
 intro xs A Kr r hr
 unfold q19 at hr
 split at hr
 ·simp only [Option.ite_none_right_eq_some] at hr
  obtain ⟨hty, hr⟩ := hr
  subst hty
  rw [← q7Z] at hr
  exact okA (q3S N) hr
 ·cases hr
noncomputable def q8I : Hints := [([0, 0, 1], ⟨[1], [(17, .d .bool)], [], [], [], []⟩),
  ([1, 0, 1, 1], ⟨[1], [], [], [], [], []⟩),
  ([4, 1, 0, 1, 1], ⟨[1, 19, 20], [(21, .d (.int .i64))], [], [], [], []⟩),
  ([0, 1, 4, 0, 1, 1, 5, 4, 1, 0, 1, 1], ⟨[1, 19, 20, 21], [(33, .d .bool)], [], [], [], []⟩),
  ([9], ⟨[], [(2, .d (.int .i64))], [], [], [], []⟩)]
noncomputable def q3U (N : Nat) : OvS (X0 gl0) where
 g R := [(28, q2V N), (29, q19 N)]
 ok := fun R => List.forall_mem_cons.2 ⟨q7A N, List.forall_mem_cons.2 ⟨q8G N, fun _ h => nomatch h⟩⟩
noncomputable def q0u {R : Type} (N : Nat) (k1 : KD R) (k2 : KD R) : KD R → List C → List Es → Option R := (fun k3 d2 m2 => (bif decide (C.toInt (dk d2 3) < C.toInt (dk d2 2)) then (if 0 ≤ C.toInt (dk d2 3) ∧ C.toInt (dk d2 3) < (↑(List.length (C.elems (dk d2 1))) : Int) then (jn (fun d3 m3 => (bif C.toBool (dk d3 4) then (k1 [C.int 10] []) else (k3 [dk d3 0, dk d3 1, dk d3 2, C.int (IntKind.wrap IntKind.i64 (C.toInt (dk d3 3) + 1))] []))) (fun k4 => (bif !q0P (C.toStr (C.get (List.getD (C.elems (dk d2 1)) (Int.toNat (C.toInt (dk d2 3))) C.nil) 0)) then (k4 [dk d2 0, dk d2 1, dk d2 2, dk d2 3, C.bool true] []) else (k4 [dk d2 0, dk d2 1, dk d2 2, dk d2 3, C.bool (decide (C.toInt (C.get (List.getD (C.elems (dk d2 1)) (Int.toNat (C.toInt (dk d2 3))) C.nil) 1) = 0))] [])))) else none) else (k2 [dk d2 0] [])))
noncomputable def q0t {R : Type} (N : Nat) (a0 : C) (k1 : KD R) : Option R := (jn (fun d1 m1 => (bif C.toBool (dk d1 1) then (k1 [C.int 1] []) else (jn (fun d2 m2 => (Y3 N (dk d2 0) (fun d3 m3 => (bif !decide (C.toInt (dk d3 0) = 0) then (k1 [dk d3 0] []) else (bif !decide (C.toInt (dk d3 1) = C.toInt (dk d3 2)) then (k1 [C.int 12] []) else (k1 [C.int 0] [])))))) (fun k2 => (c4 N (q0u N k1 k2) [dk d1 0, C.get (dk d1 0) 1, C.int (↑(List.length (C.elems (C.get (dk d1 0) 1))) : Int), C.int 0] []))))) (fun k2 => (bif decide ((↑(List.length (C.elems (C.get a0 1))) : Int) < 2) then (k2 [a0, C.bool true] []) else (k2 [a0, C.bool (decide (8 < (↑(List.length (C.elems (C.get a0 1))) : Int)))] []))))
noncomputable def Q8 {R : Type} (N : Nat) : C → KD R → Option R := lid "" (q0t N)
theorem q3T {R : Type} (N : Nat) (a0 : C) (k : KD R) : Q8 N a0 k = q0t N a0 k := by unfold Q8; rw [Q9]
theorem q70 {R : Type} (N : Nat) (a0 : C) (K : V → List (Key × O) → Option R) : exF (X0 gl0) ((q3U N).ov R) J9 (fun f r => bif Nat.beq f 13 then (bif Nat.beq r 0 then [(1, 5)] else []) else []) (fun f => bif Nat.beq f 13 then q8I else []) N 400 8 13 [.d y5 a0] A0 K =
  Q8 N a0 (fun d1 m1 => K (V.d (Ty.int IntKind.i64) (dk d1 0)) []) := by
 rw [q3T]
 exact (show _ = jn (fun d1 m1 => (K (V.d (Ty.int IntKind.i64) (dk d1 0)) [])) (q0t N a0) by kernel_rfl).trans (s5 _ _)
noncomputable def J3 (N : Nat) {R : Type} : OvG R := fun xs _ K => match xs with
 | [.d t0 a0] => if t0 = y5 then Q8 N a0 (fun d1 m1 => K (V.d (Ty.int IntKind.i64) (dk d1 0)) []) else none
 | _ => none
theorem q1N (N : Nat) {R : Type} : GOk (X0 gl0) 13 (J3 N (R := R)) := by
 intro xs A Kr r hr
 unfold J3 at hr
 split at hr
 ·simp only [Option.ite_none_right_eq_some] at hr
  obtain ⟨hty, hr⟩ := hr
  subst hty
  rw [← q70] at hr
  exact okA (q3U N) hr
 ·cases hr
end Go.Proofs.YtefppgmopnnphaaDoor
