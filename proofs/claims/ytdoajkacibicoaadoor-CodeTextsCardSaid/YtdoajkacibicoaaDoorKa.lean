/-
 What the functions on the way compute, part 1.
 Conditions: none.
-/
import Derived.Test.YtdoajkacibicoaaDoorTf
import Derived.Laws.Externs
import Derived.Lib.Bytealg
import Derived.Lib.ItoaNum
import Derived.Shelf.LaysM
import Derived.Shelf.Pu.ParseUintPublic10
import Derived.Shelf.Strings.BuilderX
import Derived.Shelf.Strings.Count
import Derived.Shelf.Strings.OnBuilder
import Derived.Shelf.Strings.Search2
import Derived.Shelf.Strings.Search3
import Derived.Lib.ParseIntBCases
import Derived.Lib.SplitLaws
import Derived.Shelf.Strings.SplitCore
import Derived.Lib.IndexLaws
import Derived.Shelf.Strconv.Itoa3
set_option linter.all false
namespace Go.Proofs.YtdoajkacibicoaaDoor
open Go Go.E
set_option maxRecDepth 10000
set_option maxHeartbeats 4000000
set_option linter.unusedSimpArgs false
variable {gl : Nat → Option (Ty × C)}
def q1i (l : List UInt8) (m c : Int) : C := .agg [.str l, .int m, .int c]
def X1 : List C := [q1i [104, 97, 108, 116] 0 1, q1i [112, 117, 115, 104] 8 1, q1i [108, 111, 97, 100] 1 1, q1i [97, 100, 100] 0 1, q1i [115, 117, 98] 0 1, q1i [109, 117, 108] 0 3,
 q1i [108, 101, 115, 115] 0 1, q1i [115, 97, 109, 101] 0 1, q1i [110, 111, 116] 0 1, q1i [98, 111, 116, 104] 0 1, q1i [97, 110, 121] 0 1, q1i [106, 117, 109, 112] 2 1, q1i [105, 102] 2 1,
 q1i [116, 119, 105, 99, 101] 0 1, q1i [115, 119, 97, 112] 0 1, q1i [100, 114, 111, 112] 0 1, q1i [112, 97, 105, 100] 1 10, q1i [110, 111, 119] 0 1]
def GF (gl : Nat → Option (Ty × C)) : Prop := gl 0 = some (.arr 18 q0k, .agg X1)
def x8 (o : Int) : Nat := if o = 1 then 8 else if o = 2 ∨ o = 16 then 1 else if o = 11 ∨ o = 12 then 2 else 0
theorem q3d (o : Int) : x8 o ≤ 8 := by unfold x8; (repeat' split) <;> omega
theorem q9X : ∀ (o : Nat), o < 18 → (X1.getD o .nil).get 1 = .int (x8 o) := by
 intro o h
 have c : o = 0 ∨ o = 1 ∨ o = 2 ∨ o = 3 ∨ o = 4 ∨ o = 5 ∨ o = 6 ∨ o = 7 ∨ o = 8 ∨ o = 9 ∨ o = 10 ∨ o = 11 ∨ o = 12 ∨ o = 13 ∨ o = 14 ∨ o = 15 ∨ o = 16 ∨ o = 17 := by omega
 rcases c with rfl | rfl | rfl | rfl | rfl | rfl | rfl | rfl | rfl | rfl | rfl | rfl | rfl | rfl | rfl | rfl | rfl | rfl <;> rfl
def bN (p : List C) (i : Nat) : Int := (p.getD i .nil).toInt
def Q3 (p : List C) (i : Nat) : Nat → Int
 | 0 => 0
 | k + 1 => Q3 p i k * 256 + bN p (i + k)
def u9 (p : List C) (i : Nat) : Int :=
 if p.length ≤ i then 9 else if 18 ≤ bN p i then 33 else if p.length < i + 1 + x8 (bN p i) then 9 else 0
theorem q47 {p : List C} (h : C.wf (.slice 1 (.int .u8)) (.slice p)) {i : Nat} (hi : i < p.length) : p.getD i .nil = .int (bN p i) ∧ 0 ≤ bN p i ∧ bN p i ≤ 255 := by
 have := C.y6S (i := i) h hi
 simp only [C.elems, C.wf] at this
 have m1 : IntKind.u8.min = 0 := by decide
 have m2 : IntKind.u8.max = 255 := by decide
 exact ⟨this.1, by unfold bN; omega, by unfold bN; omega⟩
theorem z2H {p : List C} (h : C.wf (.slice 1 (.int .u8)) (.slice p)) {i : Nat} : ∀ {k : Nat}, i + k ≤ p.length → 0 ≤ Q3 p i k ∧ Q3 p i k < 256 ^ k
 | 0, _ => by simp [Q3]
 | k + 1, hk => by
  have ih := z2H h (k := k) (i := i) (by omega)
  have hb := q47 h (i := i + k) (by omega)
  simp only [Q3]
  have e : (256 : Int) ^ (k + 1) = 256 ^ k * 256 := by rw [Int.pow_succ]
  omega
theorem q7j {p : List C} (h : C.wf (.slice 1 (.int .u8)) (.slice p)) {i k : Nat} (hk : i + k ≤ p.length) (h8 : k ≤ 8) : 0 ≤ Q3 p i k ∧ Q3 p i k ≤ 18446744073709551615 ∧ (k < 8 → Q3 p i k < 72057594037927936) := by
 obtain ⟨h1, h2⟩ := z2H h hk
 have c : k = 0 ∨ k = 1 ∨ k = 2 ∨ k = 3 ∨ k = 4 ∨ k = 5 ∨ k = 6 ∨ k = 7 ∨ k = 8 := by omega
 rcases c with rfl | rfl | rfl | rfl | rfl | rfl | rfl | rfl | rfl <;> simp at h2 <;> omega
theorem y7c {a b : Int} (ha : 0 ≤ a) (ha2 : a < 72057594037927936) (hb : 0 ≤ b) (hb2 : b ≤ 255) : q0A .or .u64 (a * 256) b = a * 256 + b := by
 obtain ⟨x, rfl⟩ := Int.eq_ofNat_of_zero_le ha
 obtain ⟨y, rfl⟩ := Int.eq_ofNat_of_zero_le hb
 have hx : x < 72057594037927936 := by omega
 have hy : y < 256 := by omega
 have e1 : ((x : Int) * 256) = ((x * 256 : Nat) : Int) := by omega
 have key : (x * 256) ||| y = x * 256 + y := by
  have := Nat.two_pow_add_eq_or_of_lt (i := 8) (b := y) (by omega) x
  rw [Nat.mul_comm x 256]
  exact this.symm
 rw [e1]
 show IntKind.u64.wrap (((BitVec.ofInt 64 ((x * 256 : Nat) : Int)) ||| (BitVec.ofInt 64 ((y : Nat) : Int))).toNat : Int) = _
 simp only [BitVec.toNat_or, BitVec.ofInt_natCast, BitVec.toNat_ofNat]
 rw [Nat.mod_eq_of_lt (by omega), Nat.mod_eq_of_lt (by omega), key]
 have m1 : IntKind.u64.min = 0 := by decide
 have m2 : IntKind.u64.max = 18446744073709551615 := by decide
 exact (q2y (by omega) (by omega)).trans (by omega)
def q7M (p : List C) (i : Nat) : V := .tup [.d (.int .i64) (.int (if u9 p i = 0 then bN p i else 0)), .d (.int .u64) (.int (if u9 p i = 0 then Q3 p (i + 1) (x8 (bN p i)) else 0)),
 .d (.int .i64) (.int (if u9 p i = 0 then ((i + 1 + x8 (bN p i) : Nat) : Int) else 0)), .d (.int .i64) (.int (u9 p i))]
theorem z5t (hg : GF gl) (A : Key → Option O) (p : List C) (at_ : Nat) (hl : p.length ≤ 256) (hat : at_ ≤ 100000) : p8 (X0 gl) 12 [.d (.slice 1 (.int .u8)) (.slice p), .d (.int .i64) (.int at_)] A (q7M p at_) [] := by
 refine q1X (n := 51) (ok0 gl) Tryd.func12 rfl rfl (by simp) ?_
 intro A' hA
 refine z3V fun W => ?_
 have hw : C.wf (.slice 1 (.int .u8)) (.slice p) := W.at (t := 0) rfl
 clear W
 refine z8 (z6 (ok0 gl) [] (by kernel_rfl) ?_)
 simp only [go_sem, ↓x4, ↓x5, ↓x6, ↓x7, ↓x3, ↓y5, ↓y6, ↓y8, ↓y7, reduceCtorEq, Nat.reduceEqDiff, ↓reduceIte, Nat.reduceAdd, Nat.reduceSub, Nat.reduceLT, Nat.reduceMul, Nat.reduceBEq, Int.reduceLE, Int.reduceLT, Int.reduceAdd, Int.reduceSub, Int.reduceToNat, Int.reduceNeg, Int.reduceMul, Nat.reduceLeDiff]
 by_cases h1 : p.length ≤ at_
 ·have h1' : (p.length : Int) ≤ (at_ : Int) := by omega
  have e : u9 p at_ = 9 := by unfold u9; rw [if_pos h1]
  refine z8 (z8 (z6 (ok0 gl) [] (by kernel_rfl) ?_))
  simp only [go_sem, ↓x4, ↓x5, ↓x6, ↓x7, ↓x3, ↓y5, ↓y6, ↓y8, ↓y7, reduceCtorEq, Nat.reduceEqDiff, ↓reduceIte, Nat.reduceAdd, Nat.reduceSub, Nat.reduceLT, Nat.reduceMul, Nat.reduceBEq, Int.reduceLE, Int.reduceLT, Int.reduceAdd, Int.reduceSub, Int.reduceToNat, Int.reduceNeg, Int.reduceMul, Nat.reduceLeDiff, h1']
  refine r7 _ rfl (fun _ => ?_) (fun h => by simp at h)   -- on t13
  refine z8 (z6 (ok0 gl) [] (by kernel_rfl) ?_)
  simp only [go_sem, ↓x4, ↓x5, ↓x6, ↓x7, ↓x3, ↓y5, ↓y6, ↓y8, ↓y7, reduceCtorEq, Nat.reduceEqDiff, ↓reduceIte, Nat.reduceAdd, Nat.reduceSub, Nat.reduceLT, Nat.reduceMul, Nat.reduceBEq, Int.reduceLE, Int.reduceLT, Int.reduceAdd, Int.reduceSub, Int.reduceToNat, Int.reduceNeg, Int.reduceMul, Nat.reduceLeDiff]
  refine J8 ⟨.inr rfl, ?_⟩
  simp only [H5, go_sem, ↓x4, ↓x5, ↓x6, ↓x7, ↓x3, ↓y5, ↓y6, ↓y8, ↓y7, reduceCtorEq, Nat.reduceEqDiff, ↓reduceIte, Nat.reduceAdd, Nat.reduceSub, Nat.reduceLT, Nat.reduceMul, Nat.reduceBEq, Int.reduceLE, Int.reduceLT, Int.reduceAdd, Int.reduceSub, Int.reduceToNat, Int.reduceNeg, Int.reduceMul, Nat.reduceLeDiff, Tryd.f12, q7M, e, Int.reduceEq, reduceIte] <;> try rfl
 ·have h1' : ¬ (p.length : Int) ≤ (at_ : Int) := by omega
  have hlt : (at_ : Int) < (p.length : Int) := by omega
  have e1 : ((at_ : Int).toNat) = at_ := Int.toNat_natCast _
  obtain ⟨b1, b2, b3⟩ := q47 hw (i := at_) (by omega)
  refine z8 (z8 (z6 (ok0 gl) [] (by kernel_rfl) ?_))
  simp only [go_sem, ↓x4, ↓x5, ↓x6, ↓x7, ↓x3, ↓y5, ↓y6, ↓y8, ↓y7, reduceCtorEq, Nat.reduceEqDiff, ↓reduceIte, Nat.reduceAdd, Nat.reduceSub, Nat.reduceLT, Nat.reduceMul, Nat.reduceBEq, Int.reduceLE, Int.reduceLT, Int.reduceAdd, Int.reduceSub, Int.reduceToNat, Int.reduceNeg, Int.reduceMul, Nat.reduceLeDiff, h1']
  refine r7 _ rfl (fun h => by simp at h) (fun _ => Y4 ?_)   -- on t13
  have w1 : IntKind.i64.wrap (bN p at_) = bN p at_ := IntWalk.i64_in _ (by omega)
  refine z8 (z6 (ok0 gl) [] (by kernel_rfl) ?_)
  simp only [go_sem, ↓x4, ↓x5, ↓x6, ↓x7, ↓x3, ↓y5, ↓y6, ↓y8, ↓y7, reduceCtorEq, Nat.reduceEqDiff, ↓reduceIte, Nat.reduceAdd, Nat.reduceSub, Nat.reduceLT, Nat.reduceMul, Nat.reduceBEq, Int.reduceLE, Int.reduceLT, Int.reduceAdd, Int.reduceSub, Int.reduceToNat, Int.reduceNeg, Int.reduceMul, Nat.reduceLeDiff, hlt, e1, b1, w1]
  refine ⟨by omega, ?_⟩
  by_cases h2 : 18 ≤ bN p at_
  ·have e : u9 p at_ = 33 := by unfold u9; rw [if_neg h1, if_pos h2]
   refine z8 (z8 (z6 (ok0 gl) [] (by kernel_rfl) ?_))
   simp only [go_sem, ↓x4, ↓x5, ↓x6, ↓x7, ↓x3, ↓y5, ↓y6, ↓y8, ↓y7, reduceCtorEq, Nat.reduceEqDiff, ↓reduceIte, Nat.reduceAdd, Nat.reduceSub, Nat.reduceLT, Nat.reduceMul, Nat.reduceBEq, Int.reduceLE, Int.reduceLT, Int.reduceAdd, Int.reduceSub, Int.reduceToNat, Int.reduceNeg, Int.reduceMul, Nat.reduceLeDiff, h2]
   refine r7 _ rfl (fun _ => ?_) (fun h => by simp at h)   -- on t20
   refine z8 (z6 (ok0 gl) [] (by kernel_rfl) ?_)
   simp only [go_sem, ↓x4, ↓x5, ↓x6, ↓x7, ↓x3, ↓y5, ↓y6, ↓y8, ↓y7, reduceCtorEq, Nat.reduceEqDiff, ↓reduceIte, Nat.reduceAdd, Nat.reduceSub, Nat.reduceLT, Nat.reduceMul, Nat.reduceBEq, Int.reduceLE, Int.reduceLT, Int.reduceAdd, Int.reduceSub, Int.reduceToNat, Int.reduceNeg, Int.reduceMul, Nat.reduceLeDiff]
   refine J8 ⟨.inr rfl, ?_⟩
   simp only [H5, go_sem, ↓x4, ↓x5, ↓x6, ↓x7, ↓x3, ↓y5, ↓y6, ↓y8, ↓y7, reduceCtorEq, Nat.reduceEqDiff, ↓reduceIte, Nat.reduceAdd, Nat.reduceSub, Nat.reduceLT, Nat.reduceMul, Nat.reduceBEq, Int.reduceLE, Int.reduceLT, Int.reduceAdd, Int.reduceSub, Int.reduceToNat, Int.reduceNeg, Int.reduceMul, Nat.reduceLeDiff, Tryd.f12, q7M, e, Int.reduceEq, reduceIte] <;> try rfl
  ·refine z8 (z8 (z6 (ok0 gl) [] (by kernel_rfl) ?_))
   simp only [go_sem, ↓x4, ↓x5, ↓x6, ↓x7, ↓x3, ↓y5, ↓y6, ↓y8, ↓y7, reduceCtorEq, Nat.reduceEqDiff, ↓reduceIte, Nat.reduceAdd, Nat.reduceSub, Nat.reduceLT, Nat.reduceMul, Nat.reduceBEq, Int.reduceLE, Int.reduceLT, Int.reduceAdd, Int.reduceSub, Int.reduceToNat, Int.reduceNeg, Int.reduceMul, Nat.reduceLeDiff, h2]
   refine r7 _ rfl (fun h => by simp at h) (fun _ => Y4 ?_)   -- on t20
   have hm : (X1.getD (bN p at_).toNat .nil).get 1 = .int (x8 (bN p at_)) := by
    have := q9X (bN p at_).toNat (by omega)
    rwa [Int.toNat_of_nonneg b2] at this
   have hg' : gl 0 = _ := hg
   have m8 := q3d (bN p at_)
   generalize hmm : x8 (bN p at_) = m at hm m8
   have w2 : IntKind.i64.wrap ((at_ : Int) + 1) = (at_ : Int) + 1 := IntWalk.i64_in _ (by omega)
   have w3 : IntKind.i64.wrap ((at_ : Int) + 1 + (m : Int)) = (at_ : Int) + 1 + (m : Int) := IntWalk.i64_in _ (by omega)
   refine z8 (z6 (ok0 gl) [] (by kernel_rfl) ?_)
   simp only [go_sem, ↓x4, ↓x5, ↓x6, ↓x7, ↓x3, ↓y5, ↓y6, ↓y8, ↓y7, reduceCtorEq, Nat.reduceEqDiff, ↓reduceIte, Nat.reduceAdd, Nat.reduceSub, Nat.reduceLT, Nat.reduceMul, Nat.reduceBEq, Int.reduceLE, Int.reduceLT, Int.reduceAdd, Int.reduceSub, Int.reduceToNat, Int.reduceNeg, Int.reduceMul, Nat.reduceLeDiff, hg', hm, w2, w3]
   refine ⟨by omega, by omega, ?_⟩
   by_cases h3 : p.length < at_ + 1 + m
   ·have h3' : (p.length : Int) < (at_ : Int) + 1 + (m : Int) := by omega
    have e : u9 p at_ = 9 := by unfold u9; rw [if_neg h1, if_neg h2, hmm, if_pos h3]
    refine z8 (z8 (z6 (ok0 gl) [] (by kernel_rfl) ?_))
    simp only [go_sem, ↓x4, ↓x5, ↓x6, ↓x7, ↓x3, ↓y5, ↓y6, ↓y8, ↓y7, reduceCtorEq, Nat.reduceEqDiff, ↓reduceIte, Nat.reduceAdd, Nat.reduceSub, Nat.reduceLT, Nat.reduceMul, Nat.reduceBEq, Int.reduceLE, Int.reduceLT, Int.reduceAdd, Int.reduceSub, Int.reduceToNat, Int.reduceNeg, Int.reduceMul, Nat.reduceLeDiff, h3']
    refine r7 _ rfl (fun _ => ?_) (fun h => by simp at h)   -- on t31
    refine z8 (z6 (ok0 gl) [] (by kernel_rfl) ?_)
    simp only [go_sem, ↓x4, ↓x5, ↓x6, ↓x7, ↓x3, ↓y5, ↓y6, ↓y8, ↓y7, reduceCtorEq, Nat.reduceEqDiff, ↓reduceIte, Nat.reduceAdd, Nat.reduceSub, Nat.reduceLT, Nat.reduceMul, Nat.reduceBEq, Int.reduceLE, Int.reduceLT, Int.reduceAdd, Int.reduceSub, Int.reduceToNat, Int.reduceNeg, Int.reduceMul, Nat.reduceLeDiff]
    refine J8 ⟨.inr rfl, ?_⟩
    simp only [H5, go_sem, ↓x4, ↓x5, ↓x6, ↓x7, ↓x3, ↓y5, ↓y6, ↓y8, ↓y7, reduceCtorEq, Nat.reduceEqDiff, ↓reduceIte, Nat.reduceAdd, Nat.reduceSub, Nat.reduceLT, Nat.reduceMul, Nat.reduceBEq, Int.reduceLE, Int.reduceLT, Int.reduceAdd, Int.reduceSub, Int.reduceToNat, Int.reduceNeg, Int.reduceMul, Nat.reduceLeDiff, Tryd.f12, q7M, e, Int.reduceEq, reduceIte] <;> try rfl
   ·have h3' : ¬ (p.length : Int) < (at_ : Int) + 1 + (m : Int) := by omega
    have e : u9 p at_ = 0 := by unfold u9; rw [if_neg h1, if_neg h2, hmm, if_neg h3]
    refine z8 (z8 (z6 (ok0 gl) [] (by kernel_rfl) ?_))
    simp only [go_sem, ↓x4, ↓x5, ↓x6, ↓x7, ↓x3, ↓y5, ↓y6, ↓y8, ↓y7, reduceCtorEq, Nat.reduceEqDiff, ↓reduceIte, Nat.reduceAdd, Nat.reduceSub, Nat.reduceLT, Nat.reduceMul, Nat.reduceBEq, Int.reduceLE, Int.reduceLT, Int.reduceAdd, Int.reduceSub, Int.reduceToNat, Int.reduceNeg, Int.reduceMul, Nat.reduceLeDiff, h3']
    refine r7 _ rfl (fun h => by simp at h) (fun _ => Y4 ?_)   -- on t31
    have e2 : ((at_ : Int) + 1 + (m : Int)).toNat = at_ + 1 + m := by omega
    have e3 : ((at_ : Int) + 1).toNat = at_ + 1 := by omega
    refine z8 (z8 (z6 (ok0 gl) [] (by kernel_rfl) ?_))
    simp only [go_sem, ↓x4, ↓x5, ↓x6, ↓x7, ↓x3, ↓y5, ↓y6, ↓y8, ↓y7, reduceCtorEq, Nat.reduceEqDiff, ↓reduceIte, Nat.reduceAdd, Nat.reduceSub, Nat.reduceLT, Nat.reduceMul, Nat.reduceBEq, Int.reduceLE, Int.reduceLT, Int.reduceAdd, Int.reduceSub, Int.reduceToNat, Int.reduceNeg, Int.reduceMul, Nat.reduceLeDiff, w2, e2, e3]
    refine ⟨by omega, by omega, by omega, ?_⟩
    have hql : (List.drop (at_ + 1) (List.take (at_ + 1 + m) p)).length = m := by simp; omega
    have hqe : ∀ i, i < m → (List.drop (at_ + 1) (List.take (at_ + 1 + m) p)).getD i .nil = .int (bN p (at_ + 1 + i)) := by
     intro i hi
     rw [← (q47 hw (i := at_ + 1 + i) (by omega)).1]
     simp [List.getD_eq_getElem?_getD, List.getElem?_drop, List.getElem?_take, show at_ + 1 + i < at_ + 1 + m by omega]
    generalize hq : List.drop (at_ + 1) (List.take (at_ + 1 + m) p) = q at hql hqe
    simp only [hql]
    refine Y1 (q94 (fun i => ⟨[(38, .d (.int .i64) (.int i)), (37, .d (.int .i64) (.int m)), (36, .d (.slice 1 (.int .u8)) (.slice q)), (6, .d (.int .i64) (.int ((at_ : Int) + 1 + (m : Int)))), (5, .d (.int .u64) (.int (Q3 p (at_ + 1) i))), (4, .d (.int .i64) (.int (bN p at_))), (7, .d (.int .i64) (.int 0)), (0, .d (.slice 1 (.int .u8)) (.slice p)), (1, .d (.int .i64) (.int at_))], [], A', []⟩) m (fun _ => True) ?_ trivial ?_)
    ·refine U4 rfl ?_ ?_ ?_ ?_ ?_ <;> simp only [go_sem, ↓x4, ↓x5, ↓x6, ↓x7, ↓x3, ↓y5, ↓y6, ↓y8, ↓y7, reduceCtorEq, Nat.reduceEqDiff, ↓reduceIte, Nat.reduceAdd, Nat.reduceSub, Nat.reduceLT, Nat.reduceMul, Nat.reduceBEq, Int.reduceLE, Int.reduceLT, Int.reduceAdd, Int.reduceSub, Int.reduceToNat, Int.reduceNeg, Int.reduceMul, Nat.reduceLeDiff]
     all_goals first | (simp only [Q3]; done) | (simp only [Q3]; exact ⟨rfl, trivial⟩)
    ·intro i hi _
     refine z8 (z6 (ok0 gl) [] (by kernel_rfl) ?_)
     simp only [go_sem, ↓x4, ↓x5, ↓x6, ↓x7, ↓x3, ↓y5, ↓y6, ↓y8, ↓y7, reduceCtorEq, Nat.reduceEqDiff, ↓reduceIte, Nat.reduceAdd, Nat.reduceSub, Nat.reduceLT, Nat.reduceMul, Nat.reduceBEq, Int.reduceLE, Int.reduceLT, Int.reduceAdd, Int.reduceSub, Int.reduceToNat, Int.reduceNeg, Int.reduceMul, Nat.reduceLeDiff]
     refine z8 (r7 _ rfl (fun hlt => Y4 ?_) (fun hge => q2O ?_))
     ·have hlt : i < m := by simpa using hlt
      have e4 : ((i : Int).toNat) = i := Int.toNat_natCast i
      have hqi := hqe i hlt
      obtain ⟨a1, a2, a3⟩ := q7j hw (i := at_ + 1) (k := i) (by omega) (by omega)
      obtain ⟨_, c2, c3⟩ := q47 hw (i := at_ + 1 + i) (by omega)
      have w4 : IntKind.u64.wrap (bN p (at_ + 1 + i)) = bN p (at_ + 1 + i) := q2y (by have : IntKind.u64.min = 0 := by decide
                                                                                      omega) (by have : IntKind.u64.max = 18446744073709551615 := by decide
                                                                                                 omega)
      have w5 : IntKind.u64.wrap (Q3 p (at_ + 1) i * 256) = Q3 p (at_ + 1) i * 256 := q2y (by have : IntKind.u64.min = 0 := by decide
                                                                                              omega) (by have : IntKind.u64.max = 18446744073709551615 := by decide
                                                                                                         omega)
      have w6 := y7c a1 (a3 (by omega)) c2 c3
      refine z8 (Y1 (z8 (z6 (ok0 gl) [] (by kernel_rfl) ?_)))
      simp only [go_sem, ↓x4, ↓x5, ↓x6, ↓x7, ↓x3, ↓y5, ↓y6, ↓y8, ↓y7, reduceCtorEq, Nat.reduceEqDiff, ↓reduceIte, Nat.reduceAdd, Nat.reduceSub, Nat.reduceLT, Nat.reduceMul, Nat.reduceBEq, Int.reduceLE, Int.reduceLT, Int.reduceAdd, Int.reduceSub, Int.reduceToNat, Int.reduceNeg, Int.reduceMul, Nat.reduceLeDiff, e4, hqi, hql]
      refine ⟨by omega, by omega, ?_⟩
      have hp : ((2 : Int) ^ min 8 64) = 256 := by decide
      refine z6 (ok0 gl) [] (by kernel_rfl) ?_
      simp only [go_sem, ↓x4, ↓x5, ↓x6, ↓x7, ↓x3, ↓y5, ↓y6, ↓y8, ↓y7, reduceCtorEq, Nat.reduceEqDiff, ↓reduceIte, Nat.reduceAdd, Nat.reduceSub, Nat.reduceLT, Nat.reduceMul, Nat.reduceBEq, Int.reduceLE, Int.reduceLT, Int.reduceAdd, Int.reduceSub, Int.reduceToNat, Int.reduceNeg, Int.reduceMul, Nat.reduceLeDiff, w4, hp, w5, w6]
      refine z6 (ok0 gl) [] (by kernel_rfl) ?_
      simp only [go_sem, ↓x4, ↓x5, ↓x6, ↓x7, ↓x3, ↓y5, ↓y6, ↓y8, ↓y7, reduceCtorEq, Nat.reduceEqDiff, ↓reduceIte, Nat.reduceAdd, Nat.reduceSub, Nat.reduceLT, Nat.reduceMul, Nat.reduceBEq, Int.reduceLE, Int.reduceLT, Int.reduceAdd, Int.reduceSub, Int.reduceToNat, Int.reduceNeg, Int.reduceMul, Nat.reduceLeDiff]
      refine ⟨hlt, ?_⟩
      have e7 : Q3 p (at_ + 1) (i + 1) = Q3 p (at_ + 1) i * 256 + bN p (at_ + 1 + i) := rfl
      rw [e7, IntWalk.i64_in _ (by omega)]
      refine U4 rfl ?_ ?_ ?_ ?_ ?_ <;> simp only [go_sem, ↓x4, ↓x5, ↓x6, ↓x7, ↓x3, ↓y5, ↓y6, ↓y8, ↓y7, reduceCtorEq, Nat.reduceEqDiff, ↓reduceIte, Nat.reduceAdd, Nat.reduceSub, Nat.reduceLT, Nat.reduceMul, Nat.reduceBEq, Int.reduceLE, Int.reduceLT, Int.reduceAdd, Int.reduceSub, Int.reduceToNat, Int.reduceNeg, Int.reduceMul, Nat.reduceLeDiff]
      rfl
     ·have hge : m ≤ i := by simpa using hge
      obtain rfl : i = m := by omega
      refine z8 (z6 (ok0 gl) [] (by kernel_rfl) ?_)
      simp only [go_sem, ↓x4, ↓x5, ↓x6, ↓x7, ↓x3, ↓y5, ↓y6, ↓y8, ↓y7, reduceCtorEq, Nat.reduceEqDiff, ↓reduceIte, Nat.reduceAdd, Nat.reduceSub, Nat.reduceLT, Nat.reduceMul, Nat.reduceBEq, Int.reduceLE, Int.reduceLT, Int.reduceAdd, Int.reduceSub, Int.reduceToNat, Int.reduceNeg, Int.reduceMul, Nat.reduceLeDiff]
      have e5 : ((at_ : Int) + 1 + (i : Int)) = ((at_ + 1 + i : Nat) : Int) := by omega
      simp only [e5]
      refine J8 ⟨.inr rfl, ?_⟩
      simp only [H5, go_sem, ↓x4, ↓x5, ↓x6, ↓x7, ↓x3, ↓y5, ↓y6, ↓y8, ↓y7, reduceCtorEq, Nat.reduceEqDiff, ↓reduceIte, Nat.reduceAdd, Nat.reduceSub, Nat.reduceLT, Nat.reduceMul, Nat.reduceBEq, Int.reduceLE, Int.reduceLT, Int.reduceAdd, Int.reduceSub, Int.reduceToNat, Int.reduceNeg, Int.reduceMul, Nat.reduceLeDiff, Tryd.f12, q7M, e, hmm, reduceIte] <;> try rfl
end Go.Proofs.YtdoajkacibicoaaDoor
namespace Go.Proofs.YtdoajkacibicoaaDoor
open Go Go.E
set_option maxRecDepth 10000
set_option linter.unusedSimpArgs false
variable {gl : Nat → Option (Ty × C)}
end Go.Proofs.YtdoajkacibicoaaDoor
namespace Go.Proofs.YtdoajkacibicoaaDoor
open Go Go.E
set_option maxRecDepth 10000
set_option linter.unusedSimpArgs false
variable {gl : Nat → Option (Ty × C)}
theorem z5x (a b : C) : q8m (X0 gl) 71 [.d (.int .u64) a, .d (.int .u64) b, .d (.int .u64) (.int 0)] (.tup [.d (.int .u64) (.int ((a.toInt + b.toInt) % 18446744073709551616)), .d (.int .u64) (.int ((a.toInt + b.toInt) / 18446744073709551616))]) := by
 intro Γ w args hl hr
 have hs : args.size = 3 := hl.symm
 obtain ⟨e1, _, l1, m1⟩ := c4 (hr 0 _ _ rfl (Array.getElem?_eq_getElem (by omega)))
 obtain ⟨e2, _, l2, m2⟩ := c4 (hr 1 _ _ rfl (Array.getElem?_eq_getElem (by omega)))
 obtain ⟨e3, _, _, _⟩ := c4 (hr 2 _ _ rfl (Array.getElem?_eq_getElem (by omega)))
 have ea : args = #[.int .u64 a.toInt, .int .u64 b.toInt, .int .u64 0] := by
  apply Array.ext
  ·simpa using hs
  ·intro i h1 h2
   match i with
   | 0 => simpa using e1
   | 1 => simpa using e2
   | 2 => simpa [C.toInt] using e3
   | i + 3 => omega
 have z : IntKind.u64.min = 0 := by decide
 have z' : IntKind.u64.max = 18446744073709551615 := by decide
 refine ⟨.tuple #[.int .u64 ((a.toInt + b.toInt) % 18446744073709551616), .int .u64 ((a.toInt + b.toInt) / 18446744073709551616)], ?_, #[_, _], rfl, ?_⟩
 ·have hrun := run_callFunc_extern (P := (X0 gl).P) (f := 71) (fn := Tryd.f71) (e := add64Entry) Tryd.func71 (by decide) rfl (by kernel_rfl) (by kernel_rfl) args w
  rw [hrun, ea, run_add64 _ _ _ (by omega) (by omega) (by omega) (by omega)]
  simp
 ·refine q4F rfl fun i x u hx hu => ?_
  match i with
  | 0 => simp at hx hu; subst hx; subst hu; exact ⟨rfl, r9 (by omega) (by omega)⟩
  | 1 => simp at hx hu; subst hx; subst hu; exact ⟨rfl, r9 (by omega) (by omega)⟩
  | i + 2 => simp at hx
end Go.Proofs.YtdoajkacibicoaaDoor
namespace Go.Proofs.YtdoajkacibicoaaDoor
open Go Go.E
set_option maxRecDepth 100000
def q9S : List V → Option V := fun xs => match xs with
 | [.d .str s, .d (.int .u8) b] => some (.d (.int .i64) (.int (Go.Lib.indexByte s.toStr b.toInt.toNat.toUInt8)))
 | _ => none
def y0p : List V → Option V := fun xs => match xs with
 | [.d .str s, .d (.int .u8) b] => some (.d (.int .i64) (.int (Go.Lib.countByte s.toStr b.toInt.toNat.toUInt8 : Nat)))
 | _ => none
theorem z1D (c : UInt8) : ∀ l : List UInt8, Go.Lib.indexByte l c < (l.length : Int) ∨ l = []
 | [] => .inr rfl
 | b :: l => by
  left
  unfold Go.Lib.indexByte
  simp only [List.length_cons]
  rcases z1D c l with h | h
  ·split
   ·omega
   ·split <;> omega
  ·subst h
   split
   ·simp
   ·simp [Go.Lib.indexByte]
theorem z7X (gl : Nat → Option (Ty × C)) (xs : List V) (v : V) (h : q9S xs = some v) : q8m (X0 gl) 83 xs v := by
 unfold q9S at h
 split at h
 ·rename_i s b
  cases h
  intro Γ w args hl hr
  have hs : args.size = 2 := hl.symm
  obtain ⟨e1, _, h1⟩ := W1 (hr 0 _ _ rfl (Array.getElem?_eq_getElem (by omega)))
  obtain ⟨e2, _, _, _⟩ := c4 (hr 1 _ _ rfl (Array.getElem?_eq_getElem (by omega)))
  have ea : args = #[.string ⟨s.toStr.toArray⟩, .int .u8 b.toInt] := by
   apply Array.ext
   ·simpa using hs
   ·intro i h1 h2
    match i with
    | 0 => simpa using e1
    | 1 => simpa using e2
    | i + 2 => omega
  refine ⟨.int .i64 (Go.Lib.indexByte s.toStr b.toInt.toNat.toUInt8), ?_, ?_⟩
  ·have hrun := run_callFunc_extern (P := (X0 gl).P) (f := 83) (fn := Tryd.f83) (e := Extern.BytealgIndexByte.indexByte) Tryd.func83 (by decide) rfl (by kernel_rfl) (by kernel_rfl) args w
   rw [hrun, ea, Go.Lib.run_indexByteString]
   simp
  ·have m1 : IntKind.i64.min = -9223372036854775808 := by decide
   have m2 : IntKind.i64.max = 9223372036854775807 := by decide
   have q1 := Go.Lib.indexByte_ge s.toStr b.toInt.toNat.toUInt8
   have q2 : Go.Lib.indexByte s.toStr b.toInt.toNat.toUInt8 ≤ 140737488355328 := by
    rcases z1D b.toInt.toNat.toUInt8 s.toStr with h | h
    ·omega
    ·rw [h]; simp [Go.Lib.indexByte]
   exact r9 (by omega) (by omega)
 ·cases h
theorem y4E (gl : Nat → Option (Ty × C)) (xs : List V) (v : V) (h : y0p xs = some v) : q8m (X0 gl) 63 xs v := by
 unfold y0p at h
 split at h
 ·rename_i s b
  cases h
  intro Γ w args hl hr
  have hs : args.size = 2 := hl.symm
  obtain ⟨e1, _, h1⟩ := W1 (hr 0 _ _ rfl (Array.getElem?_eq_getElem (by omega)))
  obtain ⟨e2, _, _, _⟩ := c4 (hr 1 _ _ rfl (Array.getElem?_eq_getElem (by omega)))
  have ea : args = #[.string ⟨s.toStr.toArray⟩, .int .u8 b.toInt] := by
   apply Array.ext
   ·simpa using hs
   ·intro i h1 h2
    match i with
    | 0 => simpa using e1
    | 1 => simpa using e2
    | i + 2 => omega
  refine ⟨.int .i64 (Go.Lib.countByte s.toStr b.toInt.toNat.toUInt8 : Nat), ?_, ?_⟩
  ·have hrun := run_callFunc_extern (P := (X0 gl).P) (f := 63) (fn := Tryd.f63) (e := Extern.BytealgCount.count) Tryd.func63 (by decide) rfl (by kernel_rfl) (by kernel_rfl) args w
   rw [hrun, ea, Go.Lib.run_countString]
   simp
  ·have m1 : IntKind.i64.min = -9223372036854775808 := by decide
   have m2 : IntKind.i64.max = 9223372036854775807 := by decide
   have q : Go.Lib.countByte s.toStr b.toInt.toNat.toUInt8 ≤ s.toStr.length := List.count_le_length
   exact r9 (by omega) (by omega)
 ·cases h
def q63 : List (Nat × Ty × C) → Nat → Option (Ty × C)
 | [], _ => none
 | (i, x) :: l, g => bif Nat.beq g i then some x else q63 l g
theorem z7e {gl : Nat → Option (Ty × C)} : ∀ {l : List (Nat × Ty × C)}, l.map (fun p => gl p.1) = l.map (fun p => some p.2) → ∀ g x, q63 l g = some x → gl g = some x
 | [], _, g, x, h => by cases h
 | (i, y) :: l, h0, g, x, h => by
  simp only [List.map_cons, List.cons.injEq] at h0
  simp only [q63] at h
  cases hb : Nat.beq g i with
  | true =>
   rw [hb, cond_true] at h
   cases h
   rw [Nat.eq_of_beq_eq_true hb]; exact h0.1
  | false =>
   rw [hb, cond_false] at h
   exact z7e h0.2 g x h
def y5I : List (Nat × Ty × C) :=
 (0, .arr 18 q0k, .agg X1) ::
 (1, .arr 20 (.int .u64), .agg (Go.Lib.pow10Tab.map C.int)) ::
 (3, .iface, .bool true) ::
 (4, .iface, .bool true) ::
 []
def gl0 : Nat → Option (Ty × C) := q63 y5I
theorem gf0 : GF gl0 := rfl
theorem y7t (gl : Nat → Option (Ty × C)) (h : y5I.map (fun p => gl p.1) = y5I.map (fun p => some p.2)) : ∀ g x, gl0 g = some x → gl g = some x := z7e h
def y0E : List V → Option V := fun xs => match xs with
 | [.d (.int .u64) a, .d (.int .u64) b, .d (.int .u64) (.int c)] => if c = 0 then some (.tup [.d (.int .u64) (.int ((a.toInt + b.toInt) % 18446744073709551616)), .d (.int .u64) (.int ((a.toInt + b.toInt) / 18446744073709551616))]) else none
 | _ => none
def y5S : List (Nat × (List V → Option V)) := []
 ++ [(71, y0E)]
 ++ [(83, q9S)]
 ++ [(63, y0p)]
def H9 : q1e := z2v y5S
theorem y7A (gl : Nat → Option (Ty × C)) : q6B (X0 gl) y5S := by
 unfold y5S
 repeat' refine q6B.append ?_ ⟨?_, trivial⟩
 ·exact trivial
 ·intro xs v h
  have h : y0E xs = some v := h
  show q8m (X0 gl) 71 xs v
  unfold y0E at h
  split at h
  ·simp only [Option.ite_none_right_eq_some, Option.some.injEq] at h
   obtain ⟨rfl, rfl⟩ := h
   exact z5x _ _
  ·cases h
 ·exact z7X gl
 ·exact y4E gl
theorem y7z (gl : Nat → Option (Ty × C)) : q3x (X0 gl) H9 := z42 (y7A gl)
def noX : FuncId → Nat → List (Nat × Nat) := fun _ _ => []
end Go.Proofs.YtdoajkacibicoaaDoor
namespace Go.Proofs.YtdoajkacibicoaaDoor
open Go Go.E
def W64 (a : Int) : Prop := 0 ≤ a ∧ a < 18446744073709551616
theorem wrap_u8 (x : Int) : IntKind.u8.wrap x = x % 256 := by simp [IntKind.wrap, IntKind.bits, IntKind.signed]
theorem wrap_i64 {n : Int} (h : -9223372036854775808 ≤ n) (h2 : n < 9223372036854775808) : IntKind.i64.wrap n = n := IntWalk.i64_in _ (by omega)
theorem y5L {l : List C} {i : Nat} (h : i < l.length) : l.getD i .nil ∈ l := by
 rw [List.getD_eq_getElem?_getD, List.getElem?_eq_getElem h]; exact List.getElem_mem h
end Go.Proofs.YtdoajkacibicoaaDoor
set_option linter.all false
namespace Go.Proofs
open Go.Shelf Go.Lib Go.RowKit
def Tryd.z2Z : Go.Shelf.Ren := ⟨fun | 156 => 14 | 165 => 24 | 166 => 25 | 169 => 26 | 240 => 38 | 241 => 39 | 276 => 59 | 277 => 60 | n => n, fun | 31 => 36 | 9 => 9 | 3 => 3 | 4 => 4 | 0 => 0 | 20 => 20 | 72 => 61 | 76 => 65 | 70 => 59 | 37 => 22 | 75 => 64 | 127 => 87 | 164 => 103 | 5 => 5 | 80 => 67 | n => n, fun | n => n⟩
theorem Tryd.y7n : Go.Proofs.Lays.n156 Tryd.prog Tryd.z2Z := {
 mixed := by kernel_rfl
 f156 := Tryd.func14.trans (congrArg some (by kernel_rfl))
 f165 := Tryd.func24.trans (congrArg some (by kernel_rfl))
 f166 := Tryd.func25.trans (congrArg some (by kernel_rfl))
 f169 := Tryd.func26.trans (congrArg some (by kernel_rfl))
 f240 := Tryd.func38.trans (congrArg some (by kernel_rfl))
 f241 := Tryd.func39.trans (congrArg some (by kernel_rfl))
 f276 := Tryd.func59.trans (congrArg some (by kernel_rfl))
 f277 := Tryd.func60.trans (congrArg some (by kernel_rfl))
 t0 := Tryd.underlying0
 a0 := Tryd.isAgg0
 z0 := Tryd.sizeOf0
 v0 := Tryd.zeroValue0
 t3 := Tryd.underlying3
 a3 := Tryd.isAgg3
 z3 := Tryd.sizeOf3
 v3 := Tryd.zeroValue3
 t4 := Tryd.underlying4
 a4 := Tryd.isAgg4
 z4 := Tryd.sizeOf4
 v4 := Tryd.zeroValue4
 t9 := Tryd.underlying9
 a9 := Tryd.isAgg9
 z9 := Tryd.sizeOf9
 v9 := Tryd.zeroValue9
 t20 := Tryd.underlying20
 a20 := Tryd.isAgg20
 z20 := Tryd.sizeOf20
 v20 := Tryd.zeroValue20
 t31 := Tryd.underlying36
 a31 := Tryd.isAgg36
 z31 := Tryd.sizeOf36
 v31 := Tryd.zeroValue36
 t37 := Tryd.underlying22
 a37 := Tryd.isAgg22
 z37 := Tryd.sizeOf22
 v37 := Tryd.zeroValue22
 t70 := Tryd.underlying59
 a70 := Tryd.isAgg59
 z70 := Tryd.sizeOf59
 v70 := Tryd.zeroValue59
 t72 := Tryd.underlying61
 a72 := Tryd.isAgg61
 z72 := Tryd.sizeOf61
 v72 := Tryd.zeroValue61
 t75 := Tryd.underlying64
 a75 := Tryd.isAgg64
 z75 := Tryd.sizeOf64
 v75 := Tryd.zeroValue64
 t76 := Tryd.underlying65
 a76 := Tryd.isAgg65
 z76 := Tryd.sizeOf65
 v76 := Tryd.zeroValue65
 t127 := Tryd.underlying87
 a127 := Tryd.isAgg87
 z127 := Tryd.sizeOf87
 v127 := Tryd.zeroValue87
 t164 := Tryd.underlying103
 a164 := Tryd.isAgg103
 z164 := Tryd.sizeOf103
 v164 := Tryd.zeroValue103 }
theorem Tryd.z2N : Builder.Extra Tryd.prog Tryd.z2Z := {
 sizeBuilder := by kernel_rfl
 liesBuilder := by kernel_rfl
 t5 := Tryd.underlying5
 a5 := Tryd.isAgg5
 z5 := Tryd.sizeOf5
 v5 := Tryd.zeroValue5
 infoByte := by kernel_rfl
 cellsByte := by kernel_rfl
 sizeByte := by kernel_rfl
 neB5 := by decide }
theorem Tryd.strings_Join (bk o c : Nat) (xs : List ByteArray) (sep : ByteArray) (w : World) (hcells : ∀ (j : Nat) x, xs[j]? = some x → w.cell? ⟨bk, o + j, none⟩ = some (.string x)) (hbk : bk < w.heap.size) (hN : xs.length ≤ 140737488355328) (hcap : xs.length ≤ c) (hlen : (Lib.join (xs.map (·.data.toList)) sep.data.toList).length ≤ 140737488355328) :
  Calls Tryd.prog 14 #[.slice (some ⟨bk, o, none⟩) xs.length c, .string sep] w fun e w' => e = .returned (.string ⟨(Lib.join (xs.map (·.data.toList)) sep.data.toList).toArray⟩) ∧ Below w.heap.size w w' := Any.strings_Join Tryd.y7n Tryd.z2N bk o c xs sep w hcells hbk hN hcap hlen
def Tryd.q3i : Go.Shelf.Ren := ⟨fun | 246 => 86 | 283 => 34 | 284 => 35 | 285 => 36 | 286 => 37 | 129 => 55 | 317 => 54 | 318 => 56 | 319 => 57 | 320 => 58 | 337 => 73 | 338 => 74 | n => n, fun | 2 => 2 | 3 => 3 | 9 => 9 | 4 => 4 | 171 => 82 | 0 => 0 | 53 => 37 | 37 => 22 | 5 => 5 | 173 => 85 | 212 => 98 | 51 => 99 | 20 => 20 | 213 => 100 | 46 => 58 | 232 => 125 | 233 => 126 | n => n, fun | 17 => 1 | 18 => 5 | 19 => 6 | n => n⟩
theorem Tryd.q7H : Go.Proofs.LaysM.n246 Tryd.prog Tryd.q3i := {
 mixed := by kernel_rfl
 f129 := Tryd.func55.trans (congrArg some (by kernel_rfl))
 f246 := Tryd.func86.trans (congrArg some (by kernel_rfl))
 f283 := Tryd.func34.trans (congrArg some (by kernel_rfl))
 f284 := Tryd.func35.trans (congrArg some (by kernel_rfl))
 f285 := Tryd.func36.trans (congrArg some (by kernel_rfl))
 f286 := Tryd.func37.trans (congrArg some (by kernel_rfl))
 f317 := Tryd.func54.trans (congrArg some (by kernel_rfl))
 f318 := Tryd.func56.trans (congrArg some (by kernel_rfl))
 f319 := Tryd.func57.trans (congrArg some (by kernel_rfl))
 f320 := Tryd.func58.trans (congrArg some (by kernel_rfl))
 f337 := Tryd.func73.trans (congrArg some (by kernel_rfl))
 f338 := Tryd.func74.trans (congrArg some (by kernel_rfl))
 t0 := Tryd.underlying0
 a0 := Tryd.isAgg0
 z0 := Tryd.sizeOf0
 v0 := Tryd.zeroValue0
 t2 := Tryd.underlying2
 a2 := Tryd.isAgg2
 z2 := Tryd.sizeOf2
 v2 := Tryd.zeroValue2
 t3 := Tryd.underlying3
 a3 := Tryd.isAgg3
 z3 := Tryd.sizeOf3
 v3 := Tryd.zeroValue3
 t4 := Tryd.underlying4
 a4 := Tryd.isAgg4
 z4 := Tryd.sizeOf4
 v4 := Tryd.zeroValue4
 t5 := Tryd.underlying5
 a5 := Tryd.isAgg5
 z5 := Tryd.sizeOf5
 v5 := Tryd.zeroValue5
 t9 := Tryd.underlying9
 a9 := Tryd.isAgg9
 z9 := Tryd.sizeOf9
 v9 := Tryd.zeroValue9
 t20 := Tryd.underlying20
 a20 := Tryd.isAgg20
 z20 := Tryd.sizeOf20
 v20 := Tryd.zeroValue20
 t37 := Tryd.underlying22
 a37 := Tryd.isAgg22
 z37 := Tryd.sizeOf22
 v37 := Tryd.zeroValue22
 t46 := Tryd.underlying58
 a46 := Tryd.isAgg58
 z46 := Tryd.sizeOf58
 v46 := Tryd.zeroValue58
 t51 := Tryd.underlying99
 a51 := Tryd.isAgg99
 z51 := Tryd.sizeOf99
 v51 := Tryd.zeroValue99
 t53 := Tryd.underlying37
 a53 := Tryd.isAgg37
 z53 := Tryd.sizeOf37
 v53 := Tryd.zeroValue37
 t171 := Tryd.underlying82
 a171 := Tryd.isAgg82
 z171 := Tryd.sizeOf82
 v171 := Tryd.zeroValue82
 t173 := Tryd.underlying85
 a173 := Tryd.isAgg85
 z173 := Tryd.sizeOf85
 v173 := Tryd.zeroValue85
 t212 := Tryd.underlying98
 a212 := Tryd.isAgg98
 z212 := Tryd.sizeOf98
 v212 := Tryd.zeroValue98
 t213 := Tryd.underlying100
 a213 := Tryd.isAgg100
 z213 := Tryd.sizeOf100
 t232 := Tryd.underlying125
 a232 := Tryd.isAgg125
 z232 := Tryd.sizeOf125
 v232 := Tryd.zeroValue125
 t233 := Tryd.underlying126
 a233 := Tryd.isAgg126
 z233 := Tryd.sizeOf126
 v233 := Tryd.zeroValue126
 g17 := by kernel_rfl
 g18 := by kernel_rfl
 g19 := by kernel_rfl
 i0 := by kernel_rfl
 i2 := by kernel_rfl
 i3 := by kernel_rfl
 i4 := by kernel_rfl
 i5 := by kernel_rfl
 i9 := by kernel_rfl
 i20 := by kernel_rfl
 i37 := by kernel_rfl
 i46 := by kernel_rfl
 i51 := by kernel_rfl
 i53 := by kernel_rfl
 i171 := by kernel_rfl
 i173 := by kernel_rfl
 i212 := by kernel_rfl
 i232 := by kernel_rfl
 i233 := by kernel_rfl
 m17 := by kernel_rfl
 m18 := by kernel_rfl
 m19 := by kernel_rfl }
def Tryd.z9F : Go.Shelf.Ren := ⟨fun | 14 => 29 | 16 => 44 | 17 => 45 | 19 => 65 | 20 => 66 | 21 => 67 | 22 => 68 | 23 => 69 | 24 => 70 | 25 => 80 | 27 => 82 | 26 => 81 | 28 => 85 | 29 => 86 | 30 => 34 | 31 => 35 | 32 => 36 | 33 => 37 | 35 => 55 | 34 => 54 | 36 => 56 | 37 => 57 | 38 => 58 | 39 => 73 | 40 => 74 | n => n, fun | 9 => 9 | 3 => 3 | 22 => 37 | 24 => 64 | 25 => 71 | 4 => 4 | 34 => 110 | 5 => 5 | 36 => 58 | 37 => 22 | 0 => 0 | 39 => 113 | 21 => 21 | 44 => 123 | 47 => 87 | 50 => 135 | 48 => 133 | 2 => 2 | 52 => 82 | 55 => 85 | 59 => 98 | 60 => 99 | 20 => 20 | 61 => 100 | 65 => 125 | 66 => 126 | 67 => 67 | n => n, fun | 0 => 3 | 1 => 4 | 2 => 1 | 3 => 5 | 4 => 6 | n => n⟩
theorem Tryd.q1a : Go.Proofs.LaysPu.n14 Tryd.prog Tryd.z9F := {
 mixed := by kernel_rfl
 f14 := Tryd.func29.trans (congrArg some (by kernel_rfl))
 f16 := Tryd.func44.trans (congrArg some (by kernel_rfl))
 f17 := Tryd.func45.trans (congrArg some (by kernel_rfl))
 f19 := Tryd.func65.trans (congrArg some (by kernel_rfl))
 f20 := Tryd.func66.trans (congrArg some (by kernel_rfl))
 f21 := Tryd.func67.trans (congrArg some (by kernel_rfl))
 f22 := Tryd.func68.trans (congrArg some (by kernel_rfl))
 f23 := Tryd.func69.trans (congrArg some (by kernel_rfl))
 f24 := Tryd.func70.trans (congrArg some (by kernel_rfl))
 f25 := Tryd.func80.trans (congrArg some (by kernel_rfl))
 f26 := Tryd.func81.trans (congrArg some (by kernel_rfl))
 f27 := Tryd.func82.trans (congrArg some (by kernel_rfl))
 f28 := Tryd.func85.trans (congrArg some (by kernel_rfl))
 f29 := Tryd.func86.trans (congrArg some (by kernel_rfl))
 f30 := Tryd.func34.trans (congrArg some (by kernel_rfl))
 f31 := Tryd.func35.trans (congrArg some (by kernel_rfl))
 f32 := Tryd.func36.trans (congrArg some (by kernel_rfl))
 f33 := Tryd.func37.trans (congrArg some (by kernel_rfl))
 f34 := Tryd.func54.trans (congrArg some (by kernel_rfl))
 f35 := Tryd.func55.trans (congrArg some (by kernel_rfl))
 f36 := Tryd.func56.trans (congrArg some (by kernel_rfl))
 f37 := Tryd.func57.trans (congrArg some (by kernel_rfl))
 f38 := Tryd.func58.trans (congrArg some (by kernel_rfl))
 f39 := Tryd.func73.trans (congrArg some (by kernel_rfl))
 f40 := Tryd.func74.trans (congrArg some (by kernel_rfl))
 t0 := Tryd.underlying0
 a0 := Tryd.isAgg0
 z0 := Tryd.sizeOf0
 v0 := Tryd.zeroValue0
 i0 := by kernel_rfl
 t2 := Tryd.underlying2
 a2 := Tryd.isAgg2
 z2 := Tryd.sizeOf2
 v2 := Tryd.zeroValue2
 i2 := by kernel_rfl
 t3 := Tryd.underlying3
 a3 := Tryd.isAgg3
 z3 := Tryd.sizeOf3
 v3 := Tryd.zeroValue3
 i3 := by kernel_rfl
 t4 := Tryd.underlying4
 a4 := Tryd.isAgg4
 z4 := Tryd.sizeOf4
 v4 := Tryd.zeroValue4
 i4 := by kernel_rfl
 t5 := Tryd.underlying5
 a5 := Tryd.isAgg5
 z5 := Tryd.sizeOf5
 v5 := Tryd.zeroValue5
 i5 := by kernel_rfl
 t9 := Tryd.underlying9
 a9 := Tryd.isAgg9
 z9 := Tryd.sizeOf9
 v9 := Tryd.zeroValue9
 i9 := by kernel_rfl
 t20 := Tryd.underlying20
 a20 := Tryd.isAgg20
 z20 := Tryd.sizeOf20
 v20 := Tryd.zeroValue20
 i20 := by kernel_rfl
 t21 := Tryd.underlying21
 a21 := Tryd.isAgg21
 z21 := Tryd.sizeOf21
 v21 := Tryd.zeroValue21
 i21 := by kernel_rfl
 t22 := Tryd.underlying37
 a22 := Tryd.isAgg37
 z22 := Tryd.sizeOf37
 v22 := Tryd.zeroValue37
 i22 := by kernel_rfl
 t24 := Tryd.underlying64
 a24 := Tryd.isAgg64
 z24 := Tryd.sizeOf64
 v24 := Tryd.zeroValue64
 i24 := by kernel_rfl
 t25 := Tryd.underlying71
 a25 := Tryd.isAgg71
 z25 := Tryd.sizeOf71
 v25 := Tryd.zeroValue71
 i25 := by kernel_rfl
 t34 := Tryd.underlying110
 a34 := Tryd.isAgg110
 z34 := Tryd.sizeOf110
 v34 := Tryd.zeroValue110
 i34 := by kernel_rfl
 c34 := by kernel_rfl
 t36 := Tryd.underlying58
 a36 := Tryd.isAgg58
 z36 := Tryd.sizeOf58
 v36 := Tryd.zeroValue58
 i36 := by kernel_rfl
 t37 := Tryd.underlying22
 a37 := Tryd.isAgg22
 z37 := Tryd.sizeOf22
 v37 := Tryd.zeroValue22
 i37 := by kernel_rfl
 t39 := Tryd.underlying113
 a39 := Tryd.isAgg113
 z39 := Tryd.sizeOf113
 v39 := Tryd.zeroValue113
 i39 := by kernel_rfl
 t44 := Tryd.underlying123
 a44 := Tryd.isAgg123
 z44 := Tryd.sizeOf123
 v44 := Tryd.zeroValue123
 i44 := by kernel_rfl
 t47 := Tryd.underlying87
 a47 := Tryd.isAgg87
 z47 := Tryd.sizeOf87
 v47 := Tryd.zeroValue87
 i47 := by kernel_rfl
 t48 := Tryd.underlying133
 a48 := Tryd.isAgg133
 z48 := Tryd.sizeOf133
 v48 := Tryd.zeroValue133
 i48 := by kernel_rfl
 t50 := Tryd.underlying135
 a50 := Tryd.isAgg135
 z50 := Tryd.sizeOf135
 v50 := Tryd.zeroValue135
 i50 := by kernel_rfl
 t52 := Tryd.underlying82
 a52 := Tryd.isAgg82
 z52 := Tryd.sizeOf82
 v52 := Tryd.zeroValue82
 i52 := by kernel_rfl
 t55 := Tryd.underlying85
 a55 := Tryd.isAgg85
 z55 := Tryd.sizeOf85
 v55 := Tryd.zeroValue85
 i55 := by kernel_rfl
 t59 := Tryd.underlying98
 a59 := Tryd.isAgg98
 z59 := Tryd.sizeOf98
 v59 := Tryd.zeroValue98
 i59 := by kernel_rfl
 t60 := Tryd.underlying99
 a60 := Tryd.isAgg99
 z60 := Tryd.sizeOf99
 v60 := Tryd.zeroValue99
 i60 := by kernel_rfl
 t61 := Tryd.underlying100
 a61 := Tryd.isAgg100
 z61 := Tryd.sizeOf100
 t65 := Tryd.underlying125
 a65 := Tryd.isAgg125
 z65 := Tryd.sizeOf125
 v65 := Tryd.zeroValue125
 i65 := by kernel_rfl
 t66 := Tryd.underlying126
 a66 := Tryd.isAgg126
 z66 := Tryd.sizeOf126
 v66 := Tryd.zeroValue126
 i66 := by kernel_rfl
 t67 := Tryd.underlying67
 a67 := Tryd.isAgg67
 z67 := Tryd.sizeOf67
 v67 := Tryd.zeroValue67
 i67 := by kernel_rfl
 g0 := by kernel_rfl
 m0 := by kernel_rfl
 g1 := by kernel_rfl
 m1 := by kernel_rfl
 g2 := by kernel_rfl
 m2 := by kernel_rfl
 g3 := by kernel_rfl
 m3 := by kernel_rfl
 g4 := by kernel_rfl
 m4 := by kernel_rfl }
theorem Tryd.strconv_ParseUint_10_at64_ok (s : ByteArray) (hmax : s.size ≤ 9223372036854775806) (u : Nat) (h : Lib.parseUintB 64 s.data.toList = .ok u) (w : World) :
  Calls Tryd.prog 29 #[.string s, .int .i64 10, .int .i64 64] w fun e w' => e = .returned (.tuple #[.int .u64 u, .nilIface]) ∧ (w' = w ∨ w' = Lib.bytesWorld w 5 s) := Any.strconv_ParseUint_10_at64_ok Tryd.q1a s hmax u h w
theorem Tryd.strconv_ParseUint_10_at64_range (s : ByteArray) (hlim : s.size ≤ 281474976710656) (h : Lib.parseUintB 64 s.data.toList = .range) (ev : Value) (w : World) (hv : w.cell? ⟨4, 0, none⟩ = some ev) (hev : ev = .nilIface ∨ ∃ te pe, ev = .iface te pe) :
  Calls Tryd.prog 29 #[.string s, .int .i64 10, .int .i64 64] w fun e w' => ∃ N, e = .returned (.tuple #[.int .u64 18446744073709551615, .iface 113 (.pointer (some ⟨N, 0, none⟩))]) ∧ w.heap.size ≤ N ∧ w'.heap[N]? = some (.cells #[.string ⟨#[80, 97, 114, 115, 101, 85, 105, 110, 116]⟩, .string s, ev] 123 (0, 0)) ∧ Below w.heap.size w w' := Any.strconv_ParseUint_10_at64_range Tryd.q1a s hlim h ev w hv hev
def Tryd.y02 : Go.Shelf.Ren := ⟨fun | 219 => 64 | 217 => 76 | 225 => 77 | 224 => 78 | 267 => 79 | 266 => 83 | 314 => 84 | n => n, fun | 9 => 9 | 3 => 3 | 4 => 4 | 5 => 5 | 46 => 58 | 146 => 131 | 51 => 99 | n => n, fun | 1 => 2 | n => n⟩
theorem Tryd.y7m : Go.Proofs.Lays.n219 Tryd.prog Tryd.y02 := {
 mixed := by kernel_rfl
 f217 := Tryd.func76.trans (congrArg some (by kernel_rfl))
 f219 := Tryd.func64.trans (congrArg some (by kernel_rfl))
 f224 := Tryd.func78.trans (congrArg some (by kernel_rfl))
 f225 := Tryd.func77.trans (congrArg some (by kernel_rfl))
 f266 := Tryd.func83.trans (congrArg some (by kernel_rfl))
 f267 := Tryd.func79.trans (congrArg some (by kernel_rfl))
 f314 := Tryd.func84.trans (congrArg some (by kernel_rfl))
 t3 := Tryd.underlying3
 a3 := Tryd.isAgg3
 z3 := Tryd.sizeOf3
 v3 := Tryd.zeroValue3
 t4 := Tryd.underlying4
 a4 := Tryd.isAgg4
 z4 := Tryd.sizeOf4
 v4 := Tryd.zeroValue4
 t5 := Tryd.underlying5
 a5 := Tryd.isAgg5
 z5 := Tryd.sizeOf5
 v5 := Tryd.zeroValue5
 t9 := Tryd.underlying9
 a9 := Tryd.isAgg9
 z9 := Tryd.sizeOf9
 v9 := Tryd.zeroValue9
 t46 := Tryd.underlying58
 a46 := Tryd.isAgg58
 z46 := Tryd.sizeOf58
 v46 := Tryd.zeroValue58
 t51 := Tryd.underlying99
 a51 := Tryd.isAgg99
 z51 := Tryd.sizeOf99
 v51 := Tryd.zeroValue99
 t146 := Tryd.underlying131
 a146 := Tryd.isAgg131
 z146 := Tryd.sizeOf131
 v146 := Tryd.zeroValue131
 g1 := by kernel_rfl }
theorem Tryd.stringslite_Index_one (s : ByteArray) (c : UInt8) (w : World) :
  Calls Tryd.prog 64 #[.string s, .string ⟨#[c]⟩] w fun e w' => e = .returned (.int .i64 (Lib.indexByte s.data.toList c)) ∧ w' = w := Any.stringslite_Index_one Tryd.y7m s c w
def Tryd.y03 : Go.Shelf.Ren := ⟨fun | 143 => 42 | 219 => 64 | 217 => 76 | 225 => 77 | 224 => 78 | 267 => 79 | 266 => 83 | 314 => 84 | n => n, fun | 9 => 9 | 3 => 3 | 4 => 4 | 5 => 5 | 46 => 58 | 146 => 131 | 51 => 99 | n => n, fun | 1 => 2 | n => n⟩
theorem Tryd.y7p : Go.Proofs.Lays.n143 Tryd.prog Tryd.y03 := {
 mixed := by kernel_rfl
 f143 := Tryd.func42.trans (congrArg some (by kernel_rfl))
 f217 := Tryd.func76.trans (congrArg some (by kernel_rfl))
 f219 := Tryd.func64.trans (congrArg some (by kernel_rfl))
 f224 := Tryd.func78.trans (congrArg some (by kernel_rfl))
 f225 := Tryd.func77.trans (congrArg some (by kernel_rfl))
 f266 := Tryd.func83.trans (congrArg some (by kernel_rfl))
 f267 := Tryd.func79.trans (congrArg some (by kernel_rfl))
 f314 := Tryd.func84.trans (congrArg some (by kernel_rfl))
 t3 := Tryd.underlying3
 a3 := Tryd.isAgg3
 z3 := Tryd.sizeOf3
 v3 := Tryd.zeroValue3
 t4 := Tryd.underlying4
 a4 := Tryd.isAgg4
 z4 := Tryd.sizeOf4
 v4 := Tryd.zeroValue4
 t5 := Tryd.underlying5
 a5 := Tryd.isAgg5
 z5 := Tryd.sizeOf5
 v5 := Tryd.zeroValue5
 t9 := Tryd.underlying9
 a9 := Tryd.isAgg9
 z9 := Tryd.sizeOf9
 v9 := Tryd.zeroValue9
 t46 := Tryd.underlying58
 a46 := Tryd.isAgg58
 z46 := Tryd.sizeOf58
 v46 := Tryd.zeroValue58
 t51 := Tryd.underlying99
 a51 := Tryd.isAgg99
 z51 := Tryd.sizeOf99
 v51 := Tryd.zeroValue99
 t146 := Tryd.underlying131
 a146 := Tryd.isAgg131
 z146 := Tryd.sizeOf131
 v146 := Tryd.zeroValue131
 g1 := by kernel_rfl }
theorem Tryd.strings_Index_one (s : ByteArray) (c : UInt8) (w : World) :
  Calls Tryd.prog 42 #[.string s, .string ⟨#[c]⟩] w fun e w' => e = .returned (.int .i64 (Lib.indexByte s.data.toList c)) ∧ w' = w := Any.strings_Index_one Tryd.y7p s c w
def Tryd.y04 : Go.Shelf.Ren := ⟨fun | 138 => 41 | 195 => 61 | 218 => 63 | 143 => 42 | 219 => 64 | 217 => 76 | 225 => 77 | 224 => 78 | 267 => 79 | 266 => 83 | 314 => 84 | n => n, fun | 9 => 9 | 3 => 3 | 4 => 4 | 5 => 5 | 0 => 0 | 46 => 58 | 146 => 131 | 51 => 99 | n => n, fun | 1 => 2 | n => n⟩
theorem Tryd.y7q : Go.Proofs.Lays.n138 Tryd.prog Tryd.y04 := {
 mixed := by kernel_rfl
 f138 := Tryd.func41.trans (congrArg some (by kernel_rfl))
 f143 := Tryd.func42.trans (congrArg some (by kernel_rfl))
 f195 := Tryd.func61.trans (congrArg some (by kernel_rfl))
 f217 := Tryd.func76.trans (congrArg some (by kernel_rfl))
 f218 := Tryd.func63.trans (congrArg some (by kernel_rfl))
 f219 := Tryd.func64.trans (congrArg some (by kernel_rfl))
 f224 := Tryd.func78.trans (congrArg some (by kernel_rfl))
 f225 := Tryd.func77.trans (congrArg some (by kernel_rfl))
 f266 := Tryd.func83.trans (congrArg some (by kernel_rfl))
 f267 := Tryd.func79.trans (congrArg some (by kernel_rfl))
 f314 := Tryd.func84.trans (congrArg some (by kernel_rfl))
 t0 := Tryd.underlying0
 a0 := Tryd.isAgg0
 z0 := Tryd.sizeOf0
 v0 := Tryd.zeroValue0
 t3 := Tryd.underlying3
 a3 := Tryd.isAgg3
 z3 := Tryd.sizeOf3
 v3 := Tryd.zeroValue3
 t4 := Tryd.underlying4
 a4 := Tryd.isAgg4
 z4 := Tryd.sizeOf4
 v4 := Tryd.zeroValue4
 t5 := Tryd.underlying5
 a5 := Tryd.isAgg5
 z5 := Tryd.sizeOf5
 v5 := Tryd.zeroValue5
 t9 := Tryd.underlying9
 a9 := Tryd.isAgg9
 z9 := Tryd.sizeOf9
 v9 := Tryd.zeroValue9
 t46 := Tryd.underlying58
 a46 := Tryd.isAgg58
 z46 := Tryd.sizeOf58
 v46 := Tryd.zeroValue58
 t51 := Tryd.underlying99
 a51 := Tryd.isAgg99
 z51 := Tryd.sizeOf99
 v51 := Tryd.zeroValue99
 t146 := Tryd.underlying131
 a146 := Tryd.isAgg131
 z146 := Tryd.sizeOf131
 v146 := Tryd.zeroValue131
 g1 := by kernel_rfl }
theorem Tryd.strings_Count_one (s : ByteArray) (c : UInt8) (w : World) :
  Calls Tryd.prog 41 #[.string s, .string ⟨#[c]⟩] w fun e w' => e = .returned (.int .i64 (Lib.countByte s.data.toList c)) ∧ w' = w := Any.strings_Count_one Tryd.y7q s c w
def Tryd.z23 : Go.Shelf.Ren := ⟨fun | 146 => 19 | 221 => 27 | 268 => 40 | 138 => 41 | 143 => 42 | 195 => 61 | 197 => 62 | 218 => 63 | 219 => 64 | 260 => 75 | 217 => 76 | 225 => 77 | 224 => 78 | 267 => 79 | 266 => 83 | 314 => 84 | n => n, fun | 9 => 9 | 31 => 36 | 3 => 3 | 4 => 4 | 0 => 0 | 105 => 107 | 21 => 21 | 5 => 5 | 46 => 58 | 119 => 127 | 139 => 130 | 138 => 129 | 146 => 131 | 51 => 99 | n => n, fun | 1 => 2 | 3 => 7 | 4 => 8 | n => n⟩
theorem Tryd.y7o : Go.Proofs.Lays.n146 Tryd.prog Tryd.z23 := {
 mixed := by kernel_rfl
 f138 := Tryd.func41.trans (congrArg some (by kernel_rfl))
 f143 := Tryd.func42.trans (congrArg some (by kernel_rfl))
 f146 := Tryd.func19.trans (congrArg some (by kernel_rfl))
 f195 := Tryd.func61.trans (congrArg some (by kernel_rfl))
 f197 := Tryd.func62.trans (congrArg some (by kernel_rfl))
 f217 := Tryd.func76.trans (congrArg some (by kernel_rfl))
 f218 := Tryd.func63.trans (congrArg some (by kernel_rfl))
 f219 := Tryd.func64.trans (congrArg some (by kernel_rfl))
 f221 := Tryd.func27.trans (congrArg some (by kernel_rfl))
 f224 := Tryd.func78.trans (congrArg some (by kernel_rfl))
 f225 := Tryd.func77.trans (congrArg some (by kernel_rfl))
 f260 := Tryd.func75.trans (congrArg some (by kernel_rfl))
 f266 := Tryd.func83.trans (congrArg some (by kernel_rfl))
 f267 := Tryd.func79.trans (congrArg some (by kernel_rfl))
 f268 := Tryd.func40.trans (congrArg some (by kernel_rfl))
 f314 := Tryd.func84.trans (congrArg some (by kernel_rfl))
 t0 := Tryd.underlying0
 a0 := Tryd.isAgg0
 z0 := Tryd.sizeOf0
 v0 := Tryd.zeroValue0
 t3 := Tryd.underlying3
 a3 := Tryd.isAgg3
 z3 := Tryd.sizeOf3
 v3 := Tryd.zeroValue3
 t4 := Tryd.underlying4
 a4 := Tryd.isAgg4
 z4 := Tryd.sizeOf4
 v4 := Tryd.zeroValue4
 t5 := Tryd.underlying5
 a5 := Tryd.isAgg5
 z5 := Tryd.sizeOf5
 v5 := Tryd.zeroValue5
 t9 := Tryd.underlying9
 a9 := Tryd.isAgg9
 z9 := Tryd.sizeOf9
 v9 := Tryd.zeroValue9
 t21 := Tryd.underlying21
 a21 := Tryd.isAgg21
 z21 := Tryd.sizeOf21
 v21 := Tryd.zeroValue21
 t31 := Tryd.underlying36
 a31 := Tryd.isAgg36
 z31 := Tryd.sizeOf36
 v31 := Tryd.zeroValue36
 t46 := Tryd.underlying58
 a46 := Tryd.isAgg58
 z46 := Tryd.sizeOf58
 v46 := Tryd.zeroValue58
 t51 := Tryd.underlying99
 a51 := Tryd.isAgg99
 z51 := Tryd.sizeOf99
 v51 := Tryd.zeroValue99
 t105 := Tryd.underlying107
 a105 := Tryd.isAgg107
 z105 := Tryd.sizeOf107
 v105 := Tryd.zeroValue107
 t119 := Tryd.underlying127
 a119 := Tryd.isAgg127
 z119 := Tryd.sizeOf127
 t138 := Tryd.underlying129
 a138 := Tryd.isAgg129
 z138 := Tryd.sizeOf129
 v138 := Tryd.zeroValue129
 t139 := Tryd.underlying130
 a139 := Tryd.isAgg130
 z139 := Tryd.sizeOf130
 v139 := Tryd.zeroValue130
 t146 := Tryd.underlying131
 a146 := Tryd.isAgg131
 z146 := Tryd.sizeOf131
 v146 := Tryd.zeroValue131
 g1 := by kernel_rfl
 g3 := by kernel_rfl
 g4 := by kernel_rfl }
end Go.Proofs
namespace Go.Proofs.YtdoajkacibicoaaDoor
open Go Go.E Go.RowKit Go.Shelf
set_option maxRecDepth 100000
set_option maxHeartbeats 6400000
set_option linter.unusedSimpArgs false
def Z0 (b : UInt8) : List UInt8 → List (List UInt8)
 | [] => [[]]
 | c :: s => if c = b then [] :: Z0 b s else match Z0 b s with
  | [] => [[c]]
  | x :: l => (c :: x) :: l
theorem q9w (b : UInt8) : ∀ s, (Z0 b s).length ≤ s.length + 1
 | [] => Nat.le_refl _
 | c :: s => by
  have ih := q9w b s
  unfold Z0
  split
  ·simp only [List.length_cons]; omega
  ·split
   ·simp
   ·rename_i h; rw [h] at ih; simp only [List.length_cons] at ih ⊢; omega
theorem q9v (b : UInt8) : ∀ s, ∀ x ∈ Z0 b s, x.length ≤ s.length
 | [], x, h => by simp [Z0] at h; simp [h]
 | c :: s, x, h => by
  have ih := q9v b s
  unfold Z0 at h
  split at h
  ·rcases List.mem_cons.1 h with rfl | h
   ·simp
   ·have := ih x h; simp only [List.length_cons]; omega
  ·split at h
   ·simp at h; simp [h]
   ·rename_i y l e
    rcases List.mem_cons.1 h with rfl | h
    ·have := ih y (by rw [e]; simp); simp only [List.length_cons]; omega
    ·have := ih x (by rw [e]; simp [h]); simp only [List.length_cons]; omega
theorem z4e (b : UInt8) : ∀ s : List UInt8, Lib.splitK [b] 0 (Lib.count s [b]) s = Z0 b s
 | [] => by rw [Lib.count_one]; rfl
 | c :: s => by
  have ih := z4e b s
  by_cases hc : c = b
  ·subst hc
   have hix : Lib.index (c :: s) [c] = ((0 : Nat) : Int) := by rw [Lib.index]; simp [List.isPrefixOf]
   rw [Lib.count_cons_eq, Nat.add_comm]
   unfold Lib.splitK Z0
   rw [hix, if_neg (by decide), if_pos rfl]
   simp [ih]
  ·rw [Lib.count_cons_ne _ _ _ hc]
   unfold Z0
   rw [if_neg hc, ← ih]
   have hp : ([b] : List UInt8).isPrefixOf (c :: s) = false := by simp [List.isPrefixOf, Ne.symm hc]
   have hix : Lib.index (c :: s) [b] = if Lib.index s [b] == -1 then -1 else Lib.index s [b] + 1 := by rw [Lib.index, hp]; simp
   by_cases hm : Lib.index s [b] = -1
   ·rw [Lib.count_miss hm]; rfl
   ·have hge := Lib.index_ge s [b]
    obtain ⟨i, hi⟩ : ∃ i : Nat, Lib.index s [b] = i := ⟨(Lib.index s [b]).toNat, by omega⟩
    rw [Lib.count_hit (by simp) hi, Nat.add_comm]
    unfold Lib.splitK
    rw [hix, hi]
    have h1 : ((i : Int) == -1) = false := by rw [beq_eq_false_iff_ne]; omega
    simp only [h1, Bool.false_eq_true, if_false]
    have h2 : (((i : Int) + 1) == -1) = false := by rw [beq_eq_false_iff_ne]; omega
    simp only [h2, Bool.false_eq_true, if_false]
    have h3 : ((i : Int) + 1).toNat = i + 1 := by omega
    have h4 : (i : Int).toNat = i := by omega
    simp [h3, h4]
theorem y3w (s : ByteArray) (b : UInt8) (w : World) (hs : s.size < 4294967281) :
  Calls Tryd.prog 19 #[.string s, .string ⟨#[b]⟩] w fun e w' =>
   e = .returned (.slice (some ⟨w.heap.size, 0, none⟩) (Lib.countB s ⟨#[b]⟩ + 1) (Lib.countB s ⟨#[b]⟩ + 1)) ∧ w' = w.alloc (.cells ((Lib.splitB ⟨#[b]⟩ 0 (Lib.countB s ⟨#[b]⟩) s).map Value.string).toArray 9) := by
 have h1 : 1 ≤ (⟨#[b]⟩ : ByteArray).size := Nat.le_refl 1
 have hle := Lib.countB_le ⟨#[b]⟩ h1 s.size s (Nat.le_refl _)
 have hlen := Lib.splitB_all ⟨#[b]⟩ h1 0 _ s rfl
 have c := Any.strings_genSplit_core (P := Tryd.prog) (ρ := Tryd.z23) { Tryd.y7o with } (by kernel_rfl) s ⟨#[b]⟩ 0 (-1) (Lib.countB s ⟨#[b]⟩ + 1) w hs h1 (Nat.zero_le _)
  (fun x c hx => (Tryd.strings_Index_one x b _).mono fun e w' ⟨he, hw⟩ => ⟨by rw [he]; show _ = Ending.returned (Value.int .i64 (Lib.index x.data.toList [b])); rw [Lib.index_one], hw⟩)
  ((Tryd.strings_Count_one s b w).mono fun e w' ⟨he, hw⟩ => ⟨by rw [he]; show _ = Ending.returned (Value.int .i64 ((Lib.count s.data.toList [b] : Nat) : Int)); rw [Lib.count_one]; rfl, hw⟩)
  (by decide) (by decide) (by rw [if_pos (by decide)]; omega)
 rw [Nat.add_sub_cancel, hlen] at c
 have e2 : Lib.cellsOf (Lib.splitB ⟨#[b]⟩ 0 (Lib.countB s ⟨#[b]⟩) s) (Lib.countB s ⟨#[b]⟩ + 1) = ((Lib.splitB ⟨#[b]⟩ 0 (Lib.countB s ⟨#[b]⟩) s).map Value.string).toArray := by rw [← hlen]; exact Lib.cellsOf_full _
 rw [e2] at c
 have e221 : ∀ args w, (callFunc 27 args).run Tryd.prog w = .ok (.enter 27 args) w := enters_of Tryd.func27 (by kernel_rfl) rfl
 go_enter Tryd.func19, Tryd.ntmps19
 go_wp2_with (go_at_fn 27; refine c.mono ?_; rintro e w' ⟨rfl, hw⟩; rw [hw])
 go_ret
 exact ⟨rfl, rfl⟩
theorem z41 {w w' : World} (h : Below w.heap.size w w') : Ext w w' := ⟨h.size, fun b hb => h.block b hb, by unfold oof; rw [h.os, h.output]⟩
theorem z89 {l : List UInt8} (h : l.length = 1) : l = [l.headD 0] := by
 match l, h with
 | [x], _ => rfl
theorem y0L (A : Key → Option O) (s p : C) (h1 : p.toStr.length = 1) (hl : s.toStr.length < 4294967281) :
  p8 (X0 gl0) 19 [.d .str s, .d .str p] A (.d (.slice 16 .str) (.slice ((Z0 (p.toStr.headD 0) s.toStr).map C.str))) [] := by
 intro A' Γ w args hA' hg hc hn hr
 obtain ⟨cc, hok⟩ := hc
 have hs : args.size = 2 := hn.symm
 obtain ⟨e1, _, hb⟩ := W1 (hr 0 _ _ rfl (Array.getElem?_eq_getElem (by omega)))
 obtain ⟨e2, _, _⟩ := W1 (hr 1 _ _ rfl (Array.getElem?_eq_getElem (by omega)))
 rw [z89 h1] at e2
 generalize hbb : p.toStr.headD 0 = b at e2 ⊢
 have ea : args = #[.string ⟨s.toStr.toArray⟩, .string ⟨#[b]⟩] := by
  apply Array.ext
  ·simpa using hs
  ·intro i h1 h2
   match i with
   | 0 => simpa using e1
   | 1 => simpa using e2
   | i + 2 => omega
 have hsz : (⟨s.toStr.toArray⟩ : ByteArray).size = s.toStr.length := by simp [ByteArray.size]
 rw [ea]
 refine (y3w ⟨s.toStr.toArray⟩ b w (by rw [hsz]; exact hl)).mono fun e w' he => ?_
 obtain ⟨he1, he2⟩ := he
 have hd : (Lib.splitB ⟨#[b]⟩ 0 (Lib.countB ⟨s.toStr.toArray⟩ ⟨#[b]⟩) ⟨s.toStr.toArray⟩).map (·.data.toList) = Z0 b s.toStr := by
  rw [Lib.splitB_data]
  exact z4e b s.toStr
 have hlen := Lib.splitB_all ⟨#[b]⟩ (Nat.le_refl 1) 0 _ (⟨s.toStr.toArray⟩ : ByteArray) rfl
 have hlen2 : (Z0 b s.toStr).length = Lib.countB ⟨s.toStr.toArray⟩ ⟨#[b]⟩ + 1 := by rw [← hd, List.length_map, hlen]
 have hcells : (Lib.splitB ⟨#[b]⟩ 0 (Lib.countB ⟨s.toStr.toArray⟩ ⟨#[b]⟩) ⟨s.toStr.toArray⟩).map Value.string = (Z0 b s.toStr).map fun x => Value.string ⟨x.toArray⟩ := by
  rw [← hd, List.map_map]; rfl
 rw [hcells] at he2
 have hnew : w'.heap[w.heap.size]? = some (.cells ((Z0 b s.toStr).map fun x => Value.string ⟨x.toArray⟩).toArray 9 (0, 0)) := by rw [he2]; exact heap_alloc_new _ _
 obtain ⟨c1, p1, g1⟩ := cc.q0X (he2 ▸ Ext.alloc _ _) (l := (Z0 b s.toStr).map fun x => Value.string ⟨x.toArray⟩) (r := []) hnew (by simp)
 refine ⟨_, Γ.q0X w.heap.size ((Z0 b s.toStr).map fun x => Value.string ⟨x.toArray⟩), he1, g1, ?_, ?_⟩
 ·exact c1.congr (fun _ => rfl) (fun _ => rfl) (fun _ h => h)
 have hul := q9w b s.toStr
 refine Q4.2 ⟨?_, rfl⟩
 rw [← hlen2]
 show y4 _ _ [_] _
 refine r6 (by simp) (Nat.le_refl _) (by unfold maxLen; omega) (by omega) (.inr ⟨w.heap.size, 0, _, rfl, k7 _ _ _, by simp [Ty.size], fun i c' hi => ?_⟩)
 rw [List.getElem?_map] at hi
 cases hx : (Z0 b s.toStr)[i]? with
 | none => rw [hx] at hi; cases hi
 | some x =>
  rw [hx] at hi
  simp only [Option.map_some, Option.some.injEq] at hi
  subst hi
  simp only [y4, Ty.size]
  refine ⟨x, rfl, ?_, ?_⟩
  ·rw [show 0 + i * 1 = i by omega]
   simp only [chunk]
   have h2 := (List.getElem?_eq_some_iff.1 hx)
   obtain ⟨hi1, hi2⟩ := h2
   rw [List.drop_eq_getElem_cons (by simpa using hi1)]
   simp [hi2]
  ·have := q9v b s.toStr x (List.mem_of_getElem? hx); omega
noncomputable def q5O (_ : Nat) {R : Type} : OvG R := fun xs _ K => match xs with
 | [.d .str s, .d .str p] => if p.toStr.length = 1 ∧ s.toStr.length < 4294967281 then K (.d (.slice 16 .str) (.slice ((Z0 (p.toStr.headD 0) s.toStr).map C.str))) [] else none
 | _ => none
theorem z1x (N : Nat) {R : Type} : GOk (X0 gl0) 19 (q5O N (R := R)) := by
 intro xs A Kr r hr
 unfold q5O at hr
 split at hr
 ·simp only [Option.ite_none_right_eq_some] at hr
  obtain ⟨⟨h1, h2⟩, hr⟩ := hr
  exact ⟨_, _, y0L A _ _ h1 h2, hr⟩
 ·cases hr
theorem y1p {Γ : G} {w : World} {s : S} (c : y9 Γ w s) {g : Nat} (h : Γ.gl g = some (.iface, .bool true)) : ∃ t v, w.cell? ⟨g, 0, none⟩ = some (.iface t v) := by
 obtain ⟨l, h1, h2, h3⟩ := c.hgl _ _ _ h
 obtain ⟨arr, T, fr, r, h4, h5⟩ := c.hH _ _ h1
 simp only [y4] at h3
 rcases h3 with ⟨h, _⟩ | ⟨_, t, v, h3⟩
 ·cases h
 refine ⟨t, v, ?_⟩
 have h12 : (chunk l 0 1)[0]? = some (.iface t v) := by
  have : (Ty.iface).size = 1 := rfl
  rw [this] at h3
  rw [h3]; rfl
 have h13 : l[0]? = some (.iface t v) := by
  simp only [chunk, List.drop_zero, List.getElem?_take] at h12
  simpa using h12
 unfold World.cell?
 simp only [h4]
 have h14 : arr[0]? = some (.iface t v) := by
  have hl : 0 < l.length := by have : (Ty.iface).size = 1 := rfl; omega
  rw [← Array.getElem?_toList, h5, List.getElem?_append_left hl]
  exact h13
 simpa using h14
theorem y4j (w : World) (e : TypeId) (s : ByteArray) : Ext w (Lib.bytesWorld w e s) := by
 refine ⟨?_, fun b hb => ?_, rfl⟩
 ·simp [Lib.bytesWorld, World.freeze, World.alloc, World.drew, -World.alloc_eq, -World.drew_eq]
 ·have h1 : w.heap.size ≠ b := by omega
  have h2 : b < w.heap.size + 1 := by omega
  simp [Lib.bytesWorld, World.freeze, World.alloc, World.drew, -World.alloc_eq, -World.drew_eq, Array.getElem?_modify, Array.getElem?_push, h1, Ne.symm h1]
def q3F (B : Nat) (s : List UInt8) : Int := match Lib.parseUintB B s with
 | .ok u => u
 | .range => 2 ^ B - 1
 | _ => 0
def q5L (B : Nat) (s : List UInt8) : C := match Lib.parseUintB B s with
 | .ok _ => .nil
 | _ => .bool true
theorem y0Y {B : Nat} (hB : B = 8 ∨ B = 16 ∨ B = 64) (s : List UInt8) : 0 ≤ q3F B s ∧ q3F B s ≤ 18446744073709551615 := by
 have h8 : (2 : Int) ^ 8 - 1 = 255 := by decide
 have h16 : (2 : Int) ^ 16 - 1 = 65535 := by decide
 have h64 : (2 : Int) ^ 64 - 1 = 18446744073709551615 := by decide
 have n8 : (2 : Nat) ^ 8 - 1 = 255 := by decide
 have n16 : (2 : Nat) ^ 16 - 1 = 65535 := by decide
 have n64 : (2 : Nat) ^ 64 - 1 = 18446744073709551615 := by decide
 unfold q3F
 split
 ·rename_i u h
  have := Lib.parseUintB_le h
  rcases hB with rfl | rfl | rfl <;> omega
 ·rcases hB with rfl | rfl | rfl <;> omega
 ·omega
def q7k (B : Nat) (s : ByteArray) (w : World) (z : Int) : Prop :=
 Calls Tryd.prog 29 #[.string s, .int .i64 10, .int .i64 z] w fun e w' => ∃ v, e = .returned (.tuple #[.int .u64 (q3F B s.data.toList), v]) ∧ Ext w w' ∧
  ((q5L B s.data.toList = .nil ∧ v = .nilIface) ∨ (q5L B s.data.toList = .bool true ∧ ∃ t u, v = .iface t u))
theorem z8X {B : Nat} {s : ByteArray} {w : World} {z m : Int} (hm : (2 : Int) ^ B - 1 = m) (t5 : TypeId)
  (hok : ∀ u : Nat, Lib.parseUintB B s.data.toList = .ok u → Calls Tryd.prog 29 #[.string s, .int .i64 10, .int .i64 z] w fun e w' => e = .returned (.tuple #[.int .u64 u, .nilIface]) ∧ (w' = w ∨ w' = Lib.bytesWorld w t5 s))
  (hsy : Lib.parseUintB B s.data.toList = Lib.parseUintB B [] → Calls Tryd.prog 29 #[.string s, .int .i64 10, .int .i64 z] w fun e w' => ∃ t v, e = .returned (.tuple #[.int .u64 0, .iface t v]) ∧ Below w.heap.size w w')
  (hra : Lib.parseUintB B s.data.toList = .range → Calls Tryd.prog 29 #[.string s, .int .i64 10, .int .i64 z] w fun e w' => ∃ t v, e = .returned (.tuple #[.int .u64 m, .iface t v]) ∧ Below w.heap.size w w') : q7k B s w z := by
 unfold q7k q3F q5L
 cases h : Lib.parseUintB B s.data.toList with
 | ok u =>
  refine (hok u h).mono fun e w' ⟨he, hw⟩ => ⟨_, he, ?_, .inl ⟨rfl, rfl⟩⟩
  rcases hw with rfl | rfl
  ·exact .refl _
  ·exact y4j w _ _
 | range => exact (hra h).mono fun e w' ⟨t, v, he, hw⟩ => ⟨_, by rw [he, ← hm], z41 hw, .inr ⟨rfl, t, v, rfl⟩⟩
 | _ => exact (hsy (h.trans (by unfold Lib.parseUintB; rw [if_pos rfl]))).mono fun e w' ⟨t, v, he, hw⟩ => ⟨_, he, z41 hw, .inr ⟨rfl, t, v, rfl⟩⟩
theorem y91 (s : ByteArray) (hl : s.size ≤ 140737488355328) (w : World) {e1 e2 : Value} (h1 : w.cell? ⟨3, 0, none⟩ = some e1) (g1 : e1 = .nilIface ∨ ∃ te pe, e1 = .iface te pe) (h2 : w.cell? ⟨4, 0, none⟩ = some e2) (g2 : e2 = .nilIface ∨ ∃ te pe, e2 = .iface te pe) : q7k 8 s w 8 :=
 z8X (by decide) _ (fun u h => Any.strconv_ParseUint_10_at8_ok Tryd.q1a s (by omega) u h w)
  (fun h => (Any.strconv_ParseUint_10_at8_syntax Tryd.q1a s (by omega) h e1 w h1 g1).mono fun e w' ⟨N, h1, _, _, h2⟩ => ⟨_, _, h1, h2⟩)
  (fun h => (Any.strconv_ParseUint_10_at8_range Tryd.q1a s (by omega) h e2 w h2 g2).mono fun e w' ⟨N, h1, _, _, h2⟩ => ⟨_, _, h1, h2⟩)
theorem y9j (s : ByteArray) (hl : s.size ≤ 140737488355328) (w : World) {e1 e2 : Value} (h1 : w.cell? ⟨3, 0, none⟩ = some e1) (g1 : e1 = .nilIface ∨ ∃ te pe, e1 = .iface te pe) (h2 : w.cell? ⟨4, 0, none⟩ = some e2) (g2 : e2 = .nilIface ∨ ∃ te pe, e2 = .iface te pe) : q7k 16 s w 16 :=
 z8X (by decide) _ (fun u h => Any.strconv_ParseUint_10_at16_ok Tryd.q1a s (by omega) u h w)
  (fun h => (Any.strconv_ParseUint_10_at16_syntax Tryd.q1a s (by omega) h e1 w h1 g1).mono fun e w' ⟨N, h1, _, _, h2⟩ => ⟨_, _, h1, h2⟩)
  (fun h => (Any.strconv_ParseUint_10_at16_range Tryd.q1a s (by omega) h e2 w h2 g2).mono fun e w' ⟨N, h1, _, _, h2⟩ => ⟨_, _, h1, h2⟩)
theorem y9i (s : ByteArray) (hl : s.size ≤ 140737488355328) (w : World) {e1 e2 : Value} (h1 : w.cell? ⟨3, 0, none⟩ = some e1) (g1 : e1 = .nilIface ∨ ∃ te pe, e1 = .iface te pe) (h2 : w.cell? ⟨4, 0, none⟩ = some e2) (g2 : e2 = .nilIface ∨ ∃ te pe, e2 = .iface te pe) : q7k 64 s w 64 :=
 z8X (by decide) _ (fun u h => Any.strconv_ParseUint_10_at64_ok Tryd.q1a s (by omega) u h w)
  (fun h => (Any.strconv_ParseUint_10_at64_syntax Tryd.q1a s (by omega) h e1 w h1 g1).mono fun e w' ⟨N, h1, _, _, h2⟩ => ⟨_, _, h1, h2⟩)
  (fun h => (Any.strconv_ParseUint_10_at64_range Tryd.q1a s (by omega) h e2 w h2 g2).mono fun e w' ⟨N, h1, _, _, h2⟩ => ⟨_, _, h1, h2⟩)
theorem y2B (A : Key → Option O) (s : C) (B : Nat) (hB : B = 8 ∨ B = 16 ∨ B = 64) :
  p8 (X0 gl0) 29 [.d .str s, .d (.int .i64) (.int 10), .d (.int .i64) (.int (B : Int))] A (.tup [.d (.int .u64) (.int (q3F B s.toStr)), .d .iface (q5L B s.toStr)]) [] := by
 intro A' Γ w args hA' hg hc hn hr
 obtain ⟨cc, hok⟩ := hc
 have hs : args.size = 3 := hn.symm
 obtain ⟨e1, _, hb⟩ := W1 (hr 0 _ _ rfl (Array.getElem?_eq_getElem (by omega)))
 obtain ⟨e2, _, _, _⟩ := c4 (hr 1 _ _ rfl (Array.getElem?_eq_getElem (by omega)))
 obtain ⟨e3, _, _, _⟩ := c4 (hr 2 _ _ rfl (Array.getElem?_eq_getElem (by omega)))
 have ea : args = #[.string ⟨s.toStr.toArray⟩, .int .i64 10, .int .i64 (B : Int)] := by
  apply Array.ext
  ·simpa using hs
  ·intro i h1 h2
   match i with
   | 0 => simpa using e1
   | 1 => simpa [C.toInt] using e2
   | 2 => simpa [C.toInt] using e3
   | i + 3 => omega
 have hsz : (⟨s.toStr.toArray⟩ : ByteArray).size = s.toStr.length := by simp [ByteArray.size]
 rw [ea]
 have m1 : IntKind.u64.min = 0 := by decide
 have m2 : IntKind.u64.max = 18446744073709551615 := by decide
 obtain ⟨n1, n2⟩ := y0Y hB s.toStr
 obtain ⟨t1, v1, hv1⟩ := y1p cc (g := 3) (by rw [hg]; rfl)
 obtain ⟨t2, v2, hv2⟩ := y1p cc (g := 4) (by rw [hg]; rfl)
 have hp : q7k B ⟨s.toStr.toArray⟩ w (B : Int) := by
  rcases hB with rfl | rfl | rfl
  ·exact y91 _ (by rw [hsz]; exact hb) w hv1 (.inr ⟨_, _, rfl⟩) hv2 (.inr ⟨_, _, rfl⟩)
  ·exact y9j _ (by rw [hsz]; exact hb) w hv1 (.inr ⟨_, _, rfl⟩) hv2 (.inr ⟨_, _, rfl⟩)
  ·exact y9i _ (by rw [hsz]; exact hb) w hv1 (.inr ⟨_, _, rfl⟩) hv2 (.inr ⟨_, _, rfl⟩)
 refine hp.mono fun e w' ⟨v, he, hx, hv⟩ => ?_
 refine ⟨_, Γ, he, .refl Γ, (cc.ext hx).congr (fun _ => rfl) (fun _ => rfl) (fun _ h => h), ?_⟩
 refine ⟨_, rfl, ?_⟩
 obtain ⟨h1, h2⟩ : q9 Γ (.d (.int .u64) (.int (q3F B s.toStr))) (.int .u64 (q3F B s.toStr)) := Q4.2 ⟨by simp only [y4]; exact ⟨_, rfl, by simp [Value.cells], by omega, by omega⟩, rfl⟩
 have h3 : q9 Γ (.d .iface (q5L B s.toStr)) v := by
  rcases hv with ⟨e, rfl⟩ | ⟨e, t, u, rfl⟩
  ·have e : q5L B s.toStr = .nil := e
   rw [e]; exact Q4.2 ⟨by simp [y4, Value.cells], rfl⟩
  ·have e : q5L B s.toStr = .bool true := e
   rw [e]; exact Q4.2 ⟨by simp [y4, Value.cells], rfl⟩
 obtain ⟨h3, h4⟩ := h3
 exact ⟨_, _, rfl, h1, h2, _, _, rfl, h3, h4, rfl⟩
noncomputable def q2e (_ : Nat) {R : Type} : OvG R := fun xs _ K => match xs with
 | [.d .str s, .d (.int .i64) (.int b), .d (.int .i64) (.int z)] => if b = 10 then (if z = 8 ∨ z = 16 ∨ z = 64 then K (.tup [.d (.int .u64) (.int (q3F z.toNat s.toStr)), .d .iface (q5L z.toNat s.toStr)]) [] else none) else none
 | _ => none
theorem q6T (N : Nat) {R : Type} : GOk (X0 gl0) 29 (q2e N (R := R)) := by
 intro xs A Kr r hr
 unfold q2e at hr
 split at hr
 ·simp only [Option.ite_none_right_eq_some] at hr
  obtain ⟨rfl, hz, hr⟩ := hr
  rename_i s z
  have hz0 : ((z.toNat : Nat) : Int) = z := by omega
  have hc := y2B A s z.toNat (by omega)
  rw [hz0] at hc
  exact ⟨_, _, hc, hr⟩
 ·cases hr
def q6N (s p : List UInt8) : Int := Lib.indexByte s (p.headD 0)
noncomputable def y85 (_ : Nat) {R : Type} : OvG R := fun xs _ K => match xs with
 | [.d .str s, .d .str p] => if p.toStr.length = 1 then K (.d (.int .i64) (.int (q6N s.toStr p.toStr))) [] else none
 | _ => none
theorem z7E (A : Key → Option O) (s p : C) (h1 : p.toStr.length = 1) :
  p8 (X0 gl0) 64 [.d .str s, .d .str p] A (.d (.int .i64) (.int (q6N s.toStr p.toStr))) [] := by
 intro A' Γ w args hA' hg hc hn hr
 obtain ⟨cc, hok⟩ := hc
 have hs : args.size = 2 := hn.symm
 obtain ⟨e1, _, hb⟩ := W1 (hr 0 _ _ rfl (Array.getElem?_eq_getElem (by omega)))
 obtain ⟨e2, _, _⟩ := W1 (hr 1 _ _ rfl (Array.getElem?_eq_getElem (by omega)))
 rw [z89 h1] at e2
 unfold q6N
 generalize hbb : p.toStr.headD 0 = b at e2 ⊢
 have ea : args = #[.string ⟨s.toStr.toArray⟩, .string ⟨#[b]⟩] := by
  apply Array.ext
  ·simpa using hs
  ·intro i h1 h2
   match i with
   | 0 => simpa using e1
   | 1 => simpa using e2
   | i + 2 => omega
 rw [ea]
 refine (Tryd.stringslite_Index_one ⟨s.toStr.toArray⟩ b w).mono fun e w' ⟨he, hw⟩ => ?_
 subst hw
 refine ⟨_, Γ, he, .refl Γ, cc.congr (fun _ => rfl) (fun _ => rfl) (fun _ h => h), ?_⟩
 have m1 : IntKind.i64.min = -9223372036854775808 := by decide
 have m2 : IntKind.i64.max = 9223372036854775807 := by decide
 have k1 := Lib.indexByte_ge s.toStr b
 have k2 : Lib.indexByte s.toStr b ≤ 140737488355328 := by
  by_cases h : 0 ≤ Lib.indexByte s.toStr b
  ·have h2 := (Lib.indexByte_some (show Lib.indexByte s.toStr b = ((Lib.indexByte s.toStr b).toNat : Nat) by omega)).1
   have h3 := (List.getElem?_eq_some_iff.1 h2).1
   omega
  ·omega
 exact Q4.2 ⟨by simp only [y4]; exact ⟨_, rfl, by simp [Value.cells], by omega, by omega⟩, rfl⟩
noncomputable def q4V (_ : Nat) {R : Type} : OvG R := fun xs _ K => match xs with
 | [.d .str s, .d .str p] => if p.toStr.length = 1 then K (.d (.int .i64) (.int (q6N s.toStr p.toStr))) [] else none
 | _ => none
theorem z0n (N : Nat) {R : Type} : GOk (X0 gl0) 64 (q4V N (R := R)) := by
 intro xs A Kr r hr
 unfold q4V at hr
 split at hr
 ·simp only [Option.ite_none_right_eq_some] at hr
  obtain ⟨h1, hr⟩ := hr
  exact ⟨_, _, z7E A _ _ h1, hr⟩
 ·cases hr
open Go Go.E Go.RowKit Go.Shelf Go.Sort Go.Lib
theorem y09 (w : World) (T : TypeId) (nd : Nat) (hs : nd ≤ 24) : Holds (fun (b : UInt8) => Value.int .u8 (b.toNat : Int)) (w.alloc (.cells zeros24 T)) w.heap.size 0 (Array.replicate nd (0 : UInt8)) := fun j hj => by
 have hj' : j < nd := by simpa using hj
 refine ⟨?_, World.frozen?_alloc_new _ _ _ _⟩
 rw [World.cell?_alloc_new, zeros24_at _ (by omega), getElem!_pos _ j hj]
 simp
theorem y5P (w : World) (o : Obj) (dk : Array UInt8) (k : Nat) : ∃ os, (putRow (fun (b : UInt8) => Value.int .u8 (b.toNat : Int)) (w.alloc o) w.heap.size 0 dk).drewN k = grow (w.drewN k) os := by
 rw [alloc_eq_grow]
 obtain ⟨os', _, e⟩ := putRow_grow_new (fun (b : UInt8) => Value.int .u8 (b.toNat : Int)) w #[o] w.heap.size 0 dk (Nat.le_refl _)
 exact ⟨os', by rw [e]; rfl⟩
def y0G (w : World) : Prop := ∀ i, i < 20 → w.cell? ⟨1, i, none⟩ = some (.int .u64 ((10 ^ i : Nat) : Int))
theorem y18 {w : World} (h : y0G w) (o : Obj) : y0G (w.alloc o) := fun i hi => by
 have h' := h i hi
 have hlt : 1 < w.heap.size := by
  rcases Nat.lt_or_ge 1 w.heap.size with h1 | h1
  ·exact h1
  ·simp [World.cell?, Array.getElem?_eq_none h1] at h'
 unfold World.cell? at h' ⊢
 rw [RowKit.Below.heap_alloc w o _ hlt]
 exact h'
theorem y5u (u : Nat) (h1 : 1 ≤ u) (h2 : u < 18446744073709551616) (w : World) (htab : y0G w) :
  Calls Tryd.prog 35 #[.int .u64 u] w fun e w' => e = .returned (.int .i64 (Lib.nDigits u)) ∧ w' = w := by
 have e129 : ∀ args w, (callFunc 55 args).run Tryd.prog w = .ok (.enter 55 args) w := enters_of Tryd.func55 (by kernel_rfl) rfl
 have e317 : ∀ args w, (callFunc 54 args).run Tryd.prog w = .ok (.enter 54 args) w := enters_of Tryd.func54 (by kernel_rfl) rfl
 have e318 : ∀ args w, (callFunc 56 args).run Tryd.prog w = .ok (.enter 56 args) w := enters_of Tryd.func56 (by kernel_rfl) rfl
 obtain ⟨hnd, h19⟩ := Lib.numDigits_eq u h1 h2
 have hL : Lib.bitLen u ≤ 64 := Lib.bitLen_le u 64 (Nat.le_refl _) h2
 have hcell := htab (Lib.l10 (Lib.bitLen u)) (by omega)
 have hto : ((u : Int)).toNat = u := by omega
 generalize hq : Lib.l10 (Lib.bitLen u) = q at hnd h19 hcell
 generalize hT : 10 ^ q = T at hnd hcell
 have h20 : q < 20 := by omega
 have Hnd := Lib.hid hnd
 clear hnd htab
 go_enter Tryd.func35, Tryd.ntmps35
 go_wp2_with (first
  | (go_at_fn 55; refine (Any.bits_Len64 (P := Tryd.prog) (ρ := Tryd.q3i) { Tryd.q7H with } _ _ (by omega) (by omega)).mono ?_; rintro e w' ⟨rfl, rfl⟩)
  | (go_at_fn 54; refine (Any.internal_strconv_log10Pow2 (P := Tryd.prog) (ρ := Tryd.q3i) { Tryd.q7H with } _ (by first | exact hL | (rw [hto]; exact hL)) _).mono ?_; rintro e w' ⟨rfl, rfl⟩)
  | (go_at_fn 56; refine (Any.internal_strconv_bool2_int (P := Tryd.prog) (ρ := Tryd.q3i) { Tryd.q7H with } _ _).mono ?_; rintro e w' ⟨rfl, rfl⟩))
 all_goals go_ret
 all_goals (
  refine ⟨?_, rfl⟩
  have hnd := Hnd.out
  congr 2
  split at hnd <;> simp_all <;> omega)
theorem y5N (u : Nat) (h : u < 18446744073709551616) (w : World) (htab : y0G w) :
  Calls Tryd.prog 23 #[.int .u64 u, .int .i64 10] w fun e w' => e = .returned (.string ⟨(Lib.decDigits u).toArray⟩) ∧ ∃ k os, w' = grow (w.drewN k) os := by
 have e283 : ∀ args w, (callFunc 34 args).run Tryd.prog w = .ok (.enter 34 args) w := enters_of Tryd.func34 (by kernel_rfl) rfl
 have e284 : ∀ args w, (callFunc 35 args).run Tryd.prog w = .ok (.enter 35 args) w := enters_of Tryd.func35 (by kernel_rfl) rfl
 have e285 : ∀ args w, (callFunc 36 args).run Tryd.prog w = .ok (.enter 36 args) w := enters_of Tryd.func36 (by kernel_rfl) rfl
 by_cases hs : u < 100
 ·go_enter Tryd.func23, Tryd.ntmps23
  go_wp2_with (go_at_fn 34; refine (Any.internal_strconv_small { Tryd.q7H with } u hs _).mono ?_; rintro e w' ⟨rfl, rfl⟩)
  go_ret
  exact ⟨rfl, 0, #[], by simp [World.drewN_zero]⟩
 ·have hu1 : 1 ≤ u := by omega
  have hnd20 : Lib.nDigits u ≤ 20 := by have := Lib.numDigits_eq u hu1 h; split at this <;> omega
  have hal : Tryd.prog.arrayLen 82 = 24 := by kernel_rfl
  have hsl1 : ∀ W, (Instr.sliceAt 82 (.pointer (some ⟨w.heap.size, 0, none⟩)) none (some (.int .i64 (Lib.nDigits u : Int))) none).run Tryd.prog W = .ok (.slice (some ⟨w.heap.size, 0, none⟩) (Lib.nDigits u) 24) W := fun W => by
   rw [run_sliceAt_array_h W 82 ⟨w.heap.size, 0, none⟩ (by kernel_rfl) .i64 (Lib.nDigits u : Int) (by omega) (by rw [hal]; omega)]
   go_simp
  have hH0 := y09 w 82 (Lib.nDigits u) (by omega)
  have hfmt := Any.internal_strconv_formatBase10 (P := Tryd.prog) (ρ := Tryd.q3i) { Tryd.q7H with } w.heap.size 0 24 u (Array.replicate (Lib.nDigits u) 0) (w.alloc (.cells Lib.zeros24 82)) hH0 (by rw [Array.size_replicate]; exact Lib.lt_pow_nDigits u) h (by rw [Array.size_replicate]; omega)
  rw [Array.size_replicate] at hfmt
  have HH0 := Lib.hid hH0
  clear hH0 hal
  go_enter Tryd.func23, Tryd.ntmps23
  go_wp2_with (first
   | (go_at_fn 35; refine (y5u u hu1 h _ (y18 htab _)).mono ?_; rintro e w' ⟨rfl, rfl⟩))
  go_at_fn 36
  refine hfmt.mono ?_
  rintro e w' ⟨rfl, k, v', dk, rfl, hF⟩
  have hcv : (convert 22 9 (.slice (some ⟨w.heap.size, 0, none⟩) (Lib.nDigits u) 24)).run Tryd.prog ((putRow (fun (b : UInt8) => Value.int .u8 (b.toNat : Int)) (w.alloc (.cells Lib.zeros24 82)) w.heap.size 0 dk).drewN k) = .ok (.string ⟨(Lib.decDigits u).toArray⟩) ((putRow (fun (b : UInt8) => Value.int .u8 (b.toNat : Int)) (w.alloc (.cells Lib.zeros24 82)) w.heap.size 0 dk).drewN k) := by
   have h := run_convert_bytes_back (P := Tryd.prog) ((putRow (fun (b : UInt8) => Value.int .u8 (b.toNat : Int)) (w.alloc (.cells Lib.zeros24 82)) w.heap.size 0 dk).drewN k) 22 9 5 ⟨w.heap.size, 0, none⟩ 24 (Lib.decDigits u) (by kernel_rfl) (by kernel_rfl) (by kernel_rfl) (fun j hj => by
    rw [Lib.row_is_numeral hF j hj, Lib.add_plain, World.cell?_drewN]
    exact cell?_putRow (fun (b : UInt8) => Value.int .u8 (b.toNat : Int)) _ w.heap.size 0 _ dk HH0.out (by rw [hF.size, Array.size_replicate]) j (by rw [hF.size]; rw [Lib.decDigits_length] at hj; exact hj))
   rw [Lib.decDigits_length] at h
   exact h
  go_wp2
  go_ret
  obtain ⟨os, eo⟩ := y5P w (.cells Lib.zeros24 82) dk k
  exact ⟨rfl, k, os, eo⟩
theorem y6Z {Γ : G} {w : World} {s : S} (c : y9 Γ w s) (h : Γ.gl 1 = some (.arr 20 (.int .u64), .agg (Go.Lib.pow10Tab.map C.int))) : y0G w := fun i hi => by
 obtain ⟨l, h1, h2, h3⟩ := c.hgl _ _ _ h
 obtain ⟨arr, T, fr, r, h4, h5⟩ := c.hH _ _ h1
 simp only [y4] at h3
 obtain ⟨cs, e, _, _, _, hr⟩ := h3
 cases e
 have hi' : (Go.Lib.pow10Tab.map C.int)[i]? = some (.int ((10 ^ i : Nat) : Int)) := by
  have h6 := Go.Lib.pow10Tab_at i hi
  have h7 := Go.Lib.pow10Tab_length
  rw [List.getElem?_map]
  rw [List.getD_eq_getElem?_getD] at h6
  cases h8 : Go.Lib.pow10Tab[i]? with
  | none => rw [List.getElem?_eq_none_iff] at h8; omega
  | some z => rw [h8] at h6; simp only [Option.getD_some] at h6; rw [h6]; rfl
 have h9 := hr _ _ hi'
 have m1 : IntKind.u64.min = 0 := by decide
 simp only [y4, Ty.size, Nat.mul_one] at h9 h2
 obtain ⟨n, h11, h10, _, _⟩ := h9
 cases h11
 have h12 : (chunk (chunk l 0 (20 * 1)) i 1)[0]? = some (.int .u64 ((10 ^ i : Nat) : Int)) := by rw [h10]; rfl
 have h13 : l[i]? = some (.int .u64 ((10 ^ i : Nat) : Int)) := by
  simp only [chunk, List.drop_zero, List.getElem?_take, List.getElem?_drop] at h12
  simp at h12
  exact h12.2
 unfold World.cell?
 simp only [h4]
 have h14 : arr[i]? = some (.int .u64 ((10 ^ i : Nat) : Int)) := by
  have hl : i < l.length := by omega
  rw [← Array.getElem?_toList, h5, List.getElem?_append_left hl]
  exact h13
 simpa using h14
theorem y5R (w : World) (k : Nat) (os : Array Obj) : Ext w (grow (w.drewN k) os) := by
 refine ⟨?_, fun b hb => ?_, ?_⟩
 ·simp [grow, World.drewN]
 ·simp [grow, World.drewN, Array.getElem?_append, hb]
 ·rfl
theorem z1T (u : Nat) (h : u < 18446744073709551616) : (Lib.decDigits u).length ≤ 20 := by
 rw [Lib.decDigits_length]
 by_cases h1 : 1 ≤ u
 ·have := Lib.numDigits_eq u h1 h; split at this <;> omega
 ·have : u = 0 := by omega
  subst this; simp [Lib.nDigits]
def y3c : Nat → Nat → List UInt8
 | 0, _ => []
 | f + 1, n => bif Nat.blt n 10 then [UInt8.ofNat (48 + n)] else y3c f (n / 10) ++ [UInt8.ofNat (48 + n % 10)]
def U9 (n : Nat) : List UInt8 := y3c 20 n
theorem y1U : ∀ (f n : Nat), n < 10 ^ (f + 1) → y3c (f + 1) n = Lib.decDigits n
 | f, n, h => by
  rw [Lib.decDigits, y3c]
  by_cases hn : n < 10
  ·rw [dif_pos hn, show Nat.blt n 10 = true from by simpa [Nat.blt_eq] using hn]; rfl
  ·rw [dif_neg hn, show Nat.blt n 10 = false from by rw [← Bool.not_eq_true, Nat.blt_eq]; exact hn]
   cases f with
   | zero => simp at h; omega
   | succ f =>
    have h' : n / 10 < 10 ^ (f + 1) := by rw [Nat.pow_succ] at h; omega
    rw [cond_false, y1U f (n / 10) h']
theorem z6y (n : Nat) (h : n < 18446744073709551616) : U9 n = Lib.decDigits n := y1U 19 n (Nat.lt_of_lt_of_le h (by decide))
theorem y2Y (A : Key → Option O) (c : C) : p8 (X0 gl0) 23 [.d (.int .u64) c, .d (.int .i64) (.int 10)] A (.d .str (.str (U9 c.toInt.toNat))) [] := by
 intro A' Γ w args hA' hg hc hn hr
 obtain ⟨cc, hok⟩ := hc
 have hs : args.size = 2 := hn.symm
 obtain ⟨e1, _, h1, h2⟩ := c4 (hr 0 _ _ rfl (Array.getElem?_eq_getElem (by omega)))
 obtain ⟨e2, _, _, _⟩ := c4 (hr 1 _ _ rfl (Array.getElem?_eq_getElem (by omega)))
 have m1 : IntKind.u64.min = 0 := by decide
 have m2 : IntKind.u64.max = 18446744073709551615 := by decide
 have ea : args = #[.int .u64 (c.toInt.toNat : Int), .int .i64 10] := by
  apply Array.ext
  ·simpa using hs
  ·intro i h1 h2
   match i with
   | 0 =>
    have : ((c.toInt.toNat : Nat) : Int) = c.toInt := by omega
    simpa [this] using e1
   | 1 => simpa [C.toInt] using e2
   | i + 2 => omega
 rw [ea]
 refine (y5N c.toInt.toNat (by omega) w (y6Z cc (by rw [hg]; rfl))).mono fun e w' he => ?_
 obtain ⟨he1, k, os, he2⟩ := he
 subst he2
 refine ⟨_, Γ, he1, .refl Γ, (cc.ext (y5R w k os)).congr (fun _ => rfl) (fun _ => rfl) (fun _ h => h), ?_⟩
 have := z1T c.toInt.toNat (by omega)
 rw [z6y _ (by omega)]
 exact q0Z (by omega)
noncomputable def z1J (_ : Nat) {R : Type} : OvG R := fun xs _ K => match xs with
 | [.d (.int .u64) c, .d (.int .i64) (.int b)] => if b = 10 then K (.d .str (.str (U9 c.toInt.toNat))) [] else none
 | _ => none
theorem z6k (N : Nat) {R : Type} : GOk (X0 gl0) 23 (z1J N (R := R)) := by
 intro xs A Kr r hr
 unfold z1J at hr
 split at hr
 ·rename_i c b
  by_cases hb : b = 10
  ·subst hb
   exact ⟨_, _, y2Y A c, by simpa using hr⟩
  ·rw [if_neg hb] at hr; cases hr
 ·cases hr
end Go.Proofs.YtdoajkacibicoaaDoor
namespace Go.Proofs.YtdoajkacibicoaaDoor
open Go Go.E
set_option maxRecDepth 10000
set_option linter.unusedSimpArgs false
variable {gl : Nat → Option (Ty × C)}
end Go.Proofs.YtdoajkacibicoaaDoor
namespace Go.Proofs.YtdoajkacibicoaaDoor
open Go Go.E
set_option maxRecDepth 100000
def y4R : List V → Option V := fun xs => match xs with
 | [.d (.int .u64) a, .d (.int .u64) b, .d (.int .u64) (.int c)] => if c = 0 then some (.tup [.d (.int .u64) (.int ((a.toInt + b.toInt) % 18446744073709551616)), .d (.int .u64) (.int ((a.toInt + b.toInt) / 18446744073709551616))]) else none
 | _ => none
def y5T : q1e := fun f => bif Nat.beq f 71 then some y4R else none
theorem y7B (gl : Nat → Option (Ty × C)) : q3x (X0 gl) y5T := by
 intro f g xs v h h'
 unfold y5T at h
 cases h1 : Nat.beq f 71 with
 | true =>
  rw [h1, cond_true] at h
  obtain rfl := Nat.eq_of_beq_eq_true h1
  cases h
  unfold y4R at h'
  split at h'
  ·simp only [Option.ite_none_right_eq_some, Option.some.injEq] at h'
   obtain ⟨rfl, rfl⟩ := h'
   exact z5x _ _
  ·cases h'
 | false =>
  rw [h1, cond_false] at h
  cases h
def y92 (gl : Nat → Option (Ty × C)) : OvS (X0 gl) where
 g R := [
  (999998, fun _ _ _ => none)]
 ok R p hp := by
  simp only [List.mem_cons, List.not_mem_nil, or_false] at hp
  subst hp
  intro xs A Kr r h
  cases h
theorem y6d {gl : Nat → Option (Ty × C)} (o : OvS (X0 gl)) (tbl : FuncId → Nat → List (Nat × Nat)) (fuel d : Nat) {f : FuncId} {xs : List V} {A : Key → Option O} {T : Option (V × List (Key × O))}
  (hT : ekF (X0 gl) (o.ov _) y5T tbl fuel d f xs A kR = T) {v : V} {L : List (Key × O)} (h : T = some (v, L)) : p8 (X0 gl) f xs A v L :=
 y4D (ok0 gl) (mo gl) (o.y6x _) (y7B gl) hT h
def y93 : FuncId → Nat → List (Nat × Nat) := fun _ _ => []
end Go.Proofs.YtdoajkacibicoaaDoor
namespace Go.Proofs.YtdoajkacibicoaaDoor
open Go Go.E
set_option maxRecDepth 10000
set_option maxHeartbeats 4000000
set_option linter.unusedSimpArgs false
variable {gl : Nat → Option (Ty × C)}
def q0v (p : List C) : Nat → Nat → List Nat → Int × List Nat
 | 0, _, bs => (0, bs)
 | f + 1, i, bs => if i < p.length then (if u9 p i = 0 then q0v p f (i + 1 + x8 (bN p i)) (bs ++ [i]) else (u9 p i, bs)) else (0, bs)
def q2X (p : List C) (i : Nat) : Bool := decide (bN p i = 11) || decide (bN p i = 12)
def toN (p : List C) (i : Nat) : Int := Q3 p (i + 1) (x8 (bN p i))
def X9 (p : List C) (bs : List Nat) : List C := (bs.filter (q2X p)).map fun i => .int (toN p i)
def q3Y (bs : List Nat) (c : C) : C := .bool (bs.any fun j => decide (c = C.int (j : Int)))
def Q7 (p : List C) : Int :=
 if 256 < p.length then 1 else if (q0v p p.length 0 []).1 ≠ 0 then (q0v p p.length 0 []).1 else
  if (X9 p (q0v p p.length 0 []).2).all (fun c => (q3Y (q0v p p.length 0 []).2 c).toBool) then 0 else 10
theorem q9z {p : List C} {i : Nat} {bs : List Nat} {r : Int × List Nat} (hi : i < p.length) (h : q0v p (p.length - i) i bs = r) :
  (u9 p i ≠ 0 → r = (u9 p i, bs)) ∧ (u9 p i = 0 → i + 1 + x8 (bN p i) ≤ p.length ∧ q0v p (p.length - (i + 1 + x8 (bN p i))) (i + 1 + x8 (bN p i)) (bs ++ [i]) = r) := by
 have mono : ∀ (f g j : Nat) (bs : List Nat), p.length - j ≤ f → p.length - j ≤ g → q0v p f j bs = q0v p g j bs := by
  intro f
  induction f with
  | zero =>
   intro g j bs h1 h2
   cases g with
   | zero => rfl
   | succ g => simp only [q0v]; rw [if_neg (by omega)]
  | succ f ih =>
   intro g j bs h1 h2
   cases g with
   | zero => simp only [q0v]; rw [if_neg (by omega)]
   | succ g =>
    simp only [q0v]
    split
    ·split
     ·exact ih _ _ _ (by omega) (by omega)
     ·rfl
    ·rfl
 obtain ⟨f, hf⟩ : ∃ f, p.length - i = f + 1 := ⟨p.length - i - 1, by omega⟩
 rw [hf] at h
 simp only [q0v] at h
 rw [if_pos hi] at h
 refine ⟨fun he => ?_, fun he => ⟨?_, ?_⟩⟩
 ·rw [if_neg he] at h; exact h.symm
 ·unfold u9 at he
  rw [if_neg (by omega)] at he
  split at he
  ·simp at he
  ·split at he
   ·simp at he
   ·omega
 ·rw [if_pos he] at h
  rw [← h]
  exact mono _ _ _ _ (by omega) (by omega)
theorem z6S {p : List C} {i : Nat} {bs : List Nat} (hi : p.length ≤ i) : q0v p (p.length - i) i bs = (0, bs) := by
 rw [show p.length - i = 0 by omega]; rfl
theorem q8y (p : List C) (bs : List Nat) (i : Nat) : X9 p (bs ++ [i]) = if q2X p i = true then X9 p bs ++ [.int (toN p i)] else X9 p bs := by
 unfold X9
 rw [List.filter_append]
 by_cases h : q2X p i = true
 ·rw [if_pos h]; simp [h]
 ·rw [if_neg h]; simp [h]
theorem z4K (p : List C) (bs : List Nat) : (X9 p bs).length ≤ bs.length := by
 unfold X9
 rw [List.length_map]
 exact List.length_filter_le _ _
theorem y6f (bs : List Nat) (i : Nat) : y13 (q3Y bs) (.int (i : Int)) (.bool true) = q3Y (bs ++ [i]) := by
 funext c
 unfold y13 q3Y
 simp only [C.q0b]
 by_cases h : c = .int (i : Int)
 ·rw [if_pos h]; simp [h]
 ·rw [if_neg h]; simp [h]
theorem y3f (hg : GF gl) (A : Key → Option O) (p : List C) : p8 (X0 gl) 10 [.d (.slice 1 (.int .u8)) (.slice p)] A (.d (.int .i64) (.int (Q7 p))) [] := by
 refine q1X (n := 56) (ok0 gl) Tryd.func10 rfl rfl (by simp) ?_
 intro A' hA
 refine z8 (z6 (ok0 gl) [] (by kernel_rfl) ?_)
 simp only [go_sem, ↓x4, ↓x5, ↓x6, ↓x7, ↓x3, ↓y5, ↓y6, ↓y8, ↓y7, reduceCtorEq, Nat.reduceEqDiff, ↓reduceIte, Nat.reduceAdd, Nat.reduceSub, Nat.reduceLT, Nat.reduceMul, Nat.reduceBEq, Int.reduceLE, Int.reduceLT, Int.reduceAdd, Int.reduceSub, Int.reduceToNat, Int.reduceNeg, Int.reduceMul, Nat.reduceLeDiff]
 by_cases h0 : 256 < p.length
 ·have h0' : (256 : Int) < (p.length : Int) := by omega
  refine z8 (z8 (z6 (ok0 gl) [] (by kernel_rfl) ?_))
  simp only [go_sem, ↓x4, ↓x5, ↓x6, ↓x7, ↓x3, ↓y5, ↓y6, ↓y8, ↓y7, reduceCtorEq, Nat.reduceEqDiff, ↓reduceIte, Nat.reduceAdd, Nat.reduceSub, Nat.reduceLT, Nat.reduceMul, Nat.reduceBEq, Int.reduceLE, Int.reduceLT, Int.reduceAdd, Int.reduceSub, Int.reduceToNat, Int.reduceNeg, Int.reduceMul, Nat.reduceLeDiff, h0']
  refine r7 _ rfl (fun _ => ?_) (fun h => by simp at h)
  refine z8 (z6 (ok0 gl) [] (by kernel_rfl) ?_)
  simp only [go_sem, ↓x4, ↓x5, ↓x6, ↓x7, ↓x3, ↓y5, ↓y6, ↓y8, ↓y7, reduceCtorEq, Nat.reduceEqDiff, ↓reduceIte, Nat.reduceAdd, Nat.reduceSub, Nat.reduceLT, Nat.reduceMul, Nat.reduceBEq, Int.reduceLE, Int.reduceLT, Int.reduceAdd, Int.reduceSub, Int.reduceToNat, Int.reduceNeg, Int.reduceMul, Nat.reduceLeDiff]
  refine J8 ⟨.inr rfl, ?_⟩
  simp only [H5, go_sem, ↓x4, ↓x5, ↓x6, ↓x7, ↓x3, ↓y5, ↓y6, ↓y8, ↓y7, reduceCtorEq, Nat.reduceEqDiff, ↓reduceIte, Nat.reduceAdd, Nat.reduceSub, Nat.reduceLT, Nat.reduceMul, Nat.reduceBEq, Int.reduceLE, Int.reduceLT, Int.reduceAdd, Int.reduceSub, Int.reduceToNat, Int.reduceNeg, Int.reduceMul, Nat.reduceLeDiff, Tryd.f10, Q7, h0, reduceIte] <;> try rfl
 ·have h0' : ¬ (256 : Int) < (p.length : Int) := by omega
  refine z8 (z8 (z6 (ok0 gl) [] (by kernel_rfl) ?_))
  simp only [go_sem, ↓x4, ↓x5, ↓x6, ↓x7, ↓x3, ↓y5, ↓y6, ↓y8, ↓y7, reduceCtorEq, Nat.reduceEqDiff, ↓reduceIte, Nat.reduceAdd, Nat.reduceSub, Nat.reduceLT, Nat.reduceMul, Nat.reduceBEq, Int.reduceLE, Int.reduceLT, Int.reduceAdd, Int.reduceSub, Int.reduceToNat, Int.reduceNeg, Int.reduceMul, Nat.reduceLeDiff, h0']
  refine r7 _ rfl (fun h => by simp at h) (fun _ => Y4 ?_)
  refine z8 (z6 (ok0 gl) [] (by kernel_rfl) ?_)
  simp only [go_sem, ↓x4, ↓x5, ↓x6, ↓x7, ↓x3, ↓y5, ↓y6, ↓y8, ↓y7, reduceCtorEq, Nat.reduceEqDiff, ↓reduceIte, Nat.reduceAdd, Nat.reduceSub, Nat.reduceLT, Nat.reduceMul, Nat.reduceBEq, Int.reduceLE, Int.reduceLT, Int.reduceAdd, Int.reduceSub, Int.reduceToNat, Int.reduceNeg, Int.reduceMul, Nat.reduceLeDiff]
  refine z8 (z6 (ok0 gl) [] (by kernel_rfl) ?_)
  simp only [go_sem, ↓x4, ↓x5, ↓x6, ↓x7, ↓x3, ↓y5, ↓y6, ↓y8, ↓y7, reduceCtorEq, Nat.reduceEqDiff, ↓reduceIte, Nat.reduceAdd, Nat.reduceSub, Nat.reduceLT, Nat.reduceMul, Nat.reduceBEq, Int.reduceLE, Int.reduceLT, Int.reduceAdd, Int.reduceSub, Int.reduceToNat, Int.reduceNeg, Int.reduceMul, Nat.reduceLeDiff]
  refine z8 (z8 (z6 (ok0 gl) [] (by kernel_rfl) ?_))
  simp only [go_sem, ↓x4, ↓x5, ↓x6, ↓x7, ↓x3, ↓y5, ↓y6, ↓y8, ↓y7, reduceCtorEq, Nat.reduceEqDiff, ↓reduceIte, Nat.reduceAdd, Nat.reduceSub, Nat.reduceLT, Nat.reduceMul, Nat.reduceBEq, Int.reduceLE, Int.reduceLT, Int.reduceAdd, Int.reduceSub, Int.reduceToNat, Int.reduceNeg, Int.reduceMul, Nat.reduceLeDiff]
  refine DC.q9r (z8y (t := 4) (u := 43) (eb := 8) (e := .int .u64) rfl (.inl rfl)) ?_
  refine Y1 (y0l (ι := Nat × List Nat × List (C × V)) (fun i => ⟨[(5, .d (.int .i64) (.int i.1)), (4, .sl 8 (.int .u64) (X9 p i.2.1) 43), (3, .mp (.l 15)), (2, .d (.int .i64) (.int 0)), (0, .d (.slice 1 (.int .u8)) (.slice p))], [(.l 15, .map (.int .u64) .bool i.2.2)], A', [(43, some (X9 p i.2.1).length)]⟩) (fun i => p.length - i.1)
   (fun i => i.1 ≤ p.length ∧ i.2.1.length ≤ i.1 ∧ z2a (X0 gl).P 4 .bool i.2.2 (q3Y i.2.1) ∧ q0v p (p.length - i.1) i.1 i.2.1 = q0v p p.length 0 []) (0, [], []) ?_ ⟨Nat.zero_le _, Nat.le_refl _, z2a.nil (by simp only [go_sem]), rfl⟩ ?_)
  ·refine U4 rfl ?_ ?_ ?_ ?_ ?_ <;> simp only [go_sem, ↓x4, ↓x5, ↓x6, ↓x7, ↓x3, ↓y5, ↓y6, ↓y8, ↓y7, reduceCtorEq, Nat.reduceEqDiff, ↓reduceIte, Nat.reduceAdd, Nat.reduceSub, Nat.reduceLT, Nat.reduceMul, Nat.reduceBEq, Int.reduceLE, Int.reduceLT, Int.reduceAdd, Int.reduceSub, Int.reduceToNat, Int.reduceNeg, Int.reduceMul, Nat.reduceLeDiff]
   all_goals first | rfl | exact ⟨rfl, rfl⟩
  ·rintro ⟨i, bs, es⟩ ⟨hi, hb, hM, hS⟩
   simp only at hi hb hM hS
   have hM' : ∀ c, q2V (X0 gl).P 4 es c = .d .bool (q3Y bs c) := hM.look
   by_cases hlt : i < p.length
   ·have hlt' : (i : Int) < (p.length : Int) := by omega
    obtain ⟨s1, s2⟩ := q9z hlt hS
    refine z8 (z8 (z6 (ok0 gl) [] (by kernel_rfl) ?_))
    simp only [go_sem, ↓x4, ↓x5, ↓x6, ↓x7, ↓x3, ↓y5, ↓y6, ↓y8, ↓y7, reduceCtorEq, Nat.reduceEqDiff, ↓reduceIte, Nat.reduceAdd, Nat.reduceSub, Nat.reduceLT, Nat.reduceMul, Nat.reduceBEq, Int.reduceLE, Int.reduceLT, Int.reduceAdd, Int.reduceSub, Int.reduceToNat, Int.reduceNeg, Int.reduceMul, Nat.reduceLeDiff, hlt']
    refine r7 _ rfl (fun _ => Y4 ?_) (fun h => by simp at h)
    refine Y1 (z8 (z6 (ok0 gl) [] (by kernel_rfl) (q9u [(), ()] ?_)))
    simp only [go_sem, ↓x4, ↓x5, ↓x6, ↓x7, ↓x3, ↓y5, ↓y6, ↓y8, ↓y7, reduceCtorEq, Nat.reduceEqDiff, ↓reduceIte, Nat.reduceAdd, Nat.reduceSub, Nat.reduceLT, Nat.reduceMul, Nat.reduceBEq, Int.reduceLE, Int.reduceLT, Int.reduceAdd, Int.reduceSub, Int.reduceToNat, Int.reduceNeg, Int.reduceMul, Nat.reduceLeDiff]
    refine q4y [(), (), (), (), (), (), (), (), ()] rfl ?_
    refine q16 _ (z5t hg _ p i (by omega) (by omega)) rfl (by simp only [go_sem]) rfl ?_ ?_ ?_ ?_ ?_ <;> simp only [go_sem, ↓x4, ↓x5, ↓x6, ↓x7, ↓x3, ↓y5, ↓y6, ↓y8, ↓y7, reduceCtorEq, Nat.reduceEqDiff, ↓reduceIte, Nat.reduceAdd, Nat.reduceSub, Nat.reduceLT, Nat.reduceMul, Nat.reduceBEq, Int.reduceLE, Int.reduceLT, Int.reduceAdd, Int.reduceSub, Int.reduceToNat, Int.reduceNeg, Int.reduceMul, Nat.reduceLeDiff, q7M]
    by_cases he : u9 p i = 0
    ·obtain ⟨q1, q2⟩ := s2 he
     refine z8 (z8 (z6 (ok0 gl) [] (by kernel_rfl) ?_))
     simp only [go_sem, ↓x4, ↓x5, ↓x6, ↓x7, ↓x3, ↓y5, ↓y6, ↓y8, ↓y7, reduceCtorEq, Nat.reduceEqDiff, ↓reduceIte, Nat.reduceAdd, Nat.reduceSub, Nat.reduceLT, Nat.reduceMul, Nat.reduceBEq, Int.reduceLE, Int.reduceLT, Int.reduceAdd, Int.reduceSub, Int.reduceToNat, Int.reduceNeg, Int.reduceMul, Nat.reduceLeDiff, he]
     refine r7 _ rfl (fun h => by simp at h) (fun _ => Y4 ?_)
     have z1 : IntKind.u64.min = 0 := by decide
     have z2 : IntKind.u64.max = 18446744073709551615 := by decide
     have w1 : IntKind.u64.wrap (i : Int) = i := q2y (by omega) (by omega)
     have hput : z2a (X0 gl).P 4 .bool (q0G es (.int (i : Int)) (.d .bool (.bool true))) (q3Y (bs ++ [i])) := by
      rw [← y6f]; exact hM.put _ _
     have hln := z4K p bs
     have hbl : (bs ++ [i]).length ≤ i + 1 + x8 (bN p i) := by simp; omega
     refine z8 (z6 (ok0 gl) [] (by kernel_rfl) ?_)
     simp only [go_sem, ↓x4, ↓x5, ↓x6, ↓x7, ↓x3, ↓y5, ↓y6, ↓y8, ↓y7, reduceCtorEq, Nat.reduceEqDiff, ↓reduceIte, Nat.reduceAdd, Nat.reduceSub, Nat.reduceLT, Nat.reduceMul, Nat.reduceBEq, Int.reduceLE, Int.reduceLT, Int.reduceAdd, Int.reduceSub, Int.reduceToNat, Int.reduceNeg, Int.reduceMul, Nat.reduceLeDiff, w1]
     by_cases l1 : bN p i = 11
     ·have hsn : X9 p (bs ++ [i]) = X9 p bs ++ [.int (Q3 p (i + 1) (x8 11))] := by rw [q8y, if_pos (by simp [q2X, l1])]; unfold toN; rw [l1]
      rw [l1] at q1 q2 hbl
      refine z8 (z8 (z6 (ok0 gl) [] (by kernel_rfl) ?_))
      simp only [go_sem, ↓x4, ↓x5, ↓x6, ↓x7, ↓x3, ↓y5, ↓y6, ↓y8, ↓y7, reduceCtorEq, Nat.reduceEqDiff, ↓reduceIte, Nat.reduceAdd, Nat.reduceSub, Nat.reduceLT, Nat.reduceMul, Nat.reduceBEq, Int.reduceLE, Int.reduceLT, Int.reduceAdd, Int.reduceSub, Int.reduceToNat, Int.reduceNeg, Int.reduceMul, Nat.reduceLeDiff, l1]
      refine r7 _ rfl (fun _ => ?_) (fun h => by simp at h)
      refine z6 (ok0 gl) [] (by kernel_rfl) ?_
      simp only [go_sem, ↓x4, ↓x5, ↓x6, ↓x7, ↓x3, ↓y5, ↓y6, ↓y8, ↓y7, reduceCtorEq, Nat.reduceEqDiff, ↓reduceIte, Nat.reduceAdd, Nat.reduceSub, Nat.reduceLT, Nat.reduceMul, Nat.reduceBEq, Int.reduceLE, Int.reduceLT, Int.reduceAdd, Int.reduceSub, Int.reduceToNat, Int.reduceNeg, Int.reduceMul, Nat.reduceLeDiff]
      refine ⟨rfl, fun x hx => ?_, by omega, by unfold maxLen; omega, ?_⟩
      ·simp only [List.mem_singleton] at hx
       subst hx
       exact ⟨rfl, rfl⟩
      refine z6 (ok0 gl) [] (by kernel_rfl) ?_
      simp only [go_sem, ↓x4, ↓x5, ↓x6, ↓x7, ↓x3, ↓y5, ↓y6, ↓y8, ↓y7, reduceCtorEq, Nat.reduceEqDiff, ↓reduceIte, Nat.reduceAdd, Nat.reduceSub, Nat.reduceLT, Nat.reduceMul, Nat.reduceBEq, Int.reduceLE, Int.reduceLT, Int.reduceAdd, Int.reduceSub, Int.reduceToNat, Int.reduceNeg, Int.reduceMul, Nat.reduceLeDiff]
      refine ⟨(i + 1 + x8 11, bs ++ [i], q0G es (.int (i : Int)) (.d .bool (.bool true))), ⟨q1, hbl, hput, q2⟩, by simp only; omega, ?_⟩
      simp only [hsn]
      refine U4 rfl ?_ ?_ ?_ ?_ ?_ <;> simp only [go_sem, ↓x4, ↓x5, ↓x6, ↓x7, ↓x3, ↓y5, ↓y6, ↓y8, ↓y7, reduceCtorEq, Nat.reduceEqDiff, ↓reduceIte, Nat.reduceAdd, Nat.reduceSub, Nat.reduceLT, Nat.reduceMul, Nat.reduceBEq, Int.reduceLE, Int.reduceLT, Int.reduceAdd, Int.reduceSub, Int.reduceToNat, Int.reduceNeg, Int.reduceMul, Nat.reduceLeDiff, List.length_append]
      all_goals first | exact hput.dat | exact hput.all _ _ | rfl
     ·by_cases l2 : bN p i = 12
      ·have hsn : X9 p (bs ++ [i]) = X9 p bs ++ [.int (Q3 p (i + 1) (x8 12))] := by rw [q8y, if_pos (by simp [q2X, l2])]; unfold toN; rw [l2]
       have l1' : ¬ (12 : Int) = 11 := by decide
       rw [l2] at q1 q2 hbl
       refine z8 (z8 (z6 (ok0 gl) [] (by kernel_rfl) ?_))
       simp only [go_sem, ↓x4, ↓x5, ↓x6, ↓x7, ↓x3, ↓y5, ↓y6, ↓y8, ↓y7, reduceCtorEq, Nat.reduceEqDiff, ↓reduceIte, Nat.reduceAdd, Nat.reduceSub, Nat.reduceLT, Nat.reduceMul, Nat.reduceBEq, Int.reduceLE, Int.reduceLT, Int.reduceAdd, Int.reduceSub, Int.reduceToNat, Int.reduceNeg, Int.reduceMul, Nat.reduceLeDiff, l2, l1']
       refine r7 _ rfl (fun _ => ?_) (fun h => by simp at h)
       refine z6 (ok0 gl) [] (by kernel_rfl) ?_
       simp only [go_sem, ↓x4, ↓x5, ↓x6, ↓x7, ↓x3, ↓y5, ↓y6, ↓y8, ↓y7, reduceCtorEq, Nat.reduceEqDiff, ↓reduceIte, Nat.reduceAdd, Nat.reduceSub, Nat.reduceLT, Nat.reduceMul, Nat.reduceBEq, Int.reduceLE, Int.reduceLT, Int.reduceAdd, Int.reduceSub, Int.reduceToNat, Int.reduceNeg, Int.reduceMul, Nat.reduceLeDiff]
       refine ⟨rfl, fun x hx => ?_, by omega, by unfold maxLen; omega, ?_⟩
       ·simp only [List.mem_singleton] at hx
        subst hx
        exact ⟨rfl, rfl⟩
       refine z6 (ok0 gl) [] (by kernel_rfl) ?_
       simp only [go_sem, ↓x4, ↓x5, ↓x6, ↓x7, ↓x3, ↓y5, ↓y6, ↓y8, ↓y7, reduceCtorEq, Nat.reduceEqDiff, ↓reduceIte, Nat.reduceAdd, Nat.reduceSub, Nat.reduceLT, Nat.reduceMul, Nat.reduceBEq, Int.reduceLE, Int.reduceLT, Int.reduceAdd, Int.reduceSub, Int.reduceToNat, Int.reduceNeg, Int.reduceMul, Nat.reduceLeDiff]
       refine ⟨(i + 1 + x8 12, bs ++ [i], q0G es (.int (i : Int)) (.d .bool (.bool true))), ⟨q1, hbl, hput, q2⟩, by simp only; omega, ?_⟩
       simp only [hsn]
       refine U4 rfl ?_ ?_ ?_ ?_ ?_ <;> simp only [go_sem, ↓x4, ↓x5, ↓x6, ↓x7, ↓x3, ↓y5, ↓y6, ↓y8, ↓y7, reduceCtorEq, Nat.reduceEqDiff, ↓reduceIte, Nat.reduceAdd, Nat.reduceSub, Nat.reduceLT, Nat.reduceMul, Nat.reduceBEq, Int.reduceLE, Int.reduceLT, Int.reduceAdd, Int.reduceSub, Int.reduceToNat, Int.reduceNeg, Int.reduceMul, Nat.reduceLeDiff, List.length_append]
       all_goals first | exact hput.dat | exact hput.all _ _ | rfl
      ·have hsn : X9 p (bs ++ [i]) = X9 p bs := by rw [q8y, if_neg (by simp [q2X, l1, l2])]
       refine z8 (z8 (z6 (ok0 gl) [] (by kernel_rfl) ?_))
       simp only [go_sem, ↓x4, ↓x5, ↓x6, ↓x7, ↓x3, ↓y5, ↓y6, ↓y8, ↓y7, reduceCtorEq, Nat.reduceEqDiff, ↓reduceIte, Nat.reduceAdd, Nat.reduceSub, Nat.reduceLT, Nat.reduceMul, Nat.reduceBEq, Int.reduceLE, Int.reduceLT, Int.reduceAdd, Int.reduceSub, Int.reduceToNat, Int.reduceNeg, Int.reduceMul, Nat.reduceLeDiff, l1, l2]
       refine r7 _ rfl (fun h => by simp at h) (fun _ => Y4 ?_)
       refine z6 (ok0 gl) [] (by kernel_rfl) ?_
       simp only [go_sem, ↓x4, ↓x5, ↓x6, ↓x7, ↓x3, ↓y5, ↓y6, ↓y8, ↓y7, reduceCtorEq, Nat.reduceEqDiff, ↓reduceIte, Nat.reduceAdd, Nat.reduceSub, Nat.reduceLT, Nat.reduceMul, Nat.reduceBEq, Int.reduceLE, Int.reduceLT, Int.reduceAdd, Int.reduceSub, Int.reduceToNat, Int.reduceNeg, Int.reduceMul, Nat.reduceLeDiff]
       refine ⟨(i + 1 + x8 (bN p i), bs ++ [i], q0G es (.int (i : Int)) (.d .bool (.bool true))), ⟨q1, hbl, hput, q2⟩, by simp only; omega, ?_⟩
       simp only [hsn]
       refine U4 rfl ?_ ?_ ?_ ?_ ?_ <;> simp only [go_sem, ↓x4, ↓x5, ↓x6, ↓x7, ↓x3, ↓y5, ↓y6, ↓y8, ↓y7, reduceCtorEq, Nat.reduceEqDiff, ↓reduceIte, Nat.reduceAdd, Nat.reduceSub, Nat.reduceLT, Nat.reduceMul, Nat.reduceBEq, Int.reduceLE, Int.reduceLT, Int.reduceAdd, Int.reduceSub, Int.reduceToNat, Int.reduceNeg, Int.reduceMul, Nat.reduceLeDiff]
       all_goals first | exact hput.dat | exact hput.all _ _ | rfl
    ·have hr := s1 he
     refine z8 (z8 (z6 (ok0 gl) [] (by kernel_rfl) ?_))
     simp only [go_sem, ↓x4, ↓x5, ↓x6, ↓x7, ↓x3, ↓y5, ↓y6, ↓y8, ↓y7, reduceCtorEq, Nat.reduceEqDiff, ↓reduceIte, Nat.reduceAdd, Nat.reduceSub, Nat.reduceLT, Nat.reduceMul, Nat.reduceBEq, Int.reduceLE, Int.reduceLT, Int.reduceAdd, Int.reduceSub, Int.reduceToNat, Int.reduceNeg, Int.reduceMul, Nat.reduceLeDiff, he]
     refine r7 _ rfl (fun _ => ?_) (fun h => by simp at h)
     refine z8 (z6 (ok0 gl) [] (by kernel_rfl) ?_)
     simp only [go_sem, ↓x4, ↓x5, ↓x6, ↓x7, ↓x3, ↓y5, ↓y6, ↓y8, ↓y7, reduceCtorEq, Nat.reduceEqDiff, ↓reduceIte, Nat.reduceAdd, Nat.reduceSub, Nat.reduceLT, Nat.reduceMul, Nat.reduceBEq, Int.reduceLE, Int.reduceLT, Int.reduceAdd, Int.reduceSub, Int.reduceToNat, Int.reduceNeg, Int.reduceMul, Nat.reduceLeDiff]
     refine J8 ⟨.inr rfl, ?_⟩
     simp only [H5, go_sem, ↓x4, ↓x5, ↓x6, ↓x7, ↓x3, ↓y5, ↓y6, ↓y8, ↓y7, reduceCtorEq, Nat.reduceEqDiff, ↓reduceIte, Nat.reduceAdd, Nat.reduceSub, Nat.reduceLT, Nat.reduceMul, Nat.reduceBEq, Int.reduceLE, Int.reduceLT, Int.reduceAdd, Int.reduceSub, Int.reduceToNat, Int.reduceNeg, Int.reduceMul, Nat.reduceLeDiff, Tryd.f10, Q7, h0, hr, he, reduceIte] <;> try rfl
   ·have hlt' : ¬ (i : Int) < (p.length : Int) := by omega
    obtain rfl : i = p.length := by omega
    rw [z6S (Nat.le_refl _)] at hS
    refine z8 (z8 (z6 (ok0 gl) [] (by kernel_rfl) ?_))
    simp only [go_sem, ↓x4, ↓x5, ↓x6, ↓x7, ↓x3, ↓y5, ↓y6, ↓y8, ↓y7, reduceCtorEq, Nat.reduceEqDiff, ↓reduceIte, Nat.reduceAdd, Nat.reduceSub, Nat.reduceLT, Nat.reduceMul, Nat.reduceBEq, Int.reduceLE, Int.reduceLT, Int.reduceAdd, Int.reduceSub, Int.reduceToNat, Int.reduceNeg, Int.reduceMul, Nat.reduceLeDiff, hlt']
    refine r7 _ rfl (fun h => by simp at h) (fun _ => q2O ?_)
    refine z8 (z8 (z6 (ok0 gl) [] (by kernel_rfl) ?_))
    simp only [go_sem, ↓x4, ↓x5, ↓x6, ↓x7, ↓x3, ↓y5, ↓y6, ↓y8, ↓y7, reduceCtorEq, Nat.reduceEqDiff, ↓reduceIte, Nat.reduceAdd, Nat.reduceSub, Nat.reduceLT, Nat.reduceMul, Nat.reduceBEq, Int.reduceLE, Int.reduceLT, Int.reduceAdd, Int.reduceSub, Int.reduceToNat, Int.reduceNeg, Int.reduceMul, Nat.reduceLeDiff]
    refine Y1 (q94 (fun j => ⟨[(47, .d (.int .i64) (.int j)), (46, .d (.int .i64) (.int (X9 p bs).length)), (45, .sl 8 (.int .u64) (X9 p bs) 43), (3, .mp (.l 15)), (2, .d (.int .i64) (.int 0)), (0, .d (.slice 1 (.int .u8)) (.slice p))], [(.l 15, .map (.int .u64) .bool es)], A', [(43, some (X9 p bs).length)]⟩) (X9 p bs).length (fun j => ∀ c ∈ (X9 p bs).take j, (q3Y bs c).toBool = true) ?_ (by simp) ?_)
    ·refine U4 rfl ?_ ?_ ?_ ?_ ?_ <;> simp only [go_sem, ↓x4, ↓x5, ↓x6, ↓x7, ↓x3, ↓y5, ↓y6, ↓y8, ↓y7, reduceCtorEq, Nat.reduceEqDiff, ↓reduceIte, Nat.reduceAdd, Nat.reduceSub, Nat.reduceLT, Nat.reduceMul, Nat.reduceBEq, Int.reduceLE, Int.reduceLT, Int.reduceAdd, Int.reduceSub, Int.reduceToNat, Int.reduceNeg, Int.reduceMul, Nat.reduceLeDiff]
     all_goals first | exact hM.dat | exact hM.all _ _ | rfl
    ·intro j hj hall
     refine z8 (z6 (ok0 gl) [] (by kernel_rfl) ?_)
     simp only [go_sem, ↓x4, ↓x5, ↓x6, ↓x7, ↓x3, ↓y5, ↓y6, ↓y8, ↓y7, reduceCtorEq, Nat.reduceEqDiff, ↓reduceIte, Nat.reduceAdd, Nat.reduceSub, Nat.reduceLT, Nat.reduceMul, Nat.reduceBEq, Int.reduceLE, Int.reduceLT, Int.reduceAdd, Int.reduceSub, Int.reduceToNat, Int.reduceNeg, Int.reduceMul, Nat.reduceLeDiff]
     refine z8 (r7 _ rfl (fun hlt => Y4 ?_) (fun hge => q2O ?_))
     ·have hlt : j < (X9 p bs).length := by simpa using hlt
      have e1 : ((j : Int).toNat) = j := Int.toNat_natCast j
      have hln := z4K p bs
      refine z8 (Y1 (z8 (z6 (ok0 gl) [] (by kernel_rfl) ?_)))
      simp only [go_sem, ↓x4, ↓x5, ↓x6, ↓x7, ↓x3, ↓y5, ↓y6, ↓y8, ↓y7, reduceCtorEq, Nat.reduceEqDiff, ↓reduceIte, Nat.reduceAdd, Nat.reduceSub, Nat.reduceLT, Nat.reduceMul, Nat.reduceBEq, Int.reduceLE, Int.reduceLT, Int.reduceAdd, Int.reduceSub, Int.reduceToNat, Int.reduceNeg, Int.reduceMul, Nat.reduceLeDiff, e1]
      refine ⟨by omega, by omega, ?_⟩
      have hmem : (X9 p bs).getD j .nil ∈ X9 p bs := by
       rw [List.getD_eq_getElem?_getD, List.getElem?_eq_getElem hlt]; exact List.getElem_mem hlt
      by_cases hin : (q3Y bs ((X9 p bs).getD j .nil)).toBool = true
      ·refine z8 (z6 (ok0 gl) [] (by kernel_rfl) ?_)
       simp only [go_sem, ↓x4, ↓x5, ↓x6, ↓x7, ↓x3, ↓y5, ↓y6, ↓y8, ↓y7, reduceCtorEq, Nat.reduceEqDiff, ↓reduceIte, Nat.reduceAdd, Nat.reduceSub, Nat.reduceLT, Nat.reduceMul, Nat.reduceBEq, Int.reduceLE, Int.reduceLT, Int.reduceAdd, Int.reduceSub, Int.reduceToNat, Int.reduceNeg, Int.reduceMul, Nat.reduceLeDiff, hM', hin]
       refine r7 _ rfl (fun h => by simp at h) (fun _ => Y4 ?_)
       refine z6 (ok0 gl) [] (by kernel_rfl) ?_
       simp only [go_sem, ↓x4, ↓x5, ↓x6, ↓x7, ↓x3, ↓y5, ↓y6, ↓y8, ↓y7, reduceCtorEq, Nat.reduceEqDiff, ↓reduceIte, Nat.reduceAdd, Nat.reduceSub, Nat.reduceLT, Nat.reduceMul, Nat.reduceBEq, Int.reduceLE, Int.reduceLT, Int.reduceAdd, Int.reduceSub, Int.reduceToNat, Int.reduceNeg, Int.reduceMul, Nat.reduceLeDiff]
       refine ⟨hlt, ?_, ?_⟩
       ·intro c hc
        rw [List.take_add_one, List.mem_append] at hc
        rcases hc with hc | hc
        ·exact hall c hc
        ·rw [List.getElem?_eq_getElem hlt] at hc
         simp only [Option.toList_some, List.mem_singleton] at hc
         subst hc
         rw [List.getD_eq_getElem?_getD, List.getElem?_eq_getElem hlt] at hin
         exact hin
       ·rw [IntWalk.i64_in _ (by omega)]
        refine U4 rfl ?_ ?_ ?_ ?_ ?_ <;> simp only [go_sem, ↓x4, ↓x5, ↓x6, ↓x7, ↓x3, ↓y5, ↓y6, ↓y8, ↓y7, reduceCtorEq, Nat.reduceEqDiff, ↓reduceIte, Nat.reduceAdd, Nat.reduceSub, Nat.reduceLT, Nat.reduceMul, Nat.reduceBEq, Int.reduceLE, Int.reduceLT, Int.reduceAdd, Int.reduceSub, Int.reduceToNat, Int.reduceNeg, Int.reduceMul, Nat.reduceLeDiff]
        all_goals first | exact hM.dat | exact hM.all _ _ | rfl
      ·have hin' : (q3Y bs ((X9 p bs).getD j .nil)).toBool = false := by simpa using hin
       refine z8 (z6 (ok0 gl) [] (by kernel_rfl) ?_)
       simp only [go_sem, ↓x4, ↓x5, ↓x6, ↓x7, ↓x3, ↓y5, ↓y6, ↓y8, ↓y7, reduceCtorEq, Nat.reduceEqDiff, ↓reduceIte, Nat.reduceAdd, Nat.reduceSub, Nat.reduceLT, Nat.reduceMul, Nat.reduceBEq, Int.reduceLE, Int.reduceLT, Int.reduceAdd, Int.reduceSub, Int.reduceToNat, Int.reduceNeg, Int.reduceMul, Nat.reduceLeDiff, hM', hin']
       refine r7 _ rfl (fun _ => ?_) (fun h => by simp at h)
       have hr : Q7 p = 10 := by
        unfold Q7
        rw [if_neg h0, ← hS, if_neg (by simp), if_neg]
        intro h
        exact hin (List.all_eq_true.1 h _ hmem)
       refine z8 (z6 (ok0 gl) [] (by kernel_rfl) ?_)
       simp only [go_sem, ↓x4, ↓x5, ↓x6, ↓x7, ↓x3, ↓y5, ↓y6, ↓y8, ↓y7, reduceCtorEq, Nat.reduceEqDiff, ↓reduceIte, Nat.reduceAdd, Nat.reduceSub, Nat.reduceLT, Nat.reduceMul, Nat.reduceBEq, Int.reduceLE, Int.reduceLT, Int.reduceAdd, Int.reduceSub, Int.reduceToNat, Int.reduceNeg, Int.reduceMul, Nat.reduceLeDiff]
       refine J8 ⟨.inr rfl, ?_⟩
       simp only [H5, go_sem, ↓x4, ↓x5, ↓x6, ↓x7, ↓x3, ↓y5, ↓y6, ↓y8, ↓y7, reduceCtorEq, Nat.reduceEqDiff, ↓reduceIte, Nat.reduceAdd, Nat.reduceSub, Nat.reduceLT, Nat.reduceMul, Nat.reduceBEq, Int.reduceLE, Int.reduceLT, Int.reduceAdd, Int.reduceSub, Int.reduceToNat, Int.reduceNeg, Int.reduceMul, Nat.reduceLeDiff, Tryd.f10, hr] <;> try rfl
     ·have hge : (X9 p bs).length ≤ j := by simpa using hge
      rw [List.take_of_length_le hge] at hall
      have hr : Q7 p = 0 := by
       unfold Q7
       rw [if_neg h0, ← hS, if_neg (by simp), if_pos (by rw [List.all_eq_true]; exact hall)]
      refine z8 (z6 (ok0 gl) [] (by kernel_rfl) ?_)
      simp only [go_sem, ↓x4, ↓x5, ↓x6, ↓x7, ↓x3, ↓y5, ↓y6, ↓y8, ↓y7, reduceCtorEq, Nat.reduceEqDiff, ↓reduceIte, Nat.reduceAdd, Nat.reduceSub, Nat.reduceLT, Nat.reduceMul, Nat.reduceBEq, Int.reduceLE, Int.reduceLT, Int.reduceAdd, Int.reduceSub, Int.reduceToNat, Int.reduceNeg, Int.reduceMul, Nat.reduceLeDiff]
      refine J8 ⟨.inr rfl, ?_⟩
      simp only [H5, go_sem, ↓x4, ↓x5, ↓x6, ↓x7, ↓x3, ↓y5, ↓y6, ↓y8, ↓y7, reduceCtorEq, Nat.reduceEqDiff, ↓reduceIte, Nat.reduceAdd, Nat.reduceSub, Nat.reduceLT, Nat.reduceMul, Nat.reduceBEq, Int.reduceLE, Int.reduceLT, Int.reduceAdd, Int.reduceSub, Int.reduceToNat, Int.reduceNeg, Int.reduceMul, Nat.reduceLeDiff, Tryd.f10, hr] <;> try rfl
end Go.Proofs.YtdoajkacibicoaaDoor
namespace Go.Proofs.YtdoajkacibicoaaDoor
open Go Go.E
set_option maxRecDepth 10000
set_option maxHeartbeats 4000000
set_option linter.unusedSimpArgs false
variable {gl : Nat → Option (Ty × C)}
theorem q3C (A : Key → Option O) (o : C) : p8 (X0 gl) 17 [.d (.int .i64) o] A (.d (.int .i64) (.int (x8 o.toInt))) [] := by
 refine y6d (y92 gl) y93 60 6 (T := (bif decide (C.toInt o = Int.ofNat 1) then
     some ((V.d (Ty.int IntKind.i64) (C.int 8), []))
    else
     (bif decide (C.toInt o = Int.ofNat 2) then
      some ((V.d (Ty.int IntKind.i64) (C.int 1), []))
     else
      (bif decide (C.toInt o = Int.ofNat 16) then
       some ((V.d (Ty.int IntKind.i64) (C.int 1), []))
      else
       (bif decide (C.toInt o = Int.ofNat 11) then
        some ((V.d (Ty.int IntKind.i64) (C.int 2), []))
       else
        (bif decide (C.toInt o = Int.ofNat 12) then
         some ((V.d (Ty.int IntKind.i64) (C.int 2), []))
        else
         some ((V.d (Ty.int IntKind.i64) (C.int 0), [])))))))) (by kernel_rfl) ?_
 simp only [Bool.cond_decide, Int.ofNat_eq_natCast, Int.cast_ofNat_Int]
 unfold x8
 (repeat' split) <;> first | rfl | (exfalso; omega)
def q56 (p : List C) (i : Nat) : V := .tup [.d (.int .i64) (.int (if u9 p i = 0 then bN p i else 0)), .d (.int .u64) (.int (if u9 p i = 0 then Q3 p (i + 1) (x8 (bN p i)) else 0)), .d (.int .i64) (.int (u9 p i))]
theorem q8r (A : Key → Option O) (p : List C) (at_ : Nat) (hl : p.length ≤ 256) (hat : at_ ≤ 600) : p8 (X0 gl) 15 [.d (.slice 1 (.int .u8)) (.slice p), .d (.int .i64) (.int at_)] A (q56 p at_) [] := by
 refine q1X (n := 48) (ok0 gl) Tryd.func15 rfl rfl (by simp) ?_
 intro A' hA
 refine z3V fun W => ?_
 have hw : C.wf (.slice 1 (.int .u8)) (.slice p) := W.at (t := 0) rfl
 clear W
 refine z8 (z6 (ok0 gl) [] (by kernel_rfl) ?_)
 simp only [go_sem, ↓x4, ↓x5, ↓x6, ↓x7, ↓x3, ↓y5, ↓y6, ↓y8, ↓y7, reduceCtorEq, Nat.reduceEqDiff, ↓reduceIte, Nat.reduceAdd, Nat.reduceSub, Nat.reduceLT, Nat.reduceMul, Nat.reduceBEq, Int.reduceLE, Int.reduceLT, Int.reduceAdd, Int.reduceSub, Int.reduceToNat, Int.reduceNeg, Int.reduceMul, Nat.reduceLeDiff]
 by_cases h1 : p.length ≤ at_
 ·have h1' : (p.length : Int) ≤ (at_ : Int) := by omega
  have e : u9 p at_ = 9 := by unfold u9; rw [if_pos h1]
  refine z8 (z8 (z6 (ok0 gl) [] (by kernel_rfl) ?_))
  simp only [go_sem, ↓x4, ↓x5, ↓x6, ↓x7, ↓x3, ↓y5, ↓y6, ↓y8, ↓y7, reduceCtorEq, Nat.reduceEqDiff, ↓reduceIte, Nat.reduceAdd, Nat.reduceSub, Nat.reduceLT, Nat.reduceMul, Nat.reduceBEq, Int.reduceLE, Int.reduceLT, Int.reduceAdd, Int.reduceSub, Int.reduceToNat, Int.reduceNeg, Int.reduceMul, Nat.reduceLeDiff, h1']
  refine r7 _ rfl (fun _ => ?_) (fun h => by simp at h)
  refine z8 (z6 (ok0 gl) [] (by kernel_rfl) ?_)
  simp only [go_sem, ↓x4, ↓x5, ↓x6, ↓x7, ↓x3, ↓y5, ↓y6, ↓y8, ↓y7, reduceCtorEq, Nat.reduceEqDiff, ↓reduceIte, Nat.reduceAdd, Nat.reduceSub, Nat.reduceLT, Nat.reduceMul, Nat.reduceBEq, Int.reduceLE, Int.reduceLT, Int.reduceAdd, Int.reduceSub, Int.reduceToNat, Int.reduceNeg, Int.reduceMul, Nat.reduceLeDiff]
  refine J8 ⟨.inr rfl, ?_⟩
  simp only [H5, go_sem, ↓x4, ↓x5, ↓x6, ↓x7, ↓x3, ↓y5, ↓y6, ↓y8, ↓y7, reduceCtorEq, Nat.reduceEqDiff, ↓reduceIte, Nat.reduceAdd, Nat.reduceSub, Nat.reduceLT, Nat.reduceMul, Nat.reduceBEq, Int.reduceLE, Int.reduceLT, Int.reduceAdd, Int.reduceSub, Int.reduceToNat, Int.reduceNeg, Int.reduceMul, Nat.reduceLeDiff, Tryd.f15, q56, e, Int.reduceEq, reduceIte] <;> try rfl
 ·have h1' : ¬ (p.length : Int) ≤ (at_ : Int) := by omega
  have hlt : (at_ : Int) < (p.length : Int) := by omega
  have e1 : ((at_ : Int).toNat) = at_ := Int.toNat_natCast _
  obtain ⟨b1, b2, b3⟩ := q47 hw (i := at_) (by omega)
  refine z8 (z8 (z6 (ok0 gl) [] (by kernel_rfl) ?_))
  simp only [go_sem, ↓x4, ↓x5, ↓x6, ↓x7, ↓x3, ↓y5, ↓y6, ↓y8, ↓y7, reduceCtorEq, Nat.reduceEqDiff, ↓reduceIte, Nat.reduceAdd, Nat.reduceSub, Nat.reduceLT, Nat.reduceMul, Nat.reduceBEq, Int.reduceLE, Int.reduceLT, Int.reduceAdd, Int.reduceSub, Int.reduceToNat, Int.reduceNeg, Int.reduceMul, Nat.reduceLeDiff, h1']
  refine r7 _ rfl (fun h => by simp at h) (fun _ => Y4 ?_)
  have w1 : IntKind.i64.wrap (bN p at_) = bN p at_ := IntWalk.i64_in _ (by omega)
  refine z8 (z6 (ok0 gl) [] (by kernel_rfl) ?_)
  simp only [go_sem, ↓x4, ↓x5, ↓x6, ↓x7, ↓x3, ↓y5, ↓y6, ↓y8, ↓y7, reduceCtorEq, Nat.reduceEqDiff, ↓reduceIte, Nat.reduceAdd, Nat.reduceSub, Nat.reduceLT, Nat.reduceMul, Nat.reduceBEq, Int.reduceLE, Int.reduceLT, Int.reduceAdd, Int.reduceSub, Int.reduceToNat, Int.reduceNeg, Int.reduceMul, Nat.reduceLeDiff, hlt, e1, b1, w1]
  refine ⟨by omega, ?_⟩
  by_cases h2 : 18 ≤ bN p at_
  ·have e : u9 p at_ = 33 := by unfold u9; rw [if_neg h1, if_pos h2]
   have h2' : 17 < bN p at_ := by omega
   refine z8 (z8 (z6 (ok0 gl) [] (by kernel_rfl) ?_))
   simp only [go_sem, ↓x4, ↓x5, ↓x6, ↓x7, ↓x3, ↓y5, ↓y6, ↓y8, ↓y7, reduceCtorEq, Nat.reduceEqDiff, ↓reduceIte, Nat.reduceAdd, Nat.reduceSub, Nat.reduceLT, Nat.reduceMul, Nat.reduceBEq, Int.reduceLE, Int.reduceLT, Int.reduceAdd, Int.reduceSub, Int.reduceToNat, Int.reduceNeg, Int.reduceMul, Nat.reduceLeDiff, h2']
   refine r7 _ rfl (fun _ => ?_) (fun h => by simp at h)
   refine z8 (z6 (ok0 gl) [] (by kernel_rfl) ?_)
   simp only [go_sem, ↓x4, ↓x5, ↓x6, ↓x7, ↓x3, ↓y5, ↓y6, ↓y8, ↓y7, reduceCtorEq, Nat.reduceEqDiff, ↓reduceIte, Nat.reduceAdd, Nat.reduceSub, Nat.reduceLT, Nat.reduceMul, Nat.reduceBEq, Int.reduceLE, Int.reduceLT, Int.reduceAdd, Int.reduceSub, Int.reduceToNat, Int.reduceNeg, Int.reduceMul, Nat.reduceLeDiff]
   refine J8 ⟨.inr rfl, ?_⟩
   simp only [H5, go_sem, ↓x4, ↓x5, ↓x6, ↓x7, ↓x3, ↓y5, ↓y6, ↓y8, ↓y7, reduceCtorEq, Nat.reduceEqDiff, ↓reduceIte, Nat.reduceAdd, Nat.reduceSub, Nat.reduceLT, Nat.reduceMul, Nat.reduceBEq, Int.reduceLE, Int.reduceLT, Int.reduceAdd, Int.reduceSub, Int.reduceToNat, Int.reduceNeg, Int.reduceMul, Nat.reduceLeDiff, Tryd.f15, q56, e, Int.reduceEq, reduceIte] <;> try rfl
  ·have h2' : ¬ 17 < bN p at_ := by omega
   refine z8 (z8 (z6 (ok0 gl) [] (by kernel_rfl) ?_))
   simp only [go_sem, ↓x4, ↓x5, ↓x6, ↓x7, ↓x3, ↓y5, ↓y6, ↓y8, ↓y7, reduceCtorEq, Nat.reduceEqDiff, ↓reduceIte, Nat.reduceAdd, Nat.reduceSub, Nat.reduceLT, Nat.reduceMul, Nat.reduceBEq, Int.reduceLE, Int.reduceLT, Int.reduceAdd, Int.reduceSub, Int.reduceToNat, Int.reduceNeg, Int.reduceMul, Nat.reduceLeDiff, h2']
   refine r7 _ rfl (fun h => by simp at h) (fun _ => Y4 ?_)
   have m8 := q3d (bN p at_)
   have hM := q3C (gl := gl)
   have w2 : IntKind.i64.wrap ((at_ : Int) + 1) = (at_ : Int) + 1 := IntWalk.i64_in _ (by omega)
   generalize hmm : x8 (bN p at_) = m at m8
   have w3 : IntKind.i64.wrap ((at_ : Int) + 1 + (m : Int)) = (at_ : Int) + 1 + (m : Int) := IntWalk.i64_in _ (by omega)
   by_cases h3 : p.length < at_ + 1 + m
   ·have h3' : (p.length : Int) < (at_ : Int) + 1 + (m : Int) := by omega
    have e : u9 p at_ = 9 := by unfold u9; rw [if_neg h1, if_neg h2, hmm, if_pos h3]
    refine z8 (z8 (z6 (ok0 gl) [] (by kernel_rfl) (q9u [(), (), ()] ?_)))
    simp only [go_sem, ↓x4, ↓x5, ↓x6, ↓x7, ↓x3, ↓y5, ↓y6, ↓y8, ↓y7, reduceCtorEq, Nat.reduceEqDiff, ↓reduceIte, Nat.reduceAdd, Nat.reduceSub, Nat.reduceLT, Nat.reduceMul, Nat.reduceBEq, Int.reduceLE, Int.reduceLT, Int.reduceAdd, Int.reduceSub, Int.reduceToNat, Int.reduceNeg, Int.reduceMul, Nat.reduceLeDiff, w2]
    refine q4y [(), (), (), (), (), (), (), (), ()] rfl ?_
    refine q16 _ (q3C _ (.int (bN p at_))) rfl (by simp only [go_sem]) rfl ?_ ?_ ?_ ?_ ?_ <;> simp only [go_sem, ↓x4, ↓x5, ↓x6, ↓x7, ↓x3, ↓y5, ↓y6, ↓y8, ↓y7, reduceCtorEq, Nat.reduceEqDiff, ↓reduceIte, Nat.reduceAdd, Nat.reduceSub, Nat.reduceLT, Nat.reduceMul, Nat.reduceBEq, Int.reduceLE, Int.reduceLT, Int.reduceAdd, Int.reduceSub, Int.reduceToNat, Int.reduceNeg, Int.reduceMul, Nat.reduceLeDiff, w2, w3, hmm, h3', C.toInt]
    refine r7 _ rfl (fun _ => ?_) (fun h => by simp at h)
    refine z8 (z6 (ok0 gl) [] (by kernel_rfl) ?_)
    simp only [go_sem, ↓x4, ↓x5, ↓x6, ↓x7, ↓x3, ↓y5, ↓y6, ↓y8, ↓y7, reduceCtorEq, Nat.reduceEqDiff, ↓reduceIte, Nat.reduceAdd, Nat.reduceSub, Nat.reduceLT, Nat.reduceMul, Nat.reduceBEq, Int.reduceLE, Int.reduceLT, Int.reduceAdd, Int.reduceSub, Int.reduceToNat, Int.reduceNeg, Int.reduceMul, Nat.reduceLeDiff]
    refine J8 ⟨.inr rfl, ?_⟩
    simp only [H5, go_sem, ↓x4, ↓x5, ↓x6, ↓x7, ↓x3, ↓y5, ↓y6, ↓y8, ↓y7, reduceCtorEq, Nat.reduceEqDiff, ↓reduceIte, Nat.reduceAdd, Nat.reduceSub, Nat.reduceLT, Nat.reduceMul, Nat.reduceBEq, Int.reduceLE, Int.reduceLT, Int.reduceAdd, Int.reduceSub, Int.reduceToNat, Int.reduceNeg, Int.reduceMul, Nat.reduceLeDiff, Tryd.f15, q56, e, Int.reduceEq, reduceIte] <;> try rfl
   ·have h3' : ¬ (p.length : Int) < (at_ : Int) + 1 + (m : Int) := by omega
    have e : u9 p at_ = 0 := by unfold u9; rw [if_neg h1, if_neg h2, hmm, if_neg h3]
    refine z8 (z8 (z6 (ok0 gl) [] (by kernel_rfl) (q9u [(), (), ()] ?_)))
    simp only [go_sem, ↓x4, ↓x5, ↓x6, ↓x7, ↓x3, ↓y5, ↓y6, ↓y8, ↓y7, reduceCtorEq, Nat.reduceEqDiff, ↓reduceIte, Nat.reduceAdd, Nat.reduceSub, Nat.reduceLT, Nat.reduceMul, Nat.reduceBEq, Int.reduceLE, Int.reduceLT, Int.reduceAdd, Int.reduceSub, Int.reduceToNat, Int.reduceNeg, Int.reduceMul, Nat.reduceLeDiff, w2]
    refine q4y [(), (), (), (), (), (), (), (), ()] rfl ?_
    refine q16 _ (q3C _ (.int (bN p at_))) rfl (by simp only [go_sem]) rfl ?_ ?_ ?_ ?_ ?_ <;> simp only [go_sem, ↓x4, ↓x5, ↓x6, ↓x7, ↓x3, ↓y5, ↓y6, ↓y8, ↓y7, reduceCtorEq, Nat.reduceEqDiff, ↓reduceIte, Nat.reduceAdd, Nat.reduceSub, Nat.reduceLT, Nat.reduceMul, Nat.reduceBEq, Int.reduceLE, Int.reduceLT, Int.reduceAdd, Int.reduceSub, Int.reduceToNat, Int.reduceNeg, Int.reduceMul, Nat.reduceLeDiff, w2, w3, hmm, h3', C.toInt]
    refine r7 _ rfl (fun h => by simp at h) (fun _ => Y4 ?_)
    refine z8 (z6 (ok0 gl) [] (by kernel_rfl) ?_)
    simp only [go_sem, ↓x4, ↓x5, ↓x6, ↓x7, ↓x3, ↓y5, ↓y6, ↓y8, ↓y7, reduceCtorEq, Nat.reduceEqDiff, ↓reduceIte, Nat.reduceAdd, Nat.reduceSub, Nat.reduceLT, Nat.reduceMul, Nat.reduceBEq, Int.reduceLE, Int.reduceLT, Int.reduceAdd, Int.reduceSub, Int.reduceToNat, Int.reduceNeg, Int.reduceMul, Nat.reduceLeDiff]
    refine z8 (z8 (z6 (ok0 gl) [] (by kernel_rfl) ?_))
    simp only [go_sem, ↓x4, ↓x5, ↓x6, ↓x7, ↓x3, ↓y5, ↓y6, ↓y8, ↓y7, reduceCtorEq, Nat.reduceEqDiff, ↓reduceIte, Nat.reduceAdd, Nat.reduceSub, Nat.reduceLT, Nat.reduceMul, Nat.reduceBEq, Int.reduceLE, Int.reduceLT, Int.reduceAdd, Int.reduceSub, Int.reduceToNat, Int.reduceNeg, Int.reduceMul, Nat.reduceLeDiff]
    refine Y1 (q94 (fun i => ⟨[(9, .d (.int .i64) (.int i)), (8, .d (.int .u64) (.int (Q3 p (at_ + 1) i))), (7, .d (.int .i64) (.int (bN p at_))), (4, .d (.int .i64) (.int 0)), (5, .d (.int .u64) (.int 0)), (6, .d (.int .i64) (.int 0)), (0, .d (.slice 1 (.int .u8)) (.slice p)), (1, .d (.int .i64) (.int at_))], [], A', []⟩) m (fun _ => True) ?_ trivial ?_)
    ·refine U4 rfl ?_ ?_ ?_ ?_ ?_ <;> simp only [go_sem, ↓x4, ↓x5, ↓x6, ↓x7, ↓x3, ↓y5, ↓y6, ↓y8, ↓y7, reduceCtorEq, Nat.reduceEqDiff, ↓reduceIte, Nat.reduceAdd, Nat.reduceSub, Nat.reduceLT, Nat.reduceMul, Nat.reduceBEq, Int.reduceLE, Int.reduceLT, Int.reduceAdd, Int.reduceSub, Int.reduceToNat, Int.reduceNeg, Int.reduceMul, Nat.reduceLeDiff]
     all_goals first | (simp only [Q3]; done) | (simp only [Q3]; exact ⟨rfl, trivial⟩)
    ·intro i hi _
     by_cases hlt2 : i < m
     ·have hlt2' : (i : Int) < (m : Int) := by omega
      refine z8 (z8 (z6 (ok0 gl) [] (by kernel_rfl) (q9u [(), ()] ?_)))
      simp only [go_sem, ↓x4, ↓x5, ↓x6, ↓x7, ↓x3, ↓y5, ↓y6, ↓y8, ↓y7, reduceCtorEq, Nat.reduceEqDiff, ↓reduceIte, Nat.reduceAdd, Nat.reduceSub, Nat.reduceLT, Nat.reduceMul, Nat.reduceBEq, Int.reduceLE, Int.reduceLT, Int.reduceAdd, Int.reduceSub, Int.reduceToNat, Int.reduceNeg, Int.reduceMul, Nat.reduceLeDiff]
      refine q4y [(), (), (), (), (), (), (), (), ()] rfl ?_
      refine q16 _ (q3C _ (.int (bN p at_))) rfl (by simp only [go_sem]) rfl ?_ ?_ ?_ ?_ ?_ <;> simp only [go_sem, ↓x4, ↓x5, ↓x6, ↓x7, ↓x3, ↓y5, ↓y6, ↓y8, ↓y7, reduceCtorEq, Nat.reduceEqDiff, ↓reduceIte, Nat.reduceAdd, Nat.reduceSub, Nat.reduceLT, Nat.reduceMul, Nat.reduceBEq, Int.reduceLE, Int.reduceLT, Int.reduceAdd, Int.reduceSub, Int.reduceToNat, Int.reduceNeg, Int.reduceMul, Nat.reduceLeDiff, hmm, hlt2', C.toInt]
      refine r7 _ rfl (fun _ => Y4 ?_) (fun h => by simp at h)
      have e4 : ((at_ : Int) + 1 + (i : Int)).toNat = at_ + 1 + i := by omega
      obtain ⟨a1, a2, a3⟩ := q7j hw (i := at_ + 1) (k := i + 1) (by omega) (by omega)
      obtain ⟨a4, a5, a6⟩ := q7j hw (i := at_ + 1) (k := i) (by omega) (by omega)
      have e7 : Q3 p (at_ + 1) (i + 1) = Q3 p (at_ + 1) i * 256 + bN p (at_ + 1 + i) := rfl
      obtain ⟨c1, c2, c3⟩ := q47 hw (i := at_ + 1 + i) (by omega)
      have z1 : IntKind.u64.min = 0 := by decide
      have z2 : IntKind.u64.max = 18446744073709551615 := by decide
      have w4 : IntKind.u64.wrap (bN p (at_ + 1 + i)) = bN p (at_ + 1 + i) := q2y (by omega) (by omega)
      have w5 : IntKind.u64.wrap (Q3 p (at_ + 1) i * 256) = Q3 p (at_ + 1) i * 256 := q2y (by omega) (by omega)
      have w6 : IntKind.u64.wrap (Q3 p (at_ + 1) i * 256 + bN p (at_ + 1 + i)) = Q3 p (at_ + 1) i * 256 + bN p (at_ + 1 + i) := q2y (by omega) (by omega)
      have w7 : IntKind.i64.wrap ((at_ : Int) + 1 + (i : Int)) = (at_ : Int) + 1 + (i : Int) := IntWalk.i64_in _ (by omega)
      refine z8 (Y1 (z6 (ok0 gl) [] (by kernel_rfl) ?_))
      simp only [go_sem, ↓x4, ↓x5, ↓x6, ↓x7, ↓x3, ↓y5, ↓y6, ↓y8, ↓y7, reduceCtorEq, Nat.reduceEqDiff, ↓reduceIte, Nat.reduceAdd, Nat.reduceSub, Nat.reduceLT, Nat.reduceMul, Nat.reduceBEq, Int.reduceLE, Int.reduceLT, Int.reduceAdd, Int.reduceSub, Int.reduceToNat, Int.reduceNeg, Int.reduceMul, Nat.reduceLeDiff, w2, w7, e4, c1, w4, w5, w6]
      refine ⟨by omega, by omega, ?_⟩
      refine z6 (ok0 gl) [] (by kernel_rfl) ?_
      simp only [go_sem, ↓x4, ↓x5, ↓x6, ↓x7, ↓x3, ↓y5, ↓y6, ↓y8, ↓y7, reduceCtorEq, Nat.reduceEqDiff, ↓reduceIte, Nat.reduceAdd, Nat.reduceSub, Nat.reduceLT, Nat.reduceMul, Nat.reduceBEq, Int.reduceLE, Int.reduceLT, Int.reduceAdd, Int.reduceSub, Int.reduceToNat, Int.reduceNeg, Int.reduceMul, Nat.reduceLeDiff]
      refine ⟨hlt2, ?_⟩
      rw [e7, IntWalk.i64_in _ (by omega)]
      refine U4 rfl ?_ ?_ ?_ ?_ ?_ <;> simp only [go_sem, ↓x4, ↓x5, ↓x6, ↓x7, ↓x3, ↓y5, ↓y6, ↓y8, ↓y7, reduceCtorEq, Nat.reduceEqDiff, ↓reduceIte, Nat.reduceAdd, Nat.reduceSub, Nat.reduceLT, Nat.reduceMul, Nat.reduceBEq, Int.reduceLE, Int.reduceLT, Int.reduceAdd, Int.reduceSub, Int.reduceToNat, Int.reduceNeg, Int.reduceMul, Nat.reduceLeDiff]
      rfl
     ·have hlt2' : ¬ (i : Int) < (m : Int) := by omega
      obtain rfl : i = m := by omega
      refine z8 (z8 (z6 (ok0 gl) [] (by kernel_rfl) (q9u [(), ()] ?_)))
      simp only [go_sem, ↓x4, ↓x5, ↓x6, ↓x7, ↓x3, ↓y5, ↓y6, ↓y8, ↓y7, reduceCtorEq, Nat.reduceEqDiff, ↓reduceIte, Nat.reduceAdd, Nat.reduceSub, Nat.reduceLT, Nat.reduceMul, Nat.reduceBEq, Int.reduceLE, Int.reduceLT, Int.reduceAdd, Int.reduceSub, Int.reduceToNat, Int.reduceNeg, Int.reduceMul, Nat.reduceLeDiff]
      refine q4y [(), (), (), (), (), (), (), (), ()] rfl ?_
      refine q16 _ (q3C _ (.int (bN p at_))) rfl (by simp only [go_sem]) rfl ?_ ?_ ?_ ?_ ?_ <;> simp only [go_sem, ↓x4, ↓x5, ↓x6, ↓x7, ↓x3, ↓y5, ↓y6, ↓y8, ↓y7, reduceCtorEq, Nat.reduceEqDiff, ↓reduceIte, Nat.reduceAdd, Nat.reduceSub, Nat.reduceLT, Nat.reduceMul, Nat.reduceBEq, Int.reduceLE, Int.reduceLT, Int.reduceAdd, Int.reduceSub, Int.reduceToNat, Int.reduceNeg, Int.reduceMul, Nat.reduceLeDiff, hmm, hlt2', C.toInt]
      refine r7 _ rfl (fun h => by simp at h) (fun _ => q2O ?_)
      refine z8 (z6 (ok0 gl) [] (by kernel_rfl) ?_)
      simp only [go_sem, ↓x4, ↓x5, ↓x6, ↓x7, ↓x3, ↓y5, ↓y6, ↓y8, ↓y7, reduceCtorEq, Nat.reduceEqDiff, ↓reduceIte, Nat.reduceAdd, Nat.reduceSub, Nat.reduceLT, Nat.reduceMul, Nat.reduceBEq, Int.reduceLE, Int.reduceLT, Int.reduceAdd, Int.reduceSub, Int.reduceToNat, Int.reduceNeg, Int.reduceMul, Nat.reduceLeDiff]
      refine J8 ⟨.inr rfl, ?_⟩
      simp only [H5, go_sem, ↓x4, ↓x5, ↓x6, ↓x7, ↓x3, ↓y5, ↓y6, ↓y8, ↓y7, reduceCtorEq, Nat.reduceEqDiff, ↓reduceIte, Nat.reduceAdd, Nat.reduceSub, Nat.reduceLT, Nat.reduceMul, Nat.reduceBEq, Int.reduceLE, Int.reduceLT, Int.reduceAdd, Int.reduceSub, Int.reduceToNat, Int.reduceNeg, Int.reduceMul, Nat.reduceLeDiff, Tryd.f15, q56, e, hmm, reduceIte] <;> try rfl
end Go.Proofs.YtdoajkacibicoaaDoor
namespace Go.Proofs.YtdoajkacibicoaaDoor
open Go Go.E
set_option maxRecDepth 10000
set_option maxHeartbeats 4000000
set_option linter.unusedSimpArgs false
variable {gl : Nat → Option (Ty × C)}
def q1b (bs : List Nat) (n : Nat) : List C := (List.range n).map fun j => .bool (decide (j ∈ bs))
theorem q4Z {bs : List Nat} {n i : Nat} (h : i < n) : (q1b bs n).getD i .nil = .bool (decide (i ∈ bs)) := by
 simp [q1b, List.getD_eq_getElem?_getD, h]
theorem y2Z (bs : List Nat) (n i : Nat) : (q1b bs n).set i (.bool true) = q1b (bs ++ [i]) n := by
 apply List.ext_getElem?
 intro j
 simp only [q1b, List.getElem?_set, List.length_map, List.length_range, List.getElem?_map]
 by_cases hj : j < n
 ·rw [List.getElem?_range hj]
  by_cases e : i = j
  ·subst e; simp [hj]
  ·have e' : ¬ j = i := fun h => e h.symm
   simp [e, e']
 ·have h1 : (List.range n)[j]? = none := by simp; omega
  rw [h1]
  split
  ·rename_i e; subst e; rw [if_neg hj]; rfl
  ·rfl
theorem y20 (n : Nat) : q1b [] n = List.replicate n (.bool false) := by
 simp [q1b, List.map_const']
theorem q4n (bs : List Nat) (x : Int) : (q3Y bs (.int x)).toBool = true ↔ ∃ j ∈ bs, x = (j : Int) := by
 simp [q3Y, C.toBool]
theorem y0R (A : Key → Option O) (p : List C) : p8 (X0 gl) 11 [.d (.slice 1 (.int .u8)) (.slice p)] A (.d (.int .i64) (.int (Q7 p))) [] := by
 refine q1X (n := 84) (ok0 gl) Tryd.func11 rfl rfl (by simp) ?_
 intro A' hA
 refine z3V fun W => ?_
 have hw : C.wf (.slice 1 (.int .u8)) (.slice p) := W.at (t := 0) rfl
 clear W
 refine z8 (z6 (ok0 gl) [] (by kernel_rfl) ?_)
 simp only [go_sem, ↓x4, ↓x5, ↓x6, ↓x7, ↓x3, ↓y5, ↓y6, ↓y8, ↓y7, reduceCtorEq, Nat.reduceEqDiff, ↓reduceIte, Nat.reduceAdd, Nat.reduceSub, Nat.reduceLT, Nat.reduceMul, Nat.reduceBEq, Int.reduceLE, Int.reduceLT, Int.reduceAdd, Int.reduceSub, Int.reduceToNat, Int.reduceNeg, Int.reduceMul, Nat.reduceLeDiff]
 by_cases h0 : 256 < p.length
 ·have h0' : (256 : Int) < (p.length : Int) := by omega
  refine z8 (z8 (z6 (ok0 gl) [] (by kernel_rfl) ?_))
  simp only [go_sem, ↓x4, ↓x5, ↓x6, ↓x7, ↓x3, ↓y5, ↓y6, ↓y8, ↓y7, reduceCtorEq, Nat.reduceEqDiff, ↓reduceIte, Nat.reduceAdd, Nat.reduceSub, Nat.reduceLT, Nat.reduceMul, Nat.reduceBEq, Int.reduceLE, Int.reduceLT, Int.reduceAdd, Int.reduceSub, Int.reduceToNat, Int.reduceNeg, Int.reduceMul, Nat.reduceLeDiff, h0']
  refine r7 _ rfl (fun _ => ?_) (fun h => by simp at h)
  refine z8 (z6 (ok0 gl) [] (by kernel_rfl) ?_)
  simp only [go_sem, ↓x4, ↓x5, ↓x6, ↓x7, ↓x3, ↓y5, ↓y6, ↓y8, ↓y7, reduceCtorEq, Nat.reduceEqDiff, ↓reduceIte, Nat.reduceAdd, Nat.reduceSub, Nat.reduceLT, Nat.reduceMul, Nat.reduceBEq, Int.reduceLE, Int.reduceLT, Int.reduceAdd, Int.reduceSub, Int.reduceToNat, Int.reduceNeg, Int.reduceMul, Nat.reduceLeDiff]
  refine J8 ⟨.inr rfl, ?_⟩
  simp only [H5, go_sem, ↓x4, ↓x5, ↓x6, ↓x7, ↓x3, ↓y5, ↓y6, ↓y8, ↓y7, reduceCtorEq, Nat.reduceEqDiff, ↓reduceIte, Nat.reduceAdd, Nat.reduceSub, Nat.reduceLT, Nat.reduceMul, Nat.reduceBEq, Int.reduceLE, Int.reduceLT, Int.reduceAdd, Int.reduceSub, Int.reduceToNat, Int.reduceNeg, Int.reduceMul, Nat.reduceLeDiff, Tryd.f11, Q7, h0, reduceIte] <;> try rfl
 ·have h0' : ¬ (256 : Int) < (p.length : Int) := by omega
  refine z8 (z8 (z6 (ok0 gl) [] (by kernel_rfl) ?_))
  simp only [go_sem, ↓x4, ↓x5, ↓x6, ↓x7, ↓x3, ↓y5, ↓y6, ↓y8, ↓y7, reduceCtorEq, Nat.reduceEqDiff, ↓reduceIte, Nat.reduceAdd, Nat.reduceSub, Nat.reduceLT, Nat.reduceMul, Nat.reduceBEq, Int.reduceLE, Int.reduceLT, Int.reduceAdd, Int.reduceSub, Int.reduceToNat, Int.reduceNeg, Int.reduceMul, Nat.reduceLeDiff, h0']
  refine r7 _ rfl (fun h => by simp at h) (fun _ => Y4 ?_)
  have e0 : ((p.length : Int)).toNat = p.length := Int.toNat_natCast _
  refine z8 (z6 (ok0 gl) [] (by kernel_rfl) ?_)
  simp only [go_sem, ↓x4, ↓x5, ↓x6, ↓x7, ↓x3, ↓y5, ↓y6, ↓y8, ↓y7, reduceCtorEq, Nat.reduceEqDiff, ↓reduceIte, Nat.reduceAdd, Nat.reduceSub, Nat.reduceLT, Nat.reduceMul, Nat.reduceBEq, Int.reduceLE, Int.reduceLT, Int.reduceAdd, Int.reduceSub, Int.reduceToNat, Int.reduceNeg, Int.reduceMul, Nat.reduceLeDiff, e0]
  refine ⟨by omega, by omega, by omega, by omega, ?_⟩
  refine z8 (z6 (ok0 gl) [] (by kernel_rfl) ?_)
  simp only [go_sem, ↓x4, ↓x5, ↓x6, ↓x7, ↓x3, ↓y5, ↓y6, ↓y8, ↓y7, reduceCtorEq, Nat.reduceEqDiff, ↓reduceIte, Nat.reduceAdd, Nat.reduceSub, Nat.reduceLT, Nat.reduceMul, Nat.reduceBEq, Int.reduceLE, Int.reduceLT, Int.reduceAdd, Int.reduceSub, Int.reduceToNat, Int.reduceNeg, Int.reduceMul, Nat.reduceLeDiff]
  refine z8 (Y1 (y0l (ι := Nat × List Nat) (fun i => ⟨[(4, .d (.int .i64) (.int i.1)), (3, .sr (.l 17) [] 0 p.length (some p.length) 1 .bool), (2, .d (.int .i64) (.int 0)), (0, .d (.slice 1 (.int .u8)) (.slice p))], [(.l 17, .box (.d (.arr p.length .bool) (.agg (q1b i.2 p.length))))], A', []⟩) (fun i => p.length - i.1)
   (fun i => i.1 ≤ p.length ∧ (∀ j ∈ i.2, j < p.length ∧ u9 p j = 0) ∧ q0v p (p.length - i.1) i.1 i.2 = q0v p p.length 0 []) (0, []) ?_ ⟨Nat.zero_le _, by simp, rfl⟩ ?_))
  ·refine U4 rfl ?_ ?_ ?_ ?_ ?_ <;> simp only [go_sem, ↓x4, ↓x5, ↓x6, ↓x7, ↓x3, ↓y5, ↓y6, ↓y8, ↓y7, reduceCtorEq, Nat.reduceEqDiff, ↓reduceIte, Nat.reduceAdd, Nat.reduceSub, Nat.reduceLT, Nat.reduceMul, Nat.reduceBEq, Int.reduceLE, Int.reduceLT, Int.reduceAdd, Int.reduceSub, Int.reduceToNat, Int.reduceNeg, Int.reduceMul, Nat.reduceLeDiff, y20]
   all_goals rfl
  ·rintro ⟨i, bs⟩ ⟨hi, hb, hS⟩
   simp only at hi hb hS
   by_cases hlt : i < p.length
   ·have hlt' : (i : Int) < (p.length : Int) := by omega
    have e1 : ((i : Int).toNat) = i := Int.toNat_natCast i
    obtain ⟨s1, s2⟩ := q9z hlt hS
    refine z8 (z8 (z6 (ok0 gl) [] (by kernel_rfl) ?_))
    simp only [go_sem, ↓x4, ↓x5, ↓x6, ↓x7, ↓x3, ↓y5, ↓y6, ↓y8, ↓y7, reduceCtorEq, Nat.reduceEqDiff, ↓reduceIte, Nat.reduceAdd, Nat.reduceSub, Nat.reduceLT, Nat.reduceMul, Nat.reduceBEq, Int.reduceLE, Int.reduceLT, Int.reduceAdd, Int.reduceSub, Int.reduceToNat, Int.reduceNeg, Int.reduceMul, Nat.reduceLeDiff, hlt']
    refine r7 _ rfl (fun _ => Y4 ?_) (fun h => by simp at h)
    refine Y1 (z8 (z6 (ok0 gl) [] (by kernel_rfl) (q9u [(), ()] ?_)))
    simp only [go_sem, ↓x4, ↓x5, ↓x6, ↓x7, ↓x3, ↓y5, ↓y6, ↓y8, ↓y7, reduceCtorEq, Nat.reduceEqDiff, ↓reduceIte, Nat.reduceAdd, Nat.reduceSub, Nat.reduceLT, Nat.reduceMul, Nat.reduceBEq, Int.reduceLE, Int.reduceLT, Int.reduceAdd, Int.reduceSub, Int.reduceToNat, Int.reduceNeg, Int.reduceMul, Nat.reduceLeDiff]
    refine q4y [(), (), (), (), (), (), (), (), ()] rfl ?_
    refine q16 _ (q8r _ p i (by omega) (by omega)) rfl (by simp only [go_sem]) rfl ?_ ?_ ?_ ?_ ?_ <;> simp only [go_sem, ↓x4, ↓x5, ↓x6, ↓x7, ↓x3, ↓y5, ↓y6, ↓y8, ↓y7, reduceCtorEq, Nat.reduceEqDiff, ↓reduceIte, Nat.reduceAdd, Nat.reduceSub, Nat.reduceLT, Nat.reduceMul, Nat.reduceBEq, Int.reduceLE, Int.reduceLT, Int.reduceAdd, Int.reduceSub, Int.reduceToNat, Int.reduceNeg, Int.reduceMul, Nat.reduceLeDiff, q56]
    by_cases he : u9 p i = 0
    ·obtain ⟨q1, q2⟩ := s2 he
     refine z8 (z8 (z6 (ok0 gl) [] (by kernel_rfl) ?_))
     simp only [go_sem, ↓x4, ↓x5, ↓x6, ↓x7, ↓x3, ↓y5, ↓y6, ↓y8, ↓y7, reduceCtorEq, Nat.reduceEqDiff, ↓reduceIte, Nat.reduceAdd, Nat.reduceSub, Nat.reduceLT, Nat.reduceMul, Nat.reduceBEq, Int.reduceLE, Int.reduceLT, Int.reduceAdd, Int.reduceSub, Int.reduceToNat, Int.reduceNeg, Int.reduceMul, Nat.reduceLeDiff, he]
     refine r7 _ rfl (fun h => by simp at h) (fun _ => Y4 ?_)
     refine z8 (z6 (ok0 gl) [] (by kernel_rfl) ?_)
     simp only [go_sem, ↓x4, ↓x5, ↓x6, ↓x7, ↓x3, ↓y5, ↓y6, ↓y8, ↓y7, reduceCtorEq, Nat.reduceEqDiff, ↓reduceIte, Nat.reduceAdd, Nat.reduceSub, Nat.reduceLT, Nat.reduceMul, Nat.reduceBEq, Int.reduceLE, Int.reduceLT, Int.reduceAdd, Int.reduceSub, Int.reduceToNat, Int.reduceNeg, Int.reduceMul, Nat.reduceLeDiff, e1, y2Z, Nat.zero_add]
     refine ⟨by omega, by omega, rfl, ?_⟩
     have m8 := q3d (bN p i)
     have w2 : IntKind.i64.wrap ((i : Int) + 1) = (i : Int) + 1 := IntWalk.i64_in _ (by omega)
     have w3 : IntKind.i64.wrap ((i : Int) + 1 + (x8 (bN p i) : Int)) = ((i + 1 + x8 (bN p i) : Nat) : Int) := by rw [IntWalk.i64_in _ (by omega)]; omega
     refine z6 (ok0 gl) [] (by kernel_rfl) (q9u [(), (), ()] ?_)
     simp only [go_sem, ↓x4, ↓x5, ↓x6, ↓x7, ↓x3, ↓y5, ↓y6, ↓y8, ↓y7, reduceCtorEq, Nat.reduceEqDiff, ↓reduceIte, Nat.reduceAdd, Nat.reduceSub, Nat.reduceLT, Nat.reduceMul, Nat.reduceBEq, Int.reduceLE, Int.reduceLT, Int.reduceAdd, Int.reduceSub, Int.reduceToNat, Int.reduceNeg, Int.reduceMul, Nat.reduceLeDiff]
     refine q4y [(), (), (), (), (), (), (), (), ()] rfl ?_
     refine q16 _ (q3C _ (.int (bN p i))) rfl (by simp only [go_sem]) rfl ?_ ?_ ?_ ?_ ?_ <;> simp only [go_sem, ↓x4, ↓x5, ↓x6, ↓x7, ↓x3, ↓y5, ↓y6, ↓y8, ↓y7, reduceCtorEq, Nat.reduceEqDiff, ↓reduceIte, Nat.reduceAdd, Nat.reduceSub, Nat.reduceLT, Nat.reduceMul, Nat.reduceBEq, Int.reduceLE, Int.reduceLT, Int.reduceAdd, Int.reduceSub, Int.reduceToNat, Int.reduceNeg, Int.reduceMul, Nat.reduceLeDiff, C.toInt, w2, w3]
     refine ⟨(i + 1 + x8 (bN p i), bs ++ [i]), ⟨q1, ?_, q2⟩, by simp only; omega, ?_⟩
     ·intro j hj
      rcases List.mem_append.1 hj with hj | hj
      ·exact hb j hj
      ·simp only [List.mem_singleton] at hj
       subst hj
       exact ⟨hlt, he⟩
     ·refine U4 rfl ?_ ?_ ?_ ?_ ?_ <;> simp only [go_sem, ↓x4, ↓x5, ↓x6, ↓x7, ↓x3, ↓y5, ↓y6, ↓y8, ↓y7, reduceCtorEq, Nat.reduceEqDiff, ↓reduceIte, Nat.reduceAdd, Nat.reduceSub, Nat.reduceLT, Nat.reduceMul, Nat.reduceBEq, Int.reduceLE, Int.reduceLT, Int.reduceAdd, Int.reduceSub, Int.reduceToNat, Int.reduceNeg, Int.reduceMul, Nat.reduceLeDiff]
      all_goals rfl
    ·have hr := s1 he
     refine z8 (z8 (z6 (ok0 gl) [] (by kernel_rfl) ?_))
     simp only [go_sem, ↓x4, ↓x5, ↓x6, ↓x7, ↓x3, ↓y5, ↓y6, ↓y8, ↓y7, reduceCtorEq, Nat.reduceEqDiff, ↓reduceIte, Nat.reduceAdd, Nat.reduceSub, Nat.reduceLT, Nat.reduceMul, Nat.reduceBEq, Int.reduceLE, Int.reduceLT, Int.reduceAdd, Int.reduceSub, Int.reduceToNat, Int.reduceNeg, Int.reduceMul, Nat.reduceLeDiff, he]
     refine r7 _ rfl (fun _ => ?_) (fun h => by simp at h)
     refine z8 (z6 (ok0 gl) [] (by kernel_rfl) ?_)
     simp only [go_sem, ↓x4, ↓x5, ↓x6, ↓x7, ↓x3, ↓y5, ↓y6, ↓y8, ↓y7, reduceCtorEq, Nat.reduceEqDiff, ↓reduceIte, Nat.reduceAdd, Nat.reduceSub, Nat.reduceLT, Nat.reduceMul, Nat.reduceBEq, Int.reduceLE, Int.reduceLT, Int.reduceAdd, Int.reduceSub, Int.reduceToNat, Int.reduceNeg, Int.reduceMul, Nat.reduceLeDiff]
     refine J8 ⟨.inr rfl, ?_⟩
     simp only [H5, go_sem, ↓x4, ↓x5, ↓x6, ↓x7, ↓x3, ↓y5, ↓y6, ↓y8, ↓y7, reduceCtorEq, Nat.reduceEqDiff, ↓reduceIte, Nat.reduceAdd, Nat.reduceSub, Nat.reduceLT, Nat.reduceMul, Nat.reduceBEq, Int.reduceLE, Int.reduceLT, Int.reduceAdd, Int.reduceSub, Int.reduceToNat, Int.reduceNeg, Int.reduceMul, Nat.reduceLeDiff, Tryd.f11, Q7, h0, hr, he, reduceIte] <;> try rfl
   ·have hlt' : ¬ (i : Int) < (p.length : Int) := by omega
    obtain rfl : i = p.length := by omega
    rw [z6S (Nat.le_refl _)] at hS
    refine z8 (z8 (z6 (ok0 gl) [] (by kernel_rfl) ?_))
    simp only [go_sem, ↓x4, ↓x5, ↓x6, ↓x7, ↓x3, ↓y5, ↓y6, ↓y8, ↓y7, reduceCtorEq, Nat.reduceEqDiff, ↓reduceIte, Nat.reduceAdd, Nat.reduceSub, Nat.reduceLT, Nat.reduceMul, Nat.reduceBEq, Int.reduceLE, Int.reduceLT, Int.reduceAdd, Int.reduceSub, Int.reduceToNat, Int.reduceNeg, Int.reduceMul, Nat.reduceLeDiff, hlt']
    refine r7 _ rfl (fun h => by simp at h) (fun _ => q2O ?_)
    have hbl : ∀ j, j ∈ bs → q3Y bs (.int (j : Int)) = .bool true := by
     intro j hj
     have := (q4n bs (j : Int)).2 ⟨j, hj, rfl⟩
     unfold q3Y at this ⊢
     simp only [C.toBool] at this
     rw [this]
    have hS' : q0v p p.length 0 [] = (0, bs) := hS.symm
    have hbad : ∀ j ∈ bs, q2X p j = true → (q3Y bs (.int (toN p j))).toBool = false → Q7 p = 10 := by
     intro j hj hl hbeg
     unfold Q7
     rw [if_neg h0, hS', if_neg (by simp), if_neg]
     intro h
     have := List.all_eq_true.1 h (.int (toN p j)) (List.mem_map.2 ⟨j, List.mem_filter.2 ⟨hj, hl⟩, rfl⟩)
     rw [hbeg] at this
     cases this
    refine z8 (z8 (z6 (ok0 gl) [] (by kernel_rfl) ?_))
    simp only [go_sem, ↓x4, ↓x5, ↓x6, ↓x7, ↓x3, ↓y5, ↓y6, ↓y8, ↓y7, reduceCtorEq, Nat.reduceEqDiff, ↓reduceIte, Nat.reduceAdd, Nat.reduceSub, Nat.reduceLT, Nat.reduceMul, Nat.reduceBEq, Int.reduceLE, Int.reduceLT, Int.reduceAdd, Int.reduceSub, Int.reduceToNat, Int.reduceNeg, Int.reduceMul, Nat.reduceLeDiff]
    refine Y1 (q94 (fun j => ⟨[(8, .d (.int .i64) (.int j)), (3, .sr (.l 17) [] 0 p.length (some p.length) 1 .bool), (2, .d (.int .i64) (.int 0)), (0, .d (.slice 1 (.int .u8)) (.slice p))], [(.l 17, .box (.d (.arr p.length .bool) (.agg (q1b bs p.length))))], A', []⟩) p.length (fun j => ∀ x ∈ bs, x < j → q2X p x = true → (q3Y bs (.int (toN p x))).toBool = true) ?_ (by intro x _ h; omega) ?_)
    ·refine U4 rfl ?_ ?_ ?_ ?_ ?_ <;> simp only [go_sem, ↓x4, ↓x5, ↓x6, ↓x7, ↓x3, ↓y5, ↓y6, ↓y8, ↓y7, reduceCtorEq, Nat.reduceEqDiff, ↓reduceIte, Nat.reduceAdd, Nat.reduceSub, Nat.reduceLT, Nat.reduceMul, Nat.reduceBEq, Int.reduceLE, Int.reduceLT, Int.reduceAdd, Int.reduceSub, Int.reduceToNat, Int.reduceNeg, Int.reduceMul, Nat.reduceLeDiff]
     all_goals rfl
    ·intro j hj hall
     by_cases hlt : j < p.length
     ·have hlt' : (j : Int) < (p.length : Int) := by omega
      have e1 : ((j : Int).toNat) = j := Int.toNat_natCast j
      have hf := q4Z (bs := bs) hlt
      obtain ⟨b1, b2, b3⟩ := q47 hw hlt
      refine z8 (z8 (z6 (ok0 gl) [] (by kernel_rfl) ?_))
      simp only [go_sem, ↓x4, ↓x5, ↓x6, ↓x7, ↓x3, ↓y5, ↓y6, ↓y8, ↓y7, reduceCtorEq, Nat.reduceEqDiff, ↓reduceIte, Nat.reduceAdd, Nat.reduceSub, Nat.reduceLT, Nat.reduceMul, Nat.reduceBEq, Int.reduceLE, Int.reduceLT, Int.reduceAdd, Int.reduceSub, Int.reduceToNat, Int.reduceNeg, Int.reduceMul, Nat.reduceLeDiff, hlt']
      refine r7 _ rfl (fun _ => Y4 ?_) (fun h => by simp at h)
      by_cases hin : j ∈ bs
      ·obtain ⟨_, he⟩ := hb j hin
       have hf' : (q1b bs p.length).getD j .nil = .bool true := by rw [hf]; simp [hin]
       have wl : IntKind.u64.wrap (p.length : Int) = (p.length : Int) := q2y (by have : IntKind.u64.min = 0 := by decide
                                                                                 omega) (by have : IntKind.u64.max = 18446744073709551615 := by decide
                                                                                            omega)
       have hfit : j + 1 + x8 (bN p j) ≤ p.length := by
        unfold u9 at he
        rw [if_neg (by omega)] at he
        split at he
        ·simp at he
        ·split at he
         ·simp at he
         ·omega
       obtain ⟨m, hm⟩ : ∃ m : Nat, Q3 p (j + 1) (x8 (bN p j)) = (m : Int) := Int.eq_ofNat_of_zero_le (z2H hw hfit).1
       have ht : toN p j = (m : Int) := hm
       have e2 : ((m : Int)).toNat = m := Int.toNat_natCast m
       by_cases l1 : bN p j = 11
       ·have hl : q2X p j = true := by simp [q2X, l1]
        refine z8 (Y1 (z8 (z8 (z6 (ok0 gl) [] (by kernel_rfl) ?_))))
        simp only [go_sem, ↓x4, ↓x5, ↓x6, ↓x7, ↓x3, ↓y5, ↓y6, ↓y8, ↓y7, reduceCtorEq, Nat.reduceEqDiff, ↓reduceIte, Nat.reduceAdd, Nat.reduceSub, Nat.reduceLT, Nat.reduceMul, Nat.reduceBEq, Int.reduceLE, Int.reduceLT, Int.reduceAdd, Int.reduceSub, Int.reduceToNat, Int.reduceNeg, Int.reduceMul, Nat.reduceLeDiff, e1, hf', Nat.zero_add, b1, l1]
        refine ⟨by omega, by omega, by omega, by omega, ?_⟩
        refine r7 _ rfl (fun h => by simp at h) (fun _ => Y4 ?_)
        refine z8 (z6 (ok0 gl) [] (by kernel_rfl) (q9u [(), ()] ?_))
        simp only [go_sem, ↓x4, ↓x5, ↓x6, ↓x7, ↓x3, ↓y5, ↓y6, ↓y8, ↓y7, reduceCtorEq, Nat.reduceEqDiff, ↓reduceIte, Nat.reduceAdd, Nat.reduceSub, Nat.reduceLT, Nat.reduceMul, Nat.reduceBEq, Int.reduceLE, Int.reduceLT, Int.reduceAdd, Int.reduceSub, Int.reduceToNat, Int.reduceNeg, Int.reduceMul, Nat.reduceLeDiff]
        refine q4y [(), (), (), (), (), (), (), (), ()] rfl ?_
        refine q16 _ (q8r _ p j (by omega) (by omega)) rfl (by simp only [go_sem]) rfl ?_ ?_ ?_ ?_ ?_ <;> simp only [go_sem, ↓x4, ↓x5, ↓x6, ↓x7, ↓x3, ↓y5, ↓y6, ↓y8, ↓y7, reduceCtorEq, Nat.reduceEqDiff, ↓reduceIte, Nat.reduceAdd, Nat.reduceSub, Nat.reduceLT, Nat.reduceMul, Nat.reduceBEq, Int.reduceLE, Int.reduceLT, Int.reduceAdd, Int.reduceSub, Int.reduceToNat, Int.reduceNeg, Int.reduceMul, Nat.reduceLeDiff, q56, he, hm]
        by_cases g1 : p.length ≤ m
        ·have g1' : (p.length : Int) ≤ (m : Int) := by omega
         have hr := hbad j hin hl (by
          rw [Bool.eq_false_iff]
          intro h
          obtain ⟨x, hx, e⟩ := (q4n _ _).1 h
          have := (hb x hx).1
          omega)
         refine z8 (z6 (ok0 gl) [] (by kernel_rfl) ?_)
         simp only [go_sem, ↓x4, ↓x5, ↓x6, ↓x7, ↓x3, ↓y5, ↓y6, ↓y8, ↓y7, reduceCtorEq, Nat.reduceEqDiff, ↓reduceIte, Nat.reduceAdd, Nat.reduceSub, Nat.reduceLT, Nat.reduceMul, Nat.reduceBEq, Int.reduceLE, Int.reduceLT, Int.reduceAdd, Int.reduceSub, Int.reduceToNat, Int.reduceNeg, Int.reduceMul, Nat.reduceLeDiff, wl, g1']
         refine r7 _ rfl (fun _ => ?_) (fun h => by simp at h)
         refine z8 (z6 (ok0 gl) [] (by kernel_rfl) ?_)
         simp only [go_sem, ↓x4, ↓x5, ↓x6, ↓x7, ↓x3, ↓y5, ↓y6, ↓y8, ↓y7, reduceCtorEq, Nat.reduceEqDiff, ↓reduceIte, Nat.reduceAdd, Nat.reduceSub, Nat.reduceLT, Nat.reduceMul, Nat.reduceBEq, Int.reduceLE, Int.reduceLT, Int.reduceAdd, Int.reduceSub, Int.reduceToNat, Int.reduceNeg, Int.reduceMul, Nat.reduceLeDiff]
         refine J8 ⟨.inr rfl, ?_⟩
         simp only [H5, go_sem, ↓x4, ↓x5, ↓x6, ↓x7, ↓x3, ↓y5, ↓y6, ↓y8, ↓y7, reduceCtorEq, Nat.reduceEqDiff, ↓reduceIte, Nat.reduceAdd, Nat.reduceSub, Nat.reduceLT, Nat.reduceMul, Nat.reduceBEq, Int.reduceLE, Int.reduceLT, Int.reduceAdd, Int.reduceSub, Int.reduceToNat, Int.reduceNeg, Int.reduceMul, Nat.reduceLeDiff, Tryd.f11, hr] <;> try rfl
        ·have g1' : ¬ (p.length : Int) ≤ (m : Int) := by omega
         by_cases g2 : m ∈ bs
         ·have hf2 : (q1b bs p.length).getD m .nil = .bool true := by rw [q4Z (by omega)]; simp [g2]
          refine z8 (z6 (ok0 gl) [] (by kernel_rfl) ?_)
          simp only [go_sem, ↓x4, ↓x5, ↓x6, ↓x7, ↓x3, ↓y5, ↓y6, ↓y8, ↓y7, reduceCtorEq, Nat.reduceEqDiff, ↓reduceIte, Nat.reduceAdd, Nat.reduceSub, Nat.reduceLT, Nat.reduceMul, Nat.reduceBEq, Int.reduceLE, Int.reduceLT, Int.reduceAdd, Int.reduceSub, Int.reduceToNat, Int.reduceNeg, Int.reduceMul, Nat.reduceLeDiff, wl, g1', e2, hf2, Nat.zero_add]
          refine ⟨by omega, by omega, ?_⟩
          refine r7 _ rfl (fun h => by simp at h) (fun _ => Y4 ?_)
          refine z6 (ok0 gl) [] (by kernel_rfl) ?_
          simp only [go_sem, ↓x4, ↓x5, ↓x6, ↓x7, ↓x3, ↓y5, ↓y6, ↓y8, ↓y7, reduceCtorEq, Nat.reduceEqDiff, ↓reduceIte, Nat.reduceAdd, Nat.reduceSub, Nat.reduceLT, Nat.reduceMul, Nat.reduceBEq, Int.reduceLE, Int.reduceLT, Int.reduceAdd, Int.reduceSub, Int.reduceToNat, Int.reduceNeg, Int.reduceMul, Nat.reduceLeDiff]
          refine ⟨hlt, ?_, ?_⟩
          ·intro x hx hxj hxl
           by_cases e : x = j
           ·subst e; exact (q4n _ _).2 ⟨m, g2, ht⟩
           ·exact hall x hx (by omega) hxl
          ·rw [IntWalk.i64_in _ (by omega)]
           refine U4 rfl ?_ ?_ ?_ ?_ ?_ <;> simp only [go_sem, ↓x4, ↓x5, ↓x6, ↓x7, ↓x3, ↓y5, ↓y6, ↓y8, ↓y7, reduceCtorEq, Nat.reduceEqDiff, ↓reduceIte, Nat.reduceAdd, Nat.reduceSub, Nat.reduceLT, Nat.reduceMul, Nat.reduceBEq, Int.reduceLE, Int.reduceLT, Int.reduceAdd, Int.reduceSub, Int.reduceToNat, Int.reduceNeg, Int.reduceMul, Nat.reduceLeDiff]
           all_goals rfl
         ·have hf2 : (q1b bs p.length).getD m .nil = .bool false := by rw [q4Z (by omega)]; simp [g2]
          have hr := hbad j hin hl (by
           rw [Bool.eq_false_iff]
           intro h
           obtain ⟨x, hx, e⟩ := (q4n _ _).1 h
           have : x = m := by omega
           subst this
           exact g2 hx)
          refine z8 (z6 (ok0 gl) [] (by kernel_rfl) ?_)
          simp only [go_sem, ↓x4, ↓x5, ↓x6, ↓x7, ↓x3, ↓y5, ↓y6, ↓y8, ↓y7, reduceCtorEq, Nat.reduceEqDiff, ↓reduceIte, Nat.reduceAdd, Nat.reduceSub, Nat.reduceLT, Nat.reduceMul, Nat.reduceBEq, Int.reduceLE, Int.reduceLT, Int.reduceAdd, Int.reduceSub, Int.reduceToNat, Int.reduceNeg, Int.reduceMul, Nat.reduceLeDiff, wl, g1', e2, hf2, Nat.zero_add]
          refine ⟨by omega, by omega, ?_⟩
          refine r7 _ rfl (fun _ => ?_) (fun h => by simp at h)
          refine z8 (z6 (ok0 gl) [] (by kernel_rfl) ?_)
          simp only [go_sem, ↓x4, ↓x5, ↓x6, ↓x7, ↓x3, ↓y5, ↓y6, ↓y8, ↓y7, reduceCtorEq, Nat.reduceEqDiff, ↓reduceIte, Nat.reduceAdd, Nat.reduceSub, Nat.reduceLT, Nat.reduceMul, Nat.reduceBEq, Int.reduceLE, Int.reduceLT, Int.reduceAdd, Int.reduceSub, Int.reduceToNat, Int.reduceNeg, Int.reduceMul, Nat.reduceLeDiff]
          refine J8 ⟨.inr rfl, ?_⟩
          simp only [H5, go_sem, ↓x4, ↓x5, ↓x6, ↓x7, ↓x3, ↓y5, ↓y6, ↓y8, ↓y7, reduceCtorEq, Nat.reduceEqDiff, ↓reduceIte, Nat.reduceAdd, Nat.reduceSub, Nat.reduceLT, Nat.reduceMul, Nat.reduceBEq, Int.reduceLE, Int.reduceLT, Int.reduceAdd, Int.reduceSub, Int.reduceToNat, Int.reduceNeg, Int.reduceMul, Nat.reduceLeDiff, Tryd.f11, hr] <;> try rfl
       ·by_cases l2 : bN p j = 12
        ·have l3 : ¬ (12 : Int) = 11 := by decide
         have hl : q2X p j = true := by simp [q2X, l2]
         refine z8 (Y1 (z8 (z8 (z6 (ok0 gl) [] (by kernel_rfl) ?_))))
         simp only [go_sem, ↓x4, ↓x5, ↓x6, ↓x7, ↓x3, ↓y5, ↓y6, ↓y8, ↓y7, reduceCtorEq, Nat.reduceEqDiff, ↓reduceIte, Nat.reduceAdd, Nat.reduceSub, Nat.reduceLT, Nat.reduceMul, Nat.reduceBEq, Int.reduceLE, Int.reduceLT, Int.reduceAdd, Int.reduceSub, Int.reduceToNat, Int.reduceNeg, Int.reduceMul, Nat.reduceLeDiff, e1, hf', Nat.zero_add, b1, l2, l3]
         refine ⟨by omega, by omega, by omega, by omega, by omega, by omega, ?_⟩
         refine r7 _ rfl (fun h => by simp at h) (fun _ => Y4 ?_)
         refine z8 (z6 (ok0 gl) [] (by kernel_rfl) (q9u [(), ()] ?_))
         simp only [go_sem, ↓x4, ↓x5, ↓x6, ↓x7, ↓x3, ↓y5, ↓y6, ↓y8, ↓y7, reduceCtorEq, Nat.reduceEqDiff, ↓reduceIte, Nat.reduceAdd, Nat.reduceSub, Nat.reduceLT, Nat.reduceMul, Nat.reduceBEq, Int.reduceLE, Int.reduceLT, Int.reduceAdd, Int.reduceSub, Int.reduceToNat, Int.reduceNeg, Int.reduceMul, Nat.reduceLeDiff]
         refine q4y [(), (), (), (), (), (), (), (), ()] rfl ?_
         refine q16 _ (q8r _ p j (by omega) (by omega)) rfl (by simp only [go_sem]) rfl ?_ ?_ ?_ ?_ ?_ <;> simp only [go_sem, ↓x4, ↓x5, ↓x6, ↓x7, ↓x3, ↓y5, ↓y6, ↓y8, ↓y7, reduceCtorEq, Nat.reduceEqDiff, ↓reduceIte, Nat.reduceAdd, Nat.reduceSub, Nat.reduceLT, Nat.reduceMul, Nat.reduceBEq, Int.reduceLE, Int.reduceLT, Int.reduceAdd, Int.reduceSub, Int.reduceToNat, Int.reduceNeg, Int.reduceMul, Nat.reduceLeDiff, q56, he, hm]
         by_cases g1 : p.length ≤ m
         ·have g1' : (p.length : Int) ≤ (m : Int) := by omega
          have hr := hbad j hin hl (by
           rw [Bool.eq_false_iff]
           intro h
           obtain ⟨x, hx, e⟩ := (q4n _ _).1 h
           have := (hb x hx).1
           omega)
          refine z8 (z6 (ok0 gl) [] (by kernel_rfl) ?_)
          simp only [go_sem, ↓x4, ↓x5, ↓x6, ↓x7, ↓x3, ↓y5, ↓y6, ↓y8, ↓y7, reduceCtorEq, Nat.reduceEqDiff, ↓reduceIte, Nat.reduceAdd, Nat.reduceSub, Nat.reduceLT, Nat.reduceMul, Nat.reduceBEq, Int.reduceLE, Int.reduceLT, Int.reduceAdd, Int.reduceSub, Int.reduceToNat, Int.reduceNeg, Int.reduceMul, Nat.reduceLeDiff, wl, g1']
          refine r7 _ rfl (fun _ => ?_) (fun h => by simp at h)
          refine z8 (z6 (ok0 gl) [] (by kernel_rfl) ?_)
          simp only [go_sem, ↓x4, ↓x5, ↓x6, ↓x7, ↓x3, ↓y5, ↓y6, ↓y8, ↓y7, reduceCtorEq, Nat.reduceEqDiff, ↓reduceIte, Nat.reduceAdd, Nat.reduceSub, Nat.reduceLT, Nat.reduceMul, Nat.reduceBEq, Int.reduceLE, Int.reduceLT, Int.reduceAdd, Int.reduceSub, Int.reduceToNat, Int.reduceNeg, Int.reduceMul, Nat.reduceLeDiff]
          refine J8 ⟨.inr rfl, ?_⟩
          simp only [H5, go_sem, ↓x4, ↓x5, ↓x6, ↓x7, ↓x3, ↓y5, ↓y6, ↓y8, ↓y7, reduceCtorEq, Nat.reduceEqDiff, ↓reduceIte, Nat.reduceAdd, Nat.reduceSub, Nat.reduceLT, Nat.reduceMul, Nat.reduceBEq, Int.reduceLE, Int.reduceLT, Int.reduceAdd, Int.reduceSub, Int.reduceToNat, Int.reduceNeg, Int.reduceMul, Nat.reduceLeDiff, Tryd.f11, hr] <;> try rfl
         ·have g1' : ¬ (p.length : Int) ≤ (m : Int) := by omega
          by_cases g2 : m ∈ bs
          ·have hf2 : (q1b bs p.length).getD m .nil = .bool true := by rw [q4Z (by omega)]; simp [g2]
           refine z8 (z6 (ok0 gl) [] (by kernel_rfl) ?_)
           simp only [go_sem, ↓x4, ↓x5, ↓x6, ↓x7, ↓x3, ↓y5, ↓y6, ↓y8, ↓y7, reduceCtorEq, Nat.reduceEqDiff, ↓reduceIte, Nat.reduceAdd, Nat.reduceSub, Nat.reduceLT, Nat.reduceMul, Nat.reduceBEq, Int.reduceLE, Int.reduceLT, Int.reduceAdd, Int.reduceSub, Int.reduceToNat, Int.reduceNeg, Int.reduceMul, Nat.reduceLeDiff, wl, g1', e2, hf2, Nat.zero_add]
           refine ⟨by omega, by omega, ?_⟩
           refine r7 _ rfl (fun h => by simp at h) (fun _ => Y4 ?_)
           refine z6 (ok0 gl) [] (by kernel_rfl) ?_
           simp only [go_sem, ↓x4, ↓x5, ↓x6, ↓x7, ↓x3, ↓y5, ↓y6, ↓y8, ↓y7, reduceCtorEq, Nat.reduceEqDiff, ↓reduceIte, Nat.reduceAdd, Nat.reduceSub, Nat.reduceLT, Nat.reduceMul, Nat.reduceBEq, Int.reduceLE, Int.reduceLT, Int.reduceAdd, Int.reduceSub, Int.reduceToNat, Int.reduceNeg, Int.reduceMul, Nat.reduceLeDiff]
           refine ⟨hlt, ?_, ?_⟩
           ·intro x hx hxj hxl
            by_cases e : x = j
            ·subst e; exact (q4n _ _).2 ⟨m, g2, ht⟩
            ·exact hall x hx (by omega) hxl
           ·rw [IntWalk.i64_in _ (by omega)]
            refine U4 rfl ?_ ?_ ?_ ?_ ?_ <;> simp only [go_sem, ↓x4, ↓x5, ↓x6, ↓x7, ↓x3, ↓y5, ↓y6, ↓y8, ↓y7, reduceCtorEq, Nat.reduceEqDiff, ↓reduceIte, Nat.reduceAdd, Nat.reduceSub, Nat.reduceLT, Nat.reduceMul, Nat.reduceBEq, Int.reduceLE, Int.reduceLT, Int.reduceAdd, Int.reduceSub, Int.reduceToNat, Int.reduceNeg, Int.reduceMul, Nat.reduceLeDiff]
            all_goals rfl
          ·have hf2 : (q1b bs p.length).getD m .nil = .bool false := by rw [q4Z (by omega)]; simp [g2]
           have hr := hbad j hin hl (by
            rw [Bool.eq_false_iff]
            intro h
            obtain ⟨x, hx, e⟩ := (q4n _ _).1 h
            have : x = m := by omega
            subst this
            exact g2 hx)
           refine z8 (z6 (ok0 gl) [] (by kernel_rfl) ?_)
           simp only [go_sem, ↓x4, ↓x5, ↓x6, ↓x7, ↓x3, ↓y5, ↓y6, ↓y8, ↓y7, reduceCtorEq, Nat.reduceEqDiff, ↓reduceIte, Nat.reduceAdd, Nat.reduceSub, Nat.reduceLT, Nat.reduceMul, Nat.reduceBEq, Int.reduceLE, Int.reduceLT, Int.reduceAdd, Int.reduceSub, Int.reduceToNat, Int.reduceNeg, Int.reduceMul, Nat.reduceLeDiff, wl, g1', e2, hf2, Nat.zero_add]
           refine ⟨by omega, by omega, ?_⟩
           refine r7 _ rfl (fun _ => ?_) (fun h => by simp at h)
           refine z8 (z6 (ok0 gl) [] (by kernel_rfl) ?_)
           simp only [go_sem, ↓x4, ↓x5, ↓x6, ↓x7, ↓x3, ↓y5, ↓y6, ↓y8, ↓y7, reduceCtorEq, Nat.reduceEqDiff, ↓reduceIte, Nat.reduceAdd, Nat.reduceSub, Nat.reduceLT, Nat.reduceMul, Nat.reduceBEq, Int.reduceLE, Int.reduceLT, Int.reduceAdd, Int.reduceSub, Int.reduceToNat, Int.reduceNeg, Int.reduceMul, Nat.reduceLeDiff]
           refine J8 ⟨.inr rfl, ?_⟩
           simp only [H5, go_sem, ↓x4, ↓x5, ↓x6, ↓x7, ↓x3, ↓y5, ↓y6, ↓y8, ↓y7, reduceCtorEq, Nat.reduceEqDiff, ↓reduceIte, Nat.reduceAdd, Nat.reduceSub, Nat.reduceLT, Nat.reduceMul, Nat.reduceBEq, Int.reduceLE, Int.reduceLT, Int.reduceAdd, Int.reduceSub, Int.reduceToNat, Int.reduceNeg, Int.reduceMul, Nat.reduceLeDiff, Tryd.f11, hr] <;> try rfl
        ·have hl : q2X p j = false := by simp [q2X, l1, l2]
         refine z8 (Y1 (z8 (z8 (z6 (ok0 gl) [] (by kernel_rfl) ?_))))
         simp only [go_sem, ↓x4, ↓x5, ↓x6, ↓x7, ↓x3, ↓y5, ↓y6, ↓y8, ↓y7, reduceCtorEq, Nat.reduceEqDiff, ↓reduceIte, Nat.reduceAdd, Nat.reduceSub, Nat.reduceLT, Nat.reduceMul, Nat.reduceBEq, Int.reduceLE, Int.reduceLT, Int.reduceAdd, Int.reduceSub, Int.reduceToNat, Int.reduceNeg, Int.reduceMul, Nat.reduceLeDiff, e1, hf', Nat.zero_add, b1, l1, l2]
         refine ⟨by omega, by omega, by omega, by omega, by omega, by omega, ?_⟩
         refine r7 _ rfl (fun _ => q2O ?_) (fun h => by simp at h)
         refine z6 (ok0 gl) [] (by kernel_rfl) ?_
         simp only [go_sem, ↓x4, ↓x5, ↓x6, ↓x7, ↓x3, ↓y5, ↓y6, ↓y8, ↓y7, reduceCtorEq, Nat.reduceEqDiff, ↓reduceIte, Nat.reduceAdd, Nat.reduceSub, Nat.reduceLT, Nat.reduceMul, Nat.reduceBEq, Int.reduceLE, Int.reduceLT, Int.reduceAdd, Int.reduceSub, Int.reduceToNat, Int.reduceNeg, Int.reduceMul, Nat.reduceLeDiff]
         refine ⟨hlt, ?_, ?_⟩
         ·intro x hx hxj hxl
          by_cases e : x = j
          ·subst e; rw [hl] at hxl; cases hxl
          ·exact hall x hx (by omega) hxl
         ·rw [IntWalk.i64_in _ (by omega)]
          refine U4 rfl ?_ ?_ ?_ ?_ ?_ <;> simp only [go_sem, ↓x4, ↓x5, ↓x6, ↓x7, ↓x3, ↓y5, ↓y6, ↓y8, ↓y7, reduceCtorEq, Nat.reduceEqDiff, ↓reduceIte, Nat.reduceAdd, Nat.reduceSub, Nat.reduceLT, Nat.reduceMul, Nat.reduceBEq, Int.reduceLE, Int.reduceLT, Int.reduceAdd, Int.reduceSub, Int.reduceToNat, Int.reduceNeg, Int.reduceMul, Nat.reduceLeDiff]
          all_goals rfl
      ·have hf' : (q1b bs p.length).getD j .nil = .bool false := by rw [hf]; simp [hin]
       refine z8 (Y1 (z8 (z8 (z6 (ok0 gl) [] (by kernel_rfl) ?_))))
       simp only [go_sem, ↓x4, ↓x5, ↓x6, ↓x7, ↓x3, ↓y5, ↓y6, ↓y8, ↓y7, reduceCtorEq, Nat.reduceEqDiff, ↓reduceIte, Nat.reduceAdd, Nat.reduceSub, Nat.reduceLT, Nat.reduceMul, Nat.reduceBEq, Int.reduceLE, Int.reduceLT, Int.reduceAdd, Int.reduceSub, Int.reduceToNat, Int.reduceNeg, Int.reduceMul, Nat.reduceLeDiff, e1, hf', Nat.zero_add]
       refine ⟨by omega, by omega, ?_⟩
       refine r7 _ rfl (fun _ => q2O ?_) (fun h => by simp at h)
       refine z6 (ok0 gl) [] (by kernel_rfl) ?_
       simp only [go_sem, ↓x4, ↓x5, ↓x6, ↓x7, ↓x3, ↓y5, ↓y6, ↓y8, ↓y7, reduceCtorEq, Nat.reduceEqDiff, ↓reduceIte, Nat.reduceAdd, Nat.reduceSub, Nat.reduceLT, Nat.reduceMul, Nat.reduceBEq, Int.reduceLE, Int.reduceLT, Int.reduceAdd, Int.reduceSub, Int.reduceToNat, Int.reduceNeg, Int.reduceMul, Nat.reduceLeDiff]
       refine ⟨hlt, ?_, ?_⟩
       ·intro x hx hxj
        by_cases e : x = j
        ·subst e; exact absurd hx hin
        ·exact hall x hx (by omega)
       ·rw [IntWalk.i64_in _ (by omega)]
        refine U4 rfl ?_ ?_ ?_ ?_ ?_ <;> simp only [go_sem, ↓x4, ↓x5, ↓x6, ↓x7, ↓x3, ↓y5, ↓y6, ↓y8, ↓y7, reduceCtorEq, Nat.reduceEqDiff, ↓reduceIte, Nat.reduceAdd, Nat.reduceSub, Nat.reduceLT, Nat.reduceMul, Nat.reduceBEq, Int.reduceLE, Int.reduceLT, Int.reduceAdd, Int.reduceSub, Int.reduceToNat, Int.reduceNeg, Int.reduceMul, Nat.reduceLeDiff]
        all_goals rfl
     ·have hlt' : ¬ (j : Int) < (p.length : Int) := by omega
      have hr : Q7 p = 0 := by
       unfold Q7
       rw [if_neg h0, hS', if_neg (by simp), if_pos]
       rw [List.all_eq_true]
       intro c hc
       obtain ⟨x, hx, rfl⟩ := List.mem_map.1 hc
       obtain ⟨hx1, hx2⟩ := List.mem_filter.1 hx
       exact hall x hx1 (by have := (hb x hx1).1; omega) hx2
      refine z8 (z8 (z6 (ok0 gl) [] (by kernel_rfl) ?_))
      simp only [go_sem, ↓x4, ↓x5, ↓x6, ↓x7, ↓x3, ↓y5, ↓y6, ↓y8, ↓y7, reduceCtorEq, Nat.reduceEqDiff, ↓reduceIte, Nat.reduceAdd, Nat.reduceSub, Nat.reduceLT, Nat.reduceMul, Nat.reduceBEq, Int.reduceLE, Int.reduceLT, Int.reduceAdd, Int.reduceSub, Int.reduceToNat, Int.reduceNeg, Int.reduceMul, Nat.reduceLeDiff, hlt']
      refine r7 _ rfl (fun h => by simp at h) (fun _ => q2O ?_)
      refine z8 (z6 (ok0 gl) [] (by kernel_rfl) ?_)
      simp only [go_sem, ↓x4, ↓x5, ↓x6, ↓x7, ↓x3, ↓y5, ↓y6, ↓y8, ↓y7, reduceCtorEq, Nat.reduceEqDiff, ↓reduceIte, Nat.reduceAdd, Nat.reduceSub, Nat.reduceLT, Nat.reduceMul, Nat.reduceBEq, Int.reduceLE, Int.reduceLT, Int.reduceAdd, Int.reduceSub, Int.reduceToNat, Int.reduceNeg, Int.reduceMul, Nat.reduceLeDiff]
      refine J8 ⟨.inr rfl, ?_⟩
      simp only [H5, go_sem, ↓x4, ↓x5, ↓x6, ↓x7, ↓x3, ↓y5, ↓y6, ↓y8, ↓y7, reduceCtorEq, Nat.reduceEqDiff, ↓reduceIte, Nat.reduceAdd, Nat.reduceSub, Nat.reduceLT, Nat.reduceMul, Nat.reduceBEq, Int.reduceLE, Int.reduceLT, Int.reduceAdd, Int.reduceSub, Int.reduceToNat, Int.reduceNeg, Int.reduceMul, Nat.reduceLeDiff, Tryd.f11, hr] <;> try rfl
end Go.Proofs.YtdoajkacibicoaaDoor
namespace Go.Proofs.YtdoajkacibicoaaDoor
open Go Go.E
set_option maxRecDepth 100000
theorem z6Q {X : Cx} {f : FuncId} {eb : Nat} {e : Ty} {c : C} {A : Key → Option O} {v : V} {L : List (Key × O)} (h : p8 X f [.d (.slice eb e) (.slice c.elems)] A v L) : p8 X f [.d (.slice eb e) c] A v L := by
 intro A' Γ w args hA hg hc hn hr
 have hs : args.size = 1 := hn.symm
 have h0 : q9 Γ (.d (.slice eb e) c) args[0] := hr 0 _ _ rfl (Array.getElem?_eq_getElem (by omega : 0 < args.size))
 obtain ⟨h2, _⟩ := (s5 rfl rfl).1 h0
 simp only [q8, y4] at h2
 obtain ⟨_, _, _, cs, rfl, _⟩ := h2
 exact h A' Γ w args hA hg hc hn hr
def z5v {R : Type} : OvG R := fun xs _ K => match xs with
 | [.d t c] => if t = .slice 1 (.int .u8) then K (.d (.int .i64) (.int (Q7 c.elems))) [] else none
 | _ => none
noncomputable def q1Z (_ : Nat) {R : Type} : OvG R := z5v
theorem q4f (N : Nat) {R : Type} : GOk (X0 gl0) 10 (q1Z N (R := R)) := by
 intro xs A Kr r hr
 unfold q1Z z5v at hr
 split at hr
 ·simp only [Option.ite_none_right_eq_some] at hr
  obtain ⟨rfl, hr⟩ := hr
  exact ⟨_, _, z6Q (y3f gf0 A _), hr⟩
 ·cases hr
noncomputable def q2q (_ : Nat) {R : Type} : OvG R := z5v
theorem q5n (N : Nat) {R : Type} : GOk (X0 gl0) 11 (q2q N (R := R)) := by
 intro xs A Kr r hr
 unfold q2q z5v at hr
 split at hr
 ·simp only [Option.ite_none_right_eq_some] at hr
  obtain ⟨rfl, hr⟩ := hr
  exact ⟨_, _, z6Q (y0R A _), hr⟩
 ·cases hr
theorem y2d {X : Cx} {f : FuncId} {eb : Nat} {e : Ty} {c : C} {y : V} {A : Key → Option O} {v : V} {L : List (Key × O)} (h : p8 X f [.d (.slice eb e) (.slice c.elems), y] A v L) : p8 X f [.d (.slice eb e) c, y] A v L := by
 intro A' Γ w args hA hg hc hn hr
 have hs : args.size = 2 := hn.symm
 have h0 : q9 Γ (.d (.slice eb e) c) args[0] := hr 0 _ _ rfl (Array.getElem?_eq_getElem (by omega : 0 < args.size))
 obtain ⟨h2, _⟩ := (s5 rfl rfl).1 h0
 simp only [q8, y4] at h2
 obtain ⟨_, _, _, cs, rfl, _⟩ := h2
 exact h A' Γ w args hA hg hc hn hr
theorem y5E {X : Cx} {f : FuncId} {k : IntKind} {c : C} {y : V} {A : Key → Option O} {v : V} {L : List (Key × O)} (h : p8 X f [y, .d (.int k) (.int c.toInt)] A v L) : p8 X f [y, .d (.int k) c] A v L := by
 intro A' Γ w args hA hg hc hn hr
 have hs : args.size = 2 := hn.symm
 have h0 : q9 Γ (.d (.int k) c) args[1] := hr 1 _ _ rfl (Array.getElem?_eq_getElem (by omega : 1 < args.size))
 obtain ⟨h2, _⟩ := (s5 rfl rfl).1 h0
 simp only [q8, y4] at h2
 have hc' : ∃ i, c = .int i := by
  cases c <;> simp_all
 obtain ⟨i, rfl⟩ := hc'
 exact h A' Γ w args hA hg hc hn hr
def y4i {R : Type} : OvG R := fun xs _ K => match xs with
 | [.d t c, .d u i] => if t = .slice 1 (.int .u8) ∧ u = .int .i64 then (if c.elems.length ≤ 256 ∧ 0 ≤ i.toInt ∧ i.toInt ≤ 100000 then
   K (.tup [.d (.int .i64) (.int (if u9 c.elems i.toInt.toNat = 0 then bN c.elems i.toInt.toNat else 0)), .d (.int .u64) (.int (if u9 c.elems i.toInt.toNat = 0 then Q3 c.elems (i.toInt.toNat + 1) (x8 (bN c.elems i.toInt.toNat)) else 0)), .d (.int .i64) (.int (if u9 c.elems i.toInt.toNat = 0 then ((i.toInt.toNat + 1 + x8 (bN c.elems i.toInt.toNat) : Nat) : Int) else 0)), .d (.int .i64) (.int (u9 c.elems i.toInt.toNat))]) [] else none) else none
 | _ => none
noncomputable def q43 (_ : Nat) {R : Type} : OvG R := y4i
theorem z0w (N : Nat) {R : Type} : GOk (X0 gl0) 12 (q43 N (R := R)) := by
 intro xs A Kr r hr
 unfold q43 y4i at hr
 split at hr
 ·simp only [Option.ite_none_right_eq_some] at hr
  obtain ⟨⟨rfl, rfl⟩, ⟨h1, h2, h3⟩, hr⟩ := hr
  rename_i c i
  refine ⟨_, _, y2d (y5E ?_), hr⟩
  have := z5t gf0 A c.elems i.toInt.toNat h1 (by omega)
  rw [Int.toNat_of_nonneg h2] at this
  simpa only [q7M] using this
 ·cases hr
open Go Go.E Go.RowKit Go.Shelf
set_option maxHeartbeats 4000000
set_option linter.unusedSimpArgs false
def q0U (sep : List UInt8) : List (List UInt8) → List UInt8
 | [] => []
 | x :: l => match l with
  | [] => x
  | _ :: _ => x ++ sep ++ q0U sep l
theorem z3J (sep : List UInt8) : ∀ l : List (List UInt8), q0U sep l = Lib.join l sep
 | [] => rfl
 | [x] => by rw [Lib.join_one]; rfl
 | x :: y :: l => by
  have ih := z3J sep (y :: l)
  rw [Lib.join_cons] at ih ⊢
  rw [Lib.joinTail, List.map_cons, List.flatten_cons, List.append_assoc, ← Lib.joinTail]
  show x ++ sep ++ q0U sep (y :: l) = _
  rw [ih, List.append_assoc]
theorem y4k {w w' : World} (h : Below w.heap.size w w') : Ext w w' := ⟨h.size, fun b hb => h.block b hb, by unfold oof; rw [h.os, h.output]⟩
theorem y33 (a : Option Addr) (cap : Nat) (s : ByteArray) (w : World) : Calls Tryd.prog 14 #[.slice a 0 cap, .string s] w fun e w' => e = .returned (.string ⟨#[]⟩) ∧ w' = w := by
 go_enter Tryd.func14, Tryd.ntmps14
 go_wp2
 go_ret
 exact ⟨rfl, rfl⟩
theorem y2M (A : Key → Option O) (c s : C) (hl : (q0U s.toStr (c.elems.map C.toStr)).length ≤ 140737488355328) :
  p8 (X0 gl0) 14 [.d (.slice 16 .str) c, .d .str s] A (.d .str (.str (q0U s.toStr (c.elems.map C.toStr)))) [] := by
 intro A' Γ w args hA' hg hc hn hr
 obtain ⟨cc, hok⟩ := hc
 have hs : args.size = 2 := hn.symm
 have r0 := hr 0 _ _ rfl (Array.getElem?_eq_getElem (by omega))
 obtain ⟨e2, _, _⟩ := W1 (hr 1 _ _ rfl (Array.getElem?_eq_getElem (by omega)))
 obtain ⟨r1, r2⟩ := Q4.1 r0
 rw [u4 (by simpa [Ty.isAgg] using r2)] at r1
 obtain ⟨a, n, cap, e1, _, hlen, hcap, _, _, hrow⟩ := J9 r1
 by_cases h0 : n = 0
 ·subst h0
  have ea : args = #[.slice a 0 cap, .string ⟨s.toStr.toArray⟩] := by
   apply Array.ext
   ·simpa using hs
   ·intro i h1 h2
    match i with
    | 0 => simpa using e1
    | 1 => simpa using e2
    | i + 2 => omega
  have hce : c.elems = [] := List.eq_nil_of_length_eq_zero hlen
  rw [ea]
  refine (y33 a cap ⟨s.toStr.toArray⟩ w).mono fun e w' he => ?_
  obtain ⟨he1, rfl⟩ := he
  refine ⟨_, Γ, he1, .refl Γ, cc.congr (fun _ => rfl) (fun _ => rfl) (fun _ h => h), ?_⟩
  rw [hce]
  exact q0Z (l := []) (by simp)
 rcases hrow with h | ⟨b, off, l, rfl, hH, hb, hcs⟩
 ·omega
 obtain ⟨arr, T, fr, r, q1, q2⟩ := cc.hH b l hH
 have ea : args = #[.slice (some ⟨b, off, none⟩) n cap, .string ⟨s.toStr.toArray⟩] := by
  apply Array.ext
  ·simpa using hs
  ·intro i h1 h2
   match i with
   | 0 => simpa using e1
   | 1 => simpa using e2
   | i + 2 => omega
 have hx : (c.elems.map fun x => (⟨x.toStr.toArray⟩ : ByteArray)).length = n := by simpa using hlen
 have hm : ((c.elems.map fun x => (⟨x.toStr.toArray⟩ : ByteArray)).map (·.data.toList)) = c.elems.map C.toStr := by simp [List.map_map, Function.comp_def]
 have hcells : ∀ (j : Nat) x, (c.elems.map fun x => (⟨x.toStr.toArray⟩ : ByteArray))[j]? = some x → w.cell? ⟨b, off + j, none⟩ = some (.string x) := by
  intro j x hj
  rw [List.getElem?_map] at hj
  cases hc : c.elems[j]? with
  | none => rw [hc] at hj; cases hj
  | some y =>
   rw [hc] at hj
   simp only [Option.map_some, Option.some.injEq] at hj
   have h1 := hcs j y hc
   have hjn : j < n := by have := (List.getElem?_eq_some_iff.1 hc).1; omega
   simp only [y4, Ty.size, Nat.mul_one] at h1 hb
   obtain ⟨t, e3, e4, _⟩ := h1
   have h2 : (chunk l (off + j) 1)[0]? = some (.string ⟨t.toArray⟩) := by first | rw [e4]; rfl | rw [e3]; rfl
   have h3 : l[off + j]? = some (.string ⟨t.toArray⟩) := by
    simp only [chunk, List.getElem?_take, List.getElem?_drop] at h2
    simpa using h2
   have h4 : y.toStr = t := by first | (rw [e3]; rfl) | (rw [e4]; rfl)
   unfold World.cell?
   simp only [q1]
   have h5 : arr[off + j]? = some (.string ⟨t.toArray⟩) := by
    rw [← Array.getElem?_toList, q2, List.getElem?_append_left (by omega)]
    exact h3
   rw [← hj, h4]
   simpa using h5
 have run := Tryd.strings_Join b off cap (c.elems.map fun x => (⟨x.toStr.toArray⟩ : ByteArray)) ⟨s.toStr.toArray⟩ w hcells (lt_of_heap q1) (by rw [hx]; simp only [Ty.size] at *; omega) (by rw [hx]; exact hcap) (by rw [hm, ← z3J]; exact hl)
 rw [hx, hm] at run
 rw [ea]
 refine run.mono fun e w' he => ?_
 obtain ⟨he1, he2⟩ := he
 refine ⟨_, Γ, he1, .refl Γ, (cc.ext (y4k he2)).congr (fun _ => rfl) (fun _ => rfl) (fun _ h => h), ?_⟩
 rw [z3J] at hl ⊢
 exact q0Z hl
noncomputable def q9N (_ : Nat) {R : Type} : OvG R := fun xs _ K => match xs with
 | [.d (.slice 16 .str) c, .d .str s] => if (q0U s.toStr (c.elems.map C.toStr)).length ≤ 140737488355328 then K (.d .str (.str (q0U s.toStr (c.elems.map C.toStr)))) [] else none
 | _ => none
theorem y01 (N : Nat) {R : Type} : GOk (X0 gl0) 14 (q9N N (R := R)) := by
 intro xs A Kr r hr
 unfold q9N at hr
 split at hr
 ·simp only [Option.ite_none_right_eq_some] at hr
  obtain ⟨h2, hr⟩ := hr
  exact ⟨_, _, y2M A _ _ h2, hr⟩
 ·cases hr
set_option linter.unusedVariables false
noncomputable def z3r : Hints := [([0, 1, 1], ⟨[], [(0, .d (.int .u64)), (3, .d .str)], [], [], [], []⟩),
  ([4, 0, 1, 1], ⟨[], [(0, .d (.int .u64)), (3, .d .str)], [], [], [], []⟩),
  ([9], ⟨[], [(2, .d .str)], [], [], [], []⟩)]
noncomputable def q7u (N : Nat) : OvS (X0 gl0) where
 g R := []
 ok := fun R => fun _ h => nomatch h
noncomputable def q2a {R : Type} (N : Nat) (k2 : KD R) : KD R → List C → List Es → Option R := (fun k3 d1 m1 => (bif decide (9 < C.toInt (dk d1 0)) then (if 1 + List.length (C.toStr (dk d1 1)) ≤ 140737488355328 then (k3 [C.int (IntKind.wrap IntKind.u64 (Int.tdiv (C.toInt (dk d1 0)) 10)), C.str ([{ toBitVec := { toFin := ⟨Int.toNat (IntKind.wrap IntKind.u8 (IntKind.wrap IntKind.u64 (48 + Int.tmod (C.toInt (dk d1 0)) 10))) % 256, Nat.mod_lt (Int.toNat (C.toInt (C.int (IntKind.wrap IntKind.u8 (IntKind.wrap IntKind.u64 (48 + Int.tmod (C.toInt (dk d1 0)) 10)))))) (BitVec.ofNat._proof_1 8)⟩ } }] ++ C.toStr (dk d1 1))] []) else none) else (k2 [dk d1 0, dk d1 1] [])))
noncomputable def q19 {R : Type} (N : Nat) (a0 : C) (k1 : KD R) : Option R := (jn (fun d1 m1 => (if 1 + List.length (C.toStr (dk d1 1)) ≤ 140737488355328 then (k1 [C.str ([{ toBitVec := { toFin := ⟨Int.toNat (IntKind.wrap IntKind.u8 (IntKind.wrap IntKind.u64 (48 + C.toInt (dk d1 0)))) % 256, Nat.mod_lt (Int.toNat (C.toInt (C.int (IntKind.wrap IntKind.u8 (IntKind.wrap IntKind.u64 (48 + C.toInt (dk d1 0))))))) (BitVec.ofNat._proof_1 8)⟩ } }] ++ C.toStr (dk d1 1))] []) else none)) (fun k2 => (b6 N (q2a N k2) [a0, C.str []] [])))
noncomputable def X6 {R : Type} (N : Nat) : C → KD R → Option R := lid "" (q19 N)
theorem q7t {R : Type} (N : Nat) (a0 : C) (k : KD R) : X6 N a0 k = q19 N a0 k := by unfold X6; rw [Z8]
theorem z2K {R : Type} (N : Nat) (a0 : C) (K : V → List (Key × O) → Option R) : exF (X0 gl0) ((q7u N).ov R) H9 noX (fun f => bif Nat.beq f 18 then z3r else []) N 400 8 18 [.d (.int .u64) a0] A0 K =
  X6 N a0 (fun d1 m1 => K (V.d Ty.str (dk d1 0)) []) := by
 rw [q7t]
 exact (show _ = jn (fun d1 m1 => (K (V.d Ty.str (dk d1 0)) [])) (q19 N a0) by kernel_rfl).trans (o5 _ _)
noncomputable def q2U (N : Nat) {R : Type} : OvG R := fun xs _ K => match xs with
 | [.d t0 a0] => if t0 = (.int .u64) then X6 N a0 (fun d1 m1 => K (V.d Ty.str (dk d1 0)) []) else none
 | _ => none
theorem okB {R : Type} (o : OvS (X0 gl0)) {tb hs N n d f xs} {A : Key → Option O} {K : V → List (Key × O) → Option R} {r} (h : exF (X0 gl0) (o.ov R) H9 tb hs N n d f xs A K = some r) : ∃ v L, p8 (X0 gl0) f xs A v L ∧ K v L = some r := y4l (ok0 gl0) (mo gl0) (o.y6x _) (y7z gl0) _ _ _ _ _ _ h
theorem okA {R : Type} (o : OvS (X0 gl0)) {tb hs N n d f xs} {A : Key → Option O} {K : V → List (Key × O) → Option R} {r} (h : exF (X0 gl0) (o.ov R) H9 tb hs N n d f xs A0 K = some r) : ∃ v L, p8 (X0 gl0) f xs A v L ∧ K v L = some r := let ⟨v, L, h1, h2⟩ := okB o h
 ⟨v, L, h1.mono (y5C fun _ => rfl), h2⟩
theorem q7v (N : Nat) {R : Type} : GOk (X0 gl0) 18 (q2U N (R := R)) := by
 intro xs A Kr r hr
 unfold q2U at hr
 split at hr
 ·simp only [Option.ite_none_right_eq_some] at hr
  obtain ⟨hty, hr⟩ := hr
  subst hty
  rw [← z2K] at hr
  exact okA (q7u N) hr
 ·cases hr
end Go.Proofs.YtdoajkacibicoaaDoor
namespace Go.Proofs.YtdoajkacibicoaaDoor
open Go Go.E
set_option maxRecDepth 100000
set_option maxHeartbeats 4000000
set_option linter.unusedSimpArgs false
variable {R : Type} {N : Nat}
theorem y0j (k2 : KD R) (N0 : Nat) : ∀ (f n : Nat) (s : List UInt8) (M : Nat), n < 10 ^ (f + 1) → n < 18446744073709551616 → s.length + f ≤ 100 →
  ∃ a t, a < 10 ∧ Lib.decDigits n = UInt8.ofNat (48 + a) :: t ∧ t.length ≤ f ∧ b6 (M + f + 1) (q2a N0 k2) [.int (n : Int), .str s] [] = k2 [.int (a : Int), .str (t ++ s)] []
 | f, n, s, M, h, h2, hs => by
  rw [U7]
  by_cases hn : n < 10
  ·refine ⟨n, [], hn, Lib.decDigits_one hn, Nat.zero_le _, ?_⟩
   unfold q2a
   have h9 : ¬ ((9 : Int) < (n : Int)) := by omega
   simp only [go_sem, u2, J0, h9, decide_false, cond_false, List.nil_append]
  ·cases f with
   | zero => omega
   | succ f =>
    have h' : n / 10 < 10 ^ (f + 1) := by rw [Nat.pow_succ] at h; omega
    obtain ⟨a, t, ha, hd, ht, hl⟩ := y0j k2 N0 f (n / 10) (UInt8.ofNat (48 + n % 10) :: s) M h' (by omega) (by simp only [List.length_cons]; omega)
    refine ⟨a, t ++ [UInt8.ofNat (48 + n % 10)], ha, ?_, ?_, ?_⟩
    ·rw [Lib.decDigits, dif_neg hn, hd]; rfl
    ·simp only [List.length_append, List.length_cons, List.length_nil]; omega
    ·rw [List.append_assoc, List.singleton_append, ← hl]
     have h9 : ((9 : Int) < (n : Int)) := by omega
     have e1 : IntKind.u64.wrap (Int.tdiv (n : Int) 10) = ((n / 10 : Nat) : Int) := by
      rw [Int.tdiv_eq_ediv_of_nonneg (by omega), IntKind.wrap_u64]; omega
     have e2 : (IntKind.wrap IntKind.u8 (IntKind.wrap IntKind.u64 (48 + Int.tmod (n : Int) 10))).toNat = 48 + n % 10 := by
      rw [Int.tmod_eq_emod_of_nonneg (by omega), IntKind.wrap_u64, wrap_u8]; omega
     unfold q2a
     simp only [go_sem, u2, J0, h9, decide_true, cond_true]
     rw [if_pos (by omega), e1]
     show b6 (M + (f + 1)) _ [C.int _, C.str (UInt8.ofNat ((IntKind.wrap IntKind.u8 (IntKind.wrap IntKind.u64 (48 + Int.tmod (n : Int) 10))).toNat) :: s)] [] = _
     rw [e2]
     rfl
theorem z5E (n : Nat) (h : n < 18446744073709551616) (hN : 100 < N) (k : KD R) : X6 N (.int (n : Int)) k = k [.str (U9 n)] [] := by
 rw [q7t]
 unfold q19
 simp only [o5]
 obtain ⟨M, rfl⟩ : ∃ M, N = M + 19 + 1 := ⟨N - 20, by omega⟩
 obtain ⟨a, t, ha, hd, ht, hl⟩ := y0j (R := R) _ (M + 19 + 1) 19 n [] M (Nat.lt_of_lt_of_le h (by decide)) h (by simp)
 rw [hl]
 simp only [go_sem, u2, J0, List.append_nil]
 rw [if_pos (by omega), z6y n h, hd]
 have e2 : (IntKind.wrap IntKind.u8 (IntKind.wrap IntKind.u64 (48 + (a : Int)))).toNat = 48 + a := by rw [IntKind.wrap_u64, wrap_u8]; omega
 show k [C.str (UInt8.ofNat ((IntKind.wrap IntKind.u8 (IntKind.wrap IntKind.u64 (48 + (a : Int)))).toNat) :: t)] [] = _
 rw [e2]
def z1S (n : Nat) (c : UInt8) : Nat ⊕ Unit := if 48 ≤ c.toNat ∧ c.toNat ≤ 57 then (if n * 10 + (c.toNat - 48) < 18446744073709551616 then .inl (n * 10 + (c.toNat - 48)) else .inr ()) else .inr ()
theorem y1R : ∀ (l : List UInt8) (i n : Nat), q0R (fun _ n c => z1S n c) i n l = (match Lib.parseUint10 n l with | .ok u => .inl u | _ => .inr ())
 | [], _, _ => rfl
 | c :: l, i, n => by
  simp only [q0R, Lib.parseUint10, z1S]
  by_cases h : 48 ≤ c.toNat ∧ c.toNat ≤ 57
  ·rw [if_pos h, if_pos h]
   by_cases h2 : n * 10 + (c.toNat - 48) < 18446744073709551616
   ·rw [if_pos h2, if_neg (by omega), if_neg (by omega)]
    exact y1R l (i + 1) _
   ·rw [if_neg h2]
    by_cases h3 : 1844674407370955162 ≤ n
    ·rw [if_pos h3]
    ·rw [if_neg h3, if_pos (by omega)]
  ·rw [if_neg h, if_neg h]
end Go.Proofs.YtdoajkacibicoaaDoor
namespace Go.Proofs.YtdoajkacibicoaaDoor
open Go Go.E
set_option maxRecDepth 100000
set_option maxHeartbeats 4000000
set_option linter.unusedVariables false
noncomputable def q6l : Hints := [([9], ⟨[], [(4, .d .str), (5, .d .str), (6, .d .bool)], [], [], [], []⟩)]
noncomputable def q14 (N : Nat) : OvS (X0 gl0) where
 g R := [(64, q4V N)]
 ok := fun R => List.forall_mem_cons.2 ⟨z0n N, fun _ h => nomatch h⟩
noncomputable def J5 {R : Type} (N : Nat) (a0 a1 : C) (k1 : KD R) : Option R := (if List.length (C.toStr a1) = 1 then (bif decide (0 ≤ q6N (C.toStr a0) (C.toStr a1)) then (if Int.ofNat 0 ≤ 0 ∧ 0 ≤ q6N (C.toStr a0) (C.toStr a1) ∧ q6N (C.toStr a0) (C.toStr a1) ≤ (↑(List.length (C.toStr a0)) : Int) then (if 0 ≤ IntKind.wrap IntKind.i64 (q6N (C.toStr a0) (C.toStr a1) + (↑(List.length (C.toStr a1)) : Int)) ∧ IntKind.wrap IntKind.i64 (q6N (C.toStr a0) (C.toStr a1) + (↑(List.length (C.toStr a1)) : Int)) ≤ (↑(List.length (C.toStr a0)) : Int) ∧ (↑(List.length (C.toStr a0)) : Int) ≤ (↑(List.length (C.toStr a0)) : Int) then (k1 [C.str (List.drop 0 (List.take (Int.toNat (q6N (C.toStr a0) (C.toStr a1))) (C.toStr a0))), C.str (List.drop (Int.toNat (IntKind.wrap IntKind.i64 (q6N (C.toStr a0) (C.toStr a1) + (↑(List.length (C.toStr a1)) : Int)))) (List.take (Int.toNat (↑(List.length (C.toStr a0)) : Int)) (C.toStr a0))), C.bool true] []) else none) else none) else (k1 [a0, C.str [], C.bool false] [])) else none)
noncomputable def W3 {R : Type} (N : Nat) : C → C → KD R → Option R := lid "" (J5 N)
theorem q13 {R : Type} (N : Nat) (a0 a1 : C) (k : KD R) : W3 N a0 a1 k = J5 N a0 a1 k := by unfold W3; rw [Z8]
theorem q5u {R : Type} (N : Nat) (a0 a1 : C) (K : V → List (Key × O) → Option R) : exF (X0 gl0) ((q14 N).ov R) H9 noX (fun f => bif Nat.beq f 43 then q6l else []) N 400 8 43 [.d .str a0, .d .str a1] A0 K =
  W3 N a0 a1 (fun d1 m1 => K (V.tup [V.d Ty.str (dk d1 0), V.d Ty.str (dk d1 1), V.d Ty.bool (C.bool (C.toBool (dk d1 2)))]) []) := by
 rw [q13]
 exact (show _ = jn (fun d1 m1 => (K (V.tup [V.d Ty.str (dk d1 0), V.d Ty.str (dk d1 1), V.d Ty.bool (C.bool (C.toBool (dk d1 2)))]) [])) (J5 N a0 a1) by kernel_rfl).trans (o5 _ _)
noncomputable def q0I (N : Nat) {R : Type} : OvG R := fun xs _ K => match xs with
 | [.d t0 a0, .d t1 a1] => if t0 = .str ∧ t1 = .str then W3 N a0 a1 (fun d1 m1 => K (V.tup [V.d Ty.str (dk d1 0), V.d Ty.str (dk d1 1), V.d Ty.bool (C.bool (C.toBool (dk d1 2)))]) []) else none
 | _ => none
theorem q6k (N : Nat) {R : Type} : GOk (X0 gl0) 43 (q0I N (R := R)) := by
 intro xs A Kr r hr
 unfold q0I at hr
 split at hr
 ·simp only [Option.ite_none_right_eq_some] at hr
  obtain ⟨hty, hr⟩ := hr
  obtain ⟨rfl, rfl⟩ := hty
  rw [← q5u] at hr
  exact okA (q14 N) hr
 ·cases hr
noncomputable def z5L : Hints := [([9], ⟨[], [(4, .d .str), (5, .d .str), (6, .d .bool)], [], [], [], []⟩)]
noncomputable def q8P (N : Nat) : OvS (X0 gl0) where
 g R := [(43, q0I N)]
 ok := fun R => List.forall_mem_cons.2 ⟨q6k N, fun _ h => nomatch h⟩
noncomputable def q3y {R : Type} (N : Nat) (a0 a1 : C) (k1 : KD R) : Option R := (W3 N a0 a1 (fun d1 m1 => (k1 [dk d1 0, dk d1 1, C.bool (C.toBool (dk d1 2))] [])))
noncomputable def q1n {R : Type} (N : Nat) : C → C → KD R → Option R := lid "" (q3y N)
theorem q8O {R : Type} (N : Nat) (a0 a1 : C) (k : KD R) : q1n N a0 a1 k = q3y N a0 a1 k := by unfold q1n; rw [Z8]
theorem z4c {R : Type} (N : Nat) (a0 a1 : C) (K : V → List (Key × O) → Option R) : exF (X0 gl0) ((q8P N).ov R) H9 noX (fun f => bif Nat.beq f 28 then z5L else []) N 400 8 28 [.d .str a0, .d .str a1] A0 K =
  q1n N a0 a1 (fun d1 m1 => K (V.tup [V.d Ty.str (dk d1 0), V.d Ty.str (dk d1 1), V.d Ty.bool (C.bool (C.toBool (dk d1 2)))]) []) := by
 rw [q8O]
 exact (show _ = jn (fun d1 m1 => (K (V.tup [V.d Ty.str (dk d1 0), V.d Ty.str (dk d1 1), V.d Ty.bool (C.bool (C.toBool (dk d1 2)))]) [])) (q3y N a0 a1) by kernel_rfl).trans (o5 _ _)
noncomputable def q6C (N : Nat) {R : Type} : OvG R := fun xs _ K => match xs with
 | [.d t0 a0, .d t1 a1] => if t0 = .str ∧ t1 = .str then q1n N a0 a1 (fun d1 m1 => K (V.tup [V.d Ty.str (dk d1 0), V.d Ty.str (dk d1 1), V.d Ty.bool (C.bool (C.toBool (dk d1 2)))]) []) else none
 | _ => none
theorem z5K (N : Nat) {R : Type} : GOk (X0 gl0) 28 (q6C N (R := R)) := by
 intro xs A Kr r hr
 unfold q6C at hr
 split at hr
 ·simp only [Option.ite_none_right_eq_some] at hr
  obtain ⟨hty, hr⟩ := hr
  obtain ⟨rfl, rfl⟩ := hty
  rw [← z4c] at hr
  exact okA (q8P N) hr
 ·cases hr
noncomputable def z5X : Hints := [([9], ⟨[], [(0, .d (.slice 16 .str))], [], [], [], []⟩)]
noncomputable def q81 (N : Nat) : OvS (X0 gl0) where
 g R := []
 ok := fun R => fun _ h => nomatch h
noncomputable def q5m {R : Type} (N : Nat) (k1 : KD R) : Option R := (k1 [C.slice [C.str [UInt8.ofNat 104, UInt8.ofNat 97, UInt8.ofNat 108, UInt8.ofNat 116], C.str [UInt8.ofNat 112, UInt8.ofNat 117, UInt8.ofNat 115, UInt8.ofNat 104], C.str [UInt8.ofNat 108, UInt8.ofNat 111, UInt8.ofNat 97, UInt8.ofNat 100], C.str [UInt8.ofNat 97, UInt8.ofNat 100, UInt8.ofNat 100], C.str [UInt8.ofNat 115, UInt8.ofNat 117, UInt8.ofNat 98], C.str [UInt8.ofNat 109, UInt8.ofNat 117, UInt8.ofNat 108], C.str [UInt8.ofNat 108, UInt8.ofNat 101, UInt8.ofNat 115, UInt8.ofNat 115], C.str [UInt8.ofNat 115, UInt8.ofNat 97, UInt8.ofNat 109, UInt8.ofNat 101], C.str [UInt8.ofNat 110, UInt8.ofNat 111, UInt8.ofNat 116], C.str [UInt8.ofNat 98, UInt8.ofNat 111, UInt8.ofNat 116, UInt8.ofNat 104], C.str [UInt8.ofNat 97, UInt8.ofNat 110, UInt8.ofNat 121], C.str [UInt8.ofNat 106, UInt8.ofNat 117, UInt8.ofNat 109, UInt8.ofNat 112], C.str [UInt8.ofNat 105, UInt8.ofNat 102], C.str [UInt8.ofNat 116, UInt8.ofNat 119, UInt8.ofNat 105, UInt8.ofNat 99, UInt8.ofNat 101], C.str [UInt8.ofNat 115, UInt8.ofNat 119, UInt8.ofNat 97, UInt8.ofNat 112], C.str [UInt8.ofNat 100, UInt8.ofNat 114, UInt8.ofNat 111, UInt8.ofNat 112], C.str [UInt8.ofNat 112, UInt8.ofNat 97, UInt8.ofNat 105, UInt8.ofNat 100], C.str [UInt8.ofNat 110, UInt8.ofNat 111, UInt8.ofNat 119]]] [])
noncomputable def H0 {R : Type} (N : Nat) : KD R → Option R := lid "" (q5m N)
theorem q80 {R : Type} (N : Nat)  (k : KD R) : H0 N  k = q5m N  k := by unfold H0; rw [Z8]
theorem z4p {R : Type} (N : Nat)  (K : V → List (Key × O) → Option R) : exF (X0 gl0) ((q81 N).ov R) H9 noX (fun f => bif Nat.beq f 16 then z5X else []) N 400 8 16 [] A0 K =
  H0 N  (fun d1 m1 => K (V.d (Ty.slice 16 Ty.str) (dk d1 0)) []) := by
 rw [q80]
 exact (show _ = jn (fun d1 m1 => (K (V.d (Ty.slice 16 Ty.str) (dk d1 0)) [])) (q5m N ) by kernel_rfl).trans (o5 _ _)
noncomputable def q4c (N : Nat) {R : Type} : OvG R := fun xs _ K => match xs with
 | [] => H0 N  (fun d1 m1 => K (V.d (Ty.slice 16 Ty.str) (dk d1 0)) [])
 | _ => none
theorem q82 (N : Nat) {R : Type} : GOk (X0 gl0) 16 (q4c N (R := R)) := by
 intro xs A Kr r hr
 unfold q4c at hr
 split at hr
 ·skip
  rw [← z4p] at hr
  exact okA (q81 N) hr
 ·cases hr
noncomputable def z7L : Hints := [([1, 0, 3, 1, 4, 1, 0, 1], ⟨[3], [(6, .d .bool)], [], [], [], []⟩),
  ([1, 0, 3, 1, 3, 1, 4, 1, 0, 1], ⟨[], [(9, .d .bool)], [], [], [], []⟩),
  ([9], ⟨[], [(2, .d (.int .i64))], [], [], [], []⟩)]
noncomputable def z0k (N : Nat) : OvS (X0 gl0) where
 g R := []
 ok := fun R => fun _ h => nomatch h
noncomputable def q2p {R : Type} (N : Nat) (a0 : C) (k1 : KD R) : Option R := (bif decide (C.toInt a0 = 1) then (k1 [C.int 8] []) else (jn (fun d1 m1 => (bif C.toBool (dk d1 1) then (k1 [C.int 1] []) else (jn (fun d2 m2 => (bif C.toBool (dk d2 0) then (k1 [C.int 2] []) else (k1 [C.int 0] []))) (fun k2 => (bif decide (C.toInt (dk d1 0) = 11) then (k2 [z9z (C.bool (decide (C.toInt (dk d1 0) = 11))) true] []) else (k2 [C.bool (decide (C.toInt (dk d1 0) = 12))] [])))))) (fun k2 => (bif decide (C.toInt a0 = 2) then (k2 [a0, z9z (C.bool (decide (C.toInt a0 = 2))) true] []) else (k2 [a0, C.bool (decide (C.toInt a0 = 16))] [])))))
noncomputable def j6 {R : Type} (N : Nat) : C → KD R → Option R := lid "" (q2p N)
theorem q6I {R : Type} (N : Nat) (a0 : C) (k : KD R) : j6 N a0 k = q2p N a0 k := by unfold j6; rw [Z8]
theorem z5Y {R : Type} (N : Nat) (a0 : C) (K : V → List (Key × O) → Option R) : exF (X0 gl0) ((z0k N).ov R) H9 noX (fun f => bif Nat.beq f 17 then z7L else []) N 400 8 17 [.d (.int .i64) a0] A0 K =
  j6 N a0 (fun d1 m1 => K (V.d (Ty.int IntKind.i64) (dk d1 0)) []) := by
 rw [q6I]
 exact (show _ = jn (fun d1 m1 => (K (V.d (Ty.int IntKind.i64) (dk d1 0)) [])) (q2p N a0) by kernel_rfl).trans (o5 _ _)
noncomputable def q25 (N : Nat) {R : Type} : OvG R := fun xs _ K => match xs with
 | [.d t0 a0] => if t0 = (.int .i64) then j6 N a0 (fun d1 m1 => K (V.d (Ty.int IntKind.i64) (dk d1 0)) []) else none
 | _ => none
theorem q6J (N : Nat) {R : Type} : GOk (X0 gl0) 17 (q25 N (R := R)) := by
 intro xs A Kr r hr
 unfold q25 at hr
 split at hr
 ·simp only [Option.ite_none_right_eq_some] at hr
  obtain ⟨hty, hr⟩ := hr
  subst hty
  rw [← z5Y] at hr
  exact okA (z0k N) hr
 ·cases hr
noncomputable def z8P : Hints := [([1, 0, 1, 1], ⟨[0, 7], [], [], [], [], []⟩),
  ([4, 1, 0, 1, 1], ⟨[0, 7], [(1, .d (.int .u64)), (8, .d (.int .i64))], [], [], [], []⟩),
  ([9], ⟨[], [(6, .sl 1 (.int .u8) 5006)], [], [], [], []⟩)]
noncomputable def z1a (N : Nat) : OvS (X0 gl0) where
 g R := []
 ok := fun R => fun _ h => nomatch h
noncomputable def q27 {R : Type} (N : Nat) (a2 : C) (k2 : KD R) : KD R → List C → List Es → Option R := (fun k3 d1 m1 => (bif decide (0 ≤ C.toInt (dk d1 5)) then (if 0 ≤ C.toInt (dk d1 5) ∧ C.toInt (dk d1 5) < (↑(Int.toNat (C.toInt (dk d1 2))) : Int) then (if Ty.arr (Int.toNat (C.toInt a2)) (Ty.int IntKind.u8) = Ty.arr (Int.toNat (C.toInt a2)) (Ty.int IntKind.u8) then (k3 [dk d1 0, C.int (↑(Int.toNat (C.toInt (dk d1 1))) : Int), C.int (↑(Int.toNat (C.toInt (dk d1 2))) : Int), C.int (↑(Int.toNat (C.toInt (dk d1 3))) : Int), C.int (IntKind.wrap IntKind.u64 (Int.tdiv (C.toInt (dk d1 4)) 256)), C.int (IntKind.wrap IntKind.i64 (C.toInt (dk d1 5) - 1)), C.set (dk d1 6) (Int.toNat (C.toInt (dk d1 1)) + Int.toNat (C.toInt (dk d1 5))) (C.int (IntKind.wrap IntKind.u8 (Int.tmod (C.toInt (dk d1 4)) 256)))] []) else none) else none) else (if Ty.arr (Int.toNat (C.toInt a2)) (Ty.int IntKind.u8) = Ty.arr (Int.toNat (C.toInt a2)) (Ty.int IntKind.u8) then (k2 [dk d1 0, C.int (↑(Int.toNat (C.toInt (dk d1 1))) : Int), C.int (↑(Int.toNat (C.toInt (dk d1 2))) : Int), C.int (↑(Int.toNat (C.toInt (dk d1 3))) : Int), dk d1 6] []) else none)))
noncomputable def q26 {R : Type} (N : Nat) (a0 a1 a2 : C) (k1 : KD R) : Option R := (if 0 ≤ C.toInt a2 ∧ C.toInt a2 ≤ C.toInt a2 ∧ C.toInt a2 ≤ 9223372036854775807 ∧ Int.toNat (C.toInt a2) * 1 ≤ 140737488355328 then (jn (fun d1 m1 => (bif Nat.beq (List.length (C.elems (dk d1 0))) (List.length (C.elems (dk d1 0))) then (if (List.length (C.elems (dk d1 0)) + List.length (List.take (Int.toNat (C.toInt (dk d1 2))) (List.drop (Int.toNat (C.toInt (dk d1 1))) (C.elems (dk d1 4))))) * 1 ≤ 140737488355328 ∧ List.length (C.elems (dk d1 0)) + List.length (List.take (Int.toNat (C.toInt (dk d1 2))) (List.drop (Int.toNat (C.toInt (dk d1 1))) (C.elems (dk d1 4)))) ≤ 9223372036854775807 then (bif Nat.beq (List.length (C.elems (dk d1 0)) + List.length (List.take (Int.toNat (C.toInt (dk d1 2))) (List.drop (Int.toNat (C.toInt (dk d1 1))) (C.elems (dk d1 4))))) (List.length (C.elems (dk d1 0) ++ List.take (Int.toNat (C.toInt (dk d1 2))) (List.drop (Int.toNat (C.toInt (dk d1 1))) (C.elems (dk d1 4))))) then (k1 [C.slice (C.elems (dk d1 0) ++ List.take (Int.toNat (C.toInt (dk d1 2))) (List.drop (Int.toNat (C.toInt (dk d1 1))) (C.elems (dk d1 4))))] []) else none) else none) else none)) (fun k2 => (if Ty.arr (Int.toNat (C.toInt a2)) (Ty.int IntKind.u8) = Ty.arr (Int.toNat (C.toInt a2)) (Ty.int IntKind.u8) then (b6 N (q27 N a2 k2) [a0, C.int 0, C.int (↑(Int.toNat (C.toInt a2)) : Int), C.int (↑(Int.toNat (C.toInt a2)) : Int), a1, C.int (IntKind.wrap IntKind.i64 (C.toInt a2 - 1)), C.agg (List.replicate (Int.toNat (C.toInt a2)) (Y6 (Ty.int IntKind.u8)))] []) else none))) else none)
noncomputable def q1D {R : Type} (N : Nat) : C → C → C → KD R → Option R := lid "" (q26 N)
theorem z09 {R : Type} (N : Nat) (a0 a1 a2 : C) (k : KD R) : q1D N a0 a1 a2 k = q26 N a0 a1 a2 k := by unfold q1D; rw [Z8]
theorem z7M {R : Type} (N : Nat) (a0 a1 a2 : C) (K : V → List (Key × O) → Option R) : exF (X0 gl0) ((z1a N).ov R) H9 noX (fun f => bif Nat.beq f 31 then z8P else []) N 400 8 31 [.d (.slice 1 (.int .u8)) a0, .d (.int .u64) a1, .d (.int .i64) a2] A0 K =
  q1D N a0 a1 a2 (fun d1 m1 => K (V.ts 1 (Ty.int IntKind.u8) (C.elems (dk d1 0))) []) := by
 rw [z09]
 exact (show _ = jn (fun d1 m1 => (bif Nat.beq (List.length (C.elems (dk d1 0))) (List.length (C.elems (dk d1 0))) then
  (K (V.ts 1 (Ty.int IntKind.u8) (C.elems (dk d1 0))) [])
 else
  none)) (q26 N a0 a1 a2) by kernel_rfl).trans ((o5 _ _).trans (congrArg (q26 N a0 a1 a2) (funext fun _ => funext fun _ => by simp only [Nat.beq_refl, cond_true])))
noncomputable def q8s (N : Nat) {R : Type} : OvG R := fun xs _ K => match xs with
 | [.d t0 a0, .d t1 a1, .d t2 a2] => if t0 = (.slice 1 (.int .u8)) ∧ t1 = (.int .u64) ∧ t2 = (.int .i64) then q1D N a0 a1 a2 (fun d1 m1 => K (V.ts 1 (Ty.int IntKind.u8) (C.elems (dk d1 0))) []) else none
 | _ => none
theorem z8O (N : Nat) {R : Type} : GOk (X0 gl0) 31 (q8s N (R := R)) := by
 intro xs A Kr r hr
 unfold q8s at hr
 split at hr
 ·simp only [Option.ite_none_right_eq_some] at hr
  obtain ⟨hty, hr⟩ := hr
  obtain ⟨rfl, rfl, rfl⟩ := hty
  rw [← z7M] at hr
  exact okA (z1a N) hr
 ·cases hr
noncomputable def z7I : Hints := [([1, 0, 1, 1], ⟨[0], [(4, .d (.int .i64))], [], [], [], []⟩),
  ([4, 1, 0, 1, 1], ⟨[0], [(4, .d (.int .i64)), (5, .d (.int .i64))], [], [], [], []⟩),
  ([1, 4, 0, 1, 5, 4, 1, 0, 1, 1], ⟨[0, 5], [(4, .d (.int .i64))], [], [], [], []⟩),
  ([1, 0, 1, 1, 1], ⟨[], [], [], [], [], []⟩),
  ([4, 1, 0, 1, 1, 1], ⟨[0, 4], [(6, .d (.int .i64))], [], [], [], []⟩),
  ([1, 0, 1, 1, 1, 1, 1, 4, 0, 1, 5, 4, 1, 0, 1, 1, 1], ⟨[6, 9], [(7, .d (.int .u64)), (8, .d .bool)], [], [], [], []⟩),
  ([4, 1, 0, 1, 1, 1, 1, 1, 4, 0, 1, 5, 4, 1, 0, 1, 1, 1], ⟨[6, 9], [(7, .d (.int .u64)), (8, .d .bool), (10, .d (.int .i64))], [], [], [], []⟩),
  ([0, 0, 1, 4, 0, 1, 5, 4, 1, 0, 1, 1, 1, 1, 1, 4, 0, 1, 5, 4, 1, 0, 1, 1, 1], ⟨[6, 7, 8, 9, 10, 11], [(84, .d .bool)], [], [], [], []⟩),
  ([0, 0, 1, 1, 1, 1, 1, 1, 4, 0, 1, 5, 4, 1, 0, 1, 1, 1], ⟨[6, 7], [(118, .d .bool)], [], [], [], []⟩),
  ([9], ⟨[], [(2, .d (.slice 1 (.int .u8))), (3, .d (.int .i64))], [], [], [], []⟩)]
noncomputable def z0h (N : Nat) : OvS (X0 gl0) where
 g R := [(16, q4c N), (17, q25 N), (18, q2U N), (31, q8s N)]
 ok := fun R => List.forall_mem_cons.2 ⟨q82 N, List.forall_mem_cons.2 ⟨q6J N, List.forall_mem_cons.2 ⟨q7v N, List.forall_mem_cons.2 ⟨z8O N, fun _ h => nomatch h⟩⟩⟩⟩
noncomputable def q2o {R : Type} (N : Nat) (k4 : KD R) : KD R → List C → List Es → Option R := (fun k5 d5 m5 => (bif decide (C.toInt (dk d5 4) < (↑(List.length (C.toStr (dk d5 1))) : Int)) then (if 0 ≤ C.toInt (dk d5 4) ∧ C.toInt (dk d5 4) < (↑(List.length (C.toStr (dk d5 1))) : Int) then (jn (fun d6 m6 => (bif C.toBool (dk d6 6) then (k4 [dk d6 0, dk d6 3, dk d6 1, C.bool true] []) else (k5 [dk d6 0, dk d6 3, C.int (IntKind.wrap IntKind.u64 (IntKind.wrap IntKind.u64 (C.toInt (dk d6 1) * 10) + C.toInt (dk d6 5))), C.bool (C.toBool (dk d6 2)), C.int (IntKind.wrap IntKind.i64 (C.toInt (dk d6 4) + 1))] []))) (fun k6 => (if 0 ≤ C.toInt (dk d5 4) ∧ C.toInt (dk d5 4) < (↑(List.length (C.toStr (dk d5 1))) : Int) then (bif decide ((↑(UInt8.toNat (List.getD (C.toStr (dk d5 1)) (Int.toNat (C.toInt (dk d5 4))) (UInt8.ofNat 0))) : Int) < 48) then (k6 [dk d5 0, dk d5 2, C.bool (C.toBool (dk d5 3)), dk d5 1, dk d5 4, C.int (IntKind.wrap IntKind.u64 (IntKind.wrap IntKind.u64 (↑(UInt8.toNat (List.getD (C.toStr (dk d5 1)) (Int.toNat (C.toInt (dk d5 4))) (UInt8.ofNat 0))) : Int) - 48)), C.bool true] []) else (if 0 ≤ C.toInt (dk d5 4) ∧ C.toInt (dk d5 4) < (↑(List.length (C.toStr (dk d5 1))) : Int) then (bif decide (57 < (↑(UInt8.toNat (List.getD (C.toStr (dk d5 1)) (Int.toNat (C.toInt (dk d5 4))) (UInt8.ofNat 0))) : Int)) then (k6 [dk d5 0, dk d5 2, C.bool (C.toBool (dk d5 3)), dk d5 1, dk d5 4, C.int (IntKind.wrap IntKind.u64 (IntKind.wrap IntKind.u64 (↑(UInt8.toNat (List.getD (C.toStr (dk d5 1)) (Int.toNat (C.toInt (dk d5 4))) (UInt8.ofNat 0))) : Int) - 48)), C.bool true] []) else (k6 [dk d5 0, dk d5 2, C.bool (C.toBool (dk d5 3)), dk d5 1, dk d5 4, C.int (IntKind.wrap IntKind.u64 (IntKind.wrap IntKind.u64 (↑(UInt8.toNat (List.getD (C.toStr (dk d5 1)) (Int.toNat (C.toInt (dk d5 4))) (UInt8.ofNat 0))) : Int) - 48)), C.bool (decide (IntKind.wrap IntKind.u64 (Int.tdiv (IntKind.wrap IntKind.u64 (18446744073709551615 - IntKind.wrap IntKind.u64 (IntKind.wrap IntKind.u64 (↑(UInt8.toNat (List.getD (C.toStr (dk d5 1)) (Int.toNat (C.toInt (dk d5 4))) (UInt8.ofNat 0))) : Int) - 48))) 10) < C.toInt (dk d5 2)))] [])) else none)) else none))) else none) else (k4 [dk d5 0, dk d5 1, dk d5 2, C.bool (C.toBool (dk d5 3))] [])))
noncomputable def q1p {R : Type} (N : Nat) (k1 : KD R) (k2 : KD R) : KD R → List C → List Es → Option R := (fun k3 d2 m2 => (bif decide (C.toInt (dk d2 2) < 18) then (H0 N (fun d3 m3 => (if 0 ≤ C.toInt (dk d2 2) ∧ C.toInt (dk d2 2) < (↑(List.length (C.elems (dk d3 0))) : Int) then (if Int.ofNat 0 ≤ 0 ∧ 0 ≤ C.toInt (dk d2 1) ∧ C.toInt (dk d2 1) ≤ (↑(List.length (C.toStr (dk d2 0))) : Int) then (bif !C.toStr (List.getD (C.elems (dk d3 0)) (Int.toNat (C.toInt (dk d2 2))) C.nil) == List.drop 0 (List.take (Int.toNat (C.toInt (dk d2 1))) (C.toStr (dk d2 0))) then (k3 [dk d2 0, dk d2 1, C.int (IntKind.wrap IntKind.i64 (C.toInt (dk d2 2) + 1))] []) else (j6 N (dk d2 2) (fun d4 m4 => (bif !decide (C.toInt (dk d2 1) < (↑(List.length (C.toStr (dk d2 0))) : Int)) == decide (0 < C.toInt (dk d4 0)) then (k1 [C.slice [], C.int 10] []) else (bif decide (C.toInt (dk d2 1) = (↑(List.length (C.toStr (dk d2 0))) : Int)) then (k1 [C.slice [C.int (IntKind.wrap IntKind.u8 (C.toInt (dk d2 2)))], C.int 0] []) else (if 0 ≤ IntKind.wrap IntKind.i64 (C.toInt (dk d2 1) + 1) ∧ IntKind.wrap IntKind.i64 (C.toInt (dk d2 1) + 1) ≤ (↑(List.length (C.toStr (dk d2 0))) : Int) ∧ (↑(List.length (C.toStr (dk d2 0))) : Int) ≤ (↑(List.length (C.toStr (dk d2 0))) : Int) then (jn (fun d5 m5 => (jn (fun d6 m6 => (bif C.toBool (dk d6 2) then (k1 [C.slice [], C.int 10] []) else (j6 N (dk d6 0) (fun d7 m7 => (q1D N (C.slice [C.int (IntKind.wrap IntKind.u8 (C.toInt (dk d6 0)))]) (dk d6 1) (dk d7 0) (fun d8 m8 => (k1 [C.slice (C.elems (dk d8 0)), C.int 0] []))))))) (fun k4 => (bif C.toBool (dk d5 3) then (k4 [dk d5 0, dk d5 2, C.bool true] []) else (bif decide ((↑(List.length (C.toStr (dk d5 1))) : Int) = 0) then (k4 [dk d5 0, dk d5 2, C.bool true] []) else (X6 N (dk d5 2) (fun d6 m6 => (bif !C.toStr (dk d6 0) == C.toStr (dk d5 1) then (k4 [dk d5 0, dk d5 2, C.bool true] []) else (j6 N (dk d5 0) (fun d7 m7 => (bif decide (C.toInt (dk d7 0) = 1) then (bif decide (255 < C.toInt (dk d5 2)) then (k4 [dk d5 0, dk d5 2, C.bool true] []) else (j6 N (dk d5 0) (fun d8 m8 => (bif decide (C.toInt (dk d8 0) = 2) then (k4 [dk d5 0, dk d5 2, C.bool (decide (65535 < C.toInt (dk d5 2)))] []) else (k4 [dk d5 0, dk d5 2, C.bool false] []))))) else (j6 N (dk d5 0) (fun d8 m8 => (bif decide (C.toInt (dk d8 0) = 2) then (k4 [dk d5 0, dk d5 2, C.bool (decide (65535 < C.toInt (dk d5 2)))] []) else (k4 [dk d5 0, dk d5 2, C.bool false] []))))))))))))))) (fun k4 => (b6 N (q2o N k4) [dk d2 2, C.str (List.drop (Int.toNat (IntKind.wrap IntKind.i64 (C.toInt (dk d2 1) + 1))) (List.take (Int.toNat (↑(List.length (C.toStr (dk d2 0))) : Int)) (C.toStr (dk d2 0)))), C.int 0, C.bool false, C.int 0] []))) else none)))))) else none) else none))) else (k2 [] [])))
noncomputable def q2n {R : Type} (N : Nat) (k2 : KD R) : KD R → List C → List Es → Option R := (fun k3 d1 m1 => (bif decide (0 ≤ C.toInt (dk d1 2)) then (if 0 ≤ C.toInt (dk d1 2) ∧ C.toInt (dk d1 2) < (↑(List.length (C.toStr (dk d1 0))) : Int) then (jn (fun d2 m2 => (k3 [dk d2 0, dk d2 2, C.int (IntKind.wrap IntKind.i64 (C.toInt (dk d2 1) - 1))] [])) (fun k4 => (bif decide ((↑(UInt8.toNat (List.getD (C.toStr (dk d1 0)) (Int.toNat (C.toInt (dk d1 2))) (UInt8.ofNat 0))) : Int) = 32) then (k4 [dk d1 0, dk d1 2, dk d1 2] []) else (k4 [dk d1 0, dk d1 2, dk d1 1] [])))) else none) else (k2 [dk d1 0, dk d1 1] [])))
noncomputable def q4a {R : Type} (N : Nat) (a0 : C) (k1 : KD R) : Option R := (jn (fun d1 m1 => (jn (fun d2 m2 => (k1 [C.slice [], C.int 40] [])) (fun k2 => (b6 N (q1p N k1 k2) [dk d1 0, dk d1 1, C.int 0] [])))) (fun k2 => (b6 N (q2n N k2) [a0, C.int (↑(List.length (C.toStr a0)) : Int), C.int (IntKind.wrap IntKind.i64 ((↑(List.length (C.toStr a0)) : Int) - 1))] [])))
noncomputable def q0o {R : Type} (N : Nat) : C → KD R → Option R := lid "" (q4a N)
theorem z0g {R : Type} (N : Nat) (a0 : C) (k : KD R) : q0o N a0 k = q4a N a0 k := by unfold q0o; rw [Z8]
theorem z5R {R : Type} (N : Nat) (a0 : C) (K : V → List (Key × O) → Option R) : exF (X0 gl0) ((z0h N).ov R) H9 (fun f r => bif Nat.beq f 21 then (bif Nat.beq r 10 then [(30, 7)] else []) else []) (fun f => bif Nat.beq f 21 then z7I else []) N 400 8 21 [.d .str a0] A0 K =
  q0o N a0 (fun d1 m1 => K (V.tup [V.d (Ty.slice 1 (Ty.int IntKind.u8)) (dk d1 0), V.d (Ty.int IntKind.i64) (dk d1 1)]) []) := by
 rw [z0g]
 exact (show _ = jn (fun d1 m1 => (K (V.tup [V.d (Ty.slice 1 (Ty.int IntKind.u8)) (dk d1 0), V.d (Ty.int IntKind.i64) (dk d1 1)]) [])) (q4a N a0) by kernel_rfl).trans (o5 _ _)
noncomputable def q7r (N : Nat) {R : Type} : OvG R := fun xs _ K => match xs with
 | [.d t0 a0] => if t0 = .str then q0o N a0 (fun d1 m1 => K (V.tup [V.d (Ty.slice 1 (Ty.int IntKind.u8)) (dk d1 0), V.d (Ty.int IntKind.i64) (dk d1 1)]) []) else none
 | _ => none
theorem z7H (N : Nat) {R : Type} : GOk (X0 gl0) 21 (q7r N (R := R)) := by
 intro xs A Kr r hr
 unfold q7r at hr
 split at hr
 ·simp only [Option.ite_none_right_eq_some] at hr
  obtain ⟨hty, hr⟩ := hr
  subst hty
  rw [← z5R] at hr
  exact okA (z0h N) hr
 ·cases hr
end Go.Proofs.YtdoajkacibicoaaDoor
namespace Go.Proofs.YtdoajkacibicoaaDoor
open Go Go.E
set_option maxRecDepth 100000
set_option maxHeartbeats 4000000
set_option linter.unusedSimpArgs false
variable {R : Type} {N : Nat}
def c7 : List UInt8 → Nat
 | [] => 0
 | c :: s => if c = UInt8.ofNat 32 then 0 else c7 s + 1
theorem z2F : ∀ s, c7 s ≤ s.length
 | [] => Nat.le_refl _
 | c :: s => by
  have := z2F s
  unfold c7
  split
  ·omega
  ·simp only [List.length_cons]; omega
theorem z5q : ∀ s, Lib.indexByte s (UInt8.ofNat 32) = if c7 s < s.length then (c7 s : Int) else -1
 | [] => rfl
 | c :: s => by
  have ih := z5q s
  have hle := z2F s
  unfold Lib.indexByte c7
  by_cases e : c = UInt8.ofNat 32
  ·rw [if_pos e, if_pos (by rw [e]; simp), if_pos (by simp)]; rfl
  ·have hb : (c == UInt8.ofNat 32) = false := by rw [beq_eq_false_iff_ne]; exact e
   rw [if_neg e, hb, if_neg (by decide), ih]
   simp only [List.length_cons]
   by_cases h : c7 s < s.length
   ·rw [if_pos h, if_pos (show c7 s + 1 < s.length + 1 by omega)]
    have h1 : ((c7 s : Int) == -1) = false := by rw [beq_eq_false_iff_ne]; omega
    rw [h1]; simp
   ·rw [if_neg h, if_neg (show ¬ c7 s + 1 < s.length + 1 by omega)]; rfl
theorem y8K (s : List UInt8) (hl : s.length ≤ 140737488355328) (k : KD R) :
  q1n N (.str s) (.str [UInt8.ofNat 32]) k = if c7 s < s.length then k [.str (s.take (c7 s)), .str (s.drop (c7 s + 1)), .bool true] [] else k [.str s, .str [], .bool false] [] := by
 rw [q8O]
 unfold q3y
 rw [q13]
 unfold J5
 have hx : q6N s [UInt8.ofNat 32] = if c7 s < s.length then (c7 s : Int) else -1 := z5q s
 have e1 : ([UInt8.ofNat 32] : List UInt8).length = 1 := rfl
 simp only [J0, e1, hx, if_true]
 by_cases h : c7 s < s.length
 ·have h1 : (c7 s : Int) ≤ (s.length : Int) := by omega
  have hw : IntKind.i64.wrap ((c7 s : Int) + 1) = ((c7 s + 1 : Nat) : Int) := q0Y (by omega)
  have h2 : ((c7 s + 1 : Nat) : Int) ≤ (s.length : Int) := by omega
  have hz : (Int.ofNat 0 : Int) ≤ 0 := by decide
  simp only [h, if_true, h1, h2, hw, hz, Int.natCast_nonneg, decide_true, cond_true, Int.le_refl, and_self, Int.toNat_natCast, List.drop_zero, List.take_length, go_sem, Z4]
 ·have h1 : ¬ (0 : Int) ≤ -1 := by decide
  simp only [h, if_false, h1, decide_false, cond_false, go_sem, Z4]
theorem y4L (c : UInt8) : ((c.toNat : Int) = 32) ↔ c = UInt8.ofNat 32 := by
 constructor
 ·intro h; exact UInt8.toNat_inj.1 (by show c.toNat = 32; omega)
 ·rintro rfl; rfl
theorem y68 (s : List UInt8) (hl : s.length ≤ 65536) (hN : 140737488355329 < N) (k : KD R) :
  b6 N (q2n N k) [.str s, .int (s.length : Int), .int (IntKind.wrap IntKind.i64 ((s.length : Int) - 1))] [] = k [.str s, .int (c7 s : Int)] [] := by
 have key := q8x (N := N) (F := q2n N k) (fun j => [.str s, .int ((s.length - j + c7 (s.drop (s.length - j)) : Nat) : Int), .int ((s.length : Int) - 1 - (j : Int))]) (fun _ => []) s.length (k [.str s, .int (c7 s : Int)] []) ?_ ?_ (by omega)
 ·have e0 : IntKind.wrap IntKind.i64 ((s.length : Int) - 1) = (s.length : Int) - 1 - ((0 : Nat) : Int) := by rw [IntWalk.i64_in _ (by omega)]; simp
  have e1 : ((s.length - 0 + c7 (s.drop (s.length - 0)) : Nat) : Int) = (s.length : Int) := by simp [c7]
  rw [e0]
  rw [e1] at key
  exact key
 ·intro j hj rec
  obtain ⟨i, hi⟩ : ∃ i : Nat, s.length = j + 1 + i := ⟨s.length - j - 1, by omega⟩
  have hil : i < s.length := by omega
  have e1 : (s.length : Int) - 1 - (j : Int) = (i : Int) := by omega
  have e2 : s.length - j = i + 1 := by omega
  have e3 : s.length - (j + 1) = i := by omega
  have e4 : (s.length : Int) - 1 - ((j + 1 : Nat) : Int) = (i : Int) - 1 := by omega
  have e5 : IntKind.wrap IntKind.i64 ((i : Int) - 1) = (i : Int) - 1 := by rw [IntWalk.i64_in _ (by omega)]
  have hc : s.getD i (UInt8.ofNat 0) = s[i] := by rw [List.getD_eq_getElem?_getD, List.getElem?_eq_getElem hil]; rfl
  have hd : s.drop i = s[i] :: s.drop (i + 1) := List.drop_eq_getElem_cons hil
  have h1 : (i : Int) < (s.length : Int) := by omega
  rw [e1, e2, e3, e4, hd]
  unfold q2n
  simp only [o5, go_sem, u2, J0, Z4, h1, Int.natCast_nonneg, decide_true, cond_true, and_self, if_true, Int.toNat_natCast, hc, e5]
  by_cases e : s[i] = UInt8.ofNat 32
  ·have e' := (y4L s[i]).2 e
   have ec : c7 (s[i] :: s.drop (i + 1)) = 0 := by unfold c7; rw [if_pos e]
   simp only [e', decide_true, cond_true, if_true, ec, Nat.add_zero]
  ·have e' : ¬ ((s[i].toNat : Int) = 32) := fun h => e ((y4L s[i]).1 h)
   have ec : c7 (s[i] :: s.drop (i + 1)) = c7 (s.drop (i + 1)) + 1 := by rw [c7, if_neg e]
   simp only [e', decide_false, cond_false, if_false, ec]
   rw [show i + 1 + c7 (s.drop (i + 1)) = i + (c7 (s.drop (i + 1)) + 1) by omega]
 ·intro rec
  have e1 : (s.length : Int) - 1 - (s.length : Int) = -1 := by omega
  have h1 : ¬ (0 : Int) ≤ -1 := by decide
  rw [e1]
  unfold q2n
  simp only [go_sem, u2, J0, Z4, h1, decide_false, cond_false, Nat.sub_self, List.drop_zero, Nat.zero_add]
end Go.Proofs.YtdoajkacibicoaaDoor
namespace Go.Proofs.YtdoajkacibicoaaDoor
open Go Go.E
set_option maxRecDepth 100000
set_option maxHeartbeats 4000000
set_option linter.unusedVariables false
def q4j : List Sh := [.ts 1 (.int .u8), .d (.int .u64), .d (.int .i64)]
def q7A : List (Key × OSh) := []
noncomputable def z3y : Hints := [([1, 0, 1], ⟨[], [(0, .sl 1 (.int .u8) 5000)], [], [], [], []⟩),
  ([4, 1, 0, 1], ⟨[1], [(0, .sl 1 (.int .u8) 5000), (7, .d (.int .i64))], [], [], [], []⟩),
  ([9], ⟨[], [(6, .sl 1 (.int .u8) 5006)], [], [], [], []⟩)]
noncomputable def q7z (N : Nat) : OvS (X0 gl0) where
 g R := []
 ok := fun R => fun _ h => nomatch h
noncomputable def q07 {R : Type} (N : Nat) (k2 : KD R) : KD R → List C → List Es → Option R := (fun k3 d1 m1 => (bif decide (0 ≤ C.toInt (dk d1 2)) then (if 0 ≤ IntKind.wrap IntKind.i64 (8 * C.toInt (dk d1 2)) then (bif Nat.beq (List.length (C.elems (dk d1 1))) (List.length (C.elems (dk d1 1))) then (if (List.length (C.elems (dk d1 1)) + 1) * 1 ≤ 140737488355328 ∧ List.length (C.elems (dk d1 1)) + 1 ≤ 9223372036854775807 then (bif Nat.beq (List.length (C.elems (dk d1 1)) + 1) (List.length (C.elems (dk d1 1) ++ [C.int (IntKind.wrap IntKind.u8 (Int.fdiv (C.toInt (dk d1 0)) (2 ^ min (Int.toNat (IntKind.wrap IntKind.i64 (8 * C.toInt (dk d1 2)))) 64)))])) then (k3 [dk d1 0, C.slice (C.elems (dk d1 1) ++ [C.int (IntKind.wrap IntKind.u8 (Int.fdiv (C.toInt (dk d1 0)) (2 ^ min (Int.toNat (IntKind.wrap IntKind.i64 (8 * C.toInt (dk d1 2)))) 64)))]), C.int (IntKind.wrap IntKind.i64 (C.toInt (dk d1 2) - 1))] []) else none) else none) else none) else none) else (bif Nat.beq (List.length (C.elems (dk d1 1))) (List.length (C.elems (dk d1 1))) then (k2 [C.slice (C.elems (dk d1 1))] []) else none)))
noncomputable def q06 {R : Type} (N : Nat) (a0 a1 a2 : C) (k1 : KD R) : Option R := (jn (fun d1 m1 => (bif Nat.beq (List.length (C.elems (dk d1 0))) (List.length (C.elems (dk d1 0))) then (k1 [C.slice (C.elems (dk d1 0))] []) else none)) (fun k2 => (bif Nat.beq (List.length (C.elems a0)) (List.length (C.elems a0)) then (b6 N (q07 N k2) [a1, C.slice (C.elems a0), C.int (IntKind.wrap IntKind.i64 (C.toInt a2 - 1))] []) else none)))
noncomputable def q0y {R : Type} (N : Nat) : C → C → C → KD R → Option R := lid "" (q06 N)
theorem q7y {R : Type} (N : Nat) (a0 a1 a2 : C) (k : KD R) : q0y N a0 a1 a2 k = q06 N a0 a1 a2 k := by unfold q0y; rw [Z8]
theorem z2L {R : Type} (N : Nat) (a0 a1 a2 : C) (K : V → List (Key × O) → Option R) : exF (X0 gl0) ((q7z N).ov R) H9 noX (fun f => bif Nat.beq f 46 then z3y else []) N 400 8 46 (Sh.U0 q4j 0 [a0, a1, a2]) (z7 (u6 q7A (Sh.q0T q4j) 0 [a0, a1, a2] [])) K =
  q0y N a0 a1 a2 (fun d1 m1 => K (V.ts 1 (Ty.int IntKind.u8) (C.elems (dk d1 0))) []) := by
 rw [q7y]
 exact (show _ = jn (fun d1 m1 => (bif Nat.beq (List.length (C.elems (dk d1 0))) (List.length (C.elems (dk d1 0))) then
  (K (V.ts 1 (Ty.int IntKind.u8) (C.elems (dk d1 0))) [])
 else
  none)) (q06 N a0 a1 a2) by kernel_rfl).trans ((o5 _ _).trans (congrArg (q06 N a0 a1 a2) (funext fun _ => funext fun _ => by simp only [Nat.beq_refl, cond_true])))
noncomputable def q4M (N : Nat) {R : Type} : OvG R := q9G q4j q7A fun ds ms K => q0y N (dk ds 0) (dk ds 1) (dk ds 2) (fun d1 m1 => K (V.ts 1 (Ty.int IntKind.u8) (C.elems (dk d1 0))) [])
theorem z3x (N : Nat) {R : Type} : GOk (X0 gl0) 46 (q4M N (R := R)) := by
 unfold q4M
 refine q5p fun ds ms K r hr => ?_
 rw [← z2L] at hr
 exact okB (q7z N) hr
def q3b : List Sh := [.ts 1 (.int .u8), .d (.slice 8 (.int .u64))]
def q6a : List (Key × OSh) := []
noncomputable def z1g : Hints := [([1, 0, 1], ⟨[], [(0, .sl 1 (.int .u8) 5000)], [], [], [], []⟩),
  ([4, 1, 0, 1], ⟨[7, 8], [(0, .sl 1 (.int .u8) 5000), (9, .d (.int .i64))], [], [], [], []⟩),
  ([9], ⟨[], [(4, .sl 1 (.int .u8) 5004)], [], [], [], []⟩)]
noncomputable def q59 (N : Nat) : OvS (X0 gl0) where
 g R := [(46, q4M N)]
 ok := fun R => List.forall_mem_cons.2 ⟨z3x N, fun _ h => nomatch h⟩
noncomputable def q1x {R : Type} (N : Nat) (k2 : KD R) : KD R → List C → List Es → Option R := (fun k3 d1 m1 => (bif decide (C.toInt (dk d1 3) < C.toInt (dk d1 1)) then (if 0 ≤ C.toInt (dk d1 3) ∧ C.toInt (dk d1 3) < (↑(List.length (C.elems (dk d1 0))) : Int) then (bif Nat.beq (List.length (C.elems (dk d1 2))) (List.length (C.elems (dk d1 2))) then (q0y N (C.slice (C.elems (dk d1 2))) (List.getD (C.elems (dk d1 0)) (Int.toNat (C.toInt (dk d1 3))) C.nil) (C.int 8) (fun d2 m2 => (bif Nat.beq (List.length (C.elems (dk d2 0))) (List.length (C.elems (dk d2 0))) then (k3 [dk d1 0, dk d1 1, C.slice (C.elems (dk d2 0)), C.int (IntKind.wrap IntKind.i64 (C.toInt (dk d1 3) + 1))] []) else none))) else none) else none) else (bif Nat.beq (List.length (C.elems (dk d1 2))) (List.length (C.elems (dk d1 2))) then (k2 [C.slice (C.elems (dk d1 2))] []) else none)))
noncomputable def q0p {R : Type} (N : Nat) (a0 a1 : C) (k1 : KD R) : Option R := (jn (fun d1 m1 => (bif Nat.beq (List.length (C.elems (dk d1 0))) (List.length (C.elems (dk d1 0))) then (k1 [C.slice (C.elems (dk d1 0))] []) else none)) (fun k2 => (bif Nat.beq (List.length (C.elems a0)) (List.length (C.elems a0)) then (b6 N (q1x N k2) [a1, C.int (↑(List.length (C.elems a1)) : Int), C.slice (C.elems a0), C.int 0] []) else none)))
noncomputable def F9 {R : Type} (N : Nat) : C → C → KD R → Option R := lid "" (q0p N)
theorem q58 {R : Type} (N : Nat) (a0 a1 : C) (k : KD R) : F9 N a0 a1 k = q0p N a0 a1 k := by unfold F9; rw [Z8]
theorem z0B {R : Type} (N : Nat) (a0 a1 : C) (K : V → List (Key × O) → Option R) : exF (X0 gl0) ((q59 N).ov R) H9 (fun f r => bif Nat.beq f 30 then (bif Nat.beq r 4 then [(15, 1)] else []) else []) (fun f => bif Nat.beq f 30 then z1g else []) N 400 8 30 (Sh.U0 q3b 0 [a0, a1]) (z7 (u6 q6a (Sh.q0T q3b) 0 [a0, a1] [])) K =
  F9 N a0 a1 (fun d1 m1 => K (V.ts 1 (Ty.int IntKind.u8) (C.elems (dk d1 0))) []) := by
 rw [q58]
 exact (show _ = jn (fun d1 m1 => (bif Nat.beq (List.length (C.elems (dk d1 0))) (List.length (C.elems (dk d1 0))) then
  (K (V.ts 1 (Ty.int IntKind.u8) (C.elems (dk d1 0))) [])
 else
  none)) (q0p N a0 a1) by kernel_rfl).trans ((o5 _ _).trans (congrArg (q0p N a0 a1) (funext fun _ => funext fun _ => by simp only [Nat.beq_refl, cond_true])))
noncomputable def q3P (N : Nat) {R : Type} : OvG R := q9G q3b q6a fun ds ms K => F9 N (dk ds 0) (dk ds 1) (fun d1 m1 => K (V.ts 1 (Ty.int IntKind.u8) (C.elems (dk d1 0))) [])
theorem z1f (N : Nat) {R : Type} : GOk (X0 gl0) 30 (q3P N (R := R)) := by
 unfold q3P
 refine q5p fun ds ms K r hr => ?_
 rw [← z0B] at hr
 exact okB (q59 N) hr
end Go.Proofs.YtdoajkacibicoaaDoor
namespace Go.Proofs.YtdoajkacibicoaaDoor
open Go Go.E
set_option maxRecDepth 100000
set_option maxHeartbeats 4000000
set_option linter.unusedSimpArgs false
variable {R : Type} {N : Nat}
def F3 : Nat → Int → List C
 | 0, _ => []
 | k + 1, n => F3 k (n / 256) ++ [.int (n % 256)]
theorem q2b : ∀ (k : Nat) (n : Int), (F3 k n).length = k
 | 0, _ => rfl
 | k + 1, n => by simp [F3, q2b k]
theorem z63 : ∀ (k : Nat) (n : Int), F3 (k + 1) n = .int (n / 256 ^ k % 256) :: F3 k n
 | 0, n => by simp [F3]
 | k + 1, n => by
  have e : n / 256 / 256 ^ k = n / 256 ^ (k + 1) := by
   rw [Int.ediv_ediv_of_nonneg (by omega), Int.pow_succ, Int.mul_comm]
  rw [F3, z63 k (n / 256), e]
  rfl
theorem z1d (k2 : KD R) (c : C) (hc : 0 ≤ c.toInt) : ∀ (m : Nat) (out : List C) (N' : Nat), m ≤ 8 → m < N' → out.length + m ≤ 1000000000000 →
  b6 N' (q07 N k2) [c, .slice out, .int ((m : Int) - 1)] [] = k2 [.slice (out ++ F3 m c.toInt)] []
 | 0, out, N', _, hN, _ => by
  obtain ⟨n, rfl⟩ : ∃ n, N' = n + 1 := ⟨N' - 1, by omega⟩
  rw [U7]
  unfold q07
  simp [go_sem, u2, p9, F3]
 | m + 1, out, N', hm, hN, hl => by
  obtain ⟨n, rfl⟩ : ∃ n, N' = n + 1 := ⟨N' - 1, by omega⟩
  have e0 : ((m + 1 : Nat) : Int) - 1 = m := by omega
  have e1 : IntKind.i64.wrap (8 * (m : Int)) = 8 * m := wrap_i64 (by omega) (by omega)
  have e2 : IntKind.i64.wrap ((m : Int) - 1) = m - 1 := wrap_i64 (by omega) (by omega)
  have e3 : min (8 * (m : Int)).toNat 64 = 8 * m := by omega
  have e4 : Int.fdiv c.toInt (2 ^ (8 * m)) = c.toInt / 256 ^ m := by
   rw [Int.fdiv_eq_ediv_of_nonneg _ (Int.pow_nonneg (by omega)), Int.pow_mul]; rfl
  have h1 : (0 : Int) ≤ 8 * m := by omega
  have h2 : (out.length + 1) * 1 ≤ 140737488355328 ∧ out.length + 1 ≤ 9223372036854775807 := by omega
  have hb : ∀ rec : KD R, q07 N k2 rec [c, .slice out, .int m] [] = rec [c, .slice (out ++ [.int (c.toInt / 256 ^ m % 256)]), .int ((m : Int) - 1)] [] := by
   intro rec
   unfold q07
   simp only [W6, q0V, q1W, u2, p9, e1, e2, e3, e4, wrap_u8, h1, h2, and_self, if_true, Int.natCast_nonneg, decide_true, cond_true, Nat.beq_refl, List.length_append, List.length_cons, List.length_nil, Nat.zero_add]
  rw [U7, e0, hb]
  rw [z1d k2 c hc m _ n (by omega) (by omega) (by simp; omega), z63]
  simp
theorem y2u (out : List C) (c : C) (hc : 0 ≤ c.toInt) (m : Nat) (hm : m ≤ 8) (hl : out.length + m ≤ 1000000000000) (hN : 100 < N) (k : KD R) :
  q0y N (.slice out) c (.int m) k = k [.slice (out ++ F3 m c.toInt)] [] := by
 rw [q7y]
 unfold q06
 simp only [o5, u2, p9, W6, Nat.beq_refl, cond_true]
 rw [wrap_i64 (by omega) (by omega), z1d _ c hc m out N hm (by omega) hl]
 rfl
def q4N (k : Nat) (l : List C) : List C := l.flatMap fun c => F3 k c.toInt
theorem y2A {k : Nat} {l : List C} {i : Nat} (h : i < l.length) : q4N k (l.take (i + 1)) = q4N k (l.take i) ++ F3 k (l.getD i .nil).toInt := by
 have : l.take (i + 1) = l.take i ++ [l.getD i .nil] := by
  rw [List.take_add_one, List.getElem?_eq_getElem h, List.getD_eq_getElem?_getD, List.getElem?_eq_getElem h]; rfl
 rw [this]; simp [q4N]
theorem z6Z (k : Nat) : ∀ l : List C, (q4N k l).length = k * l.length
 | [] => rfl
 | c :: l => by
  have := z6Z k l
  simp only [q4N, List.flatMap_cons, List.length_append, q2b, List.length_cons] at this ⊢
  rw [this, Nat.mul_succ]; omega
theorem z81 (out l : List C) (hc : ∀ c ∈ l, 0 ≤ c.toInt) (hl : out.length + 8 * l.length ≤ 1000000000000) (hN : l.length + 100 < N) (k : KD R) :
  F9 N (.slice out) (.slice l) k = k [.slice (out ++ q4N 8 l)] [] := by
 rw [q58]
 unfold q0p
 simp only [o5, u2, p9, W6, Nat.beq_refl, cond_true]
 have key := q8x (F := q1x N fun d1 m1 => k [.slice (dk d1 0).elems] []) (fun i => [.slice l, .int l.length, .slice (out ++ q4N 8 (l.take i)), .int i]) (fun _ => []) l.length (k [.slice (out ++ q4N 8 l)] []) ?_ ?_ (N := N) (by omega)
 ·simpa [q4N] using key
 ·intro i hi rec
  have h1 : (i : Int) < (l.length : Int) := by omega
  unfold q1x
  simp only [W6, q0V, q1W, q8D, u2, p9, h1, decide_true, cond_true, Int.natCast_nonneg, and_self, if_true, Nat.beq_refl, Int.toNat_natCast]
  rw [show C.int 8 = C.int ((8 : Nat) : Int) from rfl, y2u _ _ (hc _ (y5L hi)) 8 (by omega) (by simp [z6Z]; omega) (by omega)]
  simp only [W6, p9, Nat.beq_refl, cond_true, y2A hi, q0Y (show i < 4611686018427387904 by omega), List.append_assoc]
 ·intro rec
  unfold q1x
  simp only [W6, q0V, q1W, q8D, u2, p9, Int.lt_irrefl, decide_false, cond_false, Nat.beq_refl, cond_true, List.take_length]
theorem z6T (a0 : C) (S : Nat) (k2 : KD R) : ∀ (m : Nat) (c : C) (X : List C) (N' : Nat), m ≤ S → S ≤ 8 → m < N' → W64 c.toInt →
  b6 N' (q27 N (.int S) k2) [a0, .int 0, .int S, .int S, c, .int ((m : Int) - 1), .agg (List.replicate m (.int 0) ++ X)] [] = k2 [a0, .int 0, .int S, .int S, .agg (F3 m c.toInt ++ X)] []
 | 0, c, X, N', _, _, hN, _ => by
  obtain ⟨n', rfl⟩ : ∃ n, N' = n + 1 := ⟨N' - 1, by omega⟩
  rw [U7]
  unfold q27
  simp [go_sem, u2, p9, F3]
 | m + 1, c, X, N', hm, hS, hN, hn => by
  generalize hcn : c.toInt = n at hn ⊢
  obtain ⟨n', rfl⟩ : ∃ n, N' = n + 1 := ⟨N' - 1, by omega⟩
  have e0 : ((m + 1 : Nat) : Int) - 1 = m := by omega
  have e2 : IntKind.i64.wrap ((m : Int) - 1) = m - 1 := wrap_i64 (by omega) (by omega)
  have e3 : Int.tdiv n 256 = n / 256 := Int.tdiv_eq_ediv_of_nonneg hn.1
  have e4 : Int.tmod n 256 = n % 256 := Int.tmod_eq_emod_of_nonneg hn.1
  have e5 : IntKind.u64.wrap (n / 256) = n / 256 := wrap_u64 (by have := hn.1; omega) (by have := hn.2; omega)
  have h1 : (m : Int) < (S : Int) := by omega
  have e6 : C.set (.agg (List.replicate (m + 1) (.int 0) ++ X)) m (.int (n % 256 % 256)) = .agg (List.replicate m (.int 0) ++ (.int (n % 256) :: X)) := by
   have : List.replicate (m + 1) (C.int 0) ++ X = List.replicate m (C.int 0) ++ (.int 0 :: X) := by rw [List.replicate_succ']; simp
   rw [this]
   simp [C.set, List.set_append]
  have hb : ∀ rec : KD R, q27 N (.int S) k2 rec [a0, .int 0, .int S, .int S, c, .int m, .agg (List.replicate (m + 1) (.int 0) ++ X)] [] =
    rec [a0, .int 0, .int S, .int S, .int (n / 256), .int ((m : Int) - 1), .agg (List.replicate m (.int 0) ++ (.int (n % 256) :: X))] [] := by
   intro rec
   unfold q27
   simp only [W6, q0V, q1W, q8D, z6x, y98, y97, u2, hcn, Int.natCast_nonneg, decide_true, cond_true, Int.toNat_natCast, h1, and_self, if_true, Int.toNat_zero, Nat.zero_add, e2, e3, e4, e5, wrap_u8, e6]
   rfl
  rw [U7, e0, hb, z6T a0 S k2 m (.int (n / 256)) _ n' (by omega) hS (by omega) (by simp only [u2]; exact ⟨by have := hn.1; omega, by have := hn.2; omega⟩)]
  simp [F3, u2]
theorem y69 (out : List C) (c : C) (hn : W64 c.toInt) (S : Nat) (hS : S ≤ 8) (hl : out.length + S ≤ 1000000000000) (hN : 100 < N) (k : KD R) :
  q1D N (.slice out) c (.int S) k = k [.slice (out ++ F3 S c.toInt)] [] := by
 rw [z09]
 unfold q26
 simp only [o5, u2, p9, if_true, Int.toNat_natCast]
 rw [if_pos (by omega), wrap_i64 (by omega) (by omega)]
 have := z6T (N := N) (.slice out) S (fun d1 m1 => (bif Nat.beq (List.length (C.elems (dk d1 0))) (List.length (C.elems (dk d1 0))) then
    (if (List.length (C.elems (dk d1 0)) +
    List.length
     (List.take (Int.toNat (C.toInt (dk d1 2))) (List.drop (Int.toNat (C.toInt (dk d1 1))) (C.elems (dk d1 4))))) *
   1 ≤
  140737488355328 ∧
 List.length (C.elems (dk d1 0)) +
   List.length
    (List.take (Int.toNat (C.toInt (dk d1 2))) (List.drop (Int.toNat (C.toInt (dk d1 1))) (C.elems (dk d1 4)))) ≤
  9223372036854775807 then
     (bif Nat.beq
 (List.length (C.elems (dk d1 0)) +
  List.length
   (List.take (Int.toNat (C.toInt (dk d1 2))) (List.drop (Int.toNat (C.toInt (dk d1 1))) (C.elems (dk d1 4)))))
 (List.length
  (C.elems (dk d1 0) ++
   List.take (Int.toNat (C.toInt (dk d1 2))) (List.drop (Int.toNat (C.toInt (dk d1 1))) (C.elems (dk d1 4))))) then
      (k [C.slice
  (C.elems (dk d1 0) ++
   List.take (Int.toNat (C.toInt (dk d1 2))) (List.drop (Int.toNat (C.toInt (dk d1 1))) (C.elems (dk d1 4))))] [])
     else
      none)
    else
     none)
   else
    none)) S c [] N (Nat.le_refl _) hS (by omega) hn
 rw [List.append_nil] at this
 refine Eq.trans this ?_
 have e1 : (F3 S c.toInt).take S = F3 S c.toInt := by rw [List.take_of_length_le (by rw [q2b]; omega)]
 simp only [List.append_nil, W6, q0V, q1W, z6x, u2, p9, z8q, Int.toNat_natCast, Int.toNat_zero, List.drop_zero, e1, List.length_append, q2b, Nat.beq_refl, cond_true]
 rw [if_pos (by omega)]
end Go.Proofs.YtdoajkacibicoaaDoor
namespace Go.Proofs.YtdoajkacibicoaaDoor
open Go Go.E
set_option maxRecDepth 100000
set_option maxHeartbeats 4000000
set_option linter.unusedVariables false
noncomputable def z78 : Hints := [([1, 0, 1, 1], ⟨[], [], [], [], [], []⟩),
  ([4, 1, 0, 1, 1], ⟨[4, 5, 6, 19], [(20, .d (.int .i64))], [], [], [], []⟩),
  ([0, 0, 1, 1, 1, 1, 1, 1, 4, 0, 1, 1, 5, 4, 1, 0, 1, 1], ⟨[8, 10], [(9, .sl 1 (.int .u8) 5009), (54, .d .bool)], [], [], [], []⟩),
  ([9], ⟨[], [(2, .sl 1 (.int .u8) 5002), (3, .d (.int .i64))], [], [], [], []⟩)]
noncomputable def z0v (N : Nat) : OvS (X0 gl0) where
 g R := [(23, z1J N), (28, q6C N), (29, q2e N), (30, q3P N)]
 ok := fun R => List.forall_mem_cons.2 ⟨z6k N, List.forall_mem_cons.2 ⟨z5K N, List.forall_mem_cons.2 ⟨q6T N, List.forall_mem_cons.2 ⟨z1f N, fun _ h => nomatch h⟩⟩⟩⟩
noncomputable def q1r {R : Type} (N : Nat) (k1 : KD R) (k2 : KD R) : KD R → List C → List Es → Option R := (fun k3 d2 m2 => (bif decide (C.toInt (dk d2 4) < 18) then (if 0 ≤ C.toInt (dk d2 4) ∧ C.toInt (dk d2 4) < 18 then (bif !C.toStr (C.get (C.get (dk d2 3) (Int.toNat (C.toInt (dk d2 4)))) 0) == C.toStr (dk d2 0) then (k3 [dk d2 0, dk d2 1, C.bool (C.toBool (dk d2 2)), dk d2 3, C.int (IntKind.wrap IntKind.i64 (C.toInt (dk d2 4) + 1))] []) else (bif !C.toBool (dk d2 2) == decide (0 < C.toInt (C.get (C.get (dk d2 3) (Int.toNat (C.toInt (dk d2 4)))) 1)) then (k1 [C.slice [], C.int 10] []) else (bif !C.toBool (dk d2 2) then (k1 [C.slice [C.int (IntKind.wrap IntKind.u8 (C.toInt (dk d2 4)))], C.int 0] []) else (if IntKind.wrap IntKind.i64 (8 * C.toInt (C.get (C.get (dk d2 3) (Int.toNat (C.toInt (dk d2 4)))) 1)) = 8 ∨ IntKind.wrap IntKind.i64 (8 * C.toInt (C.get (C.get (dk d2 3) (Int.toNat (C.toInt (dk d2 4)))) 1)) = 16 ∨ IntKind.wrap IntKind.i64 (8 * C.toInt (C.get (C.get (dk d2 3) (Int.toNat (C.toInt (dk d2 4)))) 1)) = 64 then (jn (fun d3 m3 => (bif C.toBool (dk d3 2) then (k1 [C.slice [], C.int 10] []) else (F9 N (C.slice []) (C.slice [dk d3 0]) (fun d4 m4 => (if 0 ≤ IntKind.wrap IntKind.i64 (8 - C.toInt (C.get (dk d3 3) 1)) ∧ IntKind.wrap IntKind.i64 (8 - C.toInt (C.get (dk d3 3) 1)) ≤ (↑(List.length (C.elems (dk d4 0))) : Int) ∧ (↑(List.length (C.elems (dk d4 0))) : Int) ≤ (↑(List.length (C.elems (dk d4 0))) : Int) then (bif Nat.beq (List.length (C.elems (dk d3 1))) (List.length (C.elems (dk d3 1))) then (if (List.length (C.elems (dk d3 1)) + List.length (cut (C.elems (dk d4 0)) (IntKind.wrap IntKind.i64 (8 - C.toInt (C.get (dk d3 3) 1))) (↑(List.length (C.elems (dk d4 0))) : Int))) * 1 ≤ 140737488355328 ∧ List.length (C.elems (dk d3 1)) + List.length (cut (C.elems (dk d4 0)) (IntKind.wrap IntKind.i64 (8 - C.toInt (C.get (dk d3 3) 1))) (↑(List.length (C.elems (dk d4 0))) : Int)) ≤ 9223372036854775807 then (bif Nat.beq (List.length (C.elems (dk d3 1)) + List.length (cut (C.elems (dk d4 0)) (IntKind.wrap IntKind.i64 (8 - C.toInt (C.get (dk d3 3) 1))) (↑(List.length (C.elems (dk d4 0))) : Int))) (List.length (C.elems (dk d3 1) ++ cut (C.elems (dk d4 0)) (IntKind.wrap IntKind.i64 (8 - C.toInt (C.get (dk d3 3) 1))) (↑(List.length (C.elems (dk d4 0))) : Int))) then (k1 [C.slice (C.elems (dk d3 1) ++ cut (C.elems (dk d4 0)) (IntKind.wrap IntKind.i64 (8 - C.toInt (C.get (dk d3 3) 1))) (↑(List.length (C.elems (dk d4 0))) : Int)), C.int 0] []) else none) else none) else none) else none))))) (fun k4 => (bif !C.isNil (q5L (Int.toNat (IntKind.wrap IntKind.i64 (8 * C.toInt (C.get (C.get (dk d2 3) (Int.toNat (C.toInt (dk d2 4)))) 1)))) (C.toStr (dk d2 1))) then (k4 [C.int (q3F (Int.toNat (IntKind.wrap IntKind.i64 (8 * C.toInt (C.get (C.get (dk d2 3) (Int.toNat (C.toInt (dk d2 4)))) 1)))) (C.toStr (dk d2 1))), C.slice [C.int (IntKind.wrap IntKind.u8 (C.toInt (dk d2 4)))], C.bool true, C.get (dk d2 3) (Int.toNat (C.toInt (dk d2 4)))] []) else (k4 [C.int (q3F (Int.toNat (IntKind.wrap IntKind.i64 (8 * C.toInt (C.get (C.get (dk d2 3) (Int.toNat (C.toInt (dk d2 4)))) 1)))) (C.toStr (dk d2 1))), C.slice [C.int (IntKind.wrap IntKind.u8 (C.toInt (dk d2 4)))], C.bool !U9 (Int.toNat (q3F (Int.toNat (IntKind.wrap IntKind.i64 (8 * C.toInt (C.get (C.get (dk d2 3) (Int.toNat (C.toInt (dk d2 4)))) 1)))) (C.toStr (dk d2 1)))) == C.toStr (dk d2 1), C.get (dk d2 3) (Int.toNat (C.toInt (dk d2 4)))] [])))) else none)))) else none) else (k2 [] [])))
noncomputable def q2v {R : Type} (N : Nat) (a0 : C) (k1 : KD R) : Option R := (q1n N a0 (C.str [UInt8.ofNat 32]) (fun d1 m1 => (jn (fun d2 m2 => (k1 [C.slice [], C.int 40] [])) (fun k2 => (b6 N (q1r N k1 k2) [dk d1 0, dk d1 1, C.bool (C.toBool (dk d1 2)), C.agg X1, C.int 0] [])))))
noncomputable def q1Y {R : Type} (N : Nat) : C → KD R → Option R := lid "" (q2v N)
theorem z0u {R : Type} (N : Nat) (a0 : C) (k : KD R) : q1Y N a0 k = q2v N a0 k := by unfold q1Y; rw [Z8]
theorem z6B {R : Type} (N : Nat) (a0 : C) (K : V → List (Key × O) → Option R) : exF (X0 gl0) ((z0v N).ov R) H9 (fun f r => bif Nat.beq f 20 then (bif Nat.beq r 8 then [(35, 4)] else bif Nat.beq r 14 then [(58, 1)] else []) else []) (fun f => bif Nat.beq f 20 then z78 else []) N 400 8 20 [.d .str a0] A0 K =
  q1Y N a0 (fun d1 m1 => K (V.tup [V.ts 1 (Ty.int IntKind.u8) (C.elems (dk d1 0)), V.d (Ty.int IntKind.i64) (dk d1 1)]) []) := by
 rw [z0u]
 exact (show _ = jn (fun d1 m1 => (bif Nat.beq (List.length (C.elems (dk d1 0))) (List.length (C.elems (dk d1 0))) then
  (K (V.tup [V.ts 1 (Ty.int IntKind.u8) (C.elems (dk d1 0)), V.d (Ty.int IntKind.i64) (dk d1 1)]) [])
 else
  none)) (q2v N a0) by kernel_rfl).trans ((o5 _ _).trans (congrArg (q2v N a0) (funext fun _ => funext fun _ => by simp only [Nat.beq_refl, cond_true])))
noncomputable def q7S (N : Nat) {R : Type} : OvG R := fun xs _ K => match xs with
 | [.d t0 a0] => if t0 = .str then q1Y N a0 (fun d1 m1 => K (V.tup [V.ts 1 (Ty.int IntKind.u8) (C.elems (dk d1 0)), V.d (Ty.int IntKind.i64) (dk d1 1)]) []) else none
 | _ => none
theorem z77 (N : Nat) {R : Type} : GOk (X0 gl0) 20 (q7S N (R := R)) := by
 intro xs A Kr r hr
 unfold q7S at hr
 split at hr
 ·simp only [Option.ite_none_right_eq_some] at hr
  obtain ⟨hty, hr⟩ := hr
  subst hty
  rw [← z6B] at hr
  exact okA (z0v N) hr
 ·cases hr
end Go.Proofs.YtdoajkacibicoaaDoor
namespace Go.Proofs.YtdoajkacibicoaaDoor
open Go Go.E
set_option maxRecDepth 100000
set_option maxHeartbeats 4000000
set_option linter.unusedSimpArgs false
variable {R : Type} {N : Nat}
def q4P (o : Nat) : List UInt8 := ((X1.getD o .nil).get 0).toStr
def q32 : List C := (List.range 18).map fun o => C.str (q4P o)
theorem y0H (k : KD R) : H0 N k = k [.slice q32] [] := by
 rw [q80]; rfl
theorem z3S {o : Nat} (h : o < 18) : o = 0 ∨ o = 1 ∨ o = 2 ∨ o = 3 ∨ o = 4 ∨ o = 5 ∨ o = 6 ∨ o = 7 ∨ o = 8 ∨ o = 9 ∨ o = 10 ∨ o = 11 ∨ o = 12 ∨ o = 13 ∨ o = 14 ∨ o = 15 ∨ o = 16 ∨ o = 17 := by omega
theorem z6H {o : Nat} (h : o < 18) (k : KD R) : j6 N (.int (o : Int)) k = k [.int (x8 (o : Int))] [] := by
 rw [q6I]
 rcases z3S h with rfl | rfl | rfl | rfl | rfl | rfl | rfl | rfl | rfl | rfl | rfl | rfl | rfl | rfl | rfl | rfl | rfl | rfl <;> (unfold q2p; simp only [o5]; rfl)
theorem z68 {o : Nat} (h : o < 18) : q32.getD o .nil = .str (q4P o) := by
 unfold q32
 rw [List.getD_eq_getElem?_getD, List.getElem?_map, List.getElem?_range h]; rfl
def z9k (B : Nat) (r : List UInt8) : Option Nat := match Lib.parseUintB B r with
 | .ok u => if U9 u = r then some u else none
 | _ => none
theorem z4w (M : Nat) (hM : M ≤ 18446744073709551615) : ∀ (l : List UInt8) (acc u : Nat), acc ≤ M → (Lib.parseUintM M acc l = .ok u ↔ Lib.parseUint10 acc l = .ok u ∧ u ≤ M)
 | [], acc, u, ha => by
  simp only [Lib.parseUintM, Lib.parseUint10]
  constructor
  ·intro h; cases h; exact ⟨rfl, ha⟩
  ·intro h; exact h.1
 | c :: r, acc, u, ha => by
  simp only [Lib.parseUintM, Lib.parseUint10]
  by_cases hd : 48 ≤ c.toNat ∧ c.toNat ≤ 57
  ·rw [if_pos hd, if_pos hd]
   by_cases h1 : 1844674407370955162 ≤ acc
   ·rw [if_pos h1, if_pos h1]; simp
   ·rw [if_neg h1, if_neg h1]
    by_cases h2 : M < acc * 10 + (c.toNat - 48)
    ·rw [if_pos h2]
     constructor
     ·intro h; cases h
     ·rintro ⟨h, hu⟩
      exfalso
      split at h
      ·cases h
      ·have := grows r _ u h; omega
    ·rw [if_neg h2, if_neg (by omega)]
     exact z4w M hM r _ u (by omega)
  ·rw [if_neg hd, if_neg hd]; simp
where
 grows : ∀ (l : List UInt8) (acc u : Nat), Lib.parseUint10 acc l = .ok u → acc ≤ u
  | [], acc, u, h => by simp only [Lib.parseUint10] at h; cases h; exact Nat.le_refl _
  | c :: r, acc, u, h => by
   simp only [Lib.parseUint10] at h
   split at h
   ·split at h
    ·cases h
    ·split at h
     ·cases h
     ·have := grows r _ u h; omega
   ·cases h
theorem z62 : ∀ (m j : Nat) (n : Int), (F3 (j + m) n).drop j = F3 m n
 | 0, j, n => by
  have := q2b (j + 0) n
  rw [List.drop_eq_nil_of_le (by omega)]; rfl
 | m + 1, j, n => by
  have h := q2b (j + m) (n / 256)
  show (F3 (j + m) (n / 256) ++ [C.int (n % 256)]).drop j = F3 m (n / 256) ++ [C.int (n % 256)]
  rw [List.drop_append_of_le_length (by omega), z62 m j (n / 256)]
def z84 (f : Bool) (rest : List UInt8) (o : Nat) : List C × Int :=
 if f = decide (0 < x8 (o : Int)) then (bif f then (match z9k (8 * x8 (o : Int)) rest with
  | some u => (C.int (o : Int) :: F3 (x8 (o : Int)) (u : Int), 0)
  | none => ([], 10)) else ([.int (o : Int)], 0)) else ([], 10)
def q8t (nm : List UInt8) (f : Bool) (rest : List UInt8) (o : Nat) : Unit ⊕ (List C × Int) := if q4P o = nm then .inr (z84 f rest o) else .inl ()
def z3u (nm : List UInt8) (f : Bool) (rest : List UInt8) : List C × Int := match q0R (fun o (_ : Unit) (_ : Nat) => q8t nm f rest o) 0 () (List.range 18) with
 | .inl _ => ([], 40)
 | .inr r => r
theorem q62 {o : Nat} (h : o < 18) : x8 (o : Int) = 0 ∨ x8 (o : Int) = 1 ∨ x8 (o : Int) = 2 ∨ x8 (o : Int) = 8 := by
 unfold x8; (repeat' split) <;> omega
theorem z27 (nm rest : List UInt8) (f : Bool) (hN : 140737488355329 < N) (k : KD R) :
  b6 N (q1r N k (fun _ _ => k [.slice [], .int 40] [])) [.str nm, .str rest, .bool f, .agg X1, .int 0] [] = k [.slice (z3u nm f rest).1, .int (z3u nm f rest).2] [] := by
 have key := q6f (ε := List C × Int) (N := N) (F := q1r N k (fun _ _ => k [.slice [], .int 40] [])) (fun i (_ : Unit) => [.str nm, .str rest, .bool f, .agg X1, .int (i : Int)]) (fun _ _ => []) (List.range 18)
   (fun o _ _ => q8t nm f rest o) (fun _ => k [.slice [], .int 40] []) (fun r => k [.slice r.1, .int r.2] []) (fun _ _ => True) (s0 := ()) trivial
   (fun o _ c hc _ => by
    have ho : o < 18 := by have := (List.getElem?_eq_some_iff.1 hc).1; simpa using this
    refine ⟨fun rec => ?_, fun _ _ => trivial⟩
    have h1 : (o : Int) < 18 := by omega
    have hget : C.get (.agg X1) o = X1.getD o .nil := rfl
    have hw : IntKind.wrap IntKind.u8 (o : Int) = (o : Int) := by rw [wrap_u8]; omega
    unfold q1r
    simp only [o5, go_sem, u2, J0, p9, Z4, h1, decide_true, cond_true, Int.natCast_nonneg, and_self, if_true, Int.toNat_natCast, q0Y (show o < 4611686018427387904 by omega), hget, q9X o ho, hw]
    unfold q8t
    by_cases hn : q4P o = nm
    ·have hb : (C.toStr (C.get (X1.getD o .nil) 0) == nm) = true := by rw [beq_iff_eq]; exact hn
     rw [hb, if_pos hn]
     simp only [Bool.not_true, cond_false]
     unfold z84
     cases f with
     | false =>
      by_cases hm : (0 : Int) < (x8 (o : Int) : Int)
      ·have hm' : 0 < x8 (o : Int) := by omega
       simp only [hm, hm', decide_true]
       rfl
      ·have hm' : ¬ 0 < x8 (o : Int) := by omega
       simp only [hm, hm', decide_false]
       rfl
     | true =>
      by_cases hm : (0 : Int) < (x8 (o : Int) : Int)
      ·have hm' : 0 < x8 (o : Int) := by omega
       simp only [hm, hm', decide_true, if_true, cond_true, Bool.not_true, beq_self_eq_true, cond_false]
       have hmc := q62 ho
       generalize x8 (o : Int) = m at hm hm' hmc
       have hwz : IntKind.i64.wrap (8 * (m : Int)) = ((8 * m : Nat) : Int) := by rw [wrap_i64 (by omega) (by omega)]; omega
       have hw8 : IntKind.i64.wrap (8 - (m : Int)) = ((8 - m : Nat) : Int) := by rw [wrap_i64 (by omega) (by omega)]; omega
       simp only [hwz, hw8, Int.toNat_natCast]
       refine (if_pos (by omega)).trans ?_
       unfold q3F q5L z9k
       cases hp : Lib.parseUintB (8 * m) rest with
       | ok u =>
        simp only [C.isNil, Bool.not_true, cond_false, Int.toNat_natCast]
        by_cases hd : U9 u = rest
        ·have hd' : (U9 u == rest) = true := by rw [beq_iff_eq]; exact hd
         rw [hd', if_pos hd, Bool.not_true, cond_false]
         rw [z81 [] [C.int (u : Int)] (fun c hc => by rw [List.mem_singleton.1 hc]; exact Int.natCast_nonneg u) (by simp) (by simp; omega)]
         have hE : ([] : List C) ++ q4N 8 [C.int (u : Int)] = F3 8 (u : Int) := by simp [q4N, u2]
         have hL : (F3 8 (u : Int)).length = 8 := q2b 8 _
         have hD : List.drop (8 - m) (List.take 8 (F3 8 (u : Int))) = F3 m (u : Int) := by
          rw [List.take_of_length_le (by omega)]
          have := z62 m (8 - m) (u : Int)
          rw [show 8 - m + m = 8 by omega] at this
          exact this
         have hDl : (F3 m (u : Int)).length = m := q2b m _
         simp only [go_sem, p9, hE, hL, hD, hDl]
         refine (if_pos (by omega)).trans ?_
         refine (if_pos (by omega)).trans ?_
         have hbq : (0 + 1 + m).beq (m + 1) = true := by rw [Nat.beq_eq]; omega
         rw [hbq]
         rfl
        ·have hd' : (U9 u == rest) = false := by rw [beq_eq_false_iff_ne]; exact hd
         rw [hd', if_neg hd]
         rfl
       | range => rfl
       | _ => rfl
      ·have hm' : ¬ 0 < x8 (o : Int) := by omega
       simp only [hm, hm', decide_false]
       rfl
    ·have hb : (C.toStr (C.get (X1.getD o .nil) 0) == nm) = false := by rw [beq_eq_false_iff_ne]; exact hn
     rw [hb, if_neg hn]
     rfl)
   (fun _ _ rec => by
    rw [show (List.range 18).length = 18 from List.length_range]
    unfold q1r
    have h1 : ¬ ((18 : Int) < 18) := by decide
    simp only [go_sem, u2, h1, decide_false, cond_false]) (by rw [List.length_range]; omega)
 have key : b6 N (q1r N k (fun _ _ => k [.slice [], .int 40] [])) [.str nm, .str rest, .bool f, .agg X1, .int 0] [] = _ := key
 rw [key]
 unfold z3u
 cases q0R (fun o (_ : Unit) (_ : Nat) => q8t nm f rest o) 0 () (List.range 18) <;> rfl
end Go.Proofs.YtdoajkacibicoaaDoor
namespace Go.Proofs.YtdoajkacibicoaaDoor
open Go Go.E
set_option maxRecDepth 100000
set_option maxHeartbeats 4000000
set_option linter.unusedSimpArgs false
variable {R : Type} {N : Nat}
def q1S (s : List UInt8) : List C × Int := z3u (s.take (c7 s)) (decide (c7 s < s.length)) (s.drop (c7 s + 1))
theorem y5q (s : List UInt8) (hl : s.length ≤ 140737488355328) (hN : 140737488355329 < N) (k : KD R) : q1Y N (.str s) k = k [.slice (q1S s).1, .int (q1S s).2] [] := by
 rw [z0u]
 unfold q2v q1S
 rw [y8K s hl]
 by_cases h : c7 s < s.length
 ·rw [if_pos h, decide_eq_true h]
  simp only [o5, go_sem, Z4]
  exact z27 _ _ _ hN k
 ·have hle := z2F s
  have e : c7 s = s.length := by omega
  rw [if_neg h, decide_eq_false h, e, List.take_length, List.drop_eq_nil_of_le (by omega)]
  simp only [o5, go_sem, Z4]
  exact z27 _ _ _ hN k
theorem y1z {B : Nat} (hB : B = 8 ∨ B = 16 ∨ B = 64) (r : List UInt8) : z9k B r = (match Lib.parseUint10 0 r with
  | .ok u => if r ≠ [] ∧ u ≤ 2 ^ B - 1 ∧ U9 u = r then some u else none
  | _ => none) := by
 have hM : 2 ^ B - 1 ≤ 18446744073709551615 := by rcases hB with rfl | rfl | rfl <;> decide
 unfold z9k Lib.parseUintB
 by_cases hr : r = []
 ·subst hr; rfl
 ·rw [if_neg hr]
  have key := fun u => z4w (2 ^ B - 1) hM r 0 u (Nat.zero_le _)
  cases h1 : Lib.parseUint10 0 r with
  | ok u =>
   by_cases hu : u ≤ 2 ^ B - 1
   ·rw [(key u).2 ⟨h1, hu⟩]
    by_cases hd : U9 u = r
    ·show (if U9 u = r then some u else none) = (if r ≠ [] ∧ u ≤ 2 ^ B - 1 ∧ U9 u = r then some u else none)
     rw [if_pos hd, if_pos ⟨hr, hu, hd⟩]
    ·show (if U9 u = r then some u else none) = (if r ≠ [] ∧ u ≤ 2 ^ B - 1 ∧ U9 u = r then some u else none)
     rw [if_neg hd, if_neg (fun h => hd h.2.2)]
   ·show _ = (if r ≠ [] ∧ u ≤ 2 ^ B - 1 ∧ U9 u = r then some u else none)
    rw [if_neg (show ¬ (r ≠ [] ∧ u ≤ 2 ^ B - 1 ∧ U9 u = r) from fun h => hu h.2.1)]
    cases h2 : Lib.parseUintM (2 ^ B - 1) 0 r with
    | ok v => have := (key v).1 h2; rw [h1] at this; obtain ⟨h3, h4⟩ := this; cases h3; omega
    | range => rfl
    | _ => rfl
  | range =>
   cases h2 : Lib.parseUintM (2 ^ B - 1) 0 r with
   | ok v => have := (key v).1 h2; rw [h1] at this; cases this.1
   | range => rfl
   | _ => rfl
  | _ =>
   cases h2 : Lib.parseUintM (2 ^ B - 1) 0 r with
   | ok v => have := (key v).1 h2; rw [h1] at this; cases this.1
   | range => rfl
   | _ => rfl
def z3T (n : Nat) (c : UInt8) : Nat ⊕ Nat := match z1S n c with
 | .inl m => .inl m
 | .inr _ => .inr n
theorem y0h : ∀ (l : List UInt8) (i n : Nat), (∃ u, Lib.parseUint10 n l = .ok u ∧ q0R (fun _ n c => z3T n c) i n l = .inl u) ∨ ((∀ u, Lib.parseUint10 n l ≠ .ok u) ∧ ∃ x, q0R (fun _ n c => z3T n c) i n l = .inr x)
 | [], i, n => .inl ⟨n, rfl, rfl⟩
 | c :: l, i, n => by
  have h := y1R (c :: l) i n
  simp only [q0R] at h ⊢
  unfold z3T
  cases hd : z1S n c with
  | inl m =>
   rw [hd] at h
   have ih := y0h l (i + 1) m
   have e : Lib.parseUint10 n (c :: l) = Lib.parseUint10 m l := by
    unfold z1S at hd
    rw [Lib.parseUint10]
    split at hd
    ·rename_i h1
     split at hd
     ·cases hd
      rw [if_pos h1, if_neg (by omega), if_neg (by omega)]
     ·cases hd
    ·cases hd
   rw [e]
   exact ih
  | inr _ =>
   rw [hd] at h
   refine .inr ⟨fun u hu => ?_, n, rfl⟩
   rw [hu] at h
   cases h
theorem y3M (o0 : C) (r : List UInt8) (hl : r.length ≤ 65536) (hN : 140737488355329 < N) (k4 : KD R) :
  b6 N (q2o N k4) [o0, .str r, .int 0, .bool false, .int 0] [] = z95 (fun n => k4 [o0, .str r, .int ((n : Nat) : Int), .bool false] []) (fun n => k4 [o0, .str r, .int ((n : Nat) : Int), .bool true] []) (q0R (fun _ n c => z3T n c) 0 0 r) := by
 exact q6f (ε := Nat) (N := N) (F := q2o N k4) (fun i (n : Nat) => [o0, .str r, .int (n : Int), .bool false, .int (i : Int)]) (fun _ _ => []) r
   (fun _ n c => z3T n c) (fun n => k4 [o0, .str r, .int (n : Int), .bool false] []) (fun n => k4 [o0, .str r, .int (n : Int), .bool true] []) (fun _ n => n < 18446744073709551616) (s0 := 0) (by decide)
   (fun i n c hc hn => by
    have hi := (List.getElem?_eq_some_iff.1 hc).1
    have hcs := c.toNat_lt
    have hgc : r.getD i (UInt8.ofNat 0) = c := by rw [List.getD_eq_getElem?_getD, hc]; rfl
    refine ⟨fun rec => ?_, fun s' h => ?_⟩
    ·have h1 : (i : Int) < (r.length : Int) := by omega
     unfold q2o
     simp only [go_sem, o5, u2, J0, Z4, h1, decide_true, cond_true, Int.natCast_nonneg, and_self, if_true, Int.toNat_natCast, hgc, q0Y (show i < 4611686018427387904 by omega)]
     unfold z3T z1S
     by_cases a1 : (c.toNat : Int) < 48
     ·rw [if_neg (show ¬ (48 ≤ c.toNat ∧ c.toNat ≤ 57) by omega)]
      simp only [a1, decide_true, if_true, cond_true]
     ·by_cases a2 : 57 < (c.toNat : Int)
      ·rw [if_neg (show ¬ (48 ≤ c.toNat ∧ c.toNat ≤ 57) by omega)]
       simp only [a1, a2, decide_true, decide_false, if_true, if_false, cond_true, cond_false]
      ·rw [if_pos (show 48 ≤ c.toNat ∧ c.toNat ≤ 57 by omega)]
       have e0 : IntKind.wrap IntKind.u64 (IntKind.wrap IntKind.u64 (c.toNat : Int) - 48) = ((c.toNat - 48 : Nat) : Int) := by rw [IntKind.wrap_u64, IntKind.wrap_u64]; omega
       have e1 : IntKind.wrap IntKind.u64 (Int.tdiv (IntKind.wrap IntKind.u64 (18446744073709551615 - ((c.toNat - 48 : Nat) : Int))) 10) = (18446744073709551615 - ((c.toNat - 48 : Nat) : Int)) / 10 := by
        rw [IntKind.wrap_u64, IntKind.wrap_u64, Int.tdiv_eq_ediv_of_nonneg (by omega)]; omega
       simp only [a1, a2, decide_false, if_false, cond_false, e0, e1]
       by_cases a3 : n * 10 + (c.toNat - 48) < 18446744073709551616
       ·have a4 : ¬ (18446744073709551615 - ((c.toNat - 48 : Nat) : Int)) / 10 < (n : Int) := by omega
        have e2 : IntKind.wrap IntKind.u64 (IntKind.wrap IntKind.u64 ((n : Int) * 10) + ((c.toNat - 48 : Nat) : Int)) = ((n * 10 + (c.toNat - 48) : Nat) : Int) := by rw [IntKind.wrap_u64, IntKind.wrap_u64]; omega
        rw [if_pos a3]
        simp only [a4, decide_false, if_false, cond_false, e2]
       ·have a4 : (18446744073709551615 - ((c.toNat - 48 : Nat) : Int)) / 10 < (n : Int) := by omega
        rw [if_neg a3]
        simp only [a4, decide_true, if_true, cond_true]
    ·unfold z3T at h
     cases hd : z1S n c with
     | inl m =>
      rw [hd] at h
      cases h
      unfold z1S at hd
      split at hd
      ·split at hd
       ·cases hd; assumption
       ·cases hd
      ·cases hd
     | inr _ => rw [hd] at h; cases h)
   (fun n hn rec => by
    unfold q2o
    simp only [go_sem, u2, J0, Z4, Int.lt_irrefl, decide_false, cond_false, if_false]) (by omega)
end Go.Proofs.YtdoajkacibicoaaDoor
namespace Go.Proofs.YtdoajkacibicoaaDoor
open Go Go.E
set_option maxRecDepth 100000
set_option maxHeartbeats 4000000
set_option linter.unusedVariables false
noncomputable def z5W : Hints := [([1, 0, 1, 1, 1, 1, 1, 1], ⟨[7], [(8, .d (.int .u64))], [], [], [], []⟩),
  ([4, 1, 0, 1, 1, 1, 1, 1, 1], ⟨[0, 1, 7], [(8, .d (.int .u64)), (9, .d (.int .i64))], [], [], [], []⟩),
  ([9], ⟨[], [(4, .d (.int .i64)), (5, .d (.int .u64)), (6, .d (.int .i64))], [], [], [], []⟩)]
noncomputable def q8Z (N : Nat) : OvS (X0 gl0) where
 g R := [(17, q25 N)]
 ok := fun R => List.forall_mem_cons.2 ⟨q6J N, fun _ h => nomatch h⟩
noncomputable def q1R {R : Type} (N : Nat) (k2 : KD R) : KD R → List C → List Es → Option R := (fun k3 d2 m2 => (j6 N (dk d2 2) (fun d3 m3 => (bif decide (C.toInt (dk d2 4) < C.toInt (dk d3 0)) then (if 0 ≤ IntKind.wrap IntKind.i64 (IntKind.wrap IntKind.i64 (C.toInt (dk d2 1) + 1) + C.toInt (dk d2 4)) ∧ IntKind.wrap IntKind.i64 (IntKind.wrap IntKind.i64 (C.toInt (dk d2 1) + 1) + C.toInt (dk d2 4)) < (↑(List.length (C.elems (dk d2 0))) : Int) then (k3 [dk d2 0, dk d2 1, dk d2 2, C.int (IntKind.wrap IntKind.u64 (IntKind.wrap IntKind.u64 (C.toInt (dk d2 3) * 256) + IntKind.wrap IntKind.u64 (C.toInt (List.getD (C.elems (dk d2 0)) (Int.toNat (IntKind.wrap IntKind.i64 (IntKind.wrap IntKind.i64 (C.toInt (dk d2 1) + 1) + C.toInt (dk d2 4)))) C.nil)))), C.int (IntKind.wrap IntKind.i64 (C.toInt (dk d2 4) + 1))] []) else none) else (k2 [dk d2 2, dk d2 3] [])))))
noncomputable def q3B {R : Type} (N : Nat) (a0 a1 : C) (k1 : KD R) : Option R := (bif decide ((↑(List.length (C.elems a0)) : Int) ≤ C.toInt a1) then (k1 [C.int 0, C.int 0, C.int 9] []) else (if 0 ≤ C.toInt a1 ∧ C.toInt a1 < (↑(List.length (C.elems a0)) : Int) then (bif decide (17 < IntKind.wrap IntKind.i64 (C.toInt (List.getD (C.elems a0) (Int.toNat (C.toInt a1)) C.nil))) then (k1 [C.int 0, C.int 0, C.int 33] []) else (j6 N (C.int (IntKind.wrap IntKind.i64 (C.toInt (List.getD (C.elems a0) (Int.toNat (C.toInt a1)) C.nil)))) (fun d1 m1 => (bif decide ((↑(List.length (C.elems a0)) : Int) < IntKind.wrap IntKind.i64 (IntKind.wrap IntKind.i64 (C.toInt a1 + 1) + C.toInt (dk d1 0))) then (k1 [C.int 0, C.int 0, C.int 9] []) else (jn (fun d2 m2 => (k1 [dk d2 0, dk d2 1, C.int 0] [])) (fun k2 => (b6 N (q1R N k2) [a0, a1, C.int (IntKind.wrap IntKind.i64 (C.toInt (List.getD (C.elems a0) (Int.toNat (C.toInt a1)) C.nil))), C.int 0, C.int 0] []))))))) else none))
noncomputable def q1q {R : Type} (N : Nat) : C → C → KD R → Option R := lid "" (q3B N)
theorem q8Y {R : Type} (N : Nat) (a0 a1 : C) (k : KD R) : q1q N a0 a1 k = q3B N a0 a1 k := by unfold q1q; rw [Z8]
theorem z4o {R : Type} (N : Nat) (a0 a1 : C) (K : V → List (Key × O) → Option R) : exF (X0 gl0) ((q8Z N).ov R) H9 noX (fun f => bif Nat.beq f 15 then z5W else []) N 400 8 15 [.d (.slice 1 (.int .u8)) a0, .d (.int .i64) a1] A0 K =
  q1q N a0 a1 (fun d1 m1 => K (V.tup [V.d (Ty.int IntKind.i64) (dk d1 0), V.d (Ty.int IntKind.u64) (dk d1 1), V.d (Ty.int IntKind.i64) (dk d1 2)]) []) := by
 rw [q8Y]
 exact (show _ = jn (fun d1 m1 => (K (V.tup [V.d (Ty.int IntKind.i64) (dk d1 0), V.d (Ty.int IntKind.u64) (dk d1 1), V.d (Ty.int IntKind.i64) (dk d1 2)]) [])) (q3B N a0 a1) by kernel_rfl).trans (o5 _ _)
noncomputable def q6H (N : Nat) {R : Type} : OvG R := fun xs _ K => match xs with
 | [.d t0 a0, .d t1 a1] => if t0 = (.slice 1 (.int .u8)) ∧ t1 = (.int .i64) then q1q N a0 a1 (fun d1 m1 => K (V.tup [V.d (Ty.int IntKind.i64) (dk d1 0), V.d (Ty.int IntKind.u64) (dk d1 1), V.d (Ty.int IntKind.i64) (dk d1 2)]) []) else none
 | _ => none
theorem z5V (N : Nat) {R : Type} : GOk (X0 gl0) 15 (q6H N (R := R)) := by
 intro xs A Kr r hr
 unfold q6H at hr
 split at hr
 ·simp only [Option.ite_none_right_eq_some] at hr
  obtain ⟨hty, hr⟩ := hr
  obtain ⟨rfl, rfl⟩ := hty
  rw [← z4o] at hr
  exact okA (q8Z N) hr
 ·cases hr
noncomputable def z7K : Hints := [([0, 1, 1, 1, 1, 1], ⟨[], [(5, .d .str)], [], [], [], []⟩),
  ([4, 0, 1, 1, 1, 1, 1], ⟨[0], [(5, .d .str), (6, .d (.int .i64))], [], [], [], []⟩),
  ([1, 0, 1, 4, 1, 5, 4, 0, 1, 1, 1, 1, 1], ⟨[0, 6, 7, 8], [(5, .d .str)], [], [], [], []⟩),
  ([1, 0, 1, 1, 1, 4, 1, 5, 4, 0, 1, 1, 1, 1, 1], ⟨[0, 6, 7], [(5, .d .str)], [], [], [], []⟩),
  ([9], ⟨[], [(2, .d .str), (3, .d (.int .i64))], [], [], [], []⟩)]
noncomputable def z0j (N : Nat) : OvS (X0 gl0) where
 g R := [(11, q2q N), (15, q6H N), (16, q4c N), (17, q25 N), (18, q2U N)]
 ok := fun R => List.forall_mem_cons.2 ⟨q5n N, List.forall_mem_cons.2 ⟨z5V N, List.forall_mem_cons.2 ⟨q82 N, List.forall_mem_cons.2 ⟨q6J N, List.forall_mem_cons.2 ⟨q7v N, fun _ h => nomatch h⟩⟩⟩⟩⟩
noncomputable def q0c {R : Type} (N : Nat) (k2 : KD R) : KD R → List C → List Es → Option R := (fun k3 d1 m1 => (bif decide (C.toInt (dk d1 2) < (↑(List.length (C.elems (dk d1 0))) : Int)) then (q1q N (dk d1 0) (dk d1 2) (fun d2 m2 => (jn (fun d3 m3 => (H0 N (fun d4 m4 => (if 0 ≤ C.toInt (dk d3 2) ∧ C.toInt (dk d3 2) < (↑(List.length (C.elems (dk d4 0))) : Int) then (if List.length (C.toStr (dk d3 4)) + List.length (C.toStr (List.getD (C.elems (dk d4 0)) (Int.toNat (C.toInt (dk d3 2))) C.nil)) ≤ 140737488355328 then (j6 N (dk d3 2) (fun d5 m5 => (jn (fun d6 m6 => (j6 N (dk d6 2) (fun d7 m7 => (k3 [dk d6 0, dk d6 3, C.int (IntKind.wrap IntKind.i64 (IntKind.wrap IntKind.i64 (C.toInt (dk d6 1) + 1) + C.toInt (dk d7 0)))] [])))) (fun k4 => (bif decide (0 < C.toInt (dk d5 0)) then (if List.length (C.toStr (dk d3 4) ++ C.toStr (List.getD (C.elems (dk d4 0)) (Int.toNat (C.toInt (dk d3 2))) C.nil)) + 1 ≤ 140737488355328 then (X6 N (dk d3 3) (fun d6 m6 => (if List.length (C.toStr (dk d3 4) ++ C.toStr (List.getD (C.elems (dk d4 0)) (Int.toNat (C.toInt (dk d3 2))) C.nil) ++ [UInt8.ofNat 32]) + List.length (C.toStr (dk d6 0)) ≤ 140737488355328 then (k4 [dk d3 0, dk d3 1, dk d3 2, C.str (C.toStr (dk d3 4) ++ C.toStr (List.getD (C.elems (dk d4 0)) (Int.toNat (C.toInt (dk d3 2))) C.nil) ++ [UInt8.ofNat 32] ++ C.toStr (dk d6 0))] []) else none))) else none) else (k4 [dk d3 0, dk d3 1, dk d3 2, C.str (C.toStr (dk d3 4) ++ C.toStr (List.getD (C.elems (dk d4 0)) (Int.toNat (C.toInt (dk d3 2))) C.nil))] [])))))) else none) else none)))) (fun k4 => (bif decide (0 < C.toInt (dk d1 2)) then (if List.length (C.toStr (dk d1 1)) + 1 ≤ 140737488355328 then (k4 [dk d1 0, dk d1 2, dk d2 0, dk d2 1, C.str (C.toStr (dk d1 1) ++ [UInt8.ofNat 10])] []) else none) else (k4 [dk d1 0, dk d1 2, dk d2 0, dk d2 1, dk d1 1] [])))))) else (k2 [dk d1 1] [])))
noncomputable def q4b {R : Type} (N : Nat) (a0 : C) (k1 : KD R) : Option R := (bif !decide (Q7 (C.elems a0) = 0) then (k1 [C.str [], C.int (Q7 (C.elems a0))] []) else (jn (fun d1 m1 => (k1 [dk d1 0, C.int 0] [])) (fun k2 => (b6 N (q0c N k2) [a0, C.str [], C.int 0] []))))
noncomputable def q03 {R : Type} (N : Nat) : C → KD R → Option R := lid "" (q4b N)
theorem z0i {R : Type} (N : Nat) (a0 : C) (k : KD R) : q03 N a0 k = q4b N a0 k := by unfold q03; rw [Z8]
theorem z5S {R : Type} (N : Nat) (a0 : C) (K : V → List (Key × O) → Option R) : exF (X0 gl0) ((z0j N).ov R) H9 noX (fun f => bif Nat.beq f 6 then z7K else []) N 400 8 6 [.d (.slice 1 (.int .u8)) a0] A0 K =
  q03 N a0 (fun d1 m1 => K (V.tup [V.d Ty.str (dk d1 0), V.d (Ty.int IntKind.i64) (dk d1 1)]) []) := by
 rw [z0i]
 exact (show _ = jn (fun d1 m1 => (K (V.tup [V.d Ty.str (dk d1 0), V.d (Ty.int IntKind.i64) (dk d1 1)]) [])) (q4b N a0) by kernel_rfl).trans (o5 _ _)
noncomputable def q7s (N : Nat) {R : Type} : OvG R := fun xs _ K => match xs with
 | [.d t0 a0] => if t0 = (.slice 1 (.int .u8)) then q03 N a0 (fun d1 m1 => K (V.tup [V.d Ty.str (dk d1 0), V.d (Ty.int IntKind.i64) (dk d1 1)]) []) else none
 | _ => none
theorem z7J (N : Nat) {R : Type} : GOk (X0 gl0) 6 (q7s N (R := R)) := by
 intro xs A Kr r hr
 unfold q7s at hr
 split at hr
 ·simp only [Option.ite_none_right_eq_some] at hr
  obtain ⟨hty, hr⟩ := hr
  subst hty
  rw [← z5S] at hr
  exact okA (z0j N) hr
 ·cases hr
noncomputable def y0u : Hints := [([1, 0, 1, 1, 1], ⟨[], [(5, .sl 16 .str 5005)], [], [], [], []⟩),
  ([4, 1, 0, 1, 1, 1], ⟨[0], [(5, .sl 16 .str 5005), (6, .d (.int .i64))], [], [], [], []⟩),
  ([1, 0, 1, 1, 4, 1, 5, 4, 1, 0, 1, 1, 1], ⟨[0, 9], [(5, .sl 16 .str 5005), (11, .d .str)], [], [], [], []⟩),
  ([9], ⟨[], [(2, .d .str), (3, .d (.int .i64))], [], [], [], []⟩)]
noncomputable def z13 (N : Nat) : OvS (X0 gl0) where
 g R := [(10, q1Z N), (12, q43 N), (23, z1J N), (14, q9N N)]
 ok := fun R => List.forall_mem_cons.2 ⟨q4f N, List.forall_mem_cons.2 ⟨z0w N, List.forall_mem_cons.2 ⟨z6k N, List.forall_mem_cons.2 ⟨y01 N, fun _ h => nomatch h⟩⟩⟩⟩
noncomputable def q45 {R : Type} (N : Nat) (k2 : KD R) : KD R → List C → List Es → Option R := (fun k3 d1 m1 => (bif decide (C.toInt (dk d1 2) < (↑(List.length (C.elems (dk d1 0))) : Int)) then (if List.length (C.elems (dk d1 0)) ≤ 256 ∧ 0 ≤ C.toInt (dk d1 2) ∧ C.toInt (dk d1 2) ≤ 100000 then (if (0 ≤ if u9 (C.elems (dk d1 0)) (Int.toNat (C.toInt (dk d1 2))) = 0 then bN (C.elems (dk d1 0)) (Int.toNat (C.toInt (dk d1 2))) else 0) ∧ (if u9 (C.elems (dk d1 0)) (Int.toNat (C.toInt (dk d1 2))) = 0 then bN (C.elems (dk d1 0)) (Int.toNat (C.toInt (dk d1 2))) else 0) < 18 then (if (0 ≤ if u9 (C.elems (dk d1 0)) (Int.toNat (C.toInt (dk d1 2))) = 0 then bN (C.elems (dk d1 0)) (Int.toNat (C.toInt (dk d1 2))) else 0) ∧ (if u9 (C.elems (dk d1 0)) (Int.toNat (C.toInt (dk d1 2))) = 0 then bN (C.elems (dk d1 0)) (Int.toNat (C.toInt (dk d1 2))) else 0) < 18 then (jn (fun d2 m2 => (bif Nat.beq (List.length (C.elems (dk d2 2))) (List.length (C.elems (dk d2 2))) then (if (List.length (C.elems (dk d2 2)) + 1) * 16 ≤ 140737488355328 ∧ List.length (C.elems (dk d2 2)) + 1 ≤ 9223372036854775807 then (bif Nat.beq (List.length (C.elems (dk d2 2)) + 1) (List.length (C.elems (dk d2 2) ++ [dk d2 3])) then (k3 [dk d2 0, C.slice (C.elems (dk d2 2) ++ [dk d2 3]), dk d2 1] []) else none) else none) else none)) (fun k4 => (bif decide (0 < C.toInt (C.get (C.get (C.agg X1) (Int.toNat (if u9 (C.elems (dk d1 0)) (Int.toNat (C.toInt (dk d1 2))) = 0 then bN (C.elems (dk d1 0)) (Int.toNat (C.toInt (dk d1 2))) else 0))) 1)) then (if 1 + List.length (U9 (Int.toNat (if u9 (C.elems (dk d1 0)) (Int.toNat (C.toInt (dk d1 2))) = 0 then Q3 (C.elems (dk d1 0)) (Int.toNat (C.toInt (dk d1 2)) + 1) (x8 (bN (C.elems (dk d1 0)) (Int.toNat (C.toInt (dk d1 2))))) else 0))) ≤ 140737488355328 then (if List.length (C.toStr (C.get (C.get (C.agg X1) (Int.toNat (if u9 (C.elems (dk d1 0)) (Int.toNat (C.toInt (dk d1 2))) = 0 then bN (C.elems (dk d1 0)) (Int.toNat (C.toInt (dk d1 2))) else 0))) 0)) + List.length ([UInt8.ofNat 32] ++ U9 (Int.toNat (if u9 (C.elems (dk d1 0)) (Int.toNat (C.toInt (dk d1 2))) = 0 then Q3 (C.elems (dk d1 0)) (Int.toNat (C.toInt (dk d1 2)) + 1) (x8 (bN (C.elems (dk d1 0)) (Int.toNat (C.toInt (dk d1 2))))) else 0))) ≤ 140737488355328 then (bif Nat.beq (List.length (C.elems (dk d1 1))) (List.length (C.elems (dk d1 1))) then (k4 [dk d1 0, C.int (if u9 (C.elems (dk d1 0)) (Int.toNat (C.toInt (dk d1 2))) = 0 then (↑(Int.toNat (C.toInt (dk d1 2)) + 1 + x8 (bN (C.elems (dk d1 0)) (Int.toNat (C.toInt (dk d1 2))))) : Int) else 0), C.slice (C.elems (dk d1 1)), C.str (C.toStr (C.get (C.get (C.agg X1) (Int.toNat (if u9 (C.elems (dk d1 0)) (Int.toNat (C.toInt (dk d1 2))) = 0 then bN (C.elems (dk d1 0)) (Int.toNat (C.toInt (dk d1 2))) else 0))) 0) ++ ([UInt8.ofNat 32] ++ U9 (Int.toNat (if u9 (C.elems (dk d1 0)) (Int.toNat (C.toInt (dk d1 2))) = 0 then Q3 (C.elems (dk d1 0)) (Int.toNat (C.toInt (dk d1 2)) + 1) (x8 (bN (C.elems (dk d1 0)) (Int.toNat (C.toInt (dk d1 2))))) else 0))))] []) else none) else none) else none) else (bif Nat.beq (List.length (C.elems (dk d1 1))) (List.length (C.elems (dk d1 1))) then (k4 [dk d1 0, C.int (if u9 (C.elems (dk d1 0)) (Int.toNat (C.toInt (dk d1 2))) = 0 then (↑(Int.toNat (C.toInt (dk d1 2)) + 1 + x8 (bN (C.elems (dk d1 0)) (Int.toNat (C.toInt (dk d1 2))))) : Int) else 0), C.slice (C.elems (dk d1 1)), C.get (C.get (C.agg X1) (Int.toNat (if u9 (C.elems (dk d1 0)) (Int.toNat (C.toInt (dk d1 2))) = 0 then bN (C.elems (dk d1 0)) (Int.toNat (C.toInt (dk d1 2))) else 0))) 0] []) else none)))) else none) else none) else none) else (bif Nat.beq (List.length (C.elems (dk d1 1))) (List.length (C.elems (dk d1 1))) then (k2 [C.slice (C.elems (dk d1 1))] []) else none)))
noncomputable def q44 {R : Type} (N : Nat) (a0 : C) (k1 : KD R) : Option R := (bif !decide (Q7 (C.elems a0) = 0) then (k1 [C.str [], C.int (Q7 (C.elems a0))] []) else (jn (fun d1 m1 => (if List.length (q0U [UInt8.ofNat 10] (List.map (fun x => match x with | C.str l => l | x => []) (C.elems (dk d1 0)))) ≤ 140737488355328 then (k1 [C.str (q0U [UInt8.ofNat 10] (List.map (fun x => match x with | C.str l => l | x => []) (C.elems (dk d1 0)))), C.int 0] []) else none)) (fun k2 => (b6 N (q45 N k2) [a0, C.slice [], C.int 0] []))))
noncomputable def q1F {R : Type} (N : Nat) : C → KD R → Option R := lid "" (q44 N)
theorem z11 {R : Type} (N : Nat) (a0 : C) (k : KD R) : q1F N a0 k = q44 N a0 k := by unfold q1F; rw [Z8]
theorem z79 {R : Type} (N : Nat) (a0 : C) (K : V → List (Key × O) → Option R) : exF (X0 gl0) ((z13 N).ov R) H9 noX (fun f => bif Nat.beq f 5 then y0u else []) N 400 8 5 [.d (.slice 1 (.int .u8)) a0] A0 K =
  q1F N a0 (fun d1 m1 => K (V.tup [V.d Ty.str (dk d1 0), V.d (Ty.int IntKind.i64) (dk d1 1)]) []) := by
 rw [z11]
 exact (show _ = jn (fun d1 m1 => (K (V.tup [V.d Ty.str (dk d1 0), V.d (Ty.int IntKind.i64) (dk d1 1)]) [])) (q44 N a0) by kernel_rfl).trans (o5 _ _)
noncomputable def q8G (N : Nat) {R : Type} : OvG R := fun xs _ K => match xs with
 | [.d t0 a0] => if t0 = (.slice 1 (.int .u8)) then q1F N a0 (fun d1 m1 => K (V.tup [V.d Ty.str (dk d1 0), V.d (Ty.int IntKind.i64) (dk d1 1)]) []) else none
 | _ => none
theorem y0t (N : Nat) {R : Type} : GOk (X0 gl0) 5 (q8G N (R := R)) := by
 intro xs A Kr r hr
 unfold q8G at hr
 split at hr
 ·simp only [Option.ite_none_right_eq_some] at hr
  obtain ⟨hty, hr⟩ := hr
  subst hty
  rw [← z79] at hr
  exact okA (z13 N) hr
 ·cases hr
end Go.Proofs.YtdoajkacibicoaaDoor
