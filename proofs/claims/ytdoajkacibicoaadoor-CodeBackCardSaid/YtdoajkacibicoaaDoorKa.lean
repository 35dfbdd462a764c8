/-
 What the functions on the way compute, part 1.
 Conditions: none.
-/
import Derived.Test.YtdoajkacibicoaaDoorTf
import Derived.Laws.Externs
import Derived.Lib.Bytealg
import Derived.Lib.ItoaNum
import Derived.Shelf.LaysM
import Derived.Shelf.Pu.ParseUintPublic10
import Derived.Shelf.Strings.BuilderX
import Derived.Shelf.Strings.Count
import Derived.Shelf.Strings.OnBuilder
import Derived.Shelf.Strings.Search2
import Derived.Shelf.Strings.Search3
import Derived.Lib.ParseIntBCases
import Derived.Lib.SplitLaws
import Derived.Shelf.Strings.SplitCore
import Derived.Lib.IndexLaws
import Derived.Shelf.Strconv.Itoa3
set_option linter.all false
namespace Go.Proofs.YtdoajkacibicoaaDoor
open Go Go.E
set_option maxRecDepth 10000
set_option maxHeartbeats 4000000
set_option linter.unusedSimpArgs false
variable {gl : Nat → Option (Ty × C)}
def q0U (l : List UInt8) (m c : Int) : C := .agg [.str l, .int m, .int c]
def Z5 : List C := [q0U [104, 97, 108, 116] 0 1, q0U [112, 117, 115, 104] 8 1, q0U [108, 111, 97, 100] 1 1, q0U [97, 100, 100] 0 1, q0U [115, 117, 98] 0 1, q0U [109, 117, 108] 0 3,
 q0U [108, 101, 115, 115] 0 1, q0U [115, 97, 109, 101] 0 1, q0U [110, 111, 116] 0 1, q0U [98, 111, 116, 104] 0 1, q0U [97, 110, 121] 0 1, q0U [106, 117, 109, 112] 2 1, q0U [105, 102] 2 1,
 q0U [116, 119, 105, 99, 101] 0 1, q0U [115, 119, 97, 112] 0 1, q0U [100, 114, 111, 112] 0 1, q0U [112, 97, 105, 100] 1 10, q0U [110, 111, 119] 0 1]
def GF (gl : Nat → Option (Ty × C)) : Prop := gl 0 = some (.arr 18 F5, .agg Z5)
def y5 (o : Int) : Nat := if o = 1 then 8 else if o = 2 ∨ o = 16 then 1 else if o = 11 ∨ o = 12 then 2 else 0
theorem q8B (o : Int) : y5 o ≤ 8 := by unfold y5; (repeat' split) <;> omega
theorem q8Q : ∀ (o : Nat), o < 18 → (Z5.getD o .nil).get 1 = .int (y5 o) := by
 intro o h
 have c : o = 0 ∨ o = 1 ∨ o = 2 ∨ o = 3 ∨ o = 4 ∨ o = 5 ∨ o = 6 ∨ o = 7 ∨ o = 8 ∨ o = 9 ∨ o = 10 ∨ o = 11 ∨ o = 12 ∨ o = 13 ∨ o = 14 ∨ o = 15 ∨ o = 16 ∨ o = 17 := by omega
 rcases c with rfl | rfl | rfl | rfl | rfl | rfl | rfl | rfl | rfl | rfl | rfl | rfl | rfl | rfl | rfl | rfl | rfl | rfl <;> rfl
def bN (p : List C) (i : Nat) : Int := (p.getD i .nil).toInt
def b6 (p : List C) (i : Nat) : Nat → Int
 | 0 => 0
 | k + 1 => b6 p i k * 256 + bN p (i + k)
def o6 (p : List C) (i : Nat) : Int :=
 if p.length ≤ i then 9 else if 18 ≤ bN p i then 33 else if p.length < i + 1 + y5 (bN p i) then 9 else 0
theorem q7k {p : List C} (h : C.wf (.slice 1 (.int .u8)) (.slice p)) {i : Nat} (hi : i < p.length) : p.getD i .nil = .int (bN p i) ∧ 0 ≤ bN p i ∧ bN p i ≤ 255 := by
 have := C.y40 (i := i) h hi
 simp only [C.elems, C.wf] at this
 have m1 : IntKind.u8.min = 0 := by decide
 have m2 : IntKind.u8.max = 255 := by decide
 exact ⟨this.1, by unfold bN; omega, by unfold bN; omega⟩
theorem z4R {p : List C} (h : C.wf (.slice 1 (.int .u8)) (.slice p)) {i : Nat} : ∀ {k : Nat}, i + k ≤ p.length → 0 ≤ b6 p i k ∧ b6 p i k < 256 ^ k
 | 0, _ => by simp [b6]
 | k + 1, hk => by
  have ih := z4R h (k := k) (i := i) (by omega)
  have hb := q7k h (i := i + k) (by omega)
  simp only [b6]
  have e : (256 : Int) ^ (k + 1) = 256 ^ k * 256 := by rw [Int.pow_succ]
  omega
theorem z4S {p : List C} (h : C.wf (.slice 1 (.int .u8)) (.slice p)) {i k : Nat} (hk : i + k ≤ p.length) (h8 : k ≤ 8) : 0 ≤ b6 p i k ∧ b6 p i k ≤ 18446744073709551615 ∧ (k < 8 → b6 p i k < 72057594037927936) := by
 obtain ⟨h1, h2⟩ := z4R h hk
 have c : k = 0 ∨ k = 1 ∨ k = 2 ∨ k = 3 ∨ k = 4 ∨ k = 5 ∨ k = 6 ∨ k = 7 ∨ k = 8 := by omega
 rcases c with rfl | rfl | rfl | rfl | rfl | rfl | rfl | rfl | rfl <;> simp at h2 <;> omega
theorem y5h {a b : Int} (ha : 0 ≤ a) (ha2 : a < 72057594037927936) (hb : 0 ≤ b) (hb2 : b ≤ 255) : q0y .or .u64 (a * 256) b = a * 256 + b := by
 obtain ⟨x, rfl⟩ := Int.eq_ofNat_of_zero_le ha
 obtain ⟨y, rfl⟩ := Int.eq_ofNat_of_zero_le hb
 have hx : x < 72057594037927936 := by omega
 have hy : y < 256 := by omega
 have e1 : ((x : Int) * 256) = ((x * 256 : Nat) : Int) := by omega
 have key : (x * 256) ||| y = x * 256 + y := by
  have := Nat.two_pow_add_eq_or_of_lt (i := 8) (b := y) (by omega) x
  rw [Nat.mul_comm x 256]
  exact this.symm
 rw [e1]
 show IntKind.u64.wrap (((BitVec.ofInt 64 ((x * 256 : Nat) : Int)) ||| (BitVec.ofInt 64 ((y : Nat) : Int))).toNat : Int) = _
 simp only [BitVec.toNat_or, BitVec.ofInt_natCast, BitVec.toNat_ofNat]
 rw [Nat.mod_eq_of_lt (by omega), Nat.mod_eq_of_lt (by omega), key]
 have m1 : IntKind.u64.min = 0 := by decide
 have m2 : IntKind.u64.max = 18446744073709551615 := by decide
 exact (q7K (by omega) (by omega)).trans (by omega)
def q6I (p : List C) (i : Nat) : V := .tup [.d (.int .i64) (.int (if o6 p i = 0 then bN p i else 0)), .d (.int .u64) (.int (if o6 p i = 0 then b6 p (i + 1) (y5 (bN p i)) else 0)),
 .d (.int .i64) (.int (if o6 p i = 0 then ((i + 1 + y5 (bN p i) : Nat) : Int) else 0)), .d (.int .i64) (.int (o6 p i))]
theorem z3X (hg : GF gl) (A : Key → Option O) (p : List C) (at_ : Nat) (hl : p.length ≤ 256) (hat : at_ ≤ 100000) : r9 (X0 gl) 12 [.d (.slice 1 (.int .u8)) (.slice p), .d (.int .i64) (.int at_)] A (q6I p at_) [] := by
 refine q6O (n := 51) (ok0 gl) Tryd.func12 rfl rfl (by simp) ?_
 intro A' hA
 refine y4m fun W => ?_
 have hw : C.wf (.slice 1 (.int .u8)) (.slice p) := W.at (t := 0) rfl
 clear W
 refine x9 (x4 (ok0 gl) [] (by kernel_rfl) ?_)
 simp only [go_sem, ↓u6, ↓u7, ↓u9, ↓s5, ↓u5, ↓v8, ↓u0, ↓u2, ↓u1, reduceCtorEq, Nat.reduceEqDiff, ↓reduceIte, Nat.reduceAdd, Nat.reduceSub, Nat.reduceLT, Nat.reduceMul, Nat.reduceBEq, Int.reduceLE, Int.reduceLT, Int.reduceAdd, Int.reduceSub, Int.reduceToNat, Int.reduceNeg, Int.reduceMul, Nat.reduceLeDiff]
 by_cases h1 : p.length ≤ at_
 ·have h1' : (p.length : Int) ≤ (at_ : Int) := by omega
  have e : o6 p at_ = 9 := by unfold o6; rw [if_pos h1]
  refine x9 (x9 (x4 (ok0 gl) [] (by kernel_rfl) ?_))
  simp only [go_sem, ↓u6, ↓u7, ↓u9, ↓s5, ↓u5, ↓v8, ↓u0, ↓u2, ↓u1, reduceCtorEq, Nat.reduceEqDiff, ↓reduceIte, Nat.reduceAdd, Nat.reduceSub, Nat.reduceLT, Nat.reduceMul, Nat.reduceBEq, Int.reduceLE, Int.reduceLT, Int.reduceAdd, Int.reduceSub, Int.reduceToNat, Int.reduceNeg, Int.reduceMul, Nat.reduceLeDiff, h1']
  refine W6 _ rfl (fun _ => ?_) (fun h => by simp at h)   -- on t13
  refine x9 (x4 (ok0 gl) [] (by kernel_rfl) ?_)
  simp only [go_sem, ↓u6, ↓u7, ↓u9, ↓s5, ↓u5, ↓v8, ↓u0, ↓u2, ↓u1, reduceCtorEq, Nat.reduceEqDiff, ↓reduceIte, Nat.reduceAdd, Nat.reduceSub, Nat.reduceLT, Nat.reduceMul, Nat.reduceBEq, Int.reduceLE, Int.reduceLT, Int.reduceAdd, Int.reduceSub, Int.reduceToNat, Int.reduceNeg, Int.reduceMul, Nat.reduceLeDiff]
  refine q35 ⟨.inr rfl, ?_⟩
  simp only [q3j, go_sem, ↓u6, ↓u7, ↓u9, ↓s5, ↓u5, ↓v8, ↓u0, ↓u2, ↓u1, reduceCtorEq, Nat.reduceEqDiff, ↓reduceIte, Nat.reduceAdd, Nat.reduceSub, Nat.reduceLT, Nat.reduceMul, Nat.reduceBEq, Int.reduceLE, Int.reduceLT, Int.reduceAdd, Int.reduceSub, Int.reduceToNat, Int.reduceNeg, Int.reduceMul, Nat.reduceLeDiff, Tryd.f12, q6I, e, Int.reduceEq, reduceIte] <;> try rfl
 ·have h1' : ¬ (p.length : Int) ≤ (at_ : Int) := by omega
  have hlt : (at_ : Int) < (p.length : Int) := by omega
  have e1 : ((at_ : Int).toNat) = at_ := Int.toNat_natCast _
  obtain ⟨b1, b2, b3⟩ := q7k hw (i := at_) (by omega)
  refine x9 (x9 (x4 (ok0 gl) [] (by kernel_rfl) ?_))
  simp only [go_sem, ↓u6, ↓u7, ↓u9, ↓s5, ↓u5, ↓v8, ↓u0, ↓u2, ↓u1, reduceCtorEq, Nat.reduceEqDiff, ↓reduceIte, Nat.reduceAdd, Nat.reduceSub, Nat.reduceLT, Nat.reduceMul, Nat.reduceBEq, Int.reduceLE, Int.reduceLT, Int.reduceAdd, Int.reduceSub, Int.reduceToNat, Int.reduceNeg, Int.reduceMul, Nat.reduceLeDiff, h1']
  refine W6 _ rfl (fun h => by simp at h) (fun _ => q02 ?_)   -- on t13
  have w1 : IntKind.i64.wrap (bN p at_) = bN p at_ := IntWalk.i64_in _ (by omega)
  refine x9 (x4 (ok0 gl) [] (by kernel_rfl) ?_)
  simp only [go_sem, ↓u6, ↓u7, ↓u9, ↓s5, ↓u5, ↓v8, ↓u0, ↓u2, ↓u1, reduceCtorEq, Nat.reduceEqDiff, ↓reduceIte, Nat.reduceAdd, Nat.reduceSub, Nat.reduceLT, Nat.reduceMul, Nat.reduceBEq, Int.reduceLE, Int.reduceLT, Int.reduceAdd, Int.reduceSub, Int.reduceToNat, Int.reduceNeg, Int.reduceMul, Nat.reduceLeDiff, hlt, e1, b1, w1]
  refine ⟨by omega, ?_⟩
  by_cases h2 : 18 ≤ bN p at_
  ·have e : o6 p at_ = 33 := by unfold o6; rw [if_neg h1, if_pos h2]
   refine x9 (x9 (x4 (ok0 gl) [] (by kernel_rfl) ?_))
   simp only [go_sem, ↓u6, ↓u7, ↓u9, ↓s5, ↓u5, ↓v8, ↓u0, ↓u2, ↓u1, reduceCtorEq, Nat.reduceEqDiff, ↓reduceIte, Nat.reduceAdd, Nat.reduceSub, Nat.reduceLT, Nat.reduceMul, Nat.reduceBEq, Int.reduceLE, Int.reduceLT, Int.reduceAdd, Int.reduceSub, Int.reduceToNat, Int.reduceNeg, Int.reduceMul, Nat.reduceLeDiff, h2]
   refine W6 _ rfl (fun _ => ?_) (fun h => by simp at h)   -- on t20
   refine x9 (x4 (ok0 gl) [] (by kernel_rfl) ?_)
   simp only [go_sem, ↓u6, ↓u7, ↓u9, ↓s5, ↓u5, ↓v8, ↓u0, ↓u2, ↓u1, reduceCtorEq, Nat.reduceEqDiff, ↓reduceIte, Nat.reduceAdd, Nat.reduceSub, Nat.reduceLT, Nat.reduceMul, Nat.reduceBEq, Int.reduceLE, Int.reduceLT, Int.reduceAdd, Int.reduceSub, Int.reduceToNat, Int.reduceNeg, Int.reduceMul, Nat.reduceLeDiff]
   refine q35 ⟨.inr rfl, ?_⟩
   simp only [q3j, go_sem, ↓u6, ↓u7, ↓u9, ↓s5, ↓u5, ↓v8, ↓u0, ↓u2, ↓u1, reduceCtorEq, Nat.reduceEqDiff, ↓reduceIte, Nat.reduceAdd, Nat.reduceSub, Nat.reduceLT, Nat.reduceMul, Nat.reduceBEq, Int.reduceLE, Int.reduceLT, Int.reduceAdd, Int.reduceSub, Int.reduceToNat, Int.reduceNeg, Int.reduceMul, Nat.reduceLeDiff, Tryd.f12, q6I, e, Int.reduceEq, reduceIte] <;> try rfl
  ·refine x9 (x9 (x4 (ok0 gl) [] (by kernel_rfl) ?_))
   simp only [go_sem, ↓u6, ↓u7, ↓u9, ↓s5, ↓u5, ↓v8, ↓u0, ↓u2, ↓u1, reduceCtorEq, Nat.reduceEqDiff, ↓reduceIte, Nat.reduceAdd, Nat.reduceSub, Nat.reduceLT, Nat.reduceMul, Nat.reduceBEq, Int.reduceLE, Int.reduceLT, Int.reduceAdd, Int.reduceSub, Int.reduceToNat, Int.reduceNeg, Int.reduceMul, Nat.reduceLeDiff, h2]
   refine W6 _ rfl (fun h => by simp at h) (fun _ => q02 ?_)   -- on t20
   have hm : (Z5.getD (bN p at_).toNat .nil).get 1 = .int (y5 (bN p at_)) := by
    have := q8Q (bN p at_).toNat (by omega)
    rwa [Int.toNat_of_nonneg b2] at this
   have hg' : gl 0 = _ := hg
   have m8 := q8B (bN p at_)
   generalize hmm : y5 (bN p at_) = m at hm m8
   have w2 : IntKind.i64.wrap ((at_ : Int) + 1) = (at_ : Int) + 1 := IntWalk.i64_in _ (by omega)
   have w3 : IntKind.i64.wrap ((at_ : Int) + 1 + (m : Int)) = (at_ : Int) + 1 + (m : Int) := IntWalk.i64_in _ (by omega)
   refine x9 (x4 (ok0 gl) [] (by kernel_rfl) ?_)
   simp only [go_sem, ↓u6, ↓u7, ↓u9, ↓s5, ↓u5, ↓v8, ↓u0, ↓u2, ↓u1, reduceCtorEq, Nat.reduceEqDiff, ↓reduceIte, Nat.reduceAdd, Nat.reduceSub, Nat.reduceLT, Nat.reduceMul, Nat.reduceBEq, Int.reduceLE, Int.reduceLT, Int.reduceAdd, Int.reduceSub, Int.reduceToNat, Int.reduceNeg, Int.reduceMul, Nat.reduceLeDiff, hg', hm, w2, w3]
   refine ⟨by omega, by omega, ?_⟩
   by_cases h3 : p.length < at_ + 1 + m
   ·have h3' : (p.length : Int) < (at_ : Int) + 1 + (m : Int) := by omega
    have e : o6 p at_ = 9 := by unfold o6; rw [if_neg h1, if_neg h2, hmm, if_pos h3]
    refine x9 (x9 (x4 (ok0 gl) [] (by kernel_rfl) ?_))
    simp only [go_sem, ↓u6, ↓u7, ↓u9, ↓s5, ↓u5, ↓v8, ↓u0, ↓u2, ↓u1, reduceCtorEq, Nat.reduceEqDiff, ↓reduceIte, Nat.reduceAdd, Nat.reduceSub, Nat.reduceLT, Nat.reduceMul, Nat.reduceBEq, Int.reduceLE, Int.reduceLT, Int.reduceAdd, Int.reduceSub, Int.reduceToNat, Int.reduceNeg, Int.reduceMul, Nat.reduceLeDiff, h3']
    refine W6 _ rfl (fun _ => ?_) (fun h => by simp at h)   -- on t31
    refine x9 (x4 (ok0 gl) [] (by kernel_rfl) ?_)
    simp only [go_sem, ↓u6, ↓u7, ↓u9, ↓s5, ↓u5, ↓v8, ↓u0, ↓u2, ↓u1, reduceCtorEq, Nat.reduceEqDiff, ↓reduceIte, Nat.reduceAdd, Nat.reduceSub, Nat.reduceLT, Nat.reduceMul, Nat.reduceBEq, Int.reduceLE, Int.reduceLT, Int.reduceAdd, Int.reduceSub, Int.reduceToNat, Int.reduceNeg, Int.reduceMul, Nat.reduceLeDiff]
    refine q35 ⟨.inr rfl, ?_⟩
    simp only [q3j, go_sem, ↓u6, ↓u7, ↓u9, ↓s5, ↓u5, ↓v8, ↓u0, ↓u2, ↓u1, reduceCtorEq, Nat.reduceEqDiff, ↓reduceIte, Nat.reduceAdd, Nat.reduceSub, Nat.reduceLT, Nat.reduceMul, Nat.reduceBEq, Int.reduceLE, Int.reduceLT, Int.reduceAdd, Int.reduceSub, Int.reduceToNat, Int.reduceNeg, Int.reduceMul, Nat.reduceLeDiff, Tryd.f12, q6I, e, Int.reduceEq, reduceIte] <;> try rfl
   ·have h3' : ¬ (p.length : Int) < (at_ : Int) + 1 + (m : Int) := by omega
    have e : o6 p at_ = 0 := by unfold o6; rw [if_neg h1, if_neg h2, hmm, if_neg h3]
    refine x9 (x9 (x4 (ok0 gl) [] (by kernel_rfl) ?_))
    simp only [go_sem, ↓u6, ↓u7, ↓u9, ↓s5, ↓u5, ↓v8, ↓u0, ↓u2, ↓u1, reduceCtorEq, Nat.reduceEqDiff, ↓reduceIte, Nat.reduceAdd, Nat.reduceSub, Nat.reduceLT, Nat.reduceMul, Nat.reduceBEq, Int.reduceLE, Int.reduceLT, Int.reduceAdd, Int.reduceSub, Int.reduceToNat, Int.reduceNeg, Int.reduceMul, Nat.reduceLeDiff, h3']
    refine W6 _ rfl (fun h => by simp at h) (fun _ => q02 ?_)   -- on t31
    have e2 : ((at_ : Int) + 1 + (m : Int)).toNat = at_ + 1 + m := by omega
    have e3 : ((at_ : Int) + 1).toNat = at_ + 1 := by omega
    refine x9 (x9 (x4 (ok0 gl) [] (by kernel_rfl) ?_))
    simp only [go_sem, ↓u6, ↓u7, ↓u9, ↓s5, ↓u5, ↓v8, ↓u0, ↓u2, ↓u1, reduceCtorEq, Nat.reduceEqDiff, ↓reduceIte, Nat.reduceAdd, Nat.reduceSub, Nat.reduceLT, Nat.reduceMul, Nat.reduceBEq, Int.reduceLE, Int.reduceLT, Int.reduceAdd, Int.reduceSub, Int.reduceToNat, Int.reduceNeg, Int.reduceMul, Nat.reduceLeDiff, w2, e2, e3]
    refine ⟨by omega, by omega, by omega, ?_⟩
    have hql : (List.drop (at_ + 1) (List.take (at_ + 1 + m) p)).length = m := by simp; omega
    have hqe : ∀ i, i < m → (List.drop (at_ + 1) (List.take (at_ + 1 + m) p)).getD i .nil = .int (bN p (at_ + 1 + i)) := by
     intro i hi
     rw [← (q7k hw (i := at_ + 1 + i) (by omega)).1]
     simp [List.getD_eq_getElem?_getD, List.getElem?_drop, List.getElem?_take, show at_ + 1 + i < at_ + 1 + m by omega]
    generalize hq : List.drop (at_ + 1) (List.take (at_ + 1 + m) p) = q at hql hqe
    simp only [hql]
    refine q1i (z8s (fun i => ⟨[(38, .d (.int .i64) (.int i)), (37, .d (.int .i64) (.int m)), (36, .d (.slice 1 (.int .u8)) (.slice q)), (6, .d (.int .i64) (.int ((at_ : Int) + 1 + (m : Int)))), (5, .d (.int .u64) (.int (b6 p (at_ + 1) i))), (4, .d (.int .i64) (.int (bN p at_))), (7, .d (.int .i64) (.int 0)), (0, .d (.slice 1 (.int .u8)) (.slice p)), (1, .d (.int .i64) (.int at_))], [], A', []⟩) m (fun _ => True) ?_ trivial ?_)
    ·refine q10 rfl ?_ ?_ ?_ ?_ ?_ <;> simp only [go_sem, ↓u6, ↓u7, ↓u9, ↓s5, ↓u5, ↓v8, ↓u0, ↓u2, ↓u1, reduceCtorEq, Nat.reduceEqDiff, ↓reduceIte, Nat.reduceAdd, Nat.reduceSub, Nat.reduceLT, Nat.reduceMul, Nat.reduceBEq, Int.reduceLE, Int.reduceLT, Int.reduceAdd, Int.reduceSub, Int.reduceToNat, Int.reduceNeg, Int.reduceMul, Nat.reduceLeDiff]
     all_goals first | (simp only [b6]; done) | (simp only [b6]; exact ⟨rfl, trivial⟩)
    ·intro i hi _
     refine x9 (x4 (ok0 gl) [] (by kernel_rfl) ?_)
     simp only [go_sem, ↓u6, ↓u7, ↓u9, ↓s5, ↓u5, ↓v8, ↓u0, ↓u2, ↓u1, reduceCtorEq, Nat.reduceEqDiff, ↓reduceIte, Nat.reduceAdd, Nat.reduceSub, Nat.reduceLT, Nat.reduceMul, Nat.reduceBEq, Int.reduceLE, Int.reduceLT, Int.reduceAdd, Int.reduceSub, Int.reduceToNat, Int.reduceNeg, Int.reduceMul, Nat.reduceLeDiff]
     refine x9 (W6 _ rfl (fun hlt => q02 ?_) (fun hge => z1l ?_))
     ·have hlt : i < m := by simpa using hlt
      have e4 : ((i : Int).toNat) = i := Int.toNat_natCast i
      have hqi := hqe i hlt
      obtain ⟨a1, a2, a3⟩ := z4S hw (i := at_ + 1) (k := i) (by omega) (by omega)
      obtain ⟨_, c2, c3⟩ := q7k hw (i := at_ + 1 + i) (by omega)
      have w4 : IntKind.u64.wrap (bN p (at_ + 1 + i)) = bN p (at_ + 1 + i) := q7K (by have : IntKind.u64.min = 0 := by decide
                                                                                      omega) (by have : IntKind.u64.max = 18446744073709551615 := by decide
                                                                                                 omega)
      have w5 : IntKind.u64.wrap (b6 p (at_ + 1) i * 256) = b6 p (at_ + 1) i * 256 := q7K (by have : IntKind.u64.min = 0 := by decide
                                                                                              omega) (by have : IntKind.u64.max = 18446744073709551615 := by decide
                                                                                                         omega)
      have w6 := y5h a1 (a3 (by omega)) c2 c3
      refine x9 (q1i (x9 (x4 (ok0 gl) [] (by kernel_rfl) ?_)))
      simp only [go_sem, ↓u6, ↓u7, ↓u9, ↓s5, ↓u5, ↓v8, ↓u0, ↓u2, ↓u1, reduceCtorEq, Nat.reduceEqDiff, ↓reduceIte, Nat.reduceAdd, Nat.reduceSub, Nat.reduceLT, Nat.reduceMul, Nat.reduceBEq, Int.reduceLE, Int.reduceLT, Int.reduceAdd, Int.reduceSub, Int.reduceToNat, Int.reduceNeg, Int.reduceMul, Nat.reduceLeDiff, e4, hqi, hql]
      refine ⟨by omega, by omega, ?_⟩
      have hp : ((2 : Int) ^ min 8 64) = 256 := by decide
      refine x4 (ok0 gl) [] (by kernel_rfl) ?_
      simp only [go_sem, ↓u6, ↓u7, ↓u9, ↓s5, ↓u5, ↓v8, ↓u0, ↓u2, ↓u1, reduceCtorEq, Nat.reduceEqDiff, ↓reduceIte, Nat.reduceAdd, Nat.reduceSub, Nat.reduceLT, Nat.reduceMul, Nat.reduceBEq, Int.reduceLE, Int.reduceLT, Int.reduceAdd, Int.reduceSub, Int.reduceToNat, Int.reduceNeg, Int.reduceMul, Nat.reduceLeDiff, w4, hp, w5, w6]
      refine x4 (ok0 gl) [] (by kernel_rfl) ?_
      simp only [go_sem, ↓u6, ↓u7, ↓u9, ↓s5, ↓u5, ↓v8, ↓u0, ↓u2, ↓u1, reduceCtorEq, Nat.reduceEqDiff, ↓reduceIte, Nat.reduceAdd, Nat.reduceSub, Nat.reduceLT, Nat.reduceMul, Nat.reduceBEq, Int.reduceLE, Int.reduceLT, Int.reduceAdd, Int.reduceSub, Int.reduceToNat, Int.reduceNeg, Int.reduceMul, Nat.reduceLeDiff]
      refine ⟨hlt, ?_⟩
      have e7 : b6 p (at_ + 1) (i + 1) = b6 p (at_ + 1) i * 256 + bN p (at_ + 1 + i) := rfl
      rw [e7, IntWalk.i64_in _ (by omega)]
      refine q10 rfl ?_ ?_ ?_ ?_ ?_ <;> simp only [go_sem, ↓u6, ↓u7, ↓u9, ↓s5, ↓u5, ↓v8, ↓u0, ↓u2, ↓u1, reduceCtorEq, Nat.reduceEqDiff, ↓reduceIte, Nat.reduceAdd, Nat.reduceSub, Nat.reduceLT, Nat.reduceMul, Nat.reduceBEq, Int.reduceLE, Int.reduceLT, Int.reduceAdd, Int.reduceSub, Int.reduceToNat, Int.reduceNeg, Int.reduceMul, Nat.reduceLeDiff]
      rfl
     ·have hge : m ≤ i := by simpa using hge
      obtain rfl : i = m := by omega
      refine x9 (x4 (ok0 gl) [] (by kernel_rfl) ?_)
      simp only [go_sem, ↓u6, ↓u7, ↓u9, ↓s5, ↓u5, ↓v8, ↓u0, ↓u2, ↓u1, reduceCtorEq, Nat.reduceEqDiff, ↓reduceIte, Nat.reduceAdd, Nat.reduceSub, Nat.reduceLT, Nat.reduceMul, Nat.reduceBEq, Int.reduceLE, Int.reduceLT, Int.reduceAdd, Int.reduceSub, Int.reduceToNat, Int.reduceNeg, Int.reduceMul, Nat.reduceLeDiff]
      have e5 : ((at_ : Int) + 1 + (i : Int)) = ((at_ + 1 + i : Nat) : Int) := by omega
      simp only [e5]
      refine q35 ⟨.inr rfl, ?_⟩
      simp only [q3j, go_sem, ↓u6, ↓u7, ↓u9, ↓s5, ↓u5, ↓v8, ↓u0, ↓u2, ↓u1, reduceCtorEq, Nat.reduceEqDiff, ↓reduceIte, Nat.reduceAdd, Nat.reduceSub, Nat.reduceLT, Nat.reduceMul, Nat.reduceBEq, Int.reduceLE, Int.reduceLT, Int.reduceAdd, Int.reduceSub, Int.reduceToNat, Int.reduceNeg, Int.reduceMul, Nat.reduceLeDiff, Tryd.f12, q6I, e, hmm, reduceIte] <;> try rfl
end Go.Proofs.YtdoajkacibicoaaDoor
namespace Go.Proofs.YtdoajkacibicoaaDoor
open Go Go.E
set_option maxRecDepth 10000
set_option linter.unusedSimpArgs false
variable {gl : Nat → Option (Ty × C)}
end Go.Proofs.YtdoajkacibicoaaDoor
namespace Go.Proofs.YtdoajkacibicoaaDoor
open Go Go.E
set_option maxRecDepth 10000
set_option linter.unusedSimpArgs false
variable {gl : Nat → Option (Ty × C)}
theorem y1r (a b : C) : q7l (X0 gl) 71 [.d (.int .u64) a, .d (.int .u64) b, .d (.int .u64) (.int 0)] (.tup [.d (.int .u64) (.int ((a.toInt + b.toInt) % 18446744073709551616)), .d (.int .u64) (.int ((a.toInt + b.toInt) / 18446744073709551616))]) := by
 intro Γ w args hl hr
 have hs : args.size = 3 := hl.symm
 obtain ⟨e1, _, l1, m1⟩ := k6 (hr 0 _ _ rfl (Array.getElem?_eq_getElem (by omega)))
 obtain ⟨e2, _, l2, m2⟩ := k6 (hr 1 _ _ rfl (Array.getElem?_eq_getElem (by omega)))
 obtain ⟨e3, _, _, _⟩ := k6 (hr 2 _ _ rfl (Array.getElem?_eq_getElem (by omega)))
 have ea : args = #[.int .u64 a.toInt, .int .u64 b.toInt, .int .u64 0] := by
  apply Array.ext
  ·simpa using hs
  ·intro i h1 h2
   match i with
   | 0 => simpa using e1
   | 1 => simpa using e2
   | 2 => simpa [C.toInt] using e3
   | i + 3 => omega
 have z : IntKind.u64.min = 0 := by decide
 have z' : IntKind.u64.max = 18446744073709551615 := by decide
 refine ⟨.tuple #[.int .u64 ((a.toInt + b.toInt) % 18446744073709551616), .int .u64 ((a.toInt + b.toInt) / 18446744073709551616)], ?_, #[_, _], rfl, ?_⟩
 ·have hrun := run_callFunc_extern (P := (X0 gl).P) (f := 71) (fn := Tryd.f71) (e := add64Entry) Tryd.func71 (by decide) rfl (by kernel_rfl) (by kernel_rfl) args w
  rw [hrun, ea, run_add64 _ _ _ (by omega) (by omega) (by omega) (by omega)]
  simp
 ·refine q3K rfl fun i x u hx hu => ?_
  match i with
  | 0 => simp at hx hu; subst hx; subst hu; exact ⟨rfl, s9 (by omega) (by omega)⟩
  | 1 => simp at hx hu; subst hx; subst hu; exact ⟨rfl, s9 (by omega) (by omega)⟩
  | i + 2 => simp at hx
end Go.Proofs.YtdoajkacibicoaaDoor
namespace Go.Proofs.YtdoajkacibicoaaDoor
open Go Go.E
set_option maxRecDepth 100000
def q8L : List V → Option V := fun xs => match xs with
 | [.d .str s, .d (.int .u8) b] => some (.d (.int .i64) (.int (Go.Lib.indexByte s.toStr b.toInt.toNat.toUInt8)))
 | _ => none
def z8x : List V → Option V := fun xs => match xs with
 | [.d .str s, .d (.int .u8) b] => some (.d (.int .i64) (.int (Go.Lib.countByte s.toStr b.toInt.toNat.toUInt8 : Nat)))
 | _ => none
theorem z0k (c : UInt8) : ∀ l : List UInt8, Go.Lib.indexByte l c < (l.length : Int) ∨ l = []
 | [] => .inr rfl
 | b :: l => by
  left
  unfold Go.Lib.indexByte
  simp only [List.length_cons]
  rcases z0k c l with h | h
  ·split
   ·omega
   ·split <;> omega
  ·subst h
   split
   ·simp
   ·simp [Go.Lib.indexByte]
theorem z6f (gl : Nat → Option (Ty × C)) (xs : List V) (v : V) (h : q8L xs = some v) : q7l (X0 gl) 83 xs v := by
 unfold q8L at h
 split at h
 ·rename_i s b
  cases h
  intro Γ w args hl hr
  have hs : args.size = 2 := hl.symm
  obtain ⟨e1, _, h1⟩ := Y7 (hr 0 _ _ rfl (Array.getElem?_eq_getElem (by omega)))
  obtain ⟨e2, _, _, _⟩ := k6 (hr 1 _ _ rfl (Array.getElem?_eq_getElem (by omega)))
  have ea : args = #[.string ⟨s.toStr.toArray⟩, .int .u8 b.toInt] := by
   apply Array.ext
   ·simpa using hs
   ·intro i h1 h2
    match i with
    | 0 => simpa using e1
    | 1 => simpa using e2
    | i + 2 => omega
  refine ⟨.int .i64 (Go.Lib.indexByte s.toStr b.toInt.toNat.toUInt8), ?_, ?_⟩
  ·have hrun := run_callFunc_extern (P := (X0 gl).P) (f := 83) (fn := Tryd.f83) (e := Extern.BytealgIndexByte.indexByte) Tryd.func83 (by decide) rfl (by kernel_rfl) (by kernel_rfl) args w
   rw [hrun, ea, Go.Lib.run_indexByteString]
   simp
  ·have m1 : IntKind.i64.min = -9223372036854775808 := by decide
   have m2 : IntKind.i64.max = 9223372036854775807 := by decide
   have q1 := Go.Lib.indexByte_ge s.toStr b.toInt.toNat.toUInt8
   have q2 : Go.Lib.indexByte s.toStr b.toInt.toNat.toUInt8 ≤ 140737488355328 := by
    rcases z0k b.toInt.toNat.toUInt8 s.toStr with h | h
    ·omega
    ·rw [h]; simp [Go.Lib.indexByte]
   exact s9 (by omega) (by omega)
 ·cases h
theorem y2M (gl : Nat → Option (Ty × C)) (xs : List V) (v : V) (h : z8x xs = some v) : q7l (X0 gl) 63 xs v := by
 unfold z8x at h
 split at h
 ·rename_i s b
  cases h
  intro Γ w args hl hr
  have hs : args.size = 2 := hl.symm
  obtain ⟨e1, _, h1⟩ := Y7 (hr 0 _ _ rfl (Array.getElem?_eq_getElem (by omega)))
  obtain ⟨e2, _, _, _⟩ := k6 (hr 1 _ _ rfl (Array.getElem?_eq_getElem (by omega)))
  have ea : args = #[.string ⟨s.toStr.toArray⟩, .int .u8 b.toInt] := by
   apply Array.ext
   ·simpa using hs
   ·intro i h1 h2
    match i with
    | 0 => simpa using e1
    | 1 => simpa using e2
    | i + 2 => omega
  refine ⟨.int .i64 (Go.Lib.countByte s.toStr b.toInt.toNat.toUInt8 : Nat), ?_, ?_⟩
  ·have hrun := run_callFunc_extern (P := (X0 gl).P) (f := 63) (fn := Tryd.f63) (e := Extern.BytealgCount.count) Tryd.func63 (by decide) rfl (by kernel_rfl) (by kernel_rfl) args w
   rw [hrun, ea, Go.Lib.run_countString]
   simp
  ·have m1 : IntKind.i64.min = -9223372036854775808 := by decide
   have m2 : IntKind.i64.max = 9223372036854775807 := by decide
   have q : Go.Lib.countByte s.toStr b.toInt.toNat.toUInt8 ≤ s.toStr.length := List.count_le_length
   exact s9 (by omega) (by omega)
 ·cases h
def q54 : List (Nat × Ty × C) → Nat → Option (Ty × C)
 | [], _ => none
 | (i, x) :: l, g => bif Nat.beq g i then some x else q54 l g
theorem z5r {gl : Nat → Option (Ty × C)} : ∀ {l : List (Nat × Ty × C)}, l.map (fun p => gl p.1) = l.map (fun p => some p.2) → ∀ g x, q54 l g = some x → gl g = some x
 | [], _, g, x, h => by cases h
 | (i, y) :: l, h0, g, x, h => by
  simp only [List.map_cons, List.cons.injEq] at h0
  simp only [q54] at h
  cases hb : Nat.beq g i with
  | true =>
   rw [hb, cond_true] at h
   cases h
   rw [Nat.eq_of_beq_eq_true hb]; exact h0.1
  | false =>
   rw [hb, cond_false] at h
   exact z5r h0.2 g x h
def y3U : List (Nat × Ty × C) :=
 (0, .arr 18 F5, .agg Z5) ::
 (1, .arr 20 (.int .u64), .agg (Go.Lib.pow10Tab.map C.int)) ::
 (3, .iface, .bool true) ::
 (4, .iface, .bool true) ::
 []
def gl0 : Nat → Option (Ty × C) := q54 y3U
theorem gf0 : GF gl0 := rfl
theorem y5x (gl : Nat → Option (Ty × C)) (h : y3U.map (fun p => gl p.1) = y3U.map (fun p => some p.2)) : ∀ g x, gl0 g = some x → gl g = some x := z5r h
def z8O : List V → Option V := fun xs => match xs with
 | [.d (.int .u64) a, .d (.int .u64) b, .d (.int .u64) (.int c)] => if c = 0 then some (.tup [.d (.int .u64) (.int ((a.toInt + b.toInt) % 18446744073709551616)), .d (.int .u64) (.int ((a.toInt + b.toInt) / 18446744073709551616))]) else none
 | _ => none
def y34 : List (Nat × (List V → Option V)) := []
 ++ [(71, z8O)]
 ++ [(83, q8L)]
 ++ [(63, z8x)]
def q0X : q1R := z1b y34
theorem y5E (gl : Nat → Option (Ty × C)) : q5A (X0 gl) y34 := by
 unfold y34
 repeat' refine q5A.append ?_ ⟨?_, trivial⟩
 ·exact trivial
 ·intro xs v h
  have h : z8O xs = some v := h
  show q7l (X0 gl) 71 xs v
  unfold z8O at h
  split at h
  ·simp only [Option.ite_none_right_eq_some, Option.some.injEq] at h
   obtain ⟨rfl, rfl⟩ := h
   exact y1r _ _
  ·cases h
 ·exact z6f gl
 ·exact y2M gl
theorem y5D (gl : Nat → Option (Ty × C)) : q4f (X0 gl) q0X := z3C (y5E gl)
def noX : FuncId → Nat → List (Nat × Nat) := fun _ _ => []
end Go.Proofs.YtdoajkacibicoaaDoor
namespace Go.Proofs.YtdoajkacibicoaaDoor
open Go Go.E
theorem wrap_u8 (x : Int) : IntKind.u8.wrap x = x % 256 := by simp [IntKind.wrap, IntKind.bits, IntKind.signed]
theorem wrap_i64 {n : Int} (h : -9223372036854775808 ≤ n) (h2 : n < 9223372036854775808) : IntKind.i64.wrap n = n := IntWalk.i64_in _ (by omega)
theorem y3X {l : List C} {i : Nat} (h : i < l.length) : l.getD i .nil ∈ l := by
 rw [List.getD_eq_getElem?_getD, List.getElem?_eq_getElem h]; exact List.getElem_mem h
end Go.Proofs.YtdoajkacibicoaaDoor
set_option linter.all false
namespace Go.Proofs
open Go.Shelf Go.Lib Go.RowKit
def Tryd.z1H : Go.Shelf.Ren := ⟨fun | 156 => 14 | 165 => 24 | 166 => 25 | 169 => 26 | 240 => 38 | 241 => 39 | 276 => 59 | 277 => 60 | n => n, fun | 31 => 36 | 9 => 9 | 3 => 3 | 4 => 4 | 0 => 0 | 20 => 20 | 72 => 61 | 76 => 65 | 70 => 59 | 37 => 22 | 75 => 64 | 127 => 87 | 164 => 103 | 5 => 5 | 80 => 67 | n => n, fun | n => n⟩
theorem Tryd.y5r : Go.Proofs.Lays.n156 Tryd.prog Tryd.z1H := {
 mixed := by kernel_rfl
 f156 := Tryd.func14.trans (congrArg some (by kernel_rfl))
 f165 := Tryd.func24.trans (congrArg some (by kernel_rfl))
 f166 := Tryd.func25.trans (congrArg some (by kernel_rfl))
 f169 := Tryd.func26.trans (congrArg some (by kernel_rfl))
 f240 := Tryd.func38.trans (congrArg some (by kernel_rfl))
 f241 := Tryd.func39.trans (congrArg some (by kernel_rfl))
 f276 := Tryd.func59.trans (congrArg some (by kernel_rfl))
 f277 := Tryd.func60.trans (congrArg some (by kernel_rfl))
 t0 := Tryd.underlying0
 a0 := Tryd.isAgg0
 z0 := Tryd.sizeOf0
 v0 := Tryd.zeroValue0
 t3 := Tryd.underlying3
 a3 := Tryd.isAgg3
 z3 := Tryd.sizeOf3
 v3 := Tryd.zeroValue3
 t4 := Tryd.underlying4
 a4 := Tryd.isAgg4
 z4 := Tryd.sizeOf4
 v4 := Tryd.zeroValue4
 t9 := Tryd.underlying9
 a9 := Tryd.isAgg9
 z9 := Tryd.sizeOf9
 v9 := Tryd.zeroValue9
 t20 := Tryd.underlying20
 a20 := Tryd.isAgg20
 z20 := Tryd.sizeOf20
 v20 := Tryd.zeroValue20
 t31 := Tryd.underlying36
 a31 := Tryd.isAgg36
 z31 := Tryd.sizeOf36
 v31 := Tryd.zeroValue36
 t37 := Tryd.underlying22
 a37 := Tryd.isAgg22
 z37 := Tryd.sizeOf22
 v37 := Tryd.zeroValue22
 t70 := Tryd.underlying59
 a70 := Tryd.isAgg59
 z70 := Tryd.sizeOf59
 v70 := Tryd.zeroValue59
 t72 := Tryd.underlying61
 a72 := Tryd.isAgg61
 z72 := Tryd.sizeOf61
 v72 := Tryd.zeroValue61
 t75 := Tryd.underlying64
 a75 := Tryd.isAgg64
 z75 := Tryd.sizeOf64
 v75 := Tryd.zeroValue64
 t76 := Tryd.underlying65
 a76 := Tryd.isAgg65
 z76 := Tryd.sizeOf65
 v76 := Tryd.zeroValue65
 t127 := Tryd.underlying87
 a127 := Tryd.isAgg87
 z127 := Tryd.sizeOf87
 v127 := Tryd.zeroValue87
 t164 := Tryd.underlying103
 a164 := Tryd.isAgg103
 z164 := Tryd.sizeOf103
 v164 := Tryd.zeroValue103 }
theorem Tryd.z1u : Builder.Extra Tryd.prog Tryd.z1H := {
 sizeBuilder := by kernel_rfl
 liesBuilder := by kernel_rfl
 t5 := Tryd.underlying5
 a5 := Tryd.isAgg5
 z5 := Tryd.sizeOf5
 v5 := Tryd.zeroValue5
 infoByte := by kernel_rfl
 cellsByte := by kernel_rfl
 sizeByte := by kernel_rfl
 neB5 := by decide }
theorem Tryd.strings_Join (bk o c : Nat) (xs : List ByteArray) (sep : ByteArray) (w : World) (hcells : ∀ (j : Nat) x, xs[j]? = some x → w.cell? ⟨bk, o + j, none⟩ = some (.string x)) (hbk : bk < w.heap.size) (hN : xs.length ≤ 140737488355328) (hcap : xs.length ≤ c) (hlen : (Lib.join (xs.map (·.data.toList)) sep.data.toList).length ≤ 140737488355328) :
  Calls Tryd.prog 14 #[.slice (some ⟨bk, o, none⟩) xs.length c, .string sep] w fun e w' => e = .returned (.string ⟨(Lib.join (xs.map (·.data.toList)) sep.data.toList).toArray⟩) ∧ Below w.heap.size w w' := Any.strings_Join Tryd.y5r Tryd.z1u bk o c xs sep w hcells hbk hN hcap hlen
def Tryd.q2C : Go.Shelf.Ren := ⟨fun | 246 => 86 | 283 => 34 | 284 => 35 | 285 => 36 | 286 => 37 | 129 => 55 | 317 => 54 | 318 => 56 | 319 => 57 | 320 => 58 | 337 => 73 | 338 => 74 | n => n, fun | 2 => 2 | 3 => 3 | 9 => 9 | 4 => 4 | 171 => 82 | 0 => 0 | 53 => 37 | 37 => 22 | 5 => 5 | 173 => 85 | 212 => 98 | 51 => 99 | 20 => 20 | 213 => 100 | 46 => 58 | 232 => 125 | 233 => 126 | n => n, fun | 17 => 1 | 18 => 5 | 19 => 6 | n => n⟩
theorem Tryd.q6D : Go.Proofs.LaysM.n246 Tryd.prog Tryd.q2C := {
 mixed := by kernel_rfl
 f129 := Tryd.func55.trans (congrArg some (by kernel_rfl))
 f246 := Tryd.func86.trans (congrArg some (by kernel_rfl))
 f283 := Tryd.func34.trans (congrArg some (by kernel_rfl))
 f284 := Tryd.func35.trans (congrArg some (by kernel_rfl))
 f285 := Tryd.func36.trans (congrArg some (by kernel_rfl))
 f286 := Tryd.func37.trans (congrArg some (by kernel_rfl))
 f317 := Tryd.func54.trans (congrArg some (by kernel_rfl))
 f318 := Tryd.func56.trans (congrArg some (by kernel_rfl))
 f319 := Tryd.func57.trans (congrArg some (by kernel_rfl))
 f320 := Tryd.func58.trans (congrArg some (by kernel_rfl))
 f337 := Tryd.func73.trans (congrArg some (by kernel_rfl))
 f338 := Tryd.func74.trans (congrArg some (by kernel_rfl))
 t0 := Tryd.underlying0
 a0 := Tryd.isAgg0
 z0 := Tryd.sizeOf0
 v0 := Tryd.zeroValue0
 t2 := Tryd.underlying2
 a2 := Tryd.isAgg2
 z2 := Tryd.sizeOf2
 v2 := Tryd.zeroValue2
 t3 := Tryd.underlying3
 a3 := Tryd.isAgg3
 z3 := Tryd.sizeOf3
 v3 := Tryd.zeroValue3
 t4 := Tryd.underlying4
 a4 := Tryd.isAgg4
 z4 := Tryd.sizeOf4
 v4 := Tryd.zeroValue4
 t5 := Tryd.underlying5
 a5 := Tryd.isAgg5
 z5 := Tryd.sizeOf5
 v5 := Tryd.zeroValue5
 t9 := Tryd.underlying9
 a9 := Tryd.isAgg9
 z9 := Tryd.sizeOf9
 v9 := Tryd.zeroValue9
 t20 := Tryd.underlying20
 a20 := Tryd.isAgg20
 z20 := Tryd.sizeOf20
 v20 := Tryd.zeroValue20
 t37 := Tryd.underlying22
 a37 := Tryd.isAgg22
 z37 := Tryd.sizeOf22
 v37 := Tryd.zeroValue22
 t46 := Tryd.underlying58
 a46 := Tryd.isAgg58
 z46 := Tryd.sizeOf58
 v46 := Tryd.zeroValue58
 t51 := Tryd.underlying99
 a51 := Tryd.isAgg99
 z51 := Tryd.sizeOf99
 v51 := Tryd.zeroValue99
 t53 := Tryd.underlying37
 a53 := Tryd.isAgg37
 z53 := Tryd.sizeOf37
 v53 := Tryd.zeroValue37
 t171 := Tryd.underlying82
 a171 := Tryd.isAgg82
 z171 := Tryd.sizeOf82
 v171 := Tryd.zeroValue82
 t173 := Tryd.underlying85
 a173 := Tryd.isAgg85
 z173 := Tryd.sizeOf85
 v173 := Tryd.zeroValue85
 t212 := Tryd.underlying98
 a212 := Tryd.isAgg98
 z212 := Tryd.sizeOf98
 v212 := Tryd.zeroValue98
 t213 := Tryd.underlying100
 a213 := Tryd.isAgg100
 z213 := Tryd.sizeOf100
 t232 := Tryd.underlying125
 a232 := Tryd.isAgg125
 z232 := Tryd.sizeOf125
 v232 := Tryd.zeroValue125
 t233 := Tryd.underlying126
 a233 := Tryd.isAgg126
 z233 := Tryd.sizeOf126
 v233 := Tryd.zeroValue126
 g17 := by kernel_rfl
 g18 := by kernel_rfl
 g19 := by kernel_rfl
 i0 := by kernel_rfl
 i2 := by kernel_rfl
 i3 := by kernel_rfl
 i4 := by kernel_rfl
 i5 := by kernel_rfl
 i9 := by kernel_rfl
 i20 := by kernel_rfl
 i37 := by kernel_rfl
 i46 := by kernel_rfl
 i51 := by kernel_rfl
 i53 := by kernel_rfl
 i171 := by kernel_rfl
 i173 := by kernel_rfl
 i212 := by kernel_rfl
 i232 := by kernel_rfl
 i233 := by kernel_rfl
 m17 := by kernel_rfl
 m18 := by kernel_rfl
 m19 := by kernel_rfl }
def Tryd.z7Q : Go.Shelf.Ren := ⟨fun | 14 => 29 | 16 => 44 | 17 => 45 | 19 => 65 | 20 => 66 | 21 => 67 | 22 => 68 | 23 => 69 | 24 => 70 | 25 => 80 | 27 => 82 | 26 => 81 | 28 => 85 | 29 => 86 | 30 => 34 | 31 => 35 | 32 => 36 | 33 => 37 | 35 => 55 | 34 => 54 | 36 => 56 | 37 => 57 | 38 => 58 | 39 => 73 | 40 => 74 | n => n, fun | 9 => 9 | 3 => 3 | 22 => 37 | 24 => 64 | 25 => 71 | 4 => 4 | 34 => 110 | 5 => 5 | 36 => 58 | 37 => 22 | 0 => 0 | 39 => 113 | 21 => 21 | 44 => 123 | 47 => 87 | 50 => 135 | 48 => 133 | 2 => 2 | 52 => 82 | 55 => 85 | 59 => 98 | 60 => 99 | 20 => 20 | 61 => 100 | 65 => 125 | 66 => 126 | 67 => 67 | n => n, fun | 0 => 3 | 1 => 4 | 2 => 1 | 3 => 5 | 4 => 6 | n => n⟩
theorem Tryd.q0L : Go.Proofs.LaysPu.n14 Tryd.prog Tryd.z7Q := {
 mixed := by kernel_rfl
 f14 := Tryd.func29.trans (congrArg some (by kernel_rfl))
 f16 := Tryd.func44.trans (congrArg some (by kernel_rfl))
 f17 := Tryd.func45.trans (congrArg some (by kernel_rfl))
 f19 := Tryd.func65.trans (congrArg some (by kernel_rfl))
 f20 := Tryd.func66.trans (congrArg some (by kernel_rfl))
 f21 := Tryd.func67.trans (congrArg some (by kernel_rfl))
 f22 := Tryd.func68.trans (congrArg some (by kernel_rfl))
 f23 := Tryd.func69.trans (congrArg some (by kernel_rfl))
 f24 := Tryd.func70.trans (congrArg some (by kernel_rfl))
 f25 := Tryd.func80.trans (congrArg some (by kernel_rfl))
 f26 := Tryd.func81.trans (congrArg some (by kernel_rfl))
 f27 := Tryd.func82.trans (congrArg some (by kernel_rfl))
 f28 := Tryd.func85.trans (congrArg some (by kernel_rfl))
 f29 := Tryd.func86.trans (congrArg some (by kernel_rfl))
 f30 := Tryd.func34.trans (congrArg some (by kernel_rfl))
 f31 := Tryd.func35.trans (congrArg some (by kernel_rfl))
 f32 := Tryd.func36.trans (congrArg some (by kernel_rfl))
 f33 := Tryd.func37.trans (congrArg some (by kernel_rfl))
 f34 := Tryd.func54.trans (congrArg some (by kernel_rfl))
 f35 := Tryd.func55.trans (congrArg some (by kernel_rfl))
 f36 := Tryd.func56.trans (congrArg some (by kernel_rfl))
 f37 := Tryd.func57.trans (congrArg some (by kernel_rfl))
 f38 := Tryd.func58.trans (congrArg some (by kernel_rfl))
 f39 := Tryd.func73.trans (congrArg some (by kernel_rfl))
 f40 := Tryd.func74.trans (congrArg some (by kernel_rfl))
 t0 := Tryd.underlying0
 a0 := Tryd.isAgg0
 z0 := Tryd.sizeOf0
 v0 := Tryd.zeroValue0
 i0 := by kernel_rfl
 t2 := Tryd.underlying2
 a2 := Tryd.isAgg2
 z2 := Tryd.sizeOf2
 v2 := Tryd.zeroValue2
 i2 := by kernel_rfl
 t3 := Tryd.underlying3
 a3 := Tryd.isAgg3
 z3 := Tryd.sizeOf3
 v3 := Tryd.zeroValue3
 i3 := by kernel_rfl
 t4 := Tryd.underlying4
 a4 := Tryd.isAgg4
 z4 := Tryd.sizeOf4
 v4 := Tryd.zeroValue4
 i4 := by kernel_rfl
 t5 := Tryd.underlying5
 a5 := Tryd.isAgg5
 z5 := Tryd.sizeOf5
 v5 := Tryd.zeroValue5
 i5 := by kernel_rfl
 t9 := Tryd.underlying9
 a9 := Tryd.isAgg9
 z9 := Tryd.sizeOf9
 v9 := Tryd.zeroValue9
 i9 := by kernel_rfl
 t20 := Tryd.underlying20
 a20 := Tryd.isAgg20
 z20 := Tryd.sizeOf20
 v20 := Tryd.zeroValue20
 i20 := by kernel_rfl
 t21 := Tryd.underlying21
 a21 := Tryd.isAgg21
 z21 := Tryd.sizeOf21
 v21 := Tryd.zeroValue21
 i21 := by kernel_rfl
 t22 := Tryd.underlying37
 a22 := Tryd.isAgg37
 z22 := Tryd.sizeOf37
 v22 := Tryd.zeroValue37
 i22 := by kernel_rfl
 t24 := Tryd.underlying64
 a24 := Tryd.isAgg64
 z24 := Tryd.sizeOf64
 v24 := Tryd.zeroValue64
 i24 := by kernel_rfl
 t25 := Tryd.underlying71
 a25 := Tryd.isAgg71
 z25 := Tryd.sizeOf71
 v25 := Tryd.zeroValue71
 i25 := by kernel_rfl
 t34 := Tryd.underlying110
 a34 := Tryd.isAgg110
 z34 := Tryd.sizeOf110
 v34 := Tryd.zeroValue110
 i34 := by kernel_rfl
 c34 := by kernel_rfl
 t36 := Tryd.underlying58
 a36 := Tryd.isAgg58
 z36 := Tryd.sizeOf58
 v36 := Tryd.zeroValue58
 i36 := by kernel_rfl
 t37 := Tryd.underlying22
 a37 := Tryd.isAgg22
 z37 := Tryd.sizeOf22
 v37 := Tryd.zeroValue22
 i37 := by kernel_rfl
 t39 := Tryd.underlying113
 a39 := Tryd.isAgg113
 z39 := Tryd.sizeOf113
 v39 := Tryd.zeroValue113
 i39 := by kernel_rfl
 t44 := Tryd.underlying123
 a44 := Tryd.isAgg123
 z44 := Tryd.sizeOf123
 v44 := Tryd.zeroValue123
 i44 := by kernel_rfl
 t47 := Tryd.underlying87
 a47 := Tryd.isAgg87
 z47 := Tryd.sizeOf87
 v47 := Tryd.zeroValue87
 i47 := by kernel_rfl
 t48 := Tryd.underlying133
 a48 := Tryd.isAgg133
 z48 := Tryd.sizeOf133
 v48 := Tryd.zeroValue133
 i48 := by kernel_rfl
 t50 := Tryd.underlying135
 a50 := Tryd.isAgg135
 z50 := Tryd.sizeOf135
 v50 := Tryd.zeroValue135
 i50 := by kernel_rfl
 t52 := Tryd.underlying82
 a52 := Tryd.isAgg82
 z52 := Tryd.sizeOf82
 v52 := Tryd.zeroValue82
 i52 := by kernel_rfl
 t55 := Tryd.underlying85
 a55 := Tryd.isAgg85
 z55 := Tryd.sizeOf85
 v55 := Tryd.zeroValue85
 i55 := by kernel_rfl
 t59 := Tryd.underlying98
 a59 := Tryd.isAgg98
 z59 := Tryd.sizeOf98
 v59 := Tryd.zeroValue98
 i59 := by kernel_rfl
 t60 := Tryd.underlying99
 a60 := Tryd.isAgg99
 z60 := Tryd.sizeOf99
 v60 := Tryd.zeroValue99
 i60 := by kernel_rfl
 t61 := Tryd.underlying100
 a61 := Tryd.isAgg100
 z61 := Tryd.sizeOf100
 t65 := Tryd.underlying125
 a65 := Tryd.isAgg125
 z65 := Tryd.sizeOf125
 v65 := Tryd.zeroValue125
 i65 := by kernel_rfl
 t66 := Tryd.underlying126
 a66 := Tryd.isAgg126
 z66 := Tryd.sizeOf126
 v66 := Tryd.zeroValue126
 i66 := by kernel_rfl
 t67 := Tryd.underlying67
 a67 := Tryd.isAgg67
 z67 := Tryd.sizeOf67
 v67 := Tryd.zeroValue67
 i67 := by kernel_rfl
 g0 := by kernel_rfl
 m0 := by kernel_rfl
 g1 := by kernel_rfl
 m1 := by kernel_rfl
 g2 := by kernel_rfl
 m2 := by kernel_rfl
 g3 := by kernel_rfl
 m3 := by kernel_rfl
 g4 := by kernel_rfl
 m4 := by kernel_rfl }
theorem Tryd.strconv_ParseUint_10_at64_ok (s : ByteArray) (hmax : s.size ≤ 9223372036854775806) (u : Nat) (h : Lib.parseUintB 64 s.data.toList = .ok u) (w : World) :
  Calls Tryd.prog 29 #[.string s, .int .i64 10, .int .i64 64] w fun e w' => e = .returned (.tuple #[.int .u64 u, .nilIface]) ∧ (w' = w ∨ w' = Lib.bytesWorld w 5 s) := Any.strconv_ParseUint_10_at64_ok Tryd.q0L s hmax u h w
theorem Tryd.strconv_ParseUint_10_at64_range (s : ByteArray) (hlim : s.size ≤ 281474976710656) (h : Lib.parseUintB 64 s.data.toList = .range) (ev : Value) (w : World) (hv : w.cell? ⟨4, 0, none⟩ = some ev) (hev : ev = .nilIface ∨ ∃ te pe, ev = .iface te pe) :
  Calls Tryd.prog 29 #[.string s, .int .i64 10, .int .i64 64] w fun e w' => ∃ N, e = .returned (.tuple #[.int .u64 18446744073709551615, .iface 113 (.pointer (some ⟨N, 0, none⟩))]) ∧ w.heap.size ≤ N ∧ w'.heap[N]? = some (.cells #[.string ⟨#[80, 97, 114, 115, 101, 85, 105, 110, 116]⟩, .string s, ev] 123 (0, 0)) ∧ Below w.heap.size w w' := Any.strconv_ParseUint_10_at64_range Tryd.q0L s hlim h ev w hv hev
def Tryd.z9b : Go.Shelf.Ren := ⟨fun | 219 => 64 | 217 => 76 | 225 => 77 | 224 => 78 | 267 => 79 | 266 => 83 | 314 => 84 | n => n, fun | 9 => 9 | 3 => 3 | 4 => 4 | 5 => 5 | 46 => 58 | 146 => 131 | 51 => 99 | n => n, fun | 1 => 2 | n => n⟩
theorem Tryd.y5q : Go.Proofs.Lays.n219 Tryd.prog Tryd.z9b := {
 mixed := by kernel_rfl
 f217 := Tryd.func76.trans (congrArg some (by kernel_rfl))
 f219 := Tryd.func64.trans (congrArg some (by kernel_rfl))
 f224 := Tryd.func78.trans (congrArg some (by kernel_rfl))
 f225 := Tryd.func77.trans (congrArg some (by kernel_rfl))
 f266 := Tryd.func83.trans (congrArg some (by kernel_rfl))
 f267 := Tryd.func79.trans (congrArg some (by kernel_rfl))
 f314 := Tryd.func84.trans (congrArg some (by kernel_rfl))
 t3 := Tryd.underlying3
 a3 := Tryd.isAgg3
 z3 := Tryd.sizeOf3
 v3 := Tryd.zeroValue3
 t4 := Tryd.underlying4
 a4 := Tryd.isAgg4
 z4 := Tryd.sizeOf4
 v4 := Tryd.zeroValue4
 t5 := Tryd.underlying5
 a5 := Tryd.isAgg5
 z5 := Tryd.sizeOf5
 v5 := Tryd.zeroValue5
 t9 := Tryd.underlying9
 a9 := Tryd.isAgg9
 z9 := Tryd.sizeOf9
 v9 := Tryd.zeroValue9
 t46 := Tryd.underlying58
 a46 := Tryd.isAgg58
 z46 := Tryd.sizeOf58
 v46 := Tryd.zeroValue58
 t51 := Tryd.underlying99
 a51 := Tryd.isAgg99
 z51 := Tryd.sizeOf99
 v51 := Tryd.zeroValue99
 t146 := Tryd.underlying131
 a146 := Tryd.isAgg131
 z146 := Tryd.sizeOf131
 v146 := Tryd.zeroValue131
 g1 := by kernel_rfl }
theorem Tryd.stringslite_Index_one (s : ByteArray) (c : UInt8) (w : World) :
  Calls Tryd.prog 64 #[.string s, .string ⟨#[c]⟩] w fun e w' => e = .returned (.int .i64 (Lib.indexByte s.data.toList c)) ∧ w' = w := Any.stringslite_Index_one Tryd.y5q s c w
def Tryd.z9c : Go.Shelf.Ren := ⟨fun | 143 => 42 | 219 => 64 | 217 => 76 | 225 => 77 | 224 => 78 | 267 => 79 | 266 => 83 | 314 => 84 | n => n, fun | 9 => 9 | 3 => 3 | 4 => 4 | 5 => 5 | 46 => 58 | 146 => 131 | 51 => 99 | n => n, fun | 1 => 2 | n => n⟩
theorem Tryd.y5t : Go.Proofs.Lays.n143 Tryd.prog Tryd.z9c := {
 mixed := by kernel_rfl
 f143 := Tryd.func42.trans (congrArg some (by kernel_rfl))
 f217 := Tryd.func76.trans (congrArg some (by kernel_rfl))
 f219 := Tryd.func64.trans (congrArg some (by kernel_rfl))
 f224 := Tryd.func78.trans (congrArg some (by kernel_rfl))
 f225 := Tryd.func77.trans (congrArg some (by kernel_rfl))
 f266 := Tryd.func83.trans (congrArg some (by kernel_rfl))
 f267 := Tryd.func79.trans (congrArg some (by kernel_rfl))
 f314 := Tryd.func84.trans (congrArg some (by kernel_rfl))
 t3 := Tryd.underlying3
 a3 := Tryd.isAgg3
 z3 := Tryd.sizeOf3
 v3 := Tryd.zeroValue3
 t4 := Tryd.underlying4
 a4 := Tryd.isAgg4
 z4 := Tryd.sizeOf4
 v4 := Tryd.zeroValue4
 t5 := Tryd.underlying5
 a5 := Tryd.isAgg5
 z5 := Tryd.sizeOf5
 v5 := Tryd.zeroValue5
 t9 := Tryd.underlying9
 a9 := Tryd.isAgg9
 z9 := Tryd.sizeOf9
 v9 := Tryd.zeroValue9
 t46 := Tryd.underlying58
 a46 := Tryd.isAgg58
 z46 := Tryd.sizeOf58
 v46 := Tryd.zeroValue58
 t51 := Tryd.underlying99
 a51 := Tryd.isAgg99
 z51 := Tryd.sizeOf99
 v51 := Tryd.zeroValue99
 t146 := Tryd.underlying131
 a146 := Tryd.isAgg131
 z146 := Tryd.sizeOf131
 v146 := Tryd.zeroValue131
 g1 := by kernel_rfl }
theorem Tryd.strings_Index_one (s : ByteArray) (c : UInt8) (w : World) :
  Calls Tryd.prog 42 #[.string s, .string ⟨#[c]⟩] w fun e w' => e = .returned (.int .i64 (Lib.indexByte s.data.toList c)) ∧ w' = w := Any.strings_Index_one Tryd.y5t s c w
def Tryd.z9d : Go.Shelf.Ren := ⟨fun | 138 => 41 | 195 => 61 | 218 => 63 | 143 => 42 | 219 => 64 | 217 => 76 | 225 => 77 | 224 => 78 | 267 => 79 | 266 => 83 | 314 => 84 | n => n, fun | 9 => 9 | 3 => 3 | 4 => 4 | 5 => 5 | 0 => 0 | 46 => 58 | 146 => 131 | 51 => 99 | n => n, fun | 1 => 2 | n => n⟩
theorem Tryd.y5u : Go.Proofs.Lays.n138 Tryd.prog Tryd.z9d := {
 mixed := by kernel_rfl
 f138 := Tryd.func41.trans (congrArg some (by kernel_rfl))
 f143 := Tryd.func42.trans (congrArg some (by kernel_rfl))
 f195 := Tryd.func61.trans (congrArg some (by kernel_rfl))
 f217 := Tryd.func76.trans (congrArg some (by kernel_rfl))
 f218 := Tryd.func63.trans (congrArg some (by kernel_rfl))
 f219 := Tryd.func64.trans (congrArg some (by kernel_rfl))
 f224 := Tryd.func78.trans (congrArg some (by kernel_rfl))
 f225 := Tryd.func77.trans (congrArg some (by kernel_rfl))
 f266 := Tryd.func83.trans (congrArg some (by kernel_rfl))
 f267 := Tryd.func79.trans (congrArg some (by kernel_rfl))
 f314 := Tryd.func84.trans (congrArg some (by kernel_rfl))
 t0 := Tryd.underlying0
 a0 := Tryd.isAgg0
 z0 := Tryd.sizeOf0
 v0 := Tryd.zeroValue0
 t3 := Tryd.underlying3
 a3 := Tryd.isAgg3
 z3 := Tryd.sizeOf3
 v3 := Tryd.zeroValue3
 t4 := Tryd.underlying4
 a4 := Tryd.isAgg4
 z4 := Tryd.sizeOf4
 v4 := Tryd.zeroValue4
 t5 := Tryd.underlying5
 a5 := Tryd.isAgg5
 z5 := Tryd.sizeOf5
 v5 := Tryd.zeroValue5
 t9 := Tryd.underlying9
 a9 := Tryd.isAgg9
 z9 := Tryd.sizeOf9
 v9 := Tryd.zeroValue9
 t46 := Tryd.underlying58
 a46 := Tryd.isAgg58
 z46 := Tryd.sizeOf58
 v46 := Tryd.zeroValue58
 t51 := Tryd.underlying99
 a51 := Tryd.isAgg99
 z51 := Tryd.sizeOf99
 v51 := Tryd.zeroValue99
 t146 := Tryd.underlying131
 a146 := Tryd.isAgg131
 z146 := Tryd.sizeOf131
 v146 := Tryd.zeroValue131
 g1 := by kernel_rfl }
theorem Tryd.strings_Count_one (s : ByteArray) (c : UInt8) (w : World) :
  Calls Tryd.prog 41 #[.string s, .string ⟨#[c]⟩] w fun e w' => e = .returned (.int .i64 (Lib.countByte s.data.toList c)) ∧ w' = w := Any.strings_Count_one Tryd.y5u s c w
def Tryd.z1I : Go.Shelf.Ren := ⟨fun | 146 => 19 | 221 => 27 | 268 => 40 | 138 => 41 | 143 => 42 | 195 => 61 | 197 => 62 | 218 => 63 | 219 => 64 | 260 => 75 | 217 => 76 | 225 => 77 | 224 => 78 | 267 => 79 | 266 => 83 | 314 => 84 | n => n, fun | 9 => 9 | 31 => 36 | 3 => 3 | 4 => 4 | 0 => 0 | 105 => 107 | 21 => 21 | 5 => 5 | 46 => 58 | 119 => 127 | 139 => 130 | 138 => 129 | 146 => 131 | 51 => 99 | n => n, fun | 1 => 2 | 3 => 7 | 4 => 8 | n => n⟩
theorem Tryd.y5s : Go.Proofs.Lays.n146 Tryd.prog Tryd.z1I := {
 mixed := by kernel_rfl
 f138 := Tryd.func41.trans (congrArg some (by kernel_rfl))
 f143 := Tryd.func42.trans (congrArg some (by kernel_rfl))
 f146 := Tryd.func19.trans (congrArg some (by kernel_rfl))
 f195 := Tryd.func61.trans (congrArg some (by kernel_rfl))
 f197 := Tryd.func62.trans (congrArg some (by kernel_rfl))
 f217 := Tryd.func76.trans (congrArg some (by kernel_rfl))
 f218 := Tryd.func63.trans (congrArg some (by kernel_rfl))
 f219 := Tryd.func64.trans (congrArg some (by kernel_rfl))
 f221 := Tryd.func27.trans (congrArg some (by kernel_rfl))
 f224 := Tryd.func78.trans (congrArg some (by kernel_rfl))
 f225 := Tryd.func77.trans (congrArg some (by kernel_rfl))
 f260 := Tryd.func75.trans (congrArg some (by kernel_rfl))
 f266 := Tryd.func83.trans (congrArg some (by kernel_rfl))
 f267 := Tryd.func79.trans (congrArg some (by kernel_rfl))
 f268 := Tryd.func40.trans (congrArg some (by kernel_rfl))
 f314 := Tryd.func84.trans (congrArg some (by kernel_rfl))
 t0 := Tryd.underlying0
 a0 := Tryd.isAgg0
 z0 := Tryd.sizeOf0
 v0 := Tryd.zeroValue0
 t3 := Tryd.underlying3
 a3 := Tryd.isAgg3
 z3 := Tryd.sizeOf3
 v3 := Tryd.zeroValue3
 t4 := Tryd.underlying4
 a4 := Tryd.isAgg4
 z4 := Tryd.sizeOf4
 v4 := Tryd.zeroValue4
 t5 := Tryd.underlying5
 a5 := Tryd.isAgg5
 z5 := Tryd.sizeOf5
 v5 := Tryd.zeroValue5
 t9 := Tryd.underlying9
 a9 := Tryd.isAgg9
 z9 := Tryd.sizeOf9
 v9 := Tryd.zeroValue9
 t21 := Tryd.underlying21
 a21 := Tryd.isAgg21
 z21 := Tryd.sizeOf21
 v21 := Tryd.zeroValue21
 t31 := Tryd.underlying36
 a31 := Tryd.isAgg36
 z31 := Tryd.sizeOf36
 v31 := Tryd.zeroValue36
 t46 := Tryd.underlying58
 a46 := Tryd.isAgg58
 z46 := Tryd.sizeOf58
 v46 := Tryd.zeroValue58
 t51 := Tryd.underlying99
 a51 := Tryd.isAgg99
 z51 := Tryd.sizeOf99
 v51 := Tryd.zeroValue99
 t105 := Tryd.underlying107
 a105 := Tryd.isAgg107
 z105 := Tryd.sizeOf107
 v105 := Tryd.zeroValue107
 t119 := Tryd.underlying127
 a119 := Tryd.isAgg127
 z119 := Tryd.sizeOf127
 t138 := Tryd.underlying129
 a138 := Tryd.isAgg129
 z138 := Tryd.sizeOf129
 v138 := Tryd.zeroValue129
 t139 := Tryd.underlying130
 a139 := Tryd.isAgg130
 z139 := Tryd.sizeOf130
 v139 := Tryd.zeroValue130
 t146 := Tryd.underlying131
 a146 := Tryd.isAgg131
 z146 := Tryd.sizeOf131
 v146 := Tryd.zeroValue131
 g1 := by kernel_rfl
 g3 := by kernel_rfl
 g4 := by kernel_rfl }
end Go.Proofs
namespace Go.Proofs.YtdoajkacibicoaaDoor
open Go Go.E Go.RowKit Go.Shelf
set_option maxRecDepth 100000
set_option maxHeartbeats 6400000
set_option linter.unusedSimpArgs false
def j5 (b : UInt8) : List UInt8 → List (List UInt8)
 | [] => [[]]
 | c :: s => if c = b then [] :: j5 b s else match j5 b s with
  | [] => [[c]]
  | x :: l => (c :: x) :: l
theorem q8n (b : UInt8) : ∀ s, (j5 b s).length ≤ s.length + 1
 | [] => Nat.le_refl _
 | c :: s => by
  have ih := q8n b s
  unfold j5
  split
  ·simp only [List.length_cons]; omega
  ·split
   ·simp
   ·rename_i h; rw [h] at ih; simp only [List.length_cons] at ih ⊢; omega
theorem q8m (b : UInt8) : ∀ s, ∀ x ∈ j5 b s, x.length ≤ s.length
 | [], x, h => by simp [j5] at h; simp [h]
 | c :: s, x, h => by
  have ih := q8m b s
  unfold j5 at h
  split at h
  ·rcases List.mem_cons.1 h with rfl | h
   ·simp
   ·have := ih x h; simp only [List.length_cons]; omega
  ·split at h
   ·simp at h; simp [h]
   ·rename_i y l e
    rcases List.mem_cons.1 h with rfl | h
    ·have := ih y (by rw [e]; simp); simp only [List.length_cons]; omega
    ·have := ih x (by rw [e]; simp [h]); simp only [List.length_cons]; omega
theorem z2K (b : UInt8) : ∀ s : List UInt8, Lib.splitK [b] 0 (Lib.count s [b]) s = j5 b s
 | [] => by rw [Lib.count_one]; rfl
 | c :: s => by
  have ih := z2K b s
  by_cases hc : c = b
  ·subst hc
   have hix : Lib.index (c :: s) [c] = ((0 : Nat) : Int) := by rw [Lib.index]; simp [List.isPrefixOf]
   rw [Lib.count_cons_eq, Nat.add_comm]
   unfold Lib.splitK j5
   rw [hix, if_neg (by decide), if_pos rfl]
   simp [ih]
  ·rw [Lib.count_cons_ne _ _ _ hc]
   unfold j5
   rw [if_neg hc, ← ih]
   have hp : ([b] : List UInt8).isPrefixOf (c :: s) = false := by simp [List.isPrefixOf, Ne.symm hc]
   have hix : Lib.index (c :: s) [b] = if Lib.index s [b] == -1 then -1 else Lib.index s [b] + 1 := by rw [Lib.index, hp]; simp
   by_cases hm : Lib.index s [b] = -1
   ·rw [Lib.count_miss hm]; rfl
   ·have hge := Lib.index_ge s [b]
    obtain ⟨i, hi⟩ : ∃ i : Nat, Lib.index s [b] = i := ⟨(Lib.index s [b]).toNat, by omega⟩
    rw [Lib.count_hit (by simp) hi, Nat.add_comm]
    unfold Lib.splitK
    rw [hix, hi]
    have h1 : ((i : Int) == -1) = false := by rw [beq_eq_false_iff_ne]; omega
    simp only [h1, Bool.false_eq_true, if_false]
    have h2 : (((i : Int) + 1) == -1) = false := by rw [beq_eq_false_iff_ne]; omega
    simp only [h2, Bool.false_eq_true, if_false]
    have h3 : ((i : Int) + 1).toNat = i + 1 := by omega
    have h4 : (i : Int).toNat = i := by omega
    simp [h3, h4]
theorem y1H (s : ByteArray) (b : UInt8) (w : World) (hs : s.size < 4294967281) :
  Calls Tryd.prog 19 #[.string s, .string ⟨#[b]⟩] w fun e w' =>
   e = .returned (.slice (some ⟨w.heap.size, 0, none⟩) (Lib.countB s ⟨#[b]⟩ + 1) (Lib.countB s ⟨#[b]⟩ + 1)) ∧ w' = w.alloc (.cells ((Lib.splitB ⟨#[b]⟩ 0 (Lib.countB s ⟨#[b]⟩) s).map Value.string).toArray 9) := by
 have h1 : 1 ≤ (⟨#[b]⟩ : ByteArray).size := Nat.le_refl 1
 have hle := Lib.countB_le ⟨#[b]⟩ h1 s.size s (Nat.le_refl _)
 have hlen := Lib.splitB_all ⟨#[b]⟩ h1 0 _ s rfl
 have c := Any.strings_genSplit_core (P := Tryd.prog) (ρ := Tryd.z1I) { Tryd.y5s with } (by kernel_rfl) s ⟨#[b]⟩ 0 (-1) (Lib.countB s ⟨#[b]⟩ + 1) w hs h1 (Nat.zero_le _)
  (fun x c hx => (Tryd.strings_Index_one x b _).mono fun e w' ⟨he, hw⟩ => ⟨by rw [he]; show _ = Ending.returned (Value.int .i64 (Lib.index x.data.toList [b])); rw [Lib.index_one], hw⟩)
  ((Tryd.strings_Count_one s b w).mono fun e w' ⟨he, hw⟩ => ⟨by rw [he]; show _ = Ending.returned (Value.int .i64 ((Lib.count s.data.toList [b] : Nat) : Int)); rw [Lib.count_one]; rfl, hw⟩)
  (by decide) (by decide) (by rw [if_pos (by decide)]; omega)
 rw [Nat.add_sub_cancel, hlen] at c
 have e2 : Lib.cellsOf (Lib.splitB ⟨#[b]⟩ 0 (Lib.countB s ⟨#[b]⟩) s) (Lib.countB s ⟨#[b]⟩ + 1) = ((Lib.splitB ⟨#[b]⟩ 0 (Lib.countB s ⟨#[b]⟩) s).map Value.string).toArray := by rw [← hlen]; exact Lib.cellsOf_full _
 rw [e2] at c
 have e221 : ∀ args w, (callFunc 27 args).run Tryd.prog w = .ok (.enter 27 args) w := enters_of Tryd.func27 (by kernel_rfl) rfl
 go_enter Tryd.func19, Tryd.ntmps19
 go_wp2_with (go_at_fn 27; refine c.mono ?_; rintro e w' ⟨rfl, hw⟩; rw [hw])
 go_ret
 exact ⟨rfl, rfl⟩
theorem z3B {w w' : World} (h : Below w.heap.size w w') : Ext w w' := ⟨h.size, fun b hb => h.block b hb, by unfold oof; rw [h.os, h.output]⟩
theorem z7k {l : List UInt8} (h : l.length = 1) : l = [l.headD 0] := by
 match l, h with
 | [x], _ => rfl
theorem z8T (A : Key → Option O) (s p : C) (h1 : p.toStr.length = 1) (hl : s.toStr.length < 4294967281) :
  r9 (X0 gl0) 19 [.d .str s, .d .str p] A (.d (.slice 16 .str) (.slice ((j5 (p.toStr.headD 0) s.toStr).map C.str))) [] := by
 intro A' Γ w args hA' hg hc hn hr
 obtain ⟨cc, hok⟩ := hc
 have hs : args.size = 2 := hn.symm
 obtain ⟨e1, _, hb⟩ := Y7 (hr 0 _ _ rfl (Array.getElem?_eq_getElem (by omega)))
 obtain ⟨e2, _, _⟩ := Y7 (hr 1 _ _ rfl (Array.getElem?_eq_getElem (by omega)))
 rw [z7k h1] at e2
 generalize hbb : p.toStr.headD 0 = b at e2 ⊢
 have ea : args = #[.string ⟨s.toStr.toArray⟩, .string ⟨#[b]⟩] := by
  apply Array.ext
  ·simpa using hs
  ·intro i h1 h2
   match i with
   | 0 => simpa using e1
   | 1 => simpa using e2
   | i + 2 => omega
 have hsz : (⟨s.toStr.toArray⟩ : ByteArray).size = s.toStr.length := by simp [ByteArray.size]
 rw [ea]
 refine (y1H ⟨s.toStr.toArray⟩ b w (by rw [hsz]; exact hl)).mono fun e w' he => ?_
 obtain ⟨he1, he2⟩ := he
 have hd : (Lib.splitB ⟨#[b]⟩ 0 (Lib.countB ⟨s.toStr.toArray⟩ ⟨#[b]⟩) ⟨s.toStr.toArray⟩).map (·.data.toList) = j5 b s.toStr := by
  rw [Lib.splitB_data]
  exact z2K b s.toStr
 have hlen := Lib.splitB_all ⟨#[b]⟩ (Nat.le_refl 1) 0 _ (⟨s.toStr.toArray⟩ : ByteArray) rfl
 have hlen2 : (j5 b s.toStr).length = Lib.countB ⟨s.toStr.toArray⟩ ⟨#[b]⟩ + 1 := by rw [← hd, List.length_map, hlen]
 have hcells : (Lib.splitB ⟨#[b]⟩ 0 (Lib.countB ⟨s.toStr.toArray⟩ ⟨#[b]⟩) ⟨s.toStr.toArray⟩).map Value.string = (j5 b s.toStr).map fun x => Value.string ⟨x.toArray⟩ := by
  rw [← hd, List.map_map]; rfl
 rw [hcells] at he2
 have hnew : w'.heap[w.heap.size]? = some (.cells ((j5 b s.toStr).map fun x => Value.string ⟨x.toArray⟩).toArray 9 (0, 0)) := by rw [he2]; exact heap_alloc_new _ _
 obtain ⟨c1, p1, g1⟩ := cc.q0A (he2 ▸ Ext.alloc _ _) (l := (j5 b s.toStr).map fun x => Value.string ⟨x.toArray⟩) (r := []) hnew (by simp)
 refine ⟨_, Γ.q0A w.heap.size ((j5 b s.toStr).map fun x => Value.string ⟨x.toArray⟩), he1, g1, ?_, ?_⟩
 ·exact c1.congr (fun _ => rfl) (fun _ => rfl) (fun _ h => h)
 have hul := q8n b s.toStr
 refine c8.2 ⟨?_, rfl⟩
 rw [← hlen2]
 show z7 _ _ [_] _
 refine s7 (by simp) (Nat.le_refl _) (by unfold maxLen; omega) (by omega) (.inr ⟨w.heap.size, 0, _, rfl, p9 _ _ _, by simp [Ty.size], fun i c' hi => ?_⟩)
 rw [List.getElem?_map] at hi
 cases hx : (j5 b s.toStr)[i]? with
 | none => rw [hx] at hi; cases hi
 | some x =>
  rw [hx] at hi
  simp only [Option.map_some, Option.some.injEq] at hi
  subst hi
  simp only [z7, Ty.size]
  refine ⟨x, rfl, ?_, ?_⟩
  ·rw [show 0 + i * 1 = i by omega]
   simp only [chunk]
   have h2 := (List.getElem?_eq_some_iff.1 hx)
   obtain ⟨hi1, hi2⟩ := h2
   rw [List.drop_eq_getElem_cons (by simpa using hi1)]
   simp [hi2]
  ·have := q8m b s.toStr x (List.mem_of_getElem? hx); omega
noncomputable def q4Q (_ : Nat) {R : Type} : OvG R := fun xs _ K => match xs with
 | [.d .str s, .d .str p] => if p.toStr.length = 1 ∧ s.toStr.length < 4294967281 then K (.d (.slice 16 .str) (.slice ((j5 (p.toStr.headD 0) s.toStr).map C.str))) [] else none
 | _ => none
theorem z0f (N : Nat) {R : Type} : GOk (X0 gl0) 19 (q4Q N (R := R)) := by
 intro xs A Kr r hr
 unfold q4Q at hr
 split at hr
 ·simp only [Option.ite_none_right_eq_some] at hr
  obtain ⟨⟨h1, h2⟩, hr⟩ := hr
  exact ⟨_, _, z8T A _ _ h1 h2, hr⟩
 ·cases hr
theorem z9x {Γ : G} {w : World} {s : S} (c : z8 Γ w s) {g : Nat} (h : Γ.gl g = some (.iface, .bool true)) : ∃ t v, w.cell? ⟨g, 0, none⟩ = some (.iface t v) := by
 obtain ⟨l, h1, h2, h3⟩ := c.hgl _ _ _ h
 obtain ⟨arr, T, fr, r, h4, h5⟩ := c.hH _ _ h1
 simp only [z7] at h3
 rcases h3 with ⟨h, _⟩ | ⟨_, t, v, h3⟩
 ·cases h
 refine ⟨t, v, ?_⟩
 have h12 : (chunk l 0 1)[0]? = some (.iface t v) := by
  have : (Ty.iface).size = 1 := rfl
  rw [this] at h3
  rw [h3]; rfl
 have h13 : l[0]? = some (.iface t v) := by
  simp only [chunk, List.drop_zero, List.getElem?_take] at h12
  simpa using h12
 unfold World.cell?
 simp only [h4]
 have h14 : arr[0]? = some (.iface t v) := by
  have hl : 0 < l.length := by have : (Ty.iface).size = 1 := rfl; omega
  rw [← Array.getElem?_toList, h5, List.getElem?_append_left hl]
  exact h13
 simpa using h14
theorem y2w (w : World) (e : TypeId) (s : ByteArray) : Ext w (Lib.bytesWorld w e s) := by
 refine ⟨?_, fun b hb => ?_, rfl⟩
 ·simp [Lib.bytesWorld, World.freeze, World.alloc, World.drew, -World.alloc_eq, -World.drew_eq]
 ·have h1 : w.heap.size ≠ b := by omega
  have h2 : b < w.heap.size + 1 := by omega
  simp [Lib.bytesWorld, World.freeze, World.alloc, World.drew, -World.alloc_eq, -World.drew_eq, Array.getElem?_modify, Array.getElem?_push, h1, Ne.symm h1]
def q2V (B : Nat) (s : List UInt8) : Int := match Lib.parseUintB B s with
 | .ok u => u
 | .range => 2 ^ B - 1
 | _ => 0
def q4N (B : Nat) (s : List UInt8) : C := match Lib.parseUintB B s with
 | .ok _ => .nil
 | _ => .bool true
theorem z84 {B : Nat} (hB : B = 8 ∨ B = 16 ∨ B = 64) (s : List UInt8) : 0 ≤ q2V B s ∧ q2V B s ≤ 18446744073709551615 := by
 have h8 : (2 : Int) ^ 8 - 1 = 255 := by decide
 have h16 : (2 : Int) ^ 16 - 1 = 65535 := by decide
 have h64 : (2 : Int) ^ 64 - 1 = 18446744073709551615 := by decide
 have n8 : (2 : Nat) ^ 8 - 1 = 255 := by decide
 have n16 : (2 : Nat) ^ 16 - 1 = 65535 := by decide
 have n64 : (2 : Nat) ^ 64 - 1 = 18446744073709551615 := by decide
 unfold q2V
 split
 ·rename_i u h
  have := Lib.parseUintB_le h
  rcases hB with rfl | rfl | rfl <;> omega
 ·rcases hB with rfl | rfl | rfl <;> omega
 ·omega
def q6k (B : Nat) (s : ByteArray) (w : World) (z : Int) : Prop :=
 Calls Tryd.prog 29 #[.string s, .int .i64 10, .int .i64 z] w fun e w' => ∃ v, e = .returned (.tuple #[.int .u64 (q2V B s.data.toList), v]) ∧ Ext w w' ∧
  ((q4N B s.data.toList = .nil ∧ v = .nilIface) ∨ (q4N B s.data.toList = .bool true ∧ ∃ t u, v = .iface t u))
theorem z7c {B : Nat} {s : ByteArray} {w : World} {z m : Int} (hm : (2 : Int) ^ B - 1 = m) (t5 : TypeId)
  (hok : ∀ u : Nat, Lib.parseUintB B s.data.toList = .ok u → Calls Tryd.prog 29 #[.string s, .int .i64 10, .int .i64 z] w fun e w' => e = .returned (.tuple #[.int .u64 u, .nilIface]) ∧ (w' = w ∨ w' = Lib.bytesWorld w t5 s))
  (hsy : Lib.parseUintB B s.data.toList = Lib.parseUintB B [] → Calls Tryd.prog 29 #[.string s, .int .i64 10, .int .i64 z] w fun e w' => ∃ t v, e = .returned (.tuple #[.int .u64 0, .iface t v]) ∧ Below w.heap.size w w')
  (hra : Lib.parseUintB B s.data.toList = .range → Calls Tryd.prog 29 #[.string s, .int .i64 10, .int .i64 z] w fun e w' => ∃ t v, e = .returned (.tuple #[.int .u64 m, .iface t v]) ∧ Below w.heap.size w w') : q6k B s w z := by
 unfold q6k q2V q4N
 cases h : Lib.parseUintB B s.data.toList with
 | ok u =>
  refine (hok u h).mono fun e w' ⟨he, hw⟩ => ⟨_, he, ?_, .inl ⟨rfl, rfl⟩⟩
  rcases hw with rfl | rfl
  ·exact .refl _
  ·exact y2w w _ _
 | range => exact (hra h).mono fun e w' ⟨t, v, he, hw⟩ => ⟨_, by rw [he, ← hm], z3B hw, .inr ⟨rfl, t, v, rfl⟩⟩
 | _ => exact (hsy (h.trans (by unfold Lib.parseUintB; rw [if_pos rfl]))).mono fun e w' ⟨t, v, he, hw⟩ => ⟨_, he, z3B hw, .inr ⟨rfl, t, v, rfl⟩⟩
theorem y70 (s : ByteArray) (hl : s.size ≤ 140737488355328) (w : World) {e1 e2 : Value} (h1 : w.cell? ⟨3, 0, none⟩ = some e1) (g1 : e1 = .nilIface ∨ ∃ te pe, e1 = .iface te pe) (h2 : w.cell? ⟨4, 0, none⟩ = some e2) (g2 : e2 = .nilIface ∨ ∃ te pe, e2 = .iface te pe) : q6k 8 s w 8 :=
 z7c (by decide) _ (fun u h => Any.strconv_ParseUint_10_at8_ok Tryd.q0L s (by omega) u h w)
  (fun h => (Any.strconv_ParseUint_10_at8_syntax Tryd.q0L s (by omega) h e1 w h1 g1).mono fun e w' ⟨N, h1, _, _, h2⟩ => ⟨_, _, h1, h2⟩)
  (fun h => (Any.strconv_ParseUint_10_at8_range Tryd.q0L s (by omega) h e2 w h2 g2).mono fun e w' ⟨N, h1, _, _, h2⟩ => ⟨_, _, h1, h2⟩)
theorem y7l (s : ByteArray) (hl : s.size ≤ 140737488355328) (w : World) {e1 e2 : Value} (h1 : w.cell? ⟨3, 0, none⟩ = some e1) (g1 : e1 = .nilIface ∨ ∃ te pe, e1 = .iface te pe) (h2 : w.cell? ⟨4, 0, none⟩ = some e2) (g2 : e2 = .nilIface ∨ ∃ te pe, e2 = .iface te pe) : q6k 16 s w 16 :=
 z7c (by decide) _ (fun u h => Any.strconv_ParseUint_10_at16_ok Tryd.q0L s (by omega) u h w)
  (fun h => (Any.strconv_ParseUint_10_at16_syntax Tryd.q0L s (by omega) h e1 w h1 g1).mono fun e w' ⟨N, h1, _, _, h2⟩ => ⟨_, _, h1, h2⟩)
  (fun h => (Any.strconv_ParseUint_10_at16_range Tryd.q0L s (by omega) h e2 w h2 g2).mono fun e w' ⟨N, h1, _, _, h2⟩ => ⟨_, _, h1, h2⟩)
theorem y7k (s : ByteArray) (hl : s.size ≤ 140737488355328) (w : World) {e1 e2 : Value} (h1 : w.cell? ⟨3, 0, none⟩ = some e1) (g1 : e1 = .nilIface ∨ ∃ te pe, e1 = .iface te pe) (h2 : w.cell? ⟨4, 0, none⟩ = some e2) (g2 : e2 = .nilIface ∨ ∃ te pe, e2 = .iface te pe) : q6k 64 s w 64 :=
 z7c (by decide) _ (fun u h => Any.strconv_ParseUint_10_at64_ok Tryd.q0L s (by omega) u h w)
  (fun h => (Any.strconv_ParseUint_10_at64_syntax Tryd.q0L s (by omega) h e1 w h1 g1).mono fun e w' ⟨N, h1, _, _, h2⟩ => ⟨_, _, h1, h2⟩)
  (fun h => (Any.strconv_ParseUint_10_at64_range Tryd.q0L s (by omega) h e2 w h2 g2).mono fun e w' ⟨N, h1, _, _, h2⟩ => ⟨_, _, h1, h2⟩)
theorem y0H (A : Key → Option O) (s : C) (B : Nat) (hB : B = 8 ∨ B = 16 ∨ B = 64) :
  r9 (X0 gl0) 29 [.d .str s, .d (.int .i64) (.int 10), .d (.int .i64) (.int (B : Int))] A (.tup [.d (.int .u64) (.int (q2V B s.toStr)), .d .iface (q4N B s.toStr)]) [] := by
 intro A' Γ w args hA' hg hc hn hr
 obtain ⟨cc, hok⟩ := hc
 have hs : args.size = 3 := hn.symm
 obtain ⟨e1, _, hb⟩ := Y7 (hr 0 _ _ rfl (Array.getElem?_eq_getElem (by omega)))
 obtain ⟨e2, _, _, _⟩ := k6 (hr 1 _ _ rfl (Array.getElem?_eq_getElem (by omega)))
 obtain ⟨e3, _, _, _⟩ := k6 (hr 2 _ _ rfl (Array.getElem?_eq_getElem (by omega)))
 have ea : args = #[.string ⟨s.toStr.toArray⟩, .int .i64 10, .int .i64 (B : Int)] := by
  apply Array.ext
  ·simpa using hs
  ·intro i h1 h2
   match i with
   | 0 => simpa using e1
   | 1 => simpa [C.toInt] using e2
   | 2 => simpa [C.toInt] using e3
   | i + 3 => omega
 have hsz : (⟨s.toStr.toArray⟩ : ByteArray).size = s.toStr.length := by simp [ByteArray.size]
 rw [ea]
 have m1 : IntKind.u64.min = 0 := by decide
 have m2 : IntKind.u64.max = 18446744073709551615 := by decide
 obtain ⟨n1, n2⟩ := z84 hB s.toStr
 obtain ⟨t1, v1, hv1⟩ := z9x cc (g := 3) (by rw [hg]; rfl)
 obtain ⟨t2, v2, hv2⟩ := z9x cc (g := 4) (by rw [hg]; rfl)
 have hp : q6k B ⟨s.toStr.toArray⟩ w (B : Int) := by
  rcases hB with rfl | rfl | rfl
  ·exact y70 _ (by rw [hsz]; exact hb) w hv1 (.inr ⟨_, _, rfl⟩) hv2 (.inr ⟨_, _, rfl⟩)
  ·exact y7l _ (by rw [hsz]; exact hb) w hv1 (.inr ⟨_, _, rfl⟩) hv2 (.inr ⟨_, _, rfl⟩)
  ·exact y7k _ (by rw [hsz]; exact hb) w hv1 (.inr ⟨_, _, rfl⟩) hv2 (.inr ⟨_, _, rfl⟩)
 refine hp.mono fun e w' ⟨v, he, hx, hv⟩ => ?_
 refine ⟨_, Γ, he, .refl Γ, (cc.ext hx).congr (fun _ => rfl) (fun _ => rfl) (fun _ h => h), ?_⟩
 refine ⟨_, rfl, ?_⟩
 obtain ⟨h1, h2⟩ : q9 Γ (.d (.int .u64) (.int (q2V B s.toStr))) (.int .u64 (q2V B s.toStr)) := c8.2 ⟨by simp only [z7]; exact ⟨_, rfl, by simp [Value.cells], by omega, by omega⟩, rfl⟩
 have h3 : q9 Γ (.d .iface (q4N B s.toStr)) v := by
  rcases hv with ⟨e, rfl⟩ | ⟨e, t, u, rfl⟩
  ·have e : q4N B s.toStr = .nil := e
   rw [e]; exact c8.2 ⟨by simp [z7, Value.cells], rfl⟩
  ·have e : q4N B s.toStr = .bool true := e
   rw [e]; exact c8.2 ⟨by simp [z7, Value.cells], rfl⟩
 obtain ⟨h3, h4⟩ := h3
 exact ⟨_, _, rfl, h1, h2, _, _, rfl, h3, h4, rfl⟩
noncomputable def q1H (_ : Nat) {R : Type} : OvG R := fun xs _ K => match xs with
 | [.d .str s, .d (.int .i64) (.int b), .d (.int .i64) (.int z)] => if b = 10 then (if z = 8 ∨ z = 16 ∨ z = 64 then K (.tup [.d (.int .u64) (.int (q2V z.toNat s.toStr)), .d .iface (q4N z.toNat s.toStr)]) [] else none) else none
 | _ => none
theorem q5S (N : Nat) {R : Type} : GOk (X0 gl0) 29 (q1H N (R := R)) := by
 intro xs A Kr r hr
 unfold q1H at hr
 split at hr
 ·simp only [Option.ite_none_right_eq_some] at hr
  obtain ⟨rfl, hz, hr⟩ := hr
  rename_i s z
  have hz0 : ((z.toNat : Nat) : Int) = z := by omega
  have hc := y0H A s z.toNat (by omega)
  rw [hz0] at hc
  exact ⟨_, _, hc, hr⟩
 ·cases hr
def q5J (s p : List UInt8) : Int := Lib.indexByte s (p.headD 0)
noncomputable def y67 (_ : Nat) {R : Type} : OvG R := fun xs _ K => match xs with
 | [.d .str s, .d .str p] => if p.toStr.length = 1 then K (.d (.int .i64) (.int (q5J s.toStr p.toStr))) [] else none
 | _ => none
theorem z5X (A : Key → Option O) (s p : C) (h1 : p.toStr.length = 1) :
  r9 (X0 gl0) 64 [.d .str s, .d .str p] A (.d (.int .i64) (.int (q5J s.toStr p.toStr))) [] := by
 intro A' Γ w args hA' hg hc hn hr
 obtain ⟨cc, hok⟩ := hc
 have hs : args.size = 2 := hn.symm
 obtain ⟨e1, _, hb⟩ := Y7 (hr 0 _ _ rfl (Array.getElem?_eq_getElem (by omega)))
 obtain ⟨e2, _, _⟩ := Y7 (hr 1 _ _ rfl (Array.getElem?_eq_getElem (by omega)))
 rw [z7k h1] at e2
 unfold q5J
 generalize hbb : p.toStr.headD 0 = b at e2 ⊢
 have ea : args = #[.string ⟨s.toStr.toArray⟩, .string ⟨#[b]⟩] := by
  apply Array.ext
  ·simpa using hs
  ·intro i h1 h2
   match i with
   | 0 => simpa using e1
   | 1 => simpa using e2
   | i + 2 => omega
 rw [ea]
 refine (Tryd.stringslite_Index_one ⟨s.toStr.toArray⟩ b w).mono fun e w' ⟨he, hw⟩ => ?_
 subst hw
 refine ⟨_, Γ, he, .refl Γ, cc.congr (fun _ => rfl) (fun _ => rfl) (fun _ h => h), ?_⟩
 have m1 : IntKind.i64.min = -9223372036854775808 := by decide
 have m2 : IntKind.i64.max = 9223372036854775807 := by decide
 have k1 := Lib.indexByte_ge s.toStr b
 have k2 : Lib.indexByte s.toStr b ≤ 140737488355328 := by
  by_cases h : 0 ≤ Lib.indexByte s.toStr b
  ·have h2 := (Lib.indexByte_some (show Lib.indexByte s.toStr b = ((Lib.indexByte s.toStr b).toNat : Nat) by omega)).1
   have h3 := (List.getElem?_eq_some_iff.1 h2).1
   omega
  ·omega
 exact c8.2 ⟨by simp only [z7]; exact ⟨_, rfl, by simp [Value.cells], by omega, by omega⟩, rfl⟩
noncomputable def q3Z (_ : Nat) {R : Type} : OvG R := fun xs _ K => match xs with
 | [.d .str s, .d .str p] => if p.toStr.length = 1 then K (.d (.int .i64) (.int (q5J s.toStr p.toStr))) [] else none
 | _ => none
theorem q9b (N : Nat) {R : Type} : GOk (X0 gl0) 64 (q3Z N (R := R)) := by
 intro xs A Kr r hr
 unfold q3Z at hr
 split at hr
 ·simp only [Option.ite_none_right_eq_some] at hr
  obtain ⟨h1, hr⟩ := hr
  exact ⟨_, _, z5X A _ _ h1, hr⟩
 ·cases hr
open Go Go.E Go.RowKit Go.Shelf Go.Sort Go.Lib
theorem z9i (w : World) (T : TypeId) (nd : Nat) (hs : nd ≤ 24) : Holds (fun (b : UInt8) => Value.int .u8 (b.toNat : Int)) (w.alloc (.cells zeros24 T)) w.heap.size 0 (Array.replicate nd (0 : UInt8)) := fun j hj => by
 have hj' : j < nd := by simpa using hj
 refine ⟨?_, World.frozen?_alloc_new _ _ _ _⟩
 rw [World.cell?_alloc_new, zeros24_at _ (by omega), getElem!_pos _ j hj]
 simp
theorem y31 (w : World) (o : Obj) (dk : Array UInt8) (k : Nat) : ∃ os, (putRow (fun (b : UInt8) => Value.int .u8 (b.toNat : Int)) (w.alloc o) w.heap.size 0 dk).drewN k = grow (w.drewN k) os := by
 rw [alloc_eq_grow]
 obtain ⟨os', _, e⟩ := putRow_grow_new (fun (b : UInt8) => Value.int .u8 (b.toNat : Int)) w #[o] w.heap.size 0 dk (Nat.le_refl _)
 exact ⟨os', by rw [e]; rfl⟩
def z8Q (w : World) : Prop := ∀ i, i < 20 → w.cell? ⟨1, i, none⟩ = some (.int .u64 ((10 ^ i : Nat) : Int))
theorem y0f {w : World} (h : z8Q w) (o : Obj) : z8Q (w.alloc o) := fun i hi => by
 have h' := h i hi
 have hlt : 1 < w.heap.size := by
  rcases Nat.lt_or_ge 1 w.heap.size with h1 | h1
  ·exact h1
  ·simp [World.cell?, Array.getElem?_eq_none h1] at h'
 unfold World.cell? at h' ⊢
 rw [RowKit.Below.heap_alloc w o _ hlt]
 exact h'
theorem y3C (u : Nat) (h1 : 1 ≤ u) (h2 : u < 18446744073709551616) (w : World) (htab : z8Q w) :
  Calls Tryd.prog 35 #[.int .u64 u] w fun e w' => e = .returned (.int .i64 (Lib.nDigits u)) ∧ w' = w := by
 have e129 : ∀ args w, (callFunc 55 args).run Tryd.prog w = .ok (.enter 55 args) w := enters_of Tryd.func55 (by kernel_rfl) rfl
 have e317 : ∀ args w, (callFunc 54 args).run Tryd.prog w = .ok (.enter 54 args) w := enters_of Tryd.func54 (by kernel_rfl) rfl
 have e318 : ∀ args w, (callFunc 56 args).run Tryd.prog w = .ok (.enter 56 args) w := enters_of Tryd.func56 (by kernel_rfl) rfl
 obtain ⟨hnd, h19⟩ := Lib.numDigits_eq u h1 h2
 have hL : Lib.bitLen u ≤ 64 := Lib.bitLen_le u 64 (Nat.le_refl _) h2
 have hcell := htab (Lib.l10 (Lib.bitLen u)) (by omega)
 have hto : ((u : Int)).toNat = u := by omega
 generalize hq : Lib.l10 (Lib.bitLen u) = q at hnd h19 hcell
 generalize hT : 10 ^ q = T at hnd hcell
 have h20 : q < 20 := by omega
 have Hnd := Lib.hid hnd
 clear hnd htab
 go_enter Tryd.func35, Tryd.ntmps35
 go_wp2_with (first
  | (go_at_fn 55; refine (Any.bits_Len64 (P := Tryd.prog) (ρ := Tryd.q2C) { Tryd.q6D with } _ _ (by omega) (by omega)).mono ?_; rintro e w' ⟨rfl, rfl⟩)
  | (go_at_fn 54; refine (Any.internal_strconv_log10Pow2 (P := Tryd.prog) (ρ := Tryd.q2C) { Tryd.q6D with } _ (by first | exact hL | (rw [hto]; exact hL)) _).mono ?_; rintro e w' ⟨rfl, rfl⟩)
  | (go_at_fn 56; refine (Any.internal_strconv_bool2_int (P := Tryd.prog) (ρ := Tryd.q2C) { Tryd.q6D with } _ _).mono ?_; rintro e w' ⟨rfl, rfl⟩))
 all_goals go_ret
 all_goals (
  refine ⟨?_, rfl⟩
  have hnd := Hnd.out
  congr 2
  split at hnd <;> simp_all <;> omega)
theorem y3Z (u : Nat) (h : u < 18446744073709551616) (w : World) (htab : z8Q w) :
  Calls Tryd.prog 23 #[.int .u64 u, .int .i64 10] w fun e w' => e = .returned (.string ⟨(Lib.decDigits u).toArray⟩) ∧ ∃ k os, w' = grow (w.drewN k) os := by
 have e283 : ∀ args w, (callFunc 34 args).run Tryd.prog w = .ok (.enter 34 args) w := enters_of Tryd.func34 (by kernel_rfl) rfl
 have e284 : ∀ args w, (callFunc 35 args).run Tryd.prog w = .ok (.enter 35 args) w := enters_of Tryd.func35 (by kernel_rfl) rfl
 have e285 : ∀ args w, (callFunc 36 args).run Tryd.prog w = .ok (.enter 36 args) w := enters_of Tryd.func36 (by kernel_rfl) rfl
 by_cases hs : u < 100
 ·go_enter Tryd.func23, Tryd.ntmps23
  go_wp2_with (go_at_fn 34; refine (Any.internal_strconv_small { Tryd.q6D with } u hs _).mono ?_; rintro e w' ⟨rfl, rfl⟩)
  go_ret
  exact ⟨rfl, 0, #[], by simp [World.drewN_zero]⟩
 ·have hu1 : 1 ≤ u := by omega
  have hnd20 : Lib.nDigits u ≤ 20 := by have := Lib.numDigits_eq u hu1 h; split at this <;> omega
  have hal : Tryd.prog.arrayLen 82 = 24 := by kernel_rfl
  have hsl1 : ∀ W, (Instr.sliceAt 82 (.pointer (some ⟨w.heap.size, 0, none⟩)) none (some (.int .i64 (Lib.nDigits u : Int))) none).run Tryd.prog W = .ok (.slice (some ⟨w.heap.size, 0, none⟩) (Lib.nDigits u) 24) W := fun W => by
   rw [run_sliceAt_array_h W 82 ⟨w.heap.size, 0, none⟩ (by kernel_rfl) .i64 (Lib.nDigits u : Int) (by omega) (by rw [hal]; omega)]
   go_simp
  have hH0 := z9i w 82 (Lib.nDigits u) (by omega)
  have hfmt := Any.internal_strconv_formatBase10 (P := Tryd.prog) (ρ := Tryd.q2C) { Tryd.q6D with } w.heap.size 0 24 u (Array.replicate (Lib.nDigits u) 0) (w.alloc (.cells Lib.zeros24 82)) hH0 (by rw [Array.size_replicate]; exact Lib.lt_pow_nDigits u) h (by rw [Array.size_replicate]; omega)
  rw [Array.size_replicate] at hfmt
  have HH0 := Lib.hid hH0
  clear hH0 hal
  go_enter Tryd.func23, Tryd.ntmps23
  go_wp2_with (first
   | (go_at_fn 35; refine (y3C u hu1 h _ (y0f htab _)).mono ?_; rintro e w' ⟨rfl, rfl⟩))
  go_at_fn 36
  refine hfmt.mono ?_
  rintro e w' ⟨rfl, k, v', dk, rfl, hF⟩
  have hcv : (convert 22 9 (.slice (some ⟨w.heap.size, 0, none⟩) (Lib.nDigits u) 24)).run Tryd.prog ((putRow (fun (b : UInt8) => Value.int .u8 (b.toNat : Int)) (w.alloc (.cells Lib.zeros24 82)) w.heap.size 0 dk).drewN k) = .ok (.string ⟨(Lib.decDigits u).toArray⟩) ((putRow (fun (b : UInt8) => Value.int .u8 (b.toNat : Int)) (w.alloc (.cells Lib.zeros24 82)) w.heap.size 0 dk).drewN k) := by
   have h := run_convert_bytes_back (P := Tryd.prog) ((putRow (fun (b : UInt8) => Value.int .u8 (b.toNat : Int)) (w.alloc (.cells Lib.zeros24 82)) w.heap.size 0 dk).drewN k) 22 9 5 ⟨w.heap.size, 0, none⟩ 24 (Lib.decDigits u) (by kernel_rfl) (by kernel_rfl) (by kernel_rfl) (fun j hj => by
    rw [Lib.row_is_numeral hF j hj, Lib.add_plain, World.cell?_drewN]
    exact cell?_putRow (fun (b : UInt8) => Value.int .u8 (b.toNat : Int)) _ w.heap.size 0 _ dk HH0.out (by rw [hF.size, Array.size_replicate]) j (by rw [hF.size]; rw [Lib.decDigits_length] at hj; exact hj))
   rw [Lib.decDigits_length] at h
   exact h
  go_wp2
  go_ret
  obtain ⟨os, eo⟩ := y31 w (.cells Lib.zeros24 82) dk k
  exact ⟨rfl, k, os, eo⟩
theorem y46 {Γ : G} {w : World} {s : S} (c : z8 Γ w s) (h : Γ.gl 1 = some (.arr 20 (.int .u64), .agg (Go.Lib.pow10Tab.map C.int))) : z8Q w := fun i hi => by
 obtain ⟨l, h1, h2, h3⟩ := c.hgl _ _ _ h
 obtain ⟨arr, T, fr, r, h4, h5⟩ := c.hH _ _ h1
 simp only [z7] at h3
 obtain ⟨cs, e, _, _, _, hr⟩ := h3
 cases e
 have hi' : (Go.Lib.pow10Tab.map C.int)[i]? = some (.int ((10 ^ i : Nat) : Int)) := by
  have h6 := Go.Lib.pow10Tab_at i hi
  have h7 := Go.Lib.pow10Tab_length
  rw [List.getElem?_map]
  rw [List.getD_eq_getElem?_getD] at h6
  cases h8 : Go.Lib.pow10Tab[i]? with
  | none => rw [List.getElem?_eq_none_iff] at h8; omega
  | some z => rw [h8] at h6; simp only [Option.getD_some] at h6; rw [h6]; rfl
 have h9 := hr _ _ hi'
 have m1 : IntKind.u64.min = 0 := by decide
 simp only [z7, Ty.size, Nat.mul_one] at h9 h2
 obtain ⟨n, h11, h10, _, _⟩ := h9
 cases h11
 have h12 : (chunk (chunk l 0 (20 * 1)) i 1)[0]? = some (.int .u64 ((10 ^ i : Nat) : Int)) := by rw [h10]; rfl
 have h13 : l[i]? = some (.int .u64 ((10 ^ i : Nat) : Int)) := by
  simp only [chunk, List.drop_zero, List.getElem?_take, List.getElem?_drop] at h12
  simp at h12
  exact h12.2
 unfold World.cell?
 simp only [h4]
 have h14 : arr[i]? = some (.int .u64 ((10 ^ i : Nat) : Int)) := by
  have hl : i < l.length := by omega
  rw [← Array.getElem?_toList, h5, List.getElem?_append_left hl]
  exact h13
 simpa using h14
theorem y33 (w : World) (k : Nat) (os : Array Obj) : Ext w (grow (w.drewN k) os) := by
 refine ⟨?_, fun b hb => ?_, ?_⟩
 ·simp [grow, World.drewN]
 ·simp [grow, World.drewN, Array.getElem?_append, hb]
 ·rfl
theorem z0z (u : Nat) (h : u < 18446744073709551616) : (Lib.decDigits u).length ≤ 20 := by
 rw [Lib.decDigits_length]
 by_cases h1 : 1 ≤ u
 ·have := Lib.numDigits_eq u h1 h; split at this <;> omega
 ·have : u = 0 := by omega
  subst this; simp [Lib.nDigits]
def y1j : Nat → Nat → List UInt8
 | 0, _ => []
 | f + 1, n => bif Nat.blt n 10 then [UInt8.ofNat (48 + n)] else y1j f (n / 10) ++ [UInt8.ofNat (48 + n % 10)]
def H5 (n : Nat) : List UInt8 := y1j 20 n
theorem z90 : ∀ (f n : Nat), n < 10 ^ (f + 1) → y1j (f + 1) n = Lib.decDigits n
 | f, n, h => by
  rw [Lib.decDigits, y1j]
  by_cases hn : n < 10
  ·rw [dif_pos hn, show Nat.blt n 10 = true from by simpa [Nat.blt_eq] using hn]; rfl
  ·rw [dif_neg hn, show Nat.blt n 10 = false from by rw [← Bool.not_eq_true, Nat.blt_eq]; exact hn]
   cases f with
   | zero => simp at h; omega
   | succ f =>
    have h' : n / 10 < 10 ^ (f + 1) := by rw [Nat.pow_succ] at h; omega
    rw [cond_false, z90 f (n / 10) h']
theorem q8f (n : Nat) (h : n < 18446744073709551616) : H5 n = Lib.decDigits n := z90 19 n (Nat.lt_of_lt_of_le h (by decide))
theorem y05 (A : Key → Option O) (c : C) : r9 (X0 gl0) 23 [.d (.int .u64) c, .d (.int .i64) (.int 10)] A (.d .str (.str (H5 c.toInt.toNat))) [] := by
 intro A' Γ w args hA' hg hc hn hr
 obtain ⟨cc, hok⟩ := hc
 have hs : args.size = 2 := hn.symm
 obtain ⟨e1, _, h1, h2⟩ := k6 (hr 0 _ _ rfl (Array.getElem?_eq_getElem (by omega)))
 obtain ⟨e2, _, _, _⟩ := k6 (hr 1 _ _ rfl (Array.getElem?_eq_getElem (by omega)))
 have m1 : IntKind.u64.min = 0 := by decide
 have m2 : IntKind.u64.max = 18446744073709551615 := by decide
 have ea : args = #[.int .u64 (c.toInt.toNat : Int), .int .i64 10] := by
  apply Array.ext
  ·simpa using hs
  ·intro i h1 h2
   match i with
   | 0 =>
    have : ((c.toInt.toNat : Nat) : Int) = c.toInt := by omega
    simpa [this] using e1
   | 1 => simpa [C.toInt] using e2
   | i + 2 => omega
 rw [ea]
 refine (y3Z c.toInt.toNat (by omega) w (y46 cc (by rw [hg]; rfl))).mono fun e w' he => ?_
 obtain ⟨he1, k, os, he2⟩ := he
 subst he2
 refine ⟨_, Γ, he1, .refl Γ, (cc.ext (y33 w k os)).congr (fun _ => rfl) (fun _ => rfl) (fun _ h => h), ?_⟩
 have := z0z c.toInt.toNat (by omega)
 rw [q8f _ (by omega)]
 exact q0B (by omega)
noncomputable def z0q (_ : Nat) {R : Type} : OvG R := fun xs _ K => match xs with
 | [.d (.int .u64) c, .d (.int .i64) (.int b)] => if b = 10 then K (.d .str (.str (H5 c.toInt.toNat))) [] else none
 | _ => none
theorem z4A (N : Nat) {R : Type} : GOk (X0 gl0) 23 (z0q N (R := R)) := by
 intro xs A Kr r hr
 unfold z0q at hr
 split at hr
 ·rename_i c b
  by_cases hb : b = 10
  ·subst hb
   exact ⟨_, _, y05 A c, by simpa using hr⟩
  ·rw [if_neg hb] at hr; cases hr
 ·cases hr
end Go.Proofs.YtdoajkacibicoaaDoor
namespace Go.Proofs.YtdoajkacibicoaaDoor
open Go Go.E
set_option maxRecDepth 10000
set_option linter.unusedSimpArgs false
variable {gl : Nat → Option (Ty × C)}
end Go.Proofs.YtdoajkacibicoaaDoor
namespace Go.Proofs.YtdoajkacibicoaaDoor
open Go Go.E
set_option maxRecDepth 100000
end Go.Proofs.YtdoajkacibicoaaDoor
namespace Go.Proofs.YtdoajkacibicoaaDoor
open Go Go.E
set_option maxRecDepth 10000
set_option maxHeartbeats 4000000
set_option linter.unusedSimpArgs false
variable {gl : Nat → Option (Ty × C)}
def q06 (p : List C) : Nat → Nat → List Nat → Int × List Nat
 | 0, _, bs => (0, bs)
 | f + 1, i, bs => if i < p.length then (if o6 p i = 0 then q06 p f (i + 1 + y5 (bN p i)) (bs ++ [i]) else (o6 p i, bs)) else (0, bs)
def z03 (p : List C) (i : Nat) : Bool := decide (bN p i = 11) || decide (bN p i = 12)
def toN (p : List C) (i : Nat) : Int := b6 p (i + 1) (y5 (bN p i))
def Y5 (p : List C) (bs : List Nat) : List C := (bs.filter (z03 p)).map fun i => .int (toN p i)
def q7I (bs : List Nat) (c : C) : C := .bool (bs.any fun j => decide (c = C.int (j : Int)))
def W1 (p : List C) : Int :=
 if 256 < p.length then 1 else if (q06 p p.length 0 []).1 ≠ 0 then (q06 p p.length 0 []).1 else
  if (Y5 p (q06 p p.length 0 []).2).all (fun c => (q7I (q06 p p.length 0 []).2 c).toBool) then 0 else 10
theorem z2M {p : List C} {i : Nat} {bs : List Nat} {r : Int × List Nat} (hi : i < p.length) (h : q06 p (p.length - i) i bs = r) :
  (o6 p i ≠ 0 → r = (o6 p i, bs)) ∧ (o6 p i = 0 → i + 1 + y5 (bN p i) ≤ p.length ∧ q06 p (p.length - (i + 1 + y5 (bN p i))) (i + 1 + y5 (bN p i)) (bs ++ [i]) = r) := by
 have mono : ∀ (f g j : Nat) (bs : List Nat), p.length - j ≤ f → p.length - j ≤ g → q06 p f j bs = q06 p g j bs := by
  intro f
  induction f with
  | zero =>
   intro g j bs h1 h2
   cases g with
   | zero => rfl
   | succ g => simp only [q06]; rw [if_neg (by omega)]
  | succ f ih =>
   intro g j bs h1 h2
   cases g with
   | zero => simp only [q06]; rw [if_neg (by omega)]
   | succ g =>
    simp only [q06]
    split
    ·split
     ·exact ih _ _ _ (by omega) (by omega)
     ·rfl
    ·rfl
 obtain ⟨f, hf⟩ : ∃ f, p.length - i = f + 1 := ⟨p.length - i - 1, by omega⟩
 rw [hf] at h
 simp only [q06] at h
 rw [if_pos hi] at h
 refine ⟨fun he => ?_, fun he => ⟨?_, ?_⟩⟩
 ·rw [if_neg he] at h; exact h.symm
 ·unfold o6 at he
  rw [if_neg (by omega)] at he
  split at he
  ·simp at he
  ·split at he
   ·simp at he
   ·omega
 ·rw [if_pos he] at h
  rw [← h]
  exact mono _ _ _ _ (by omega) (by omega)
theorem y1O {p : List C} {i : Nat} {bs : List Nat} (hi : p.length ≤ i) : q06 p (p.length - i) i bs = (0, bs) := by
 rw [show p.length - i = 0 by omega]; rfl
theorem q7w (p : List C) (bs : List Nat) (i : Nat) : Y5 p (bs ++ [i]) = if z03 p i = true then Y5 p bs ++ [.int (toN p i)] else Y5 p bs := by
 unfold Y5
 rw [List.filter_append]
 by_cases h : z03 p i = true
 ·rw [if_pos h]; simp [h]
 ·rw [if_neg h]; simp [h]
theorem z3m (p : List C) (bs : List Nat) : (Y5 p bs).length ≤ bs.length := by
 unfold Y5
 rw [List.length_map]
 exact List.length_filter_le _ _
theorem y4r (bs : List Nat) (i : Nat) : y0a (q7I bs) (.int (i : Int)) (.bool true) = q7I (bs ++ [i]) := by
 funext c
 unfold y0a q7I
 simp only [C.H3]
 by_cases h : c = .int (i : Int)
 ·rw [if_pos h]; simp [h]
 ·rw [if_neg h]; simp [h]
theorem y1m (hg : GF gl) (A : Key → Option O) (p : List C) : r9 (X0 gl) 10 [.d (.slice 1 (.int .u8)) (.slice p)] A (.d (.int .i64) (.int (W1 p))) [] := by
 refine q6O (n := 56) (ok0 gl) Tryd.func10 rfl rfl (by simp) ?_
 intro A' hA
 refine x9 (x4 (ok0 gl) [] (by kernel_rfl) ?_)
 simp only [go_sem, ↓u6, ↓u7, ↓u9, ↓s5, ↓u5, ↓v8, ↓u0, ↓u2, ↓u1, reduceCtorEq, Nat.reduceEqDiff, ↓reduceIte, Nat.reduceAdd, Nat.reduceSub, Nat.reduceLT, Nat.reduceMul, Nat.reduceBEq, Int.reduceLE, Int.reduceLT, Int.reduceAdd, Int.reduceSub, Int.reduceToNat, Int.reduceNeg, Int.reduceMul, Nat.reduceLeDiff]
 by_cases h0 : 256 < p.length
 ·have h0' : (256 : Int) < (p.length : Int) := by omega
  refine x9 (x9 (x4 (ok0 gl) [] (by kernel_rfl) ?_))
  simp only [go_sem, ↓u6, ↓u7, ↓u9, ↓s5, ↓u5, ↓v8, ↓u0, ↓u2, ↓u1, reduceCtorEq, Nat.reduceEqDiff, ↓reduceIte, Nat.reduceAdd, Nat.reduceSub, Nat.reduceLT, Nat.reduceMul, Nat.reduceBEq, Int.reduceLE, Int.reduceLT, Int.reduceAdd, Int.reduceSub, Int.reduceToNat, Int.reduceNeg, Int.reduceMul, Nat.reduceLeDiff, h0']
  refine W6 _ rfl (fun _ => ?_) (fun h => by simp at h)
  refine x9 (x4 (ok0 gl) [] (by kernel_rfl) ?_)
  simp only [go_sem, ↓u6, ↓u7, ↓u9, ↓s5, ↓u5, ↓v8, ↓u0, ↓u2, ↓u1, reduceCtorEq, Nat.reduceEqDiff, ↓reduceIte, Nat.reduceAdd, Nat.reduceSub, Nat.reduceLT, Nat.reduceMul, Nat.reduceBEq, Int.reduceLE, Int.reduceLT, Int.reduceAdd, Int.reduceSub, Int.reduceToNat, Int.reduceNeg, Int.reduceMul, Nat.reduceLeDiff]
  refine q35 ⟨.inr rfl, ?_⟩
  simp only [q3j, go_sem, ↓u6, ↓u7, ↓u9, ↓s5, ↓u5, ↓v8, ↓u0, ↓u2, ↓u1, reduceCtorEq, Nat.reduceEqDiff, ↓reduceIte, Nat.reduceAdd, Nat.reduceSub, Nat.reduceLT, Nat.reduceMul, Nat.reduceBEq, Int.reduceLE, Int.reduceLT, Int.reduceAdd, Int.reduceSub, Int.reduceToNat, Int.reduceNeg, Int.reduceMul, Nat.reduceLeDiff, Tryd.f10, W1, h0, reduceIte] <;> try rfl
 ·have h0' : ¬ (256 : Int) < (p.length : Int) := by omega
  refine x9 (x9 (x4 (ok0 gl) [] (by kernel_rfl) ?_))
  simp only [go_sem, ↓u6, ↓u7, ↓u9, ↓s5, ↓u5, ↓v8, ↓u0, ↓u2, ↓u1, reduceCtorEq, Nat.reduceEqDiff, ↓reduceIte, Nat.reduceAdd, Nat.reduceSub, Nat.reduceLT, Nat.reduceMul, Nat.reduceBEq, Int.reduceLE, Int.reduceLT, Int.reduceAdd, Int.reduceSub, Int.reduceToNat, Int.reduceNeg, Int.reduceMul, Nat.reduceLeDiff, h0']
  refine W6 _ rfl (fun h => by simp at h) (fun _ => q02 ?_)
  refine x9 (x4 (ok0 gl) [] (by kernel_rfl) ?_)
  simp only [go_sem, ↓u6, ↓u7, ↓u9, ↓s5, ↓u5, ↓v8, ↓u0, ↓u2, ↓u1, reduceCtorEq, Nat.reduceEqDiff, ↓reduceIte, Nat.reduceAdd, Nat.reduceSub, Nat.reduceLT, Nat.reduceMul, Nat.reduceBEq, Int.reduceLE, Int.reduceLT, Int.reduceAdd, Int.reduceSub, Int.reduceToNat, Int.reduceNeg, Int.reduceMul, Nat.reduceLeDiff]
  refine x9 (x4 (ok0 gl) [] (by kernel_rfl) ?_)
  simp only [go_sem, ↓u6, ↓u7, ↓u9, ↓s5, ↓u5, ↓v8, ↓u0, ↓u2, ↓u1, reduceCtorEq, Nat.reduceEqDiff, ↓reduceIte, Nat.reduceAdd, Nat.reduceSub, Nat.reduceLT, Nat.reduceMul, Nat.reduceBEq, Int.reduceLE, Int.reduceLT, Int.reduceAdd, Int.reduceSub, Int.reduceToNat, Int.reduceNeg, Int.reduceMul, Nat.reduceLeDiff]
  refine x9 (x9 (x4 (ok0 gl) [] (by kernel_rfl) ?_))
  simp only [go_sem, ↓u6, ↓u7, ↓u9, ↓s5, ↓u5, ↓v8, ↓u0, ↓u2, ↓u1, reduceCtorEq, Nat.reduceEqDiff, ↓reduceIte, Nat.reduceAdd, Nat.reduceSub, Nat.reduceLT, Nat.reduceMul, Nat.reduceBEq, Int.reduceLE, Int.reduceLT, Int.reduceAdd, Int.reduceSub, Int.reduceToNat, Int.reduceNeg, Int.reduceMul, Nat.reduceLeDiff]
  refine DC.q8j (z6J (t := 4) (u := 43) (eb := 8) (e := .int .u64) rfl (.inl rfl)) ?_
  refine q1i (y4k (ι := Nat × List Nat × List (C × V)) (fun i => ⟨[(5, .d (.int .i64) (.int i.1)), (4, .sl 8 (.int .u64) (Y5 p i.2.1) 43), (3, .mp (.l 15)), (2, .d (.int .i64) (.int 0)), (0, .d (.slice 1 (.int .u8)) (.slice p))], [(.l 15, .map (.int .u64) .bool i.2.2)], A', [(43, some (Y5 p i.2.1).length)]⟩) (fun i => p.length - i.1)
   (fun i => i.1 ≤ p.length ∧ i.2.1.length ≤ i.1 ∧ z0P (X0 gl).P 4 .bool i.2.2 (q7I i.2.1) ∧ q06 p (p.length - i.1) i.1 i.2.1 = q06 p p.length 0 []) (0, [], []) ?_ ⟨Nat.zero_le _, Nat.le_refl _, z0P.nil (by simp only [go_sem]), rfl⟩ ?_)
  ·refine q10 rfl ?_ ?_ ?_ ?_ ?_ <;> simp only [go_sem, ↓u6, ↓u7, ↓u9, ↓s5, ↓u5, ↓v8, ↓u0, ↓u2, ↓u1, reduceCtorEq, Nat.reduceEqDiff, ↓reduceIte, Nat.reduceAdd, Nat.reduceSub, Nat.reduceLT, Nat.reduceMul, Nat.reduceBEq, Int.reduceLE, Int.reduceLT, Int.reduceAdd, Int.reduceSub, Int.reduceToNat, Int.reduceNeg, Int.reduceMul, Nat.reduceLeDiff]
   all_goals first | rfl | exact ⟨rfl, rfl⟩
  ·rintro ⟨i, bs, es⟩ ⟨hi, hb, hM, hS⟩
   simp only at hi hb hM hS
   have hM' : ∀ c, q2l (X0 gl).P 4 es c = .d .bool (q7I bs c) := hM.look
   by_cases hlt : i < p.length
   ·have hlt' : (i : Int) < (p.length : Int) := by omega
    obtain ⟨s1, s2⟩ := z2M hlt hS
    refine x9 (x9 (x4 (ok0 gl) [] (by kernel_rfl) ?_))
    simp only [go_sem, ↓u6, ↓u7, ↓u9, ↓s5, ↓u5, ↓v8, ↓u0, ↓u2, ↓u1, reduceCtorEq, Nat.reduceEqDiff, ↓reduceIte, Nat.reduceAdd, Nat.reduceSub, Nat.reduceLT, Nat.reduceMul, Nat.reduceBEq, Int.reduceLE, Int.reduceLT, Int.reduceAdd, Int.reduceSub, Int.reduceToNat, Int.reduceNeg, Int.reduceMul, Nat.reduceLeDiff, hlt']
    refine W6 _ rfl (fun _ => q02 ?_) (fun h => by simp at h)
    refine q1i (x9 (x4 (ok0 gl) [] (by kernel_rfl) (y7U [(), ()] ?_)))
    simp only [go_sem, ↓u6, ↓u7, ↓u9, ↓s5, ↓u5, ↓v8, ↓u0, ↓u2, ↓u1, reduceCtorEq, Nat.reduceEqDiff, ↓reduceIte, Nat.reduceAdd, Nat.reduceSub, Nat.reduceLT, Nat.reduceMul, Nat.reduceBEq, Int.reduceLE, Int.reduceLT, Int.reduceAdd, Int.reduceSub, Int.reduceToNat, Int.reduceNeg, Int.reduceMul, Nat.reduceLeDiff]
    refine y59 [(), (), (), (), (), (), (), (), ()] rfl ?_
    refine y26 _ (z3X hg _ p i (by omega) (by omega)) rfl (by simp only [go_sem]) rfl ?_ ?_ ?_ ?_ ?_ <;> simp only [go_sem, ↓u6, ↓u7, ↓u9, ↓s5, ↓u5, ↓v8, ↓u0, ↓u2, ↓u1, reduceCtorEq, Nat.reduceEqDiff, ↓reduceIte, Nat.reduceAdd, Nat.reduceSub, Nat.reduceLT, Nat.reduceMul, Nat.reduceBEq, Int.reduceLE, Int.reduceLT, Int.reduceAdd, Int.reduceSub, Int.reduceToNat, Int.reduceNeg, Int.reduceMul, Nat.reduceLeDiff, q6I]
    by_cases he : o6 p i = 0
    ·obtain ⟨q1, q2⟩ := s2 he
     refine x9 (x9 (x4 (ok0 gl) [] (by kernel_rfl) ?_))
     simp only [go_sem, ↓u6, ↓u7, ↓u9, ↓s5, ↓u5, ↓v8, ↓u0, ↓u2, ↓u1, reduceCtorEq, Nat.reduceEqDiff, ↓reduceIte, Nat.reduceAdd, Nat.reduceSub, Nat.reduceLT, Nat.reduceMul, Nat.reduceBEq, Int.reduceLE, Int.reduceLT, Int.reduceAdd, Int.reduceSub, Int.reduceToNat, Int.reduceNeg, Int.reduceMul, Nat.reduceLeDiff, he]
     refine W6 _ rfl (fun h => by simp at h) (fun _ => q02 ?_)
     have z1 : IntKind.u64.min = 0 := by decide
     have z2 : IntKind.u64.max = 18446744073709551615 := by decide
     have w1 : IntKind.u64.wrap (i : Int) = i := q7K (by omega) (by omega)
     have hput : z0P (X0 gl).P 4 .bool (q0m es (.int (i : Int)) (.d .bool (.bool true))) (q7I (bs ++ [i])) := by
      rw [← y4r]; exact hM.put _ _
     have hln := z3m p bs
     have hbl : (bs ++ [i]).length ≤ i + 1 + y5 (bN p i) := by simp; omega
     refine x9 (x4 (ok0 gl) [] (by kernel_rfl) ?_)
     simp only [go_sem, ↓u6, ↓u7, ↓u9, ↓s5, ↓u5, ↓v8, ↓u0, ↓u2, ↓u1, reduceCtorEq, Nat.reduceEqDiff, ↓reduceIte, Nat.reduceAdd, Nat.reduceSub, Nat.reduceLT, Nat.reduceMul, Nat.reduceBEq, Int.reduceLE, Int.reduceLT, Int.reduceAdd, Int.reduceSub, Int.reduceToNat, Int.reduceNeg, Int.reduceMul, Nat.reduceLeDiff, w1]
     by_cases l1 : bN p i = 11
     ·have hsn : Y5 p (bs ++ [i]) = Y5 p bs ++ [.int (b6 p (i + 1) (y5 11))] := by rw [q7w, if_pos (by simp [z03, l1])]; unfold toN; rw [l1]
      rw [l1] at q1 q2 hbl
      refine x9 (x9 (x4 (ok0 gl) [] (by kernel_rfl) ?_))
      simp only [go_sem, ↓u6, ↓u7, ↓u9, ↓s5, ↓u5, ↓v8, ↓u0, ↓u2, ↓u1, reduceCtorEq, Nat.reduceEqDiff, ↓reduceIte, Nat.reduceAdd, Nat.reduceSub, Nat.reduceLT, Nat.reduceMul, Nat.reduceBEq, Int.reduceLE, Int.reduceLT, Int.reduceAdd, Int.reduceSub, Int.reduceToNat, Int.reduceNeg, Int.reduceMul, Nat.reduceLeDiff, l1]
      refine W6 _ rfl (fun _ => ?_) (fun h => by simp at h)
      refine x4 (ok0 gl) [] (by kernel_rfl) ?_
      simp only [go_sem, ↓u6, ↓u7, ↓u9, ↓s5, ↓u5, ↓v8, ↓u0, ↓u2, ↓u1, reduceCtorEq, Nat.reduceEqDiff, ↓reduceIte, Nat.reduceAdd, Nat.reduceSub, Nat.reduceLT, Nat.reduceMul, Nat.reduceBEq, Int.reduceLE, Int.reduceLT, Int.reduceAdd, Int.reduceSub, Int.reduceToNat, Int.reduceNeg, Int.reduceMul, Nat.reduceLeDiff]
      refine ⟨rfl, fun x hx => ?_, by omega, by unfold maxLen; omega, ?_⟩
      ·simp only [List.mem_singleton] at hx
       subst hx
       exact ⟨rfl, rfl⟩
      refine x4 (ok0 gl) [] (by kernel_rfl) ?_
      simp only [go_sem, ↓u6, ↓u7, ↓u9, ↓s5, ↓u5, ↓v8, ↓u0, ↓u2, ↓u1, reduceCtorEq, Nat.reduceEqDiff, ↓reduceIte, Nat.reduceAdd, Nat.reduceSub, Nat.reduceLT, Nat.reduceMul, Nat.reduceBEq, Int.reduceLE, Int.reduceLT, Int.reduceAdd, Int.reduceSub, Int.reduceToNat, Int.reduceNeg, Int.reduceMul, Nat.reduceLeDiff]
      refine ⟨(i + 1 + y5 11, bs ++ [i], q0m es (.int (i : Int)) (.d .bool (.bool true))), ⟨q1, hbl, hput, q2⟩, by simp only; omega, ?_⟩
      simp only [hsn]
      refine q10 rfl ?_ ?_ ?_ ?_ ?_ <;> simp only [go_sem, ↓u6, ↓u7, ↓u9, ↓s5, ↓u5, ↓v8, ↓u0, ↓u2, ↓u1, reduceCtorEq, Nat.reduceEqDiff, ↓reduceIte, Nat.reduceAdd, Nat.reduceSub, Nat.reduceLT, Nat.reduceMul, Nat.reduceBEq, Int.reduceLE, Int.reduceLT, Int.reduceAdd, Int.reduceSub, Int.reduceToNat, Int.reduceNeg, Int.reduceMul, Nat.reduceLeDiff, List.length_append]
      all_goals first | exact hput.dat | exact hput.all _ _ | rfl
     ·by_cases l2 : bN p i = 12
      ·have hsn : Y5 p (bs ++ [i]) = Y5 p bs ++ [.int (b6 p (i + 1) (y5 12))] := by rw [q7w, if_pos (by simp [z03, l2])]; unfold toN; rw [l2]
       have l1' : ¬ (12 : Int) = 11 := by decide
       rw [l2] at q1 q2 hbl
       refine x9 (x9 (x4 (ok0 gl) [] (by kernel_rfl) ?_))
       simp only [go_sem, ↓u6, ↓u7, ↓u9, ↓s5, ↓u5, ↓v8, ↓u0, ↓u2, ↓u1, reduceCtorEq, Nat.reduceEqDiff, ↓reduceIte, Nat.reduceAdd, Nat.reduceSub, Nat.reduceLT, Nat.reduceMul, Nat.reduceBEq, Int.reduceLE, Int.reduceLT, Int.reduceAdd, Int.reduceSub, Int.reduceToNat, Int.reduceNeg, Int.reduceMul, Nat.reduceLeDiff, l2, l1']
       refine W6 _ rfl (fun _ => ?_) (fun h => by simp at h)
       refine x4 (ok0 gl) [] (by kernel_rfl) ?_
       simp only [go_sem, ↓u6, ↓u7, ↓u9, ↓s5, ↓u5, ↓v8, ↓u0, ↓u2, ↓u1, reduceCtorEq, Nat.reduceEqDiff, ↓reduceIte, Nat.reduceAdd, Nat.reduceSub, Nat.reduceLT, Nat.reduceMul, Nat.reduceBEq, Int.reduceLE, Int.reduceLT, Int.reduceAdd, Int.reduceSub, Int.reduceToNat, Int.reduceNeg, Int.reduceMul, Nat.reduceLeDiff]
       refine ⟨rfl, fun x hx => ?_, by omega, by unfold maxLen; omega, ?_⟩
       ·simp only [List.mem_singleton] at hx
        subst hx
        exact ⟨rfl, rfl⟩
       refine x4 (ok0 gl) [] (by kernel_rfl) ?_
       simp only [go_sem, ↓u6, ↓u7, ↓u9, ↓s5, ↓u5, ↓v8, ↓u0, ↓u2, ↓u1, reduceCtorEq, Nat.reduceEqDiff, ↓reduceIte, Nat.reduceAdd, Nat.reduceSub, Nat.reduceLT, Nat.reduceMul, Nat.reduceBEq, Int.reduceLE, Int.reduceLT, Int.reduceAdd, Int.reduceSub, Int.reduceToNat, Int.reduceNeg, Int.reduceMul, Nat.reduceLeDiff]
       refine ⟨(i + 1 + y5 12, bs ++ [i], q0m es (.int (i : Int)) (.d .bool (.bool true))), ⟨q1, hbl, hput, q2⟩, by simp only; omega, ?_⟩
       simp only [hsn]
       refine q10 rfl ?_ ?_ ?_ ?_ ?_ <;> simp only [go_sem, ↓u6, ↓u7, ↓u9, ↓s5, ↓u5, ↓v8, ↓u0, ↓u2, ↓u1, reduceCtorEq, Nat.reduceEqDiff, ↓reduceIte, Nat.reduceAdd, Nat.reduceSub, Nat.reduceLT, Nat.reduceMul, Nat.reduceBEq, Int.reduceLE, Int.reduceLT, Int.reduceAdd, Int.reduceSub, Int.reduceToNat, Int.reduceNeg, Int.reduceMul, Nat.reduceLeDiff, List.length_append]
       all_goals first | exact hput.dat | exact hput.all _ _ | rfl
      ·have hsn : Y5 p (bs ++ [i]) = Y5 p bs := by rw [q7w, if_neg (by simp [z03, l1, l2])]
       refine x9 (x9 (x4 (ok0 gl) [] (by kernel_rfl) ?_))
       simp only [go_sem, ↓u6, ↓u7, ↓u9, ↓s5, ↓u5, ↓v8, ↓u0, ↓u2, ↓u1, reduceCtorEq, Nat.reduceEqDiff, ↓reduceIte, Nat.reduceAdd, Nat.reduceSub, Nat.reduceLT, Nat.reduceMul, Nat.reduceBEq, Int.reduceLE, Int.reduceLT, Int.reduceAdd, Int.reduceSub, Int.reduceToNat, Int.reduceNeg, Int.reduceMul, Nat.reduceLeDiff, l1, l2]
       refine W6 _ rfl (fun h => by simp at h) (fun _ => q02 ?_)
       refine x4 (ok0 gl) [] (by kernel_rfl) ?_
       simp only [go_sem, ↓u6, ↓u7, ↓u9, ↓s5, ↓u5, ↓v8, ↓u0, ↓u2, ↓u1, reduceCtorEq, Nat.reduceEqDiff, ↓reduceIte, Nat.reduceAdd, Nat.reduceSub, Nat.reduceLT, Nat.reduceMul, Nat.reduceBEq, Int.reduceLE, Int.reduceLT, Int.reduceAdd, Int.reduceSub, Int.reduceToNat, Int.reduceNeg, Int.reduceMul, Nat.reduceLeDiff]
       refine ⟨(i + 1 + y5 (bN p i), bs ++ [i], q0m es (.int (i : Int)) (.d .bool (.bool true))), ⟨q1, hbl, hput, q2⟩, by simp only; omega, ?_⟩
       simp only [hsn]
       refine q10 rfl ?_ ?_ ?_ ?_ ?_ <;> simp only [go_sem, ↓u6, ↓u7, ↓u9, ↓s5, ↓u5, ↓v8, ↓u0, ↓u2, ↓u1, reduceCtorEq, Nat.reduceEqDiff, ↓reduceIte, Nat.reduceAdd, Nat.reduceSub, Nat.reduceLT, Nat.reduceMul, Nat.reduceBEq, Int.reduceLE, Int.reduceLT, Int.reduceAdd, Int.reduceSub, Int.reduceToNat, Int.reduceNeg, Int.reduceMul, Nat.reduceLeDiff]
       all_goals first | exact hput.dat | exact hput.all _ _ | rfl
    ·have hr := s1 he
     refine x9 (x9 (x4 (ok0 gl) [] (by kernel_rfl) ?_))
     simp only [go_sem, ↓u6, ↓u7, ↓u9, ↓s5, ↓u5, ↓v8, ↓u0, ↓u2, ↓u1, reduceCtorEq, Nat.reduceEqDiff, ↓reduceIte, Nat.reduceAdd, Nat.reduceSub, Nat.reduceLT, Nat.reduceMul, Nat.reduceBEq, Int.reduceLE, Int.reduceLT, Int.reduceAdd, Int.reduceSub, Int.reduceToNat, Int.reduceNeg, Int.reduceMul, Nat.reduceLeDiff, he]
     refine W6 _ rfl (fun _ => ?_) (fun h => by simp at h)
     refine x9 (x4 (ok0 gl) [] (by kernel_rfl) ?_)
     simp only [go_sem, ↓u6, ↓u7, ↓u9, ↓s5, ↓u5, ↓v8, ↓u0, ↓u2, ↓u1, reduceCtorEq, Nat.reduceEqDiff, ↓reduceIte, Nat.reduceAdd, Nat.reduceSub, Nat.reduceLT, Nat.reduceMul, Nat.reduceBEq, Int.reduceLE, Int.reduceLT, Int.reduceAdd, Int.reduceSub, Int.reduceToNat, Int.reduceNeg, Int.reduceMul, Nat.reduceLeDiff]
     refine q35 ⟨.inr rfl, ?_⟩
     simp only [q3j, go_sem, ↓u6, ↓u7, ↓u9, ↓s5, ↓u5, ↓v8, ↓u0, ↓u2, ↓u1, reduceCtorEq, Nat.reduceEqDiff, ↓reduceIte, Nat.reduceAdd, Nat.reduceSub, Nat.reduceLT, Nat.reduceMul, Nat.reduceBEq, Int.reduceLE, Int.reduceLT, Int.reduceAdd, Int.reduceSub, Int.reduceToNat, Int.reduceNeg, Int.reduceMul, Nat.reduceLeDiff, Tryd.f10, W1, h0, hr, he, reduceIte] <;> try rfl
   ·have hlt' : ¬ (i : Int) < (p.length : Int) := by omega
    obtain rfl : i = p.length := by omega
    rw [y1O (Nat.le_refl _)] at hS
    refine x9 (x9 (x4 (ok0 gl) [] (by kernel_rfl) ?_))
    simp only [go_sem, ↓u6, ↓u7, ↓u9, ↓s5, ↓u5, ↓v8, ↓u0, ↓u2, ↓u1, reduceCtorEq, Nat.reduceEqDiff, ↓reduceIte, Nat.reduceAdd, Nat.reduceSub, Nat.reduceLT, Nat.reduceMul, Nat.reduceBEq, Int.reduceLE, Int.reduceLT, Int.reduceAdd, Int.reduceSub, Int.reduceToNat, Int.reduceNeg, Int.reduceMul, Nat.reduceLeDiff, hlt']
    refine W6 _ rfl (fun h => by simp at h) (fun _ => z1l ?_)
    refine x9 (x9 (x4 (ok0 gl) [] (by kernel_rfl) ?_))
    simp only [go_sem, ↓u6, ↓u7, ↓u9, ↓s5, ↓u5, ↓v8, ↓u0, ↓u2, ↓u1, reduceCtorEq, Nat.reduceEqDiff, ↓reduceIte, Nat.reduceAdd, Nat.reduceSub, Nat.reduceLT, Nat.reduceMul, Nat.reduceBEq, Int.reduceLE, Int.reduceLT, Int.reduceAdd, Int.reduceSub, Int.reduceToNat, Int.reduceNeg, Int.reduceMul, Nat.reduceLeDiff]
    refine q1i (z8s (fun j => ⟨[(47, .d (.int .i64) (.int j)), (46, .d (.int .i64) (.int (Y5 p bs).length)), (45, .sl 8 (.int .u64) (Y5 p bs) 43), (3, .mp (.l 15)), (2, .d (.int .i64) (.int 0)), (0, .d (.slice 1 (.int .u8)) (.slice p))], [(.l 15, .map (.int .u64) .bool es)], A', [(43, some (Y5 p bs).length)]⟩) (Y5 p bs).length (fun j => ∀ c ∈ (Y5 p bs).take j, (q7I bs c).toBool = true) ?_ (by simp) ?_)
    ·refine q10 rfl ?_ ?_ ?_ ?_ ?_ <;> simp only [go_sem, ↓u6, ↓u7, ↓u9, ↓s5, ↓u5, ↓v8, ↓u0, ↓u2, ↓u1, reduceCtorEq, Nat.reduceEqDiff, ↓reduceIte, Nat.reduceAdd, Nat.reduceSub, Nat.reduceLT, Nat.reduceMul, Nat.reduceBEq, Int.reduceLE, Int.reduceLT, Int.reduceAdd, Int.reduceSub, Int.reduceToNat, Int.reduceNeg, Int.reduceMul, Nat.reduceLeDiff]
     all_goals first | exact hM.dat | exact hM.all _ _ | rfl
    ·intro j hj hall
     refine x9 (x4 (ok0 gl) [] (by kernel_rfl) ?_)
     simp only [go_sem, ↓u6, ↓u7, ↓u9, ↓s5, ↓u5, ↓v8, ↓u0, ↓u2, ↓u1, reduceCtorEq, Nat.reduceEqDiff, ↓reduceIte, Nat.reduceAdd, Nat.reduceSub, Nat.reduceLT, Nat.reduceMul, Nat.reduceBEq, Int.reduceLE, Int.reduceLT, Int.reduceAdd, Int.reduceSub, Int.reduceToNat, Int.reduceNeg, Int.reduceMul, Nat.reduceLeDiff]
     refine x9 (W6 _ rfl (fun hlt => q02 ?_) (fun hge => z1l ?_))
     ·have hlt : j < (Y5 p bs).length := by simpa using hlt
      have e1 : ((j : Int).toNat) = j := Int.toNat_natCast j
      have hln := z3m p bs
      refine x9 (q1i (x9 (x4 (ok0 gl) [] (by kernel_rfl) ?_)))
      simp only [go_sem, ↓u6, ↓u7, ↓u9, ↓s5, ↓u5, ↓v8, ↓u0, ↓u2, ↓u1, reduceCtorEq, Nat.reduceEqDiff, ↓reduceIte, Nat.reduceAdd, Nat.reduceSub, Nat.reduceLT, Nat.reduceMul, Nat.reduceBEq, Int.reduceLE, Int.reduceLT, Int.reduceAdd, Int.reduceSub, Int.reduceToNat, Int.reduceNeg, Int.reduceMul, Nat.reduceLeDiff, e1]
      refine ⟨by omega, by omega, ?_⟩
      have hmem : (Y5 p bs).getD j .nil ∈ Y5 p bs := by
       rw [List.getD_eq_getElem?_getD, List.getElem?_eq_getElem hlt]; exact List.getElem_mem hlt
      by_cases hin : (q7I bs ((Y5 p bs).getD j .nil)).toBool = true
      ·refine x9 (x4 (ok0 gl) [] (by kernel_rfl) ?_)
       simp only [go_sem, ↓u6, ↓u7, ↓u9, ↓s5, ↓u5, ↓v8, ↓u0, ↓u2, ↓u1, reduceCtorEq, Nat.reduceEqDiff, ↓reduceIte, Nat.reduceAdd, Nat.reduceSub, Nat.reduceLT, Nat.reduceMul, Nat.reduceBEq, Int.reduceLE, Int.reduceLT, Int.reduceAdd, Int.reduceSub, Int.reduceToNat, Int.reduceNeg, Int.reduceMul, Nat.reduceLeDiff, hM', hin]
       refine W6 _ rfl (fun h => by simp at h) (fun _ => q02 ?_)
       refine x4 (ok0 gl) [] (by kernel_rfl) ?_
       simp only [go_sem, ↓u6, ↓u7, ↓u9, ↓s5, ↓u5, ↓v8, ↓u0, ↓u2, ↓u1, reduceCtorEq, Nat.reduceEqDiff, ↓reduceIte, Nat.reduceAdd, Nat.reduceSub, Nat.reduceLT, Nat.reduceMul, Nat.reduceBEq, Int.reduceLE, Int.reduceLT, Int.reduceAdd, Int.reduceSub, Int.reduceToNat, Int.reduceNeg, Int.reduceMul, Nat.reduceLeDiff]
       refine ⟨hlt, ?_, ?_⟩
       ·intro c hc
        rw [List.take_add_one, List.mem_append] at hc
        rcases hc with hc | hc
        ·exact hall c hc
        ·rw [List.getElem?_eq_getElem hlt] at hc
         simp only [Option.toList_some, List.mem_singleton] at hc
         subst hc
         rw [List.getD_eq_getElem?_getD, List.getElem?_eq_getElem hlt] at hin
         exact hin
       ·rw [IntWalk.i64_in _ (by omega)]
        refine q10 rfl ?_ ?_ ?_ ?_ ?_ <;> simp only [go_sem, ↓u6, ↓u7, ↓u9, ↓s5, ↓u5, ↓v8, ↓u0, ↓u2, ↓u1, reduceCtorEq, Nat.reduceEqDiff, ↓reduceIte, Nat.reduceAdd, Nat.reduceSub, Nat.reduceLT, Nat.reduceMul, Nat.reduceBEq, Int.reduceLE, Int.reduceLT, Int.reduceAdd, Int.reduceSub, Int.reduceToNat, Int.reduceNeg, Int.reduceMul, Nat.reduceLeDiff]
        all_goals first | exact hM.dat | exact hM.all _ _ | rfl
      ·have hin' : (q7I bs ((Y5 p bs).getD j .nil)).toBool = false := by simpa using hin
       refine x9 (x4 (ok0 gl) [] (by kernel_rfl) ?_)
       simp only [go_sem, ↓u6, ↓u7, ↓u9, ↓s5, ↓u5, ↓v8, ↓u0, ↓u2, ↓u1, reduceCtorEq, Nat.reduceEqDiff, ↓reduceIte, Nat.reduceAdd, Nat.reduceSub, Nat.reduceLT, Nat.reduceMul, Nat.reduceBEq, Int.reduceLE, Int.reduceLT, Int.reduceAdd, Int.reduceSub, Int.reduceToNat, Int.reduceNeg, Int.reduceMul, Nat.reduceLeDiff, hM', hin']
       refine W6 _ rfl (fun _ => ?_) (fun h => by simp at h)
       have hr : W1 p = 10 := by
        unfold W1
        rw [if_neg h0, ← hS, if_neg (by simp), if_neg]
        intro h
        exact hin (List.all_eq_true.1 h _ hmem)
       refine x9 (x4 (ok0 gl) [] (by kernel_rfl) ?_)
       simp only [go_sem, ↓u6, ↓u7, ↓u9, ↓s5, ↓u5, ↓v8, ↓u0, ↓u2, ↓u1, reduceCtorEq, Nat.reduceEqDiff, ↓reduceIte, Nat.reduceAdd, Nat.reduceSub, Nat.reduceLT, Nat.reduceMul, Nat.reduceBEq, Int.reduceLE, Int.reduceLT, Int.reduceAdd, Int.reduceSub, Int.reduceToNat, Int.reduceNeg, Int.reduceMul, Nat.reduceLeDiff]
       refine q35 ⟨.inr rfl, ?_⟩
       simp only [q3j, go_sem, ↓u6, ↓u7, ↓u9, ↓s5, ↓u5, ↓v8, ↓u0, ↓u2, ↓u1, reduceCtorEq, Nat.reduceEqDiff, ↓reduceIte, Nat.reduceAdd, Nat.reduceSub, Nat.reduceLT, Nat.reduceMul, Nat.reduceBEq, Int.reduceLE, Int.reduceLT, Int.reduceAdd, Int.reduceSub, Int.reduceToNat, Int.reduceNeg, Int.reduceMul, Nat.reduceLeDiff, Tryd.f10, hr] <;> try rfl
     ·have hge : (Y5 p bs).length ≤ j := by simpa using hge
      rw [List.take_of_length_le hge] at hall
      have hr : W1 p = 0 := by
       unfold W1
       rw [if_neg h0, ← hS, if_neg (by simp), if_pos (by rw [List.all_eq_true]; exact hall)]
      refine x9 (x4 (ok0 gl) [] (by kernel_rfl) ?_)
      simp only [go_sem, ↓u6, ↓u7, ↓u9, ↓s5, ↓u5, ↓v8, ↓u0, ↓u2, ↓u1, reduceCtorEq, Nat.reduceEqDiff, ↓reduceIte, Nat.reduceAdd, Nat.reduceSub, Nat.reduceLT, Nat.reduceMul, Nat.reduceBEq, Int.reduceLE, Int.reduceLT, Int.reduceAdd, Int.reduceSub, Int.reduceToNat, Int.reduceNeg, Int.reduceMul, Nat.reduceLeDiff]
      refine q35 ⟨.inr rfl, ?_⟩
      simp only [q3j, go_sem, ↓u6, ↓u7, ↓u9, ↓s5, ↓u5, ↓v8, ↓u0, ↓u2, ↓u1, reduceCtorEq, Nat.reduceEqDiff, ↓reduceIte, Nat.reduceAdd, Nat.reduceSub, Nat.reduceLT, Nat.reduceMul, Nat.reduceBEq, Int.reduceLE, Int.reduceLT, Int.reduceAdd, Int.reduceSub, Int.reduceToNat, Int.reduceNeg, Int.reduceMul, Nat.reduceLeDiff, Tryd.f10, hr] <;> try rfl
end Go.Proofs.YtdoajkacibicoaaDoor
namespace Go.Proofs.YtdoajkacibicoaaDoor
open Go Go.E
set_option maxRecDepth 10000
set_option maxHeartbeats 4000000
set_option linter.unusedSimpArgs false
variable {gl : Nat → Option (Ty × C)}
end Go.Proofs.YtdoajkacibicoaaDoor
namespace Go.Proofs.YtdoajkacibicoaaDoor
open Go Go.E
set_option maxRecDepth 10000
set_option maxHeartbeats 4000000
set_option linter.unusedSimpArgs false
variable {gl : Nat → Option (Ty × C)}
end Go.Proofs.YtdoajkacibicoaaDoor
namespace Go.Proofs.YtdoajkacibicoaaDoor
open Go Go.E
set_option maxRecDepth 100000
theorem y1L {X : Cx} {f : FuncId} {eb : Nat} {e : Ty} {c : C} {A : Key → Option O} {v : V} {L : List (Key × O)} (h : r9 X f [.d (.slice eb e) (.slice c.elems)] A v L) : r9 X f [.d (.slice eb e) c] A v L := by
 intro A' Γ w args hA hg hc hn hr
 have hs : args.size = 1 := hn.symm
 have h0 : q9 Γ (.d (.slice eb e) c) args[0] := hr 0 _ _ rfl (Array.getElem?_eq_getElem (by omega : 0 < args.size))
 obtain ⟨h2, _⟩ := (w9 rfl rfl).1 h0
 simp only [q8, z7] at h2
 obtain ⟨_, _, _, cs, rfl, _⟩ := h2
 exact h A' Γ w args hA hg hc hn hr
def y2P {R : Type} : OvG R := fun xs _ K => match xs with
 | [.d t c] => if t = .slice 1 (.int .u8) then K (.d (.int .i64) (.int (W1 c.elems))) [] else none
 | _ => none
noncomputable def q2O (_ : Nat) {R : Type} : OvG R := y2P
theorem q5P (N : Nat) {R : Type} : GOk (X0 gl0) 10 (q2O N (R := R)) := by
 intro xs A Kr r hr
 unfold q2O y2P at hr
 split at hr
 ·simp only [Option.ite_none_right_eq_some] at hr
  obtain ⟨rfl, hr⟩ := hr
  exact ⟨_, _, y1L (y1m gf0 A _), hr⟩
 ·cases hr
theorem y0j {X : Cx} {f : FuncId} {eb : Nat} {e : Ty} {c : C} {y : V} {A : Key → Option O} {v : V} {L : List (Key × O)} (h : r9 X f [.d (.slice eb e) (.slice c.elems), y] A v L) : r9 X f [.d (.slice eb e) c, y] A v L := by
 intro A' Γ w args hA hg hc hn hr
 have hs : args.size = 2 := hn.symm
 have h0 : q9 Γ (.d (.slice eb e) c) args[0] := hr 0 _ _ rfl (Array.getElem?_eq_getElem (by omega : 0 < args.size))
 obtain ⟨h2, _⟩ := (w9 rfl rfl).1 h0
 simp only [q8, z7] at h2
 obtain ⟨_, _, _, cs, rfl, _⟩ := h2
 exact h A' Γ w args hA hg hc hn hr
theorem y3Q {X : Cx} {f : FuncId} {k : IntKind} {c : C} {y : V} {A : Key → Option O} {v : V} {L : List (Key × O)} (h : r9 X f [y, .d (.int k) (.int c.toInt)] A v L) : r9 X f [y, .d (.int k) c] A v L := by
 intro A' Γ w args hA hg hc hn hr
 have hs : args.size = 2 := hn.symm
 have h0 : q9 Γ (.d (.int k) c) args[1] := hr 1 _ _ rfl (Array.getElem?_eq_getElem (by omega : 1 < args.size))
 obtain ⟨h2, _⟩ := (w9 rfl rfl).1 h0
 simp only [q8, z7] at h2
 have hc' : ∃ i, c = .int i := by
  cases c <;> simp_all
 obtain ⟨i, rfl⟩ := hc'
 exact h A' Γ w args hA hg hc hn hr
def y2v {R : Type} : OvG R := fun xs _ K => match xs with
 | [.d t c, .d u i] => if t = .slice 1 (.int .u8) ∧ u = .int .i64 then (if c.elems.length ≤ 256 ∧ 0 ≤ i.toInt ∧ i.toInt ≤ 100000 then
   K (.tup [.d (.int .i64) (.int (if o6 c.elems i.toInt.toNat = 0 then bN c.elems i.toInt.toNat else 0)), .d (.int .u64) (.int (if o6 c.elems i.toInt.toNat = 0 then b6 c.elems (i.toInt.toNat + 1) (y5 (bN c.elems i.toInt.toNat)) else 0)), .d (.int .i64) (.int (if o6 c.elems i.toInt.toNat = 0 then ((i.toInt.toNat + 1 + y5 (bN c.elems i.toInt.toNat) : Nat) : Int) else 0)), .d (.int .i64) (.int (o6 c.elems i.toInt.toNat))]) [] else none) else none
 | _ => none
noncomputable def q37 (_ : Nat) {R : Type} : OvG R := y2v
theorem q9k (N : Nat) {R : Type} : GOk (X0 gl0) 12 (q37 N (R := R)) := by
 intro xs A Kr r hr
 unfold q37 y2v at hr
 split at hr
 ·simp only [Option.ite_none_right_eq_some] at hr
  obtain ⟨⟨rfl, rfl⟩, ⟨h1, h2, h3⟩, hr⟩ := hr
  rename_i c i
  refine ⟨_, _, y0j (y3Q ?_), hr⟩
  have := z3X gf0 A c.elems i.toInt.toNat h1 (by omega)
  rw [Int.toNat_of_nonneg h2] at this
  simpa only [q6I] using this
 ·cases hr
open Go Go.E Go.RowKit Go.Shelf
set_option maxHeartbeats 4000000
set_option linter.unusedSimpArgs false
def J6 (sep : List UInt8) : List (List UInt8) → List UInt8
 | [] => []
 | x :: l => match l with
  | [] => x
  | _ :: _ => x ++ sep ++ J6 sep l
theorem z2l (sep : List UInt8) : ∀ l : List (List UInt8), J6 sep l = Lib.join l sep
 | [] => rfl
 | [x] => by rw [Lib.join_one]; rfl
 | x :: y :: l => by
  have ih := z2l sep (y :: l)
  rw [Lib.join_cons] at ih ⊢
  rw [Lib.joinTail, List.map_cons, List.flatten_cons, List.append_assoc, ← Lib.joinTail]
  show x ++ sep ++ J6 sep (y :: l) = _
  rw [ih, List.append_assoc]
theorem y2x {w w' : World} (h : Below w.heap.size w w') : Ext w w' := ⟨h.size, fun b hb => h.block b hb, by unfold oof; rw [h.os, h.output]⟩
theorem y2g (a : Option Addr) (cap : Nat) (s : ByteArray) (w : World) : Calls Tryd.prog 14 #[.slice a 0 cap, .string s] w fun e w' => e = .returned (.string ⟨#[]⟩) ∧ w' = w := by
 go_enter Tryd.func14, Tryd.ntmps14
 go_wp2
 go_ret
 exact ⟨rfl, rfl⟩
theorem y0T (A : Key → Option O) (c s : C) (hl : (J6 s.toStr (c.elems.map C.toStr)).length ≤ 140737488355328) :
  r9 (X0 gl0) 14 [.d (.slice 16 .str) c, .d .str s] A (.d .str (.str (J6 s.toStr (c.elems.map C.toStr)))) [] := by
 intro A' Γ w args hA' hg hc hn hr
 obtain ⟨cc, hok⟩ := hc
 have hs : args.size = 2 := hn.symm
 have r0 := hr 0 _ _ rfl (Array.getElem?_eq_getElem (by omega))
 obtain ⟨e2, _, _⟩ := Y7 (hr 1 _ _ rfl (Array.getElem?_eq_getElem (by omega)))
 obtain ⟨r1, r2⟩ := c8.1 r0
 rw [x6 (by simpa [Ty.isAgg] using r2)] at r1
 obtain ⟨a, n, cap, e1, _, hlen, hcap, _, _, hrow⟩ := U3 r1
 by_cases h0 : n = 0
 ·subst h0
  have ea : args = #[.slice a 0 cap, .string ⟨s.toStr.toArray⟩] := by
   apply Array.ext
   ·simpa using hs
   ·intro i h1 h2
    match i with
    | 0 => simpa using e1
    | 1 => simpa using e2
    | i + 2 => omega
  have hce : c.elems = [] := List.eq_nil_of_length_eq_zero hlen
  rw [ea]
  refine (y2g a cap ⟨s.toStr.toArray⟩ w).mono fun e w' he => ?_
  obtain ⟨he1, rfl⟩ := he
  refine ⟨_, Γ, he1, .refl Γ, cc.congr (fun _ => rfl) (fun _ => rfl) (fun _ h => h), ?_⟩
  rw [hce]
  exact q0B (l := []) (by simp)
 rcases hrow with h | ⟨b, off, l, rfl, hH, hb, hcs⟩
 ·omega
 obtain ⟨arr, T, fr, r, q1, q2⟩ := cc.hH b l hH
 have ea : args = #[.slice (some ⟨b, off, none⟩) n cap, .string ⟨s.toStr.toArray⟩] := by
  apply Array.ext
  ·simpa using hs
  ·intro i h1 h2
   match i with
   | 0 => simpa using e1
   | 1 => simpa using e2
   | i + 2 => omega
 have hx : (c.elems.map fun x => (⟨x.toStr.toArray⟩ : ByteArray)).length = n := by simpa using hlen
 have hm : ((c.elems.map fun x => (⟨x.toStr.toArray⟩ : ByteArray)).map (·.data.toList)) = c.elems.map C.toStr := by simp [List.map_map, Function.comp_def]
 have hcells : ∀ (j : Nat) x, (c.elems.map fun x => (⟨x.toStr.toArray⟩ : ByteArray))[j]? = some x → w.cell? ⟨b, off + j, none⟩ = some (.string x) := by
  intro j x hj
  rw [List.getElem?_map] at hj
  cases hc : c.elems[j]? with
  | none => rw [hc] at hj; cases hj
  | some y =>
   rw [hc] at hj
   simp only [Option.map_some, Option.some.injEq] at hj
   have h1 := hcs j y hc
   have hjn : j < n := by have := (List.getElem?_eq_some_iff.1 hc).1; omega
   simp only [z7, Ty.size, Nat.mul_one] at h1 hb
   obtain ⟨t, e3, e4, _⟩ := h1
   have h2 : (chunk l (off + j) 1)[0]? = some (.string ⟨t.toArray⟩) := by first | rw [e4]; rfl | rw [e3]; rfl
   have h3 : l[off + j]? = some (.string ⟨t.toArray⟩) := by
    simp only [chunk, List.getElem?_take, List.getElem?_drop] at h2
    simpa using h2
   have h4 : y.toStr = t := by first | (rw [e3]; rfl) | (rw [e4]; rfl)
   unfold World.cell?
   simp only [q1]
   have h5 : arr[off + j]? = some (.string ⟨t.toArray⟩) := by
    rw [← Array.getElem?_toList, q2, List.getElem?_append_left (by omega)]
    exact h3
   rw [← hj, h4]
   simpa using h5
 have run := Tryd.strings_Join b off cap (c.elems.map fun x => (⟨x.toStr.toArray⟩ : ByteArray)) ⟨s.toStr.toArray⟩ w hcells (lt_of_heap q1) (by rw [hx]; simp only [Ty.size] at *; omega) (by rw [hx]; exact hcap) (by rw [hm, ← z2l]; exact hl)
 rw [hx, hm] at run
 rw [ea]
 refine run.mono fun e w' he => ?_
 obtain ⟨he1, he2⟩ := he
 refine ⟨_, Γ, he1, .refl Γ, (cc.ext (y2x he2)).congr (fun _ => rfl) (fun _ => rfl) (fun _ h => h), ?_⟩
 rw [z2l] at hl ⊢
 exact q0B hl
noncomputable def q8G (_ : Nat) {R : Type} : OvG R := fun xs _ K => match xs with
 | [.d (.slice 16 .str) c, .d .str s] => if (J6 s.toStr (c.elems.map C.toStr)).length ≤ 140737488355328 then K (.d .str (.str (J6 s.toStr (c.elems.map C.toStr)))) [] else none
 | _ => none
theorem z9a (N : Nat) {R : Type} : GOk (X0 gl0) 14 (q8G N (R := R)) := by
 intro xs A Kr r hr
 unfold q8G at hr
 split at hr
 ·simp only [Option.ite_none_right_eq_some] at hr
  obtain ⟨h2, hr⟩ := hr
  exact ⟨_, _, y0T A _ _ h2, hr⟩
 ·cases hr
set_option linter.unusedVariables false
end Go.Proofs.YtdoajkacibicoaaDoor
namespace Go.Proofs.YtdoajkacibicoaaDoor
open Go Go.E
set_option maxRecDepth 100000
set_option maxHeartbeats 4000000
set_option linter.unusedSimpArgs false
variable {R : Type} {N : Nat}
end Go.Proofs.YtdoajkacibicoaaDoor
namespace Go.Proofs.YtdoajkacibicoaaDoor
open Go Go.E
set_option maxRecDepth 100000
set_option maxHeartbeats 4000000
set_option linter.unusedVariables false
noncomputable def q5k : Hints := [([9], ⟨[], [(4, .d .str), (5, .d .str), (6, .d .bool)], [], [], [], []⟩)]
noncomputable def q1B (N : Nat) : OvS (X0 gl0) where
 g R := [(64, q3Z N)]
 ok := fun R => List.forall_mem_cons.2 ⟨q9b N, fun _ h => nomatch h⟩
noncomputable def U0 {R : Type} (N : Nat) (a0 a1 : C) (k1 : KD R) : Option R := (if List.length (C.toStr a1) = 1 then (bif decide (0 ≤ q5J (C.toStr a0) (C.toStr a1)) then (if Int.ofNat 0 ≤ 0 ∧ 0 ≤ q5J (C.toStr a0) (C.toStr a1) ∧ q5J (C.toStr a0) (C.toStr a1) ≤ (↑(List.length (C.toStr a0)) : Int) then (if 0 ≤ IntKind.wrap IntKind.i64 (q5J (C.toStr a0) (C.toStr a1) + (↑(List.length (C.toStr a1)) : Int)) ∧ IntKind.wrap IntKind.i64 (q5J (C.toStr a0) (C.toStr a1) + (↑(List.length (C.toStr a1)) : Int)) ≤ (↑(List.length (C.toStr a0)) : Int) ∧ (↑(List.length (C.toStr a0)) : Int) ≤ (↑(List.length (C.toStr a0)) : Int) then (k1 [C.str (List.drop 0 (List.take (Int.toNat (q5J (C.toStr a0) (C.toStr a1))) (C.toStr a0))), C.str (List.drop (Int.toNat (IntKind.wrap IntKind.i64 (q5J (C.toStr a0) (C.toStr a1) + (↑(List.length (C.toStr a1)) : Int)))) (List.take (Int.toNat (↑(List.length (C.toStr a0)) : Int)) (C.toStr a0))), C.bool true] []) else none) else none) else (k1 [a0, C.str [], C.bool false] [])) else none)
noncomputable def Y9 {R : Type} (N : Nat) : C → C → KD R → Option R := lid "" (U0 N)
theorem q1A {R : Type} (N : Nat) (a0 a1 : C) (k : KD R) : Y9 N a0 a1 k = U0 N a0 a1 k := by unfold Y9; rw [W7]
theorem q4v {R : Type} (N : Nat) (a0 a1 : C) (K : V → List (Key × O) → Option R) : exF (X0 gl0) ((q1B N).ov R) q0X noX (fun f => bif Nat.beq f 43 then q5k else []) N 400 8 43 [.d .str a0, .d .str a1] A0 K =
  Y9 N a0 a1 (fun d1 m1 => K (V.tup [V.d Ty.str (dk d1 0), V.d Ty.str (dk d1 1), V.d Ty.bool (C.bool (C.toBool (dk d1 2)))]) []) := by
 rw [q1A]
 exact (show _ = jn (fun d1 m1 => (K (V.tup [V.d Ty.str (dk d1 0), V.d Ty.str (dk d1 1), V.d Ty.bool (C.bool (C.toBool (dk d1 2)))]) [])) (U0 N a0 a1) by kernel_rfl).trans (Y2 _ _)
noncomputable def q0n (N : Nat) {R : Type} : OvG R := fun xs _ K => match xs with
 | [.d t0 a0, .d t1 a1] => if t0 = .str ∧ t1 = .str then Y9 N a0 a1 (fun d1 m1 => K (V.tup [V.d Ty.str (dk d1 0), V.d Ty.str (dk d1 1), V.d Ty.bool (C.bool (C.toBool (dk d1 2)))]) []) else none
 | _ => none
theorem okB {R : Type} (o : OvS (X0 gl0)) {tb hs N n d f xs} {A : Key → Option O} {K : V → List (Key × O) → Option R} {r} (h : exF (X0 gl0) (o.ov R) q0X tb hs N n d f xs A K = some r) : ∃ v L, r9 (X0 gl0) f xs A v L ∧ K v L = some r := y2y (ok0 gl0) (mo gl0) (o.y7m _) (y5D gl0) _ _ _ _ _ _ h
theorem okA {R : Type} (o : OvS (X0 gl0)) {tb hs N n d f xs} {A : Key → Option O} {K : V → List (Key × O) → Option R} {r} (h : exF (X0 gl0) (o.ov R) q0X tb hs N n d f xs A0 K = some r) : ∃ v L, r9 (X0 gl0) f xs A v L ∧ K v L = some r := let ⟨v, L, h1, h2⟩ := okB o h
 ⟨v, L, h1.mono (y3O fun _ => rfl), h2⟩
theorem q5j (N : Nat) {R : Type} : GOk (X0 gl0) 43 (q0n N (R := R)) := by
 intro xs A Kr r hr
 unfold q0n at hr
 split at hr
 ·simp only [Option.ite_none_right_eq_some] at hr
  obtain ⟨hty, hr⟩ := hr
  obtain ⟨rfl, rfl⟩ := hty
  rw [← q4v] at hr
  exact okA (q1B N) hr
 ·cases hr
noncomputable def z4h : Hints := [([9], ⟨[], [(4, .d .str), (5, .d .str), (6, .d .bool)], [], [], [], []⟩)]
noncomputable def q7O (N : Nat) : OvS (X0 gl0) where
 g R := [(43, q0n N)]
 ok := fun R => List.forall_mem_cons.2 ⟨q5j N, fun _ h => nomatch h⟩
noncomputable def q2R {R : Type} (N : Nat) (a0 a1 : C) (k1 : KD R) : Option R := (Y9 N a0 a1 (fun d1 m1 => (k1 [dk d1 0, dk d1 1, C.bool (C.toBool (dk d1 2))] [])))
noncomputable def q00 {R : Type} (N : Nat) : C → C → KD R → Option R := lid "" (q2R N)
theorem q7N {R : Type} (N : Nat) (a0 a1 : C) (k : KD R) : q00 N a0 a1 k = q2R N a0 a1 k := by unfold q00; rw [W7]
theorem z2G {R : Type} (N : Nat) (a0 a1 : C) (K : V → List (Key × O) → Option R) : exF (X0 gl0) ((q7O N).ov R) q0X noX (fun f => bif Nat.beq f 28 then z4h else []) N 400 8 28 [.d .str a0, .d .str a1] A0 K =
  q00 N a0 a1 (fun d1 m1 => K (V.tup [V.d Ty.str (dk d1 0), V.d Ty.str (dk d1 1), V.d Ty.bool (C.bool (C.toBool (dk d1 2)))]) []) := by
 rw [q7N]
 exact (show _ = jn (fun d1 m1 => (K (V.tup [V.d Ty.str (dk d1 0), V.d Ty.str (dk d1 1), V.d Ty.bool (C.bool (C.toBool (dk d1 2)))]) [])) (q2R N a0 a1) by kernel_rfl).trans (Y2 _ _)
noncomputable def q5C (N : Nat) {R : Type} : OvG R := fun xs _ K => match xs with
 | [.d t0 a0, .d t1 a1] => if t0 = .str ∧ t1 = .str then q00 N a0 a1 (fun d1 m1 => K (V.tup [V.d Ty.str (dk d1 0), V.d Ty.str (dk d1 1), V.d Ty.bool (C.bool (C.toBool (dk d1 2)))]) []) else none
 | _ => none
theorem z4g (N : Nat) {R : Type} : GOk (X0 gl0) 28 (q5C N (R := R)) := by
 intro xs A Kr r hr
 unfold q5C at hr
 split at hr
 ·simp only [Option.ite_none_right_eq_some] at hr
  obtain ⟨hty, hr⟩ := hr
  obtain ⟨rfl, rfl⟩ := hty
  rw [← z2G] at hr
  exact okA (q7O N) hr
 ·cases hr
end Go.Proofs.YtdoajkacibicoaaDoor
namespace Go.Proofs.YtdoajkacibicoaaDoor
open Go Go.E
set_option maxRecDepth 100000
set_option maxHeartbeats 4000000
set_option linter.unusedSimpArgs false
variable {R : Type} {N : Nat}
def Z1 : List UInt8 → Nat
 | [] => 0
 | c :: s => if c = UInt8.ofNat 32 then 0 else Z1 s + 1
theorem z1m : ∀ s, Z1 s ≤ s.length
 | [] => Nat.le_refl _
 | c :: s => by
  have := z1m s
  unfold Z1
  split
  ·omega
  ·simp only [List.length_cons]; omega
theorem z3U : ∀ s, Lib.indexByte s (UInt8.ofNat 32) = if Z1 s < s.length then (Z1 s : Int) else -1
 | [] => rfl
 | c :: s => by
  have ih := z3U s
  have hle := z1m s
  unfold Lib.indexByte Z1
  by_cases e : c = UInt8.ofNat 32
  ·rw [if_pos e, if_pos (by rw [e]; simp), if_pos (by simp)]; rfl
  ·have hb : (c == UInt8.ofNat 32) = false := by rw [beq_eq_false_iff_ne]; exact e
   rw [if_neg e, hb, if_neg (by decide), ih]
   simp only [List.length_cons]
   by_cases h : Z1 s < s.length
   ·rw [if_pos h, if_pos (show Z1 s + 1 < s.length + 1 by omega)]
    have h1 : ((Z1 s : Int) == -1) = false := by rw [beq_eq_false_iff_ne]; omega
    rw [h1]; simp
   ·rw [if_neg h, if_neg (show ¬ Z1 s + 1 < s.length + 1 by omega)]; rfl
theorem y6M (s : List UInt8) (hl : s.length ≤ 140737488355328) (k : KD R) :
  q00 N (.str s) (.str [UInt8.ofNat 32]) k = if Z1 s < s.length then k [.str (s.take (Z1 s)), .str (s.drop (Z1 s + 1)), .bool true] [] else k [.str s, .str [], .bool false] [] := by
 rw [q7N]
 unfold q2R
 rw [q1A]
 unfold U0
 have hx : q5J s [UInt8.ofNat 32] = if Z1 s < s.length then (Z1 s : Int) else -1 := z3U s
 have e1 : ([UInt8.ofNat 32] : List UInt8).length = 1 := rfl
 simp only [q4Y, e1, hx, if_true]
 by_cases h : Z1 s < s.length
 ·have h1 : (Z1 s : Int) ≤ (s.length : Int) := by omega
  have hw : IntKind.i64.wrap ((Z1 s : Int) + 1) = ((Z1 s + 1 : Nat) : Int) := q6W (by omega)
  have h2 : ((Z1 s + 1 : Nat) : Int) ≤ (s.length : Int) := by omega
  have hz : (Int.ofNat 0 : Int) ≤ 0 := by decide
  simp only [h, if_true, h1, h2, hw, hz, Int.natCast_nonneg, decide_true, cond_true, Int.le_refl, and_self, Int.toNat_natCast, List.drop_zero, List.take_length, go_sem, Y0]
 ·have h1 : ¬ (0 : Int) ≤ -1 := by decide
  simp only [h, if_false, h1, decide_false, cond_false, go_sem, Y0]
end Go.Proofs.YtdoajkacibicoaaDoor
namespace Go.Proofs.YtdoajkacibicoaaDoor
open Go Go.E
set_option maxRecDepth 100000
set_option maxHeartbeats 4000000
set_option linter.unusedVariables false
def q3q : List Sh := [.ts 1 (.int .u8), .d (.int .u64), .d (.int .i64)]
def q6w : List (Key × OSh) := []
noncomputable def z2a : Hints := [([1, 0, 1], ⟨[], [(0, .sl 1 (.int .u8) 5000)], [], [], [], []⟩),
  ([4, 1, 0, 1], ⟨[1], [(0, .sl 1 (.int .u8) 5000), (7, .d (.int .i64))], [], [], [], []⟩),
  ([9], ⟨[], [(6, .sl 1 (.int .u8) 5006)], [], [], [], []⟩)]
noncomputable def q6v (N : Nat) : OvS (X0 gl0) where
 g R := []
 ok := fun R => fun _ h => nomatch h
noncomputable def q0I {R : Type} (N : Nat) (k2 : KD R) : KD R → List C → List Es → Option R := (fun k3 d1 m1 => (bif decide (0 ≤ C.toInt (dk d1 2)) then (if 0 ≤ IntKind.wrap IntKind.i64 (8 * C.toInt (dk d1 2)) then (bif Nat.beq (List.length (C.elems (dk d1 1))) (List.length (C.elems (dk d1 1))) then (if (List.length (C.elems (dk d1 1)) + 1) * 1 ≤ 140737488355328 ∧ List.length (C.elems (dk d1 1)) + 1 ≤ 9223372036854775807 then (bif Nat.beq (List.length (C.elems (dk d1 1)) + 1) (List.length (C.elems (dk d1 1) ++ [C.int (IntKind.wrap IntKind.u8 (Int.fdiv (C.toInt (dk d1 0)) (2 ^ min (Int.toNat (IntKind.wrap IntKind.i64 (8 * C.toInt (dk d1 2)))) 64)))])) then (k3 [dk d1 0, C.slice (C.elems (dk d1 1) ++ [C.int (IntKind.wrap IntKind.u8 (Int.fdiv (C.toInt (dk d1 0)) (2 ^ min (Int.toNat (IntKind.wrap IntKind.i64 (8 * C.toInt (dk d1 2)))) 64)))]), C.int (IntKind.wrap IntKind.i64 (C.toInt (dk d1 2) - 1))] []) else none) else none) else none) else none) else (bif Nat.beq (List.length (C.elems (dk d1 1))) (List.length (C.elems (dk d1 1))) then (k2 [C.slice (C.elems (dk d1 1))] []) else none)))
noncomputable def q0H {R : Type} (N : Nat) (a0 a1 a2 : C) (k1 : KD R) : Option R := (jn (fun d1 m1 => (bif Nat.beq (List.length (C.elems (dk d1 0))) (List.length (C.elems (dk d1 0))) then (k1 [C.slice (C.elems (dk d1 0))] []) else none)) (fun k2 => (bif Nat.beq (List.length (C.elems a0)) (List.length (C.elems a0)) then (U4 N (q0I N k2) [a1, C.slice (C.elems a0), C.int (IntKind.wrap IntKind.i64 (C.toInt a2 - 1))] []) else none)))
noncomputable def q0g {R : Type} (N : Nat) : C → C → C → KD R → Option R := lid "" (q0H N)
theorem q6u {R : Type} (N : Nat) (a0 a1 a2 : C) (k : KD R) : q0g N a0 a1 a2 k = q0H N a0 a1 a2 k := by unfold q0g; rw [W7]
theorem z1q {R : Type} (N : Nat) (a0 a1 a2 : C) (K : V → List (Key × O) → Option R) : exF (X0 gl0) ((q6v N).ov R) q0X noX (fun f => bif Nat.beq f 46 then z2a else []) N 400 8 46 (Sh.X7 q3q 0 [a0, a1, a2]) (z6 (w7 q6w (Sh.q0x q3q) 0 [a0, a1, a2] [])) K =
  q0g N a0 a1 a2 (fun d1 m1 => K (V.ts 1 (Ty.int IntKind.u8) (C.elems (dk d1 0))) []) := by
 rw [q6u]
 exact (show _ = jn (fun d1 m1 => (bif Nat.beq (List.length (C.elems (dk d1 0))) (List.length (C.elems (dk d1 0))) then
  (K (V.ts 1 (Ty.int IntKind.u8) (C.elems (dk d1 0))) [])
 else
  none)) (q0H N a0 a1 a2) by kernel_rfl).trans ((Y2 _ _).trans (congrArg (q0H N a0 a1 a2) (funext fun _ => funext fun _ => by simp only [Nat.beq_refl, cond_true])))
noncomputable def q3R (N : Nat) {R : Type} : OvG R := q8w q3q q6w fun ds ms K => q0g N (dk ds 0) (dk ds 1) (dk ds 2) (fun d1 m1 => K (V.ts 1 (Ty.int IntKind.u8) (C.elems (dk d1 0))) [])
theorem z19 (N : Nat) {R : Type} : GOk (X0 gl0) 46 (q3R N (R := R)) := by
 unfold q3R
 refine q4q fun ds ms K r hr => ?_
 rw [← z1q] at hr
 exact okB (q6v N) hr
def q2w : List Sh := [.ts 1 (.int .u8), .d (.slice 8 (.int .u64))]
def q5c : List (Key × OSh) := []
noncomputable def q9Z : Hints := [([1, 0, 1], ⟨[], [(0, .sl 1 (.int .u8) 5000)], [], [], [], []⟩),
  ([4, 1, 0, 1], ⟨[7, 8], [(0, .sl 1 (.int .u8) 5000), (9, .d (.int .i64))], [], [], [], []⟩),
  ([9], ⟨[], [(4, .sl 1 (.int .u8) 5004)], [], [], [], []⟩)]
noncomputable def q5b (N : Nat) : OvS (X0 gl0) where
 g R := [(46, q3R N)]
 ok := fun R => List.forall_mem_cons.2 ⟨z19 N, fun _ h => nomatch h⟩
noncomputable def q1a {R : Type} (N : Nat) (k2 : KD R) : KD R → List C → List Es → Option R := (fun k3 d1 m1 => (bif decide (C.toInt (dk d1 3) < C.toInt (dk d1 1)) then (if 0 ≤ C.toInt (dk d1 3) ∧ C.toInt (dk d1 3) < (↑(List.length (C.elems (dk d1 0))) : Int) then (bif Nat.beq (List.length (C.elems (dk d1 2))) (List.length (C.elems (dk d1 2))) then (q0g N (C.slice (C.elems (dk d1 2))) (List.getD (C.elems (dk d1 0)) (Int.toNat (C.toInt (dk d1 3))) C.nil) (C.int 8) (fun d2 m2 => (bif Nat.beq (List.length (C.elems (dk d2 0))) (List.length (C.elems (dk d2 0))) then (k3 [dk d1 0, dk d1 1, C.slice (C.elems (dk d2 0)), C.int (IntKind.wrap IntKind.i64 (C.toInt (dk d1 3) + 1))] []) else none))) else none) else none) else (bif Nat.beq (List.length (C.elems (dk d1 2))) (List.length (C.elems (dk d1 2))) then (k2 [C.slice (C.elems (dk d1 2))] []) else none)))
noncomputable def q0a {R : Type} (N : Nat) (a0 a1 : C) (k1 : KD R) : Option R := (jn (fun d1 m1 => (bif Nat.beq (List.length (C.elems (dk d1 0))) (List.length (C.elems (dk d1 0))) then (k1 [C.slice (C.elems (dk d1 0))] []) else none)) (fun k2 => (bif Nat.beq (List.length (C.elems a0)) (List.length (C.elems a0)) then (U4 N (q1a N k2) [a1, C.int (↑(List.length (C.elems a1)) : Int), C.slice (C.elems a0), C.int 0] []) else none)))
noncomputable def H0 {R : Type} (N : Nat) : C → C → KD R → Option R := lid "" (q0a N)
theorem q5a {R : Type} (N : Nat) (a0 a1 : C) (k : KD R) : H0 N a0 a1 k = q0a N a0 a1 k := by unfold H0; rw [W7]
theorem q9p {R : Type} (N : Nat) (a0 a1 : C) (K : V → List (Key × O) → Option R) : exF (X0 gl0) ((q5b N).ov R) q0X (fun f r => bif Nat.beq f 30 then (bif Nat.beq r 4 then [(15, 1)] else []) else []) (fun f => bif Nat.beq f 30 then q9Z else []) N 400 8 30 (Sh.X7 q2w 0 [a0, a1]) (z6 (w7 q5c (Sh.q0x q2w) 0 [a0, a1] [])) K =
  H0 N a0 a1 (fun d1 m1 => K (V.ts 1 (Ty.int IntKind.u8) (C.elems (dk d1 0))) []) := by
 rw [q5a]
 exact (show _ = jn (fun d1 m1 => (bif Nat.beq (List.length (C.elems (dk d1 0))) (List.length (C.elems (dk d1 0))) then
  (K (V.ts 1 (Ty.int IntKind.u8) (C.elems (dk d1 0))) [])
 else
  none)) (q0a N a0 a1) by kernel_rfl).trans ((Y2 _ _).trans (congrArg (q0a N a0 a1) (funext fun _ => funext fun _ => by simp only [Nat.beq_refl, cond_true])))
noncomputable def q23 (N : Nat) {R : Type} : OvG R := q8w q2w q5c fun ds ms K => H0 N (dk ds 0) (dk ds 1) (fun d1 m1 => K (V.ts 1 (Ty.int IntKind.u8) (C.elems (dk d1 0))) [])
theorem q9Y (N : Nat) {R : Type} : GOk (X0 gl0) 30 (q23 N (R := R)) := by
 unfold q23
 refine q4q fun ds ms K r hr => ?_
 rw [← q9p] at hr
 exact okB (q5b N) hr
end Go.Proofs.YtdoajkacibicoaaDoor
namespace Go.Proofs.YtdoajkacibicoaaDoor
open Go Go.E
set_option maxRecDepth 100000
set_option maxHeartbeats 4000000
set_option linter.unusedSimpArgs false
variable {R : Type} {N : Nat}
def Y8 : Nat → Int → List C
 | 0, _ => []
 | k + 1, n => Y8 k (n / 256) ++ [.int (n % 256)]
theorem q1g : ∀ (k : Nat) (n : Int), (Y8 k n).length = k
 | 0, _ => rfl
 | k + 1, n => by simp [Y8, q1g k]
theorem z5i : ∀ (k : Nat) (n : Int), Y8 (k + 1) n = .int (n / 256 ^ k % 256) :: Y8 k n
 | 0, n => by simp [Y8]
 | k + 1, n => by
  have e : n / 256 / 256 ^ k = n / 256 ^ (k + 1) := by
   rw [Int.ediv_ediv_of_nonneg (by omega), Int.pow_succ, Int.mul_comm]
  rw [Y8, z5i k (n / 256), e]
  rfl
theorem q9U (k2 : KD R) (c : C) (hc : 0 ≤ c.toInt) : ∀ (m : Nat) (out : List C) (N' : Nat), m ≤ 8 → m < N' → out.length + m ≤ 1000000000000 →
  U4 N' (q0I N k2) [c, .slice out, .int ((m : Int) - 1)] [] = k2 [.slice (out ++ Y8 m c.toInt)] []
 | 0, out, N', _, hN, _ => by
  obtain ⟨n, rfl⟩ : ∃ n, N' = n + 1 := ⟨N' - 1, by omega⟩
  rw [q1b]
  unfold q0I
  simp [go_sem, s8, b8, Y8]
 | m + 1, out, N', hm, hN, hl => by
  obtain ⟨n, rfl⟩ : ∃ n, N' = n + 1 := ⟨N' - 1, by omega⟩
  have e0 : ((m + 1 : Nat) : Int) - 1 = m := by omega
  have e1 : IntKind.i64.wrap (8 * (m : Int)) = 8 * m := wrap_i64 (by omega) (by omega)
  have e2 : IntKind.i64.wrap ((m : Int) - 1) = m - 1 := wrap_i64 (by omega) (by omega)
  have e3 : min (8 * (m : Int)).toNat 64 = 8 * m := by omega
  have e4 : Int.fdiv c.toInt (2 ^ (8 * m)) = c.toInt / 256 ^ m := by
   rw [Int.fdiv_eq_ediv_of_nonneg _ (Int.pow_nonneg (by omega)), Int.pow_mul]; rfl
  have h1 : (0 : Int) ≤ 8 * m := by omega
  have h2 : (out.length + 1) * 1 ≤ 140737488355328 ∧ out.length + 1 ≤ 9223372036854775807 := by omega
  have hb : ∀ rec : KD R, q0I N k2 rec [c, .slice out, .int m] [] = rec [c, .slice (out ++ [.int (c.toInt / 256 ^ m % 256)]), .int ((m : Int) - 1)] [] := by
   intro rec
   unfold q0I
   simp only [q2i, q5O, q8W, s8, b8, e1, e2, e3, e4, wrap_u8, h1, h2, and_self, if_true, Int.natCast_nonneg, decide_true, cond_true, Nat.beq_refl, List.length_append, List.length_cons, List.length_nil, Nat.zero_add]
  rw [q1b, e0, hb]
  rw [q9U k2 c hc m _ n (by omega) (by omega) (by simp; omega), z5i]
  simp
theorem y0y (out : List C) (c : C) (hc : 0 ≤ c.toInt) (m : Nat) (hm : m ≤ 8) (hl : out.length + m ≤ 1000000000000) (hN : 100 < N) (k : KD R) :
  q0g N (.slice out) c (.int m) k = k [.slice (out ++ Y8 m c.toInt)] [] := by
 rw [q6u]
 unfold q0H
 simp only [Y2, s8, b8, q2i, Nat.beq_refl, cond_true]
 rw [wrap_i64 (by omega) (by omega), q9U _ c hc m out N hm (by omega) hl]
 rfl
def q3S (k : Nat) (l : List C) : List C := l.flatMap fun c => Y8 k c.toInt
theorem y0G {k : Nat} {l : List C} {i : Nat} (h : i < l.length) : q3S k (l.take (i + 1)) = q3S k (l.take i) ++ Y8 k (l.getD i .nil).toInt := by
 have : l.take (i + 1) = l.take i ++ [l.getD i .nil] := by
  rw [List.take_add_one, List.getElem?_eq_getElem h, List.getD_eq_getElem?_getD, List.getElem?_eq_getElem h]; rfl
 rw [this]; simp [q3S]
theorem z5g (k : Nat) : ∀ l : List C, (q3S k l).length = k * l.length
 | [] => rfl
 | c :: l => by
  have := z5g k l
  simp only [q3S, List.flatMap_cons, List.length_append, q1g, List.length_cons] at this ⊢
  rw [this, Nat.mul_succ]; omega
theorem z7f (out l : List C) (hc : ∀ c ∈ l, 0 ≤ c.toInt) (hl : out.length + 8 * l.length ≤ 1000000000000) (hN : l.length + 100 < N) (k : KD R) :
  H0 N (.slice out) (.slice l) k = k [.slice (out ++ q3S 8 l)] [] := by
 rw [q5a]
 unfold q0a
 simp only [Y2, s8, b8, q2i, Nat.beq_refl, cond_true]
 have key := z88 (F := q1a N fun d1 m1 => k [.slice (dk d1 0).elems] []) (fun i => [.slice l, .int l.length, .slice (out ++ q3S 8 (l.take i)), .int i]) (fun _ => []) l.length (k [.slice (out ++ q3S 8 l)] []) ?_ ?_ (N := N) (by omega)
 ·simpa [q3S] using key
 ·intro i hi rec
  have h1 : (i : Int) < (l.length : Int) := by omega
  unfold q1a
  simp only [q2i, q5O, q8W, z8o, s8, b8, h1, decide_true, cond_true, Int.natCast_nonneg, and_self, if_true, Nat.beq_refl, Int.toNat_natCast]
  rw [show C.int 8 = C.int ((8 : Nat) : Int) from rfl, y0y _ _ (hc _ (y3X hi)) 8 (by omega) (by simp [z5g]; omega) (by omega)]
  simp only [q2i, b8, Nat.beq_refl, cond_true, y0G hi, q6W (show i < 4611686018427387904 by omega), List.append_assoc]
 ·intro rec
  unfold q1a
  simp only [q2i, q5O, q8W, z8o, s8, b8, Int.lt_irrefl, decide_false, cond_false, Nat.beq_refl, cond_true, List.take_length]
end Go.Proofs.YtdoajkacibicoaaDoor
namespace Go.Proofs.YtdoajkacibicoaaDoor
open Go Go.E
set_option maxRecDepth 100000
set_option maxHeartbeats 4000000
set_option linter.unusedVariables false
noncomputable def z6m : Hints := [([1, 0, 1, 1], ⟨[], [], [], [], [], []⟩),
  ([4, 1, 0, 1, 1], ⟨[4, 5, 6, 19], [(20, .d (.int .i64))], [], [], [], []⟩),
  ([0, 0, 1, 1, 1, 1, 1, 1, 4, 0, 1, 1, 5, 4, 1, 0, 1, 1], ⟨[8, 10], [(9, .sl 1 (.int .u8) 5009), (54, .d .bool)], [], [], [], []⟩),
  ([9], ⟨[], [(2, .sl 1 (.int .u8) 5002), (3, .d (.int .i64))], [], [], [], []⟩)]
noncomputable def q9j (N : Nat) : OvS (X0 gl0) where
 g R := [(23, z0q N), (28, q5C N), (29, q1H N), (30, q23 N)]
 ok := fun R => List.forall_mem_cons.2 ⟨z4A N, List.forall_mem_cons.2 ⟨z4g N, List.forall_mem_cons.2 ⟨q5S N, List.forall_mem_cons.2 ⟨q9Y N, fun _ h => nomatch h⟩⟩⟩⟩
noncomputable def q03 {R : Type} (N : Nat) (k1 : KD R) (k2 : KD R) : KD R → List C → List Es → Option R := (fun k3 d2 m2 => (bif decide (C.toInt (dk d2 4) < 18) then (if 0 ≤ C.toInt (dk d2 4) ∧ C.toInt (dk d2 4) < 18 then (bif !C.toStr (C.get (C.get (dk d2 3) (Int.toNat (C.toInt (dk d2 4)))) 0) == C.toStr (dk d2 0) then (k3 [dk d2 0, dk d2 1, C.bool (C.toBool (dk d2 2)), dk d2 3, C.int (IntKind.wrap IntKind.i64 (C.toInt (dk d2 4) + 1))] []) else (bif !C.toBool (dk d2 2) == decide (0 < C.toInt (C.get (C.get (dk d2 3) (Int.toNat (C.toInt (dk d2 4)))) 1)) then (k1 [C.slice [], C.int 10] []) else (bif !C.toBool (dk d2 2) then (k1 [C.slice [C.int (IntKind.wrap IntKind.u8 (C.toInt (dk d2 4)))], C.int 0] []) else (if IntKind.wrap IntKind.i64 (8 * C.toInt (C.get (C.get (dk d2 3) (Int.toNat (C.toInt (dk d2 4)))) 1)) = 8 ∨ IntKind.wrap IntKind.i64 (8 * C.toInt (C.get (C.get (dk d2 3) (Int.toNat (C.toInt (dk d2 4)))) 1)) = 16 ∨ IntKind.wrap IntKind.i64 (8 * C.toInt (C.get (C.get (dk d2 3) (Int.toNat (C.toInt (dk d2 4)))) 1)) = 64 then (jn (fun d3 m3 => (bif C.toBool (dk d3 2) then (k1 [C.slice [], C.int 10] []) else (H0 N (C.slice []) (C.slice [dk d3 0]) (fun d4 m4 => (if 0 ≤ IntKind.wrap IntKind.i64 (8 - C.toInt (C.get (dk d3 3) 1)) ∧ IntKind.wrap IntKind.i64 (8 - C.toInt (C.get (dk d3 3) 1)) ≤ (↑(List.length (C.elems (dk d4 0))) : Int) ∧ (↑(List.length (C.elems (dk d4 0))) : Int) ≤ (↑(List.length (C.elems (dk d4 0))) : Int) then (bif Nat.beq (List.length (C.elems (dk d3 1))) (List.length (C.elems (dk d3 1))) then (if (List.length (C.elems (dk d3 1)) + List.length (cut (C.elems (dk d4 0)) (IntKind.wrap IntKind.i64 (8 - C.toInt (C.get (dk d3 3) 1))) (↑(List.length (C.elems (dk d4 0))) : Int))) * 1 ≤ 140737488355328 ∧ List.length (C.elems (dk d3 1)) + List.length (cut (C.elems (dk d4 0)) (IntKind.wrap IntKind.i64 (8 - C.toInt (C.get (dk d3 3) 1))) (↑(List.length (C.elems (dk d4 0))) : Int)) ≤ 9223372036854775807 then (bif Nat.beq (List.length (C.elems (dk d3 1)) + List.length (cut (C.elems (dk d4 0)) (IntKind.wrap IntKind.i64 (8 - C.toInt (C.get (dk d3 3) 1))) (↑(List.length (C.elems (dk d4 0))) : Int))) (List.length (C.elems (dk d3 1) ++ cut (C.elems (dk d4 0)) (IntKind.wrap IntKind.i64 (8 - C.toInt (C.get (dk d3 3) 1))) (↑(List.length (C.elems (dk d4 0))) : Int))) then (k1 [C.slice (C.elems (dk d3 1) ++ cut (C.elems (dk d4 0)) (IntKind.wrap IntKind.i64 (8 - C.toInt (C.get (dk d3 3) 1))) (↑(List.length (C.elems (dk d4 0))) : Int)), C.int 0] []) else none) else none) else none) else none))))) (fun k4 => (bif !C.isNil (q4N (Int.toNat (IntKind.wrap IntKind.i64 (8 * C.toInt (C.get (C.get (dk d2 3) (Int.toNat (C.toInt (dk d2 4)))) 1)))) (C.toStr (dk d2 1))) then (k4 [C.int (q2V (Int.toNat (IntKind.wrap IntKind.i64 (8 * C.toInt (C.get (C.get (dk d2 3) (Int.toNat (C.toInt (dk d2 4)))) 1)))) (C.toStr (dk d2 1))), C.slice [C.int (IntKind.wrap IntKind.u8 (C.toInt (dk d2 4)))], C.bool true, C.get (dk d2 3) (Int.toNat (C.toInt (dk d2 4)))] []) else (k4 [C.int (q2V (Int.toNat (IntKind.wrap IntKind.i64 (8 * C.toInt (C.get (C.get (dk d2 3) (Int.toNat (C.toInt (dk d2 4)))) 1)))) (C.toStr (dk d2 1))), C.slice [C.int (IntKind.wrap IntKind.u8 (C.toInt (dk d2 4)))], C.bool !H5 (Int.toNat (q2V (Int.toNat (IntKind.wrap IntKind.i64 (8 * C.toInt (C.get (C.get (dk d2 3) (Int.toNat (C.toInt (dk d2 4)))) 1)))) (C.toStr (dk d2 1)))) == C.toStr (dk d2 1), C.get (dk d2 3) (Int.toNat (C.toInt (dk d2 4)))] [])))) else none)))) else none) else (k2 [] [])))
noncomputable def q1X {R : Type} (N : Nat) (a0 : C) (k1 : KD R) : Option R := (q00 N a0 (C.str [UInt8.ofNat 32]) (fun d1 m1 => (jn (fun d2 m2 => (k1 [C.slice [], C.int 40] [])) (fun k2 => (U4 N (q03 N k1 k2) [dk d1 0, dk d1 1, C.bool (C.toBool (dk d1 2)), C.agg Z5, C.int 0] [])))))
noncomputable def q1w {R : Type} (N : Nat) : C → KD R → Option R := lid "" (q1X N)
theorem q9i {R : Type} (N : Nat) (a0 : C) (k : KD R) : q1w N a0 k = q1X N a0 k := by unfold q1w; rw [W7]
theorem z4O {R : Type} (N : Nat) (a0 : C) (K : V → List (Key × O) → Option R) : exF (X0 gl0) ((q9j N).ov R) q0X (fun f r => bif Nat.beq f 20 then (bif Nat.beq r 8 then [(35, 4)] else bif Nat.beq r 14 then [(58, 1)] else []) else []) (fun f => bif Nat.beq f 20 then z6m else []) N 400 8 20 [.d .str a0] A0 K =
  q1w N a0 (fun d1 m1 => K (V.tup [V.ts 1 (Ty.int IntKind.u8) (C.elems (dk d1 0)), V.d (Ty.int IntKind.i64) (dk d1 1)]) []) := by
 rw [q9i]
 exact (show _ = jn (fun d1 m1 => (bif Nat.beq (List.length (C.elems (dk d1 0))) (List.length (C.elems (dk d1 0))) then
  (K (V.tup [V.ts 1 (Ty.int IntKind.u8) (C.elems (dk d1 0)), V.d (Ty.int IntKind.i64) (dk d1 1)]) [])
 else
  none)) (q1X N a0) by kernel_rfl).trans ((Y2 _ _).trans (congrArg (q1X N a0) (funext fun _ => funext fun _ => by simp only [Nat.beq_refl, cond_true])))
noncomputable def q6Q (N : Nat) {R : Type} : OvG R := fun xs _ K => match xs with
 | [.d t0 a0] => if t0 = .str then q1w N a0 (fun d1 m1 => K (V.tup [V.ts 1 (Ty.int IntKind.u8) (C.elems (dk d1 0)), V.d (Ty.int IntKind.i64) (dk d1 1)]) []) else none
 | _ => none
theorem z6l (N : Nat) {R : Type} : GOk (X0 gl0) 20 (q6Q N (R := R)) := by
 intro xs A Kr r hr
 unfold q6Q at hr
 split at hr
 ·simp only [Option.ite_none_right_eq_some] at hr
  obtain ⟨hty, hr⟩ := hr
  subst hty
  rw [← z4O] at hr
  exact okA (q9j N) hr
 ·cases hr
end Go.Proofs.YtdoajkacibicoaaDoor
