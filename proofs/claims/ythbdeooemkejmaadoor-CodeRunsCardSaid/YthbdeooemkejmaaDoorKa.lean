/-
  What the functions on the way compute, part 1.
  Conditions: none.
-/
import Derived.Test.YthbdeooemkejmaaDoorTf
import Derived.Laws.Externs
import Derived.Lib.Bytealg
set_option linter.all false
namespace Go.Proofs.YthbdeooemkejmaaDoor
open Go Go.E
set_option maxRecDepth 10000
set_option maxHeartbeats 4000000
set_option linter.unusedSimpArgs false
variable {gl : Nat → Option (Ty × C)}
def formC (l : List UInt8) (m c : Int) : C := .agg [.str l, .int m, .int c]
def formsC : List C := [formC [104, 97, 108, 116] 0 1, formC [112, 117, 115, 104] 8 1, formC [108, 111, 97, 100] 1 1, formC [97, 100, 100] 0 1, formC [115, 117, 98] 0 1, formC [109, 117, 108] 0 3,
  formC [108, 101, 115, 115] 0 1, formC [115, 97, 109, 101] 0 1, formC [110, 111, 116] 0 1, formC [98, 111, 116, 104] 0 1, formC [97, 110, 121] 0 1, formC [106, 117, 109, 112] 2 1, formC [105, 102] 2 1,
  formC [116, 119, 105, 99, 101] 0 1, formC [115, 119, 97, 112] 0 1, formC [100, 114, 111, 112] 0 1, formC [112, 97, 105, 100] 1 10, formC [110, 111, 119] 0 1]
def GF (gl : Nat → Option (Ty × C)) : Prop := gl 0 = some (.arr 18 tForm, .agg formsC)
def moreN (o : Int) : Nat := if o = 1 then 8 else if o = 2 ∨ o = 16 then 1 else if o = 11 ∨ o = 12 then 2 else 0
theorem moreN_le (o : Int) : moreN o ≤ 8 := by unfold moreN; (repeat' split) <;> omega
theorem forms_more : ∀ (o : Nat), o < 18 → (formsC.getD o .nil).get 1 = .int (moreN o) := by
  intro o h
  have c : o = 0 ∨ o = 1 ∨ o = 2 ∨ o = 3 ∨ o = 4 ∨ o = 5 ∨ o = 6 ∨ o = 7 ∨ o = 8 ∨ o = 9 ∨ o = 10 ∨ o = 11 ∨ o = 12 ∨ o = 13 ∨ o = 14 ∨ o = 15 ∨ o = 16 ∨ o = 17 := by omega
  rcases c with rfl | rfl | rfl | rfl | rfl | rfl | rfl | rfl | rfl | rfl | rfl | rfl | rfl | rfl | rfl | rfl | rfl | rfl <;> rfl
def bN (p : List C) (i : Nat) : Int := (p.getD i .nil).toInt
def argN (p : List C) (i : Nat) : Nat → Int
  | 0 => 0
  | k + 1 => argN p i k * 256 + bN p (i + k)
def errN (p : List C) (i : Nat) : Int :=
  if p.length ≤ i then 9 else if 18 ≤ bN p i then 33 else if p.length < i + 1 + moreN (bN p i) then 9 else 0
theorem bN_wf {p : List C} (h : C.wf (.slice 1 (.int .u8)) (.slice p)) {i : Nat} (hi : i < p.length) : p.getD i .nil = .int (bN p i) ∧ 0 ≤ bN p i ∧ bN p i ≤ 255 := by
  have := C.wf_elem (i := i) h hi
  simp only [C.elems, C.wf] at this
  have m1 : IntKind.u8.min = 0 := by decide
  have m2 : IntKind.u8.max = 255 := by decide
  exact ⟨this.1, by unfold bN; omega, by unfold bN; omega⟩
theorem argN_wf {p : List C} (h : C.wf (.slice 1 (.int .u8)) (.slice p)) {i : Nat} : ∀ {k : Nat}, i + k ≤ p.length → 0 ≤ argN p i k ∧ argN p i k < 256 ^ k
  | 0, _ => by simp [argN]
  | k + 1, hk => by
    have ih := argN_wf h (k := k) (i := i) (by omega)
    have hb := bN_wf h (i := i + k) (by omega)
    simp only [argN]
    have e : (256 : Int) ^ (k + 1) = 256 ^ k * 256 := by rw [Int.pow_succ]
    omega
theorem argN_lt {p : List C} (h : C.wf (.slice 1 (.int .u8)) (.slice p)) {i k : Nat} (hk : i + k ≤ p.length) (h8 : k ≤ 8) : 0 ≤ argN p i k ∧ argN p i k ≤ 18446744073709551615 ∧ (k < 8 → argN p i k < 72057594037927936) := by
  obtain ⟨h1, h2⟩ := argN_wf h hk
  have c : k = 0 ∨ k = 1 ∨ k = 2 ∨ k = 3 ∨ k = 4 ∨ k = 5 ∨ k = 6 ∨ k = 7 ∨ k = 8 := by omega
  rcases c with rfl | rfl | rfl | rfl | rfl | rfl | rfl | rfl | rfl <;> simp at h2 <;> omega
theorem or_byte {a b : Int} (ha : 0 ≤ a) (ha2 : a < 72057594037927936) (hb : 0 ≤ b) (hb2 : b ≤ 255) : bitsC .or .u64 (a * 256) b = a * 256 + b := by
  obtain ⟨x, rfl⟩ := Int.eq_ofNat_of_zero_le ha
  obtain ⟨y, rfl⟩ := Int.eq_ofNat_of_zero_le hb
  have hx : x < 72057594037927936 := by omega
  have hy : y < 256 := by omega
  have e1 : ((x : Int) * 256) = ((x * 256 : Nat) : Int) := by omega
  have key : (x * 256) ||| y = x * 256 + y := by
    have := Nat.two_pow_add_eq_or_of_lt (i := 8) (b := y) (by omega) x
    rw [Nat.mul_comm x 256]
    exact this.symm
  rw [e1]
  show IntKind.u64.wrap (((BitVec.ofInt 64 ((x * 256 : Nat) : Int)) ||| (BitVec.ofInt 64 ((y : Nat) : Int))).toNat : Int) = _
  simp only [BitVec.toNat_or, BitVec.ofInt_natCast, BitVec.toNat_ofNat]
  rw [Nat.mod_eq_of_lt (by omega), Nat.mod_eq_of_lt (by omega), key]
  have m1 : IntKind.u64.min = 0 := by decide
  have m2 : IntKind.u64.max = 18446744073709551615 := by decide
  exact (wrap_id (by omega) (by omega)).trans (by omega)
def fetchV (p : List C) (i : Nat) : V := .tup [.d (.int .i64) (.int (if errN p i = 0 then bN p i else 0)), .d (.int .u64) (.int (if errN p i = 0 then argN p (i + 1) (moreN (bN p i)) else 0)),
  .d (.int .i64) (.int (if errN p i = 0 then ((i + 1 + moreN (bN p i) : Nat) : Int) else 0)), .d (.int .i64) (.int (errN p i))]
theorem code_fetch (hg : GF gl) (A : Key → Option O) (p : List C) (at_ : Nat) (hl : p.length ≤ 256) (hat : at_ ≤ 100000) : DCalls (X0 gl) 13 [.d (.slice 1 (.int .u8)) (.slice p), .d (.int .i64) (.int at_)] A (fetchV p at_) [] := by
  refine dcalls_intro (n := 51) (ok0 gl) Tryd.func13 rfl rfl (by simp) ?_
  intro A' hA
  refine dc_facts fun W => ?_
  have hw : C.wf (.slice 1 (.int .u8)) (.slice p) := W.at (t := 0) rfl
  clear W
  refine dc_seq (dc_region (ok0 gl) [] (by kernel_rfl) ?_)
  simp only [go_sem, ↓gx_tt, ↓gx_tf, ↓gx_ft, ↓gx_ff, ↓gx_u2, ↓gk_tt, ↓gk_tf, ↓gk_ff, ↓gk_ft, reduceCtorEq, Nat.reduceEqDiff, ↓reduceIte, Nat.reduceAdd, Nat.reduceSub, Nat.reduceLT, Nat.reduceMul, Nat.reduceBEq, Int.reduceLE, Int.reduceLT, Int.reduceAdd, Int.reduceSub, Int.reduceToNat, Int.reduceNeg, Int.reduceMul, Nat.reduceLeDiff]
  by_cases h1 : p.length ≤ at_
  · have h1' : (p.length : Int) ≤ (at_ : Int) := by omega
    have e : errN p at_ = 9 := by unfold errN; rw [if_pos h1]
    refine dc_seq (dc_seq (dc_region (ok0 gl) [] (by kernel_rfl) ?_))
    simp only [go_sem, ↓gx_tt, ↓gx_tf, ↓gx_ft, ↓gx_ff, ↓gx_u2, ↓gk_tt, ↓gk_tf, ↓gk_ff, ↓gk_ft, reduceCtorEq, Nat.reduceEqDiff, ↓reduceIte, Nat.reduceAdd, Nat.reduceSub, Nat.reduceLT, Nat.reduceMul, Nat.reduceBEq, Int.reduceLE, Int.reduceLT, Int.reduceAdd, Int.reduceSub, Int.reduceToNat, Int.reduceNeg, Int.reduceMul, Nat.reduceLeDiff, h1']
    refine dc_cond _ rfl (fun _ => ?_) (fun h => by simp at h)   -- on t13
    refine dc_seq (dc_region (ok0 gl) [] (by kernel_rfl) ?_)
    simp only [go_sem, ↓gx_tt, ↓gx_tf, ↓gx_ft, ↓gx_ff, ↓gx_u2, ↓gk_tt, ↓gk_tf, ↓gk_ff, ↓gk_ft, reduceCtorEq, Nat.reduceEqDiff, ↓reduceIte, Nat.reduceAdd, Nat.reduceSub, Nat.reduceLT, Nat.reduceMul, Nat.reduceBEq, Int.reduceLE, Int.reduceLT, Int.reduceAdd, Int.reduceSub, Int.reduceToNat, Int.reduceNeg, Int.reduceMul, Nat.reduceLeDiff]
    refine dc_ret ⟨.inr rfl, ?_⟩
    simp only [retOk, go_sem, ↓gx_tt, ↓gx_tf, ↓gx_ft, ↓gx_ff, ↓gx_u2, ↓gk_tt, ↓gk_tf, ↓gk_ff, ↓gk_ft, reduceCtorEq, Nat.reduceEqDiff, ↓reduceIte, Nat.reduceAdd, Nat.reduceSub, Nat.reduceLT, Nat.reduceMul, Nat.reduceBEq, Int.reduceLE, Int.reduceLT, Int.reduceAdd, Int.reduceSub, Int.reduceToNat, Int.reduceNeg, Int.reduceMul, Nat.reduceLeDiff, Tryd.f13, fetchV, e, Int.reduceEq, reduceIte] <;> try rfl
  · have h1' : ¬ (p.length : Int) ≤ (at_ : Int) := by omega
    have hlt : (at_ : Int) < (p.length : Int) := by omega
    have e1 : ((at_ : Int).toNat) = at_ := Int.toNat_natCast _
    obtain ⟨b1, b2, b3⟩ := bN_wf hw (i := at_) (by omega)
    refine dc_seq (dc_seq (dc_region (ok0 gl) [] (by kernel_rfl) ?_))
    simp only [go_sem, ↓gx_tt, ↓gx_tf, ↓gx_ft, ↓gx_ff, ↓gx_u2, ↓gk_tt, ↓gk_tf, ↓gk_ff, ↓gk_ft, reduceCtorEq, Nat.reduceEqDiff, ↓reduceIte, Nat.reduceAdd, Nat.reduceSub, Nat.reduceLT, Nat.reduceMul, Nat.reduceBEq, Int.reduceLE, Int.reduceLT, Int.reduceAdd, Int.reduceSub, Int.reduceToNat, Int.reduceNeg, Int.reduceMul, Nat.reduceLeDiff, h1']
    refine dc_cond _ rfl (fun h => by simp at h) (fun _ => dc_skip ?_)   -- on t13
    have w1 : IntKind.i64.wrap (bN p at_) = bN p at_ := IntWalk.i64_in _ (by omega)
    refine dc_seq (dc_region (ok0 gl) [] (by kernel_rfl) ?_)
    simp only [go_sem, ↓gx_tt, ↓gx_tf, ↓gx_ft, ↓gx_ff, ↓gx_u2, ↓gk_tt, ↓gk_tf, ↓gk_ff, ↓gk_ft, reduceCtorEq, Nat.reduceEqDiff, ↓reduceIte, Nat.reduceAdd, Nat.reduceSub, Nat.reduceLT, Nat.reduceMul, Nat.reduceBEq, Int.reduceLE, Int.reduceLT, Int.reduceAdd, Int.reduceSub, Int.reduceToNat, Int.reduceNeg, Int.reduceMul, Nat.reduceLeDiff, hlt, e1, b1, w1]
    refine ⟨by omega, ?_⟩
    by_cases h2 : 18 ≤ bN p at_
    · have e : errN p at_ = 33 := by unfold errN; rw [if_neg h1, if_pos h2]
      refine dc_seq (dc_seq (dc_region (ok0 gl) [] (by kernel_rfl) ?_))
      simp only [go_sem, ↓gx_tt, ↓gx_tf, ↓gx_ft, ↓gx_ff, ↓gx_u2, ↓gk_tt, ↓gk_tf, ↓gk_ff, ↓gk_ft, reduceCtorEq, Nat.reduceEqDiff, ↓reduceIte, Nat.reduceAdd, Nat.reduceSub, Nat.reduceLT, Nat.reduceMul, Nat.reduceBEq, Int.reduceLE, Int.reduceLT, Int.reduceAdd, Int.reduceSub, Int.reduceToNat, Int.reduceNeg, Int.reduceMul, Nat.reduceLeDiff, h2]
      refine dc_cond _ rfl (fun _ => ?_) (fun h => by simp at h)   -- on t20
      refine dc_seq (dc_region (ok0 gl) [] (by kernel_rfl) ?_)
      simp only [go_sem, ↓gx_tt, ↓gx_tf, ↓gx_ft, ↓gx_ff, ↓gx_u2, ↓gk_tt, ↓gk_tf, ↓gk_ff, ↓gk_ft, reduceCtorEq, Nat.reduceEqDiff, ↓reduceIte, Nat.reduceAdd, Nat.reduceSub, Nat.reduceLT, Nat.reduceMul, Nat.reduceBEq, Int.reduceLE, Int.reduceLT, Int.reduceAdd, Int.reduceSub, Int.reduceToNat, Int.reduceNeg, Int.reduceMul, Nat.reduceLeDiff]
      refine dc_ret ⟨.inr rfl, ?_⟩
      simp only [retOk, go_sem, ↓gx_tt, ↓gx_tf, ↓gx_ft, ↓gx_ff, ↓gx_u2, ↓gk_tt, ↓gk_tf, ↓gk_ff, ↓gk_ft, reduceCtorEq, Nat.reduceEqDiff, ↓reduceIte, Nat.reduceAdd, Nat.reduceSub, Nat.reduceLT, Nat.reduceMul, Nat.reduceBEq, Int.reduceLE, Int.reduceLT, Int.reduceAdd, Int.reduceSub, Int.reduceToNat, Int.reduceNeg, Int.reduceMul, Nat.reduceLeDiff, Tryd.f13, fetchV, e, Int.reduceEq, reduceIte] <;> try rfl
    · refine dc_seq (dc_seq (dc_region (ok0 gl) [] (by kernel_rfl) ?_))
      simp only [go_sem, ↓gx_tt, ↓gx_tf, ↓gx_ft, ↓gx_ff, ↓gx_u2, ↓gk_tt, ↓gk_tf, ↓gk_ff, ↓gk_ft, reduceCtorEq, Nat.reduceEqDiff, ↓reduceIte, Nat.reduceAdd, Nat.reduceSub, Nat.reduceLT, Nat.reduceMul, Nat.reduceBEq, Int.reduceLE, Int.reduceLT, Int.reduceAdd, Int.reduceSub, Int.reduceToNat, Int.reduceNeg, Int.reduceMul, Nat.reduceLeDiff, h2]
      refine dc_cond _ rfl (fun h => by simp at h) (fun _ => dc_skip ?_)   -- on t20
      have hm : (formsC.getD (bN p at_).toNat .nil).get 1 = .int (moreN (bN p at_)) := by
        have := forms_more (bN p at_).toNat (by omega)
        rwa [Int.toNat_of_nonneg b2] at this
      have hg' : gl 0 = _ := hg
      have m8 := moreN_le (bN p at_)
      generalize hmm : moreN (bN p at_) = m at hm m8
      have w2 : IntKind.i64.wrap ((at_ : Int) + 1) = (at_ : Int) + 1 := IntWalk.i64_in _ (by omega)
      have w3 : IntKind.i64.wrap ((at_ : Int) + 1 + (m : Int)) = (at_ : Int) + 1 + (m : Int) := IntWalk.i64_in _ (by omega)
      refine dc_seq (dc_region (ok0 gl) [] (by kernel_rfl) ?_)
      simp only [go_sem, ↓gx_tt, ↓gx_tf, ↓gx_ft, ↓gx_ff, ↓gx_u2, ↓gk_tt, ↓gk_tf, ↓gk_ff, ↓gk_ft, reduceCtorEq, Nat.reduceEqDiff, ↓reduceIte, Nat.reduceAdd, Nat.reduceSub, Nat.reduceLT, Nat.reduceMul, Nat.reduceBEq, Int.reduceLE, Int.reduceLT, Int.reduceAdd, Int.reduceSub, Int.reduceToNat, Int.reduceNeg, Int.reduceMul, Nat.reduceLeDiff, hg', hm, w2, w3]
      refine ⟨by omega, by omega, ?_⟩
      by_cases h3 : p.length < at_ + 1 + m
      · have h3' : (p.length : Int) < (at_ : Int) + 1 + (m : Int) := by omega
        have e : errN p at_ = 9 := by unfold errN; rw [if_neg h1, if_neg h2, hmm, if_pos h3]
        refine dc_seq (dc_seq (dc_region (ok0 gl) [] (by kernel_rfl) ?_))
        simp only [go_sem, ↓gx_tt, ↓gx_tf, ↓gx_ft, ↓gx_ff, ↓gx_u2, ↓gk_tt, ↓gk_tf, ↓gk_ff, ↓gk_ft, reduceCtorEq, Nat.reduceEqDiff, ↓reduceIte, Nat.reduceAdd, Nat.reduceSub, Nat.reduceLT, Nat.reduceMul, Nat.reduceBEq, Int.reduceLE, Int.reduceLT, Int.reduceAdd, Int.reduceSub, Int.reduceToNat, Int.reduceNeg, Int.reduceMul, Nat.reduceLeDiff, h3']
        refine dc_cond _ rfl (fun _ => ?_) (fun h => by simp at h)   -- on t31
        refine dc_seq (dc_region (ok0 gl) [] (by kernel_rfl) ?_)
        simp only [go_sem, ↓gx_tt, ↓gx_tf, ↓gx_ft, ↓gx_ff, ↓gx_u2, ↓gk_tt, ↓gk_tf, ↓gk_ff, ↓gk_ft, reduceCtorEq, Nat.reduceEqDiff, ↓reduceIte, Nat.reduceAdd, Nat.reduceSub, Nat.reduceLT, Nat.reduceMul, Nat.reduceBEq, Int.reduceLE, Int.reduceLT, Int.reduceAdd, Int.reduceSub, Int.reduceToNat, Int.reduceNeg, Int.reduceMul, Nat.reduceLeDiff]
        refine dc_ret ⟨.inr rfl, ?_⟩
        simp only [retOk, go_sem, ↓gx_tt, ↓gx_tf, ↓gx_ft, ↓gx_ff, ↓gx_u2, ↓gk_tt, ↓gk_tf, ↓gk_ff, ↓gk_ft, reduceCtorEq, Nat.reduceEqDiff, ↓reduceIte, Nat.reduceAdd, Nat.reduceSub, Nat.reduceLT, Nat.reduceMul, Nat.reduceBEq, Int.reduceLE, Int.reduceLT, Int.reduceAdd, Int.reduceSub, Int.reduceToNat, Int.reduceNeg, Int.reduceMul, Nat.reduceLeDiff, Tryd.f13, fetchV, e, Int.reduceEq, reduceIte] <;> try rfl
      · have h3' : ¬ (p.length : Int) < (at_ : Int) + 1 + (m : Int) := by omega
        have e : errN p at_ = 0 := by unfold errN; rw [if_neg h1, if_neg h2, hmm, if_neg h3]
        refine dc_seq (dc_seq (dc_region (ok0 gl) [] (by kernel_rfl) ?_))
        simp only [go_sem, ↓gx_tt, ↓gx_tf, ↓gx_ft, ↓gx_ff, ↓gx_u2, ↓gk_tt, ↓gk_tf, ↓gk_ff, ↓gk_ft, reduceCtorEq, Nat.reduceEqDiff, ↓reduceIte, Nat.reduceAdd, Nat.reduceSub, Nat.reduceLT, Nat.reduceMul, Nat.reduceBEq, Int.reduceLE, Int.reduceLT, Int.reduceAdd, Int.reduceSub, Int.reduceToNat, Int.reduceNeg, Int.reduceMul, Nat.reduceLeDiff, h3']
        refine dc_cond _ rfl (fun h => by simp at h) (fun _ => dc_skip ?_)   -- on t31
        have e2 : ((at_ : Int) + 1 + (m : Int)).toNat = at_ + 1 + m := by omega
        have e3 : ((at_ : Int) + 1).toNat = at_ + 1 := by omega
        refine dc_seq (dc_seq (dc_region (ok0 gl) [] (by kernel_rfl) ?_))
        simp only [go_sem, ↓gx_tt, ↓gx_tf, ↓gx_ft, ↓gx_ff, ↓gx_u2, ↓gk_tt, ↓gk_tf, ↓gk_ff, ↓gk_ft, reduceCtorEq, Nat.reduceEqDiff, ↓reduceIte, Nat.reduceAdd, Nat.reduceSub, Nat.reduceLT, Nat.reduceMul, Nat.reduceBEq, Int.reduceLE, Int.reduceLT, Int.reduceAdd, Int.reduceSub, Int.reduceToNat, Int.reduceNeg, Int.reduceMul, Nat.reduceLeDiff, w2, e2, e3]
        refine ⟨by omega, by omega, by omega, ?_⟩
        have hql : (List.drop (at_ + 1) (List.take (at_ + 1 + m) p)).length = m := by simp; omega
        have hqe : ∀ i, i < m → (List.drop (at_ + 1) (List.take (at_ + 1 + m) p)).getD i .nil = .int (bN p (at_ + 1 + i)) := by
          intro i hi
          rw [← (bN_wf hw (i := at_ + 1 + i) (by omega)).1]
          simp [List.getD_eq_getElem?_getD, List.getElem?_drop, List.getElem?_take, show at_ + 1 + i < at_ + 1 + m by omega]
        generalize hq : List.drop (at_ + 1) (List.take (at_ + 1 + m) p) = q at hql hqe
        simp only [hql]
        refine dc_block (dc_count (fun i => ⟨[(38, .d (.int .i64) (.int i)), (37, .d (.int .i64) (.int m)), (36, .d (.slice 1 (.int .u8)) (.slice q)), (6, .d (.int .i64) (.int ((at_ : Int) + 1 + (m : Int)))), (5, .d (.int .u64) (.int (argN p (at_ + 1) i))), (4, .d (.int .i64) (.int (bN p at_))), (7, .d (.int .i64) (.int 0)), (0, .d (.slice 1 (.int .u8)) (.slice p)), (1, .d (.int .i64) (.int at_))], [], A', []⟩) m (fun _ => True) ?_ trivial ?_)
        · refine weak_to rfl ?_ ?_ ?_ ?_ ?_ <;> simp only [go_sem, ↓gx_tt, ↓gx_tf, ↓gx_ft, ↓gx_ff, ↓gx_u2, ↓gk_tt, ↓gk_tf, ↓gk_ff, ↓gk_ft, reduceCtorEq, Nat.reduceEqDiff, ↓reduceIte, Nat.reduceAdd, Nat.reduceSub, Nat.reduceLT, Nat.reduceMul, Nat.reduceBEq, Int.reduceLE, Int.reduceLT, Int.reduceAdd, Int.reduceSub, Int.reduceToNat, Int.reduceNeg, Int.reduceMul, Nat.reduceLeDiff]
          all_goals first | (simp only [argN]; done) | (simp only [argN]; exact ⟨rfl, trivial⟩)
        · intro i hi _
          refine dc_seq (dc_region (ok0 gl) [] (by kernel_rfl) ?_)
          simp only [go_sem, ↓gx_tt, ↓gx_tf, ↓gx_ft, ↓gx_ff, ↓gx_u2, ↓gk_tt, ↓gk_tf, ↓gk_ff, ↓gk_ft, reduceCtorEq, Nat.reduceEqDiff, ↓reduceIte, Nat.reduceAdd, Nat.reduceSub, Nat.reduceLT, Nat.reduceMul, Nat.reduceBEq, Int.reduceLE, Int.reduceLT, Int.reduceAdd, Int.reduceSub, Int.reduceToNat, Int.reduceNeg, Int.reduceMul, Nat.reduceLeDiff]
          refine dc_seq (dc_cond _ rfl (fun hlt => dc_skip ?_) (fun hge => dc_exit ?_))
          · have hlt : i < m := by simpa using hlt
            have e4 : ((i : Int).toNat) = i := Int.toNat_natCast i
            have hqi := hqe i hlt
            obtain ⟨a1, a2, a3⟩ := argN_lt hw (i := at_ + 1) (k := i) (by omega) (by omega)
            obtain ⟨_, c2, c3⟩ := bN_wf hw (i := at_ + 1 + i) (by omega)
            have w4 : IntKind.u64.wrap (bN p (at_ + 1 + i)) = bN p (at_ + 1 + i) := wrap_id (by have : IntKind.u64.min = 0 := by decide
                                                                                                omega) (by have : IntKind.u64.max = 18446744073709551615 := by decide
                                                                                                           omega)
            have w5 : IntKind.u64.wrap (argN p (at_ + 1) i * 256) = argN p (at_ + 1) i * 256 := wrap_id (by have : IntKind.u64.min = 0 := by decide
                                                                                                            omega) (by have : IntKind.u64.max = 18446744073709551615 := by decide
                                                                                                                       omega)
            have w6 := or_byte a1 (a3 (by omega)) c2 c3
            refine dc_seq (dc_block (dc_seq (dc_region (ok0 gl) [] (by kernel_rfl) ?_)))
            simp only [go_sem, ↓gx_tt, ↓gx_tf, ↓gx_ft, ↓gx_ff, ↓gx_u2, ↓gk_tt, ↓gk_tf, ↓gk_ff, ↓gk_ft, reduceCtorEq, Nat.reduceEqDiff, ↓reduceIte, Nat.reduceAdd, Nat.reduceSub, Nat.reduceLT, Nat.reduceMul, Nat.reduceBEq, Int.reduceLE, Int.reduceLT, Int.reduceAdd, Int.reduceSub, Int.reduceToNat, Int.reduceNeg, Int.reduceMul, Nat.reduceLeDiff, e4, hqi, hql]
            refine ⟨by omega, by omega, ?_⟩
            have hp : ((2 : Int) ^ min 8 64) = 256 := by decide
            refine dc_region (ok0 gl) [] (by kernel_rfl) ?_
            simp only [go_sem, ↓gx_tt, ↓gx_tf, ↓gx_ft, ↓gx_ff, ↓gx_u2, ↓gk_tt, ↓gk_tf, ↓gk_ff, ↓gk_ft, reduceCtorEq, Nat.reduceEqDiff, ↓reduceIte, Nat.reduceAdd, Nat.reduceSub, Nat.reduceLT, Nat.reduceMul, Nat.reduceBEq, Int.reduceLE, Int.reduceLT, Int.reduceAdd, Int.reduceSub, Int.reduceToNat, Int.reduceNeg, Int.reduceMul, Nat.reduceLeDiff, w4, hp, w5, w6]
            refine dc_region (ok0 gl) [] (by kernel_rfl) ?_
            simp only [go_sem, ↓gx_tt, ↓gx_tf, ↓gx_ft, ↓gx_ff, ↓gx_u2, ↓gk_tt, ↓gk_tf, ↓gk_ff, ↓gk_ft, reduceCtorEq, Nat.reduceEqDiff, ↓reduceIte, Nat.reduceAdd, Nat.reduceSub, Nat.reduceLT, Nat.reduceMul, Nat.reduceBEq, Int.reduceLE, Int.reduceLT, Int.reduceAdd, Int.reduceSub, Int.reduceToNat, Int.reduceNeg, Int.reduceMul, Nat.reduceLeDiff]
            refine ⟨hlt, ?_⟩
            have e7 : argN p (at_ + 1) (i + 1) = argN p (at_ + 1) i * 256 + bN p (at_ + 1 + i) := rfl
            rw [e7, IntWalk.i64_in _ (by omega)]
            refine weak_to rfl ?_ ?_ ?_ ?_ ?_ <;> simp only [go_sem, ↓gx_tt, ↓gx_tf, ↓gx_ft, ↓gx_ff, ↓gx_u2, ↓gk_tt, ↓gk_tf, ↓gk_ff, ↓gk_ft, reduceCtorEq, Nat.reduceEqDiff, ↓reduceIte, Nat.reduceAdd, Nat.reduceSub, Nat.reduceLT, Nat.reduceMul, Nat.reduceBEq, Int.reduceLE, Int.reduceLT, Int.reduceAdd, Int.reduceSub, Int.reduceToNat, Int.reduceNeg, Int.reduceMul, Nat.reduceLeDiff]
            rfl
          · have hge : m ≤ i := by simpa using hge
            obtain rfl : i = m := by omega
            refine dc_seq (dc_region (ok0 gl) [] (by kernel_rfl) ?_)
            simp only [go_sem, ↓gx_tt, ↓gx_tf, ↓gx_ft, ↓gx_ff, ↓gx_u2, ↓gk_tt, ↓gk_tf, ↓gk_ff, ↓gk_ft, reduceCtorEq, Nat.reduceEqDiff, ↓reduceIte, Nat.reduceAdd, Nat.reduceSub, Nat.reduceLT, Nat.reduceMul, Nat.reduceBEq, Int.reduceLE, Int.reduceLT, Int.reduceAdd, Int.reduceSub, Int.reduceToNat, Int.reduceNeg, Int.reduceMul, Nat.reduceLeDiff]
            have e5 : ((at_ : Int) + 1 + (i : Int)) = ((at_ + 1 + i : Nat) : Int) := by omega
            simp only [e5]
            refine dc_ret ⟨.inr rfl, ?_⟩
            simp only [retOk, go_sem, ↓gx_tt, ↓gx_tf, ↓gx_ft, ↓gx_ff, ↓gx_u2, ↓gk_tt, ↓gk_tf, ↓gk_ff, ↓gk_ft, reduceCtorEq, Nat.reduceEqDiff, ↓reduceIte, Nat.reduceAdd, Nat.reduceSub, Nat.reduceLT, Nat.reduceMul, Nat.reduceBEq, Int.reduceLE, Int.reduceLT, Int.reduceAdd, Int.reduceSub, Int.reduceToNat, Int.reduceNeg, Int.reduceMul, Nat.reduceLeDiff, Tryd.f13, fetchV, e, hmm, reduceIte] <;> try rfl
end Go.Proofs.YthbdeooemkejmaaDoor


namespace Go.Proofs.YthbdeooemkejmaaDoor
open Go Go.E
set_option maxRecDepth 10000
set_option linter.unusedSimpArgs false
variable {gl : Nat → Option (Ty × C)}
end Go.Proofs.YthbdeooemkejmaaDoor


namespace Go.Proofs.YthbdeooemkejmaaDoor
open Go Go.E
set_option maxRecDepth 10000
set_option linter.unusedSimpArgs false
variable {gl : Nat → Option (Ty × C)}
theorem bits_Add64 (a b : C) : EDoes (X0 gl) 40 [.d (.int .u64) a, .d (.int .u64) b, .d (.int .u64) (.int 0)] (.tup [.d (.int .u64) (.int ((a.toInt + b.toInt) % 18446744073709551616)), .d (.int .u64) (.int ((a.toInt + b.toInt) / 18446744073709551616))]) := by
  intro Γ w args hl hr
  have hs : args.size = 3 := hl.symm
  obtain ⟨e1, _, l1, m1⟩ := repV_int (hr 0 _ _ rfl (Array.getElem?_eq_getElem (by omega)))
  obtain ⟨e2, _, l2, m2⟩ := repV_int (hr 1 _ _ rfl (Array.getElem?_eq_getElem (by omega)))
  obtain ⟨e3, _, _, _⟩ := repV_int (hr 2 _ _ rfl (Array.getElem?_eq_getElem (by omega)))
  have ea : args = #[.int .u64 a.toInt, .int .u64 b.toInt, .int .u64 0] := by
    apply Array.ext
    · simpa using hs
    · intro i h1 h2
      match i with
      | 0 => simpa using e1
      | 1 => simpa using e2
      | 2 => simpa [C.toInt] using e3
      | i + 3 => omega
  have z : IntKind.u64.min = 0 := by decide
  have z' : IntKind.u64.max = 18446744073709551615 := by decide
  refine ⟨.tuple #[.int .u64 ((a.toInt + b.toInt) % 18446744073709551616), .int .u64 ((a.toInt + b.toInt) / 18446744073709551616)], ?_, #[_, _], rfl, ?_⟩
  · have hrun := run_callFunc_extern (P := (X0 gl).P) (f := 40) (fn := Tryd.f40) (e := add64Entry) Tryd.func40 (by decide) rfl (by kernel_rfl) (by kernel_rfl) args w
    rw [hrun, ea, run_add64 _ _ _ (by omega) (by omega) (by omega) (by omega)]
    simp
  · refine repCaps_of rfl fun i x u hx hu => ?_
    match i with
    | 0 => simp at hx hu; subst hx; subst hu; exact ⟨rfl, repV_mk_int (by omega) (by omega)⟩
    | 1 => simp at hx hu; subst hx; subst hu; exact ⟨rfl, repV_mk_int (by omega) (by omega)⟩
    | i + 2 => simp at hx
end Go.Proofs.YthbdeooemkejmaaDoor


namespace Go.Proofs.YthbdeooemkejmaaDoor
open Go Go.E
set_option maxRecDepth 100000
def indexByteX : List V → Option V := fun xs => match xs with
  | [.d .str s, .d (.int .u8) b] => some (.d (.int .i64) (.int (Go.Lib.indexByte s.toStr b.toInt.toNat.toUInt8)))
  | _ => none
def countX : List V → Option V := fun xs => match xs with
  | [.d .str s, .d (.int .u8) b] => some (.d (.int .i64) (.int (Go.Lib.countByte s.toStr b.toInt.toNat.toUInt8 : Nat)))
  | _ => none
theorem indexByte_lt (c : UInt8) : ∀ l : List UInt8, Go.Lib.indexByte l c < (l.length : Int) ∨ l = []
  | [] => .inr rfl
  | b :: l => by
    left
    unfold Go.Lib.indexByte
    simp only [List.length_cons]
    rcases indexByte_lt c l with h | h
    · split
      · omega
      · split <;> omega
    · subst h
      split
      · simp
      · simp [Go.Lib.indexByte]
theorem indexByteX_ok (gl : Nat → Option (Ty × C)) (xs : List V) (v : V) (h : indexByteX xs = some v) : EDoes (X0 gl) 78 xs v := by
  unfold indexByteX at h
  split at h
  · rename_i s b
    cases h
    intro Γ w args hl hr
    have hs : args.size = 2 := hl.symm
    obtain ⟨e1, _, h1⟩ := repV_str (hr 0 _ _ rfl (Array.getElem?_eq_getElem (by omega)))
    obtain ⟨e2, _, _, _⟩ := repV_int (hr 1 _ _ rfl (Array.getElem?_eq_getElem (by omega)))
    have ea : args = #[.string ⟨s.toStr.toArray⟩, .int .u8 b.toInt] := by
      apply Array.ext
      · simpa using hs
      · intro i h1 h2
        match i with
        | 0 => simpa using e1
        | 1 => simpa using e2
        | i + 2 => omega
    refine ⟨.int .i64 (Go.Lib.indexByte s.toStr b.toInt.toNat.toUInt8), ?_, ?_⟩
    · have hrun := run_callFunc_extern (P := (X0 gl).P) (f := 78) (fn := Tryd.f78) (e := Extern.BytealgIndexByte.indexByte) Tryd.func78 (by decide) rfl (by kernel_rfl) (by kernel_rfl) args w
      rw [hrun, ea, Go.Lib.run_indexByteString]
      simp
    · have m1 : IntKind.i64.min = -9223372036854775808 := by decide
      have m2 : IntKind.i64.max = 9223372036854775807 := by decide
      have q1 := Go.Lib.indexByte_ge s.toStr b.toInt.toNat.toUInt8
      have q2 : Go.Lib.indexByte s.toStr b.toInt.toNat.toUInt8 ≤ 140737488355328 := by
        rcases indexByte_lt b.toInt.toNat.toUInt8 s.toStr with h | h
        · omega
        · rw [h]; simp [Go.Lib.indexByte]
      exact repV_mk_int (by omega) (by omega)
  · cases h
theorem countX_ok (gl : Nat → Option (Ty × C)) (xs : List V) (v : V) (h : countX xs = some v) : EDoes (X0 gl) 53 xs v := by
  unfold countX at h
  split at h
  · rename_i s b
    cases h
    intro Γ w args hl hr
    have hs : args.size = 2 := hl.symm
    obtain ⟨e1, _, h1⟩ := repV_str (hr 0 _ _ rfl (Array.getElem?_eq_getElem (by omega)))
    obtain ⟨e2, _, _, _⟩ := repV_int (hr 1 _ _ rfl (Array.getElem?_eq_getElem (by omega)))
    have ea : args = #[.string ⟨s.toStr.toArray⟩, .int .u8 b.toInt] := by
      apply Array.ext
      · simpa using hs
      · intro i h1 h2
        match i with
        | 0 => simpa using e1
        | 1 => simpa using e2
        | i + 2 => omega
    refine ⟨.int .i64 (Go.Lib.countByte s.toStr b.toInt.toNat.toUInt8 : Nat), ?_, ?_⟩
    · have hrun := run_callFunc_extern (P := (X0 gl).P) (f := 53) (fn := Tryd.f53) (e := Extern.BytealgCount.count) Tryd.func53 (by decide) rfl (by kernel_rfl) (by kernel_rfl) args w
      rw [hrun, ea, Go.Lib.run_countString]
      simp
    · have m1 : IntKind.i64.min = -9223372036854775808 := by decide
      have m2 : IntKind.i64.max = 9223372036854775807 := by decide
      have q : Go.Lib.countByte s.toStr b.toInt.toNat.toUInt8 ≤ s.toStr.length := List.count_le_length
      exact repV_mk_int (by omega) (by omega)
  · cases h
end Go.Proofs.YthbdeooemkejmaaDoor


namespace Go.Proofs.YthbdeooemkejmaaDoor
open Go Go.E
set_option maxRecDepth 100000
def gl0 : Nat → Option (Ty × C) := fun g => bif Nat.beq g 0 then some (.arr 18 tForm, .agg formsC) else none
theorem gf0 : GF gl0 := rfl
theorem gl0_sub (gl : Nat → Option (Ty × C)) (h : gl 0 = some (.arr 18 tForm, .agg formsC)) : ∀ g x, gl0 g = some x → gl g = some x := by
  intro g x hx
  unfold gl0 at hx
  cases hb : Nat.beq g 0 with
  | true =>
    rw [hb, cond_true] at hx
    cases hx
    rw [Nat.eq_of_beq_eq_true hb]; exact h
  | false => rw [hb] at hx; cases hx
def add64X : List V → Option V := fun xs => match xs with
  | [.d (.int .u64) a, .d (.int .u64) b, .d (.int .u64) (.int c)] => if c = 0 then some (.tup [.d (.int .u64) (.int ((a.toInt + b.toInt) % 18446744073709551616)), .d (.int .u64) (.int ((a.toInt + b.toInt) / 18446744073709551616))]) else none
  | _ => none
def extL : List (Nat × (List V → Option V)) := []
  ++ [(40, add64X)]
  ++ [(78, indexByteX)]
  ++ [(53, countX)]
def extX : ExtK := extLook extL
theorem extL_ok (gl : Nat → Option (Ty × C)) : ExtLOk (X0 gl) extL := by
  unfold extL
  repeat' refine ExtLOk.append ?_ ⟨?_, trivial⟩
  · exact trivial
  · intro xs v h
    have h : add64X xs = some v := h
    show EDoes (X0 gl) 40 xs v
    unfold add64X at h
    split at h
    · simp only [Option.ite_none_right_eq_some, Option.some.injEq] at h
      obtain ⟨rfl, rfl⟩ := h
      exact bits_Add64 _ _
    · cases h
  · exact indexByteX_ok gl
  · exact countX_ok gl
theorem extX_ok (gl : Nat → Option (Ty × C)) : ExtKOk (X0 gl) extX := extLook_ok (extL_ok gl)
def noX : FuncId → Nat → List (Nat × Nat) := fun _ _ => []
end Go.Proofs.YthbdeooemkejmaaDoor


namespace Go.Proofs.YthbdeooemkejmaaDoor
open Go Go.E
set_option maxRecDepth 10000
set_option linter.unusedSimpArgs false
variable {gl : Nat → Option (Ty × C)}
end Go.Proofs.YthbdeooemkejmaaDoor


namespace Go.Proofs.YthbdeooemkejmaaDoor
open Go Go.E
set_option maxRecDepth 100000
end Go.Proofs.YthbdeooemkejmaaDoor


namespace Go.Proofs.YthbdeooemkejmaaDoor
open Go Go.E
set_option maxRecDepth 10000
set_option maxHeartbeats 4000000
set_option linter.unusedSimpArgs false
variable {gl : Nat → Option (Ty × C)}
def scanN (p : List C) : Nat → Nat → List Nat → Int × List Nat
  | 0, _, bs => (0, bs)
  | f + 1, i, bs => if i < p.length then (if errN p i = 0 then scanN p f (i + 1 + moreN (bN p i)) (bs ++ [i]) else (errN p i, bs)) else (0, bs)
def leapN (p : List C) (i : Nat) : Bool := decide (bN p i = 11) || decide (bN p i = 12)
def toN (p : List C) (i : Nat) : Int := argN p (i + 1) (moreN (bN p i))
def leapsN (p : List C) (bs : List Nat) : List C := (bs.filter (leapN p)).map fun i => .int (toN p i)
def begC (bs : List Nat) (c : C) : C := .bool (bs.any fun j => decide (c = C.int (j : Int)))
def checkN (p : List C) : Int :=
  if 256 < p.length then 1 else if (scanN p p.length 0 []).1 ≠ 0 then (scanN p p.length 0 []).1 else
    if (leapsN p (scanN p p.length 0 []).2).all (fun c => (begC (scanN p p.length 0 []).2 c).toBool) then 0 else 10
theorem scanN_step {p : List C} {i : Nat} {bs : List Nat} {r : Int × List Nat} (hi : i < p.length) (h : scanN p (p.length - i) i bs = r) :
    (errN p i ≠ 0 → r = (errN p i, bs)) ∧ (errN p i = 0 → i + 1 + moreN (bN p i) ≤ p.length ∧ scanN p (p.length - (i + 1 + moreN (bN p i))) (i + 1 + moreN (bN p i)) (bs ++ [i]) = r) := by
  have mono : ∀ (f g j : Nat) (bs : List Nat), p.length - j ≤ f → p.length - j ≤ g → scanN p f j bs = scanN p g j bs := by
    intro f
    induction f with
    | zero =>
      intro g j bs h1 h2
      cases g with
      | zero => rfl
      | succ g => simp only [scanN]; rw [if_neg (by omega)]
    | succ f ih =>
      intro g j bs h1 h2
      cases g with
      | zero => simp only [scanN]; rw [if_neg (by omega)]
      | succ g =>
        simp only [scanN]
        split
        · split
          · exact ih _ _ _ (by omega) (by omega)
          · rfl
        · rfl
  obtain ⟨f, hf⟩ : ∃ f, p.length - i = f + 1 := ⟨p.length - i - 1, by omega⟩
  rw [hf] at h
  simp only [scanN] at h
  rw [if_pos hi] at h
  refine ⟨fun he => ?_, fun he => ⟨?_, ?_⟩⟩
  · rw [if_neg he] at h; exact h.symm
  · unfold errN at he
    rw [if_neg (by omega)] at he
    split at he
    · simp at he
    · split at he
      · simp at he
      · omega
  · rw [if_pos he] at h
    rw [← h]
    exact mono _ _ _ _ (by omega) (by omega)
theorem scanN_end {p : List C} {i : Nat} {bs : List Nat} (hi : p.length ≤ i) : scanN p (p.length - i) i bs = (0, bs) := by
  rw [show p.length - i = 0 by omega]; rfl
theorem leapsN_snoc (p : List C) (bs : List Nat) (i : Nat) : leapsN p (bs ++ [i]) = if leapN p i = true then leapsN p bs ++ [.int (toN p i)] else leapsN p bs := by
  unfold leapsN
  rw [List.filter_append]
  by_cases h : leapN p i = true
  · rw [if_pos h]; simp [h]
  · rw [if_neg h]; simp [h]
theorem leapsN_len (p : List C) (bs : List Nat) : (leapsN p bs).length ≤ bs.length := by
  unfold leapsN
  rw [List.length_map]
  exact List.length_filter_le _ _
theorem begC_put (bs : List Nat) (i : Nat) : updC (begC bs) (.int (i : Int)) (.bool true) = begC (bs ++ [i]) := by
  funext c
  unfold updC begC
  simp only [C.eqb_iff]
  by_cases h : c = .int (i : Int)
  · rw [if_pos h]; simp [h]
  · rw [if_neg h]; simp [h]
theorem code_Check (hg : GF gl) (A : Key → Option O) (p : List C) : DCalls (X0 gl) 23 [.d (.slice 1 (.int .u8)) (.slice p)] A (.d (.int .i64) (.int (checkN p))) [] := by
  refine dcalls_intro (n := 56) (ok0 gl) Tryd.func23 rfl rfl (by simp) ?_
  intro A' hA
  refine dc_seq (dc_region (ok0 gl) [] (by kernel_rfl) ?_)
  simp only [go_sem, ↓gx_tt, ↓gx_tf, ↓gx_ft, ↓gx_ff, ↓gx_u2, ↓gk_tt, ↓gk_tf, ↓gk_ff, ↓gk_ft, reduceCtorEq, Nat.reduceEqDiff, ↓reduceIte, Nat.reduceAdd, Nat.reduceSub, Nat.reduceLT, Nat.reduceMul, Nat.reduceBEq, Int.reduceLE, Int.reduceLT, Int.reduceAdd, Int.reduceSub, Int.reduceToNat, Int.reduceNeg, Int.reduceMul, Nat.reduceLeDiff]
  by_cases h0 : 256 < p.length
  · have h0' : (256 : Int) < (p.length : Int) := by omega
    refine dc_seq (dc_seq (dc_region (ok0 gl) [] (by kernel_rfl) ?_))
    simp only [go_sem, ↓gx_tt, ↓gx_tf, ↓gx_ft, ↓gx_ff, ↓gx_u2, ↓gk_tt, ↓gk_tf, ↓gk_ff, ↓gk_ft, reduceCtorEq, Nat.reduceEqDiff, ↓reduceIte, Nat.reduceAdd, Nat.reduceSub, Nat.reduceLT, Nat.reduceMul, Nat.reduceBEq, Int.reduceLE, Int.reduceLT, Int.reduceAdd, Int.reduceSub, Int.reduceToNat, Int.reduceNeg, Int.reduceMul, Nat.reduceLeDiff, h0']
    refine dc_cond _ rfl (fun _ => ?_) (fun h => by simp at h)
    refine dc_seq (dc_region (ok0 gl) [] (by kernel_rfl) ?_)
    simp only [go_sem, ↓gx_tt, ↓gx_tf, ↓gx_ft, ↓gx_ff, ↓gx_u2, ↓gk_tt, ↓gk_tf, ↓gk_ff, ↓gk_ft, reduceCtorEq, Nat.reduceEqDiff, ↓reduceIte, Nat.reduceAdd, Nat.reduceSub, Nat.reduceLT, Nat.reduceMul, Nat.reduceBEq, Int.reduceLE, Int.reduceLT, Int.reduceAdd, Int.reduceSub, Int.reduceToNat, Int.reduceNeg, Int.reduceMul, Nat.reduceLeDiff]
    refine dc_ret ⟨.inr rfl, ?_⟩
    simp only [retOk, go_sem, ↓gx_tt, ↓gx_tf, ↓gx_ft, ↓gx_ff, ↓gx_u2, ↓gk_tt, ↓gk_tf, ↓gk_ff, ↓gk_ft, reduceCtorEq, Nat.reduceEqDiff, ↓reduceIte, Nat.reduceAdd, Nat.reduceSub, Nat.reduceLT, Nat.reduceMul, Nat.reduceBEq, Int.reduceLE, Int.reduceLT, Int.reduceAdd, Int.reduceSub, Int.reduceToNat, Int.reduceNeg, Int.reduceMul, Nat.reduceLeDiff, Tryd.f23, checkN, h0, reduceIte] <;> try rfl
  · have h0' : ¬ (256 : Int) < (p.length : Int) := by omega
    refine dc_seq (dc_seq (dc_region (ok0 gl) [] (by kernel_rfl) ?_))
    simp only [go_sem, ↓gx_tt, ↓gx_tf, ↓gx_ft, ↓gx_ff, ↓gx_u2, ↓gk_tt, ↓gk_tf, ↓gk_ff, ↓gk_ft, reduceCtorEq, Nat.reduceEqDiff, ↓reduceIte, Nat.reduceAdd, Nat.reduceSub, Nat.reduceLT, Nat.reduceMul, Nat.reduceBEq, Int.reduceLE, Int.reduceLT, Int.reduceAdd, Int.reduceSub, Int.reduceToNat, Int.reduceNeg, Int.reduceMul, Nat.reduceLeDiff, h0']
    refine dc_cond _ rfl (fun h => by simp at h) (fun _ => dc_skip ?_)
    refine dc_seq (dc_region (ok0 gl) [] (by kernel_rfl) ?_)
    simp only [go_sem, ↓gx_tt, ↓gx_tf, ↓gx_ft, ↓gx_ff, ↓gx_u2, ↓gk_tt, ↓gk_tf, ↓gk_ff, ↓gk_ft, reduceCtorEq, Nat.reduceEqDiff, ↓reduceIte, Nat.reduceAdd, Nat.reduceSub, Nat.reduceLT, Nat.reduceMul, Nat.reduceBEq, Int.reduceLE, Int.reduceLT, Int.reduceAdd, Int.reduceSub, Int.reduceToNat, Int.reduceNeg, Int.reduceMul, Nat.reduceLeDiff]
    refine dc_seq (dc_region (ok0 gl) [] (by kernel_rfl) ?_)
    simp only [go_sem, ↓gx_tt, ↓gx_tf, ↓gx_ft, ↓gx_ff, ↓gx_u2, ↓gk_tt, ↓gk_tf, ↓gk_ff, ↓gk_ft, reduceCtorEq, Nat.reduceEqDiff, ↓reduceIte, Nat.reduceAdd, Nat.reduceSub, Nat.reduceLT, Nat.reduceMul, Nat.reduceBEq, Int.reduceLE, Int.reduceLT, Int.reduceAdd, Int.reduceSub, Int.reduceToNat, Int.reduceNeg, Int.reduceMul, Nat.reduceLeDiff]
    refine dc_seq (dc_seq (dc_region (ok0 gl) [] (by kernel_rfl) ?_))
    simp only [go_sem, ↓gx_tt, ↓gx_tf, ↓gx_ft, ↓gx_ff, ↓gx_u2, ↓gk_tt, ↓gk_tf, ↓gk_ff, ↓gk_ft, reduceCtorEq, Nat.reduceEqDiff, ↓reduceIte, Nat.reduceAdd, Nat.reduceSub, Nat.reduceLT, Nat.reduceMul, Nat.reduceBEq, Int.reduceLE, Int.reduceLT, Int.reduceAdd, Int.reduceSub, Int.reduceToNat, Int.reduceNeg, Int.reduceMul, Nat.reduceLeDiff]
    refine DC.weak (weak_tok (t := 4) (u := 43) (eb := 8) (e := .int .u64) rfl (.inl rfl)) ?_
    refine dc_block (dc_while (ι := Nat × List Nat × List (C × V)) (fun i => ⟨[(5, .d (.int .i64) (.int i.1)), (4, .sl 8 (.int .u64) (leapsN p i.2.1) 43), (3, .mp (.l 15)), (2, .d (.int .i64) (.int 0)), (0, .d (.slice 1 (.int .u8)) (.slice p))], [(.l 15, .map (.int .u64) .bool i.2.2)], A', [(43, some (leapsN p i.2.1).length)]⟩) (fun i => p.length - i.1)
      (fun i => i.1 ≤ p.length ∧ i.2.1.length ≤ i.1 ∧ MapF (X0 gl).P 4 .bool i.2.2 (begC i.2.1) ∧ scanN p (p.length - i.1) i.1 i.2.1 = scanN p p.length 0 []) (0, [], []) ?_ ⟨Nat.zero_le _, Nat.le_refl _, MapF.nil (by simp only [go_sem]), rfl⟩ ?_)
    · refine weak_to rfl ?_ ?_ ?_ ?_ ?_ <;> simp only [go_sem, ↓gx_tt, ↓gx_tf, ↓gx_ft, ↓gx_ff, ↓gx_u2, ↓gk_tt, ↓gk_tf, ↓gk_ff, ↓gk_ft, reduceCtorEq, Nat.reduceEqDiff, ↓reduceIte, Nat.reduceAdd, Nat.reduceSub, Nat.reduceLT, Nat.reduceMul, Nat.reduceBEq, Int.reduceLE, Int.reduceLT, Int.reduceAdd, Int.reduceSub, Int.reduceToNat, Int.reduceNeg, Int.reduceMul, Nat.reduceLeDiff]
      all_goals first | rfl | exact ⟨rfl, rfl⟩
    · rintro ⟨i, bs, es⟩ ⟨hi, hb, hM, hS⟩
      simp only at hi hb hM hS
      have hM' : ∀ c, lookV (X0 gl).P 4 es c = .d .bool (begC bs c) := hM.look
      by_cases hlt : i < p.length
      · have hlt' : (i : Int) < (p.length : Int) := by omega
        obtain ⟨s1, s2⟩ := scanN_step hlt hS
        refine dc_seq (dc_seq (dc_region (ok0 gl) [] (by kernel_rfl) ?_))
        simp only [go_sem, ↓gx_tt, ↓gx_tf, ↓gx_ft, ↓gx_ff, ↓gx_u2, ↓gk_tt, ↓gk_tf, ↓gk_ff, ↓gk_ft, reduceCtorEq, Nat.reduceEqDiff, ↓reduceIte, Nat.reduceAdd, Nat.reduceSub, Nat.reduceLT, Nat.reduceMul, Nat.reduceBEq, Int.reduceLE, Int.reduceLT, Int.reduceAdd, Int.reduceSub, Int.reduceToNat, Int.reduceNeg, Int.reduceMul, Nat.reduceLeDiff, hlt']
        refine dc_cond _ rfl (fun _ => dc_skip ?_) (fun h => by simp at h)
        refine dc_block (dc_seq (dc_region (ok0 gl) [] (by kernel_rfl) (vc_n [(), ()] ?_)))
        simp only [go_sem, ↓gx_tt, ↓gx_tf, ↓gx_ft, ↓gx_ff, ↓gx_u2, ↓gk_tt, ↓gk_tf, ↓gk_ff, ↓gk_ft, reduceCtorEq, Nat.reduceEqDiff, ↓reduceIte, Nat.reduceAdd, Nat.reduceSub, Nat.reduceLT, Nat.reduceMul, Nat.reduceBEq, Int.reduceLE, Int.reduceLT, Int.reduceAdd, Int.reduceSub, Int.reduceToNat, Int.reduceNeg, Int.reduceMul, Nat.reduceLeDiff]
        refine vcR_op [(), (), (), (), (), (), (), (), ()] rfl ?_
        refine vcO_call _ (code_fetch hg _ p i (by omega) (by omega)) rfl (by simp only [go_sem]) rfl ?_ ?_ ?_ ?_ ?_ <;> simp only [go_sem, ↓gx_tt, ↓gx_tf, ↓gx_ft, ↓gx_ff, ↓gx_u2, ↓gk_tt, ↓gk_tf, ↓gk_ff, ↓gk_ft, reduceCtorEq, Nat.reduceEqDiff, ↓reduceIte, Nat.reduceAdd, Nat.reduceSub, Nat.reduceLT, Nat.reduceMul, Nat.reduceBEq, Int.reduceLE, Int.reduceLT, Int.reduceAdd, Int.reduceSub, Int.reduceToNat, Int.reduceNeg, Int.reduceMul, Nat.reduceLeDiff, fetchV]
        by_cases he : errN p i = 0
        · obtain ⟨q1, q2⟩ := s2 he
          refine dc_seq (dc_seq (dc_region (ok0 gl) [] (by kernel_rfl) ?_))
          simp only [go_sem, ↓gx_tt, ↓gx_tf, ↓gx_ft, ↓gx_ff, ↓gx_u2, ↓gk_tt, ↓gk_tf, ↓gk_ff, ↓gk_ft, reduceCtorEq, Nat.reduceEqDiff, ↓reduceIte, Nat.reduceAdd, Nat.reduceSub, Nat.reduceLT, Nat.reduceMul, Nat.reduceBEq, Int.reduceLE, Int.reduceLT, Int.reduceAdd, Int.reduceSub, Int.reduceToNat, Int.reduceNeg, Int.reduceMul, Nat.reduceLeDiff, he]
          refine dc_cond _ rfl (fun h => by simp at h) (fun _ => dc_skip ?_)
          have z1 : IntKind.u64.min = 0 := by decide
          have z2 : IntKind.u64.max = 18446744073709551615 := by decide
          have w1 : IntKind.u64.wrap (i : Int) = i := wrap_id (by omega) (by omega)
          have hput : MapF (X0 gl).P 4 .bool (putM es (.int (i : Int)) (.d .bool (.bool true))) (begC (bs ++ [i])) := by
            rw [← begC_put]; exact hM.put _ _
          have hln := leapsN_len p bs
          have hbl : (bs ++ [i]).length ≤ i + 1 + moreN (bN p i) := by simp; omega
          refine dc_seq (dc_region (ok0 gl) [] (by kernel_rfl) ?_)
          simp only [go_sem, ↓gx_tt, ↓gx_tf, ↓gx_ft, ↓gx_ff, ↓gx_u2, ↓gk_tt, ↓gk_tf, ↓gk_ff, ↓gk_ft, reduceCtorEq, Nat.reduceEqDiff, ↓reduceIte, Nat.reduceAdd, Nat.reduceSub, Nat.reduceLT, Nat.reduceMul, Nat.reduceBEq, Int.reduceLE, Int.reduceLT, Int.reduceAdd, Int.reduceSub, Int.reduceToNat, Int.reduceNeg, Int.reduceMul, Nat.reduceLeDiff, w1]
          by_cases l1 : bN p i = 11
          · have hsn : leapsN p (bs ++ [i]) = leapsN p bs ++ [.int (argN p (i + 1) (moreN 11))] := by rw [leapsN_snoc, if_pos (by simp [leapN, l1])]; unfold toN; rw [l1]
            rw [l1] at q1 q2 hbl
            refine dc_seq (dc_seq (dc_region (ok0 gl) [] (by kernel_rfl) ?_))
            simp only [go_sem, ↓gx_tt, ↓gx_tf, ↓gx_ft, ↓gx_ff, ↓gx_u2, ↓gk_tt, ↓gk_tf, ↓gk_ff, ↓gk_ft, reduceCtorEq, Nat.reduceEqDiff, ↓reduceIte, Nat.reduceAdd, Nat.reduceSub, Nat.reduceLT, Nat.reduceMul, Nat.reduceBEq, Int.reduceLE, Int.reduceLT, Int.reduceAdd, Int.reduceSub, Int.reduceToNat, Int.reduceNeg, Int.reduceMul, Nat.reduceLeDiff, l1]
            refine dc_cond _ rfl (fun _ => ?_) (fun h => by simp at h)
            refine dc_region (ok0 gl) [] (by kernel_rfl) ?_
            simp only [go_sem, ↓gx_tt, ↓gx_tf, ↓gx_ft, ↓gx_ff, ↓gx_u2, ↓gk_tt, ↓gk_tf, ↓gk_ff, ↓gk_ft, reduceCtorEq, Nat.reduceEqDiff, ↓reduceIte, Nat.reduceAdd, Nat.reduceSub, Nat.reduceLT, Nat.reduceMul, Nat.reduceBEq, Int.reduceLE, Int.reduceLT, Int.reduceAdd, Int.reduceSub, Int.reduceToNat, Int.reduceNeg, Int.reduceMul, Nat.reduceLeDiff]
            refine ⟨rfl, fun x hx => ?_, by omega, by unfold maxLen; omega, ?_⟩
            · simp only [List.mem_singleton] at hx
              subst hx
              exact ⟨rfl, rfl⟩
            refine dc_region (ok0 gl) [] (by kernel_rfl) ?_
            simp only [go_sem, ↓gx_tt, ↓gx_tf, ↓gx_ft, ↓gx_ff, ↓gx_u2, ↓gk_tt, ↓gk_tf, ↓gk_ff, ↓gk_ft, reduceCtorEq, Nat.reduceEqDiff, ↓reduceIte, Nat.reduceAdd, Nat.reduceSub, Nat.reduceLT, Nat.reduceMul, Nat.reduceBEq, Int.reduceLE, Int.reduceLT, Int.reduceAdd, Int.reduceSub, Int.reduceToNat, Int.reduceNeg, Int.reduceMul, Nat.reduceLeDiff]
            refine ⟨(i + 1 + moreN 11, bs ++ [i], putM es (.int (i : Int)) (.d .bool (.bool true))), ⟨q1, hbl, hput, q2⟩, by simp only; omega, ?_⟩
            simp only [hsn]
            refine weak_to rfl ?_ ?_ ?_ ?_ ?_ <;> simp only [go_sem, ↓gx_tt, ↓gx_tf, ↓gx_ft, ↓gx_ff, ↓gx_u2, ↓gk_tt, ↓gk_tf, ↓gk_ff, ↓gk_ft, reduceCtorEq, Nat.reduceEqDiff, ↓reduceIte, Nat.reduceAdd, Nat.reduceSub, Nat.reduceLT, Nat.reduceMul, Nat.reduceBEq, Int.reduceLE, Int.reduceLT, Int.reduceAdd, Int.reduceSub, Int.reduceToNat, Int.reduceNeg, Int.reduceMul, Nat.reduceLeDiff, List.length_append]
            all_goals first | exact hput.all _ _ | rfl
          · by_cases l2 : bN p i = 12
            · have hsn : leapsN p (bs ++ [i]) = leapsN p bs ++ [.int (argN p (i + 1) (moreN 12))] := by rw [leapsN_snoc, if_pos (by simp [leapN, l2])]; unfold toN; rw [l2]
              have l1' : ¬ (12 : Int) = 11 := by decide
              rw [l2] at q1 q2 hbl
              refine dc_seq (dc_seq (dc_region (ok0 gl) [] (by kernel_rfl) ?_))
              simp only [go_sem, ↓gx_tt, ↓gx_tf, ↓gx_ft, ↓gx_ff, ↓gx_u2, ↓gk_tt, ↓gk_tf, ↓gk_ff, ↓gk_ft, reduceCtorEq, Nat.reduceEqDiff, ↓reduceIte, Nat.reduceAdd, Nat.reduceSub, Nat.reduceLT, Nat.reduceMul, Nat.reduceBEq, Int.reduceLE, Int.reduceLT, Int.reduceAdd, Int.reduceSub, Int.reduceToNat, Int.reduceNeg, Int.reduceMul, Nat.reduceLeDiff, l2, l1']
              refine dc_cond _ rfl (fun _ => ?_) (fun h => by simp at h)
              refine dc_region (ok0 gl) [] (by kernel_rfl) ?_
              simp only [go_sem, ↓gx_tt, ↓gx_tf, ↓gx_ft, ↓gx_ff, ↓gx_u2, ↓gk_tt, ↓gk_tf, ↓gk_ff, ↓gk_ft, reduceCtorEq, Nat.reduceEqDiff, ↓reduceIte, Nat.reduceAdd, Nat.reduceSub, Nat.reduceLT, Nat.reduceMul, Nat.reduceBEq, Int.reduceLE, Int.reduceLT, Int.reduceAdd, Int.reduceSub, Int.reduceToNat, Int.reduceNeg, Int.reduceMul, Nat.reduceLeDiff]
              refine ⟨rfl, fun x hx => ?_, by omega, by unfold maxLen; omega, ?_⟩
              · simp only [List.mem_singleton] at hx
                subst hx
                exact ⟨rfl, rfl⟩
              refine dc_region (ok0 gl) [] (by kernel_rfl) ?_
              simp only [go_sem, ↓gx_tt, ↓gx_tf, ↓gx_ft, ↓gx_ff, ↓gx_u2, ↓gk_tt, ↓gk_tf, ↓gk_ff, ↓gk_ft, reduceCtorEq, Nat.reduceEqDiff, ↓reduceIte, Nat.reduceAdd, Nat.reduceSub, Nat.reduceLT, Nat.reduceMul, Nat.reduceBEq, Int.reduceLE, Int.reduceLT, Int.reduceAdd, Int.reduceSub, Int.reduceToNat, Int.reduceNeg, Int.reduceMul, Nat.reduceLeDiff]
              refine ⟨(i + 1 + moreN 12, bs ++ [i], putM es (.int (i : Int)) (.d .bool (.bool true))), ⟨q1, hbl, hput, q2⟩, by simp only; omega, ?_⟩
              simp only [hsn]
              refine weak_to rfl ?_ ?_ ?_ ?_ ?_ <;> simp only [go_sem, ↓gx_tt, ↓gx_tf, ↓gx_ft, ↓gx_ff, ↓gx_u2, ↓gk_tt, ↓gk_tf, ↓gk_ff, ↓gk_ft, reduceCtorEq, Nat.reduceEqDiff, ↓reduceIte, Nat.reduceAdd, Nat.reduceSub, Nat.reduceLT, Nat.reduceMul, Nat.reduceBEq, Int.reduceLE, Int.reduceLT, Int.reduceAdd, Int.reduceSub, Int.reduceToNat, Int.reduceNeg, Int.reduceMul, Nat.reduceLeDiff, List.length_append]
              all_goals first | exact hput.all _ _ | rfl
            · have hsn : leapsN p (bs ++ [i]) = leapsN p bs := by rw [leapsN_snoc, if_neg (by simp [leapN, l1, l2])]
              refine dc_seq (dc_seq (dc_region (ok0 gl) [] (by kernel_rfl) ?_))
              simp only [go_sem, ↓gx_tt, ↓gx_tf, ↓gx_ft, ↓gx_ff, ↓gx_u2, ↓gk_tt, ↓gk_tf, ↓gk_ff, ↓gk_ft, reduceCtorEq, Nat.reduceEqDiff, ↓reduceIte, Nat.reduceAdd, Nat.reduceSub, Nat.reduceLT, Nat.reduceMul, Nat.reduceBEq, Int.reduceLE, Int.reduceLT, Int.reduceAdd, Int.reduceSub, Int.reduceToNat, Int.reduceNeg, Int.reduceMul, Nat.reduceLeDiff, l1, l2]
              refine dc_cond _ rfl (fun h => by simp at h) (fun _ => dc_skip ?_)
              refine dc_region (ok0 gl) [] (by kernel_rfl) ?_
              simp only [go_sem, ↓gx_tt, ↓gx_tf, ↓gx_ft, ↓gx_ff, ↓gx_u2, ↓gk_tt, ↓gk_tf, ↓gk_ff, ↓gk_ft, reduceCtorEq, Nat.reduceEqDiff, ↓reduceIte, Nat.reduceAdd, Nat.reduceSub, Nat.reduceLT, Nat.reduceMul, Nat.reduceBEq, Int.reduceLE, Int.reduceLT, Int.reduceAdd, Int.reduceSub, Int.reduceToNat, Int.reduceNeg, Int.reduceMul, Nat.reduceLeDiff]
              refine ⟨(i + 1 + moreN (bN p i), bs ++ [i], putM es (.int (i : Int)) (.d .bool (.bool true))), ⟨q1, hbl, hput, q2⟩, by simp only; omega, ?_⟩
              simp only [hsn]
              refine weak_to rfl ?_ ?_ ?_ ?_ ?_ <;> simp only [go_sem, ↓gx_tt, ↓gx_tf, ↓gx_ft, ↓gx_ff, ↓gx_u2, ↓gk_tt, ↓gk_tf, ↓gk_ff, ↓gk_ft, reduceCtorEq, Nat.reduceEqDiff, ↓reduceIte, Nat.reduceAdd, Nat.reduceSub, Nat.reduceLT, Nat.reduceMul, Nat.reduceBEq, Int.reduceLE, Int.reduceLT, Int.reduceAdd, Int.reduceSub, Int.reduceToNat, Int.reduceNeg, Int.reduceMul, Nat.reduceLeDiff]
              all_goals first | exact hput.all _ _ | rfl
        · have hr := s1 he
          refine dc_seq (dc_seq (dc_region (ok0 gl) [] (by kernel_rfl) ?_))
          simp only [go_sem, ↓gx_tt, ↓gx_tf, ↓gx_ft, ↓gx_ff, ↓gx_u2, ↓gk_tt, ↓gk_tf, ↓gk_ff, ↓gk_ft, reduceCtorEq, Nat.reduceEqDiff, ↓reduceIte, Nat.reduceAdd, Nat.reduceSub, Nat.reduceLT, Nat.reduceMul, Nat.reduceBEq, Int.reduceLE, Int.reduceLT, Int.reduceAdd, Int.reduceSub, Int.reduceToNat, Int.reduceNeg, Int.reduceMul, Nat.reduceLeDiff, he]
          refine dc_cond _ rfl (fun _ => ?_) (fun h => by simp at h)
          refine dc_seq (dc_region (ok0 gl) [] (by kernel_rfl) ?_)
          simp only [go_sem, ↓gx_tt, ↓gx_tf, ↓gx_ft, ↓gx_ff, ↓gx_u2, ↓gk_tt, ↓gk_tf, ↓gk_ff, ↓gk_ft, reduceCtorEq, Nat.reduceEqDiff, ↓reduceIte, Nat.reduceAdd, Nat.reduceSub, Nat.reduceLT, Nat.reduceMul, Nat.reduceBEq, Int.reduceLE, Int.reduceLT, Int.reduceAdd, Int.reduceSub, Int.reduceToNat, Int.reduceNeg, Int.reduceMul, Nat.reduceLeDiff]
          refine dc_ret ⟨.inr rfl, ?_⟩
          simp only [retOk, go_sem, ↓gx_tt, ↓gx_tf, ↓gx_ft, ↓gx_ff, ↓gx_u2, ↓gk_tt, ↓gk_tf, ↓gk_ff, ↓gk_ft, reduceCtorEq, Nat.reduceEqDiff, ↓reduceIte, Nat.reduceAdd, Nat.reduceSub, Nat.reduceLT, Nat.reduceMul, Nat.reduceBEq, Int.reduceLE, Int.reduceLT, Int.reduceAdd, Int.reduceSub, Int.reduceToNat, Int.reduceNeg, Int.reduceMul, Nat.reduceLeDiff, Tryd.f23, checkN, h0, hr, he, reduceIte] <;> try rfl
      · have hlt' : ¬ (i : Int) < (p.length : Int) := by omega
        obtain rfl : i = p.length := by omega
        rw [scanN_end (Nat.le_refl _)] at hS
        refine dc_seq (dc_seq (dc_region (ok0 gl) [] (by kernel_rfl) ?_))
        simp only [go_sem, ↓gx_tt, ↓gx_tf, ↓gx_ft, ↓gx_ff, ↓gx_u2, ↓gk_tt, ↓gk_tf, ↓gk_ff, ↓gk_ft, reduceCtorEq, Nat.reduceEqDiff, ↓reduceIte, Nat.reduceAdd, Nat.reduceSub, Nat.reduceLT, Nat.reduceMul, Nat.reduceBEq, Int.reduceLE, Int.reduceLT, Int.reduceAdd, Int.reduceSub, Int.reduceToNat, Int.reduceNeg, Int.reduceMul, Nat.reduceLeDiff, hlt']
        refine dc_cond _ rfl (fun h => by simp at h) (fun _ => dc_exit ?_)
        refine dc_seq (dc_seq (dc_region (ok0 gl) [] (by kernel_rfl) ?_))
        simp only [go_sem, ↓gx_tt, ↓gx_tf, ↓gx_ft, ↓gx_ff, ↓gx_u2, ↓gk_tt, ↓gk_tf, ↓gk_ff, ↓gk_ft, reduceCtorEq, Nat.reduceEqDiff, ↓reduceIte, Nat.reduceAdd, Nat.reduceSub, Nat.reduceLT, Nat.reduceMul, Nat.reduceBEq, Int.reduceLE, Int.reduceLT, Int.reduceAdd, Int.reduceSub, Int.reduceToNat, Int.reduceNeg, Int.reduceMul, Nat.reduceLeDiff]
        refine dc_block (dc_count (fun j => ⟨[(47, .d (.int .i64) (.int j)), (46, .d (.int .i64) (.int (leapsN p bs).length)), (45, .sl 8 (.int .u64) (leapsN p bs) 43), (3, .mp (.l 15)), (2, .d (.int .i64) (.int 0)), (0, .d (.slice 1 (.int .u8)) (.slice p))], [(.l 15, .map (.int .u64) .bool es)], A', [(43, some (leapsN p bs).length)]⟩) (leapsN p bs).length (fun j => ∀ c ∈ (leapsN p bs).take j, (begC bs c).toBool = true) ?_ (by simp) ?_)
        · refine weak_to rfl ?_ ?_ ?_ ?_ ?_ <;> simp only [go_sem, ↓gx_tt, ↓gx_tf, ↓gx_ft, ↓gx_ff, ↓gx_u2, ↓gk_tt, ↓gk_tf, ↓gk_ff, ↓gk_ft, reduceCtorEq, Nat.reduceEqDiff, ↓reduceIte, Nat.reduceAdd, Nat.reduceSub, Nat.reduceLT, Nat.reduceMul, Nat.reduceBEq, Int.reduceLE, Int.reduceLT, Int.reduceAdd, Int.reduceSub, Int.reduceToNat, Int.reduceNeg, Int.reduceMul, Nat.reduceLeDiff]
          all_goals first | exact hM.all _ _ | rfl
        · intro j hj hall
          refine dc_seq (dc_region (ok0 gl) [] (by kernel_rfl) ?_)
          simp only [go_sem, ↓gx_tt, ↓gx_tf, ↓gx_ft, ↓gx_ff, ↓gx_u2, ↓gk_tt, ↓gk_tf, ↓gk_ff, ↓gk_ft, reduceCtorEq, Nat.reduceEqDiff, ↓reduceIte, Nat.reduceAdd, Nat.reduceSub, Nat.reduceLT, Nat.reduceMul, Nat.reduceBEq, Int.reduceLE, Int.reduceLT, Int.reduceAdd, Int.reduceSub, Int.reduceToNat, Int.reduceNeg, Int.reduceMul, Nat.reduceLeDiff]
          refine dc_seq (dc_cond _ rfl (fun hlt => dc_skip ?_) (fun hge => dc_exit ?_))
          · have hlt : j < (leapsN p bs).length := by simpa using hlt
            have e1 : ((j : Int).toNat) = j := Int.toNat_natCast j
            have hln := leapsN_len p bs
            refine dc_seq (dc_block (dc_seq (dc_region (ok0 gl) [] (by kernel_rfl) ?_)))
            simp only [go_sem, ↓gx_tt, ↓gx_tf, ↓gx_ft, ↓gx_ff, ↓gx_u2, ↓gk_tt, ↓gk_tf, ↓gk_ff, ↓gk_ft, reduceCtorEq, Nat.reduceEqDiff, ↓reduceIte, Nat.reduceAdd, Nat.reduceSub, Nat.reduceLT, Nat.reduceMul, Nat.reduceBEq, Int.reduceLE, Int.reduceLT, Int.reduceAdd, Int.reduceSub, Int.reduceToNat, Int.reduceNeg, Int.reduceMul, Nat.reduceLeDiff, e1]
            refine ⟨by omega, by omega, ?_⟩
            have hmem : (leapsN p bs).getD j .nil ∈ leapsN p bs := by
              rw [List.getD_eq_getElem?_getD, List.getElem?_eq_getElem hlt]; exact List.getElem_mem hlt
            by_cases hin : (begC bs ((leapsN p bs).getD j .nil)).toBool = true
            · refine dc_seq (dc_region (ok0 gl) [] (by kernel_rfl) ?_)
              simp only [go_sem, ↓gx_tt, ↓gx_tf, ↓gx_ft, ↓gx_ff, ↓gx_u2, ↓gk_tt, ↓gk_tf, ↓gk_ff, ↓gk_ft, reduceCtorEq, Nat.reduceEqDiff, ↓reduceIte, Nat.reduceAdd, Nat.reduceSub, Nat.reduceLT, Nat.reduceMul, Nat.reduceBEq, Int.reduceLE, Int.reduceLT, Int.reduceAdd, Int.reduceSub, Int.reduceToNat, Int.reduceNeg, Int.reduceMul, Nat.reduceLeDiff, hM', hin]
              refine dc_cond _ rfl (fun h => by simp at h) (fun _ => dc_skip ?_)
              refine dc_region (ok0 gl) [] (by kernel_rfl) ?_
              simp only [go_sem, ↓gx_tt, ↓gx_tf, ↓gx_ft, ↓gx_ff, ↓gx_u2, ↓gk_tt, ↓gk_tf, ↓gk_ff, ↓gk_ft, reduceCtorEq, Nat.reduceEqDiff, ↓reduceIte, Nat.reduceAdd, Nat.reduceSub, Nat.reduceLT, Nat.reduceMul, Nat.reduceBEq, Int.reduceLE, Int.reduceLT, Int.reduceAdd, Int.reduceSub, Int.reduceToNat, Int.reduceNeg, Int.reduceMul, Nat.reduceLeDiff]
              refine ⟨hlt, ?_, ?_⟩
              · intro c hc
                rw [List.take_add_one, List.mem_append] at hc
                rcases hc with hc | hc
                · exact hall c hc
                · rw [List.getElem?_eq_getElem hlt] at hc
                  simp only [Option.toList_some, List.mem_singleton] at hc
                  subst hc
                  rw [List.getD_eq_getElem?_getD, List.getElem?_eq_getElem hlt] at hin
                  exact hin
              · rw [IntWalk.i64_in _ (by omega)]
                refine weak_to rfl ?_ ?_ ?_ ?_ ?_ <;> simp only [go_sem, ↓gx_tt, ↓gx_tf, ↓gx_ft, ↓gx_ff, ↓gx_u2, ↓gk_tt, ↓gk_tf, ↓gk_ff, ↓gk_ft, reduceCtorEq, Nat.reduceEqDiff, ↓reduceIte, Nat.reduceAdd, Nat.reduceSub, Nat.reduceLT, Nat.reduceMul, Nat.reduceBEq, Int.reduceLE, Int.reduceLT, Int.reduceAdd, Int.reduceSub, Int.reduceToNat, Int.reduceNeg, Int.reduceMul, Nat.reduceLeDiff]
                all_goals first | exact hM.all _ _ | rfl
            · have hin' : (begC bs ((leapsN p bs).getD j .nil)).toBool = false := by simpa using hin
              refine dc_seq (dc_region (ok0 gl) [] (by kernel_rfl) ?_)
              simp only [go_sem, ↓gx_tt, ↓gx_tf, ↓gx_ft, ↓gx_ff, ↓gx_u2, ↓gk_tt, ↓gk_tf, ↓gk_ff, ↓gk_ft, reduceCtorEq, Nat.reduceEqDiff, ↓reduceIte, Nat.reduceAdd, Nat.reduceSub, Nat.reduceLT, Nat.reduceMul, Nat.reduceBEq, Int.reduceLE, Int.reduceLT, Int.reduceAdd, Int.reduceSub, Int.reduceToNat, Int.reduceNeg, Int.reduceMul, Nat.reduceLeDiff, hM', hin']
              refine dc_cond _ rfl (fun _ => ?_) (fun h => by simp at h)
              have hr : checkN p = 10 := by
                unfold checkN
                rw [if_neg h0, ← hS, if_neg (by simp), if_neg]
                intro h
                exact hin (List.all_eq_true.1 h _ hmem)
              refine dc_seq (dc_region (ok0 gl) [] (by kernel_rfl) ?_)
              simp only [go_sem, ↓gx_tt, ↓gx_tf, ↓gx_ft, ↓gx_ff, ↓gx_u2, ↓gk_tt, ↓gk_tf, ↓gk_ff, ↓gk_ft, reduceCtorEq, Nat.reduceEqDiff, ↓reduceIte, Nat.reduceAdd, Nat.reduceSub, Nat.reduceLT, Nat.reduceMul, Nat.reduceBEq, Int.reduceLE, Int.reduceLT, Int.reduceAdd, Int.reduceSub, Int.reduceToNat, Int.reduceNeg, Int.reduceMul, Nat.reduceLeDiff]
              refine dc_ret ⟨.inr rfl, ?_⟩
              simp only [retOk, go_sem, ↓gx_tt, ↓gx_tf, ↓gx_ft, ↓gx_ff, ↓gx_u2, ↓gk_tt, ↓gk_tf, ↓gk_ff, ↓gk_ft, reduceCtorEq, Nat.reduceEqDiff, ↓reduceIte, Nat.reduceAdd, Nat.reduceSub, Nat.reduceLT, Nat.reduceMul, Nat.reduceBEq, Int.reduceLE, Int.reduceLT, Int.reduceAdd, Int.reduceSub, Int.reduceToNat, Int.reduceNeg, Int.reduceMul, Nat.reduceLeDiff, Tryd.f23, hr] <;> try rfl
          · have hge : (leapsN p bs).length ≤ j := by simpa using hge
            rw [List.take_of_length_le hge] at hall
            have hr : checkN p = 0 := by
              unfold checkN
              rw [if_neg h0, ← hS, if_neg (by simp), if_pos (by rw [List.all_eq_true]; exact hall)]
            refine dc_seq (dc_region (ok0 gl) [] (by kernel_rfl) ?_)
            simp only [go_sem, ↓gx_tt, ↓gx_tf, ↓gx_ft, ↓gx_ff, ↓gx_u2, ↓gk_tt, ↓gk_tf, ↓gk_ff, ↓gk_ft, reduceCtorEq, Nat.reduceEqDiff, ↓reduceIte, Nat.reduceAdd, Nat.reduceSub, Nat.reduceLT, Nat.reduceMul, Nat.reduceBEq, Int.reduceLE, Int.reduceLT, Int.reduceAdd, Int.reduceSub, Int.reduceToNat, Int.reduceNeg, Int.reduceMul, Nat.reduceLeDiff]
            refine dc_ret ⟨.inr rfl, ?_⟩
            simp only [retOk, go_sem, ↓gx_tt, ↓gx_tf, ↓gx_ft, ↓gx_ff, ↓gx_u2, ↓gk_tt, ↓gk_tf, ↓gk_ff, ↓gk_ft, reduceCtorEq, Nat.reduceEqDiff, ↓reduceIte, Nat.reduceAdd, Nat.reduceSub, Nat.reduceLT, Nat.reduceMul, Nat.reduceBEq, Int.reduceLE, Int.reduceLT, Int.reduceAdd, Int.reduceSub, Int.reduceToNat, Int.reduceNeg, Int.reduceMul, Nat.reduceLeDiff, Tryd.f23, hr] <;> try rfl
end Go.Proofs.YthbdeooemkejmaaDoor


namespace Go.Proofs.YthbdeooemkejmaaDoor
open Go Go.E
set_option maxRecDepth 100000
theorem slice_arg {X : Cx} {f : FuncId} {eb : Nat} {e : Ty} {c : C} {A : Key → Option O} {v : V} {L : List (Key × O)} (h : DCalls X f [.d (.slice eb e) (.slice c.elems)] A v L) : DCalls X f [.d (.slice eb e) c] A v L := by
  intro A' Γ w args hA hg hc hn hr
  have hs : args.size = 1 := hn.symm
  have h0 : RepV Γ (.d (.slice eb e) c) args[0] := hr 0 _ _ rfl (Array.getElem?_eq_getElem (by omega : 0 < args.size))
  obtain ⟨h2, _⟩ := (repV_one rfl rfl).1 h0
  simp only [RepX, RepC] at h2
  obtain ⟨_, _, _, cs, rfl, _⟩ := h2
  exact h A' Γ w args hA hg hc hn hr
def checkG {R : Type} : OvG R := fun xs _ K => match xs with
  | [.d t c] => if t = .slice 1 (.int .u8) then K (.d (.int .i64) (.int (checkN c.elems))) [] else none
  | _ => none
noncomputable def code_Check_g (_ : Nat) {R : Type} : OvG R := checkG
theorem code_Check_ok (N : Nat) {R : Type} : GOk (X0 gl0) 23 (code_Check_g N (R := R)) := by
  intro xs A Kr r hr
  unfold code_Check_g checkG at hr
  split at hr
  · simp only [Option.ite_none_right_eq_some] at hr
    obtain ⟨rfl, hr⟩ := hr
    exact ⟨_, _, slice_arg (code_Check gf0 A _), hr⟩
  · cases hr
theorem slice_arg2 {X : Cx} {f : FuncId} {eb : Nat} {e : Ty} {c : C} {y : V} {A : Key → Option O} {v : V} {L : List (Key × O)} (h : DCalls X f [.d (.slice eb e) (.slice c.elems), y] A v L) : DCalls X f [.d (.slice eb e) c, y] A v L := by
  intro A' Γ w args hA hg hc hn hr
  have hs : args.size = 2 := hn.symm
  have h0 : RepV Γ (.d (.slice eb e) c) args[0] := hr 0 _ _ rfl (Array.getElem?_eq_getElem (by omega : 0 < args.size))
  obtain ⟨h2, _⟩ := (repV_one rfl rfl).1 h0
  simp only [RepX, RepC] at h2
  obtain ⟨_, _, _, cs, rfl, _⟩ := h2
  exact h A' Γ w args hA hg hc hn hr
theorem int_arg2 {X : Cx} {f : FuncId} {k : IntKind} {c : C} {y : V} {A : Key → Option O} {v : V} {L : List (Key × O)} (h : DCalls X f [y, .d (.int k) (.int c.toInt)] A v L) : DCalls X f [y, .d (.int k) c] A v L := by
  intro A' Γ w args hA hg hc hn hr
  have hs : args.size = 2 := hn.symm
  have h0 : RepV Γ (.d (.int k) c) args[1] := hr 1 _ _ rfl (Array.getElem?_eq_getElem (by omega : 1 < args.size))
  obtain ⟨h2, _⟩ := (repV_one rfl rfl).1 h0
  simp only [RepX, RepC] at h2
  have hc' : ∃ i, c = .int i := by
    cases c <;> simp_all
  obtain ⟨i, rfl⟩ := hc'
  exact h A' Γ w args hA hg hc hn hr
def fetchG {R : Type} : OvG R := fun xs _ K => match xs with
  | [.d t c, .d u i] => if t = .slice 1 (.int .u8) ∧ u = .int .i64 then (if c.elems.length ≤ 256 ∧ 0 ≤ i.toInt ∧ i.toInt ≤ 100000 then
      K (.tup [.d (.int .i64) (.int (if errN c.elems i.toInt.toNat = 0 then bN c.elems i.toInt.toNat else 0)), .d (.int .u64) (.int (if errN c.elems i.toInt.toNat = 0 then argN c.elems (i.toInt.toNat + 1) (moreN (bN c.elems i.toInt.toNat)) else 0)), .d (.int .i64) (.int (if errN c.elems i.toInt.toNat = 0 then ((i.toInt.toNat + 1 + moreN (bN c.elems i.toInt.toNat) : Nat) : Int) else 0)), .d (.int .i64) (.int (errN c.elems i.toInt.toNat))]) [] else none) else none
  | _ => none
noncomputable def code_fetch_g (_ : Nat) {R : Type} : OvG R := fetchG
theorem code_fetch_ok (N : Nat) {R : Type} : GOk (X0 gl0) 13 (code_fetch_g N (R := R)) := by
  intro xs A Kr r hr
  unfold code_fetch_g fetchG at hr
  split at hr
  · simp only [Option.ite_none_right_eq_some] at hr
    obtain ⟨⟨rfl, rfl⟩, ⟨h1, h2, h3⟩, hr⟩ := hr
    rename_i c i
    refine ⟨_, _, slice_arg2 (int_arg2 ?_), hr⟩
    have := code_fetch gf0 A c.elems i.toInt.toNat h1 (by omega)
    rw [Int.toNat_of_nonneg h2] at this
    simpa only [fetchV] using this
  · cases hr
end Go.Proofs.YthbdeooemkejmaaDoor


namespace Go.Proofs.YthbdeooemkejmaaDoor
open Go Go.E
set_option maxRecDepth 100000
set_option maxHeartbeats 4000000
set_option linter.unusedVariables false
def code_stack_fail_as : List Sh := [.as (.ptr (.g (.l 1)) [] tStack), .d (.int .i64)]
def code_stack_fail_os : List (Key × OSh) := [(.l 1, .box (.agg tStack [.vec (.g (.l 2)) 8 (.int .u64), .d (.int .i64)])), (.l 2, .box (.arr (.int .u64)))]
noncomputable def code_stack_fail_hs : Hints := [([1], ⟨[0], [], [.g (.l 1), .g (.l 2)], [], [], [(.int .u64)]⟩),
    ([9], ⟨[], [], [.g (.l 1), .g (.l 2)], [], [], [(.int .u64)]⟩)]
noncomputable def code_stack_fail_ov (N : Nat) : OvS (X0 gl0) where
  g R := []
  ok := fun R => fun _ h => nomatch h
noncomputable def code_stack_fail_p0 {R : Type} (N : Nat) (a0 b0 b1 b2 : C) (k1 : KD R) : Option R := (jn (fun d1 m1 => (if List.length (C.elems (dk d1 3)) = List.length (C.elems (dk d1 3)) then (k1 [C.int (↑(Int.toNat (C.toInt (dk d1 0))) : Int), dk d1 1, C.int (↑(Int.toNat (C.toInt (dk d1 2))) : Int), dk d1 3] []) else none)) (fun k2 => (bif decide (C.toInt b1 = 0) then (if List.length (C.elems b2) = List.length (C.elems b2) then (k2 [C.int (↑(Int.toNat (C.toInt b0)) : Int), a0, C.int (↑(List.length (C.elems b2)) : Int), b2] []) else none) else (if List.length (C.elems b2) = List.length (C.elems b2) then (k2 [C.int (↑(Int.toNat (C.toInt b0)) : Int), b1, C.int (↑(List.length (C.elems b2)) : Int), b2] []) else none))))
noncomputable def code_stack_fail_p {R : Type} (N : Nat) : C → C → C → C → KD R → Option R := lid "code_stack_fail_p N" (code_stack_fail_p0 N)
theorem code_stack_fail_pe {R : Type} (N : Nat) (a0 b0 b1 b2 : C) (k : KD R) : code_stack_fail_p N a0 b0 b1 b2 k = code_stack_fail_p0 N a0 b0 b1 b2 k := by unfold code_stack_fail_p; rw [lid_eq]
theorem code_stack_fail_run {R : Type} (N : Nat) (a0 b0 b1 b2 : C) (K : V → List (Key × O) → Option R) : exF (X0 gl0) ((code_stack_fail_ov N).ov R) extX noX (fun f => bif Nat.beq f 24 then code_stack_fail_hs else []) N 400 8 24 (Sh.fills code_stack_fail_as 0 [a0, b0, b1, b2]) (lookK (locFill code_stack_fail_os (Sh.manys code_stack_fail_as) 0 [a0, b0, b1, b2] [])) K =
    code_stack_fail_p N a0 b0 b1 b2 (fun d1 m1 => K (V.tup []) [(Key.g (Key.l 1),
    O.box
      (V.agg tStack
        [V.sr (Key.l 1000000000074) [] 0 (Int.toNat (C.toInt (dk d1 0))) none 8 (Ty.int IntKind.u64),
          V.d (Ty.int IntKind.i64) (dk d1 1)])),
  (Key.g (Key.l 2), O.dead (Ty.arr (Int.toNat (C.toInt (dk d1 2))) (Ty.int IntKind.u64))),
  (Key.l 1000000000074, O.box (V.d (Ty.arr (List.length (C.elems (dk d1 3))) (Ty.int IntKind.u64)) (dk d1 3)))]) := by
  rw [code_stack_fail_pe]
  exact (show _ = jn (fun d1 m1 => (K (V.tup []) [(Key.g (Key.l 1),
    O.box
      (V.agg tStack
        [V.sr (Key.l 1000000000074) [] 0 (Int.toNat (C.toInt (dk d1 0))) none 8 (Ty.int IntKind.u64),
          V.d (Ty.int IntKind.i64) (dk d1 1)])),
  (Key.g (Key.l 2), O.dead (Ty.arr (Int.toNat (C.toInt (dk d1 2))) (Ty.int IntKind.u64))),
  (Key.l 1000000000074, O.box (V.d (Ty.arr (List.length (C.elems (dk d1 3))) (Ty.int IntKind.u64)) (dk d1 3)))])) (code_stack_fail_p0 N a0 b0 b1 b2) by kernel_rfl).trans (jn_eq _ _)
noncomputable def code_stack_fail_g (N : Nat) {R : Type} : OvG R := ptrG code_stack_fail_as code_stack_fail_os fun ds ms K => code_stack_fail_p N (dk ds 0) (dk ds 1) (dk ds 2) (dk ds 3) (fun d1 m1 => K (V.tup []) [(Key.g (Key.l 1),
    O.box
      (V.agg tStack
        [V.sr (Key.l 1000000000074) [] 0 (Int.toNat (C.toInt (dk d1 0))) none 8 (Ty.int IntKind.u64),
          V.d (Ty.int IntKind.i64) (dk d1 1)])),
  (Key.g (Key.l 2), O.dead (Ty.arr (Int.toNat (C.toInt (dk d1 2))) (Ty.int IntKind.u64))),
  (Key.l 1000000000074, O.box (V.d (Ty.arr (List.length (C.elems (dk d1 3))) (Ty.int IntKind.u64)) (dk d1 3)))])
theorem code_stack_fail_ok (N : Nat) {R : Type} : GOk (X0 gl0) 24 (code_stack_fail_g N (R := R)) := by
  unfold code_stack_fail_g
  refine ptrG_ok fun ds ms K r hr => ?_
  rw [← code_stack_fail_run] at hr
  obtain ⟨v, L, h1, h2⟩ := exF_ok (ok0 gl0) (mo gl0) ((code_stack_fail_ov N).ov_ok _) (extX_ok gl0) _ _ _ _ _ _ hr
  exact ⟨v, L, h1, h2⟩
end Go.Proofs.YthbdeooemkejmaaDoor


namespace Go.Proofs.YthbdeooemkejmaaDoor
open Go Go.E
set_option maxRecDepth 100000
set_option maxHeartbeats 4000000
set_option linter.unusedVariables false
def code_stack_pop_as : List Sh := [.as (.ptr (.g (.l 1)) [] tStack)]
def code_stack_pop_os : List (Key × OSh) := [(.l 1, .box (.agg tStack [.vec (.g (.l 2)) 8 (.int .u64), .d (.int .i64)])), (.l 2, .box (.arr (.int .u64)))]
noncomputable def code_stack_pop_hs : Hints := [([9], ⟨[], [(2, .d (.int .u64))], [.g (.l 1), .g (.l 2)], [], [], [(.int .u64)]⟩)]
noncomputable def code_stack_pop_ov (N : Nat) : OvS (X0 gl0) where
  g R := [(24, code_stack_fail_g N)]
  ok := fun R => List.forall_mem_cons.2 ⟨code_stack_fail_ok N, fun _ h => nomatch h⟩
noncomputable def code_stack_pop_p0 {R : Type} (N : Nat) (b0 b1 b2 : C) (k1 : KD R) : Option R := (bif decide ((↑(Int.toNat (C.toInt b0)) : Int) = 0) then (if List.length (C.elems b2) = List.length (C.elems b2) then (code_stack_fail_p N (C.int 12) (C.int (↑(Int.toNat (C.toInt b0)) : Int)) b1 b2 (fun d1 m1 => (if List.length (C.elems (dk d1 3)) = List.length (C.elems (dk d1 3)) then (k1 [C.int 0, C.int (↑(Int.toNat (C.toInt (dk d1 0))) : Int), dk d1 1, C.int (↑(Int.toNat (C.toInt (dk d1 2))) : Int), dk d1 3] []) else none))) else none) else (if 0 ≤ IntKind.wrap IntKind.i64 ((↑(Int.toNat (C.toInt b0)) : Int) - 1) ∧ IntKind.wrap IntKind.i64 ((↑(Int.toNat (C.toInt b0)) : Int) - 1) < (↑(Int.toNat (C.toInt b0)) : Int) then (if Int.ofNat 0 ≤ 0 ∧ 0 ≤ IntKind.wrap IntKind.i64 ((↑(Int.toNat (C.toInt b0)) : Int) - 1) ∧ IntKind.wrap IntKind.i64 ((↑(Int.toNat (C.toInt b0)) : Int) - 1) ≤ (↑(Int.toNat (C.toInt b0)) : Int) then (if List.length (C.elems b2) = List.length (C.elems b2) then (k1 [C.get b2 (0 + Int.toNat (IntKind.wrap IntKind.i64 ((↑(Int.toNat (C.toInt b0)) : Int) - 1))), C.int (↑(Int.toNat (IntKind.wrap IntKind.i64 ((↑(Int.toNat (C.toInt b0)) : Int) - 1) - 0)) : Int), b1, C.int (↑(List.length (C.elems b2)) : Int), b2] []) else none) else none) else none))
noncomputable def code_stack_pop_p {R : Type} (N : Nat) : C → C → C → KD R → Option R := lid "code_stack_pop_p N" (code_stack_pop_p0 N)
theorem code_stack_pop_pe {R : Type} (N : Nat) (b0 b1 b2 : C) (k : KD R) : code_stack_pop_p N b0 b1 b2 k = code_stack_pop_p0 N b0 b1 b2 k := by unfold code_stack_pop_p; rw [lid_eq]
theorem code_stack_pop_run {R : Type} (N : Nat) (b0 b1 b2 : C) (K : V → List (Key × O) → Option R) : exF (X0 gl0) ((code_stack_pop_ov N).ov R) extX noX (fun f => bif Nat.beq f 14 then code_stack_pop_hs else []) N 400 8 14 (Sh.fills code_stack_pop_as 0 [b0, b1, b2]) (lookK (locFill code_stack_pop_os (Sh.manys code_stack_pop_as) 0 [b0, b1, b2] [])) K =
    code_stack_pop_p N b0 b1 b2 (fun d1 m1 => K (V.d (Ty.int IntKind.u64) (dk d1 0)) [(Key.g (Key.l 1),
    O.box
      (V.agg tStack
        [V.sr (Key.l 1000000000074) [] 0 (Int.toNat (C.toInt (dk d1 1))) none 8 (Ty.int IntKind.u64),
          V.d (Ty.int IntKind.i64) (dk d1 2)])),
  (Key.g (Key.l 2), O.dead (Ty.arr (Int.toNat (C.toInt (dk d1 3))) (Ty.int IntKind.u64))),
  (Key.l 1000000000074, O.box (V.d (Ty.arr (List.length (C.elems (dk d1 4))) (Ty.int IntKind.u64)) (dk d1 4)))]) := by
  rw [code_stack_pop_pe]
  exact (show _ = jn (fun d1 m1 => (K (V.d (Ty.int IntKind.u64) (dk d1 0)) [(Key.g (Key.l 1),
    O.box
      (V.agg tStack
        [V.sr (Key.l 1000000000074) [] 0 (Int.toNat (C.toInt (dk d1 1))) none 8 (Ty.int IntKind.u64),
          V.d (Ty.int IntKind.i64) (dk d1 2)])),
  (Key.g (Key.l 2), O.dead (Ty.arr (Int.toNat (C.toInt (dk d1 3))) (Ty.int IntKind.u64))),
  (Key.l 1000000000074, O.box (V.d (Ty.arr (List.length (C.elems (dk d1 4))) (Ty.int IntKind.u64)) (dk d1 4)))])) (code_stack_pop_p0 N b0 b1 b2) by kernel_rfl).trans (jn_eq _ _)
noncomputable def code_stack_pop_g (N : Nat) {R : Type} : OvG R := ptrG code_stack_pop_as code_stack_pop_os fun ds ms K => code_stack_pop_p N (dk ds 0) (dk ds 1) (dk ds 2) (fun d1 m1 => K (V.d (Ty.int IntKind.u64) (dk d1 0)) [(Key.g (Key.l 1),
    O.box
      (V.agg tStack
        [V.sr (Key.l 1000000000074) [] 0 (Int.toNat (C.toInt (dk d1 1))) none 8 (Ty.int IntKind.u64),
          V.d (Ty.int IntKind.i64) (dk d1 2)])),
  (Key.g (Key.l 2), O.dead (Ty.arr (Int.toNat (C.toInt (dk d1 3))) (Ty.int IntKind.u64))),
  (Key.l 1000000000074, O.box (V.d (Ty.arr (List.length (C.elems (dk d1 4))) (Ty.int IntKind.u64)) (dk d1 4)))])
theorem code_stack_pop_ok (N : Nat) {R : Type} : GOk (X0 gl0) 14 (code_stack_pop_g N (R := R)) := by
  unfold code_stack_pop_g
  refine ptrG_ok fun ds ms K r hr => ?_
  rw [← code_stack_pop_run] at hr
  obtain ⟨v, L, h1, h2⟩ := exF_ok (ok0 gl0) (mo gl0) ((code_stack_pop_ov N).ov_ok _) (extX_ok gl0) _ _ _ _ _ _ hr
  exact ⟨v, L, h1, h2⟩
end Go.Proofs.YthbdeooemkejmaaDoor


namespace Go.Proofs.YthbdeooemkejmaaDoor
open Go Go.E
set_option maxRecDepth 100000
set_option maxHeartbeats 4000000
set_option linter.unusedVariables false
def code_stack_push_as : List Sh := [.as (.ptr (.g (.l 1)) [] tStack), .d (.slice 8 (.int .u64))]
def code_stack_push_os : List (Key × OSh) := [(.l 1, .box (.agg tStack [.vec (.g (.l 2)) 8 (.int .u64), .d (.int .i64)])), (.l 2, .box (.arr (.int .u64)))]
noncomputable def code_stack_push_hs : Hints := [([1], ⟨[0], [], [.g (.l 1), .g (.l 2)], [], [], [(.int .u64)]⟩),
    ([4, 1], ⟨[0, 6, 7], [(8, .d (.int .i64))], [.g (.l 1), .g (.l 2)], [], [], [(.int .u64)]⟩),
    ([9], ⟨[], [], [.g (.l 1), .g (.l 2)], [], [], [(.int .u64)]⟩)]
noncomputable def code_stack_push_ov (N : Nat) : OvS (X0 gl0) where
  g R := [(24, code_stack_fail_g N)]
  ok := fun R => List.forall_mem_cons.2 ⟨code_stack_fail_ok N, fun _ h => nomatch h⟩
noncomputable def code_stack_push_l1 {R : Type} (N : Nat) (k1 : KD R) (k2 : KD R) : KD R → List C → List Es → Option R := (fun k3 d1 m1 => (bif decide (C.toInt (dk d1 2) < C.toInt (dk d1 1)) then (if 0 ≤ C.toInt (dk d1 2) ∧ C.toInt (dk d1 2) < (↑(List.length (C.elems (dk d1 0))) : Int) then (bif decide (32 ≤ (↑(Int.toNat (C.toInt (dk d1 3))) : Int)) then (if List.length (C.elems (dk d1 6)) = List.length (C.elems (dk d1 6)) then (code_stack_fail_p N (C.int 4) (C.int (↑(Int.toNat (C.toInt (dk d1 3))) : Int)) (dk d1 4) (dk d1 6) (fun d2 m2 => (if List.length (C.elems (dk d2 3)) = List.length (C.elems (dk d2 3)) then (k1 [C.int (↑(Int.toNat (C.toInt (dk d2 0))) : Int), dk d2 1, C.int (↑(Int.toNat (C.toInt (dk d1 5))) : Int), dk d2 3] []) else none))) else none) else (if false = false ∧ (Int.toNat (C.toInt (dk d1 3)) + 1) * 8 ≤ 140737488355328 ∧ Int.toNat (C.toInt (dk d1 3)) + 1 ≤ 9223372036854775807 then (if Int.toNat (C.toInt (dk d1 3)) + 1 = List.length (List.take (Int.toNat (C.toInt (dk d1 3))) (C.elems (dk d1 6)) ++ [List.getD (C.elems (dk d1 0)) (Int.toNat (C.toInt (dk d1 2))) C.nil]) then (k3 [dk d1 0, dk d1 1, C.int (IntKind.wrap IntKind.i64 (C.toInt (dk d1 2) + 1)), C.int (↑(Int.toNat (C.toInt (dk d1 3)) + 1) : Int), dk d1 4, C.int (↑(Int.toNat (C.toInt (dk d1 5))) : Int), C.agg (List.take (Int.toNat (C.toInt (dk d1 3))) (C.elems (dk d1 6)) ++ [List.getD (C.elems (dk d1 0)) (Int.toNat (C.toInt (dk d1 2))) C.nil])] []) else none) else none)) else none) else (if List.length (C.elems (dk d1 6)) = List.length (C.elems (dk d1 6)) then (k2 [C.int (↑(Int.toNat (C.toInt (dk d1 3))) : Int), dk d1 4, C.int (↑(Int.toNat (C.toInt (dk d1 5))) : Int), dk d1 6] []) else none)))
noncomputable def code_stack_push_p0 {R : Type} (N : Nat) (a0 b0 b1 b2 : C) (k1 : KD R) : Option R := (jn (fun d1 m1 => (if List.length (C.elems (dk d1 3)) = List.length (C.elems (dk d1 3)) then (k1 [C.int (↑(Int.toNat (C.toInt (dk d1 0))) : Int), dk d1 1, C.int (↑(Int.toNat (C.toInt (dk d1 2))) : Int), dk d1 3] []) else none)) (fun k2 => (if List.length (C.elems b2) = List.length (C.elems b2) then (loopK N (code_stack_push_l1 N k1 k2) [a0, C.int (↑(List.length (C.elems a0)) : Int), C.int 0, C.int (↑(Int.toNat (C.toInt b0)) : Int), b1, C.int (↑(List.length (C.elems b2)) : Int), b2] []) else none)))
noncomputable def code_stack_push_p {R : Type} (N : Nat) : C → C → C → C → KD R → Option R := lid "code_stack_push_p N" (code_stack_push_p0 N)
theorem code_stack_push_pe {R : Type} (N : Nat) (a0 b0 b1 b2 : C) (k : KD R) : code_stack_push_p N a0 b0 b1 b2 k = code_stack_push_p0 N a0 b0 b1 b2 k := by unfold code_stack_push_p; rw [lid_eq]
theorem code_stack_push_run {R : Type} (N : Nat) (a0 b0 b1 b2 : C) (K : V → List (Key × O) → Option R) : exF (X0 gl0) ((code_stack_push_ov N).ov R) extX noX (fun f => bif Nat.beq f 25 then code_stack_push_hs else []) N 400 8 25 (Sh.fills code_stack_push_as 0 [a0, b0, b1, b2]) (lookK (locFill code_stack_push_os (Sh.manys code_stack_push_as) 0 [a0, b0, b1, b2] [])) K =
    code_stack_push_p N a0 b0 b1 b2 (fun d1 m1 => K (V.tup []) [(Key.g (Key.l 1),
    O.box
      (V.agg tStack
        [V.sr (Key.l 1000000000074) [] 0 (Int.toNat (C.toInt (dk d1 0))) none 8 (Ty.int IntKind.u64),
          V.d (Ty.int IntKind.i64) (dk d1 1)])),
  (Key.g (Key.l 2), O.dead (Ty.arr (Int.toNat (C.toInt (dk d1 2))) (Ty.int IntKind.u64))),
  (Key.l 1000000000074, O.box (V.d (Ty.arr (List.length (C.elems (dk d1 3))) (Ty.int IntKind.u64)) (dk d1 3)))]) := by
  rw [code_stack_push_pe]
  exact (show _ = jn (fun d1 m1 => (K (V.tup []) [(Key.g (Key.l 1),
    O.box
      (V.agg tStack
        [V.sr (Key.l 1000000000074) [] 0 (Int.toNat (C.toInt (dk d1 0))) none 8 (Ty.int IntKind.u64),
          V.d (Ty.int IntKind.i64) (dk d1 1)])),
  (Key.g (Key.l 2), O.dead (Ty.arr (Int.toNat (C.toInt (dk d1 2))) (Ty.int IntKind.u64))),
  (Key.l 1000000000074, O.box (V.d (Ty.arr (List.length (C.elems (dk d1 3))) (Ty.int IntKind.u64)) (dk d1 3)))])) (code_stack_push_p0 N a0 b0 b1 b2) by kernel_rfl).trans (jn_eq _ _)
noncomputable def code_stack_push_g (N : Nat) {R : Type} : OvG R := ptrG code_stack_push_as code_stack_push_os fun ds ms K => code_stack_push_p N (dk ds 0) (dk ds 1) (dk ds 2) (dk ds 3) (fun d1 m1 => K (V.tup []) [(Key.g (Key.l 1),
    O.box
      (V.agg tStack
        [V.sr (Key.l 1000000000074) [] 0 (Int.toNat (C.toInt (dk d1 0))) none 8 (Ty.int IntKind.u64),
          V.d (Ty.int IntKind.i64) (dk d1 1)])),
  (Key.g (Key.l 2), O.dead (Ty.arr (Int.toNat (C.toInt (dk d1 2))) (Ty.int IntKind.u64))),
  (Key.l 1000000000074, O.box (V.d (Ty.arr (List.length (C.elems (dk d1 3))) (Ty.int IntKind.u64)) (dk d1 3)))])
theorem code_stack_push_ok (N : Nat) {R : Type} : GOk (X0 gl0) 25 (code_stack_push_g N (R := R)) := by
  unfold code_stack_push_g
  refine ptrG_ok fun ds ms K r hr => ?_
  rw [← code_stack_push_run] at hr
  obtain ⟨v, L, h1, h2⟩ := exF_ok (ok0 gl0) (mo gl0) ((code_stack_push_ov N).ov_ok _) (extX_ok gl0) _ _ _ _ _ _ hr
  exact ⟨v, L, h1, h2⟩
end Go.Proofs.YthbdeooemkejmaaDoor


namespace Go.Proofs.YthbdeooemkejmaaDoor
open Go Go.E
set_option maxRecDepth 100000
set_option maxHeartbeats 4000000
set_option linter.unusedVariables false
noncomputable def money_Add_hs : Hints := [([9], ⟨[], [(4, .d (.int .u64)), (5, .d (.int .i64))], [], [], [], []⟩)]
noncomputable def money_Add_ov (N : Nat) : OvS (X0 gl0) where
  g R := []
  ok := fun R => fun _ h => nomatch h
noncomputable def money_Add_p0 {R : Type} (N : Nat) (a0 a1 : C) (k1 : KD R) : Option R := (bif !decide ((C.toInt a0 + C.toInt a1) / 18446744073709551616 = 0) then (k1 [C.int 0, C.int 11] []) else (k1 [C.int ((C.toInt a0 + C.toInt a1) % 18446744073709551616), C.int 0] []))
noncomputable def money_Add_p {R : Type} (N : Nat) : C → C → KD R → Option R := lid "money_Add_p N" (money_Add_p0 N)
theorem money_Add_pe {R : Type} (N : Nat) (a0 a1 : C) (k : KD R) : money_Add_p N a0 a1 k = money_Add_p0 N a0 a1 k := by unfold money_Add_p; rw [lid_eq]
theorem money_Add_run {R : Type} (N : Nat) (a0 a1 : C) (K : V → List (Key × O) → Option R) : exF (X0 gl0) ((money_Add_ov N).ov R) extX noX (fun f => bif Nat.beq f 27 then money_Add_hs else []) N 400 8 27 [.d (.int .u64) a0, .d (.int .u64) a1] A0 K =
    money_Add_p N a0 a1 (fun d1 m1 => K (V.tup [V.d (Ty.int IntKind.u64) (dk d1 0), V.d (Ty.int IntKind.i64) (dk d1 1)]) []) := by
  rw [money_Add_pe]
  exact (show _ = jn (fun d1 m1 => (K (V.tup [V.d (Ty.int IntKind.u64) (dk d1 0), V.d (Ty.int IntKind.i64) (dk d1 1)]) [])) (money_Add_p0 N a0 a1) by kernel_rfl).trans (jn_eq _ _)
noncomputable def money_Add_g (N : Nat) {R : Type} : OvG R := fun xs _ K => match xs with
  | [.d t0 a0, .d t1 a1] => if t0 = (.int .u64) ∧ t1 = (.int .u64) then money_Add_p N a0 a1 (fun d1 m1 => K (V.tup [V.d (Ty.int IntKind.u64) (dk d1 0), V.d (Ty.int IntKind.i64) (dk d1 1)]) []) else none
  | _ => none
theorem money_Add_ok (N : Nat) {R : Type} : GOk (X0 gl0) 27 (money_Add_g N (R := R)) := by
  intro xs A Kr r hr
  unfold money_Add_g at hr
  split at hr
  · simp only [Option.ite_none_right_eq_some] at hr
    obtain ⟨hty, hr⟩ := hr
    obtain ⟨rfl, rfl⟩ := hty
    rw [← money_Add_run] at hr
    obtain ⟨v, L, h1, h2⟩ := exF_ok (ok0 gl0) (mo gl0) ((money_Add_ov N).ov_ok _) (extX_ok gl0) _ _ _ _ _ _ hr
    exact ⟨v, L, h1.mono (leA_none fun _ => rfl), h2⟩
  · cases hr
end Go.Proofs.YthbdeooemkejmaaDoor


namespace Go.Proofs.YthbdeooemkejmaaDoor
open Go Go.E
set_option maxRecDepth 100000
set_option maxHeartbeats 4000000
set_option linter.unusedVariables false
noncomputable def money_Sub_hs : Hints := [([9], ⟨[], [(4, .d (.int .u64)), (5, .d (.int .i64))], [], [], [], []⟩)]
noncomputable def money_Sub_ov (N : Nat) : OvS (X0 gl0) where
  g R := []
  ok := fun R => fun _ h => nomatch h
noncomputable def money_Sub_p0 {R : Type} (N : Nat) (a0 a1 : C) (k1 : KD R) : Option R := (bif decide (C.toInt a0 < C.toInt a1) then (k1 [C.int 0, C.int 12] []) else (k1 [C.int (IntKind.wrap IntKind.u64 (C.toInt a0 - C.toInt a1)), C.int 0] []))
noncomputable def money_Sub_p {R : Type} (N : Nat) : C → C → KD R → Option R := lid "money_Sub_p N" (money_Sub_p0 N)
theorem money_Sub_pe {R : Type} (N : Nat) (a0 a1 : C) (k : KD R) : money_Sub_p N a0 a1 k = money_Sub_p0 N a0 a1 k := by unfold money_Sub_p; rw [lid_eq]
theorem money_Sub_run {R : Type} (N : Nat) (a0 a1 : C) (K : V → List (Key × O) → Option R) : exF (X0 gl0) ((money_Sub_ov N).ov R) extX noX (fun f => bif Nat.beq f 28 then money_Sub_hs else []) N 400 8 28 [.d (.int .u64) a0, .d (.int .u64) a1] A0 K =
    money_Sub_p N a0 a1 (fun d1 m1 => K (V.tup [V.d (Ty.int IntKind.u64) (dk d1 0), V.d (Ty.int IntKind.i64) (dk d1 1)]) []) := by
  rw [money_Sub_pe]
  exact (show _ = jn (fun d1 m1 => (K (V.tup [V.d (Ty.int IntKind.u64) (dk d1 0), V.d (Ty.int IntKind.i64) (dk d1 1)]) [])) (money_Sub_p0 N a0 a1) by kernel_rfl).trans (jn_eq _ _)
noncomputable def money_Sub_g (N : Nat) {R : Type} : OvG R := fun xs _ K => match xs with
  | [.d t0 a0, .d t1 a1] => if t0 = (.int .u64) ∧ t1 = (.int .u64) then money_Sub_p N a0 a1 (fun d1 m1 => K (V.tup [V.d (Ty.int IntKind.u64) (dk d1 0), V.d (Ty.int IntKind.i64) (dk d1 1)]) []) else none
  | _ => none
theorem money_Sub_ok (N : Nat) {R : Type} : GOk (X0 gl0) 28 (money_Sub_g N (R := R)) := by
  intro xs A Kr r hr
  unfold money_Sub_g at hr
  split at hr
  · simp only [Option.ite_none_right_eq_some] at hr
    obtain ⟨hty, hr⟩ := hr
    obtain ⟨rfl, rfl⟩ := hty
    rw [← money_Sub_run] at hr
    obtain ⟨v, L, h1, h2⟩ := exF_ok (ok0 gl0) (mo gl0) ((money_Sub_ov N).ov_ok _) (extX_ok gl0) _ _ _ _ _ _ hr
    exact ⟨v, L, h1.mono (leA_none fun _ => rfl), h2⟩
  · cases hr
end Go.Proofs.YthbdeooemkejmaaDoor


namespace Go.Proofs.YthbdeooemkejmaaDoor
open Go Go.E
set_option maxRecDepth 100000
set_option maxHeartbeats 4000000
set_option linter.unusedVariables false
noncomputable def math_bits_Mul64_hs : Hints := [([9], ⟨[], [(4, .d (.int .u64)), (5, .d (.int .u64))], [], [], [], []⟩)]
noncomputable def math_bits_Mul64_ov (N : Nat) : OvS (X0 gl0) where
  g R := []
  ok := fun R => fun _ h => nomatch h
noncomputable def math_bits_Mul64_p0 {R : Type} (N : Nat) (a0 a1 : C) (k1 : KD R) : Option R := (k1 [C.int (IntKind.wrap IntKind.u64 (IntKind.wrap IntKind.u64 (IntKind.wrap IntKind.u64 (Int.fdiv (C.toInt a0) (2 ^ min (Int.toNat 32) 64) * Int.fdiv (C.toInt a1) (2 ^ min (Int.toNat 32) 64)) + Int.fdiv (IntKind.wrap IntKind.u64 (IntKind.wrap IntKind.u64 (Int.fdiv (C.toInt a0) (2 ^ min (Int.toNat 32) 64) * bitsC BinOp.and IntKind.u64 (C.toInt a1) 4294967295) + Int.fdiv (IntKind.wrap IntKind.u64 (bitsC BinOp.and IntKind.u64 (C.toInt a0) 4294967295 * bitsC BinOp.and IntKind.u64 (C.toInt a1) 4294967295)) (2 ^ min (Int.toNat 32) 64))) (2 ^ min (Int.toNat 32) 64)) + Int.fdiv (IntKind.wrap IntKind.u64 (bitsC BinOp.and IntKind.u64 (IntKind.wrap IntKind.u64 (IntKind.wrap IntKind.u64 (Int.fdiv (C.toInt a0) (2 ^ min (Int.toNat 32) 64) * bitsC BinOp.and IntKind.u64 (C.toInt a1) 4294967295) + Int.fdiv (IntKind.wrap IntKind.u64 (bitsC BinOp.and IntKind.u64 (C.toInt a0) 4294967295 * bitsC BinOp.and IntKind.u64 (C.toInt a1) 4294967295)) (2 ^ min (Int.toNat 32) 64))) 4294967295 + IntKind.wrap IntKind.u64 (bitsC BinOp.and IntKind.u64 (C.toInt a0) 4294967295 * Int.fdiv (C.toInt a1) (2 ^ min (Int.toNat 32) 64)))) (2 ^ min (Int.toNat 32) 64))), C.int (IntKind.wrap IntKind.u64 (C.toInt a0 * C.toInt a1))] [])
noncomputable def math_bits_Mul64_p {R : Type} (N : Nat) : C → C → KD R → Option R := lid "math_bits_Mul64_p N" (math_bits_Mul64_p0 N)
theorem math_bits_Mul64_pe {R : Type} (N : Nat) (a0 a1 : C) (k : KD R) : math_bits_Mul64_p N a0 a1 k = math_bits_Mul64_p0 N a0 a1 k := by unfold math_bits_Mul64_p; rw [lid_eq]
theorem math_bits_Mul64_run {R : Type} (N : Nat) (a0 a1 : C) (K : V → List (Key × O) → Option R) : exF (X0 gl0) ((math_bits_Mul64_ov N).ov R) extX noX (fun f => bif Nat.beq f 41 then math_bits_Mul64_hs else []) N 400 8 41 [.d (.int .u64) a0, .d (.int .u64) a1] A0 K =
    math_bits_Mul64_p N a0 a1 (fun d1 m1 => K (V.tup [V.d (Ty.int IntKind.u64) (dk d1 0), V.d (Ty.int IntKind.u64) (dk d1 1)]) []) := by
  rw [math_bits_Mul64_pe]
  exact (show _ = jn (fun d1 m1 => (K (V.tup [V.d (Ty.int IntKind.u64) (dk d1 0), V.d (Ty.int IntKind.u64) (dk d1 1)]) [])) (math_bits_Mul64_p0 N a0 a1) by kernel_rfl).trans (jn_eq _ _)
noncomputable def math_bits_Mul64_g (N : Nat) {R : Type} : OvG R := fun xs _ K => match xs with
  | [.d t0 a0, .d t1 a1] => if t0 = (.int .u64) ∧ t1 = (.int .u64) then math_bits_Mul64_p N a0 a1 (fun d1 m1 => K (V.tup [V.d (Ty.int IntKind.u64) (dk d1 0), V.d (Ty.int IntKind.u64) (dk d1 1)]) []) else none
  | _ => none
theorem math_bits_Mul64_ok (N : Nat) {R : Type} : GOk (X0 gl0) 41 (math_bits_Mul64_g N (R := R)) := by
  intro xs A Kr r hr
  unfold math_bits_Mul64_g at hr
  split at hr
  · simp only [Option.ite_none_right_eq_some] at hr
    obtain ⟨hty, hr⟩ := hr
    obtain ⟨rfl, rfl⟩ := hty
    rw [← math_bits_Mul64_run] at hr
    obtain ⟨v, L, h1, h2⟩ := exF_ok (ok0 gl0) (mo gl0) ((math_bits_Mul64_ov N).ov_ok _) (extX_ok gl0) _ _ _ _ _ _ hr
    exact ⟨v, L, h1.mono (leA_none fun _ => rfl), h2⟩
  · cases hr
end Go.Proofs.YthbdeooemkejmaaDoor


namespace Go.Proofs.YthbdeooemkejmaaDoor
open Go Go.E
set_option maxRecDepth 100000
set_option maxHeartbeats 4000000
set_option linter.unusedVariables false
noncomputable def money_Mul_hs : Hints := [([9], ⟨[], [(4, .d (.int .u64)), (5, .d (.int .i64))], [], [], [], []⟩)]
noncomputable def money_Mul_ov (N : Nat) : OvS (X0 gl0) where
  g R := [(41, math_bits_Mul64_g N)]
  ok := fun R => List.forall_mem_cons.2 ⟨math_bits_Mul64_ok N, fun _ h => nomatch h⟩
noncomputable def money_Mul_p0 {R : Type} (N : Nat) (a0 a1 : C) (k1 : KD R) : Option R := (math_bits_Mul64_p N a0 a1 (fun d1 m1 => (bif !decide (C.toInt (dk d1 0) = 0) then (k1 [C.int 0, C.int 11] []) else (k1 [dk d1 1, C.int 0] []))))
noncomputable def money_Mul_p {R : Type} (N : Nat) : C → C → KD R → Option R := lid "money_Mul_p N" (money_Mul_p0 N)
theorem money_Mul_pe {R : Type} (N : Nat) (a0 a1 : C) (k : KD R) : money_Mul_p N a0 a1 k = money_Mul_p0 N a0 a1 k := by unfold money_Mul_p; rw [lid_eq]
theorem money_Mul_run {R : Type} (N : Nat) (a0 a1 : C) (K : V → List (Key × O) → Option R) : exF (X0 gl0) ((money_Mul_ov N).ov R) extX noX (fun f => bif Nat.beq f 29 then money_Mul_hs else []) N 400 8 29 [.d (.int .u64) a0, .d (.int .u64) a1] A0 K =
    money_Mul_p N a0 a1 (fun d1 m1 => K (V.tup [V.d (Ty.int IntKind.u64) (dk d1 0), V.d (Ty.int IntKind.i64) (dk d1 1)]) []) := by
  rw [money_Mul_pe]
  exact (show _ = jn (fun d1 m1 => (K (V.tup [V.d (Ty.int IntKind.u64) (dk d1 0), V.d (Ty.int IntKind.i64) (dk d1 1)]) [])) (money_Mul_p0 N a0 a1) by kernel_rfl).trans (jn_eq _ _)
noncomputable def money_Mul_g (N : Nat) {R : Type} : OvG R := fun xs _ K => match xs with
  | [.d t0 a0, .d t1 a1] => if t0 = (.int .u64) ∧ t1 = (.int .u64) then money_Mul_p N a0 a1 (fun d1 m1 => K (V.tup [V.d (Ty.int IntKind.u64) (dk d1 0), V.d (Ty.int IntKind.i64) (dk d1 1)]) []) else none
  | _ => none
theorem money_Mul_ok (N : Nat) {R : Type} : GOk (X0 gl0) 29 (money_Mul_g N (R := R)) := by
  intro xs A Kr r hr
  unfold money_Mul_g at hr
  split at hr
  · simp only [Option.ite_none_right_eq_some] at hr
    obtain ⟨hty, hr⟩ := hr
    obtain ⟨rfl, rfl⟩ := hty
    rw [← money_Mul_run] at hr
    obtain ⟨v, L, h1, h2⟩ := exF_ok (ok0 gl0) (mo gl0) ((money_Mul_ov N).ov_ok _) (extX_ok gl0) _ _ _ _ _ _ hr
    exact ⟨v, L, h1.mono (leA_none fun _ => rfl), h2⟩
  · cases hr
end Go.Proofs.YthbdeooemkejmaaDoor


namespace Go.Proofs.YthbdeooemkejmaaDoor
open Go Go.E
set_option maxRecDepth 100000
set_option maxHeartbeats 4000000
set_option linter.unusedVariables false
def code_stack_bool_as : List Sh := [.as (.ptr (.g (.l 1)) [] tStack), .d .bool]
def code_stack_bool_os : List (Key × OSh) := [(.l 1, .box (.agg tStack [.vec (.g (.l 2)) 8 (.int .u64), .d (.int .i64)])), (.l 2, .box (.arr (.int .u64)))]
noncomputable def code_stack_bool_hs : Hints := [([9], ⟨[], [], [.g (.l 1), .g (.l 2)], [], [], [(.int .u64)]⟩)]
noncomputable def code_stack_bool_ov (N : Nat) : OvS (X0 gl0) where
  g R := [(25, code_stack_push_g N)]
  ok := fun R => List.forall_mem_cons.2 ⟨code_stack_push_ok N, fun _ h => nomatch h⟩
noncomputable def code_stack_bool_p0 {R : Type} (N : Nat) (a0 b0 b1 b2 : C) (k1 : KD R) : Option R := (bif C.toBool a0 then (if List.length (C.elems b2) = List.length (C.elems b2) then (code_stack_push_p N (C.slice [C.int 1]) (C.int (↑(Int.toNat (C.toInt b0)) : Int)) b1 b2 (fun d1 m1 => (if List.length (C.elems (dk d1 3)) = List.length (C.elems (dk d1 3)) then (k1 [C.int (↑(Int.toNat (C.toInt (dk d1 0))) : Int), dk d1 1, C.int (↑(Int.toNat (C.toInt (dk d1 2))) : Int), dk d1 3] []) else none))) else none) else (if List.length (C.elems b2) = List.length (C.elems b2) then (code_stack_push_p N (C.slice [C.int 0]) (C.int (↑(Int.toNat (C.toInt b0)) : Int)) b1 b2 (fun d1 m1 => (if List.length (C.elems (dk d1 3)) = List.length (C.elems (dk d1 3)) then (k1 [C.int (↑(Int.toNat (C.toInt (dk d1 0))) : Int), dk d1 1, C.int (↑(Int.toNat (C.toInt (dk d1 2))) : Int), dk d1 3] []) else none))) else none))
noncomputable def code_stack_bool_p {R : Type} (N : Nat) : C → C → C → C → KD R → Option R := lid "code_stack_bool_p N" (code_stack_bool_p0 N)
theorem code_stack_bool_pe {R : Type} (N : Nat) (a0 b0 b1 b2 : C) (k : KD R) : code_stack_bool_p N a0 b0 b1 b2 k = code_stack_bool_p0 N a0 b0 b1 b2 k := by unfold code_stack_bool_p; rw [lid_eq]
theorem code_stack_bool_run {R : Type} (N : Nat) (a0 b0 b1 b2 : C) (K : V → List (Key × O) → Option R) : exF (X0 gl0) ((code_stack_bool_ov N).ov R) extX noX (fun f => bif Nat.beq f 30 then code_stack_bool_hs else []) N 400 8 30 (Sh.fills code_stack_bool_as 0 [a0, b0, b1, b2]) (lookK (locFill code_stack_bool_os (Sh.manys code_stack_bool_as) 0 [a0, b0, b1, b2] [])) K =
    code_stack_bool_p N a0 b0 b1 b2 (fun d1 m1 => K (V.tup []) [(Key.g (Key.l 1),
    O.box
      (V.agg tStack
        [V.sr (Key.l 1000000000074) [] 0 (Int.toNat (C.toInt (dk d1 0))) none 8 (Ty.int IntKind.u64),
          V.d (Ty.int IntKind.i64) (dk d1 1)])),
  (Key.g (Key.l 2), O.dead (Ty.arr (Int.toNat (C.toInt (dk d1 2))) (Ty.int IntKind.u64))),
  (Key.l 1000000000074, O.box (V.d (Ty.arr (List.length (C.elems (dk d1 3))) (Ty.int IntKind.u64)) (dk d1 3)))]) := by
  rw [code_stack_bool_pe]
  exact (show _ = jn (fun d1 m1 => (K (V.tup []) [(Key.g (Key.l 1),
    O.box
      (V.agg tStack
        [V.sr (Key.l 1000000000074) [] 0 (Int.toNat (C.toInt (dk d1 0))) none 8 (Ty.int IntKind.u64),
          V.d (Ty.int IntKind.i64) (dk d1 1)])),
  (Key.g (Key.l 2), O.dead (Ty.arr (Int.toNat (C.toInt (dk d1 2))) (Ty.int IntKind.u64))),
  (Key.l 1000000000074, O.box (V.d (Ty.arr (List.length (C.elems (dk d1 3))) (Ty.int IntKind.u64)) (dk d1 3)))])) (code_stack_bool_p0 N a0 b0 b1 b2) by kernel_rfl).trans (jn_eq _ _)
noncomputable def code_stack_bool_g (N : Nat) {R : Type} : OvG R := ptrG code_stack_bool_as code_stack_bool_os fun ds ms K => code_stack_bool_p N (dk ds 0) (dk ds 1) (dk ds 2) (dk ds 3) (fun d1 m1 => K (V.tup []) [(Key.g (Key.l 1),
    O.box
      (V.agg tStack
        [V.sr (Key.l 1000000000074) [] 0 (Int.toNat (C.toInt (dk d1 0))) none 8 (Ty.int IntKind.u64),
          V.d (Ty.int IntKind.i64) (dk d1 1)])),
  (Key.g (Key.l 2), O.dead (Ty.arr (Int.toNat (C.toInt (dk d1 2))) (Ty.int IntKind.u64))),
  (Key.l 1000000000074, O.box (V.d (Ty.arr (List.length (C.elems (dk d1 3))) (Ty.int IntKind.u64)) (dk d1 3)))])
theorem code_stack_bool_ok (N : Nat) {R : Type} : GOk (X0 gl0) 30 (code_stack_bool_g N (R := R)) := by
  unfold code_stack_bool_g
  refine ptrG_ok fun ds ms K r hr => ?_
  rw [← code_stack_bool_run] at hr
  obtain ⟨v, L, h1, h2⟩ := exF_ok (ok0 gl0) (mo gl0) ((code_stack_bool_ov N).ov_ok _) (extX_ok gl0) _ _ _ _ _ _ hr
  exact ⟨v, L, h1, h2⟩
end Go.Proofs.YthbdeooemkejmaaDoor


namespace Go.Proofs.YthbdeooemkejmaaDoor
open Go Go.E
set_option maxRecDepth 100000
set_option maxHeartbeats 4000000
set_option linter.unusedVariables false
def code_World_plain_as : List Sh := [.d tWorld, .as (.ptr (.g (.l 1)) [] tStack), .d (.int .i64), .d (.int .u64)]
def code_World_plain_os : List (Key × OSh) := [(.l 1, .box (.agg tStack [.vec (.g (.l 2)) 8 (.int .u64), .d (.int .i64)])), (.l 2, .box (.arr (.int .u64)))]
noncomputable def code_World_plain_hs : Hints := [([1, 2, 1, 3, 1, 3, 1, 3, 1, 3, 1, 3, 1, 3, 1, 3, 1, 3, 1, 4, 1, 1], ⟨[1], [], [.g (.l 1), .g (.l 2)], [], [], [(.int .u64)]⟩),
    ([1, 2, 1, 3, 1, 3, 1, 3, 1, 3, 1, 3, 1, 3, 1, 3, 1, 3, 1, 3, 1, 4, 1, 1], ⟨[1], [], [.g (.l 1), .g (.l 2)], [], [], [(.int .u64)]⟩),
    ([9], ⟨[], [], [.g (.l 1), .g (.l 2)], [], [], [(.int .u64)]⟩)]
noncomputable def code_World_plain_ov (N : Nat) : OvS (X0 gl0) where
  g R := [(14, code_stack_pop_g N), (24, code_stack_fail_g N), (25, code_stack_push_g N), (27, money_Add_g N), (28, money_Sub_g N), (29, money_Mul_g N), (30, code_stack_bool_g N)]
  ok := fun R => List.forall_mem_cons.2 ⟨code_stack_pop_ok N, List.forall_mem_cons.2 ⟨code_stack_fail_ok N, List.forall_mem_cons.2 ⟨code_stack_push_ok N, List.forall_mem_cons.2 ⟨money_Add_ok N, List.forall_mem_cons.2 ⟨money_Sub_ok N, List.forall_mem_cons.2 ⟨money_Mul_ok N, List.forall_mem_cons.2 ⟨code_stack_bool_ok N, fun _ h => nomatch h⟩⟩⟩⟩⟩⟩⟩
noncomputable def code_World_plain_p0 {R : Type} (N : Nat) (a0 a1 a2 b0 b1 b2 : C) (k1 : KD R) : Option R := (bif decide (C.toInt a1 = 1) then (if List.length (C.elems b2) = List.length (C.elems b2) then (code_stack_push_p N (C.slice [a2]) (C.int (↑(Int.toNat (C.toInt b0)) : Int)) b1 b2 (fun d1 m1 => (if List.length (C.elems (dk d1 3)) = List.length (C.elems (dk d1 3)) then (k1 [C.int (↑(Int.toNat (C.toInt (dk d1 0))) : Int), dk d1 1, C.int (↑(Int.toNat (C.toInt (dk d1 2))) : Int), dk d1 3] []) else none))) else none) else (bif decide (C.toInt a1 = 2) then (bif decide (IntKind.wrap IntKind.u64 (↑(List.length (C.elems (C.get a0 0))) : Int) ≤ C.toInt a2) then (if List.length (C.elems b2) = List.length (C.elems b2) then (code_stack_fail_p N (C.int 1) (C.int (↑(Int.toNat (C.toInt b0)) : Int)) b1 b2 (fun d1 m1 => (if List.length (C.elems (dk d1 3)) = List.length (C.elems (dk d1 3)) then (k1 [C.int (↑(Int.toNat (C.toInt (dk d1 0))) : Int), dk d1 1, C.int (↑(Int.toNat (C.toInt (dk d1 2))) : Int), dk d1 3] []) else none))) else none) else (if 0 ≤ C.toInt a2 ∧ C.toInt a2 < (↑(List.length (C.elems (C.get a0 0))) : Int) then (if List.length (C.elems b2) = List.length (C.elems b2) then (code_stack_push_p N (C.slice [List.getD (C.elems (C.get a0 0)) (Int.toNat (C.toInt a2)) C.nil]) (C.int (↑(Int.toNat (C.toInt b0)) : Int)) b1 b2 (fun d1 m1 => (if List.length (C.elems (dk d1 3)) = List.length (C.elems (dk d1 3)) then (k1 [C.int (↑(Int.toNat (C.toInt (dk d1 0))) : Int), dk d1 1, C.int (↑(Int.toNat (C.toInt (dk d1 2))) : Int), dk d1 3] []) else none))) else none) else none)) else (bif decide (C.toInt a1 = 3) then (jn (fun d1 m1 => (if List.length (C.elems (dk d1 3)) = List.length (C.elems (dk d1 3)) then (k1 [C.int (↑(Int.toNat (C.toInt (dk d1 0))) : Int), dk d1 1, C.int (↑(Int.toNat (C.toInt (dk d1 2))) : Int), dk d1 3] []) else none)) (fun k2 => (if List.length (C.elems b2) = List.length (C.elems b2) then (code_stack_pop_p N (C.int (↑(Int.toNat (C.toInt b0)) : Int)) b1 b2 (fun d1 m1 => (if List.length (C.elems (dk d1 4)) = List.length (C.elems (dk d1 4)) then (code_stack_pop_p N (C.int (↑(Int.toNat (C.toInt (dk d1 1))) : Int)) (dk d1 2) (dk d1 4) (fun d2 m2 => (bif !decide (C.toInt (dk d2 2) = 0) then (if List.length (C.elems (dk d2 4)) = List.length (C.elems (dk d2 4)) then (k2 [C.int (↑(Int.toNat (C.toInt (dk d2 1))) : Int), dk d2 2, C.int (↑(Int.toNat (C.toInt (dk d1 3))) : Int), dk d2 4] []) else none) else (money_Add_p N (dk d2 0) (dk d1 0) (fun d3 m3 => (bif !decide (C.toInt (dk d3 1) = 0) then (if List.length (C.elems (dk d2 4)) = List.length (C.elems (dk d2 4)) then (code_stack_fail_p N (dk d3 1) (C.int (↑(Int.toNat (C.toInt (dk d2 1))) : Int)) (dk d2 2) (dk d2 4) (fun d4 m4 => (if List.length (C.elems (dk d4 3)) = List.length (C.elems (dk d4 3)) then (k2 [C.int (↑(Int.toNat (C.toInt (dk d4 0))) : Int), dk d4 1, C.int (↑(Int.toNat (C.toInt (dk d1 3))) : Int), dk d4 3] []) else none))) else none) else (if List.length (C.elems (dk d2 4)) = List.length (C.elems (dk d2 4)) then (code_stack_push_p N (C.slice [dk d3 0]) (C.int (↑(Int.toNat (C.toInt (dk d2 1))) : Int)) (dk d2 2) (dk d2 4) (fun d4 m4 => (if List.length (C.elems (dk d4 3)) = List.length (C.elems (dk d4 3)) then (k2 [C.int (↑(Int.toNat (C.toInt (dk d4 0))) : Int), dk d4 1, C.int (↑(Int.toNat (C.toInt (dk d1 3))) : Int), dk d4 3] []) else none))) else none))))))) else none))) else none))) else (bif decide (C.toInt a1 = 4) then (jn (fun d1 m1 => (if List.length (C.elems (dk d1 3)) = List.length (C.elems (dk d1 3)) then (k1 [C.int (↑(Int.toNat (C.toInt (dk d1 0))) : Int), dk d1 1, C.int (↑(Int.toNat (C.toInt (dk d1 2))) : Int), dk d1 3] []) else none)) (fun k2 => (if List.length (C.elems b2) = List.length (C.elems b2) then (code_stack_pop_p N (C.int (↑(Int.toNat (C.toInt b0)) : Int)) b1 b2 (fun d1 m1 => (if List.length (C.elems (dk d1 4)) = List.length (C.elems (dk d1 4)) then (code_stack_pop_p N (C.int (↑(Int.toNat (C.toInt (dk d1 1))) : Int)) (dk d1 2) (dk d1 4) (fun d2 m2 => (bif !decide (C.toInt (dk d2 2) = 0) then (if List.length (C.elems (dk d2 4)) = List.length (C.elems (dk d2 4)) then (k2 [C.int (↑(Int.toNat (C.toInt (dk d2 1))) : Int), dk d2 2, C.int (↑(Int.toNat (C.toInt (dk d1 3))) : Int), dk d2 4] []) else none) else (money_Sub_p N (dk d2 0) (dk d1 0) (fun d3 m3 => (bif !decide (C.toInt (dk d3 1) = 0) then (if List.length (C.elems (dk d2 4)) = List.length (C.elems (dk d2 4)) then (code_stack_fail_p N (dk d3 1) (C.int (↑(Int.toNat (C.toInt (dk d2 1))) : Int)) (dk d2 2) (dk d2 4) (fun d4 m4 => (if List.length (C.elems (dk d4 3)) = List.length (C.elems (dk d4 3)) then (k2 [C.int (↑(Int.toNat (C.toInt (dk d4 0))) : Int), dk d4 1, C.int (↑(Int.toNat (C.toInt (dk d1 3))) : Int), dk d4 3] []) else none))) else none) else (if List.length (C.elems (dk d2 4)) = List.length (C.elems (dk d2 4)) then (code_stack_push_p N (C.slice [dk d3 0]) (C.int (↑(Int.toNat (C.toInt (dk d2 1))) : Int)) (dk d2 2) (dk d2 4) (fun d4 m4 => (if List.length (C.elems (dk d4 3)) = List.length (C.elems (dk d4 3)) then (k2 [C.int (↑(Int.toNat (C.toInt (dk d4 0))) : Int), dk d4 1, C.int (↑(Int.toNat (C.toInt (dk d1 3))) : Int), dk d4 3] []) else none))) else none))))))) else none))) else none))) else (bif decide (C.toInt a1 = 5) then (jn (fun d1 m1 => (if List.length (C.elems (dk d1 3)) = List.length (C.elems (dk d1 3)) then (k1 [C.int (↑(Int.toNat (C.toInt (dk d1 0))) : Int), dk d1 1, C.int (↑(Int.toNat (C.toInt (dk d1 2))) : Int), dk d1 3] []) else none)) (fun k2 => (if List.length (C.elems b2) = List.length (C.elems b2) then (code_stack_pop_p N (C.int (↑(Int.toNat (C.toInt b0)) : Int)) b1 b2 (fun d1 m1 => (if List.length (C.elems (dk d1 4)) = List.length (C.elems (dk d1 4)) then (code_stack_pop_p N (C.int (↑(Int.toNat (C.toInt (dk d1 1))) : Int)) (dk d1 2) (dk d1 4) (fun d2 m2 => (bif !decide (C.toInt (dk d2 2) = 0) then (if List.length (C.elems (dk d2 4)) = List.length (C.elems (dk d2 4)) then (k2 [C.int (↑(Int.toNat (C.toInt (dk d2 1))) : Int), dk d2 2, C.int (↑(Int.toNat (C.toInt (dk d1 3))) : Int), dk d2 4] []) else none) else (money_Mul_p N (dk d2 0) (dk d1 0) (fun d3 m3 => (bif !decide (C.toInt (dk d3 1) = 0) then (if List.length (C.elems (dk d2 4)) = List.length (C.elems (dk d2 4)) then (code_stack_fail_p N (dk d3 1) (C.int (↑(Int.toNat (C.toInt (dk d2 1))) : Int)) (dk d2 2) (dk d2 4) (fun d4 m4 => (if List.length (C.elems (dk d4 3)) = List.length (C.elems (dk d4 3)) then (k2 [C.int (↑(Int.toNat (C.toInt (dk d4 0))) : Int), dk d4 1, C.int (↑(Int.toNat (C.toInt (dk d1 3))) : Int), dk d4 3] []) else none))) else none) else (if List.length (C.elems (dk d2 4)) = List.length (C.elems (dk d2 4)) then (code_stack_push_p N (C.slice [dk d3 0]) (C.int (↑(Int.toNat (C.toInt (dk d2 1))) : Int)) (dk d2 2) (dk d2 4) (fun d4 m4 => (if List.length (C.elems (dk d4 3)) = List.length (C.elems (dk d4 3)) then (k2 [C.int (↑(Int.toNat (C.toInt (dk d4 0))) : Int), dk d4 1, C.int (↑(Int.toNat (C.toInt (dk d1 3))) : Int), dk d4 3] []) else none))) else none))))))) else none))) else none))) else (bif decide (C.toInt a1 = 6) then (if List.length (C.elems b2) = List.length (C.elems b2) then (code_stack_pop_p N (C.int (↑(Int.toNat (C.toInt b0)) : Int)) b1 b2 (fun d1 m1 => (if List.length (C.elems (dk d1 4)) = List.length (C.elems (dk d1 4)) then (code_stack_pop_p N (C.int (↑(Int.toNat (C.toInt (dk d1 1))) : Int)) (dk d1 2) (dk d1 4) (fun d2 m2 => (if List.length (C.elems (dk d2 4)) = List.length (C.elems (dk d2 4)) then (code_stack_bool_p N (C.bool (decide (C.toInt (dk d2 0) < C.toInt (dk d1 0)))) (C.int (↑(Int.toNat (C.toInt (dk d2 1))) : Int)) (dk d2 2) (dk d2 4) (fun d3 m3 => (if List.length (C.elems (dk d3 3)) = List.length (C.elems (dk d3 3)) then (k1 [C.int (↑(Int.toNat (C.toInt (dk d3 0))) : Int), dk d3 1, C.int (↑(Int.toNat (C.toInt (dk d1 3))) : Int), dk d3 3] []) else none))) else none))) else none))) else none) else (bif decide (C.toInt a1 = 7) then (if List.length (C.elems b2) = List.length (C.elems b2) then (code_stack_pop_p N (C.int (↑(Int.toNat (C.toInt b0)) : Int)) b1 b2 (fun d1 m1 => (if List.length (C.elems (dk d1 4)) = List.length (C.elems (dk d1 4)) then (code_stack_pop_p N (C.int (↑(Int.toNat (C.toInt (dk d1 1))) : Int)) (dk d1 2) (dk d1 4) (fun d2 m2 => (if List.length (C.elems (dk d2 4)) = List.length (C.elems (dk d2 4)) then (code_stack_bool_p N (C.bool (decide (C.toInt (dk d2 0) = C.toInt (dk d1 0)))) (C.int (↑(Int.toNat (C.toInt (dk d2 1))) : Int)) (dk d2 2) (dk d2 4) (fun d3 m3 => (if List.length (C.elems (dk d3 3)) = List.length (C.elems (dk d3 3)) then (k1 [C.int (↑(Int.toNat (C.toInt (dk d3 0))) : Int), dk d3 1, C.int (↑(Int.toNat (C.toInt (dk d1 3))) : Int), dk d3 3] []) else none))) else none))) else none))) else none) else (bif decide (C.toInt a1 = 8) then (if List.length (C.elems b2) = List.length (C.elems b2) then (code_stack_pop_p N (C.int (↑(Int.toNat (C.toInt b0)) : Int)) b1 b2 (fun d1 m1 => (if List.length (C.elems (dk d1 4)) = List.length (C.elems (dk d1 4)) then (code_stack_bool_p N (C.bool (decide (C.toInt (dk d1 0) = 0))) (C.int (↑(Int.toNat (C.toInt (dk d1 1))) : Int)) (dk d1 2) (dk d1 4) (fun d2 m2 => (if List.length (C.elems (dk d2 3)) = List.length (C.elems (dk d2 3)) then (k1 [C.int (↑(Int.toNat (C.toInt (dk d2 0))) : Int), dk d2 1, C.int (↑(Int.toNat (C.toInt (dk d1 3))) : Int), dk d2 3] []) else none))) else none))) else none) else (bif decide (C.toInt a1 = 9) then (if List.length (C.elems b2) = List.length (C.elems b2) then (code_stack_pop_p N (C.int (↑(Int.toNat (C.toInt b0)) : Int)) b1 b2 (fun d1 m1 => (if List.length (C.elems (dk d1 4)) = List.length (C.elems (dk d1 4)) then (code_stack_pop_p N (C.int (↑(Int.toNat (C.toInt (dk d1 1))) : Int)) (dk d1 2) (dk d1 4) (fun d2 m2 => (jn (fun d3 m3 => (if List.length (C.elems (dk d3 2)) = List.length (C.elems (dk d3 2)) then (k1 [C.int (↑(Int.toNat (C.toInt (dk d3 0))) : Int), dk d3 1, C.int (↑(Int.toNat (C.toInt (dk d3 3))) : Int), dk d3 2] []) else none)) (fun k2 => (bif !decide (C.toInt (dk d2 0) = 0) then (if List.length (C.elems (dk d2 4)) = List.length (C.elems (dk d2 4)) then (code_stack_bool_p N (C.bool !decide (C.toInt (dk d1 0) = 0)) (C.int (↑(Int.toNat (C.toInt (dk d2 1))) : Int)) (dk d2 2) (dk d2 4) (fun d3 m3 => (if List.length (C.elems (dk d3 3)) = List.length (C.elems (dk d3 3)) then (k2 [C.int (↑(Int.toNat (C.toInt (dk d3 0))) : Int), dk d3 1, dk d3 3, C.int (↑(Int.toNat (C.toInt (dk d1 3))) : Int), C.int (↑(Int.toNat (C.toInt (dk d1 3))) : Int)] []) else none))) else none) else (if List.length (C.elems (dk d2 4)) = List.length (C.elems (dk d2 4)) then (code_stack_bool_p N (C.bool false) (C.int (↑(Int.toNat (C.toInt (dk d2 1))) : Int)) (dk d2 2) (dk d2 4) (fun d3 m3 => (if List.length (C.elems (dk d3 3)) = List.length (C.elems (dk d3 3)) then (k2 [C.int (↑(Int.toNat (C.toInt (dk d3 0))) : Int), dk d3 1, dk d3 3, C.int (↑(Int.toNat (C.toInt (dk d1 3))) : Int), C.int (↑(Int.toNat (C.toInt (dk d1 3))) : Int)] []) else none))) else none)))))) else none))) else none) else (bif decide (C.toInt a1 = 10) then (if List.length (C.elems b2) = List.length (C.elems b2) then (code_stack_pop_p N (C.int (↑(Int.toNat (C.toInt b0)) : Int)) b1 b2 (fun d1 m1 => (if List.length (C.elems (dk d1 4)) = List.length (C.elems (dk d1 4)) then (code_stack_pop_p N (C.int (↑(Int.toNat (C.toInt (dk d1 1))) : Int)) (dk d1 2) (dk d1 4) (fun d2 m2 => (jn (fun d3 m3 => (if List.length (C.elems (dk d3 2)) = List.length (C.elems (dk d3 2)) then (k1 [C.int (↑(Int.toNat (C.toInt (dk d3 0))) : Int), dk d3 1, C.int (↑(Int.toNat (C.toInt (dk d3 3))) : Int), dk d3 2] []) else none)) (fun k2 => (bif !decide (C.toInt (dk d2 0) = 0) then (if List.length (C.elems (dk d2 4)) = List.length (C.elems (dk d2 4)) then (code_stack_bool_p N (C.bool true) (C.int (↑(Int.toNat (C.toInt (dk d2 1))) : Int)) (dk d2 2) (dk d2 4) (fun d3 m3 => (if List.length (C.elems (dk d3 3)) = List.length (C.elems (dk d3 3)) then (k2 [C.int (↑(Int.toNat (C.toInt (dk d3 0))) : Int), dk d3 1, dk d3 3, C.int (↑(Int.toNat (C.toInt (dk d1 3))) : Int), C.int (↑(Int.toNat (C.toInt (dk d1 3))) : Int)] []) else none))) else none) else (if List.length (C.elems (dk d2 4)) = List.length (C.elems (dk d2 4)) then (code_stack_bool_p N (C.bool !decide (C.toInt (dk d1 0) = 0)) (C.int (↑(Int.toNat (C.toInt (dk d2 1))) : Int)) (dk d2 2) (dk d2 4) (fun d3 m3 => (if List.length (C.elems (dk d3 3)) = List.length (C.elems (dk d3 3)) then (k2 [C.int (↑(Int.toNat (C.toInt (dk d3 0))) : Int), dk d3 1, dk d3 3, C.int (↑(Int.toNat (C.toInt (dk d1 3))) : Int), C.int (↑(Int.toNat (C.toInt (dk d1 3))) : Int)] []) else none))) else none)))))) else none))) else none) else (bif decide (C.toInt a1 = 13) then (if List.length (C.elems b2) = List.length (C.elems b2) then (code_stack_pop_p N (C.int (↑(Int.toNat (C.toInt b0)) : Int)) b1 b2 (fun d1 m1 => (if List.length (C.elems (dk d1 4)) = List.length (C.elems (dk d1 4)) then (code_stack_push_p N (C.slice [dk d1 0, dk d1 0]) (C.int (↑(Int.toNat (C.toInt (dk d1 1))) : Int)) (dk d1 2) (dk d1 4) (fun d2 m2 => (if List.length (C.elems (dk d2 3)) = List.length (C.elems (dk d2 3)) then (k1 [C.int (↑(Int.toNat (C.toInt (dk d2 0))) : Int), dk d2 1, C.int (↑(Int.toNat (C.toInt (dk d1 3))) : Int), dk d2 3] []) else none))) else none))) else none) else (bif decide (C.toInt a1 = 14) then (if List.length (C.elems b2) = List.length (C.elems b2) then (code_stack_pop_p N (C.int (↑(Int.toNat (C.toInt b0)) : Int)) b1 b2 (fun d1 m1 => (if List.length (C.elems (dk d1 4)) = List.length (C.elems (dk d1 4)) then (code_stack_pop_p N (C.int (↑(Int.toNat (C.toInt (dk d1 1))) : Int)) (dk d1 2) (dk d1 4) (fun d2 m2 => (if List.length (C.elems (dk d2 4)) = List.length (C.elems (dk d2 4)) then (code_stack_push_p N (C.slice [dk d1 0, dk d2 0]) (C.int (↑(Int.toNat (C.toInt (dk d2 1))) : Int)) (dk d2 2) (dk d2 4) (fun d3 m3 => (if List.length (C.elems (dk d3 3)) = List.length (C.elems (dk d3 3)) then (k1 [C.int (↑(Int.toNat (C.toInt (dk d3 0))) : Int), dk d3 1, C.int (↑(Int.toNat (C.toInt (dk d1 3))) : Int), dk d3 3] []) else none))) else none))) else none))) else none) else (bif decide (C.toInt a1 = 15) then (if List.length (C.elems b2) = List.length (C.elems b2) then (code_stack_pop_p N (C.int (↑(Int.toNat (C.toInt b0)) : Int)) b1 b2 (fun d1 m1 => (if List.length (C.elems (dk d1 4)) = List.length (C.elems (dk d1 4)) then (k1 [C.int (↑(Int.toNat (C.toInt (dk d1 1))) : Int), dk d1 2, C.int (↑(Int.toNat (C.toInt (dk d1 3))) : Int), dk d1 4] []) else none))) else none) else (bif decide (C.toInt a1 = 16) then (bif decide (IntKind.wrap IntKind.u64 (↑(List.length (C.elems (C.get a0 1))) : Int) ≤ C.toInt a2) then (if List.length (C.elems b2) = List.length (C.elems b2) then (code_stack_fail_p N (C.int 1) (C.int (↑(Int.toNat (C.toInt b0)) : Int)) b1 b2 (fun d1 m1 => (if List.length (C.elems (dk d1 3)) = List.length (C.elems (dk d1 3)) then (k1 [C.int (↑(Int.toNat (C.toInt (dk d1 0))) : Int), dk d1 1, C.int (↑(Int.toNat (C.toInt (dk d1 2))) : Int), dk d1 3] []) else none))) else none) else (if 0 ≤ C.toInt a2 ∧ C.toInt a2 < (↑(List.length (C.elems (C.get a0 1))) : Int) then (if List.length (C.elems b2) = List.length (C.elems b2) then (code_stack_bool_p N (List.getD (C.elems (C.get a0 1)) (Int.toNat (C.toInt a2)) C.nil) (C.int (↑(Int.toNat (C.toInt b0)) : Int)) b1 b2 (fun d1 m1 => (if List.length (C.elems (dk d1 3)) = List.length (C.elems (dk d1 3)) then (k1 [C.int (↑(Int.toNat (C.toInt (dk d1 0))) : Int), dk d1 1, C.int (↑(Int.toNat (C.toInt (dk d1 2))) : Int), dk d1 3] []) else none))) else none) else none)) else (bif decide (C.toInt a1 = 17) then (if List.length (C.elems b2) = List.length (C.elems b2) then (code_stack_push_p N (C.slice [C.get a0 2]) (C.int (↑(Int.toNat (C.toInt b0)) : Int)) b1 b2 (fun d1 m1 => (if List.length (C.elems (dk d1 3)) = List.length (C.elems (dk d1 3)) then (k1 [C.int (↑(Int.toNat (C.toInt (dk d1 0))) : Int), dk d1 1, C.int (↑(Int.toNat (C.toInt (dk d1 2))) : Int), dk d1 3] []) else none))) else none) else (if List.length (C.elems b2) = List.length (C.elems b2) then (k1 [C.int (↑(Int.toNat (C.toInt b0)) : Int), b1, C.int (↑(List.length (C.elems b2)) : Int), b2] []) else none))))))))))))))))
noncomputable def code_World_plain_p {R : Type} (N : Nat) : C → C → C → C → C → C → KD R → Option R := lid "code_World_plain_p N" (code_World_plain_p0 N)
theorem code_World_plain_pe {R : Type} (N : Nat) (a0 a1 a2 b0 b1 b2 : C) (k : KD R) : code_World_plain_p N a0 a1 a2 b0 b1 b2 k = code_World_plain_p0 N a0 a1 a2 b0 b1 b2 k := by unfold code_World_plain_p; rw [lid_eq]
theorem code_World_plain_run {R : Type} (N : Nat) (a0 a1 a2 b0 b1 b2 : C) (K : V → List (Key × O) → Option R) : exF (X0 gl0) ((code_World_plain_ov N).ov R) extX (fun f r => bif Nat.beq f 15 then (bif Nat.beq r 0 then [(4, 5)] else []) else []) (fun f => bif Nat.beq f 15 then code_World_plain_hs else bif Nat.beq f 26 then [([9], ⟨[0], [], [], [], [], [(.int .u64)]⟩)] else []) N 400 8 15 (Sh.fills code_World_plain_as 0 [a0, a1, a2, b0, b1, b2]) (lookK (locFill code_World_plain_os (Sh.manys code_World_plain_as) 0 [a0, a1, a2, b0, b1, b2] [])) K =
    code_World_plain_p N a0 a1 a2 b0 b1 b2 (fun d1 m1 => K (V.tup []) [(Key.g (Key.l 1),
    O.box
      (V.agg tStack
        [V.sr (Key.l 1000000000074) [] 0 (Int.toNat (C.toInt (dk d1 0))) none 8 (Ty.int IntKind.u64),
          V.d (Ty.int IntKind.i64) (dk d1 1)])),
  (Key.g (Key.l 2), O.dead (Ty.arr (Int.toNat (C.toInt (dk d1 2))) (Ty.int IntKind.u64))),
  (Key.l 1000000000074, O.box (V.d (Ty.arr (List.length (C.elems (dk d1 3))) (Ty.int IntKind.u64)) (dk d1 3)))]) := by
  rw [code_World_plain_pe]
  exact (show _ = jn (fun d1 m1 => (K (V.tup []) [(Key.g (Key.l 1),
    O.box
      (V.agg tStack
        [V.sr (Key.l 1000000000074) [] 0 (Int.toNat (C.toInt (dk d1 0))) none 8 (Ty.int IntKind.u64),
          V.d (Ty.int IntKind.i64) (dk d1 1)])),
  (Key.g (Key.l 2), O.dead (Ty.arr (Int.toNat (C.toInt (dk d1 2))) (Ty.int IntKind.u64))),
  (Key.l 1000000000074, O.box (V.d (Ty.arr (List.length (C.elems (dk d1 3))) (Ty.int IntKind.u64)) (dk d1 3)))])) (code_World_plain_p0 N a0 a1 a2 b0 b1 b2) by kernel_rfl).trans (jn_eq _ _)
noncomputable def code_World_plain_g (N : Nat) {R : Type} : OvG R := ptrG code_World_plain_as code_World_plain_os fun ds ms K => code_World_plain_p N (dk ds 0) (dk ds 1) (dk ds 2) (dk ds 3) (dk ds 4) (dk ds 5) (fun d1 m1 => K (V.tup []) [(Key.g (Key.l 1),
    O.box
      (V.agg tStack
        [V.sr (Key.l 1000000000074) [] 0 (Int.toNat (C.toInt (dk d1 0))) none 8 (Ty.int IntKind.u64),
          V.d (Ty.int IntKind.i64) (dk d1 1)])),
  (Key.g (Key.l 2), O.dead (Ty.arr (Int.toNat (C.toInt (dk d1 2))) (Ty.int IntKind.u64))),
  (Key.l 1000000000074, O.box (V.d (Ty.arr (List.length (C.elems (dk d1 3))) (Ty.int IntKind.u64)) (dk d1 3)))])
theorem code_World_plain_ok (N : Nat) {R : Type} : GOk (X0 gl0) 15 (code_World_plain_g N (R := R)) := by
  unfold code_World_plain_g
  refine ptrG_ok fun ds ms K r hr => ?_
  rw [← code_World_plain_run] at hr
  obtain ⟨v, L, h1, h2⟩ := exF_ok (ok0 gl0) (mo gl0) ((code_World_plain_ov N).ov_ok _) (extX_ok gl0) _ _ _ _ _ _ hr
  exact ⟨v, L, h1, h2⟩
end Go.Proofs.YthbdeooemkejmaaDoor


namespace Go.Proofs.YthbdeooemkejmaaDoor
open Go Go.E
set_option maxRecDepth 100000
set_option maxHeartbeats 4000000
set_option linter.unusedVariables false
noncomputable def code_Run_hs : Hints := [([1], ⟨[0, 2, 4, 9], [(10, .d (.int .i64)), (11, .d (.int .i64))], [], [], [], [(.int .u64)]⟩),
    ([0, 0, 6, 1], ⟨[0, 2, 4], [(27, .d .bool)], [], [], [], [(.int .u64)]⟩),
    ([1, 3, 1, 4, 1, 0, 1, 1, 1, 1, 1, 7, 1], ⟨[0, 2, 4, 9, 11], [(10, .d (.int .i64))], [], [], [], [(.int .u64)]⟩),
    ([9], ⟨[], [(6, .d (.int .u64)), (7, .d (.int .i64)), (8, .d (.int .i64))], [], [], [], [(.int .u64)]⟩)]
noncomputable def code_Run_ov (N : Nat) : OvS (X0 gl0) where
  g R := [(13, code_fetch_g N), (14, code_stack_pop_g N), (15, code_World_plain_g N)]
  ok := fun R => List.forall_mem_cons.2 ⟨code_fetch_ok N, List.forall_mem_cons.2 ⟨code_stack_pop_ok N, List.forall_mem_cons.2 ⟨code_World_plain_ok N, fun _ h => nomatch h⟩⟩⟩
noncomputable def code_Run_l1 {R : Type} (N : Nat) (k1 : KD R) : KD R → List C → List Es → Option R := (fun k2 d2 m2 => (if List.length (C.elems (dk d2 0)) ≤ 256 ∧ 0 ≤ C.toInt (dk d2 3) ∧ C.toInt (dk d2 3) ≤ 100000 then (bif !decide (errN (C.elems (dk d2 0)) (Int.toNat (C.toInt (dk d2 3))) = 0) then (k1 [C.int 0, dk d2 4, C.int (errN (C.elems (dk d2 0)) (Int.toNat (C.toInt (dk d2 3))))] []) else (if (0 ≤ if errN (C.elems (dk d2 0)) (Int.toNat (C.toInt (dk d2 3))) = 0 then bN (C.elems (dk d2 0)) (Int.toNat (C.toInt (dk d2 3))) else 0) ∧ (if errN (C.elems (dk d2 0)) (Int.toNat (C.toInt (dk d2 3))) = 0 then bN (C.elems (dk d2 0)) (Int.toNat (C.toInt (dk d2 3))) else 0) < 18 then (bif decide (IntKind.wrap IntKind.i64 (C.toInt (dk d2 1) - C.toInt (dk d2 4)) < C.toInt (C.get (C.get (C.agg formsC) (Int.toNat (if errN (C.elems (dk d2 0)) (Int.toNat (C.toInt (dk d2 3))) = 0 then bN (C.elems (dk d2 0)) (Int.toNat (C.toInt (dk d2 3))) else 0))) 2)) then (k1 [C.int 0, dk d2 4, C.int 24] []) else (if (0 ≤ if errN (C.elems (dk d2 0)) (Int.toNat (C.toInt (dk d2 3))) = 0 then bN (C.elems (dk d2 0)) (Int.toNat (C.toInt (dk d2 3))) else 0) ∧ (if errN (C.elems (dk d2 0)) (Int.toNat (C.toInt (dk d2 3))) = 0 then bN (C.elems (dk d2 0)) (Int.toNat (C.toInt (dk d2 3))) else 0) < 18 then (bif decide ((if errN (C.elems (dk d2 0)) (Int.toNat (C.toInt (dk d2 3))) = 0 then bN (C.elems (dk d2 0)) (Int.toNat (C.toInt (dk d2 3))) else 0) = 0) then (if List.length (C.elems (dk d2 7)) = List.length (C.elems (dk d2 7)) then (code_stack_pop_p N (C.int (↑(Int.toNat (C.toInt (dk d2 5))) : Int)) (dk d2 6) (dk d2 7) (fun d3 m3 => (k1 [dk d3 0, C.int (IntKind.wrap IntKind.i64 (C.toInt (dk d2 4) + C.toInt (C.get (C.get (C.agg formsC) (Int.toNat (if errN (C.elems (dk d2 0)) (Int.toNat (C.toInt (dk d2 3))) = 0 then bN (C.elems (dk d2 0)) (Int.toNat (C.toInt (dk d2 3))) else 0))) 2))), dk d3 2] []))) else none) else (jn (fun d3 m3 => (bif !decide (C.toInt (dk d3 6) = 0) then (k1 [C.int 0, dk d3 3, dk d3 6] []) else (if List.length (C.elems (dk d3 7)) = List.length (C.elems (dk d3 7)) then (k2 [dk d3 0, dk d3 1, dk d3 2, dk d3 4, dk d3 3, C.int (↑(Int.toNat (C.toInt (dk d3 5))) : Int), dk d3 6, dk d3 7] []) else none))) (fun k3 => (bif decide ((if errN (C.elems (dk d2 0)) (Int.toNat (C.toInt (dk d2 3))) = 0 then bN (C.elems (dk d2 0)) (Int.toNat (C.toInt (dk d2 3))) else 0) = 11) then (if List.length (C.elems (dk d2 7)) = List.length (C.elems (dk d2 7)) then (k3 [dk d2 0, dk d2 1, dk d2 2, C.int (IntKind.wrap IntKind.i64 (C.toInt (dk d2 4) + C.toInt (C.get (C.get (C.agg formsC) (Int.toNat (if errN (C.elems (dk d2 0)) (Int.toNat (C.toInt (dk d2 3))) = 0 then bN (C.elems (dk d2 0)) (Int.toNat (C.toInt (dk d2 3))) else 0))) 2))), C.int (IntKind.wrap IntKind.i64 (if errN (C.elems (dk d2 0)) (Int.toNat (C.toInt (dk d2 3))) = 0 then argN (C.elems (dk d2 0)) (Int.toNat (C.toInt (dk d2 3)) + 1) (moreN (bN (C.elems (dk d2 0)) (Int.toNat (C.toInt (dk d2 3))))) else 0)), C.int (↑(Int.toNat (C.toInt (dk d2 5))) : Int), dk d2 6, dk d2 7] []) else none) else (bif decide ((if errN (C.elems (dk d2 0)) (Int.toNat (C.toInt (dk d2 3))) = 0 then bN (C.elems (dk d2 0)) (Int.toNat (C.toInt (dk d2 3))) else 0) = 12) then (if List.length (C.elems (dk d2 7)) = List.length (C.elems (dk d2 7)) then (code_stack_pop_p N (C.int (↑(Int.toNat (C.toInt (dk d2 5))) : Int)) (dk d2 6) (dk d2 7) (fun d3 m3 => (bif !decide (C.toInt (dk d3 0) = 0) then (if List.length (C.elems (dk d3 4)) = List.length (C.elems (dk d3 4)) then (k3 [dk d2 0, dk d2 1, dk d2 2, C.int (IntKind.wrap IntKind.i64 (C.toInt (dk d2 4) + C.toInt (C.get (C.get (C.agg formsC) (Int.toNat (if errN (C.elems (dk d2 0)) (Int.toNat (C.toInt (dk d2 3))) = 0 then bN (C.elems (dk d2 0)) (Int.toNat (C.toInt (dk d2 3))) else 0))) 2))), C.int (IntKind.wrap IntKind.i64 (if errN (C.elems (dk d2 0)) (Int.toNat (C.toInt (dk d2 3))) = 0 then argN (C.elems (dk d2 0)) (Int.toNat (C.toInt (dk d2 3)) + 1) (moreN (bN (C.elems (dk d2 0)) (Int.toNat (C.toInt (dk d2 3))))) else 0)), C.int (↑(Int.toNat (C.toInt (dk d3 1))) : Int), dk d3 2, dk d3 4] []) else none) else (if List.length (C.elems (dk d3 4)) = List.length (C.elems (dk d3 4)) then (k3 [dk d2 0, dk d2 1, dk d2 2, C.int (IntKind.wrap IntKind.i64 (C.toInt (dk d2 4) + C.toInt (C.get (C.get (C.agg formsC) (Int.toNat (if errN (C.elems (dk d2 0)) (Int.toNat (C.toInt (dk d2 3))) = 0 then bN (C.elems (dk d2 0)) (Int.toNat (C.toInt (dk d2 3))) else 0))) 2))), C.int (if errN (C.elems (dk d2 0)) (Int.toNat (C.toInt (dk d2 3))) = 0 then (↑(Int.toNat (C.toInt (dk d2 3)) + 1 + moreN (bN (C.elems (dk d2 0)) (Int.toNat (C.toInt (dk d2 3))))) : Int) else 0), C.int (↑(Int.toNat (C.toInt (dk d3 1))) : Int), dk d3 2, dk d3 4] []) else none)))) else none) else (if List.length (C.elems (dk d2 7)) = List.length (C.elems (dk d2 7)) then (code_World_plain_p N (dk d2 2) (C.int (if errN (C.elems (dk d2 0)) (Int.toNat (C.toInt (dk d2 3))) = 0 then bN (C.elems (dk d2 0)) (Int.toNat (C.toInt (dk d2 3))) else 0)) (C.int (if errN (C.elems (dk d2 0)) (Int.toNat (C.toInt (dk d2 3))) = 0 then argN (C.elems (dk d2 0)) (Int.toNat (C.toInt (dk d2 3)) + 1) (moreN (bN (C.elems (dk d2 0)) (Int.toNat (C.toInt (dk d2 3))))) else 0)) (C.int (↑(Int.toNat (C.toInt (dk d2 5))) : Int)) (dk d2 6) (dk d2 7) (fun d3 m3 => (if List.length (C.elems (dk d3 3)) = List.length (C.elems (dk d3 3)) then (k3 [dk d2 0, dk d2 1, dk d2 2, C.int (IntKind.wrap IntKind.i64 (C.toInt (dk d2 4) + C.toInt (C.get (C.get (C.agg formsC) (Int.toNat (if errN (C.elems (dk d2 0)) (Int.toNat (C.toInt (dk d2 3))) = 0 then bN (C.elems (dk d2 0)) (Int.toNat (C.toInt (dk d2 3))) else 0))) 2))), C.int (if errN (C.elems (dk d2 0)) (Int.toNat (C.toInt (dk d2 3))) = 0 then (↑(Int.toNat (C.toInt (dk d2 3)) + 1 + moreN (bN (C.elems (dk d2 0)) (Int.toNat (C.toInt (dk d2 3))))) : Int) else 0), C.int (↑(Int.toNat (C.toInt (dk d3 0))) : Int), dk d3 1, dk d3 3] []) else none))) else none)))))) else none)) else none)) else none))
noncomputable def code_Run_p0 {R : Type} (N : Nat) (a0 a1 a2 : C) (k1 : KD R) : Option R := (jn (fun d1 m1 => (bif C.toBool (dk d1 3) then (k1 [C.int 0, C.int 0, C.int 1] []) else (loopK N (code_Run_l1 N k1) [dk d1 0, dk d1 1, dk d1 2, C.int 0, C.int 0, C.int 0, zeroC (Ty.int IntKind.i64), C.agg []] []))) (fun k2 => (bif decide (256 < (↑(List.length (C.elems a0)) : Int)) then (k2 [a0, a2, a1, C.bool true] []) else (bif decide (C.toInt a2 < 0) then (k2 [a0, a2, a1, C.bool true] []) else (k2 [a0, a2, a1, C.bool (decide (4096 < C.toInt a2))] [])))))
noncomputable def code_Run_p {R : Type} (N : Nat) : C → C → C → KD R → Option R := lid "code_Run_p N" (code_Run_p0 N)
theorem code_Run_pe {R : Type} (N : Nat) (a0 a1 a2 : C) (k : KD R) : code_Run_p N a0 a1 a2 k = code_Run_p0 N a0 a1 a2 k := by unfold code_Run_p; rw [lid_eq]
theorem code_Run_run {R : Type} (N : Nat) (a0 a1 a2 : C) (K : V → List (Key × O) → Option R) : exF (X0 gl0) ((code_Run_ov N).ov R) extX (fun f r => bif Nat.beq f 9 then (bif Nat.beq r 0 then [(4, 5)] else []) else []) (fun f => bif Nat.beq f 9 then code_Run_hs else []) N 400 8 9 [.d (.slice 1 (.int .u8)) a0, .d tWorld a1, .d (.int .i64) a2] A0 K =
    code_Run_p N a0 a1 a2 (fun d1 m1 => K (V.tup [V.d (Ty.int IntKind.u64) (dk d1 0), V.d (Ty.int IntKind.i64) (dk d1 1), V.d (Ty.int IntKind.i64) (dk d1 2)]) []) := by
  rw [code_Run_pe]
  exact (show _ = jn (fun d1 m1 => (K (V.tup [V.d (Ty.int IntKind.u64) (dk d1 0), V.d (Ty.int IntKind.i64) (dk d1 1), V.d (Ty.int IntKind.i64) (dk d1 2)]) [])) (code_Run_p0 N a0 a1 a2) by kernel_rfl).trans (jn_eq _ _)
noncomputable def code_Run_g (N : Nat) {R : Type} : OvG R := fun xs _ K => match xs with
  | [.d t0 a0, .d t1 a1, .d t2 a2] => if t0 = (.slice 1 (.int .u8)) ∧ t1 = tWorld ∧ t2 = (.int .i64) then code_Run_p N a0 a1 a2 (fun d1 m1 => K (V.tup [V.d (Ty.int IntKind.u64) (dk d1 0), V.d (Ty.int IntKind.i64) (dk d1 1), V.d (Ty.int IntKind.i64) (dk d1 2)]) []) else none
  | _ => none
theorem code_Run_ok (N : Nat) {R : Type} : GOk (X0 gl0) 9 (code_Run_g N (R := R)) := by
  intro xs A Kr r hr
  unfold code_Run_g at hr
  split at hr
  · simp only [Option.ite_none_right_eq_some] at hr
    obtain ⟨hty, hr⟩ := hr
    obtain ⟨rfl, rfl, rfl⟩ := hty
    rw [← code_Run_run] at hr
    obtain ⟨v, L, h1, h2⟩ := exF_ok (ok0 gl0) (mo gl0) ((code_Run_ov N).ov_ok _) (extX_ok gl0) _ _ _ _ _ _ hr
    exact ⟨v, L, h1.mono (leA_none fun _ => rfl), h2⟩
  · cases hr
end Go.Proofs.YthbdeooemkejmaaDoor


namespace Go.Proofs.YthbdeooemkejmaaDoor
open Go Go.E
set_option maxRecDepth 100000
set_option maxHeartbeats 4000000
set_option linter.unusedSimpArgs false
variable {R : Type} {N : Nat}
def addR (a b : Int) : Int × Int := if (a + b) / 18446744073709551616 = 0 then ((a + b) % 18446744073709551616, 0) else (0, 11)
def subR (a b : Int) : Int × Int := if a < b then (0, 12) else (IntKind.u64.wrap (a - b), 0)
theorem add_eq (a b : C) (k : KD R) : money_Add_p N a b k = k [.int (addR a.toInt b.toInt).1, .int (addR a.toInt b.toInt).2] [] := by
  rw [money_Add_pe]
  unfold money_Add_p0 addR
  by_cases h : (a.toInt + b.toInt) / 18446744073709551616 = 0 <;> simp [h]
theorem sub_eq (a b : C) (k : KD R) : money_Sub_p N a b k = k [.int (subR a.toInt b.toInt).1, .int (subR a.toInt b.toInt).2] [] := by
  rw [money_Sub_pe]
  unfold money_Sub_p0 subR
  by_cases h : a.toInt < b.toInt <;> simp [h]
theorem addR_ok {a b : Int} (h : 0 ≤ a) (h2 : 0 ≤ b) (h3 : a + b < 18446744073709551616) : addR a b = (a + b, 0) := by
  unfold addR
  rw [if_pos (by omega), Int.emod_eq_of_lt (by omega) (by omega)]
theorem addR_over {a b : Int} (h : 18446744073709551616 ≤ a + b) : addR a b = (0, 11) := by
  unfold addR
  rw [if_neg (by omega)]
end Go.Proofs.YthbdeooemkejmaaDoor


namespace Go.Proofs.YthbdeooemkejmaaDoor
open Go Go.E
set_option maxRecDepth 100000
set_option maxHeartbeats 4000000
set_option linter.unusedSimpArgs false
variable {R : Type} {N : Nat}
structure St where
  s : List Int
  e : Int
def oneI (b : Bool) : Int := if b = true then 1 else 0
def St.fail (x : St) (c : Int) : St := ⟨x.s, if x.e = 0 then c else x.e⟩
def St.pop (x : St) : Int × St := match x.s with
  | [] => (0, x.fail 12)
  | a :: r => (a, ⟨r, x.e⟩)
def St.push (x : St) (a : Int) : St := if 32 ≤ x.s.length then x.fail 4 else ⟨a :: x.s, x.e⟩
def St.push2 (x : St) (a b : Int) : St := if 32 ≤ x.s.length then x.fail 4 else (x.push a).push b
structure OkA (x : St) (arr : C) : Prop where
  le : x.s.length ≤ 32
  is : arr.elems.take x.s.length = x.s.reverse.map C.int
def St.pushA (x : St) (arr : C) (a : Int) : C := if 32 ≤ x.s.length then arr else .agg (arr.elems.take x.s.length ++ [.int a])
def St.push2A (x : St) (arr : C) (a b : Int) : C := if 32 ≤ x.s.length then arr else (x.push a).pushA (x.pushA arr a) b
section
variable {x : St} {arr : C}
theorem OkA.fail (h : OkA x arr) (c : Int) : OkA (x.fail c) arr := ⟨h.le, h.is⟩
theorem OkA.pop (h : OkA x arr) : OkA x.pop.2 arr := by
  obtain ⟨s, e⟩ := x
  cases s with
  | nil => exact ⟨h.le, h.is⟩
  | cons a r =>
    have h1 : r.length + 1 ≤ 32 := h.le
    have h2 : arr.elems.take (r.length + 1) = (a :: r).reverse.map C.int := h.is
    refine ⟨show r.length ≤ 32 by omega, show arr.elems.take r.length = r.reverse.map C.int from ?_⟩
    have h3 := congrArg (List.take r.length) h2
    rw [List.take_take, Nat.min_eq_left (Nat.le_succ _), List.reverse_cons, List.map_append, List.take_append_of_le_length (by rw [List.length_map, List.length_reverse]; exact Nat.le_refl _), List.take_of_length_le (l := List.map C.int r.reverse) (by simp)] at h3
    exact h3
theorem OkA.len (h : OkA x arr) : x.s.length ≤ arr.elems.length := by
  have := congrArg List.length h.is
  simp at this
  omega
theorem OkA.top {a : Int} {r : List Int} {e : Int} (h : OkA ⟨a :: r, e⟩ arr) : arr.get r.length = .int a := by
  have h2 : arr.elems.take (r.length + 1) = (a :: r).reverse.map C.int := h.is
  have h3 := congrArg (fun l => l[r.length]?) h2
  simp only [List.getElem?_take, Nat.lt_succ_self, if_true, List.reverse_cons, List.map_append] at h3
  rw [List.getElem?_append_right (by simp)] at h3
  have h4 : arr.elems[r.length]? = some (.int a) := by simpa using h3
  cases arr <;> simp only [C.elems, List.getElem?_nil, reduceCtorEq] at h4 <;> simp [C.get, h4]
theorem OkA.push (h : OkA x arr) (a : Int) : OkA (x.push a) (x.pushA arr a) := by
  unfold St.push St.pushA
  by_cases h1 : 32 ≤ x.s.length
  · simp only [h1, if_true]; exact h.fail 4
  · simp only [h1, if_false]
    refine ⟨show x.s.length + 1 ≤ 32 by omega, ?_⟩
    show List.take (x.s.length + 1) (arr.elems.take x.s.length ++ [C.int a]) = (a :: x.s).reverse.map C.int
    rw [h.is, List.take_of_length_le (by simp), List.reverse_cons, List.map_append]
    rfl
theorem OkA.push2 (h : OkA x arr) (a b : Int) : OkA (x.push2 a b) (x.push2A arr a b) := by
  unfold St.push2 St.push2A
  by_cases h1 : 32 ≤ x.s.length
  · simp only [h1, if_true]; exact h.fail 4
  · simp only [h1, if_false]; exact (h.push a).push b
theorem fail_st (c : Int) (k : KD R) : code_stack_fail_p N (.int c) (.int x.s.length) (.int x.e) arr k = k [.int (x.fail c).s.length, .int (x.fail c).e, .int arr.elems.length, arr] [] := by
  rw [code_stack_fail_pe]
  unfold code_stack_fail_p0 St.fail
  simp only [go_sem, c_int, c_bool, Int.toNat_natCast, if_true]
  by_cases h : x.e = 0 <;> simp [h]
theorem pop_st (h : OkA x arr) (k : KD R) : code_stack_pop_p N (.int x.s.length) (.int x.e) arr k = k [.int x.pop.1, .int x.pop.2.s.length, .int x.pop.2.e, .int arr.elems.length, arr] [] := by
  obtain ⟨s, e⟩ := x
  cases s with
  | nil =>
    rw [code_stack_pop_pe]
    unfold code_stack_pop_p0
    have := fail_st (R := R) (N := N) (x := ⟨[], e⟩) (arr := arr) 12
    simp only [List.length_nil] at this ⊢
    simp only [go_sem, c_int, c_bool, Int.toNat_natCast, if_true]
    exact (this _).trans rfl
  | cons a r =>
    have hn : r.length + 1 ≤ 32 := h.le
    have hw : IntKind.wrap .i64 (((r.length + 1 : Nat) : Int) - 1) = r.length := by
      rw [IntWalk.i64_in _ (by omega)]; omega
    rw [code_stack_pop_pe]
    unfold code_stack_pop_p0
    simp only [List.length_cons, go_sem, c_int, c_bool, Int.toNat_natCast, if_true, hw]
    have h0 : ¬ (((r.length + 1 : Nat) : Int) = 0) := by omega
    have h1 : (0 : Int) ≤ (r.length : Int) ∧ (r.length : Int) < ((r.length + 1 : Nat) : Int) := ⟨by omega, by omega⟩
    have h2 : (0 : Int) ≤ 0 ∧ (0 : Int) ≤ (r.length : Int) ∧ (r.length : Int) ≤ ((r.length + 1 : Nat) : Int) := ⟨by decide, by omega, by omega⟩
    simp only [h0, decide_false, cond_false, if_pos h1, if_pos h2, Nat.zero_add, Int.sub_zero, Int.toNat_natCast, h.top]
    rfl
theorem push_st (h : OkA x arr) (a : Int) (hN : 4 < N) (k : KD R) : code_stack_push_p N (.slice [.int a]) (.int x.s.length) (.int x.e) arr k = k [.int (x.push a).s.length, .int (x.push a).e, .int arr.elems.length, x.pushA arr a] [] := by
  obtain ⟨M, rfl⟩ : ∃ M, N = M + 3 := ⟨N - 3, by omega⟩
  rw [code_stack_push_pe]
  unfold code_stack_push_p0
  simp only [go_sem, loopK_succ, code_stack_push_l1, c_int, c_bool, c_slice, Int.toNat_natCast, if_true, List.length_cons, List.length_nil, Nat.zero_add]
  have hl := h.len
  have h32 := h.le
  have e1 : IntKind.i64.wrap ((0 : Int) + 1) = 1 := by decide
  have e2 : ((0 : Int) < ((1 : Nat) : Int)) = True := by simp
  have e3 : (((1 : Nat) : Int) < ((1 : Nat) : Int)) = False := by simp
  by_cases h1 : 32 ≤ x.s.length
  · have h1' : (32 : Int) ≤ (x.s.length : Int) := by omega
    simp only [h1', fail_st, go_sem, c_int, decide_true, if_true]
    simp [St.push, St.pushA, h1]
  · have h1' : ¬ (32 : Int) ≤ (x.s.length : Int) := by omega
    have h2 : x.s.length + 1 = (List.take x.s.length arr.elems ++ [C.int a]).length := by simp; omega
    have h3 : (x.s.length + 1) * 8 ≤ 140737488355328 ∧ x.s.length + 1 ≤ 9223372036854775807 := by omega
    simp only [h1', go_sem, c_int, e1, List.getD_cons_zero, ← h2, h3]
    simp [St.push, St.pushA, h1]
theorem push2_st (h : OkA x arr) (a b : Int) (hN : 4 < N) (k : KD R) : code_stack_push_p N (.slice [.int a, .int b]) (.int x.s.length) (.int x.e) arr k = k [.int (x.push2 a b).s.length, .int (x.push2 a b).e, .int arr.elems.length, x.push2A arr a b] [] := by
  obtain ⟨M, rfl⟩ : ∃ M, N = M + 3 := ⟨N - 3, by omega⟩
  rw [code_stack_push_pe]
  unfold code_stack_push_p0
  simp only [go_sem, loopK_succ, code_stack_push_l1, c_int, c_bool, c_slice, Int.toNat_natCast, if_true, List.length_cons, List.length_nil, Nat.zero_add]
  have hl := h.len
  have h32 := h.le
  have e1 : IntKind.i64.wrap ((0 : Int) + 1) = 1 := by decide
  have e2 : IntKind.i64.wrap ((1 : Int) + 1) = 2 := by decide
  by_cases h1 : 32 ≤ x.s.length
  · have h1' : (32 : Int) ≤ (x.s.length : Int) := by omega
    simp only [h1', fail_st, go_sem, c_int, decide_true, if_true]
    simp [St.push2, St.push2A, h1]
  · have h1' : ¬ (32 : Int) ≤ (x.s.length : Int) := by omega
    have h2 : x.s.length + 1 = (List.take x.s.length arr.elems ++ [C.int a]).length := by simp; omega
    have h3 : (x.s.length + 1) * 8 ≤ 140737488355328 ∧ x.s.length + 1 ≤ 9223372036854775807 := by omega
    have hx : x.push a = ⟨a :: x.s, x.e⟩ := if_neg h1
    have hA : x.pushA arr a = .agg (arr.elems.take x.s.length ++ [.int a]) := if_neg h1
    simp only [h1', go_sem, c_int, e1, e2, List.getD_cons_zero, List.getD_cons_succ, ← h2, h3]
    by_cases h4 : 32 ≤ x.s.length + 1
    · have h4' : (32 : Int) ≤ ((x.s.length + 1 : Nat) : Int) := by omega
      have := fail_st (R := R) (N := M + 3) (x := x.push a) (arr := x.pushA arr a) 4
      rw [hx, hA] at this
      simp only [List.length_cons] at this
      simp only [h4', go_sem, c_int, this]
      simp [St.push2, St.push2A, h1, hx, hA, St.push, St.pushA, h4]
    · have h4' : ¬ (32 : Int) ≤ ((x.s.length + 1 : Nat) : Int) := by omega
      have h5 : (x.s.length + 1 + 1) * 8 ≤ 140737488355328 ∧ x.s.length + 1 + 1 ≤ 9223372036854775807 := by omega
      have h6 : List.take (x.s.length + 1) (List.take x.s.length arr.elems ++ [C.int a]) = List.take x.s.length arr.elems ++ [C.int a] := List.take_of_length_le (by omega)
      have h7 : x.s.length + 1 + 1 = (List.take x.s.length arr.elems ++ [C.int a] ++ [C.int b]).length := by simp; omega
      simp only [h4', go_sem, c_int, c_agg, h5, h6, ← h7]
      simp [St.push2, St.push2A, h1, hx, hA, St.push, St.pushA, h4]
      rw [c_agg, h6, List.append_assoc]
      rfl
theorem bool_st (h : OkA x arr) (c : C) (hN : 4 < N) (k : KD R) : code_stack_bool_p N c (.int x.s.length) (.int x.e) arr k = k [.int (x.push (oneI c.toBool)).s.length, .int (x.push (oneI c.toBool)).e, .int arr.elems.length, x.pushA arr (oneI c.toBool)] [] := by
  rw [code_stack_bool_pe]
  unfold code_stack_bool_p0
  cases hc : c.toBool <;> simp only [go_sem, c_int, Int.toNat_natCast, if_true, cond_true, cond_false, push_st h _ hN] <;> first | done | rfl
end
def St.put (x : St) (r : Int × Int) : St := if r.2 = 0 then x.push r.1 else x.fail r.2
def hiM (a b : Int) : Int :=
    (IntKind.wrap IntKind.u64
      (IntKind.wrap IntKind.u64
          (IntKind.wrap IntKind.u64
              (Int.fdiv (a) (2 ^ min (Int.toNat 32) 64) * Int.fdiv (b) (2 ^ min (Int.toNat 32) 64)) +
            Int.fdiv
              (IntKind.wrap IntKind.u64
                (IntKind.wrap IntKind.u64
                    (Int.fdiv (a) (2 ^ min (Int.toNat 32) 64) *
                      bitsC BinOp.and IntKind.u64 (b) 4294967295) +
                  Int.fdiv
                    (IntKind.wrap IntKind.u64
                      (bitsC BinOp.and IntKind.u64 (a) 4294967295 *
                        bitsC BinOp.and IntKind.u64 (b) 4294967295))
                    (2 ^ min (Int.toNat 32) 64)))
              (2 ^ min (Int.toNat 32) 64)) +
        Int.fdiv
          (IntKind.wrap IntKind.u64
            (bitsC BinOp.and IntKind.u64
                (IntKind.wrap IntKind.u64
                  (IntKind.wrap IntKind.u64
                      (Int.fdiv (a) (2 ^ min (Int.toNat 32) 64) *
                        bitsC BinOp.and IntKind.u64 (b) 4294967295) +
                    Int.fdiv
                      (IntKind.wrap IntKind.u64
                        (bitsC BinOp.and IntKind.u64 (a) 4294967295 *
                          bitsC BinOp.and IntKind.u64 (b) 4294967295))
                      (2 ^ min (Int.toNat 32) 64)))
                4294967295 +
              IntKind.wrap IntKind.u64
                (bitsC BinOp.and IntKind.u64 (a) 4294967295 *
                  Int.fdiv (b) (2 ^ min (Int.toNat 32) 64))))
          (2 ^ min (Int.toNat 32) 64)))
def mulR (a b : Int) : Int × Int := if hiM a b = 0 then (IntKind.u64.wrap (a * b), 0) else (0, 11)
def St.reck (x : St) (f : Int → Int → Int × Int) : St := if x.pop.2.pop.2.e = 0 then x.pop.2.pop.2.put (f x.pop.2.pop.1 x.pop.1) else x.pop.2.pop.2
def plainS (w : C) (op : Nat) (arg : Int) (x : St) : St := match op with
  | 1 => x.push arg
  | 2 => if arg < ((w.get 0).elems.length : Int) then x.push ((w.get 0).elems.getD arg.toNat .nil).toInt else x.fail 1
  | 3 => x.reck addR
  | 4 => x.reck subR
  | 5 => x.reck mulR
  | 6 => x.pop.2.pop.2.push (oneI (decide (x.pop.2.pop.1 < x.pop.1)))
  | 7 => x.pop.2.pop.2.push (oneI (decide (x.pop.2.pop.1 = x.pop.1)))
  | 8 => x.pop.2.push (oneI (decide (x.pop.1 = 0)))
  | 9 => x.pop.2.pop.2.push (oneI (!decide (x.pop.2.pop.1 = 0) && !decide (x.pop.1 = 0)))
  | 10 => x.pop.2.pop.2.push (oneI (!decide (x.pop.2.pop.1 = 0) || !decide (x.pop.1 = 0)))
  | 13 => x.pop.2.push2 x.pop.1 x.pop.1
  | 14 => x.pop.2.pop.2.push2 x.pop.1 x.pop.2.pop.1
  | 15 => x.pop.2
  | 16 => if arg < ((w.get 1).elems.length : Int) then x.push (oneI ((w.get 1).elems.getD arg.toNat .nil).toBool) else x.fail 1
  | 17 => x.push (w.get 2).toInt
  | _ => x
structure WOk (w : C) : Prop where
  f : ∀ c ∈ (w.get 0).elems, c = .int c.toInt
  l0 : (w.get 0).elems.length < 4611686018427387904
  l1 : (w.get 1).elems.length < 4611686018427387904
  h : w.get 2 = .int (w.get 2).toInt

theorem mul_eq (a b : Int) (k : KD R) : money_Mul_p N (.int a) (.int b) k = k [.int (mulR a b).1, .int (mulR a b).2] [] := by
  have h1 : ∀ k : KD R, math_bits_Mul64_p N (.int a) (.int b) k = k [.int (hiM a b), .int (IntKind.u64.wrap (a * b))] [] := fun k => by
    rw [math_bits_Mul64_pe]; rfl
  rw [money_Mul_pe]
  unfold money_Mul_p0 mulR
  rw [h1]
  simp only [go_sem, c_int]
  by_cases h : hiM a b = 0 <;> simp [h]
theorem plain_st {w : C} (hw : WOk w) {x : St} {arr : C} (h : OkA x arr) (hN : 4 < N) (op : Nat) (hop : op ≤ 17) (arg : Int) (ha : 0 ≤ arg) : ∃ arr', OkA (plainS w op arg x) arr' ∧ ∀ {R : Type} (k : KD R),
    code_World_plain_p N w (.int op) (.int arg) (.int x.s.length) (.int x.e) arr k = k [.int (plainS w op arg x).s.length, .int (plainS w op arg x).e, .int arr.elems.length, arr'] [] := by
  have c : op = 0 ∨ op = 1 ∨ op = 2 ∨ op = 3 ∨ op = 4 ∨ op = 5 ∨ op = 6 ∨ op = 7 ∨ op = 8 ∨ op = 9 ∨ op = 10 ∨ op = 11 ∨ op = 12 ∨ op = 13 ∨ op = 14 ∨ op = 15 ∨ op = 16 ∨ op = 17 := by omega
  have hp := h.pop
  have hpp := hp.pop
  have red : ∀ b : Prop, [Decidable b] → (if b then true else false) = decide b := fun b _ => by by_cases h : b <;> simp [h]
  have m1 : IntKind.u64.min = 0 := by decide
  have m2 : IntKind.u64.max = 18446744073709551615 := by decide
  have ofl : ∀ n : Nat, n < 4611686018427387904 → IntKind.u64.wrap (n : Int) = n := fun n hn => wrap_id (by omega) (by omega)
  have go : ∀ (x' : St) (arr' : C), OkA x' arr' → (∀ {R : Type} (k : KD R), code_World_plain_p0 N w (.int op) (.int arg) (.int x.s.length) (.int x.e) arr k = k [.int x'.s.length, .int x'.e, .int arr.elems.length, arr'] []) → x' = plainS w op arg x → ∃ arr', OkA (plainS w op arg x) arr' ∧ ∀ {R : Type} (k : KD R),
    code_World_plain_p N w (.int op) (.int arg) (.int x.s.length) (.int x.e) arr k = k [.int (plainS w op arg x).s.length, .int (plainS w op arg x).e, .int arr.elems.length, arr'] [] := by
    rintro x' arr' h1 h2 rfl
    exact ⟨arr', h1, fun k => by rw [code_World_plain_pe]; exact h2 k⟩
  have reck : ∀ (f : Int → Int → Int × Int), plainS w op arg x = x.reck f → (∀ {R : Type} (k : KD R), code_World_plain_p0 N w (.int op) (.int arg) (.int x.s.length) (.int x.e) arr k =
      if x.pop.2.pop.2.e = 0 then (if (f x.pop.2.pop.1 x.pop.1).2 = 0 then k [.int (x.pop.2.pop.2.push (f x.pop.2.pop.1 x.pop.1).1).s.length, .int (x.pop.2.pop.2.push (f x.pop.2.pop.1 x.pop.1).1).e, .int arr.elems.length, x.pop.2.pop.2.pushA arr (f x.pop.2.pop.1 x.pop.1).1] []
        else k [.int (x.pop.2.pop.2.fail (f x.pop.2.pop.1 x.pop.1).2).s.length, .int (x.pop.2.pop.2.fail (f x.pop.2.pop.1 x.pop.1).2).e, .int arr.elems.length, arr] [])
      else k [.int x.pop.2.pop.2.s.length, .int x.pop.2.pop.2.e, .int arr.elems.length, arr] []) → ∃ arr', OkA (plainS w op arg x) arr' ∧ ∀ {R : Type} (k : KD R),
    code_World_plain_p N w (.int op) (.int arg) (.int x.s.length) (.int x.e) arr k = k [.int (plainS w op arg x).s.length, .int (plainS w op arg x).e, .int arr.elems.length, arr'] [] := by
    intro f hf hk
    by_cases h1 : x.pop.2.pop.2.e = 0
    · by_cases h2 : (f x.pop.2.pop.1 x.pop.1).2 = 0
      · refine go _ _ (hpp.push (f x.pop.2.pop.1 x.pop.1).1) (fun k => ?_) ?_
        · rw [hk, if_pos h1, if_pos h2]
        · rw [hf]; simp [St.reck, St.put, h1, h2]
      · refine go _ _ (hpp.fail (f x.pop.2.pop.1 x.pop.1).2) (fun k => ?_) ?_
        · rw [hk, if_pos h1, if_neg h2]
        · rw [hf]; simp [St.reck, St.put, h1, h2]
    · refine go _ _ hpp (fun k => ?_) ?_
      · rw [hk, if_neg h1]
      · rw [hf]; simp [St.reck, h1]
  rcases c with rfl | rfl | rfl | rfl | rfl | rfl | rfl | rfl | rfl | rfl | rfl | rfl | rfl | rfl | rfl | rfl | rfl | rfl
  case inr.inl =>   -- push
    refine go _ _ (h.push arg) (fun k => ?_) rfl
    unfold code_World_plain_p0
    simp only [go_sem, c_int, Int.toNat_natCast, if_true, push_st h _ hN, Int.reduceEq, reduceIte]
  case inr.inr.inl =>   -- load
    by_cases hlt : arg < ((w.get 0).elems.length : Int)
    · have hlt' : ¬ ((w.get 0).elems.length : Int) ≤ arg := by omega
      have hget : (w.get 0).elems.getD arg.toNat .nil = .int ((w.get 0).elems.getD arg.toNat .nil).toInt := by
        refine hw.f _ ?_
        rw [List.getD_eq_getElem?_getD, List.getElem?_eq_getElem (by omega)]
        exact List.getElem_mem _
      refine go _ _ (h.push ((w.get 0).elems.getD arg.toNat .nil).toInt) (fun k => ?_) (by simp only [plainS, hlt, if_true])
      unfold code_World_plain_p0
      simp only [go_sem, c_int, Int.toNat_natCast, if_true, ofl _ hw.l0, hlt', hlt, ha, and_self, Int.reduceEq, reduceIte]
      rw [hget, push_st h _ hN]
      simp only [go_sem, c_int, Int.toNat_natCast, if_true]
    · have hlt' : ((w.get 0).elems.length : Int) ≤ arg := by omega
      refine go _ _ (h.fail 1) (fun k => ?_) (by simp only [plainS, hlt, if_false])
      unfold code_World_plain_p0
      simp only [go_sem, c_int, Int.toNat_natCast, if_true, ofl _ hw.l0, hlt', fail_st, Int.reduceEq, reduceIte]
  case inr.inr.inr.inl =>   -- add
    refine reck addR rfl fun k => ?_
    unfold code_World_plain_p0
    simp only [go_sem, c_int, Int.toNat_natCast, if_true, pop_st h, pop_st hp, add_eq, push_st hpp _ hN, fail_st, Int.reduceEq, reduceIte]
    by_cases h1 : x.pop.2.pop.2.e = 0 <;> by_cases h2 : (addR x.pop.2.pop.1 x.pop.1).2 = 0 <;> simp [h1, h2]
  case inr.inr.inr.inr.inl =>   -- sub
    refine reck subR rfl fun k => ?_
    unfold code_World_plain_p0
    simp only [go_sem, c_int, Int.toNat_natCast, if_true, pop_st h, pop_st hp, sub_eq, push_st hpp _ hN, fail_st, Int.reduceEq, reduceIte]
    by_cases h1 : x.pop.2.pop.2.e = 0 <;> by_cases h2 : (subR x.pop.2.pop.1 x.pop.1).2 = 0 <;> simp [h1, h2]
  case inr.inr.inr.inr.inr.inl =>   -- mul
    refine reck mulR rfl fun k => ?_
    unfold code_World_plain_p0
    simp only [go_sem, c_int, Int.toNat_natCast, if_true, pop_st h, pop_st hp, mul_eq, push_st hpp _ hN, fail_st, Int.reduceEq, reduceIte]
    by_cases h1 : x.pop.2.pop.2.e = 0 <;> by_cases h2 : (mulR x.pop.2.pop.1 x.pop.1).2 = 0 <;> simp [h1, h2]
  all_goals try (   -- those that can't fail of themselves
    first
    | (refine go _ _ (hpp.push _) (fun k => ?_) rfl
       unfold code_World_plain_p0
       simp only [go_sem, c_int, c_bool, Int.toNat_natCast, if_true, pop_st h, pop_st hp, bool_st hpp _ hN, Int.reduceEq, reduceIte]
       first | done | rfl)
    | (refine go _ _ (hp.push _) (fun k => ?_) rfl
       unfold code_World_plain_p0
       simp only [go_sem, c_int, c_bool, Int.toNat_natCast, if_true, pop_st h, bool_st hp _ hN, Int.reduceEq, reduceIte]
       first | done | rfl)
    | (refine go _ _ (hp.push2 _ _) (fun k => ?_) rfl
       unfold code_World_plain_p0
       simp only [go_sem, c_int, Int.toNat_natCast, if_true, pop_st h, push2_st hp _ _ hN, Int.reduceEq, reduceIte]
       first | done | rfl)
    | (refine go _ _ (hpp.push2 _ _) (fun k => ?_) rfl
       unfold code_World_plain_p0
       simp only [go_sem, c_int, Int.toNat_natCast, if_true, pop_st h, pop_st hp, push2_st hpp _ _ hN, Int.reduceEq, reduceIte]
       first | done | rfl)
    | (refine go _ _ hp (fun k => ?_) rfl
       unfold code_World_plain_p0
       simp only [go_sem, c_int, Int.toNat_natCast, if_true, pop_st h, Int.reduceEq, reduceIte]
       first | done | rfl)
    | (refine go _ _ h (fun k => ?_) rfl
       unfold code_World_plain_p0
       simp only [go_sem, c_int, Int.toNat_natCast, if_true, Int.reduceEq, reduceIte]
       first | done | rfl))
  · by_cases h1 : x.pop.2.pop.1 = 0
    · refine go _ _ (hpp.push (oneI false)) (fun k => ?_) (by simp [plainS, h1])
      unfold code_World_plain_p0
      simp only [go_sem, c_int, c_bool, Int.toNat_natCast, if_true, pop_st h, pop_st hp, h1, decide_true, Bool.not_true, cond_false, bool_st hpp _ hN, Int.reduceEq, reduceIte]
      first | done | rfl
    · refine go _ _ (hpp.push (oneI (!decide (x.pop.1 = 0)))) (fun k => ?_) (by simp [plainS, h1])
      unfold code_World_plain_p0
      simp only [go_sem, c_int, c_bool, Int.toNat_natCast, if_true, pop_st h, pop_st hp, h1, decide_false, Bool.not_false, cond_true, bool_st hpp _ hN, Int.reduceEq, reduceIte]
      first | done | rfl
  · by_cases h1 : x.pop.2.pop.1 = 0
    · refine go _ _ (hpp.push (oneI (!decide (x.pop.1 = 0)))) (fun k => ?_) (by simp [plainS, h1])
      unfold code_World_plain_p0
      simp only [go_sem, c_int, c_bool, Int.toNat_natCast, if_true, pop_st h, pop_st hp, h1, decide_true, Bool.not_true, cond_false, bool_st hpp _ hN, Int.reduceEq, reduceIte]
      first | done | rfl
    · refine go _ _ (hpp.push (oneI true)) (fun k => ?_) (by simp [plainS, h1])
      unfold code_World_plain_p0
      simp only [go_sem, c_int, c_bool, Int.toNat_natCast, if_true, pop_st h, pop_st hp, h1, decide_false, Bool.not_false, cond_true, bool_st hpp _ hN, Int.reduceEq, reduceIte]
      first | done | rfl
  · by_cases hlt : arg < ((w.get 1).elems.length : Int)
    · have hlt' : ¬ ((w.get 1).elems.length : Int) ≤ arg := by omega
      refine go _ _ (h.push (oneI ((w.get 1).elems.getD arg.toNat .nil).toBool)) (fun k => ?_) (by simp only [plainS, hlt, if_true])
      unfold code_World_plain_p0
      simp only [go_sem, c_int, Int.toNat_natCast, if_true, ofl _ hw.l1, hlt', hlt, ha, and_self, bool_st h _ hN, Int.reduceEq, reduceIte]
      first | done | rfl
    · have hlt' : ((w.get 1).elems.length : Int) ≤ arg := by omega
      refine go _ _ (h.fail 1) (fun k => ?_) (by simp only [plainS, hlt, if_false])
      unfold code_World_plain_p0
      simp only [go_sem, c_int, Int.toNat_natCast, if_true, ofl _ hw.l1, hlt', fail_st, Int.reduceEq, reduceIte]
  · refine go _ _ (h.push (w.get 2).toInt) (fun k => ?_) rfl
    unfold code_World_plain_p0
    simp only [go_sem, c_int, Int.toNat_natCast, if_true, Int.reduceEq, reduceIte]
    rw [hw.h, push_st h _ hN]
    simp only [go_sem, c_int, Int.toNat_natCast, if_true]
end Go.Proofs.YthbdeooemkejmaaDoor


namespace Go.Proofs.YthbdeooemkejmaaDoor
open Go Go.E
set_option maxRecDepth 100000
set_option maxHeartbeats 4000000
set_option linter.unusedVariables false
noncomputable def ref02_Wide_hs : Hints := [([1, 0, 1, 1, 1, 1], ⟨[4, 5], [], [], [], [], []⟩),
    ([4, 1, 0, 1, 1, 1, 1], ⟨[4, 5, 6, 7], [(8, .d (.int .i64))], [], [], [], []⟩),
    ([1, 0, 1, 4, 0, 1, 5, 4, 1, 0, 1, 1, 1, 1], ⟨[4, 5, 6, 7, 8], [(9, .d (.int .u64))], [], [], [], []⟩),
    ([4, 1, 0, 1, 4, 0, 1, 5, 4, 1, 0, 1, 1, 1, 1], ⟨[4, 5, 6, 7, 8], [(9, .d (.int .u64)), (10, .d (.int .i64))], [], [], [], []⟩),
    ([9], ⟨[], [(4, .as (.ptr (.l 4) [] (.arr 4 (.int .u64))))], [], [(.l 4, .box (.d (.arr 4 (.int .u64))))], [], []⟩)]
noncomputable def ref02_Wide_ov (N : Nat) : OvS (X0 gl0) where
  g R := []
  ok := fun R => fun _ h => nomatch h
noncomputable def ref02_Wide_l1 {R : Type} (N : Nat) (k4 : KD R) : KD R → List C → List Es → Option R := (fun k5 d2 m2 => (bif decide (C.toInt (dk d2 4) < 2) then (if 0 ≤ IntKind.wrap IntKind.i64 (C.toInt (dk d2 2) + C.toInt (dk d2 4)) ∧ IntKind.wrap IntKind.i64 (C.toInt (dk d2 2) + C.toInt (dk d2 4)) < 4 then (if 0 ≤ C.toInt (dk d2 2) ∧ C.toInt (dk d2 2) < 2 then (if 0 ≤ C.toInt (dk d2 4) ∧ C.toInt (dk d2 4) < 2 then (if 0 ≤ IntKind.wrap IntKind.i64 (C.toInt (dk d2 2) + C.toInt (dk d2 4)) ∧ IntKind.wrap IntKind.i64 (C.toInt (dk d2 2) + C.toInt (dk d2 4)) < 4 then (k5 [dk d2 0, dk d2 1, dk d2 2, C.int (IntKind.wrap IntKind.u64 (Int.tdiv (IntKind.wrap IntKind.u64 (IntKind.wrap IntKind.u64 (C.toInt (C.get (dk d2 6) (Int.toNat (IntKind.wrap IntKind.i64 (C.toInt (dk d2 2) + C.toInt (dk d2 4))))) + IntKind.wrap IntKind.u64 (C.toInt (C.get (dk d2 0) (Int.toNat (C.toInt (dk d2 2)))) * C.toInt (C.get (dk d2 1) (Int.toNat (C.toInt (dk d2 4)))))) + C.toInt (dk d2 3))) 4294967296)), C.int (IntKind.wrap IntKind.i64 (C.toInt (dk d2 4) + 1)), dk d2 5, C.set (dk d2 6) (Int.toNat (IntKind.wrap IntKind.i64 (C.toInt (dk d2 2) + C.toInt (dk d2 4)))) (C.int (Int.tmod (IntKind.wrap IntKind.u64 (IntKind.wrap IntKind.u64 (C.toInt (C.get (dk d2 6) (Int.toNat (IntKind.wrap IntKind.i64 (C.toInt (dk d2 2) + C.toInt (dk d2 4))))) + IntKind.wrap IntKind.u64 (C.toInt (C.get (dk d2 0) (Int.toNat (C.toInt (dk d2 2)))) * C.toInt (C.get (dk d2 1) (Int.toNat (C.toInt (dk d2 4)))))) + C.toInt (dk d2 3))) 4294967296))] []) else none) else none) else none) else none) else (k4 [dk d2 0, dk d2 1, dk d2 2, dk d2 3, dk d2 5, dk d2 6] [])))
noncomputable def ref02_Wide_l2 {R : Type} (N : Nat) (k2 : KD R) : KD R → List C → List Es → Option R := (fun k3 d1 m1 => (bif decide (C.toInt (dk d1 2) < 2) then (jn (fun d2 m2 => (if 0 ≤ IntKind.wrap IntKind.i64 (C.toInt (dk d2 2) + 2) ∧ IntKind.wrap IntKind.i64 (C.toInt (dk d2 2) + 2) < 4 then (if 0 ≤ IntKind.wrap IntKind.i64 (C.toInt (dk d2 2) + 2) ∧ IntKind.wrap IntKind.i64 (C.toInt (dk d2 2) + 2) < 4 then (k3 [dk d2 0, dk d2 1, C.int (IntKind.wrap IntKind.i64 (C.toInt (dk d2 2) + 1)), dk d2 4, C.set (dk d2 5) (Int.toNat (IntKind.wrap IntKind.i64 (C.toInt (dk d2 2) + 2))) (C.int (IntKind.wrap IntKind.u64 (C.toInt (C.get (dk d2 5) (Int.toNat (IntKind.wrap IntKind.i64 (C.toInt (dk d2 2) + 2)))) + C.toInt (dk d2 3))))] []) else none) else none)) (fun k4 => (loopK N (ref02_Wide_l1 N k4) [dk d1 0, dk d1 1, dk d1 2, C.int 0, C.int 0, dk d1 3, dk d1 4] []))) else (k2 [dk d1 3, dk d1 4] [])))
noncomputable def ref02_Wide_p0 {R : Type} (N : Nat) (a0 a1 : C) (k1 : KD R) : Option R := (jn (fun d1 m1 => (k1 [dk d1 1] [])) (fun k2 => (loopK N (ref02_Wide_l2 N k2) [C.set (C.set (zeroC (Ty.arr 2 (Ty.int IntKind.u64))) 0 (C.int (Int.tmod (C.toInt a0) 4294967296))) 1 (C.int (IntKind.wrap IntKind.u64 (Int.tdiv (C.toInt a0) 4294967296))), C.set (C.set (zeroC (Ty.arr 2 (Ty.int IntKind.u64))) 0 (C.int (Int.tmod (C.toInt a1) 4294967296))) 1 (C.int (IntKind.wrap IntKind.u64 (Int.tdiv (C.toInt a1) 4294967296))), C.int 0, zeroC (Ty.arr 4 (Ty.int IntKind.u64)), zeroC (Ty.arr 4 (Ty.int IntKind.u64))] [])))
noncomputable def ref02_Wide_p {R : Type} (N : Nat) : C → C → KD R → Option R := lid "ref02_Wide_p N" (ref02_Wide_p0 N)
theorem ref02_Wide_pe {R : Type} (N : Nat) (a0 a1 : C) (k : KD R) : ref02_Wide_p N a0 a1 k = ref02_Wide_p0 N a0 a1 k := by unfold ref02_Wide_p; rw [lid_eq]
theorem ref02_Wide_run {R : Type} (N : Nat) (a0 a1 : C) (K : V → List (Key × O) → Option R) : exF (X0 gl0) ((ref02_Wide_ov N).ov R) extX (fun f r => bif Nat.beq f 42 then (bif Nat.beq r 4 then [(6, 6), (7, 6)] else bif Nat.beq r 11 then [] else []) else []) (fun f => bif Nat.beq f 42 then ref02_Wide_hs else []) N 400 8 42 [.d (.int .u64) a0, .d (.int .u64) a1] A0 K =
    ref02_Wide_p N a0 a1 (fun d1 m1 => K (V.d (Ty.arr 4 (Ty.int IntKind.u64)) (dk d1 0)) []) := by
  rw [ref02_Wide_pe]
  exact (show _ = jn (fun d1 m1 => (K (V.d (Ty.arr 4 (Ty.int IntKind.u64)) (dk d1 0)) [])) (ref02_Wide_p0 N a0 a1) by kernel_rfl).trans (jn_eq _ _)
noncomputable def ref02_Wide_g (N : Nat) {R : Type} : OvG R := fun xs _ K => match xs with
  | [.d t0 a0, .d t1 a1] => if t0 = (.int .u64) ∧ t1 = (.int .u64) then ref02_Wide_p N a0 a1 (fun d1 m1 => K (V.d (Ty.arr 4 (Ty.int IntKind.u64)) (dk d1 0)) []) else none
  | _ => none
theorem ref02_Wide_ok (N : Nat) {R : Type} : GOk (X0 gl0) 42 (ref02_Wide_g N (R := R)) := by
  intro xs A Kr r hr
  unfold ref02_Wide_g at hr
  split at hr
  · simp only [Option.ite_none_right_eq_some] at hr
    obtain ⟨hty, hr⟩ := hr
    obtain ⟨rfl, rfl⟩ := hty
    rw [← ref02_Wide_run] at hr
    obtain ⟨v, L, h1, h2⟩ := exF_ok (ok0 gl0) (mo gl0) ((ref02_Wide_ov N).ov_ok _) (extX_ok gl0) _ _ _ _ _ _ hr
    exact ⟨v, L, h1.mono (leA_none fun _ => rfl), h2⟩
  · cases hr
end Go.Proofs.YthbdeooemkejmaaDoor


namespace Go.Proofs.YthbdeooemkejmaaDoor
open Go Go.E
set_option maxRecDepth 100000
set_option maxHeartbeats 4000000
set_option linter.unusedVariables false
noncomputable def ref02_Mul_hs : Hints := [([0, 0, 1, 1], ⟨[6], [(17, .d .bool)], [], [], [], []⟩),
    ([9], ⟨[], [(4, .d (.int .u64)), (5, .d (.int .i64))], [], [], [], []⟩)]
noncomputable def ref02_Mul_ov (N : Nat) : OvS (X0 gl0) where
  g R := [(42, ref02_Wide_g N)]
  ok := fun R => List.forall_mem_cons.2 ⟨ref02_Wide_ok N, fun _ h => nomatch h⟩
noncomputable def ref02_Mul_p0 {R : Type} (N : Nat) (a0 a1 : C) (k1 : KD R) : Option R := (ref02_Wide_p N a0 a1 (fun d1 m1 => (jn (fun d2 m2 => (bif C.toBool (dk d2 0) then (k1 [C.int 0, C.int 11] []) else (k1 [C.int (IntKind.wrap IntKind.u64 (IntKind.wrap IntKind.u64 (C.toInt (C.get (dk d2 1) (Int.toNat 1)) * 4294967296) + C.toInt (C.get (dk d2 1) (Int.toNat 0)))), C.int 0] []))) (fun k2 => (bif !decide (C.toInt (C.get (dk d1 0) (Int.toNat 2)) = 0) then (k2 [C.bool true, dk d1 0] []) else (k2 [C.bool !decide (C.toInt (C.get (dk d1 0) (Int.toNat 3)) = 0), dk d1 0] []))))))
noncomputable def ref02_Mul_p {R : Type} (N : Nat) : C → C → KD R → Option R := lid "ref02_Mul_p N" (ref02_Mul_p0 N)
theorem ref02_Mul_pe {R : Type} (N : Nat) (a0 a1 : C) (k : KD R) : ref02_Mul_p N a0 a1 k = ref02_Mul_p0 N a0 a1 k := by unfold ref02_Mul_p; rw [lid_eq]
theorem ref02_Mul_run {R : Type} (N : Nat) (a0 a1 : C) (K : V → List (Key × O) → Option R) : exF (X0 gl0) ((ref02_Mul_ov N).ov R) extX noX (fun f => bif Nat.beq f 33 then ref02_Mul_hs else []) N 400 8 33 [.d (.int .u64) a0, .d (.int .u64) a1] A0 K =
    ref02_Mul_p N a0 a1 (fun d1 m1 => K (V.tup [V.d (Ty.int IntKind.u64) (dk d1 0), V.d (Ty.int IntKind.i64) (dk d1 1)]) []) := by
  rw [ref02_Mul_pe]
  exact (show _ = jn (fun d1 m1 => (K (V.tup [V.d (Ty.int IntKind.u64) (dk d1 0), V.d (Ty.int IntKind.i64) (dk d1 1)]) [])) (ref02_Mul_p0 N a0 a1) by kernel_rfl).trans (jn_eq _ _)
noncomputable def ref02_Mul_g (N : Nat) {R : Type} : OvG R := fun xs _ K => match xs with
  | [.d t0 a0, .d t1 a1] => if t0 = (.int .u64) ∧ t1 = (.int .u64) then ref02_Mul_p N a0 a1 (fun d1 m1 => K (V.tup [V.d (Ty.int IntKind.u64) (dk d1 0), V.d (Ty.int IntKind.i64) (dk d1 1)]) []) else none
  | _ => none
theorem ref02_Mul_ok (N : Nat) {R : Type} : GOk (X0 gl0) 33 (ref02_Mul_g N (R := R)) := by
  intro xs A Kr r hr
  unfold ref02_Mul_g at hr
  split at hr
  · simp only [Option.ite_none_right_eq_some] at hr
    obtain ⟨hty, hr⟩ := hr
    obtain ⟨rfl, rfl⟩ := hty
    rw [← ref02_Mul_run] at hr
    obtain ⟨v, L, h1, h2⟩ := exF_ok (ok0 gl0) (mo gl0) ((ref02_Mul_ov N).ov_ok _) (extX_ok gl0) _ _ _ _ _ _ hr
    exact ⟨v, L, h1.mono (leA_none fun _ => rfl), h2⟩
  · cases hr
end Go.Proofs.YthbdeooemkejmaaDoor


namespace Go.Proofs.YthbdeooemkejmaaDoor
open Go Go.E
set_option maxRecDepth 100000
set_option maxHeartbeats 4000000
set_option linter.unusedVariables false
noncomputable def ref02_Add_hs : Hints := [([9], ⟨[], [(4, .d (.int .u64)), (5, .d (.int .i64))], [], [], [], []⟩)]
noncomputable def ref02_Add_ov (N : Nat) : OvS (X0 gl0) where
  g R := []
  ok := fun R => fun _ h => nomatch h
noncomputable def ref02_Add_p0 {R : Type} (N : Nat) (a0 a1 : C) (k1 : KD R) : Option R := (bif decide (IntKind.wrap IntKind.u64 (18446744073709551615 - C.toInt a0) < C.toInt a1) then (k1 [C.int 0, C.int 11] []) else (k1 [C.int (IntKind.wrap IntKind.u64 (C.toInt a0 + C.toInt a1)), C.int 0] []))
noncomputable def ref02_Add_p {R : Type} (N : Nat) : C → C → KD R → Option R := lid "ref02_Add_p N" (ref02_Add_p0 N)
theorem ref02_Add_pe {R : Type} (N : Nat) (a0 a1 : C) (k : KD R) : ref02_Add_p N a0 a1 k = ref02_Add_p0 N a0 a1 k := by unfold ref02_Add_p; rw [lid_eq]
theorem ref02_Add_run {R : Type} (N : Nat) (a0 a1 : C) (K : V → List (Key × O) → Option R) : exF (X0 gl0) ((ref02_Add_ov N).ov R) extX noX (fun f => bif Nat.beq f 31 then ref02_Add_hs else []) N 400 8 31 [.d (.int .u64) a0, .d (.int .u64) a1] A0 K =
    ref02_Add_p N a0 a1 (fun d1 m1 => K (V.tup [V.d (Ty.int IntKind.u64) (dk d1 0), V.d (Ty.int IntKind.i64) (dk d1 1)]) []) := by
  rw [ref02_Add_pe]
  exact (show _ = jn (fun d1 m1 => (K (V.tup [V.d (Ty.int IntKind.u64) (dk d1 0), V.d (Ty.int IntKind.i64) (dk d1 1)]) [])) (ref02_Add_p0 N a0 a1) by kernel_rfl).trans (jn_eq _ _)
noncomputable def ref02_Add_g (N : Nat) {R : Type} : OvG R := fun xs _ K => match xs with
  | [.d t0 a0, .d t1 a1] => if t0 = (.int .u64) ∧ t1 = (.int .u64) then ref02_Add_p N a0 a1 (fun d1 m1 => K (V.tup [V.d (Ty.int IntKind.u64) (dk d1 0), V.d (Ty.int IntKind.i64) (dk d1 1)]) []) else none
  | _ => none
theorem ref02_Add_ok (N : Nat) {R : Type} : GOk (X0 gl0) 31 (ref02_Add_g N (R := R)) := by
  intro xs A Kr r hr
  unfold ref02_Add_g at hr
  split at hr
  · simp only [Option.ite_none_right_eq_some] at hr
    obtain ⟨hty, hr⟩ := hr
    obtain ⟨rfl, rfl⟩ := hty
    rw [← ref02_Add_run] at hr
    obtain ⟨v, L, h1, h2⟩ := exF_ok (ok0 gl0) (mo gl0) ((ref02_Add_ov N).ov_ok _) (extX_ok gl0) _ _ _ _ _ _ hr
    exact ⟨v, L, h1.mono (leA_none fun _ => rfl), h2⟩
  · cases hr
end Go.Proofs.YthbdeooemkejmaaDoor


namespace Go.Proofs.YthbdeooemkejmaaDoor
open Go Go.E
set_option maxRecDepth 100000
set_option maxHeartbeats 4000000
set_option linter.unusedVariables false
noncomputable def ref02_Sub_hs : Hints := [([9], ⟨[], [(4, .d (.int .u64)), (5, .d (.int .i64))], [], [], [], []⟩)]
noncomputable def ref02_Sub_ov (N : Nat) : OvS (X0 gl0) where
  g R := []
  ok := fun R => fun _ h => nomatch h
noncomputable def ref02_Sub_p0 {R : Type} (N : Nat) (a0 a1 : C) (k1 : KD R) : Option R := (bif decide (C.toInt a0 < C.toInt a1) then (k1 [C.int 0, C.int 12] []) else (k1 [C.int (IntKind.wrap IntKind.u64 (C.toInt a0 - C.toInt a1)), C.int 0] []))
noncomputable def ref02_Sub_p {R : Type} (N : Nat) : C → C → KD R → Option R := lid "ref02_Sub_p N" (ref02_Sub_p0 N)
theorem ref02_Sub_pe {R : Type} (N : Nat) (a0 a1 : C) (k : KD R) : ref02_Sub_p N a0 a1 k = ref02_Sub_p0 N a0 a1 k := by unfold ref02_Sub_p; rw [lid_eq]
theorem ref02_Sub_run {R : Type} (N : Nat) (a0 a1 : C) (K : V → List (Key × O) → Option R) : exF (X0 gl0) ((ref02_Sub_ov N).ov R) extX noX (fun f => bif Nat.beq f 32 then ref02_Sub_hs else []) N 400 8 32 [.d (.int .u64) a0, .d (.int .u64) a1] A0 K =
    ref02_Sub_p N a0 a1 (fun d1 m1 => K (V.tup [V.d (Ty.int IntKind.u64) (dk d1 0), V.d (Ty.int IntKind.i64) (dk d1 1)]) []) := by
  rw [ref02_Sub_pe]
  exact (show _ = jn (fun d1 m1 => (K (V.tup [V.d (Ty.int IntKind.u64) (dk d1 0), V.d (Ty.int IntKind.i64) (dk d1 1)]) [])) (ref02_Sub_p0 N a0 a1) by kernel_rfl).trans (jn_eq _ _)
noncomputable def ref02_Sub_g (N : Nat) {R : Type} : OvG R := fun xs _ K => match xs with
  | [.d t0 a0, .d t1 a1] => if t0 = (.int .u64) ∧ t1 = (.int .u64) then ref02_Sub_p N a0 a1 (fun d1 m1 => K (V.tup [V.d (Ty.int IntKind.u64) (dk d1 0), V.d (Ty.int IntKind.i64) (dk d1 1)]) []) else none
  | _ => none
theorem ref02_Sub_ok (N : Nat) {R : Type} : GOk (X0 gl0) 32 (ref02_Sub_g N (R := R)) := by
  intro xs A Kr r hr
  unfold ref02_Sub_g at hr
  split at hr
  · simp only [Option.ite_none_right_eq_some] at hr
    obtain ⟨hty, hr⟩ := hr
    obtain ⟨rfl, rfl⟩ := hty
    rw [← ref02_Sub_run] at hr
    obtain ⟨v, L, h1, h2⟩ := exF_ok (ok0 gl0) (mo gl0) ((ref02_Sub_ov N).ov_ok _) (extX_ok gl0) _ _ _ _ _ _ hr
    exact ⟨v, L, h1.mono (leA_none fun _ => rfl), h2⟩
  · cases hr
end Go.Proofs.YthbdeooemkejmaaDoor


namespace Go.Proofs.YthbdeooemkejmaaDoor
open Go Go.E
set_option maxRecDepth 100000
set_option maxHeartbeats 4000000
set_option linter.unusedSimpArgs false
variable {R : Type} {N : Nat}
def U64 (a : Int) : Prop := 0 ≤ a ∧ a < 18446744073709551616
theorem and_mask {a : Int} (h : U64 a) : bitsC .and .u64 a 4294967295 = a % 4294967296 := by
  obtain ⟨x, rfl⟩ := Int.eq_ofNat_of_zero_le h.1
  have hx : x < 18446744073709551616 := by have := h.2; omega
  show IntKind.u64.wrap (((BitVec.ofInt 64 ((x : Nat) : Int)) &&& (BitVec.ofInt 64 ((4294967295 : Nat) : Int))).toNat : Int) = _
  simp only [BitVec.toNat_and, BitVec.ofInt_natCast, BitVec.toNat_ofNat]
  rw [Nat.mod_eq_of_lt (by omega), Nat.mod_eq_of_lt (by omega)]
  have key : x &&& 4294967295 = x % 4294967296 := Nat.and_two_pow_sub_one_eq_mod x 32
  rw [key, wrap_u64 (by omega) (by omega)]
  omega
theorem mul_bound {a b : Int} (ha : 0 ≤ a ∧ a < 4294967296) (hb : 0 ≤ b ∧ b < 4294967296) : 0 ≤ a * b ∧ a * b ≤ 18446744065119617025 := by
  refine ⟨Int.mul_nonneg ha.1 hb.1, ?_⟩
  have h1 : a * b ≤ 4294967295 * b := Int.mul_le_mul_of_nonneg_right (by omega) hb.1
  omega
theorem mul_parts (a b : Int) : a * b = (a / 4294967296 * (b / 4294967296)) * 18446744073709551616 + (a / 4294967296 * (b % 4294967296) + a % 4294967296 * (b / 4294967296)) * 4294967296 + a % 4294967296 * (b % 4294967296) := by
  have e1 : a = a / 4294967296 * 4294967296 + a % 4294967296 := by omega
  have e2 : b = b / 4294967296 * 4294967296 + b % 4294967296 := by omega
  generalize a / 4294967296 = a1 at *
  generalize a % 4294967296 = a0 at *
  generalize b / 4294967296 = b1 at *
  generalize b % 4294967296 = b0 at *
  subst e1; subst e2
  rw [show (18446744073709551616 : Int) = 4294967296 * 4294967296 from rfl]
  simp only [Int.add_mul, Int.mul_add, Int.mul_assoc, Int.mul_comm, Int.mul_left_comm]
  omega
theorem hiM_eq {a b : Int} (ha : U64 a) (hb : U64 b) : hiM a b = a * b / 18446744073709551616 := by
  have e := mul_parts a b
  unfold hiM
  rw [and_mask ha, and_mask hb]
  have p2 : ((2 : Int) ^ min (Int.toNat 32) 64) = 4294967296 := by decide
  have fd : ∀ x : Int, Int.fdiv x 4294967296 = x / 4294967296 := fun x => Int.fdiv_eq_ediv_of_nonneg x (by omega)
  simp only [p2, fd]
  have u1 : 0 ≤ a / 4294967296 ∧ a / 4294967296 < 4294967296 := by unfold U64 at ha; omega
  have u0 : 0 ≤ a % 4294967296 ∧ a % 4294967296 < 4294967296 := by omega
  have v1 : 0 ≤ b / 4294967296 ∧ b / 4294967296 < 4294967296 := by unfold U64 at hb; omega
  have v0 : 0 ≤ b % 4294967296 ∧ b % 4294967296 < 4294967296 := by omega
  have hP := mul_bound u1 v1
  have hQ := mul_bound u1 v0
  have hT := mul_bound u0 v1
  have hS := mul_bound u0 v0
  generalize a / 4294967296 * (b / 4294967296) = P at *
  generalize a / 4294967296 * (b % 4294967296) = Q at *
  generalize a % 4294967296 * (b / 4294967296) = T at *
  generalize a % 4294967296 * (b % 4294967296) = S at *
  rw [e]
  rw [wrap_u64 (n := P) (by omega) (by omega), wrap_u64 (n := Q) (by omega) (by omega), wrap_u64 (n := S) (by omega) (by omega), wrap_u64 (n := T) (by omega) (by omega)]
  rw [wrap_u64 (n := Q + S / 4294967296) (by omega) (by omega)]
  rw [and_mask (a := Q + S / 4294967296) ⟨by omega, by omega⟩]
  rw [wrap_u64 (n := P + (Q + S / 4294967296) / 4294967296) (by omega) (by omega)]
  rw [wrap_u64 (n := (Q + S / 4294967296) % 4294967296 + T) (by omega) (by omega)]
  rw [wrap_u64 (by omega) (by omega)]
  omega
theorem mulR_eq {a b : Int} (ha : U64 a) (hb : U64 b) : mulR a b = if a * b < 18446744073709551616 then (a * b, 0) else (0, 11) := by
  have h0 : 0 ≤ a * b := Int.mul_nonneg ha.1 hb.1
  unfold mulR
  rw [hiM_eq ha hb]
  by_cases h : a * b < 18446744073709551616
  · rw [if_pos (by omega), if_pos h, wrap_u64 h0 h]
  · rw [if_neg (by omega), if_neg h]
def parts4 (n : Int) : C := .agg [.int (n % 4294967296), .int (n / 4294967296 % 4294967296), .int (n / 18446744073709551616 % 4294967296), .int (n / 79228162514264337593543950336)]
theorem wide_step (x y sh out : C) (i j : Nat) (hi : i < 2) (hj : j < 2) (cy m n : Int) (hm : (x.get i).toInt * (y.get j).toInt = m) (h1 : U64 m) (h2 : U64 ((out.get (i + j)).toInt + m)) (hn : n = (out.get (i + j)).toInt + m + cy) (h3 : U64 n) (k4 rec : KD R) :
    ref02_Wide_l1 N k4 rec [x, y, .int i, .int cy, .int j, sh, out] [] = rec [x, y, .int i, .int (n / 4294967296), .int ((j + 1 : Nat) : Int), sh, out.set (i + j) (.int (n % 4294967296))] [] := by
  unfold ref02_Wide_l1
  unfold U64 at *
  have w1 : IntKind.i64.wrap ((i : Int) + (j : Int)) = ((i + j : Nat) : Int) := by rw [IntWalk.i64_in _ (by omega)]; rfl
  have w2 : IntKind.i64.wrap ((j : Int) + 1) = ((j + 1 : Nat) : Int) := by rw [IntWalk.i64_in _ (by omega)]; rfl
  have b1 : (j : Int) < 2 := by omega
  have b2 : (0 : Int) ≤ ((i + j : Nat) : Int) ∧ ((i + j : Nat) : Int) < 4 := by omega
  have b3 : (0 : Int) ≤ (i : Int) ∧ (i : Int) < 2 := by omega
  have b4 : (0 : Int) ≤ (j : Int) ∧ (j : Int) < 2 := by omega
  simp only [go_sem, c_int, w1, w2, b1, b2, b3, b4, decide_true, cond_true, if_true, and_self, Int.toNat_natCast, hm]
  rw [wrap_u64 (n := m) h1.1 h1.2, wrap_u64 h2.1 h2.2, ← hn, wrap_u64 h3.1 h3.2]
  have q1 : Int.tdiv n 4294967296 = n / 4294967296 := Int.tdiv_eq_ediv_of_nonneg h3.1
  have q2 : Int.tmod n 4294967296 = n % 4294967296 := Int.tmod_eq_emod_of_nonneg h3.1
  rw [q1, q2, wrap_u64 (by omega) (by omega)]
theorem wide_stop (x y sh out : C) (i : Nat) (cy : Int) (k4 rec : KD R) :
    ref02_Wide_l1 N k4 rec [x, y, .int i, .int cy, .int 2, sh, out] [] = k4 [x, y, .int i, .int cy, sh, out] [] := by
  unfold ref02_Wide_l1
  simp only [go_sem, c_int, Int.lt_irrefl, decide_false, cond_false]
theorem loopK3 {M : Nat} (F : KD R → List C → List Es → Option R) (s : List C) (m : List Es) : loopK (M + 3) F s m = F (F (F (loopK M F))) s m := by
  rw [loopK_succ]
  congr 1
  funext s m
  rw [loopK_succ]
  congr 1
  funext s m
  rw [loopK_succ]
theorem Wide_eq {a b : Int} (ha : U64 a) (hb : U64 b) (hN : 10 < N) (k : KD R) : ref02_Wide_p N (.int a) (.int b) k = k [parts4 (a * b)] [] := by
  obtain ⟨M, rfl⟩ : ∃ M, N = M + 3 := ⟨N - 3, by omega⟩
  have e := mul_parts a b
  have h0 : 0 ≤ a * b := Int.mul_nonneg ha.1 hb.1
  have u1 : 0 ≤ a / 4294967296 ∧ a / 4294967296 < 4294967296 := by unfold U64 at ha; omega
  have u0 : 0 ≤ a % 4294967296 ∧ a % 4294967296 < 4294967296 := by omega
  have v1 : 0 ≤ b / 4294967296 ∧ b / 4294967296 < 4294967296 := by unfold U64 at hb; omega
  have v0 : 0 ≤ b % 4294967296 ∧ b % 4294967296 < 4294967296 := by omega
  have hP := mul_bound u1 v1
  have hQ := mul_bound u1 v0
  have hT := mul_bound u0 v1
  have hS := mul_bound u0 v0
  have q1 : Int.tdiv a 4294967296 = a / 4294967296 := Int.tdiv_eq_ediv_of_nonneg ha.1
  have q2 : Int.tmod a 4294967296 = a % 4294967296 := Int.tmod_eq_emod_of_nonneg ha.1
  have q3 : Int.tdiv b 4294967296 = b / 4294967296 := Int.tdiv_eq_ediv_of_nonneg hb.1
  have q4 : Int.tmod b 4294967296 = b % 4294967296 := Int.tmod_eq_emod_of_nonneg hb.1
  have z2 : ∀ p q : C, C.set (C.set (zeroC (Ty.arr 2 (Ty.int IntKind.u64))) 0 p) 1 q = .agg [p, q] := fun _ _ => rfl
  have z4 : zeroC (Ty.arr 4 (Ty.int IntKind.u64)) = .agg [.int 0, .int 0, .int 0, .int 0] := rfl
  rw [ref02_Wide_pe]
  unfold ref02_Wide_p0
  rw [jn_eq]
  simp only [c_int, q1, q2, q3, q4, z2, z4, wrap_u64 u1.1 (by omega : a / 4294967296 < 18446744073709551616), wrap_u64 v1.1 (by omega : b / 4294967296 < 18446744073709551616)]
  generalize a / 4294967296 = a1 at *
  generalize a % 4294967296 = a0 at *
  generalize b / 4294967296 = b1 at *
  generalize b % 4294967296 = b0 at *
  -- one round of the outer loop
  have round : ∀ (i : Nat) (hi : i < 2) (sh out : C) (m0 m1 n0 n1 : Int) (k2 rec : KD R), ((C.agg [.int a0, .int a1]).get i).toInt * b0 = m0 → ((C.agg [.int a0, .int a1]).get i).toInt * b1 = m1 → U64 m0 → U64 m1 →
      U64 ((out.get i).toInt + m0) → n0 = (out.get i).toInt + m0 + 0 → U64 n0 → U64 (((out.set i (.int (n0 % 4294967296))).get (i + 1)).toInt + m1) → n1 = ((out.set i (.int (n0 % 4294967296))).get (i + 1)).toInt + m1 + n0 / 4294967296 → U64 n1 →
      U64 ((((out.set i (.int (n0 % 4294967296))).set (i + 1) (.int (n1 % 4294967296))).get (i + 2)).toInt + n1 / 4294967296) →
      ∀ Z : Option R, rec [.agg [.int a0, .int a1], .agg [.int b0, .int b1], .int ((i + 1 : Nat) : Int), sh, ((out.set i (.int (n0 % 4294967296))).set (i + 1) (.int (n1 % 4294967296))).set (i + 2) (.int ((((out.set i (.int (n0 % 4294967296))).set (i + 1) (.int (n1 % 4294967296))).get (i + 2)).toInt + n1 / 4294967296))] [] = Z → ref02_Wide_l2 (M + 3) k2 rec [.agg [.int a0, .int a1], .agg [.int b0, .int b1], .int i, sh, out] [] = Z := by
    intro i hi sh out m0 m1 n0 n1 k2 rec hm0 hm1 g0 g1 g2 g3 g4 g5 g6 g7 g8 Z hZ
    unfold ref02_Wide_l2
    have c1 : (i : Int) < 2 := by omega
    have c2 : IntKind.i64.wrap ((i : Int) + 2) = ((i + 2 : Nat) : Int) := by rw [IntWalk.i64_in _ (by omega)]; rfl
    have c3 : IntKind.i64.wrap ((i : Int) + 1) = ((i + 1 : Nat) : Int) := by rw [IntWalk.i64_in _ (by omega)]; rfl
    have c4 : (0 : Int) ≤ ((i + 2 : Nat) : Int) ∧ ((i + 2 : Nat) : Int) < 4 := by omega
    simp only [go_sem, c_int, c1, decide_true, cond_true, jn_eq, loopK3]
    have s0 := fun k4 rec : KD R => wide_step (R := R) (N := M + 3) (.agg [.int a0, .int a1]) (.agg [.int b0, .int b1]) sh out i 0 hi (by omega) 0 m0 n0 hm0 g0 g2 g3 g4 k4 rec
    simp only [Nat.add_zero] at s0
    rw [show (C.int ((0 : Nat) : Int)) = C.int 0 from rfl] at s0
    rw [s0]
    have s1 := fun k4 rec : KD R => wide_step (R := R) (N := M + 3) (.agg [.int a0, .int a1]) (.agg [.int b0, .int b1]) sh (out.set i (.int (n0 % 4294967296))) i 1 hi (by omega) (n0 / 4294967296) m1 n1 hm1 g1 g5 g6 g7 k4 rec
    rw [s1]
    rw [show (((1 + 1 : Nat) : Nat) : Int) = 2 from rfl, wide_stop]
    rw [← hZ]
    clear hZ
    generalize (out.set i (.int (n0 % 4294967296))).set (i + 1) (.int (n1 % 4294967296)) = O at g8 ⊢
    simp only [go_sem, c_int, c2, c3, c4, if_true, and_self, Int.toNat_natCast]
    rw [wrap_u64 g8.1 g8.2]
  have stop : ∀ (sh out : C) (k2 rec : KD R), ref02_Wide_l2 (M + 3) k2 rec [.agg [.int a0, .int a1], .agg [.int b0, .int b1], .int 2, sh, out] [] = k2 [sh, out] [] := by
    intro sh out k2 rec
    unfold ref02_Wide_l2
    simp only [go_sem, c_int, Int.lt_irrefl, decide_false, cond_false]
  unfold U64 at round
  generalize hS' : a0 * b0 = S at *
  generalize hT' : a0 * b1 = T at *
  generalize hQ' : a1 * b0 = Q at *
  generalize hP' : a1 * b1 = P at *
  rw [loopK3]
  have r0 := fun k2 rec => round 0 (by omega) (.agg [.int 0, .int 0, .int 0, .int 0]) (.agg [.int 0, .int 0, .int 0, .int 0]) S T S (T + S / 4294967296) k2 rec hS' hT' (by omega) (by omega)
    (by show 0 ≤ 0 + S ∧ 0 + S < _; omega) (by show S = 0 + S + 0; omega) (by omega) (by show 0 ≤ 0 + T ∧ 0 + T < _; omega) (by show _ = 0 + T + _; omega) (by omega) (by show 0 ≤ 0 + _ ∧ 0 + _ < _; omega) _ rfl
  have r1 := fun k2 rec => round 1 (by omega) (.agg [.int 0, .int 0, .int 0, .int 0]) (.agg [.int (S % 4294967296), .int ((T + S / 4294967296) % 4294967296), .int (0 + (T + S / 4294967296) / 4294967296), .int 0]) Q P
    ((T + S / 4294967296) % 4294967296 + Q) ((T + S / 4294967296) / 4294967296 + P + ((T + S / 4294967296) % 4294967296 + Q) / 4294967296) k2 rec hQ' hP' (by omega) (by omega)
    (by show 0 ≤ (T + S / 4294967296) % 4294967296 + Q ∧ (T + S / 4294967296) % 4294967296 + Q < _; omega) (by show _ = (T + S / 4294967296) % 4294967296 + Q + 0; omega) (by omega)
    (by show 0 ≤ 0 + (T + S / 4294967296) / 4294967296 + P ∧ 0 + (T + S / 4294967296) / 4294967296 + P < _; omega)
    (by show _ = 0 + (T + S / 4294967296) / 4294967296 + P + _; omega) (by omega) (by show 0 ≤ 0 + _ ∧ 0 + _ < _; omega) _ rfl
  refine (r0 _ _).trans ((r1 _ _).trans ((stop _ _ _ _).trans ?_))
  show k [C.agg [C.int (S % 4294967296), C.int (((T + S / 4294967296) % 4294967296 + Q) % 4294967296), C.int (((T + S / 4294967296) / 4294967296 + P + ((T + S / 4294967296) % 4294967296 + Q) / 4294967296) % 4294967296),
    C.int (0 + ((T + S / 4294967296) / 4294967296 + P + ((T + S / 4294967296) % 4294967296 + Q) / 4294967296) / 4294967296)]] [] = _
  unfold parts4
  rw [e]
  have f0 : S % 4294967296 = (P * 18446744073709551616 + (Q + T) * 4294967296 + S) % 4294967296 := by omega
  have f1 : ((T + S / 4294967296) % 4294967296 + Q) % 4294967296 = (P * 18446744073709551616 + (Q + T) * 4294967296 + S) / 4294967296 % 4294967296 := by omega
  have f2 : ((T + S / 4294967296) / 4294967296 + P + ((T + S / 4294967296) % 4294967296 + Q) / 4294967296) % 4294967296 = (P * 18446744073709551616 + (Q + T) * 4294967296 + S) / 18446744073709551616 % 4294967296 := by omega
  have f3 : 0 + ((T + S / 4294967296) / 4294967296 + P + ((T + S / 4294967296) % 4294967296 + Q) / 4294967296) / 4294967296 = (P * 18446744073709551616 + (Q + T) * 4294967296 + S) / 79228162514264337593543950336 := by omega
  rw [f0, f1, f2, f3]
theorem rmul_eq {a b : Int} (ha : U64 a) (hb : U64 b) (hN : 10 < N) (k : KD R) : ref02_Mul_p N (.int a) (.int b) k = k [.int (mulR a b).1, .int (mulR a b).2] [] := by
  rw [ref02_Mul_pe]
  unfold ref02_Mul_p0
  rw [Wide_eq ha hb hN, mulR_eq ha hb]
  have h0 : 0 ≤ a * b := Int.mul_nonneg ha.1 hb.1
  have p0 : (parts4 (a * b)).get 0 = .int (a * b % 4294967296) := rfl
  have p1 : (parts4 (a * b)).get 1 = .int (a * b / 4294967296 % 4294967296) := rfl
  have p2 : (parts4 (a * b)).get 2 = .int (a * b / 18446744073709551616 % 4294967296) := rfl
  have p3 : (parts4 (a * b)).get 3 = .int (a * b / 79228162514264337593543950336) := rfl
  simp only [jn_eq, dk_0, dk_1, c_bool, c_int, show Int.toNat 2 = 2 from rfl, show Int.toNat 3 = 3 from rfl, show Int.toNat 1 = 1 from rfl, show Int.toNat 0 = 0 from rfl, p0, p1, p2, p3]
  generalize a * b = n at *
  by_cases h : n < 18446744073709551616
  · have g2 : n / 18446744073709551616 % 4294967296 = 0 := by omega
    have g3 : n / 79228162514264337593543950336 = 0 := by omega
    rw [wrap_u64 (n := n / 4294967296 % 4294967296 * 4294967296) (by omega) (by omega), wrap_u64 (by omega) (by omega)]
    have g : n / 4294967296 % 4294967296 * 4294967296 + n % 4294967296 = n := by omega
    simp [g2, g3, h, g]
  · simp only [h, if_false]
    by_cases g2 : n / 18446744073709551616 % 4294967296 = 0
    · have g3 : ¬ n / 79228162514264337593543950336 = 0 := by omega
      simp [g2, g3]
    · simp [g2]
theorem radd_eq {a b : Int} (ha : U64 a) (hb : U64 b) (k : KD R) : ref02_Add_p N (.int a) (.int b) k = k [.int (addR a b).1, .int (addR a b).2] [] := by
  unfold U64 at *
  rw [ref02_Add_pe]
  unfold ref02_Add_p0
  have w : IntKind.u64.wrap (18446744073709551615 - a) = 18446744073709551615 - a := wrap_u64 (by omega) (by omega)
  by_cases h : 18446744073709551615 - a < b
  · rw [addR_over (by omega)]
    simp only [c_int, w, h, decide_true, cond_true]
  · have w2 : IntKind.u64.wrap (a + b) = a + b := wrap_u64 (by omega) (by omega)
    rw [addR_ok (by omega) (by omega) (by omega)]
    simp only [c_int, w, w2, h, decide_false, cond_false]
theorem rsub_eq {a b : Int} (k : KD R) : ref02_Sub_p N (.int a) (.int b) k = k [.int (subR a b).1, .int (subR a b).2] [] := by
  rw [ref02_Sub_pe]
  unfold ref02_Sub_p0 subR
  by_cases h : a < b
  · simp only [c_int, h, decide_true, cond_true, if_true]
  · simp only [c_int, h, decide_false, cond_false, if_false]
end Go.Proofs.YthbdeooemkejmaaDoor


namespace Go.Proofs.YthbdeooemkejmaaDoor
open Go Go.E
set_option maxRecDepth 100000
set_option maxHeartbeats 4000000
set_option linter.unusedSimpArgs false
variable {R : Type} {N : Nat}
def costN (o : Int) : Int := if o = 5 then 3 else if o = 16 then 10 else 1
theorem costN_pos (o : Int) : 1 ≤ costN o ∧ costN o ≤ 10 := by unfold costN; (repeat' split) <;> omega
theorem forms_cost : ∀ (o : Nat), o < 18 → (formsC.getD o .nil).get 2 = .int (costN o) := by
  intro o h
  have c : o = 0 ∨ o = 1 ∨ o = 2 ∨ o = 3 ∨ o = 4 ∨ o = 5 ∨ o = 6 ∨ o = 7 ∨ o = 8 ∨ o = 9 ∨ o = 10 ∨ o = 11 ∨ o = 12 ∨ o = 13 ∨ o = 14 ∨ o = 15 ∨ o = 16 ∨ o = 17 := by omega
  rcases c with rfl | rfl | rfl | rfl | rfl | rfl | rfl | rfl | rfl | rfl | rfl | rfl | rfl | rfl | rfl | rfl | rfl | rfl <;> rfl
def argA (p : List C) (i : Nat) : Int := argN p (i + 1) (moreN (bN p i))
def runF (p : List C) (gas : Int) (w : C) : Nat → Nat → Int → St → Int × Int × Int
  | 0, _, _, _ => (0, 0, 0)
  | f + 1, i, sp, x =>
    if errN p i ≠ 0 then (0, sp, errN p i)
    else if gas - sp < costN (bN p i) then (0, sp, 24)
    else if bN p i = 0 then (x.pop.1, sp + costN (bN p i), x.pop.2.e)
    else if bN p i = 11 then (if x.e ≠ 0 then (0, sp + costN (bN p i), x.e) else runF p gas w f (argA p i).toNat (sp + costN (bN p i)) x)
    else if bN p i = 12 then (if x.pop.2.e ≠ 0 then (0, sp + costN (bN p i), x.pop.2.e) else runF p gas w f (if x.pop.1 = 0 then i + 1 + moreN (bN p i) else (argA p i).toNat) (sp + costN (bN p i)) x.pop.2)
    else (if (plainS w (bN p i).toNat (argA p i) x).e ≠ 0 then (0, sp + costN (bN p i), (plainS w (bN p i).toNat (argA p i) x).e)
      else runF p gas w f (i + 1 + moreN (bN p i)) (sp + costN (bN p i)) (plainS w (bN p i).toNat (argA p i) x))
theorem runF_fuel {p : List C} {gas : Int} {w : C} : ∀ (f g i : Nat) (sp : Int) (x : St), (gas - sp).toNat < f → (gas - sp).toNat < g → runF p gas w f i sp x = runF p gas w g i sp x
  | 0, _, _, _, _, h, _ => by omega
  | _ + 1, 0, _, _, _, _, h => by omega
  | f + 1, g + 1, i, sp, x, h1, h2 => by
    have hc := costN_pos (bN p i)
    simp only [runF]
    split
    · rfl
    split
    · rfl
    split
    · rfl
    split
    · split
      · rfl
      · exact runF_fuel f g _ _ _ (by omega) (by omega)
    split
    · split
      · rfl
      · exact runF_fuel f g _ _ _ (by omega) (by omega)
    split
    · rfl
    · exact runF_fuel f g _ _ _ (by omega) (by omega)
def runV (p : List C) (gas : Int) (w : C) (i : Nat) (sp : Int) (x : St) : Int × Int × Int := runF p gas w ((gas - sp).toNat + 1) i sp x
theorem runV_eq {p : List C} {gas : Int} {w : C} {i : Nat} {sp : Int} {x : St} : runV p gas w i sp x =
    if errN p i ≠ 0 then (0, sp, errN p i)
    else if gas - sp < costN (bN p i) then (0, sp, 24)
    else if bN p i = 0 then (x.pop.1, sp + costN (bN p i), x.pop.2.e)
    else if bN p i = 11 then (if x.e ≠ 0 then (0, sp + costN (bN p i), x.e) else runV p gas w (argA p i).toNat (sp + costN (bN p i)) x)
    else if bN p i = 12 then (if x.pop.2.e ≠ 0 then (0, sp + costN (bN p i), x.pop.2.e) else runV p gas w (if x.pop.1 = 0 then i + 1 + moreN (bN p i) else (argA p i).toNat) (sp + costN (bN p i)) x.pop.2)
    else (if (plainS w (bN p i).toNat (argA p i) x).e ≠ 0 then (0, sp + costN (bN p i), (plainS w (bN p i).toNat (argA p i) x).e)
      else runV p gas w (i + 1 + moreN (bN p i)) (sp + costN (bN p i)) (plainS w (bN p i).toNat (argA p i) x)) := by
  have hc := costN_pos (bN p i)
  unfold runV
  rw [runF]
  split
  · rfl
  split
  · rfl
  split
  · rfl
  split
  · split
    · rfl
    · exact runF_fuel _ _ _ _ _ (by omega) (by omega)
  split
  · split
    · rfl
    · exact runF_fuel _ _ _ _ _ (by omega) (by omega)
  split
  · rfl
  · exact runF_fuel _ _ _ _ _ (by omega) (by omega)
theorem arg16 {p : List C} (hp : C.wf (.slice 1 (.int .u8)) (.slice p)) {i : Nat} (h : i + 1 + moreN (bN p i) ≤ p.length) (h2 : bN p i = 11 ∨ bN p i = 12) : 0 ≤ argA p i ∧ argA p i < 65536 := by
  have hm : moreN (bN p i) = 2 := by rcases h2 with h2 | h2 <;> rw [h2] <;> rfl
  have h16 := argN_wf hp (i := i + 1) (k := moreN (bN p i)) (by omega)
  unfold argA
  rw [hm] at h16 ⊢
  exact ⟨h16.1, by have := h16.2; omega⟩
structure RunI where
  i : Nat
  sp : Int
  x : St
  arr : C
theorem run_st {p : List C} (hp : C.wf (.slice 1 (.int .u8)) (.slice p)) (hl : p.length ≤ 256) {gas : Int} (hg : 0 ≤ gas ∧ gas ≤ 4096) {w : C} (hw : WOk w) (hN : 5000 < N) (k : KD R) :
    code_Run_p N (.slice p) w (.int gas) k = k [.int (runV p gas w 0 0 ⟨[], 0⟩).1, .int (runV p gas w 0 0 ⟨[], 0⟩).2.1, .int (runV p gas w 0 0 ⟨[], 0⟩).2.2] [] := by
  rw [code_Run_pe]
  unfold code_Run_p0
  have a1 : ¬ (256 : Int) < (p.length : Int) := by omega
  have a2 : ¬ gas < 0 := by omega
  have a3 : ¬ (4096 : Int) < gas := by omega
  simp only [go_sem, c_int, c_slice, c_bool, a1, a2, a3, decide_false, cond_false]
  refine loopK_ind (F := code_Run_l1 N k) (fun i : RunI => [.slice p, .int gas, w, .int i.i, .int i.sp, .int i.x.s.length, .int i.x.e, i.arr]) (fun _ => []) (fun i => (gas - i.sp).toNat)
    (fun i => OkA i.x i.arr ∧ i.x.e = 0 ∧ 0 ≤ i.sp ∧ i.sp ≤ gas ∧ i.i ≤ 100000) (fun i => k [.int (runV p gas w i.i i.sp i.x).1, .int (runV p gas w i.i i.sp i.x).2.1, .int (runV p gas w i.i i.sp i.x).2.2] [])
    ?_ N ⟨0, 0, ⟨[], 0⟩, .agg []⟩ ⟨⟨by simp, by simp [C.elems]⟩, rfl, by dsimp only; omega, by dsimp only; omega, by dsimp only; omega⟩ (by dsimp only; omega)
  rintro ⟨i, sp, x, arr⟩ ⟨hA, he, h0, h1, hi⟩ rec hrec
  dsimp only at hA he h0 h1 hi hrec ⊢
  rw [runV_eq]
  unfold code_Run_l1
  have b1 : List.length p ≤ 256 ∧ (0 : Int) ≤ (i : Int) ∧ (i : Int) ≤ 100000 := ⟨hl, by omega, by omega⟩
  simp only [go_sem, c_int, c_slice, c_bool, b1, if_true, and_self, Int.toNat_natCast]
  by_cases e1 : errN p i = 0
  case neg => simp [e1]
  have hb : i < p.length ∧ bN p i < 18 ∧ i + 1 + moreN (bN p i) ≤ p.length := by
    unfold errN at e1
    split at e1
    · cases e1
    split at e1
    · cases e1
    split at e1
    · cases e1
    omega
  have hbw := bN_wf hp hb.1
  have hop : 0 ≤ bN p i ∧ bN p i < 18 := by omega
  simp only [e1, hop, if_true, and_self, decide_true, Bool.not_true, cond_false, ne_eq, not_true, if_false]
  have hco : (formsC.getD (bN p i).toNat .nil).get 2 = .int (costN (bN p i)) := by
    have := forms_cost (bN p i).toNat (by omega)
    rwa [Int.toNat_of_nonneg hop.1] at this
  have hcp := costN_pos (bN p i)
  have w1 : IntKind.i64.wrap (gas - sp) = gas - sp := IntWalk.i64_in _ (by omega)
  have w2 : IntKind.i64.wrap (sp + costN (bN p i)) = sp + costN (bN p i) := IntWalk.i64_in _ (by omega)
  have hmo := moreN_le (bN p i)
  obtain ⟨g1, g2, g3⟩ := argN_lt hp (i := i + 1) (k := moreN (bN p i)) (by omega) hmo
  have hpl := plain_st hw hA (N := N) (by omega) (bN p i).toNat (by omega) (argN p (i + 1) (moreN (bN p i))) g1
  rw [Int.toNat_of_nonneg hop.1] at hpl
  simp only [hco, go_sem, c_int, w1, w2]
  generalize hc : costN (bN p i) = c at *
  by_cases e2 : gas - sp < c
  · simp [e2]
  by_cases e3 : bN p i = 0
  · simp [e2, e3, pop_st hA, go_sem]
  have hw3 : 0 ≤ argA p i → argA p i < 65536 → IntKind.i64.wrap (argN p (i + 1) (moreN (bN p i))) = ((argA p i).toNat : Int) := fun h1 h2 => by
    rw [Int.toNat_of_nonneg h1]
    exact IntWalk.i64_in _ (by unfold argA at *; omega)
  by_cases e4 : bN p i = 11
  · obtain ⟨q1, q2⟩ := arg16 hp hb.2.2 (.inl e4)
    have := hrec ⟨(argA p i).toNat, sp + c, x, arr⟩ ⟨hA, he, by dsimp only; omega, by dsimp only; omega, by dsimp only; omega⟩ (by dsimp only; omega)
    simp only [hw3 q1 q2]
    simp only [e2, e3, e4, he, decide_true, decide_false, cond_true, cond_false, Bool.not_true, if_true, if_false, not_true, not_false_iff, Int.reduceEq]
    simpa only [he] using this
  by_cases e5 : bN p i = 12
  · obtain ⟨q1, q2⟩ := arg16 hp hb.2.2 (.inr e5)
    simp only [hw3 q1 q2, pop_st hA]
    simp only [e2, e3, e4, e5, go_sem, c_int, decide_true, decide_false, cond_true, cond_false, Bool.not_true, if_true, if_false, not_true, not_false_iff, Int.reduceEq, Int.toNat_natCast]
    by_cases e6 : x.pop.2.e = 0
    · by_cases e7 : x.pop.1 = 0
      · have := hrec ⟨i + 1 + moreN (bN p i), sp + c, x.pop.2, arr⟩ ⟨hA.pop, e6, by dsimp only; omega, by dsimp only; omega, by dsimp only; omega⟩ (by dsimp only; omega)
        simp only [e5] at this
        simpa [e6, e7] using this
      · have := hrec ⟨(argA p i).toNat, sp + c, x.pop.2, arr⟩ ⟨hA.pop, e6, by dsimp only; omega, by dsimp only; omega, by dsimp only; omega⟩ (by dsimp only; omega)
        simpa [e6, e7] using this
    · by_cases e7 : x.pop.1 = 0 <;> simp [e6, e7]
  · obtain ⟨arr', hA', hk⟩ := hpl
    simp only [hk]
    simp only [e2, e3, e4, e5, go_sem, c_int, decide_true, decide_false, cond_true, cond_false, Bool.not_true, if_true, if_false, not_true, not_false_iff, Int.reduceEq, Int.toNat_natCast]
    have hq : argN p (i + 1) (moreN (bN p i)) = argA p i := rfl
    rw [hq] at hA' ⊢
    by_cases e6 : (plainS w (bN p i).toNat (argA p i) x).e = 0
    · have := hrec ⟨i + 1 + moreN (bN p i), sp + c, plainS w (bN p i).toNat (argA p i) x, arr'⟩ ⟨hA', e6, by dsimp only; omega, by dsimp only; omega, by dsimp only; omega⟩ (by dsimp only; omega)
      simpa [e6] using this
    · simp [e6]
end Go.Proofs.YthbdeooemkejmaaDoor


namespace Go.Proofs.YthbdeooemkejmaaDoor
open Go Go.E
set_option maxRecDepth 100000
set_option maxHeartbeats 4000000
set_option linter.unusedVariables false
noncomputable def law11_awake_hs : Hints := [([0, 1, 1, 1, 1], ⟨[], [(0, .d .bool)], [], [], [], []⟩),
    ([9], ⟨[], [(0, .d .bool)], [], [], [], []⟩)]
noncomputable def law11_awake_ov (N : Nat) : OvS (X0 gl0) where
  g R := [(9, code_Run_g N), (23, code_Check_g N)]
  ok := fun R => List.forall_mem_cons.2 ⟨code_Run_ok N, List.forall_mem_cons.2 ⟨code_Check_ok N, fun _ h => nomatch h⟩⟩
noncomputable def law11_awake_p0 {R : Type} (N : Nat) (k1 : KD R) : Option R := (code_Run_p N (C.slice [C.int (IntKind.wrap IntKind.u8 (Int.ofNat 1)), C.int (IntKind.wrap IntKind.u8 (Int.ofNat 0)), C.int (IntKind.wrap IntKind.u8 (Int.ofNat 0)), C.int (IntKind.wrap IntKind.u8 (Int.ofNat 0)), C.int (IntKind.wrap IntKind.u8 (Int.ofNat 0)), C.int (IntKind.wrap IntKind.u8 (Int.ofNat 0)), C.int (IntKind.wrap IntKind.u8 (Int.ofNat 0)), C.int (IntKind.wrap IntKind.u8 (Int.ofNat 0)), C.int (IntKind.wrap IntKind.u8 (Int.ofNat 2)), C.int (IntKind.wrap IntKind.u8 (Int.ofNat 1)), C.int (IntKind.wrap IntKind.u8 (Int.ofNat 0)), C.int (IntKind.wrap IntKind.u8 (Int.ofNat 0)), C.int (IntKind.wrap IntKind.u8 (Int.ofNat 0)), C.int (IntKind.wrap IntKind.u8 (Int.ofNat 0)), C.int (IntKind.wrap IntKind.u8 (Int.ofNat 0)), C.int (IntKind.wrap IntKind.u8 (Int.ofNat 0)), C.int (IntKind.wrap IntKind.u8 (Int.ofNat 0)), C.int (IntKind.wrap IntKind.u8 (Int.ofNat 3)), C.int (IntKind.wrap IntKind.u8 (Int.ofNat 6)), C.int (IntKind.wrap IntKind.u8 0)]) (C.agg [C.slice [], C.slice [], zeroC (Ty.int IntKind.u64)]) (C.int 100) (fun d1 m1 => (code_Run_p N (C.slice [C.int 11, C.int 0, C.int 0]) (C.agg [C.slice [], C.slice [], zeroC (Ty.int IntKind.u64)]) (C.int 50) (fun d2 m2 => (jn (fun d3 m3 => (k1 [C.bool (C.toBool (dk d3 0))] [])) (fun k2 => (bif decide (C.toInt (dk d1 2) = 0) then (bif decide (C.toInt (dk d1 0) = 1) then (bif decide (C.toInt (dk d1 1) = 4) then (k2 [C.bool (decide (C.toInt (dk d2 2) = 24))] []) else (k2 [C.bool false] [])) else (k2 [C.bool false] [])) else (k2 [C.bool false] []))))))))
noncomputable def law11_awake_p {R : Type} (N : Nat) : KD R → Option R := lid "law11_awake_p N" (law11_awake_p0 N)
theorem law11_awake_pe {R : Type} (N : Nat)  (k : KD R) : law11_awake_p N  k = law11_awake_p0 N  k := by unfold law11_awake_p; rw [lid_eq]
theorem law11_awake_run {R : Type} (N : Nat)  (K : V → List (Key × O) → Option R) : exF (X0 gl0) ((law11_awake_ov N).ov R) extX (fun f r => bif Nat.beq f 22 then (bif Nat.beq r 8 then [(35, 4)] else bif Nat.beq r 14 then [(58, 1)] else []) else bif Nat.beq f 39 then (bif Nat.beq r 4 then [(15, 1)] else []) else []) (fun f => bif Nat.beq f 8 then law11_awake_hs else []) N 3000 20 8 [] A0 K =
    law11_awake_p N  (fun d1 m1 => K (V.d Ty.bool (C.bool (C.toBool (dk d1 0)))) []) := by
  rw [law11_awake_pe]
  exact (show _ = jn (fun d1 m1 => (K (V.d Ty.bool (C.bool (C.toBool (dk d1 0)))) [])) (law11_awake_p0 N ) by kernel_rfl).trans (jn_eq _ _)
noncomputable def law11_awake_g (N : Nat) {R : Type} : OvG R := fun xs _ K => match xs with
  | [] => law11_awake_p N  (fun d1 m1 => K (V.d Ty.bool (C.bool (C.toBool (dk d1 0)))) [])
  | _ => none
theorem law11_awake_ok (N : Nat) {R : Type} : GOk (X0 gl0) 8 (law11_awake_g N (R := R)) := by
  intro xs A Kr r hr
  unfold law11_awake_g at hr
  split at hr
  · skip
    rw [← law11_awake_run] at hr
    obtain ⟨v, L, h1, h2⟩ := exF_ok (ok0 gl0) (mo gl0) ((law11_awake_ov N).ov_ok _) (extX_ok gl0) _ _ _ _ _ _ hr
    exact ⟨v, L, h1.mono (leA_none fun _ => rfl), h2⟩
  · cases hr
end Go.Proofs.YthbdeooemkejmaaDoor


namespace Go.Proofs.YthbdeooemkejmaaDoor
open Go Go.E
set_option maxRecDepth 100000
set_option maxHeartbeats 4000000
set_option linter.unusedVariables false
noncomputable def law11_to_hs : Hints := [([9], ⟨[], [(2, .as (.ptr (.l 2) [] tWorld))], [], [(.l 2, .box (.d tWorld))], [], []⟩)]
noncomputable def law11_to_ov (N : Nat) : OvS (X0 gl0) where
  g R := []
  ok := fun R => fun _ h => nomatch h
noncomputable def law11_to_p0 {R : Type} (N : Nat) (a0 : C) (k1 : KD R) : Option R := (bif Nat.beq (List.length (C.elems (C.get a0 0))) (List.length (C.elems (C.get a0 0))) && (Nat.beq (List.length (C.elems (C.get a0 1))) (List.length (C.elems (C.get a0 1))) && true) then (k1 [C.agg [C.slice (C.elems (C.get a0 0)), C.slice (C.elems (C.get a0 1)), C.get a0 2]] []) else none)
noncomputable def law11_to_p {R : Type} (N : Nat) : C → KD R → Option R := lid "law11_to_p N" (law11_to_p0 N)
theorem law11_to_pe {R : Type} (N : Nat) (a0 : C) (k : KD R) : law11_to_p N a0 k = law11_to_p0 N a0 k := by unfold law11_to_p; rw [lid_eq]
theorem law11_to_run {R : Type} (N : Nat) (a0 : C) (K : V → List (Key × O) → Option R) : exF (X0 gl0) ((law11_to_ov N).ov R) extX (fun f r => bif Nat.beq f 10 then (bif Nat.beq r 0 then [(1, 5)] else []) else []) (fun f => bif Nat.beq f 10 then law11_to_hs else []) N 400 8 10 [.d tWorld a0] A0 K =
    law11_to_p N a0 (fun d1 m1 => K (V.d tWorld (dk d1 0)) []) := by
  rw [law11_to_pe]
  exact (show _ = jn (fun d1 m1 => (K (V.d tWorld (dk d1 0)) [])) (law11_to_p0 N a0) by kernel_rfl).trans (jn_eq _ _)
noncomputable def law11_to_g (N : Nat) {R : Type} : OvG R := fun xs _ K => match xs with
  | [.d t0 a0] => if t0 = tWorld then law11_to_p N a0 (fun d1 m1 => K (V.d tWorld (dk d1 0)) []) else none
  | _ => none
theorem law11_to_ok (N : Nat) {R : Type} : GOk (X0 gl0) 10 (law11_to_g N (R := R)) := by
  intro xs A Kr r hr
  unfold law11_to_g at hr
  split at hr
  · simp only [Option.ite_none_right_eq_some] at hr
    obtain ⟨hty, hr⟩ := hr
    subst hty
    rw [← law11_to_run] at hr
    obtain ⟨v, L, h1, h2⟩ := exF_ok (ok0 gl0) (mo gl0) ((law11_to_ov N).ov_ok _) (extX_ok gl0) _ _ _ _ _ _ hr
    exact ⟨v, L, h1.mono (leA_none fun _ => rfl), h2⟩
  · cases hr
end Go.Proofs.YthbdeooemkejmaaDoor


namespace Go.Proofs.YthbdeooemkejmaaDoor
open Go Go.E
set_option maxRecDepth 100000
set_option maxHeartbeats 4000000
set_option linter.unusedVariables false
noncomputable def law11_light_hs : Hints := [([0, 1], ⟨[], [(2, .d .bool)], [], [], [], []⟩),
    ([9], ⟨[], [(2, .d .bool)], [], [], [], []⟩)]
noncomputable def law11_light_ov (N : Nat) : OvS (X0 gl0) where
  g R := []
  ok := fun R => fun _ h => nomatch h
noncomputable def law11_light_p0 {R : Type} (N : Nat) (a0 : C) (k1 : KD R) : Option R := (jn (fun d1 m1 => (k1 [C.bool (C.toBool (dk d1 0))] [])) (fun k2 => (bif decide ((↑(List.length (C.elems (C.get a0 0))) : Int) ≤ 300) then (k2 [C.bool (decide ((↑(List.length (C.elems (C.get a0 1))) : Int) ≤ 300))] []) else (k2 [C.bool false] []))))
noncomputable def law11_light_p {R : Type} (N : Nat) : C → KD R → Option R := lid "law11_light_p N" (law11_light_p0 N)
theorem law11_light_pe {R : Type} (N : Nat) (a0 : C) (k : KD R) : law11_light_p N a0 k = law11_light_p0 N a0 k := by unfold law11_light_p; rw [lid_eq]
theorem law11_light_run {R : Type} (N : Nat) (a0 : C) (K : V → List (Key × O) → Option R) : exF (X0 gl0) ((law11_light_ov N).ov R) extX (fun f r => bif Nat.beq f 7 then (bif Nat.beq r 0 then [(1, 5)] else []) else []) (fun f => bif Nat.beq f 7 then law11_light_hs else []) N 400 8 7 [.d tWorld a0] A0 K =
    law11_light_p N a0 (fun d1 m1 => K (V.d Ty.bool (C.bool (C.toBool (dk d1 0)))) []) := by
  rw [law11_light_pe]
  exact (show _ = jn (fun d1 m1 => (K (V.d Ty.bool (C.bool (C.toBool (dk d1 0)))) [])) (law11_light_p0 N a0) by kernel_rfl).trans (jn_eq _ _)
noncomputable def law11_light_g (N : Nat) {R : Type} : OvG R := fun xs _ K => match xs with
  | [.d t0 a0] => if t0 = tWorld then law11_light_p N a0 (fun d1 m1 => K (V.d Ty.bool (C.bool (C.toBool (dk d1 0)))) []) else none
  | _ => none
theorem law11_light_ok (N : Nat) {R : Type} : GOk (X0 gl0) 7 (law11_light_g N (R := R)) := by
  intro xs A Kr r hr
  unfold law11_light_g at hr
  split at hr
  · simp only [Option.ite_none_right_eq_some] at hr
    obtain ⟨hty, hr⟩ := hr
    subst hty
    rw [← law11_light_run] at hr
    obtain ⟨v, L, h1, h2⟩ := exF_ok (ok0 gl0) (mo gl0) ((law11_light_ov N).ov_ok _) (extX_ok gl0) _ _ _ _ _ _ hr
    exact ⟨v, L, h1.mono (leA_none fun _ => rfl), h2⟩
  · cases hr
end Go.Proofs.YthbdeooemkejmaaDoor


namespace Go.Proofs.YthbdeooemkejmaaDoor
open Go Go.E
set_option maxRecDepth 100000
set_option maxHeartbeats 4000000
set_option linter.unusedSimpArgs false
variable {R : Type} {N : Nat}
def runR (p : List C) (w : C) (gas : Int) : Int × Int × Int := if 256 < p.length ∨ gas < 0 ∨ 4096 < gas then (0, 0, 1) else runV p gas w 0 0 ⟨[], 0⟩
theorem run_eq {p : List C} (hp : C.wf (.slice 1 (.int .u8)) (.slice p)) {gas : Int} {w : C} (hw : WOk w) (hN : 5000 < N) (k : KD R) :
    code_Run_p N (.slice p) w (.int gas) k = k [.int (runR p w gas).1, .int (runR p w gas).2.1, .int (runR p w gas).2.2] [] := by
  unfold runR
  by_cases h : 256 < p.length ∨ gas < 0 ∨ 4096 < gas
  · rw [if_pos h, code_Run_pe]
    unfold code_Run_p0
    simp only [go_sem, c_int, c_slice, c_bool]
    by_cases a1 : (256 : Int) < (p.length : Int)
    · simp [a1]
    by_cases a2 : gas < 0
    · simp [a1, a2]
    have a3 : (4096 : Int) < gas := by omega
    simp [a1, a2, a3]
  · rw [if_neg h]
    exact run_st hp (by omega) (by omega) hw hN k
theorem wf_bytes {l : List C} (h : ∀ c ∈ l, c = .int c.toInt ∧ 0 ≤ c.toInt ∧ c.toInt ≤ 255) (hl : l.length ≤ 100000) : C.wf (.slice 1 (.int .u8)) (.slice l) := by
  have m1 : IntKind.u8.min = 0 := by decide
  have m2 : IntKind.u8.max = 255 := by decide
  simp only [C.wf, C.elems]
  refine ⟨trivial, by omega, by omega, fun c hc => ?_⟩
  obtain ⟨h1, h2, h3⟩ := h c hc
  exact ⟨h1, by omega, by omega⟩
def w0 : C := .agg [.slice [], .slice [], .int 0]
theorem w0_ok : WOk w0 := ⟨by simp [w0, C.get, C.elems], by simp [w0, C.get, C.elems], by simp [w0, C.get, C.elems], rfl⟩
theorem awake_eq (hN : 5000 < N) (k : KD R) : law11_awake_p N k = k [.bool true] [] := by
  rw [law11_awake_pe]
  unfold law11_awake_p0
  have hz : (C.agg [C.slice [], C.slice [], zeroC (Ty.int IntKind.u64)]) = w0 := rfl
  have hp : ∀ (a b : Int), C.slice [C.int (IntKind.wrap IntKind.u8 (Int.ofNat 1)), C.int (IntKind.wrap IntKind.u8 (Int.ofNat 0)),
    C.int (IntKind.wrap IntKind.u8 (Int.ofNat 0)), C.int (IntKind.wrap IntKind.u8 (Int.ofNat 0)),
    C.int (IntKind.wrap IntKind.u8 (Int.ofNat 0)), C.int (IntKind.wrap IntKind.u8 (Int.ofNat 0)),
    C.int (IntKind.wrap IntKind.u8 (Int.ofNat 0)), C.int (IntKind.wrap IntKind.u8 (Int.ofNat 0)),
    C.int (IntKind.wrap IntKind.u8 (Int.ofNat 2)), C.int (IntKind.wrap IntKind.u8 (Int.ofNat 1)),
    C.int (IntKind.wrap IntKind.u8 (Int.ofNat 0)), C.int (IntKind.wrap IntKind.u8 (Int.ofNat 0)),
    C.int (IntKind.wrap IntKind.u8 (Int.ofNat 0)), C.int (IntKind.wrap IntKind.u8 (Int.ofNat 0)),
    C.int (IntKind.wrap IntKind.u8 (Int.ofNat 0)), C.int (IntKind.wrap IntKind.u8 (Int.ofNat 0)),
    C.int (IntKind.wrap IntKind.u8 (Int.ofNat 0)), C.int (IntKind.wrap IntKind.u8 (Int.ofNat 3)),
    C.int (IntKind.wrap IntKind.u8 (Int.ofNat 6)), C.int (IntKind.wrap IntKind.u8 0)] = C.slice ([1, 0, 0, 0, 0, 0, 0, 0, 2, 1, 0, 0, 0, 0, 0, 0, 0, 3, 6, 0].map C.int) := fun _ _ => rfl
  have hq : C.slice [C.int 11, C.int 0, C.int 0] = C.slice ([11, 0, 0].map C.int) := rfl
  have wfm : ∀ l : List Int, l.all (fun x => decide (0 ≤ x) && decide (x ≤ 255)) = true → l.length ≤ 100 → C.wf (.slice 1 (.int .u8)) (.slice (l.map C.int)) := fun l h hl => wf_bytes (fun c hc => by
    obtain ⟨x, hx, rfl⟩ := List.mem_map.1 hc
    have := List.all_eq_true.1 h x hx
    simp at this
    exact ⟨rfl, this.1, this.2⟩) (by simp; omega)
  have r1 : runR ([1, 0, 0, 0, 0, 0, 0, 0, 2, 1, 0, 0, 0, 0, 0, 0, 0, 3, 6, 0].map C.int) w0 100 = (1, 4, 0) := by kernel_rfl
  have r2 : runR ([11, 0, 0].map C.int) w0 50 = (0, 50, 24) := by kernel_rfl
  have q1 := fun k : KD R => run_eq (gas := 100) (wfm [1, 0, 0, 0, 0, 0, 0, 0, 2, 1, 0, 0, 0, 0, 0, 0, 0, 3, 6, 0] (by decide) (by decide)) w0_ok hN k
  have q2 := fun k : KD R => run_eq (gas := 50) (wfm [11, 0, 0] (by decide) (by decide)) w0_ok hN k
  rw [hp 0 0, hq, hz]
  simp only [q1, q2, r1, r2, jn_eq, dk_0, dk_1, dk_2, c_int, c_bool, decide_true, cond_true]
theorem light_eq (w : C) (k : KD R) : law11_light_p N w k = k [.bool (decide ((w.get 0).elems.length ≤ 300 ∧ (w.get 1).elems.length ≤ 300))] [] := by
  rw [law11_light_pe]
  unfold law11_light_p0
  simp only [go_sem, c_bool]
  by_cases h1 : ((w.get 0).elems.length : Int) ≤ 300
  · by_cases h2 : ((w.get 1).elems.length : Int) ≤ 300
    · have h1' : (w.get 0).elems.length ≤ 300 := by omega
      have h2' : (w.get 1).elems.length ≤ 300 := by omega
      simp [h1, h2, h1', h2']
    · have h2' : ¬ (w.get 1).elems.length ≤ 300 := by omega
      simp [h1, h2, h2']
  · have h1' : ¬ (w.get 0).elems.length ≤ 300 := by omega
    simp [h1, h1']
def toW (w : C) : C := .agg [.slice (w.get 0).elems, .slice (w.get 1).elems, w.get 2]
theorem to_eq (w : C) (k : KD R) : law11_to_p N w k = k [toW w] [] := by
  rw [law11_to_pe]
  unfold law11_to_p0
  simp only [Nat.beq_refl, Bool.and_true, cond_true]
  rfl
theorem toW_ok {w : C} (hw : C.wf tWorld w) (h0 : (w.get 0).elems.length ≤ 300) (h1 : (w.get 1).elems.length ≤ 300) : WOk (toW w) := by
  have f0 : C.wf (.slice 8 (.int .u64)) (w.get 0) := C.wf_field (i := 0) hw rfl
  have f2 : C.wf (.int .u64) (w.get 2) := C.wf_field (i := 2) hw rfl
  refine ⟨fun c hc => ?_, ?_, ?_, ?_⟩
  · simp only [C.wf] at f0
    exact (f0.2.2.2 c hc).1
  · show (w.get 0).elems.length < _; omega
  · show (w.get 1).elems.length < _; omega
  · simp only [C.wf] at f2
    exact f2.1
end Go.Proofs.YthbdeooemkejmaaDoor


namespace Go.Proofs.YthbdeooemkejmaaDoor
open Go Go.E
set_option maxRecDepth 100000
set_option maxHeartbeats 4000000
set_option linter.unusedVariables false
noncomputable def ref11_More_hs : Hints := [([1, 0, 3, 1, 4, 1, 0, 1], ⟨[3], [(6, .d .bool)], [], [], [], []⟩),
    ([1, 0, 3, 1, 3, 1, 4, 1, 0, 1], ⟨[], [(9, .d .bool)], [], [], [], []⟩),
    ([9], ⟨[], [(2, .d (.int .i64))], [], [], [], []⟩)]
noncomputable def ref11_More_ov (N : Nat) : OvS (X0 gl0) where
  g R := []
  ok := fun R => fun _ h => nomatch h
noncomputable def ref11_More_p0 {R : Type} (N : Nat) (a0 : C) (k1 : KD R) : Option R := (bif decide (C.toInt a0 = 1) then (k1 [C.int 8] []) else (jn (fun d1 m1 => (bif C.toBool (dk d1 1) then (k1 [C.int 1] []) else (jn (fun d2 m2 => (bif C.toBool (dk d2 0) then (k1 [C.int 2] []) else (k1 [C.int 0] []))) (fun k2 => (bif decide (C.toInt (dk d1 0) = 11) then (k2 [litC (C.bool (decide (C.toInt (dk d1 0) = 11))) true] []) else (k2 [C.bool (decide (C.toInt (dk d1 0) = 12))] [])))))) (fun k2 => (bif decide (C.toInt a0 = 2) then (k2 [a0, litC (C.bool (decide (C.toInt a0 = 2))) true] []) else (k2 [a0, C.bool (decide (C.toInt a0 = 16))] [])))))
noncomputable def ref11_More_p {R : Type} (N : Nat) : C → KD R → Option R := lid "ref11_More_p N" (ref11_More_p0 N)
theorem ref11_More_pe {R : Type} (N : Nat) (a0 : C) (k : KD R) : ref11_More_p N a0 k = ref11_More_p0 N a0 k := by unfold ref11_More_p; rw [lid_eq]
theorem ref11_More_run {R : Type} (N : Nat) (a0 : C) (K : V → List (Key × O) → Option R) : exF (X0 gl0) ((ref11_More_ov N).ov R) extX noX (fun f => bif Nat.beq f 20 then ref11_More_hs else []) N 400 8 20 [.d (.int .i64) a0] A0 K =
    ref11_More_p N a0 (fun d1 m1 => K (V.d (Ty.int IntKind.i64) (dk d1 0)) []) := by
  rw [ref11_More_pe]
  exact (show _ = jn (fun d1 m1 => (K (V.d (Ty.int IntKind.i64) (dk d1 0)) [])) (ref11_More_p0 N a0) by kernel_rfl).trans (jn_eq _ _)
noncomputable def ref11_More_g (N : Nat) {R : Type} : OvG R := fun xs _ K => match xs with
  | [.d t0 a0] => if t0 = (.int .i64) then ref11_More_p N a0 (fun d1 m1 => K (V.d (Ty.int IntKind.i64) (dk d1 0)) []) else none
  | _ => none
theorem ref11_More_ok (N : Nat) {R : Type} : GOk (X0 gl0) 20 (ref11_More_g N (R := R)) := by
  intro xs A Kr r hr
  unfold ref11_More_g at hr
  split at hr
  · simp only [Option.ite_none_right_eq_some] at hr
    obtain ⟨hty, hr⟩ := hr
    subst hty
    rw [← ref11_More_run] at hr
    obtain ⟨v, L, h1, h2⟩ := exF_ok (ok0 gl0) (mo gl0) ((ref11_More_ov N).ov_ok _) (extX_ok gl0) _ _ _ _ _ _ hr
    exact ⟨v, L, h1.mono (leA_none fun _ => rfl), h2⟩
  · cases hr
end Go.Proofs.YthbdeooemkejmaaDoor


namespace Go.Proofs.YthbdeooemkejmaaDoor
open Go Go.E
set_option maxRecDepth 100000
set_option maxHeartbeats 4000000
set_option linter.unusedVariables false
noncomputable def ref11_Order_hs : Hints := [([1, 0, 1, 1, 1, 1, 1, 1], ⟨[7], [(8, .d (.int .u64))], [], [], [], []⟩),
    ([4, 1, 0, 1, 1, 1, 1, 1, 1], ⟨[0, 1, 7], [(8, .d (.int .u64)), (9, .d (.int .i64))], [], [], [], []⟩),
    ([9], ⟨[], [(4, .d (.int .i64)), (5, .d (.int .u64)), (6, .d (.int .i64))], [], [], [], []⟩)]
noncomputable def ref11_Order_ov (N : Nat) : OvS (X0 gl0) where
  g R := [(20, ref11_More_g N)]
  ok := fun R => List.forall_mem_cons.2 ⟨ref11_More_ok N, fun _ h => nomatch h⟩
noncomputable def ref11_Order_l1 {R : Type} (N : Nat) (k2 : KD R) : KD R → List C → List Es → Option R := (fun k3 d2 m2 => (ref11_More_p N (dk d2 2) (fun d3 m3 => (bif decide (C.toInt (dk d2 4) < C.toInt (dk d3 0)) then (if 0 ≤ IntKind.wrap IntKind.i64 (IntKind.wrap IntKind.i64 (C.toInt (dk d2 1) + 1) + C.toInt (dk d2 4)) ∧ IntKind.wrap IntKind.i64 (IntKind.wrap IntKind.i64 (C.toInt (dk d2 1) + 1) + C.toInt (dk d2 4)) < (↑(List.length (C.elems (dk d2 0))) : Int) then (k3 [dk d2 0, dk d2 1, dk d2 2, C.int (IntKind.wrap IntKind.u64 (IntKind.wrap IntKind.u64 (C.toInt (dk d2 3) * 256) + IntKind.wrap IntKind.u64 (C.toInt (List.getD (C.elems (dk d2 0)) (Int.toNat (IntKind.wrap IntKind.i64 (IntKind.wrap IntKind.i64 (C.toInt (dk d2 1) + 1) + C.toInt (dk d2 4)))) C.nil)))), C.int (IntKind.wrap IntKind.i64 (C.toInt (dk d2 4) + 1))] []) else none) else (k2 [dk d2 2, dk d2 3] [])))))
noncomputable def ref11_Order_p0 {R : Type} (N : Nat) (a0 a1 : C) (k1 : KD R) : Option R := (bif decide ((↑(List.length (C.elems a0)) : Int) ≤ C.toInt a1) then (k1 [C.int 0, C.int 0, C.int 9] []) else (if 0 ≤ C.toInt a1 ∧ C.toInt a1 < (↑(List.length (C.elems a0)) : Int) then (bif decide (17 < IntKind.wrap IntKind.i64 (C.toInt (List.getD (C.elems a0) (Int.toNat (C.toInt a1)) C.nil))) then (k1 [C.int 0, C.int 0, C.int 33] []) else (ref11_More_p N (C.int (IntKind.wrap IntKind.i64 (C.toInt (List.getD (C.elems a0) (Int.toNat (C.toInt a1)) C.nil)))) (fun d1 m1 => (bif decide ((↑(List.length (C.elems a0)) : Int) < IntKind.wrap IntKind.i64 (IntKind.wrap IntKind.i64 (C.toInt a1 + 1) + C.toInt (dk d1 0))) then (k1 [C.int 0, C.int 0, C.int 9] []) else (jn (fun d2 m2 => (k1 [dk d2 0, dk d2 1, C.int 0] [])) (fun k2 => (loopK N (ref11_Order_l1 N k2) [a0, a1, C.int (IntKind.wrap IntKind.i64 (C.toInt (List.getD (C.elems a0) (Int.toNat (C.toInt a1)) C.nil))), C.int 0, C.int 0] []))))))) else none))
noncomputable def ref11_Order_p {R : Type} (N : Nat) : C → C → KD R → Option R := lid "ref11_Order_p N" (ref11_Order_p0 N)
theorem ref11_Order_pe {R : Type} (N : Nat) (a0 a1 : C) (k : KD R) : ref11_Order_p N a0 a1 k = ref11_Order_p0 N a0 a1 k := by unfold ref11_Order_p; rw [lid_eq]
theorem ref11_Order_run {R : Type} (N : Nat) (a0 a1 : C) (K : V → List (Key × O) → Option R) : exF (X0 gl0) ((ref11_Order_ov N).ov R) extX noX (fun f => bif Nat.beq f 16 then ref11_Order_hs else []) N 400 8 16 [.d (.slice 1 (.int .u8)) a0, .d (.int .i64) a1] A0 K =
    ref11_Order_p N a0 a1 (fun d1 m1 => K (V.tup [V.d (Ty.int IntKind.i64) (dk d1 0), V.d (Ty.int IntKind.u64) (dk d1 1), V.d (Ty.int IntKind.i64) (dk d1 2)]) []) := by
  rw [ref11_Order_pe]
  exact (show _ = jn (fun d1 m1 => (K (V.tup [V.d (Ty.int IntKind.i64) (dk d1 0), V.d (Ty.int IntKind.u64) (dk d1 1), V.d (Ty.int IntKind.i64) (dk d1 2)]) [])) (ref11_Order_p0 N a0 a1) by kernel_rfl).trans (jn_eq _ _)
noncomputable def ref11_Order_g (N : Nat) {R : Type} : OvG R := fun xs _ K => match xs with
  | [.d t0 a0, .d t1 a1] => if t0 = (.slice 1 (.int .u8)) ∧ t1 = (.int .i64) then ref11_Order_p N a0 a1 (fun d1 m1 => K (V.tup [V.d (Ty.int IntKind.i64) (dk d1 0), V.d (Ty.int IntKind.u64) (dk d1 1), V.d (Ty.int IntKind.i64) (dk d1 2)]) []) else none
  | _ => none
theorem ref11_Order_ok (N : Nat) {R : Type} : GOk (X0 gl0) 16 (ref11_Order_g N (R := R)) := by
  intro xs A Kr r hr
  unfold ref11_Order_g at hr
  split at hr
  · simp only [Option.ite_none_right_eq_some] at hr
    obtain ⟨hty, hr⟩ := hr
    obtain ⟨rfl, rfl⟩ := hty
    rw [← ref11_Order_run] at hr
    obtain ⟨v, L, h1, h2⟩ := exF_ok (ok0 gl0) (mo gl0) ((ref11_Order_ov N).ov_ok _) (extX_ok gl0) _ _ _ _ _ _ hr
    exact ⟨v, L, h1.mono (leA_none fun _ => rfl), h2⟩
  · cases hr
end Go.Proofs.YthbdeooemkejmaaDoor


namespace Go.Proofs.YthbdeooemkejmaaDoor
open Go Go.E
set_option maxRecDepth 100000
set_option maxHeartbeats 4000000
set_option linter.unusedVariables false
noncomputable def ref11_Cost_hs : Hints := [([9], ⟨[], [(2, .d (.int .i64))], [], [], [], []⟩)]
noncomputable def ref11_Cost_ov (N : Nat) : OvS (X0 gl0) where
  g R := []
  ok := fun R => fun _ h => nomatch h
noncomputable def ref11_Cost_p0 {R : Type} (N : Nat) (a0 : C) (k1 : KD R) : Option R := (bif decide (C.toInt a0 = 5) then (k1 [C.int 3] []) else (bif decide (C.toInt a0 = 16) then (k1 [C.int 10] []) else (k1 [C.int 1] [])))
noncomputable def ref11_Cost_p {R : Type} (N : Nat) : C → KD R → Option R := lid "ref11_Cost_p N" (ref11_Cost_p0 N)
theorem ref11_Cost_pe {R : Type} (N : Nat) (a0 : C) (k : KD R) : ref11_Cost_p N a0 k = ref11_Cost_p0 N a0 k := by unfold ref11_Cost_p; rw [lid_eq]
theorem ref11_Cost_run {R : Type} (N : Nat) (a0 : C) (K : V → List (Key × O) → Option R) : exF (X0 gl0) ((ref11_Cost_ov N).ov R) extX noX (fun f => bif Nat.beq f 17 then ref11_Cost_hs else []) N 400 8 17 [.d (.int .i64) a0] A0 K =
    ref11_Cost_p N a0 (fun d1 m1 => K (V.d (Ty.int IntKind.i64) (dk d1 0)) []) := by
  rw [ref11_Cost_pe]
  exact (show _ = jn (fun d1 m1 => (K (V.d (Ty.int IntKind.i64) (dk d1 0)) [])) (ref11_Cost_p0 N a0) by kernel_rfl).trans (jn_eq _ _)
noncomputable def ref11_Cost_g (N : Nat) {R : Type} : OvG R := fun xs _ K => match xs with
  | [.d t0 a0] => if t0 = (.int .i64) then ref11_Cost_p N a0 (fun d1 m1 => K (V.d (Ty.int IntKind.i64) (dk d1 0)) []) else none
  | _ => none
theorem ref11_Cost_ok (N : Nat) {R : Type} : GOk (X0 gl0) 17 (ref11_Cost_g N (R := R)) := by
  intro xs A Kr r hr
  unfold ref11_Cost_g at hr
  split at hr
  · simp only [Option.ite_none_right_eq_some] at hr
    obtain ⟨hty, hr⟩ := hr
    subst hty
    rw [← ref11_Cost_run] at hr
    obtain ⟨v, L, h1, h2⟩ := exF_ok (ok0 gl0) (mo gl0) ((ref11_Cost_ov N).ov_ok _) (extX_ok gl0) _ _ _ _ _ _ hr
    exact ⟨v, L, h1.mono (leA_none fun _ => rfl), h2⟩
  · cases hr
end Go.Proofs.YthbdeooemkejmaaDoor


namespace Go.Proofs.YthbdeooemkejmaaDoor
open Go Go.E
set_option maxRecDepth 100000
set_option maxHeartbeats 4000000
set_option linter.unusedVariables false
noncomputable def ref11_Takes_hs : Hints := [([1, 0, 4, 1, 0, 1], ⟨[3], [(4, .d .bool)], [], [], [], []⟩),
    ([1, 3, 1, 0, 4, 1, 0, 1], ⟨[3], [(4, .d .bool)], [], [], [], []⟩),
    ([1, 3, 1, 3, 1, 0, 4, 1, 0, 1], ⟨[3], [(4, .d .bool)], [], [], [], []⟩),
    ([1, 3, 1, 3, 1, 3, 1, 0, 4, 1, 0, 1], ⟨[3], [(4, .d .bool)], [], [], [], []⟩),
    ([1, 0, 3, 1, 4, 1, 0, 1], ⟨[], [(10, .d .bool)], [], [], [], []⟩),
    ([1, 3, 1, 0, 3, 1, 4, 1, 0, 1], ⟨[], [(10, .d .bool)], [], [], [], []⟩),
    ([1, 3, 1, 3, 1, 0, 3, 1, 4, 1, 0, 1], ⟨[], [(10, .d .bool)], [], [], [], []⟩),
    ([1, 3, 1, 3, 1, 3, 1, 0, 3, 1, 4, 1, 0, 1], ⟨[], [(10, .d .bool)], [], [], [], []⟩),
    ([1, 3, 1, 3, 1, 3, 1, 3, 1, 0, 3, 1, 4, 1, 0, 1], ⟨[], [(10, .d .bool)], [], [], [], []⟩),
    ([1, 3, 1, 3, 1, 3, 1, 3, 1, 3, 1, 0, 3, 1, 4, 1, 0, 1], ⟨[], [(10, .d .bool)], [], [], [], []⟩),
    ([1, 3, 1, 3, 1, 3, 1, 3, 1, 3, 1, 3, 1, 0, 3, 1, 4, 1, 0, 1], ⟨[], [(10, .d .bool)], [], [], [], []⟩),
    ([9], ⟨[], [(2, .d (.int .i64))], [], [], [], []⟩)]
noncomputable def ref11_Takes_ov (N : Nat) : OvS (X0 gl0) where
  g R := []
  ok := fun R => fun _ h => nomatch h
noncomputable def ref11_Takes_p0 {R : Type} (N : Nat) (a0 : C) (k1 : KD R) : Option R := (jn (fun d1 m1 => (bif C.toBool (dk d1 1) then (k1 [C.int 1] []) else (jn (fun d2 m2 => (bif C.toBool (dk d2 0) then (k1 [C.int 2] []) else (k1 [C.int 0] []))) (fun k2 => (bif decide (C.toInt (dk d1 0) = 3) then (k2 [litC (C.bool (decide (C.toInt (dk d1 0) = 3))) true] []) else (jn (fun d2 m2 => (k2 [C.bool (C.toBool (dk d2 0))] [])) (fun k3 => (bif decide (C.toInt (dk d1 0) = 4) then (k3 [litC (C.bool (decide (C.toInt (dk d1 0) = 4))) true] []) else (jn (fun d2 m2 => (k3 [C.bool (C.toBool (dk d2 0))] [])) (fun k4 => (bif decide (C.toInt (dk d1 0) = 5) then (k4 [litC (C.bool (decide (C.toInt (dk d1 0) = 5))) true] []) else (jn (fun d2 m2 => (k4 [C.bool (C.toBool (dk d2 0))] [])) (fun k5 => (bif decide (C.toInt (dk d1 0) = 6) then (k5 [litC (C.bool (decide (C.toInt (dk d1 0) = 6))) true] []) else (jn (fun d2 m2 => (k5 [C.bool (C.toBool (dk d2 0))] [])) (fun k6 => (bif decide (C.toInt (dk d1 0) = 7) then (k6 [litC (C.bool (decide (C.toInt (dk d1 0) = 7))) true] []) else (jn (fun d2 m2 => (k6 [C.bool (C.toBool (dk d2 0))] [])) (fun k7 => (bif decide (C.toInt (dk d1 0) = 9) then (k7 [litC (C.bool (decide (C.toInt (dk d1 0) = 9))) true] []) else (jn (fun d2 m2 => (k7 [C.bool (C.toBool (dk d2 0))] [])) (fun k8 => (bif decide (C.toInt (dk d1 0) = 10) then (k8 [litC (C.bool (decide (C.toInt (dk d1 0) = 10))) true] []) else (k8 [C.bool (decide (C.toInt (dk d1 0) = 14))] [])))))))))))))))))))))))) (fun k2 => (bif decide (C.toInt a0 = 0) then (k2 [a0, litC (C.bool (decide (C.toInt a0 = 0))) true] []) else (jn (fun d1 m1 => (k2 [dk d1 0, C.bool (C.toBool (dk d1 1))] [])) (fun k3 => (bif decide (C.toInt a0 = 8) then (k3 [a0, litC (C.bool (decide (C.toInt a0 = 8))) true] []) else (jn (fun d1 m1 => (k3 [dk d1 0, C.bool (C.toBool (dk d1 1))] [])) (fun k4 => (bif decide (C.toInt a0 = 12) then (k4 [a0, litC (C.bool (decide (C.toInt a0 = 12))) true] []) else (jn (fun d1 m1 => (k4 [dk d1 0, C.bool (C.toBool (dk d1 1))] [])) (fun k5 => (bif decide (C.toInt a0 = 13) then (k5 [a0, litC (C.bool (decide (C.toInt a0 = 13))) true] []) else (k5 [a0, C.bool (decide (C.toInt a0 = 15))] [])))))))))))))
noncomputable def ref11_Takes_p {R : Type} (N : Nat) : C → KD R → Option R := lid "ref11_Takes_p N" (ref11_Takes_p0 N)
theorem ref11_Takes_pe {R : Type} (N : Nat) (a0 : C) (k : KD R) : ref11_Takes_p N a0 k = ref11_Takes_p0 N a0 k := by unfold ref11_Takes_p; rw [lid_eq]
theorem ref11_Takes_run {R : Type} (N : Nat) (a0 : C) (K : V → List (Key × O) → Option R) : exF (X0 gl0) ((ref11_Takes_ov N).ov R) extX noX (fun f => bif Nat.beq f 18 then ref11_Takes_hs else []) N 400 8 18 [.d (.int .i64) a0] A0 K =
    ref11_Takes_p N a0 (fun d1 m1 => K (V.d (Ty.int IntKind.i64) (dk d1 0)) []) := by
  rw [ref11_Takes_pe]
  exact (show _ = jn (fun d1 m1 => (K (V.d (Ty.int IntKind.i64) (dk d1 0)) [])) (ref11_Takes_p0 N a0) by kernel_rfl).trans (jn_eq _ _)
noncomputable def ref11_Takes_g (N : Nat) {R : Type} : OvG R := fun xs _ K => match xs with
  | [.d t0 a0] => if t0 = (.int .i64) then ref11_Takes_p N a0 (fun d1 m1 => K (V.d (Ty.int IntKind.i64) (dk d1 0)) []) else none
  | _ => none
theorem ref11_Takes_ok (N : Nat) {R : Type} : GOk (X0 gl0) 18 (ref11_Takes_g N (R := R)) := by
  intro xs A Kr r hr
  unfold ref11_Takes_g at hr
  split at hr
  · simp only [Option.ite_none_right_eq_some] at hr
    obtain ⟨hty, hr⟩ := hr
    subst hty
    rw [← ref11_Takes_run] at hr
    obtain ⟨v, L, h1, h2⟩ := exF_ok (ok0 gl0) (mo gl0) ((ref11_Takes_ov N).ov_ok _) (extX_ok gl0) _ _ _ _ _ _ hr
    exact ⟨v, L, h1.mono (leA_none fun _ => rfl), h2⟩
  · cases hr
end Go.Proofs.YthbdeooemkejmaaDoor


namespace Go.Proofs.YthbdeooemkejmaaDoor
open Go Go.E
set_option maxRecDepth 100000
set_option maxHeartbeats 4000000
set_option linter.unusedVariables false
noncomputable def ref11_one_hs : Hints := [([9], ⟨[], [(2, .d (.int .u64))], [], [], [], []⟩)]
noncomputable def ref11_one_ov (N : Nat) : OvS (X0 gl0) where
  g R := []
  ok := fun R => fun _ h => nomatch h
noncomputable def ref11_one_p0 {R : Type} (N : Nat) (a0 : C) (k1 : KD R) : Option R := (bif C.toBool a0 then (k1 [C.int 1] []) else (k1 [C.int 0] []))
noncomputable def ref11_one_p {R : Type} (N : Nat) : C → KD R → Option R := lid "ref11_one_p N" (ref11_one_p0 N)
theorem ref11_one_pe {R : Type} (N : Nat) (a0 : C) (k : KD R) : ref11_one_p N a0 k = ref11_one_p0 N a0 k := by unfold ref11_one_p; rw [lid_eq]
theorem ref11_one_run {R : Type} (N : Nat) (a0 : C) (K : V → List (Key × O) → Option R) : exF (X0 gl0) ((ref11_one_ov N).ov R) extX noX (fun f => bif Nat.beq f 34 then ref11_one_hs else []) N 400 8 34 [.d .bool a0] A0 K =
    ref11_one_p N a0 (fun d1 m1 => K (V.d (Ty.int IntKind.u64) (dk d1 0)) []) := by
  rw [ref11_one_pe]
  exact (show _ = jn (fun d1 m1 => (K (V.d (Ty.int IntKind.u64) (dk d1 0)) [])) (ref11_one_p0 N a0) by kernel_rfl).trans (jn_eq _ _)
noncomputable def ref11_one_g (N : Nat) {R : Type} : OvG R := fun xs _ K => match xs with
  | [.d t0 a0] => if t0 = .bool then ref11_one_p N a0 (fun d1 m1 => K (V.d (Ty.int IntKind.u64) (dk d1 0)) []) else none
  | _ => none
theorem ref11_one_ok (N : Nat) {R : Type} : GOk (X0 gl0) 34 (ref11_one_g N (R := R)) := by
  intro xs A Kr r hr
  unfold ref11_one_g at hr
  split at hr
  · simp only [Option.ite_none_right_eq_some] at hr
    obtain ⟨hty, hr⟩ := hr
    subst hty
    rw [← ref11_one_run] at hr
    obtain ⟨v, L, h1, h2⟩ := exF_ok (ok0 gl0) (mo gl0) ((ref11_one_ov N).ov_ok _) (extX_ok gl0) _ _ _ _ _ _ hr
    exact ⟨v, L, h1.mono (leA_none fun _ => rfl), h2⟩
  · cases hr
end Go.Proofs.YthbdeooemkejmaaDoor


namespace Go.Proofs.YthbdeooemkejmaaDoor
open Go Go.E
set_option maxRecDepth 100000
set_option maxHeartbeats 4000000
set_option linter.unusedVariables false
noncomputable def ref11_lays_hs : Hints := [([1, 4, 1, 0, 1, 1], ⟨[], [(12, .d (.int .u64)), (13, .d (.int .i64))], [], [], [], []⟩),
    ([1, 3, 1, 4, 1, 0, 1, 1], ⟨[], [(12, .d (.int .u64)), (13, .d (.int .i64))], [], [], [], []⟩),
    ([1, 3, 1, 3, 1, 4, 1, 0, 1, 1], ⟨[], [(12, .d (.int .u64)), (13, .d (.int .i64))], [], [], [], []⟩),
    ([1, 3, 1, 3, 1, 3, 1, 4, 1, 0, 1, 1], ⟨[], [(12, .d (.int .u64)), (13, .d (.int .i64))], [], [], [], []⟩),
    ([1, 3, 1, 3, 1, 3, 1, 3, 1, 4, 1, 0, 1, 1], ⟨[], [(12, .d (.int .u64)), (13, .d (.int .i64))], [], [], [], []⟩),
    ([1, 3, 1, 3, 1, 3, 1, 3, 1, 3, 1, 4, 1, 0, 1, 1], ⟨[13], [(12, .d (.int .u64))], [], [], [], []⟩),
    ([1, 3, 1, 3, 1, 3, 1, 3, 1, 3, 1, 3, 1, 4, 1, 0, 1, 1], ⟨[13], [(12, .d (.int .u64))], [], [], [], []⟩),
    ([1, 3, 1, 3, 1, 3, 1, 3, 1, 3, 1, 3, 1, 3, 1, 4, 1, 0, 1, 1], ⟨[13], [(12, .d (.int .u64))], [], [], [], []⟩),
    ([1, 3, 1, 3, 1, 3, 1, 3, 1, 3, 1, 3, 1, 3, 1, 3, 1, 4, 1, 0, 1, 1], ⟨[13], [(12, .d (.int .u64))], [], [], [], []⟩),
    ([2, 1, 3, 1, 3, 1, 3, 1, 3, 1, 3, 1, 3, 1, 3, 1, 3, 1, 4, 1, 0, 1, 1], ⟨[13], [(12, .d (.int .u64))], [], [], [], []⟩),
    ([1, 3, 1, 3, 1, 3, 1, 3, 1, 3, 1, 3, 1, 3, 1, 3, 1, 3, 1, 4, 1, 0, 1, 1], ⟨[13], [(12, .d (.int .u64))], [], [], [], []⟩),
    ([2, 1, 3, 1, 3, 1, 3, 1, 3, 1, 3, 1, 3, 1, 3, 1, 3, 1, 3, 1, 4, 1, 0, 1, 1], ⟨[13], [(12, .d (.int .u64))], [], [], [], []⟩),
    ([1, 3, 1, 3, 1, 3, 1, 3, 1, 3, 1, 3, 1, 3, 1, 3, 1, 3, 1, 3, 1, 3, 1, 3, 1, 4, 1, 0, 1, 1], ⟨[13], [(12, .d (.int .u64))], [], [], [], []⟩),
    ([9], ⟨[], [(10, .d (.slice 8 (.int .u64))), (11, .d (.int .i64))], [], [], [], []⟩)]
noncomputable def ref11_lays_ov (N : Nat) : OvS (X0 gl0) where
  g R := [(31, ref02_Add_g N), (32, ref02_Sub_g N), (33, ref02_Mul_g N), (34, ref11_one_g N)]
  ok := fun R => List.forall_mem_cons.2 ⟨ref02_Add_ok N, List.forall_mem_cons.2 ⟨ref02_Sub_ok N, List.forall_mem_cons.2 ⟨ref02_Mul_ok N, List.forall_mem_cons.2 ⟨ref11_one_ok N, fun _ h => nomatch h⟩⟩⟩⟩
noncomputable def ref11_lays_p0 {R : Type} (N : Nat) (a0 a1 a2 a3 a4 : C) (k1 : KD R) : Option R := (jn (fun d1 m1 => (bif !decide (C.toInt (dk d1 1) = 0) then (k1 [C.slice [], dk d1 1] []) else (k1 [C.slice [dk d1 0], C.int 0] []))) (fun k2 => (bif decide (C.toInt a0 = 1) then (k2 [a1, C.int 0] []) else (jn (fun d1 m1 => (k2 [dk d1 0, dk d1 1] [])) (fun k3 => (bif decide (C.toInt a0 = 2) then (bif decide (IntKind.wrap IntKind.u64 (↑(List.length (C.elems (C.get a2 0))) : Int) ≤ C.toInt a1) then (k1 [C.slice [], C.int 1] []) else (if 0 ≤ C.toInt a1 ∧ C.toInt a1 < (↑(List.length (C.elems (C.get a2 0))) : Int) then (k3 [List.getD (C.elems (C.get a2 0)) (Int.toNat (C.toInt a1)) C.nil, C.int 0] []) else none)) else (jn (fun d1 m1 => (k3 [dk d1 0, dk d1 1] [])) (fun k4 => (bif decide (C.toInt a0 = 3) then (ref02_Add_p N a3 a4 (fun d1 m1 => (k4 [dk d1 0, dk d1 1] []))) else (jn (fun d1 m1 => (k4 [dk d1 0, dk d1 1] [])) (fun k5 => (bif decide (C.toInt a0 = 4) then (ref02_Sub_p N a3 a4 (fun d1 m1 => (k5 [dk d1 0, dk d1 1] []))) else (jn (fun d1 m1 => (k5 [dk d1 0, dk d1 1] [])) (fun k6 => (bif decide (C.toInt a0 = 5) then (ref02_Mul_p N a3 a4 (fun d1 m1 => (k6 [dk d1 0, dk d1 1] []))) else (jn (fun d1 m1 => (k6 [dk d1 1, dk d1 0] [])) (fun k7 => (bif decide (C.toInt a0 = 6) then (ref11_one_p N (C.bool (decide (C.toInt a3 < C.toInt a4))) (fun d1 m1 => (k7 [C.int 0, dk d1 0] []))) else (jn (fun d1 m1 => (k7 [dk d1 0, dk d1 1] [])) (fun k8 => (bif decide (C.toInt a0 = 7) then (ref11_one_p N (C.bool (decide (C.toInt a3 = C.toInt a4))) (fun d1 m1 => (k8 [C.int 0, dk d1 0] []))) else (jn (fun d1 m1 => (k8 [dk d1 0, dk d1 1] [])) (fun k9 => (bif decide (C.toInt a0 = 8) then (ref11_one_p N (C.bool (decide (C.toInt a4 = 0))) (fun d1 m1 => (k9 [C.int 0, dk d1 0] []))) else (jn (fun d1 m1 => (k9 [dk d1 0, dk d1 1] [])) (fun k10 => (bif decide (C.toInt a0 = 9) then (jn (fun d1 m1 => (k10 [dk d1 0, dk d1 1] [])) (fun k11 => (bif !decide (C.toInt a3 = 0) then (ref11_one_p N (C.bool !decide (C.toInt a4 = 0)) (fun d1 m1 => (k11 [C.int 0, dk d1 0] []))) else (ref11_one_p N (C.bool false) (fun d1 m1 => (k11 [C.int 0, dk d1 0] [])))))) else (jn (fun d1 m1 => (k10 [dk d1 0, dk d1 1] [])) (fun k11 => (bif decide (C.toInt a0 = 10) then (jn (fun d1 m1 => (k11 [dk d1 0, dk d1 1] [])) (fun k12 => (bif !decide (C.toInt a3 = 0) then (ref11_one_p N (C.bool true) (fun d1 m1 => (k12 [C.int 0, dk d1 0] []))) else (ref11_one_p N (C.bool !decide (C.toInt a4 = 0)) (fun d1 m1 => (k12 [C.int 0, dk d1 0] [])))))) else (bif decide (C.toInt a0 = 13) then (k1 [C.slice [a4, a4], C.int 0] []) else (bif decide (C.toInt a0 = 14) then (k1 [C.slice [a4, a3], C.int 0] []) else (jn (fun d1 m1 => (k11 [dk d1 0, dk d1 1] [])) (fun k12 => (bif decide (C.toInt a0 = 16) then (bif decide (IntKind.wrap IntKind.u64 (↑(List.length (C.elems (C.get a2 1))) : Int) ≤ C.toInt a1) then (k1 [C.slice [], C.int 1] []) else (if 0 ≤ C.toInt a1 ∧ C.toInt a1 < (↑(List.length (C.elems (C.get a2 1))) : Int) then (ref11_one_p N (List.getD (C.elems (C.get a2 1)) (Int.toNat (C.toInt a1)) C.nil) (fun d1 m1 => (k12 [C.int 0, dk d1 0] []))) else none)) else (bif decide (C.toInt a0 = 17) then (k12 [C.int 0, C.get a2 2] []) else (k1 [C.slice [], C.int 0] [])))))))))))))))))))))))))))))))))))))
noncomputable def ref11_lays_p {R : Type} (N : Nat) : C → C → C → C → C → KD R → Option R := lid "ref11_lays_p N" (ref11_lays_p0 N)
theorem ref11_lays_pe {R : Type} (N : Nat) (a0 a1 a2 a3 a4 : C) (k : KD R) : ref11_lays_p N a0 a1 a2 a3 a4 k = ref11_lays_p0 N a0 a1 a2 a3 a4 k := by unfold ref11_lays_p; rw [lid_eq]
theorem ref11_lays_run {R : Type} (N : Nat) (a0 a1 a2 a3 a4 : C) (K : V → List (Key × O) → Option R) : exF (X0 gl0) ((ref11_lays_ov N).ov R) extX (fun f r => bif Nat.beq f 19 then (bif Nat.beq r 0 then [(7, 5)] else []) else []) (fun f => bif Nat.beq f 19 then ref11_lays_hs else []) N 400 8 19 [.d (.int .i64) a0, .d (.int .u64) a1, .d tWorld a2, .d (.int .u64) a3, .d (.int .u64) a4] A0 K =
    ref11_lays_p N a0 a1 a2 a3 a4 (fun d1 m1 => K (V.tup [V.d (Ty.slice 8 (Ty.int IntKind.u64)) (dk d1 0), V.d (Ty.int IntKind.i64) (dk d1 1)]) []) := by
  rw [ref11_lays_pe]
  exact (show _ = jn (fun d1 m1 => (K (V.tup [V.d (Ty.slice 8 (Ty.int IntKind.u64)) (dk d1 0), V.d (Ty.int IntKind.i64) (dk d1 1)]) [])) (ref11_lays_p0 N a0 a1 a2 a3 a4) by kernel_rfl).trans (jn_eq _ _)
noncomputable def ref11_lays_g (N : Nat) {R : Type} : OvG R := fun xs _ K => match xs with
  | [.d t0 a0, .d t1 a1, .d t2 a2, .d t3 a3, .d t4 a4] => if t0 = (.int .i64) ∧ t1 = (.int .u64) ∧ t2 = tWorld ∧ t3 = (.int .u64) ∧ t4 = (.int .u64) then ref11_lays_p N a0 a1 a2 a3 a4 (fun d1 m1 => K (V.tup [V.d (Ty.slice 8 (Ty.int IntKind.u64)) (dk d1 0), V.d (Ty.int IntKind.i64) (dk d1 1)]) []) else none
  | _ => none
theorem ref11_lays_ok (N : Nat) {R : Type} : GOk (X0 gl0) 19 (ref11_lays_g N (R := R)) := by
  intro xs A Kr r hr
  unfold ref11_lays_g at hr
  split at hr
  · simp only [Option.ite_none_right_eq_some] at hr
    obtain ⟨hty, hr⟩ := hr
    obtain ⟨rfl, rfl, rfl, rfl, rfl⟩ := hty
    rw [← ref11_lays_run] at hr
    obtain ⟨v, L, h1, h2⟩ := exF_ok (ok0 gl0) (mo gl0) ((ref11_lays_ov N).ov_ok _) (extX_ok gl0) _ _ _ _ _ _ hr
    exact ⟨v, L, h1.mono (leA_none fun _ => rfl), h2⟩
  · cases hr
end Go.Proofs.YthbdeooemkejmaaDoor


namespace Go.Proofs.YthbdeooemkejmaaDoor
open Go Go.E
set_option maxRecDepth 100000
set_option maxHeartbeats 4000000
set_option linter.unusedVariables false
noncomputable def ref11_Run_hs : Hints := [([0, 0, 1], ⟨[0, 2, 4], [(29, .d .bool)], [], [], [], []⟩),
    ([4, 1, 1, 1, 1], ⟨[0, 2, 4], [(9, .sl 8 (.int .u64) 5009), (10, .d (.int .i64)), (11, .d (.int .i64))], [], [], [], []⟩),
    ([1, 0, 1, 1, 1, 1, 1, 1, 4, 5, 4, 1, 1, 1, 1], ⟨[0, 2, 4, 10, 11, 12, 13, 15], [(9, .sl 8 (.int .u64) 5009), (16, .d (.int .u64))], [], [], [], []⟩),
    ([1, 0, 1, 1, 1, 1, 1, 1, 1, 4, 5, 4, 1, 1, 1, 1], ⟨[0, 2, 4, 10, 11, 12, 13, 16], [(9, .sl 8 (.int .u64) 5009), (15, .d (.int .u64))], [], [], [], []⟩),
    ([0, 1, 1, 1, 1, 1, 1, 1, 1, 1, 1, 1, 1, 1, 1, 1, 4, 5, 4, 1, 1, 1, 1], ⟨[0, 2, 4, 10, 11, 13], [(9, .sl 8 (.int .u64) 5009), (126, .d .bool)], [], [], [], []⟩),
    ([1, 1, 1, 1, 1, 1, 1, 1, 1, 1, 1, 1, 1, 1, 1, 1, 4, 5, 4, 1, 1, 1, 1], ⟨[0, 2, 4, 11], [(9, .sl 8 (.int .u64) 5009), (10, .d (.int .i64))], [], [], [], []⟩),
    ([9], ⟨[], [(6, .d (.int .u64)), (7, .d (.int .i64)), (8, .d (.int .i64))], [], [], [], []⟩)]
noncomputable def ref11_Run_ov (N : Nat) : OvS (X0 gl0) where
  g R := [(16, ref11_Order_g N), (17, ref11_Cost_g N), (18, ref11_Takes_g N), (19, ref11_lays_g N), (20, ref11_More_g N)]
  ok := fun R => List.forall_mem_cons.2 ⟨ref11_Order_ok N, List.forall_mem_cons.2 ⟨ref11_Cost_ok N, List.forall_mem_cons.2 ⟨ref11_Takes_ok N, List.forall_mem_cons.2 ⟨ref11_lays_ok N, List.forall_mem_cons.2 ⟨ref11_More_ok N, fun _ h => nomatch h⟩⟩⟩⟩⟩
noncomputable def ref11_Run_l1 {R : Type} (N : Nat) (k1 : KD R) : KD R → List C → List Es → Option R := (fun k2 d2 m2 => (ref11_Order_p N (dk d2 0) (dk d2 4) (fun d3 m3 => (bif !decide (C.toInt (dk d3 2) = 0) then (k1 [C.int 0, dk d2 5, dk d3 2] []) else (ref11_Cost_p N (dk d3 0) (fun d4 m4 => (bif decide (C.toInt (dk d2 1) < IntKind.wrap IntKind.i64 (C.toInt (dk d2 5) + C.toInt (dk d4 0))) then (k1 [C.int 0, dk d2 5, C.int 24] []) else (ref11_Cost_p N (dk d3 0) (fun d5 m5 => (ref11_Takes_p N (dk d3 0) (fun d6 m6 => (bif decide ((↑(List.length (C.elems (dk d2 3))) : Int) < C.toInt (dk d6 0)) then (k1 [C.int 0, C.int (IntKind.wrap IntKind.i64 (C.toInt (dk d2 5) + C.toInt (dk d5 0))), C.int 12] []) else (ref11_Takes_p N (dk d3 0) (fun d7 m7 => (jn (fun d8 m8 => (ref11_Takes_p N (dk d8 5) (fun d9 m9 => (jn (fun d10 m10 => (ref11_Takes_p N (dk d10 5) (fun d11 m11 => (if Int.ofNat 0 ≤ 0 ∧ 0 ≤ IntKind.wrap IntKind.i64 ((↑(List.length (C.elems (dk d10 8))) : Int) - C.toInt (dk d11 0)) ∧ IntKind.wrap IntKind.i64 ((↑(List.length (C.elems (dk d10 8))) : Int) - C.toInt (dk d11 0)) ≤ (↑(List.length (C.elems (dk d10 8))) : Int) then (bif decide (C.toInt (dk d10 5) = 0) then (k1 [dk d10 7, dk d10 4, C.int 0] []) else (ref11_lays_p N (dk d10 5) (dk d10 6) (dk d10 2) (dk d10 9) (dk d10 7) (fun d12 m12 => (bif !decide (C.toInt (dk d12 1) = 0) then (k1 [C.int 0, dk d10 4, dk d12 1] []) else (bif decide (32 < IntKind.wrap IntKind.i64 ((↑(List.length (cut (C.elems (dk d10 8)) 0 (IntKind.wrap IntKind.i64 ((↑(List.length (C.elems (dk d10 8))) : Int) - C.toInt (dk d11 0))))) : Int) + (↑(List.length (C.elems (dk d12 0))) : Int))) then (k1 [C.int 0, dk d10 4, C.int 4] []) else (bif Nat.beq (List.length (cut (C.elems (dk d10 8)) 0 (IntKind.wrap IntKind.i64 ((↑(List.length (C.elems (dk d10 8))) : Int) - C.toInt (dk d11 0))))) (List.length (cut (C.elems (dk d10 8)) 0 (IntKind.wrap IntKind.i64 ((↑(List.length (C.elems (dk d10 8))) : Int) - C.toInt (dk d11 0))))) then (if (List.length (cut (C.elems (dk d10 8)) 0 (IntKind.wrap IntKind.i64 ((↑(List.length (C.elems (dk d10 8))) : Int) - C.toInt (dk d11 0)))) + List.length (C.elems (dk d12 0))) * 8 ≤ 140737488355328 ∧ List.length (cut (C.elems (dk d10 8)) 0 (IntKind.wrap IntKind.i64 ((↑(List.length (C.elems (dk d10 8))) : Int) - C.toInt (dk d11 0)))) + List.length (C.elems (dk d12 0)) ≤ 9223372036854775807 then (ref11_More_p N (dk d10 5) (fun d13 m13 => (jn (fun d14 m14 => (jn (fun d15 m15 => (bif Nat.beq (List.length (C.elems (dk d15 4))) (List.length (C.elems (dk d15 4))) then (k2 [dk d15 0, dk d15 1, dk d15 2, C.slice (C.elems (dk d15 4)), dk d15 5, dk d15 3] []) else none)) (fun k3 => (bif C.toBool (dk d14 7) then (bif Nat.beq (List.length (C.elems (dk d14 6))) (List.length (C.elems (dk d14 6))) then (k3 [dk d14 0, dk d14 1, dk d14 2, dk d14 4, C.slice (C.elems (dk d14 6)), C.int (IntKind.wrap IntKind.i64 (C.toInt (dk d14 5)))] []) else none) else (bif Nat.beq (List.length (C.elems (dk d14 6))) (List.length (C.elems (dk d14 6))) then (k3 [dk d14 0, dk d14 1, dk d14 2, dk d14 4, C.slice (C.elems (dk d14 6)), dk d14 3] []) else none))))) (fun k3 => (bif decide (C.toInt (dk d10 5) = 11) then (bif Nat.beq (List.length (cut (C.elems (dk d10 8)) 0 (IntKind.wrap IntKind.i64 ((↑(List.length (C.elems (dk d10 8))) : Int) - C.toInt (dk d11 0)))) + List.length (C.elems (dk d12 0))) (List.length (cut (C.elems (dk d10 8)) 0 (IntKind.wrap IntKind.i64 ((↑(List.length (C.elems (dk d10 8))) : Int) - C.toInt (dk d11 0))) ++ C.elems (dk d12 0))) then (k3 [dk d10 0, dk d10 1, dk d10 2, C.int (IntKind.wrap IntKind.i64 (IntKind.wrap IntKind.i64 (C.toInt (dk d10 3) + 1) + C.toInt (dk d13 0))), dk d10 4, dk d10 6, C.slice (cut (C.elems (dk d10 8)) 0 (IntKind.wrap IntKind.i64 ((↑(List.length (C.elems (dk d10 8))) : Int) - C.toInt (dk d11 0))) ++ C.elems (dk d12 0)), C.bool true] []) else none) else (bif decide (C.toInt (dk d10 5) = 12) then (bif Nat.beq (List.length (cut (C.elems (dk d10 8)) 0 (IntKind.wrap IntKind.i64 ((↑(List.length (C.elems (dk d10 8))) : Int) - C.toInt (dk d11 0)))) + List.length (C.elems (dk d12 0))) (List.length (cut (C.elems (dk d10 8)) 0 (IntKind.wrap IntKind.i64 ((↑(List.length (C.elems (dk d10 8))) : Int) - C.toInt (dk d11 0))) ++ C.elems (dk d12 0))) then (k3 [dk d10 0, dk d10 1, dk d10 2, C.int (IntKind.wrap IntKind.i64 (IntKind.wrap IntKind.i64 (C.toInt (dk d10 3) + 1) + C.toInt (dk d13 0))), dk d10 4, dk d10 6, C.slice (cut (C.elems (dk d10 8)) 0 (IntKind.wrap IntKind.i64 ((↑(List.length (C.elems (dk d10 8))) : Int) - C.toInt (dk d11 0))) ++ C.elems (dk d12 0)), C.bool !decide (C.toInt (dk d10 7) = 0)] []) else none) else (bif Nat.beq (List.length (cut (C.elems (dk d10 8)) 0 (IntKind.wrap IntKind.i64 ((↑(List.length (C.elems (dk d10 8))) : Int) - C.toInt (dk d11 0)))) + List.length (C.elems (dk d12 0))) (List.length (cut (C.elems (dk d10 8)) 0 (IntKind.wrap IntKind.i64 ((↑(List.length (C.elems (dk d10 8))) : Int) - C.toInt (dk d11 0))) ++ C.elems (dk d12 0))) then (k3 [dk d10 0, dk d10 1, dk d10 2, C.int (IntKind.wrap IntKind.i64 (IntKind.wrap IntKind.i64 (C.toInt (dk d10 3) + 1) + C.toInt (dk d13 0))), dk d10 4, dk d10 6, C.slice (cut (C.elems (dk d10 8)) 0 (IntKind.wrap IntKind.i64 ((↑(List.length (C.elems (dk d10 8))) : Int) - C.toInt (dk d11 0))) ++ C.elems (dk d12 0)), C.bool false] []) else none))))))) else none) else none)))))) else none)))) (fun k3 => (bif decide (C.toInt (dk d9 0) = 2) then (if 0 ≤ IntKind.wrap IntKind.i64 ((↑(List.length (C.elems (dk d8 8))) : Int) - 2) ∧ IntKind.wrap IntKind.i64 ((↑(List.length (C.elems (dk d8 8))) : Int) - 2) < (↑(List.length (C.elems (dk d8 8))) : Int) then (bif Nat.beq (List.length (C.elems (dk d8 8))) (List.length (C.elems (dk d8 8))) then (k3 [dk d8 0, dk d8 1, dk d8 2, dk d8 3, dk d8 4, dk d8 5, dk d8 6, dk d8 9, C.slice (C.elems (dk d8 8)), List.getD (C.elems (dk d8 8)) (Int.toNat (IntKind.wrap IntKind.i64 ((↑(List.length (C.elems (dk d8 8))) : Int) - 2))) C.nil] []) else none) else none) else (bif Nat.beq (List.length (C.elems (dk d8 8))) (List.length (C.elems (dk d8 8))) then (k3 [dk d8 0, dk d8 1, dk d8 2, dk d8 3, dk d8 4, dk d8 5, dk d8 6, dk d8 9, C.slice (C.elems (dk d8 8)), dk d8 7] []) else none))))))) (fun k3 => (bif decide (1 ≤ C.toInt (dk d7 0)) then (if 0 ≤ IntKind.wrap IntKind.i64 ((↑(List.length (C.elems (dk d2 3))) : Int) - 1) ∧ IntKind.wrap IntKind.i64 ((↑(List.length (C.elems (dk d2 3))) : Int) - 1) < (↑(List.length (C.elems (dk d2 3))) : Int) then (bif Nat.beq (List.length (C.elems (dk d2 3))) (List.length (C.elems (dk d2 3))) then (k3 [dk d2 0, dk d2 1, dk d2 2, dk d2 4, C.int (IntKind.wrap IntKind.i64 (C.toInt (dk d2 5) + C.toInt (dk d5 0))), dk d3 0, dk d3 1, C.int 0, C.slice (C.elems (dk d2 3)), List.getD (C.elems (dk d2 3)) (Int.toNat (IntKind.wrap IntKind.i64 ((↑(List.length (C.elems (dk d2 3))) : Int) - 1))) C.nil] []) else none) else none) else (bif Nat.beq (List.length (C.elems (dk d2 3))) (List.length (C.elems (dk d2 3))) then (k3 [dk d2 0, dk d2 1, dk d2 2, dk d2 4, C.int (IntKind.wrap IntKind.i64 (C.toInt (dk d2 5) + C.toInt (dk d5 0))), dk d3 0, dk d3 1, C.int 0, C.slice (C.elems (dk d2 3)), C.int 0] []) else none))))))))))))))))))
noncomputable def ref11_Run_p0 {R : Type} (N : Nat) (a0 a1 a2 : C) (k1 : KD R) : Option R := (jn (fun d1 m1 => (bif C.toBool (dk d1 3) then (k1 [C.int 0, C.int 0, C.int 1] []) else (loopK N (ref11_Run_l1 N k1) [dk d1 0, dk d1 1, dk d1 2, C.slice [], C.int 0, C.int 0] []))) (fun k2 => (bif decide (256 < (↑(List.length (C.elems a0)) : Int)) then (k2 [a0, a2, a1, C.bool true] []) else (bif decide (C.toInt a2 < 0) then (k2 [a0, a2, a1, C.bool true] []) else (k2 [a0, a2, a1, C.bool (decide (4096 < C.toInt a2))] [])))))
noncomputable def ref11_Run_p {R : Type} (N : Nat) : C → C → C → KD R → Option R := lid "ref11_Run_p N" (ref11_Run_p0 N)
theorem ref11_Run_pe {R : Type} (N : Nat) (a0 a1 a2 : C) (k : KD R) : ref11_Run_p N a0 a1 a2 k = ref11_Run_p0 N a0 a1 a2 k := by unfold ref11_Run_p; rw [lid_eq]
theorem ref11_Run_run {R : Type} (N : Nat) (a0 a1 a2 : C) (K : V → List (Key × O) → Option R) : exF (X0 gl0) ((ref11_Run_ov N).ov R) extX (fun f r => bif Nat.beq f 11 then (bif Nat.beq r 0 then [(4, 5)] else []) else []) (fun f => bif Nat.beq f 11 then ref11_Run_hs else []) N 400 8 11 [.d (.slice 1 (.int .u8)) a0, .d tWorld a1, .d (.int .i64) a2] A0 K =
    ref11_Run_p N a0 a1 a2 (fun d1 m1 => K (V.tup [V.d (Ty.int IntKind.u64) (dk d1 0), V.d (Ty.int IntKind.i64) (dk d1 1), V.d (Ty.int IntKind.i64) (dk d1 2)]) []) := by
  rw [ref11_Run_pe]
  exact (show _ = jn (fun d1 m1 => (K (V.tup [V.d (Ty.int IntKind.u64) (dk d1 0), V.d (Ty.int IntKind.i64) (dk d1 1), V.d (Ty.int IntKind.i64) (dk d1 2)]) [])) (ref11_Run_p0 N a0 a1 a2) by kernel_rfl).trans (jn_eq _ _)
noncomputable def ref11_Run_g (N : Nat) {R : Type} : OvG R := fun xs _ K => match xs with
  | [.d t0 a0, .d t1 a1, .d t2 a2] => if t0 = (.slice 1 (.int .u8)) ∧ t1 = tWorld ∧ t2 = (.int .i64) then ref11_Run_p N a0 a1 a2 (fun d1 m1 => K (V.tup [V.d (Ty.int IntKind.u64) (dk d1 0), V.d (Ty.int IntKind.i64) (dk d1 1), V.d (Ty.int IntKind.i64) (dk d1 2)]) []) else none
  | _ => none
theorem ref11_Run_ok (N : Nat) {R : Type} : GOk (X0 gl0) 11 (ref11_Run_g N (R := R)) := by
  intro xs A Kr r hr
  unfold ref11_Run_g at hr
  split at hr
  · simp only [Option.ite_none_right_eq_some] at hr
    obtain ⟨hty, hr⟩ := hr
    obtain ⟨rfl, rfl, rfl⟩ := hty
    rw [← ref11_Run_run] at hr
    obtain ⟨v, L, h1, h2⟩ := exF_ok (ok0 gl0) (mo gl0) ((ref11_Run_ov N).ov_ok _) (extX_ok gl0) _ _ _ _ _ _ hr
    exact ⟨v, L, h1.mono (leA_none fun _ => rfl), h2⟩
  · cases hr
end Go.Proofs.YthbdeooemkejmaaDoor


namespace Go.Proofs.YthbdeooemkejmaaDoor
open Go Go.E
set_option maxRecDepth 100000
set_option maxHeartbeats 4000000
set_option linter.unusedSimpArgs false
variable {R : Type} {N : Nat}
theorem more_eq11 (o : Int) (k : KD R) : ref11_More_p N (.int o) k = k [.int (moreN o)] [] := by
  rw [ref11_More_pe]
  unfold ref11_More_p0 moreN
  by_cases h1 : o = 1
  · subst h1; rfl
  by_cases h2 : o = 2
  · subst h2; simp [go_sem, jn_eq]
  by_cases h16 : o = 16
  · subst h16; simp [go_sem, jn_eq]
  by_cases h11 : o = 11
  · subst h11; simp [go_sem, jn_eq]
  by_cases h12 : o = 12
  · subst h12; simp [go_sem, jn_eq]
  simp [go_sem, jn_eq, h1, h2, h16, h11, h12]
theorem cost_eq11 (o : Int) (k : KD R) : ref11_Cost_p N (.int o) k = k [.int (costN o)] [] := by
  rw [ref11_Cost_pe]
  unfold ref11_Cost_p0 costN
  by_cases h1 : o = 5
  · subst h1; rfl
  by_cases h2 : o = 16
  · subst h2; rfl
  simp [go_sem, h1, h2]
def takesN (o : Int) : Nat := if o = 0 ∨ o = 8 ∨ o = 12 ∨ o = 13 ∨ o = 15 then 1 else if o = 3 ∨ o = 4 ∨ o = 5 ∨ o = 6 ∨ o = 7 ∨ o = 9 ∨ o = 10 ∨ o = 14 then 2 else 0
theorem ops18 {o : Int} (h : 0 ≤ o ∧ o < 18) : o = 0 ∨ o = 1 ∨ o = 2 ∨ o = 3 ∨ o = 4 ∨ o = 5 ∨ o = 6 ∨ o = 7 ∨ o = 8 ∨ o = 9 ∨ o = 10 ∨ o = 11 ∨ o = 12 ∨ o = 13 ∨ o = 14 ∨ o = 15 ∨ o = 16 ∨ o = 17 := by omega
theorem takes_eq11 {o : Int} (h : 0 ≤ o ∧ o < 18) (k : KD R) : ref11_Takes_p N (.int o) k = k [.int (takesN o)] [] := by
  rw [ref11_Takes_pe]
  unfold ref11_Takes_p0 takesN
  rcases ops18 h with rfl | rfl | rfl | rfl | rfl | rfl | rfl | rfl | rfl | rfl | rfl | rfl | rfl | rfl | rfl | rfl | rfl | rfl <;> simp [go_sem, jn_eq]
theorem one_eq11 (b : Bool) (k : KD R) : ref11_one_p N (.bool b) k = k [.int (oneI b)] [] := by
  rw [ref11_one_pe]
  unfold ref11_one_p0 oneI
  cases b <;> rfl
def layR (r : Int × Int) : List Int × Int := if r.2 = 0 then ([r.1], 0) else ([], r.2)
def laysR (w : C) (op : Nat) (n a b : Int) : List Int × Int := match op with
  | 1 => ([n], 0)
  | 2 => if n < ((w.get 0).elems.length : Int) then ([((w.get 0).elems.getD n.toNat .nil).toInt], 0) else ([], 1)
  | 3 => layR (addR a b)
  | 4 => layR (subR a b)
  | 5 => layR (mulR a b)
  | 6 => ([oneI (decide (a < b))], 0)
  | 7 => ([oneI (decide (a = b))], 0)
  | 8 => ([oneI (decide (b = 0))], 0)
  | 9 => ([oneI (!decide (a = 0) && !decide (b = 0))], 0)
  | 10 => ([oneI (!decide (a = 0) || !decide (b = 0))], 0)
  | 13 => ([b, b], 0)
  | 14 => ([b, a], 0)
  | 16 => if n < ((w.get 1).elems.length : Int) then ([oneI ((w.get 1).elems.getD n.toNat .nil).toBool], 0) else ([], 1)
  | 17 => ([(w.get 2).toInt], 0)
  | _ => ([], 0)
theorem lays_eq {w : C} (hw : WOk w) (hb1 : ∀ c ∈ (w.get 1).elems, c = .bool c.toBool) (op : Nat) (hop : op < 18) {n a b : Int} (hn : 0 ≤ n) (ha : U64 a) (hb : U64 b) (hN : 10 < N) (k : KD R) :
    ref11_lays_p N (.int op) (.int n) w (.int a) (.int b) k = k [.slice ((laysR w op n a b).1.map C.int), .int (laysR w op n a b).2] [] := by
  have c : op = 0 ∨ op = 1 ∨ op = 2 ∨ op = 3 ∨ op = 4 ∨ op = 5 ∨ op = 6 ∨ op = 7 ∨ op = 8 ∨ op = 9 ∨ op = 10 ∨ op = 11 ∨ op = 12 ∨ op = 13 ∨ op = 14 ∨ op = 15 ∨ op = 16 ∨ op = 17 := by omega
  have ofl : ∀ n : Nat, n < 4611686018427387904 → IntKind.u64.wrap (n : Int) = n := fun n hn => wrap_u64 (by omega) (by omega)
  have f0 : ∀ i : Nat, i < (w.get 0).elems.length → (w.get 0).elems.getD i .nil = .int ((w.get 0).elems.getD i .nil).toInt := fun i hi => by
    rw [List.getD_eq_getElem?_getD, List.getElem?_eq_getElem hi]; exact hw.f _ (List.getElem_mem hi)
  have f1 : ∀ i : Nat, i < (w.get 1).elems.length → (w.get 1).elems.getD i .nil = .bool ((w.get 1).elems.getD i .nil).toBool := fun i hi => by
    rw [List.getD_eq_getElem?_getD, List.getElem?_eq_getElem hi]; exact hb1 _ (List.getElem_mem hi)
  have o0 := ofl _ hw.l0
  have o1 := ofl _ hw.l1
  rw [ref11_lays_pe]
  unfold ref11_lays_p0
  rcases c with rfl | rfl | rfl | rfl | rfl | rfl | rfl | rfl | rfl | rfl | rfl | rfl | rfl | rfl | rfl | rfl | rfl | rfl
  · simp [go_sem, jn_eq, laysR]
  · simp [go_sem, jn_eq, laysR]
  · by_cases h : n < ((w.get 0).elems.length : Int)
    · have h' : ¬ ((w.get 0).elems.length : Int) ≤ n := by omega
      have hf := f0 n.toNat (by omega)
      simp only [go_sem, jn_eq, laysR, o0, h, h', hn, c_int]
      simp
      exact congrArg (fun c => k [.slice [c], .int 0] []) (by simpa using hf)
    · have h' : ((w.get 0).elems.length : Int) ≤ n := by omega
      simp [go_sem, jn_eq, laysR, o0, h, h']
  · simp only [jn_eq, radd_eq ha hb]
    by_cases h : (addR a b).2 = 0 <;> simp [go_sem, laysR, layR, h]
  · simp only [jn_eq, rsub_eq]
    by_cases h : (subR a b).2 = 0 <;> simp [go_sem, laysR, layR, h]
  · simp only [jn_eq, rmul_eq ha hb hN]
    by_cases h : (mulR a b).2 = 0 <;> simp [go_sem, laysR, layR, h]
  · (simp [go_sem, jn_eq, laysR, one_eq11] <;> rfl)
  · (simp [go_sem, jn_eq, laysR, one_eq11] <;> rfl)
  · (simp [go_sem, jn_eq, laysR, one_eq11] <;> rfl)
  · by_cases h : a = 0
    · (simp [go_sem, jn_eq, laysR, one_eq11, h] <;> rfl)
    · (simp [go_sem, jn_eq, laysR, one_eq11, h] <;> rfl)
  · by_cases h : a = 0
    · (simp [go_sem, jn_eq, laysR, one_eq11, h] <;> rfl)
    · (simp [go_sem, jn_eq, laysR, one_eq11, h] <;> rfl)
  · simp [go_sem, jn_eq, laysR]
  · simp [go_sem, jn_eq, laysR]
  · simp [go_sem, jn_eq, laysR]
  · simp [go_sem, jn_eq, laysR]
  · simp [go_sem, jn_eq, laysR]
  · by_cases h : n < ((w.get 1).elems.length : Int)
    · have h' : ¬ ((w.get 1).elems.length : Int) ≤ n := by omega
      have hf := f1 n.toNat (by omega)
      simp only [go_sem, jn_eq, laysR, o1, h, h', hn, c_int]
      rw [hf]
      (simp [one_eq11] <;> rfl)
    · have h' : ((w.get 1).elems.length : Int) ≤ n := by omega
      simp [go_sem, jn_eq, laysR, o1, h, h']
  · have hh := hw.h
    rw [hh]
    simp [go_sem, jn_eq, laysR]
end Go.Proofs.YthbdeooemkejmaaDoor


namespace Go.Proofs.YthbdeooemkejmaaDoor
open Go Go.E
set_option maxRecDepth 100000
set_option maxHeartbeats 4000000
set_option linter.unusedSimpArgs false
variable {R : Type} {N : Nat}
theorem order_loop {p : List C} (hp : C.wf (.slice 1 (.int .u8)) (.slice p)) (hl : p.length ≤ 256) (i : Nat) (o : Int) (h : i + 1 + moreN o ≤ p.length) (hN : 100 < N) (k2 : KD R) :
    loopK N (ref11_Order_l1 N k2) [.slice p, .int i, .int o, .int 0, .int 0] [] = k2 [.int o, .int (argN p (i + 1) (moreN o))] [] := by
  have hm := moreN_le o
  refine loopK_count (F := ref11_Order_l1 N k2) (fun j : Nat => [.slice p, .int i, .int o, .int (argN p (i + 1) j), .int j]) (fun _ => []) (moreN o) _ ?_ ?_ (by omega)
  · intro j hj rec
    unfold ref11_Order_l1
    have w1 : IntKind.i64.wrap ((i : Int) + 1) = ((i + 1 : Nat) : Int) := by rw [IntWalk.i64_in _ (by omega)]; rfl
    have w2 : IntKind.i64.wrap (((i + 1 : Nat) : Int) + (j : Int)) = ((i + 1 + j : Nat) : Int) := by rw [IntWalk.i64_in _ (by omega)]; rfl
    have w3 : IntKind.i64.wrap ((j : Int) + 1) = ((j + 1 : Nat) : Int) := by rw [IntWalk.i64_in _ (by omega)]; rfl
    have hb := bN_wf hp (i := i + 1 + j) (by omega)
    obtain ⟨a1, a2, a3⟩ := argN_lt hp (i := i + 1) (k := j) (by omega) (by omega)
    have a4 := a3 (by omega)
    have b1 : (j : Int) < ((moreN o : Nat) : Int) := by omega
    have b2 : (0 : Int) ≤ ((i + 1 + j : Nat) : Int) ∧ ((i + 1 + j : Nat) : Int) < (p.length : Int) := by omega
    have w4 : IntKind.u64.wrap (argN p (i + 1) j * 256) = argN p (i + 1) j * 256 := wrap_u64 (by omega) (by omega)
    have w5 : IntKind.u64.wrap (bN p (i + 1 + j)) = bN p (i + 1 + j) := wrap_u64 (by omega) (by omega)
    have w6 : IntKind.u64.wrap (argN p (i + 1) j * 256 + bN p (i + 1 + j)) = argN p (i + 1) j * 256 + bN p (i + 1 + j) := wrap_u64 (by omega) (by omega)
    simp only [go_sem, more_eq11, c_int, c_slice, w1, w2, w3, b1, b2, decide_true, cond_true, if_true, and_self, Int.toNat_natCast]
    rw [hb.1]
    simp only [c_int, w4, w5, w6]
    rfl
  · intro rec
    unfold ref11_Order_l1
    simp only [go_sem, more_eq11, c_int, Int.lt_irrefl, decide_false, cond_false]
theorem order_eq {p : List C} (hp : C.wf (.slice 1 (.int .u8)) (.slice p)) (hl : p.length ≤ 256) (i : Nat) (hi : i ≤ 100000) (hN : 100 < N) (k : KD R) :
    ref11_Order_p N (.slice p) (.int i) k = k [.int (if errN p i = 0 then bN p i else 0), .int (if errN p i = 0 then argA p i else 0), .int (errN p i)] [] := by
  rw [ref11_Order_pe]
  unfold ref11_Order_p0
  by_cases h1 : p.length ≤ i
  · have h1' : (p.length : Int) ≤ (i : Int) := by omega
    have e : errN p i = 9 := by unfold errN; rw [if_pos h1]
    simp [go_sem, h1', e]
  have h1' : ¬ (p.length : Int) ≤ (i : Int) := by omega
  have b1 : (0 : Int) ≤ (i : Int) ∧ (i : Int) < (p.length : Int) := by omega
  have hb := bN_wf hp (i := i) (by omega)
  have w0 : IntKind.i64.wrap (bN p i) = bN p i := IntWalk.i64_in _ (by omega)
  by_cases h2 : 18 ≤ bN p i
  · have e : errN p i = 33 := by unfold errN; rw [if_neg h1, if_pos h2]
    have h2' : 17 < bN p i := by omega
    simp only [go_sem, c_int, c_slice, h1', b1, decide_false, cond_false, if_true, and_self, Int.toNat_natCast, hb.1, w0, h2', e, decide_true, cond_true]
    rfl
  have h2' : ¬ 17 < bN p i := by omega
  have hm := moreN_le (bN p i)
  have w1 : IntKind.i64.wrap ((i : Int) + 1) = ((i + 1 : Nat) : Int) := by rw [IntWalk.i64_in _ (by omega)]; rfl
  have w2 : IntKind.i64.wrap (((i + 1 : Nat) : Int) + ((moreN (bN p i) : Nat) : Int)) = ((i + 1 + moreN (bN p i) : Nat) : Int) := by rw [IntWalk.i64_in _ (by omega)]; rfl
  by_cases h3 : p.length < i + 1 + moreN (bN p i)
  · have e : errN p i = 9 := by unfold errN; rw [if_neg h1, if_neg h2, if_pos h3]
    have h3' : (p.length : Int) < ((i + 1 + moreN (bN p i) : Nat) : Int) := by omega
    simp only [go_sem, c_int, c_slice, h1', b1, if_true, and_self, Int.toNat_natCast, hb.1, w0, h2', decide_false, cond_false, more_eq11, dk_0, w1, w2, h3', decide_true, cond_true, e]
    rfl
  · have e : errN p i = 0 := by unfold errN; rw [if_neg h1, if_neg h2, if_neg h3]
    have h3' : ¬ (p.length : Int) < ((i + 1 + moreN (bN p i) : Nat) : Int) := by omega
    simp only [go_sem, c_int, c_slice, h1', b1, and_self, Int.toNat_natCast, hb.1, w0, h2', decide_false, cond_false, more_eq11, dk_0, dk_1, w1, w2, h3', jn_eq, order_loop hp hl i (bN p i) (by omega) hN, e, if_true]
    rfl
structure StepOk (r : List Int) (lf : List Int × Int) (y : St) : Prop where
  bad : lf.2 ≠ 0 → y.e = lf.2
  full : lf.2 = 0 → 32 < r.length + lf.1.length → y.e = 4
  ok : lf.2 = 0 → ¬ 32 < r.length + lf.1.length → y = ⟨lf.1.reverse ++ r, 0⟩
theorem StepOk.push {r : List Int} (a : Int) : StepOk r ([a], 0) (St.push ⟨r, 0⟩ a) := by
  unfold St.push St.fail
  refine ⟨fun h => absurd rfl h, fun _ h => ?_, fun _ h => ?_⟩
  · simp only [List.length_cons, List.length_nil] at h
    rw [if_pos (by dsimp only; omega)]
    rfl
  · simp only [List.length_cons, List.length_nil] at h
    rw [if_neg (by dsimp only; omega)]
    rfl
theorem StepOk.put {r : List Int} (q : Int × Int) : StepOk r (layR q) (St.put ⟨r, 0⟩ q) := by
  unfold layR St.put
  by_cases h : q.2 = 0
  · simp only [h, if_true]; exact StepOk.push _
  · simp only [h, if_false]
    exact ⟨fun _ => rfl, fun h' => absurd h' h, fun h' => absurd h' h⟩
theorem StepOk.push2 {r : List Int} (hr : r.length ≤ 31) (a b : Int) : StepOk r ([a, b], 0) (St.push2 ⟨r, 0⟩ a b) := by
  have p1 : St.push ⟨r, 0⟩ a = ⟨a :: r, 0⟩ := by
    unfold St.push
    rw [if_neg (by dsimp only; omega)]
  unfold St.push2
  rw [if_neg (by dsimp only; omega), p1]
  have hl : (a :: r).length = r.length + 1 := List.length_cons
  unfold St.push St.fail
  refine ⟨fun h => absurd rfl h, fun _ h => ?_, fun _ h => ?_⟩
  · simp only [List.length_cons, List.length_nil] at h
    rw [if_pos (show 32 ≤ (a :: r).length by omega)]
    rfl
  · simp only [List.length_cons, List.length_nil] at h
    rw [if_neg (show ¬ 32 ≤ (a :: r).length by omega)]
    rfl
theorem step0 {w : C} {op : Nat} (h : op = 1 ∨ op = 2 ∨ op = 16 ∨ op = 17) (n a b : Int) (r : List Int) : StepOk r (laysR w op n a b) (plainS w op n ⟨r, 0⟩) := by
  rcases h with rfl | rfl | rfl | rfl
  · exact StepOk.push _
  · by_cases h : n < ((w.get 0).elems.length : Int)
    · simp only [laysR, plainS, h, if_true]; exact StepOk.push _
    · simp only [laysR, plainS, h, if_false]; exact ⟨fun _ => rfl, fun h => absurd (show (1 : Int) = 0 from h) (by decide), fun h => absurd (show (1 : Int) = 0 from h) (by decide)⟩
  · by_cases h : n < ((w.get 1).elems.length : Int)
    · simp only [laysR, plainS, h, if_true]; exact StepOk.push _
    · simp only [laysR, plainS, h, if_false]; exact ⟨fun _ => rfl, fun h => absurd (show (1 : Int) = 0 from h) (by decide), fun h => absurd (show (1 : Int) = 0 from h) (by decide)⟩
  · exact StepOk.push _
theorem step1 {w : C} {op : Nat} (h : op = 8 ∨ op = 13 ∨ op = 15) (n a b : Int) (r : List Int) (hr : r.length ≤ 31) : StepOk r (laysR w op n a b) (plainS w op n ⟨b :: r, 0⟩) := by
  rcases h with rfl | rfl | rfl
  · exact StepOk.push _
  · exact StepOk.push2 hr b b
  · refine ⟨fun h => absurd rfl h, fun _ h => ?_, fun _ _ => rfl⟩
    simp only [laysR, List.length_nil] at h
    omega
theorem step2 {w : C} {op : Nat} (h : op = 3 ∨ op = 4 ∨ op = 5 ∨ op = 6 ∨ op = 7 ∨ op = 9 ∨ op = 10 ∨ op = 14) (n a b : Int) (r : List Int) (hr : r.length ≤ 30) : StepOk r (laysR w op n a b) (plainS w op n ⟨b :: a :: r, 0⟩) := by
  rcases h with rfl | rfl | rfl | rfl | rfl | rfl | rfl | rfl
  · exact StepOk.put (addR a b)
  · exact StepOk.put (subR a b)
  · exact StepOk.put (mulR a b)
  · exact StepOk.push _
  · exact StepOk.push _
  · exact StepOk.push _
  · exact StepOk.push _
  · exact StepOk.push2 (by omega) b a
end Go.Proofs.YthbdeooemkejmaaDoor


namespace Go.Proofs.YthbdeooemkejmaaDoor
open Go Go.E
set_option maxRecDepth 100000
set_option maxHeartbeats 4000000
set_option linter.unusedSimpArgs false
variable {R : Type} {N : Nat}
def stk (s : List Int) : C := .slice (s.reverse.map C.int)
theorem stk_len (s : List Int) : (stk s).elems.length = s.length := by simp [stk, C.elems]
theorem stk_0 (b : Int) (r : List Int) : (stk (b :: r)).elems.getD r.length .nil = .int b := by
  have : (stk (b :: r)).elems = r.reverse.map C.int ++ [.int b] := by simp [stk, C.elems]
  rw [this, List.getD_eq_getElem?_getD, List.getElem?_append_right (by simp)]
  simp
theorem stk_1 (b a : Int) (r : List Int) : (stk (b :: a :: r)).elems.getD r.length .nil = .int a := by
  have : (stk (b :: a :: r)).elems = r.reverse.map C.int ++ [.int a, .int b] := by simp [stk, C.elems]
  rw [this, List.getD_eq_getElem?_getD, List.getElem?_append_right (by simp)]
  simp
theorem stk_cut (q r : List Int) : cut (stk (q ++ r)).elems 0 (r.length : Int) = r.reverse.map C.int := by
  have : (stk (q ++ r)).elems = r.reverse.map C.int ++ q.reverse.map C.int := by simp [stk, C.elems]
  rw [this]
  unfold cut
  simp
theorem stk_put (r l : List Int) : C.slice (r.reverse.map C.int ++ l.map C.int) = stk (l.reverse ++ r) := by simp [stk]
theorem laysR_len (w : C) (op : Nat) (n a b : Int) : (laysR w op n a b).1.length ≤ 2 := by
  unfold laysR layR
  split <;> (try split) <;> simp
structure RefI where
  i : Nat
  sp : Int
  s : List Int
theorem rrun_body {p : List C} (hp : C.wf (.slice 1 (.int .u8)) (.slice p)) (hl : p.length ≤ 256) {gas : Int} (hg : 0 ≤ gas ∧ gas ≤ 4096) {w : C} (hw : WOk w) (hb1 : ∀ c ∈ (w.get 1).elems, c = .bool c.toBool)
    (hN : 5000 < N) (k rec : KD R) (i : Nat) (hi : i ≤ 100000) (sp : Int) (h0 : 0 ≤ sp) (h1 : sp ≤ gas) (s : List Int) (hs : s.length ≤ 32) (hu : ∀ a ∈ s, U64 a) :
    ref11_Run_l1 N k rec [.slice p, .int gas, w, stk s, .int i, .int sp] [] =
      if errN p i ≠ 0 then k [.int 0, .int sp, .int (errN p i)] []
      else if gas < sp + costN (bN p i) then k [.int 0, .int sp, .int 24] []
      else if s.length < takesN (bN p i) then k [.int 0, .int (sp + costN (bN p i)), .int 12] []
      else if bN p i = 0 then k [.int (s.getD 0 0), .int (sp + costN (bN p i)), .int 0] []
      else
        let a := if takesN (bN p i) = 2 then s.getD 1 0 else 0
        let b := if 1 ≤ takesN (bN p i) then s.getD 0 0 else 0
        let lf := laysR w (bN p i).toNat (argA p i) a b
        let r := s.drop (takesN (bN p i))
        if lf.2 ≠ 0 then k [.int 0, .int (sp + costN (bN p i)), .int lf.2] []
        else if 32 < r.length + lf.1.length then k [.int 0, .int (sp + costN (bN p i)), .int 4] []
        else rec [.slice p, .int gas, w, stk (lf.1.reverse ++ r), .int (if bN p i = 11 ∨ (bN p i = 12 ∧ b ≠ 0) then (argA p i).toNat else i + 1 + moreN (bN p i) : Nat), .int (sp + costN (bN p i))] [] := by
  unfold ref11_Run_l1
  by_cases e1 : errN p i = 0
  case neg => simp only [order_eq hp hl i hi (by omega : 100 < N), e1, dk_0, dk_1, dk_2, dk_3, dk_4, dk_5, c_int, decide_false, Bool.not_false, cond_true, if_true, ne_eq, not_false_iff]
  have hb : i < p.length ∧ bN p i < 18 ∧ i + 1 + moreN (bN p i) ≤ p.length := by
    unfold errN at e1
    split at e1
    · cases e1
    split at e1
    · cases e1
    split at e1
    · cases e1
    omega
  have hbw := bN_wf hp hb.1
  have hop : 0 ≤ bN p i ∧ bN p i < 18 := by omega
  have hcp := costN_pos (bN p i)
  have w2 : IntKind.i64.wrap (sp + costN (bN p i)) = sp + costN (bN p i) := IntWalk.i64_in _ (by omega)
  have hmo := moreN_le (bN p i)
  obtain ⟨g1, g2, g3⟩ := argN_lt hp (i := i + 1) (k := moreN (bN p i)) (by omega) hmo
  have h16 : bN p i = 11 ∨ bN p i = 12 → argA p i < 65536 := fun h => (arg16 hp hb.2.2 h).2
  have hq : argN p (i + 1) (moreN (bN p i)) = argA p i := rfl
  rw [hq] at g1 g2
  simp only [order_eq hp hl i hi (by omega : 100 < N), e1, if_true, dk_0, dk_1, dk_2, dk_3, dk_4, dk_5, c_int, cost_eq11, takes_eq11 hop, w2, decide_true, Bool.not_true, cond_false, ne_eq, not_true, if_false, stk_len]
  by_cases e2 : gas < sp + costN (bN p i)
  · simp only [e2, decide_true, cond_true, if_true]
  simp only [e2, decide_false, cond_false, if_false]
  have hop18 := ops18 hop
  generalize hO : bN p i = o at *
  generalize argA p i = n at *
  generalize costN o = c at *
  have ht : takesN o = 0 ∨ takesN o = 1 ∨ takesN o = 2 := by unfold takesN; (repeat' split) <;> simp
  have lenw : ∀ m n : Nat, m ≤ 100 → n ≤ 100 → IntKind.i64.wrap ((m : Int) + (n : Int)) = ((m + n : Nat) : Int) := fun m n h1 h2 => by rw [IntWalk.i64_in _ (by omega)]; rfl
  have laysl := fun n a b : Int => laysR_len w o.toNat n a b
  have w3 : IntKind.i64.wrap ((i : Int) + 1) = ((i + 1 : Nat) : Int) := by rw [IntWalk.i64_in _ (by omega)]; rfl
  have w4 : IntKind.i64.wrap (((i + 1 : Nat) : Int) + ((moreN o : Nat) : Int)) = ((i + 1 + moreN o : Nat) : Int) := by rw [IntWalk.i64_in _ (by omega)]; rfl
  have ho : ((o.toNat : Nat) : Int) = o := by omega
  have lq := fun (n a b : Int) (hn : 0 ≤ n) (ha : U64 a) (hb : U64 b) (k : KD R) => lays_eq (R := R) hw hb1 o.toNat (by omega) hn ha hb (show 10 < N by omega) k
  rw [ho] at lq
  have u0 : U64 0 := ⟨by omega, by omega⟩
  have z0 : Int.ofNat 0 ≤ 0 := Int.le_refl _
  rcases ht with ht | ht | ht
  · have w5 : IntKind.i64.wrap ((s.length : Int) - ((0 : Nat) : Int)) = (s.length : Int) := by rw [IntWalk.i64_in _ (by omega)]; omega
    have hc : cut (stk s).elems 0 (s.length : Int) = s.reverse.map C.int := stk_cut [] s
    have b1 : ¬ ((s.length : Nat) : Int) < ((0 : Nat) : Int) := by omega
    have b2 : ¬ (1 : Int) ≤ ((0 : Nat) : Int) := by omega
    have b3 : ¬ ((0 : Nat) : Int) = 2 := by omega
    have b4 : (0 : Int) ≤ (s.length : Int) ∧ (s.length : Int) ≤ (s.length : Int) := by omega
    have b5 : ¬ s.length < 0 := by omega
    have b6 : ¬ 1 ≤ 0 := by omega
    have b7 : ¬ (0 : Nat) = 2 := by omega
    have o00 : ¬ o = 0 := fun h => by subst h; exact absurd ht (by decide)
    simp only [ht, jn_eq, dk_0, dk_1, dk_2, dk_3, dk_4, dk_5, dk_6, dk_7, dk_8, dk_9, c_int, c_slice, c_bool, takes_eq11 hop, decide_false, cond_false, decide_true, cond_true, stk_len, Nat.beq_refl, and_self, if_true, b1, b2, b3, w5, hc, b4, z0, b5, b6, b7, if_false, List.drop_zero]
    by_cases o0 : o = 0
    · exact absurd o0 o00
    have o0' : decide (o = 0) = false := decide_eq_false o0
    have rl : s.length ≤ 32 := hs
    simp only [o0, decide_false, cond_false, if_false, lq n 0 0 g1 u0 u0, dk_0, dk_1, c_int, c_slice, List.length_map, List.length_reverse]
    have hlen := laysl n 0 0
    generalize laysR w o.toNat n 0 0 = lf at hlen ⊢
    obtain ⟨l, f⟩ := lf
    dsimp only at hlen ⊢
    have c1 := lenw s.length l.length (by omega) (by omega)
    have c2 : (s.length + l.length) * 8 ≤ 140737488355328 ∧ s.length + l.length ≤ 9223372036854775807 := by omega
    by_cases hf : f = 0
    case neg => simp only [hf, decide_false, Bool.not_false, cond_true, not_false_iff, if_true]
    by_cases full : 32 < s.length + l.length
    · have full' : (32 : Int) < ((s.length + l.length : Nat) : Int) := by omega
      simp only [hf, c1, full, full', decide_true, Bool.not_true, cond_false, cond_true, not_true, if_false, if_true]
    · have full' : ¬ (32 : Int) < ((s.length + l.length : Nat) : Int) := by omega
      simp only [hf, c1, c2, full, full', decide_true, decide_false, Bool.not_true, cond_false, cond_true, not_true, if_false, if_true, and_self, more_eq11, dk_0, c_int, w3, w4, List.length_append, List.length_map, List.length_reverse, Nat.beq_refl, stk_put]
      by_cases o11 : o = 11
      · have wn : IntKind.i64.wrap n = ((n.toNat : Nat) : Int) := by rw [IntWalk.i64_in _ (by have := h16 (.inl o11); omega)]; omega
        simp only [o11, decide_true, cond_true, true_or, if_true, wn]
      by_cases o12 : o = 12
      · have wn : IntKind.i64.wrap n = ((n.toNat : Nat) : Int) := by rw [IntWalk.i64_in _ (by have := h16 (.inr o12); omega)]; omega
        by_cases b0 : 0 = 0
        · simp [o11, o12, b0, wn]
        · simp [o11, o12, b0, wn]
      · simp only [o11, o12, decide_false, cond_false, false_or, false_and, if_false]
  · rcases s with _ | ⟨b, r⟩
    · simp [ht, jn_eq, takes_eq11 hop, stk_len]
    have hub : U64 b := hu b (by simp)
    have w5 : IntKind.i64.wrap (((b :: r).length : Int) - ((1 : Nat) : Int)) = (r.length : Int) := by rw [IntWalk.i64_in _ (by simp only [List.length_cons] at hs ⊢; omega)]; simp
    have w6 : IntKind.i64.wrap (((b :: r).length : Int) - 1) = (r.length : Int) := w5
    have hc : cut (stk (b :: r)).elems 0 (r.length : Int) = r.reverse.map C.int := stk_cut [b] r
    have hll : (b :: r).length = r.length + 1 := List.length_cons
    have b1 : ¬ ((b :: r).length : Int) < ((1 : Nat) : Int) := by omega
    have b2 : (1 : Int) ≤ ((1 : Nat) : Int) := by omega
    have b3 : ¬ ((1 : Nat) : Int) = 2 := by omega
    have b4 : (0 : Int) ≤ (r.length : Int) ∧ (r.length : Int) ≤ ((b :: r).length : Int) := by omega
    have b8 : (0 : Int) ≤ (r.length : Int) ∧ (r.length : Int) < ((b :: r).length : Int) := by omega
    have b5 : ¬ (b :: r).length < 1 := by omega
    have b6 : (1 : Nat) ≤ 1 := by omega
    have b7 : ¬ (1 : Nat) = 2 := by omega
    simp only [ht, jn_eq, dk_0, dk_1, dk_2, dk_3, dk_4, dk_5, dk_6, dk_7, dk_8, dk_9, c_int, c_slice, c_bool, takes_eq11 hop, decide_false, cond_false, decide_true, cond_true, stk_len, Nat.beq_refl, and_self, if_true, b1, b2, b3, w5, w6, hc, b4, b8, z0, b5, b6, b7, if_false, Int.toNat_natCast, stk_0, List.drop_succ_cons, List.drop_zero, List.getD_cons_zero]
    by_cases o0 : o = 0
    · simp only [o0, decide_true, cond_true, if_true]
    have o0' : decide (o = 0) = false := decide_eq_false o0
    have rl : r.length ≤ 32 := (by omega)
    simp only [o0, decide_false, cond_false, if_false, lq n 0 b g1 u0 hub, dk_0, dk_1, c_int, c_slice, List.length_map, List.length_reverse]
    have hlen := laysl n 0 b
    generalize laysR w o.toNat n 0 b = lf at hlen ⊢
    obtain ⟨l, f⟩ := lf
    dsimp only at hlen ⊢
    have c1 := lenw r.length l.length (by omega) (by omega)
    have c2 : (r.length + l.length) * 8 ≤ 140737488355328 ∧ r.length + l.length ≤ 9223372036854775807 := by omega
    by_cases hf : f = 0
    case neg => simp only [hf, decide_false, Bool.not_false, cond_true, not_false_iff, if_true]
    by_cases full : 32 < r.length + l.length
    · have full' : (32 : Int) < ((r.length + l.length : Nat) : Int) := by omega
      simp only [hf, c1, full, full', decide_true, Bool.not_true, cond_false, cond_true, not_true, if_false, if_true]
    · have full' : ¬ (32 : Int) < ((r.length + l.length : Nat) : Int) := by omega
      simp only [hf, c1, c2, full, full', decide_true, decide_false, Bool.not_true, cond_false, cond_true, not_true, if_false, if_true, and_self, more_eq11, dk_0, c_int, w3, w4, List.length_append, List.length_map, List.length_reverse, Nat.beq_refl, stk_put]
      by_cases o11 : o = 11
      · have wn : IntKind.i64.wrap n = ((n.toNat : Nat) : Int) := by rw [IntWalk.i64_in _ (by have := h16 (.inl o11); omega)]; omega
        simp only [o11, decide_true, cond_true, true_or, if_true, wn]
      by_cases o12 : o = 12
      · have wn : IntKind.i64.wrap n = ((n.toNat : Nat) : Int) := by rw [IntWalk.i64_in _ (by have := h16 (.inr o12); omega)]; omega
        by_cases b0 : b = 0
        · simp [o11, o12, b0, wn]
        · simp [o11, o12, b0, wn]
      · simp only [o11, o12, decide_false, cond_false, false_or, false_and, if_false]
  · rcases s with _ | ⟨b, _ | ⟨a, r⟩⟩
    · simp [ht, jn_eq, takes_eq11 hop, stk_len]
    · simp [ht, jn_eq, takes_eq11 hop, stk_len]
    have hub : U64 b := hu b (by simp)
    have hua : U64 a := hu a (by simp)
    have hll : (b :: a :: r).length = r.length + 2 := by simp
    have w5 : IntKind.i64.wrap (((b :: a :: r).length : Int) - ((2 : Nat) : Int)) = (r.length : Int) := by rw [IntWalk.i64_in _ (by omega)]; omega
    have w6 : IntKind.i64.wrap (((b :: a :: r).length : Int) - 1) = ((r.length + 1 : Nat) : Int) := by rw [IntWalk.i64_in _ (by omega)]; omega
    have w7 : IntKind.i64.wrap (((b :: a :: r).length : Int) - 2) = (r.length : Int) := w5
    have hc : cut (stk (b :: a :: r)).elems 0 (r.length : Int) = r.reverse.map C.int := stk_cut [b, a] r
    have e0 : (stk (b :: a :: r)).elems.getD (r.length + 1) .nil = .int b := stk_0 b (a :: r)
    have b1 : ¬ ((b :: a :: r).length : Int) < ((2 : Nat) : Int) := by omega
    have b1' : ¬ ((b :: a :: r).length : Int) < 2 := by omega
    have b2 : (1 : Int) ≤ ((2 : Nat) : Int) := by omega
    have b3 : ((2 : Nat) : Int) = 2 := rfl
    have b4 : (0 : Int) ≤ (r.length : Int) ∧ (r.length : Int) ≤ ((b :: a :: r).length : Int) := by omega
    have b8 : (0 : Int) ≤ (r.length : Int) ∧ (r.length : Int) < ((b :: a :: r).length : Int) := by omega
    have b9 : (0 : Int) ≤ ((r.length + 1 : Nat) : Int) ∧ ((r.length + 1 : Nat) : Int) < ((b :: a :: r).length : Int) := by omega
    have b5 : ¬ (b :: a :: r).length < 2 := by omega
    have b6 : (1 : Nat) ≤ 2 := by omega
    have b7 : (2 : Nat) = 2 := rfl
    have b10 : (1 : Int) ≤ 2 := by omega
    have o00 : ¬ o = 0 := fun h => by subst h; exact absurd ht (by decide)
    simp only [ht, jn_eq, dk_0, dk_1, dk_2, dk_3, dk_4, dk_5, dk_6, dk_7, dk_8, dk_9, c_int, c_slice, c_bool, takes_eq11 hop, decide_false, cond_false, decide_true, cond_true, stk_len, Nat.beq_refl, and_self, if_true, b1, b1', b2, b3, b10, w5, w6, w7, hc, b4, b8, b9, z0, b5, b6, b7, if_false, Int.toNat_natCast, e0, stk_1, List.drop_succ_cons, List.drop_zero, List.getD_cons_zero, List.getD_cons_succ]
    by_cases o0 : o = 0
    · exact absurd o0 o00
    have o0' : decide (o = 0) = false := decide_eq_false o0
    have rl : r.length ≤ 32 := (by omega)
    simp only [o0, decide_false, cond_false, if_false, lq n a b g1 hua hub, dk_0, dk_1, c_int, c_slice, List.length_map, List.length_reverse]
    have hlen := laysl n a b
    generalize laysR w o.toNat n a b = lf at hlen ⊢
    obtain ⟨l, f⟩ := lf
    dsimp only at hlen ⊢
    have c1 := lenw r.length l.length (by omega) (by omega)
    have c2 : (r.length + l.length) * 8 ≤ 140737488355328 ∧ r.length + l.length ≤ 9223372036854775807 := by omega
    by_cases hf : f = 0
    case neg => simp only [hf, decide_false, Bool.not_false, cond_true, not_false_iff, if_true]
    by_cases full : 32 < r.length + l.length
    · have full' : (32 : Int) < ((r.length + l.length : Nat) : Int) := by omega
      simp only [hf, c1, full, full', decide_true, Bool.not_true, cond_false, cond_true, not_true, if_false, if_true]
    · have full' : ¬ (32 : Int) < ((r.length + l.length : Nat) : Int) := by omega
      simp only [hf, c1, c2, full, full', decide_true, decide_false, Bool.not_true, cond_false, cond_true, not_true, if_false, if_true, and_self, more_eq11, dk_0, c_int, w3, w4, List.length_append, List.length_map, List.length_reverse, Nat.beq_refl, stk_put]
      by_cases o11 : o = 11
      · have wn : IntKind.i64.wrap n = ((n.toNat : Nat) : Int) := by rw [IntWalk.i64_in _ (by have := h16 (.inl o11); omega)]; omega
        simp only [o11, decide_true, cond_true, true_or, if_true, wn]
      by_cases o12 : o = 12
      · have wn : IntKind.i64.wrap n = ((n.toNat : Nat) : Int) := by rw [IntWalk.i64_in _ (by have := h16 (.inr o12); omega)]; omega
        by_cases b0 : b = 0
        · simp [o11, o12, b0, wn]
        · simp [o11, o12, b0, wn]
      · simp only [o11, o12, decide_false, cond_false, false_or, false_and, if_false]
end Go.Proofs.YthbdeooemkejmaaDoor


namespace Go.Proofs.YthbdeooemkejmaaDoor
open Go Go.E
set_option maxRecDepth 100000
set_option maxHeartbeats 4000000
set_option linter.unusedVariables false
noncomputable def law11_CodeRuns_hs : Hints := [([0, 1, 1, 1, 1], ⟨[], [(6, .d .bool)], [], [], [], []⟩),
    ([9], ⟨[], [(6, .d .bool)], [], [], [], []⟩)]
noncomputable def law11_CodeRuns_ov (N : Nat) : OvS (X0 gl0) where
  g R := [(7, law11_light_g N), (8, law11_awake_g N), (9, code_Run_g N), (10, law11_to_g N), (11, ref11_Run_g N)]
  ok := fun R => List.forall_mem_cons.2 ⟨law11_light_ok N, List.forall_mem_cons.2 ⟨law11_awake_ok N, List.forall_mem_cons.2 ⟨code_Run_ok N, List.forall_mem_cons.2 ⟨law11_to_ok N, List.forall_mem_cons.2 ⟨ref11_Run_ok N, fun _ h => nomatch h⟩⟩⟩⟩⟩
noncomputable def law11_CodeRuns_p0 {R : Type} (N : Nat) (a0 a1 a2 : C) (k1 : KD R) : Option R := (law11_light_p N a1 (fun d1 m1 => (bif !C.toBool (dk d1 0) then (law11_awake_p N (fun d2 m2 => (k1 [C.bool (C.toBool (dk d2 0))] []))) else (law11_to_p N a1 (fun d2 m2 => (code_Run_p N a0 (dk d2 0) a2 (fun d3 m3 => (ref11_Run_p N a0 a1 a2 (fun d4 m4 => (jn (fun d5 m5 => (k1 [C.bool (C.toBool (dk d5 0))] [])) (fun k2 => (law11_awake_p N (fun d5 m5 => (bif C.toBool (dk d5 0) then (bif decide (C.toInt (dk d3 0) = C.toInt (dk d4 0)) then (bif decide (C.toInt (dk d3 1) = C.toInt (dk d4 1)) then (k2 [C.bool (decide (C.toInt (dk d3 2) = C.toInt (dk d4 2)))] []) else (k2 [C.bool false] [])) else (k2 [C.bool false] [])) else (k2 [C.bool false] [])))))))))))))))
noncomputable def law11_CodeRuns_p {R : Type} (N : Nat) : C → C → C → KD R → Option R := lid "law11_CodeRuns_p N" (law11_CodeRuns_p0 N)
theorem law11_CodeRuns_pe {R : Type} (N : Nat) (a0 a1 a2 : C) (k : KD R) : law11_CodeRuns_p N a0 a1 a2 k = law11_CodeRuns_p0 N a0 a1 a2 k := by unfold law11_CodeRuns_p; rw [lid_eq]
theorem law11_CodeRuns_run {R : Type} (N : Nat) (a0 a1 a2 : C) (K : V → List (Key × O) → Option R) : exF (X0 gl0) ((law11_CodeRuns_ov N).ov R) extX (fun f r => bif Nat.beq f 3 then (bif Nat.beq r 0 then [(4, 5)] else []) else []) (fun f => bif Nat.beq f 3 then law11_CodeRuns_hs else []) N 400 8 3 [.d (.slice 1 (.int .u8)) a0, .d tWorld a1, .d (.int .i64) a2] A0 K =
    law11_CodeRuns_p N a0 a1 a2 (fun d1 m1 => K (V.d Ty.bool (C.bool (C.toBool (dk d1 0)))) []) := by
  rw [law11_CodeRuns_pe]
  exact (show _ = jn (fun d1 m1 => (K (V.d Ty.bool (C.bool (C.toBool (dk d1 0)))) [])) (law11_CodeRuns_p0 N a0 a1 a2) by kernel_rfl).trans (jn_eq _ _)
noncomputable def law11_CodeRuns_g (N : Nat) {R : Type} : OvG R := fun xs _ K => match xs with
  | [.d t0 a0, .d t1 a1, .d t2 a2] => if t0 = (.slice 1 (.int .u8)) ∧ t1 = tWorld ∧ t2 = (.int .i64) then law11_CodeRuns_p N a0 a1 a2 (fun d1 m1 => K (V.d Ty.bool (C.bool (C.toBool (dk d1 0)))) []) else none
  | _ => none
theorem law11_CodeRuns_ok (N : Nat) {R : Type} : GOk (X0 gl0) 3 (law11_CodeRuns_g N (R := R)) := by
  intro xs A Kr r hr
  unfold law11_CodeRuns_g at hr
  split at hr
  · simp only [Option.ite_none_right_eq_some] at hr
    obtain ⟨hty, hr⟩ := hr
    obtain ⟨rfl, rfl, rfl⟩ := hty
    rw [← law11_CodeRuns_run] at hr
    obtain ⟨v, L, h1, h2⟩ := exF_ok (ok0 gl0) (mo gl0) ((law11_CodeRuns_ov N).ov_ok _) (extX_ok gl0) _ _ _ _ _ _ hr
    exact ⟨v, L, h1.mono (leA_none fun _ => rfl), h2⟩
  · cases hr
end Go.Proofs.YthbdeooemkejmaaDoor


namespace Go.Proofs.YthbdeooemkejmaaDoor
open Go Go.E
set_option maxRecDepth 100000
set_option maxHeartbeats 4000000
set_option linter.unusedSimpArgs false
variable {R : Type} {N : Nat}
theorem oneI_u (b : Bool) : U64 (oneI b) := by cases b <;> exact ⟨by decide, by decide⟩
theorem wrap_u (n : Int) : U64 (IntKind.u64.wrap n) := by
  have : IntKind.u64.wrap n = n % 18446744073709551616 := by simp [IntKind.wrap, IntKind.bits, IntKind.signed]
  rw [this]
  exact ⟨by omega, by omega⟩
theorem layR_u {q : Int × Int} (h : U64 q.1) : ∀ x ∈ (layR q).1, U64 x := by
  unfold layR
  split
  · intro x hx; simp at hx; subst hx; exact h
  · intro x hx; simp at hx
theorem one_u {n : Int} (h : U64 n) : ∀ x ∈ [n], U64 x := by intro x hx; simp at hx; subst hx; exact h
theorem two_u {n m : Int} (h : U64 n) (h2 : U64 m) : ∀ x ∈ [n, m], U64 x := by
  intro x hx; simp at hx; rcases hx with rfl | rfl
  · exact h
  · exact h2
theorem laysR_u {w : C} (hf : ∀ c ∈ (w.get 0).elems, U64 c.toInt) (hh : U64 (w.get 2).toInt) (op : Nat) {n a b : Int} (hn : U64 n) (ha : U64 a) (hb : U64 b) : ∀ x ∈ (laysR w op n a b).1, U64 x := by
  have u0 : U64 0 := ⟨by omega, by omega⟩
  unfold laysR
  split
  · exact one_u hn
  · split
    · rename_i h
      refine one_u ?_
      have hi : n.toNat < (w.get 0).elems.length := by have := hn.1; omega
      rw [List.getD_eq_getElem?_getD, List.getElem?_eq_getElem hi]
      exact hf _ (List.getElem_mem hi)
    · intro x hx; simp at hx
  · refine layR_u ?_
    unfold addR
    split
    · exact ⟨by dsimp only; omega, by dsimp only; omega⟩
    · exact u0
  · refine layR_u ?_
    unfold subR
    split
    · exact u0
    · exact wrap_u _
  · refine layR_u ?_
    rw [mulR_eq ha hb]
    have := Int.mul_nonneg ha.1 hb.1
    split
    · exact ⟨this, by assumption⟩
    · exact u0
  · exact one_u (oneI_u _)
  · exact one_u (oneI_u _)
  · exact one_u (oneI_u _)
  · exact one_u (oneI_u _)
  · exact one_u (oneI_u _)
  · exact two_u hb hb
  · exact two_u hb ha
  · split
    · exact one_u (oneI_u _)
    · intro x hx; simp at hx
  · exact one_u hh
  · intro x hx; simp at hx
theorem under {w : C} {o : Int} (ho : 0 ≤ o ∧ o < 18) (h0 : o ≠ 0) (h12 : o ≠ 12) (n : Int) {s : List Int} (hlt : s.length < takesN o) : (plainS w o.toNat n ⟨s, 0⟩).e = 12 := by
  rcases s with _ | ⟨b, _ | ⟨a, r⟩⟩
  · rcases ops18 ho with h | h | h | h | h | h | h | h | h | h | h | h | h | h | h | h | h | h <;> subst h <;> first
      | exact absurd rfl h0 | exact absurd rfl h12 | rfl | (exfalso; simp [takesN] at hlt; done)
  · rcases ops18 ho with h | h | h | h | h | h | h | h | h | h | h | h | h | h | h | h | h | h <;> subst h <;> first
      | exact absurd rfl h0 | exact absurd rfl h12 | rfl | (exfalso; simp [takesN] at hlt; done)
  · exfalso
    unfold takesN at hlt
    simp only [List.length_cons] at hlt
    (repeat' split at hlt) <;> omega
theorem stepAll {w : C} {o : Int} (ho : 0 ≤ o ∧ o < 18) (h0 : o ≠ 0) (h11 : o ≠ 11) (h12 : o ≠ 12) (n : Int) {s : List Int} (hs : s.length ≤ 32) (hlt : ¬ s.length < takesN o) :
    StepOk (s.drop (takesN o)) (laysR w o.toNat n (if takesN o = 2 then s.getD 1 0 else 0) (if 1 ≤ takesN o then s.getD 0 0 else 0)) (plainS w o.toNat n ⟨s, 0⟩) := by
  rcases ops18 ho with h | h | h | h | h | h | h | h | h | h | h | h | h | h | h | h | h | h <;> subst h
  · exact absurd rfl h0
  · exact step0 (by decide) n _ _ s
  · exact step0 (by decide) n _ _ s
  · rcases s with _ | ⟨b, _ | ⟨a, r⟩⟩
    · exfalso; simp [takesN] at hlt
    · exfalso; simp [takesN] at hlt
    · exact step2 (by decide) n a b r (by simp at hs; omega)
  · rcases s with _ | ⟨b, _ | ⟨a, r⟩⟩
    · exfalso; simp [takesN] at hlt
    · exfalso; simp [takesN] at hlt
    · exact step2 (by decide) n a b r (by simp at hs; omega)
  · rcases s with _ | ⟨b, _ | ⟨a, r⟩⟩
    · exfalso; simp [takesN] at hlt
    · exfalso; simp [takesN] at hlt
    · exact step2 (by decide) n a b r (by simp at hs; omega)
  · rcases s with _ | ⟨b, _ | ⟨a, r⟩⟩
    · exfalso; simp [takesN] at hlt
    · exfalso; simp [takesN] at hlt
    · exact step2 (by decide) n a b r (by simp at hs; omega)
  · rcases s with _ | ⟨b, _ | ⟨a, r⟩⟩
    · exfalso; simp [takesN] at hlt
    · exfalso; simp [takesN] at hlt
    · exact step2 (by decide) n a b r (by simp at hs; omega)
  · rcases s with _ | ⟨b, r⟩
    · exfalso; simp [takesN] at hlt
    · exact step1 (by decide) n _ b r (by simp at hs; omega)
  · rcases s with _ | ⟨b, _ | ⟨a, r⟩⟩
    · exfalso; simp [takesN] at hlt
    · exfalso; simp [takesN] at hlt
    · exact step2 (by decide) n a b r (by simp at hs; omega)
  · rcases s with _ | ⟨b, _ | ⟨a, r⟩⟩
    · exfalso; simp [takesN] at hlt
    · exfalso; simp [takesN] at hlt
    · exact step2 (by decide) n a b r (by simp at hs; omega)
  · exact absurd rfl h11
  · exact absurd rfl h12
  · rcases s with _ | ⟨b, r⟩
    · exfalso; simp [takesN] at hlt
    · exact step1 (by decide) n _ b r (by simp at hs; omega)
  · rcases s with _ | ⟨b, _ | ⟨a, r⟩⟩
    · exfalso; simp [takesN] at hlt
    · exfalso; simp [takesN] at hlt
    · exact step2 (by decide) n a b r (by simp at hs; omega)
  · rcases s with _ | ⟨b, r⟩
    · exfalso; simp [takesN] at hlt
    · exact step1 (by decide) n _ b r (by simp at hs; omega)
  · exact step0 (by decide) n _ _ s
  · exact step0 (by decide) n _ _ s
theorem rrun_st {p : List C} (hp : C.wf (.slice 1 (.int .u8)) (.slice p)) (hl : p.length ≤ 256) {gas : Int} (hg : 0 ≤ gas ∧ gas ≤ 4096) {w : C} (hw : WOk w) (hb1 : ∀ c ∈ (w.get 1).elems, c = .bool c.toBool)
    (hf : ∀ c ∈ (w.get 0).elems, U64 c.toInt) (hh : U64 (w.get 2).toInt) (hN : 5000 < N) (k : KD R) :
    loopK N (ref11_Run_l1 N k) [.slice p, .int gas, w, .slice [], .int 0, .int 0] [] = k [.int (runV p gas w 0 0 ⟨[], 0⟩).1, .int (runV p gas w 0 0 ⟨[], 0⟩).2.1, .int (runV p gas w 0 0 ⟨[], 0⟩).2.2] [] := by
  refine loopK_ind (F := ref11_Run_l1 N k) (fun j : RefI => [.slice p, .int gas, w, stk j.s, .int j.i, .int j.sp]) (fun _ => []) (fun j => (gas - j.sp).toNat)
    (fun j => j.s.length ≤ 32 ∧ (∀ a ∈ j.s, U64 a) ∧ 0 ≤ j.sp ∧ j.sp ≤ gas ∧ j.i ≤ 100000) (fun j => k [.int (runV p gas w j.i j.sp ⟨j.s, 0⟩).1, .int (runV p gas w j.i j.sp ⟨j.s, 0⟩).2.1, .int (runV p gas w j.i j.sp ⟨j.s, 0⟩).2.2] [])
    ?_ N ⟨0, 0, []⟩ ⟨by simp, by simp, by dsimp only; omega, by dsimp only; omega, by dsimp only; omega⟩ (by dsimp only; omega)
  rintro ⟨i, sp, s⟩ ⟨hs, hu, h0, h1, hi⟩ rec hrec
  dsimp only at hs hu h0 h1 hi hrec ⊢
  rw [rrun_body hp hl hg hw hb1 hN k rec i hi sp h0 h1 s hs hu, runV_eq]
  by_cases e1 : errN p i = 0
  case neg => simp [e1]
  have hb : i < p.length ∧ bN p i < 18 ∧ i + 1 + moreN (bN p i) ≤ p.length := by
    unfold errN at e1
    split at e1
    · cases e1
    split at e1
    · cases e1
    split at e1
    · cases e1
    omega
  have hbw := bN_wf hp hb.1
  have hop : 0 ≤ bN p i ∧ bN p i < 18 := by omega
  have hcp := costN_pos (bN p i)
  have hmo := moreN_le (bN p i)
  obtain ⟨g1, g2, _⟩ := argN_lt hp (i := i + 1) (k := moreN (bN p i)) (by omega) hmo
  have h16 : bN p i = 11 ∨ bN p i = 12 → 0 ≤ argA p i ∧ argA p i < 65536 := fun h => arg16 hp hb.2.2 h
  have hq : argN p (i + 1) (moreN (bN p i)) = argA p i := rfl
  rw [hq] at g1 g2
  have hnu : U64 (argA p i) := ⟨g1, by omega⟩
  have e1' : ¬ errN p i ≠ 0 := by simpa using e1
  rw [if_neg e1', if_neg e1']
  by_cases e2 : gas < sp + costN (bN p i)
  · have e2' : gas - sp < costN (bN p i) := by omega
    rw [if_pos e2, if_pos e2']
  have e2' : ¬ gas - sp < costN (bN p i) := by omega
  rw [if_neg e2, if_neg e2']
  have hop18 := ops18 hop
  generalize bN p i = o at *
  generalize argA p i = n at *
  generalize costN o = c at *
  clear hq
  by_cases e3 : s.length < takesN o
  · rw [if_pos e3]
    by_cases o0 : o = 0
    · subst o0
      rcases s with _ | ⟨b, r⟩
      · rfl
      · exact absurd e3 (by simp [takesN])
    by_cases o11 : o = 11
    · subst o11; exact absurd e3 (by simp [takesN])
    by_cases o12 : o = 12
    · subst o12
      rcases s with _ | ⟨b, r⟩
      · rfl
      · exact absurd e3 (by simp [takesN])
    have hun := under (w := w) hop o0 o12 n e3
    rw [if_neg o0, if_neg o11, if_neg o12, if_pos (by rw [hun]; decide), hun]
  rw [if_neg e3]
  by_cases o0 : o = 0
  · subst o0
    rcases s with _ | ⟨b, r⟩
    · exact absurd (show (0 : Nat) < 1 by omega) e3
    · rfl
  rw [if_neg o0, if_neg o0]
  have hfin : ∀ (q : List Int), (∀ a ∈ q, U64 a) → q.length ≤ 32 → ∀ at', at' ≤ 100000 → rec [.slice p, .int gas, w, stk q, .int (at' : Nat), .int (sp + c)] [] = k [.int (runV p gas w at' (sp + c) ⟨q, 0⟩).1, .int (runV p gas w at' (sp + c) ⟨q, 0⟩).2.1, .int (runV p gas w at' (sp + c) ⟨q, 0⟩).2.2] [] :=
    fun q hq hl at' ha => hrec ⟨at', sp + c, q⟩ ⟨hl, hq, by dsimp only; omega, by dsimp only; omega, ha⟩ (by dsimp only; omega)
  by_cases o11 : o = 11
  · subst o11
    have := h16 (.inl rfl)
    have q := hfin s hu hs n.toNat (by omega)
    have f32 : ¬ 32 < s.length := by omega
    simpa [takesN, laysR, f32] using q
  by_cases o12 : o = 12
  · subst o12
    have := h16 (.inr rfl)
    rcases s with _ | ⟨b, r⟩
    · exact absurd (show (0 : Nat) < 1 by omega) e3
    have hrl : r.length ≤ 31 := by simp at hs; omega
    have f32 : ¬ 32 < r.length := by omega
    have hur : ∀ a ∈ r, U64 a := fun a ha => hu a (by simp [ha])
    have hm12 : moreN 12 = 2 := rfl
    by_cases b0 : b = 0
    · have q := hfin r hur (by omega) (i + 1 + moreN 12) (by omega)
      subst b0
      simpa [takesN, laysR, St.pop, f32] using q
    · have q := hfin r hur (by omega) n.toNat (by omega)
      simpa [takesN, laysR, St.pop, f32, b0] using q
  rw [if_neg o11, if_neg o12]
  have hS := stepAll (w := w) hop o0 o11 o12 n hs e3
  have ha : U64 (if takesN o = 2 then s.getD 1 0 else 0) := by
    split
    · rw [List.getD_eq_getElem?_getD, List.getElem?_eq_getElem (by omega)]
      exact hu _ (List.getElem_mem _)
    · exact ⟨by omega, by omega⟩
  have hbb : U64 (if 1 ≤ takesN o then s.getD 0 0 else 0) := by
    split
    · rw [List.getD_eq_getElem?_getD, List.getElem?_eq_getElem (by omega)]
      exact hu _ (List.getElem_mem _)
    · exact ⟨by omega, by omega⟩
  have hlu := laysR_u hf hh o.toNat hnu ha hbb
  dsimp only
  generalize (if takesN o = 2 then s.getD 1 0 else 0) = a at *
  generalize (if 1 ≤ takesN o then s.getD 0 0 else 0) = b at *
  generalize laysR w o.toNat n a b = lf at *
  generalize plainS w o.toNat n ⟨s, 0⟩ = y at *
  have hdu : ∀ a ∈ s.drop (takesN o), U64 a := fun a ha => hu a (List.mem_of_mem_drop ha)
  generalize s.drop (takesN o) = r at *
  by_cases f1 : lf.2 = 0
  case neg =>
    have hy := hS.bad f1
    rw [if_pos f1, if_pos (by rw [hy]; exact f1), hy]
  rw [if_neg (by simpa using f1)]
  by_cases f2 : 32 < r.length + lf.1.length
  · have hy := hS.full f1 f2
    rw [if_pos f2, if_pos (by rw [hy]; decide), hy]
  · have hy := hS.ok f1 f2
    subst hy
    have hne : ¬ (o = 11 ∨ o = 12 ∧ b ≠ 0) := fun h => h.elim o11 fun h => o12 h.1
    rw [if_neg f2, if_neg hne, if_neg (by simp)]
    exact hfin (lf.1.reverse ++ r) (fun a ha => by
      rcases List.mem_append.1 ha with h | h
      · exact hlu a (List.mem_reverse.1 h)
      · exact hdu a h) (by simp; omega) _ (by omega)
theorem runF_toW {p : List C} {gas : Int} {w : C} : ∀ (f i : Nat) (sp : Int) (x : St), runF p gas (toW w) f i sp x = runF p gas w f i sp x
  | 0, _, _, _ => rfl
  | f + 1, i, sp, x => by
    have hp : ∀ op n x, plainS (toW w) op n x = plainS w op n x := fun _ _ _ => rfl
    simp only [runF, runF_toW f, hp]
theorem rrun_eq {p : List C} (hp : C.wf (.slice 1 (.int .u8)) (.slice p)) {gas : Int} {w : C} (hw : WOk w) (hb1 : ∀ c ∈ (w.get 1).elems, c = .bool c.toBool)
    (hf : ∀ c ∈ (w.get 0).elems, U64 c.toInt) (hh : U64 (w.get 2).toInt) (hN : 5000 < N) (k : KD R) :
    ref11_Run_p N (.slice p) w (.int gas) k = k [.int (runR p (toW w) gas).1, .int (runR p (toW w) gas).2.1, .int (runR p (toW w) gas).2.2] [] := by
  rw [ref11_Run_pe]
  unfold ref11_Run_p0 runR
  have e : runV p gas (toW w) 0 0 ⟨[], 0⟩ = runV p gas w 0 0 ⟨[], 0⟩ := by unfold runV; exact runF_toW _ _ _ _
  by_cases a1 : (256 : Int) < (p.length : Int)
  · have a1' : 256 < p.length := by omega
    simp only [jn_eq, go_sem, c_slice, c_int, c_bool, a1, a1', decide_true, cond_true, true_or, if_true]
  have a1' : ¬ 256 < p.length := by omega
  by_cases a2 : gas < 0
  · simp only [jn_eq, go_sem, c_slice, c_int, c_bool, a1, a1', a2, decide_true, decide_false, cond_true, cond_false, true_or, or_true, if_true]
  by_cases a3 : (4096 : Int) < gas
  · simp only [jn_eq, go_sem, c_slice, c_int, c_bool, a1, a1', a2, a3, decide_true, decide_false, cond_true, cond_false, true_or, or_true, if_true]
  · have a4 : ¬ (256 < p.length ∨ gas < 0 ∨ 4096 < gas) := by omega
    rw [if_neg a4, e]
    simp only [jn_eq, go_sem, c_slice, c_int, c_bool, a1, a2, a3, decide_false, cond_false]
    exact rrun_st hp (by omega) (by omega) hw hb1 hf hh hN k
theorem CodeRuns_eq (p : List C) (w : C) (gas : Int) (hp : C.wf (.slice 1 (.int .u8)) (.slice p)) (hw : C.wf tWorld w) (hN : 5000 < N) (k : KD R) : law11_CodeRuns_p N (.slice p) w (.int gas) k = k [.bool true] [] := by
  rw [law11_CodeRuns_pe]
  unfold law11_CodeRuns_p0
  by_cases hl : (w.get 0).elems.length ≤ 300 ∧ (w.get 1).elems.length ≤ 300
  case neg => simp only [light_eq, awake_eq hN, hl, dk_0, c_bool, decide_false, Bool.not_false, cond_true]
  have hW := toW_ok hw hl.1 hl.2
  have f0 : C.wf (.slice 8 (.int .u64)) (w.get 0) := C.wf_field (i := 0) hw rfl
  have f1 : C.wf (.slice 1 .bool) (w.get 1) := C.wf_field (i := 1) hw rfl
  have f2 : C.wf (.int .u64) (w.get 2) := C.wf_field (i := 2) hw rfl
  have m1 : IntKind.u64.min = 0 := by decide
  have m2 : IntKind.u64.max = 18446744073709551615 := by decide
  simp only [C.wf] at f0 f1 f2
  have hw' : WOk w := ⟨fun c hc => (f0.2.2.2 c hc).1, by omega, by omega, f2.1⟩
  have hb1 : ∀ c ∈ (w.get 1).elems, c = .bool c.toBool := fun c hc => f1.2.2.2 c hc
  have hf : ∀ c ∈ (w.get 0).elems, U64 c.toInt := fun c hc => by have := f0.2.2.2 c hc; exact ⟨by omega, by omega⟩
  have hh : U64 (w.get 2).toInt := ⟨by omega, by omega⟩
  simp only [light_eq, awake_eq hN, hl, to_eq, run_eq hp hW hN, rrun_eq hp hw' hb1 hf hh hN, jn_eq, dk_0, dk_1, dk_2, c_bool, c_int, and_self, decide_true, Bool.not_true, cond_false, cond_true]
theorem run_CodeRuns (A : Key → Option O) (p w g : C) : DCalls (X0 gl0) 3 [.d (.slice 1 (.int .u8)) p, .d tWorld w, .d (.int .i64) g] A (.d .bool (.bool true)) [] := by
  refine dcalls_wf (ts := [.slice 1 (.int .u8), tWorld, .int .i64]) (cs := [p, w, g]) fun W => ?_
  have h0 := W 0 _ _ rfl rfl
  have h1 := W 1 _ _ rfl rfl
  have h2 := W 2 _ _ rfl rfl
  have e2 : g = .int g.toInt := by simp only [C.wf] at h2; exact h2.1
  have e0 : p = .slice p.elems := by simp only [C.wf] at h0; exact h0.1
  rw [e0] at h0
  refine of_gok (law11_CodeRuns_ok 5001) ?_
  show law11_CodeRuns_g 5001 [.d (.slice 1 (.int .u8)) p, .d tWorld w, .d (.int .i64) g] A kR = _
  simp only [law11_CodeRuns_g, and_self, if_true]
  rw [e0, e2, CodeRuns_eq p.elems w g.toInt h0 h1 (by omega)]
  rfl
end Go.Proofs.YthbdeooemkejmaaDoor

