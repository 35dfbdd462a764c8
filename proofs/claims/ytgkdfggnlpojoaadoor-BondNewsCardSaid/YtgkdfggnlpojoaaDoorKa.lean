/-
  What the functions on the way compute, part 1.
  Conditions: none.
-/
import Derived.Test.YtgkdfggnlpojoaaDoorTf
import Derived.Laws.Externs
set_option linter.all false
namespace Go.Proofs.YtgkdfggnlpojoaaDoor
open Go Go.E
set_option maxRecDepth 10000
set_option maxHeartbeats 4000000
set_option linter.unusedSimpArgs false
variable {gl : Nat → Option (Ty × C)}
/-- The orders' forms, as the program has them: how many bytes follow, and the cost. -/
def formC (l : List UInt8) (m c : Int) : C := .agg [.str l, .int m, .int c]
def formsC : List C := [formC [104, 97, 108, 116] 0 1, formC [112, 117, 115, 104] 8 1, formC [108, 111, 97, 100] 1 1, formC [97, 100, 100] 0 1, formC [115, 117, 98] 0 1, formC [109, 117, 108] 0 3,
  formC [108, 101, 115, 115] 0 1, formC [115, 97, 109, 101] 0 1, formC [110, 111, 116] 0 1, formC [98, 111, 116, 104] 0 1, formC [97, 110, 121] 0 1, formC [106, 117, 109, 112] 2 1, formC [105, 102] 2 1,
  formC [116, 119, 105, 99, 101] 0 1, formC [115, 119, 97, 112] 0 1, formC [100, 114, 111, 112] 0 1, formC [112, 97, 105, 100] 1 10, formC [110, 111, 119] 0 1]
def GF (gl : Nat → Option (Ty × C)) : Prop := gl 0 = some (.arr 18 tForm, .agg formsC)
/-- How many bytes follow an order. -/
def moreN (o : Int) : Nat := if o = 1 then 8 else if o = 2 ∨ o = 16 then 1 else if o = 11 ∨ o = 12 then 2 else 0
theorem moreN_le (o : Int) : moreN o ≤ 8 := by unfold moreN; (repeat' split) <;> omega
theorem forms_more : ∀ (o : Nat), o < 18 → (formsC.getD o .nil).get 1 = .int (moreN o) := by
  intro o h
  have c : o = 0 ∨ o = 1 ∨ o = 2 ∨ o = 3 ∨ o = 4 ∨ o = 5 ∨ o = 6 ∨ o = 7 ∨ o = 8 ∨ o = 9 ∨ o = 10 ∨ o = 11 ∨ o = 12 ∨ o = 13 ∨ o = 14 ∨ o = 15 ∨ o = 16 ∨ o = 17 := by omega
  rcases c with rfl | rfl | rfl | rfl | rfl | rfl | rfl | rfl | rfl | rfl | rfl | rfl | rfl | rfl | rfl | rfl | rfl | rfl <;> rfl
/-- A byte of a program. -/
def bN (p : List C) (i : Nat) : Int := (p.getD i .nil).toInt
/-- The number of k bytes. -/
def argN (p : List C) (i : Nat) : Nat → Int
  | 0 => 0
  | k + 1 => argN p i k * 256 + bN p (i + k)
def errN (p : List C) (i : Nat) : Int :=
  if p.length ≤ i then 9 else if 18 ≤ bN p i then 33 else if p.length < i + 1 + moreN (bN p i) then 9 else 0
theorem bN_wf {p : List C} (h : C.wf (.slice 1 (.int .u8)) (.slice p)) {i : Nat} (hi : i < p.length) : p.getD i .nil = .int (bN p i) ∧ 0 ≤ bN p i ∧ bN p i ≤ 255 := by
  have := C.wf_elem (i := i) h hi
  simp only [C.elems, C.wf] at this
  have m1 : IntKind.u8.min = 0 := by decide
  have m2 : IntKind.u8.max = 255 := by decide
  exact ⟨this.1, by unfold bN; omega, by unfold bN; omega⟩
theorem argN_wf {p : List C} (h : C.wf (.slice 1 (.int .u8)) (.slice p)) {i : Nat} : ∀ {k : Nat}, i + k ≤ p.length → 0 ≤ argN p i k ∧ argN p i k < 256 ^ k
  | 0, _ => by simp [argN]
  | k + 1, hk => by
    have ih := argN_wf h (k := k) (i := i) (by omega)
    have hb := bN_wf h (i := i + k) (by omega)
    simp only [argN]
    have e : (256 : Int) ^ (k + 1) = 256 ^ k * 256 := by rw [Int.pow_succ]
    omega
theorem argN_lt {p : List C} (h : C.wf (.slice 1 (.int .u8)) (.slice p)) {i k : Nat} (hk : i + k ≤ p.length) (h8 : k ≤ 8) : 0 ≤ argN p i k ∧ argN p i k ≤ 18446744073709551615 ∧ (k < 8 → argN p i k < 72057594037927936) := by
  obtain ⟨h1, h2⟩ := argN_wf h hk
  have c : k = 0 ∨ k = 1 ∨ k = 2 ∨ k = 3 ∨ k = 4 ∨ k = 5 ∨ k = 6 ∨ k = 7 ∨ k = 8 := by omega
  rcases c with rfl | rfl | rfl | rfl | rfl | rfl | rfl | rfl | rfl <;> simp at h2 <;> omega
theorem or_byte {a b : Int} (ha : 0 ≤ a) (ha2 : a < 72057594037927936) (hb : 0 ≤ b) (hb2 : b ≤ 255) : bitsC .or .u64 (a * 256) b = a * 256 + b := by
  obtain ⟨x, rfl⟩ := Int.eq_ofNat_of_zero_le ha
  obtain ⟨y, rfl⟩ := Int.eq_ofNat_of_zero_le hb
  have hx : x < 72057594037927936 := by omega
  have hy : y < 256 := by omega
  have e1 : ((x : Int) * 256) = ((x * 256 : Nat) : Int) := by omega
  have key : (x * 256) ||| y = x * 256 + y := by
    have := Nat.two_pow_add_eq_or_of_lt (i := 8) (b := y) (by omega) x
    rw [Nat.mul_comm x 256]
    exact this.symm
  rw [e1]
  show IntKind.u64.wrap (((BitVec.ofInt 64 ((x * 256 : Nat) : Int)) ||| (BitVec.ofInt 64 ((y : Nat) : Int))).toNat : Int) = _
  simp only [BitVec.toNat_or, BitVec.ofInt_natCast, BitVec.toNat_ofNat]
  rw [Nat.mod_eq_of_lt (by omega), Nat.mod_eq_of_lt (by omega), key]
  have m1 : IntKind.u64.min = 0 := by decide
  have m2 : IntKind.u64.max = 18446744073709551615 := by decide
  exact (wrap_id (by omega) (by omega)).trans (by omega)
/-- What fetch gives: an order, its number, the next place, what is wrong. -/
def fetchV (p : List C) (i : Nat) : V := .tup [.d (.int .i64) (.int (if errN p i = 0 then bN p i else 0)), .d (.int .u64) (.int (if errN p i = 0 then argN p (i + 1) (moreN (bN p i)) else 0)),
  .d (.int .i64) (.int (if errN p i = 0 then ((i + 1 + moreN (bN p i) : Nat) : Int) else 0)), .d (.int .i64) (.int (errN p i))]
theorem code_fetch (hg : GF gl) (A : Key → Option O) (p : List C) (at_ : Nat) (hl : p.length ≤ 256) (hat : at_ ≤ 600) : DCalls (X0 gl) 25 [.d (.slice 1 (.int .u8)) (.slice p), .d (.int .i64) (.int at_)] A (fetchV p at_) [] := by
  refine dcalls_intro (n := 51) (ok0 gl) Tryd.func25 rfl rfl (by simp) ?_
  intro A' hA
  refine dc_facts fun W => ?_
  have hw : C.wf (.slice 1 (.int .u8)) (.slice p) := W.at (t := 0) rfl
  clear W
  refine dc_seq (dc_region (ok0 gl) [] (by kernel_rfl) ?_)
  simp only [go_sem, ↓gx_tt, ↓gx_tf, ↓gx_ft, ↓gx_ff, ↓gx_u2, ↓gk_tt, ↓gk_tf, ↓gk_ff, ↓gk_ft, reduceCtorEq, Nat.reduceEqDiff, ↓reduceIte, Nat.reduceAdd, Nat.reduceSub, Nat.reduceLT, Nat.reduceMul, Nat.reduceBEq, Int.reduceLE, Int.reduceLT, Int.reduceAdd, Int.reduceSub, Int.reduceToNat, Int.reduceNeg, Int.reduceMul, Nat.reduceLeDiff]
  by_cases h1 : p.length ≤ at_
  · have h1' : (p.length : Int) ≤ (at_ : Int) := by omega
    have e : errN p at_ = 9 := by unfold errN; rw [if_pos h1]
    refine dc_seq (dc_seq (dc_region (ok0 gl) [] (by kernel_rfl) ?_))
    simp only [go_sem, ↓gx_tt, ↓gx_tf, ↓gx_ft, ↓gx_ff, ↓gx_u2, ↓gk_tt, ↓gk_tf, ↓gk_ff, ↓gk_ft, reduceCtorEq, Nat.reduceEqDiff, ↓reduceIte, Nat.reduceAdd, Nat.reduceSub, Nat.reduceLT, Nat.reduceMul, Nat.reduceBEq, Int.reduceLE, Int.reduceLT, Int.reduceAdd, Int.reduceSub, Int.reduceToNat, Int.reduceNeg, Int.reduceMul, Nat.reduceLeDiff, h1']
    refine dc_cond _ rfl (fun _ => ?_) (fun h => by simp at h)   -- on t13
    refine dc_seq (dc_region (ok0 gl) [] (by kernel_rfl) ?_)
    simp only [go_sem, ↓gx_tt, ↓gx_tf, ↓gx_ft, ↓gx_ff, ↓gx_u2, ↓gk_tt, ↓gk_tf, ↓gk_ff, ↓gk_ft, reduceCtorEq, Nat.reduceEqDiff, ↓reduceIte, Nat.reduceAdd, Nat.reduceSub, Nat.reduceLT, Nat.reduceMul, Nat.reduceBEq, Int.reduceLE, Int.reduceLT, Int.reduceAdd, Int.reduceSub, Int.reduceToNat, Int.reduceNeg, Int.reduceMul, Nat.reduceLeDiff]
    refine dc_ret ⟨.inr rfl, ?_⟩
    simp only [retOk, go_sem, ↓gx_tt, ↓gx_tf, ↓gx_ft, ↓gx_ff, ↓gx_u2, ↓gk_tt, ↓gk_tf, ↓gk_ff, ↓gk_ft, reduceCtorEq, Nat.reduceEqDiff, ↓reduceIte, Nat.reduceAdd, Nat.reduceSub, Nat.reduceLT, Nat.reduceMul, Nat.reduceBEq, Int.reduceLE, Int.reduceLT, Int.reduceAdd, Int.reduceSub, Int.reduceToNat, Int.reduceNeg, Int.reduceMul, Nat.reduceLeDiff, Tryd.f25, fetchV, e, Int.reduceEq, reduceIte] <;> try rfl
  · have h1' : ¬ (p.length : Int) ≤ (at_ : Int) := by omega
    have hlt : (at_ : Int) < (p.length : Int) := by omega
    have e1 : ((at_ : Int).toNat) = at_ := Int.toNat_natCast _
    obtain ⟨b1, b2, b3⟩ := bN_wf hw (i := at_) (by omega)
    refine dc_seq (dc_seq (dc_region (ok0 gl) [] (by kernel_rfl) ?_))
    simp only [go_sem, ↓gx_tt, ↓gx_tf, ↓gx_ft, ↓gx_ff, ↓gx_u2, ↓gk_tt, ↓gk_tf, ↓gk_ff, ↓gk_ft, reduceCtorEq, Nat.reduceEqDiff, ↓reduceIte, Nat.reduceAdd, Nat.reduceSub, Nat.reduceLT, Nat.reduceMul, Nat.reduceBEq, Int.reduceLE, Int.reduceLT, Int.reduceAdd, Int.reduceSub, Int.reduceToNat, Int.reduceNeg, Int.reduceMul, Nat.reduceLeDiff, h1']
    refine dc_cond _ rfl (fun h => by simp at h) (fun _ => dc_skip ?_)   -- on t13
    have w1 : IntKind.i64.wrap (bN p at_) = bN p at_ := IntWalk.i64_in _ (by omega)
    refine dc_seq (dc_region (ok0 gl) [] (by kernel_rfl) ?_)
    simp only [go_sem, ↓gx_tt, ↓gx_tf, ↓gx_ft, ↓gx_ff, ↓gx_u2, ↓gk_tt, ↓gk_tf, ↓gk_ff, ↓gk_ft, reduceCtorEq, Nat.reduceEqDiff, ↓reduceIte, Nat.reduceAdd, Nat.reduceSub, Nat.reduceLT, Nat.reduceMul, Nat.reduceBEq, Int.reduceLE, Int.reduceLT, Int.reduceAdd, Int.reduceSub, Int.reduceToNat, Int.reduceNeg, Int.reduceMul, Nat.reduceLeDiff, hlt, e1, b1, w1]
    refine ⟨by omega, ?_⟩
    by_cases h2 : 18 ≤ bN p at_
    · have e : errN p at_ = 33 := by unfold errN; rw [if_neg h1, if_pos h2]
      refine dc_seq (dc_seq (dc_region (ok0 gl) [] (by kernel_rfl) ?_))
      simp only [go_sem, ↓gx_tt, ↓gx_tf, ↓gx_ft, ↓gx_ff, ↓gx_u2, ↓gk_tt, ↓gk_tf, ↓gk_ff, ↓gk_ft, reduceCtorEq, Nat.reduceEqDiff, ↓reduceIte, Nat.reduceAdd, Nat.reduceSub, Nat.reduceLT, Nat.reduceMul, Nat.reduceBEq, Int.reduceLE, Int.reduceLT, Int.reduceAdd, Int.reduceSub, Int.reduceToNat, Int.reduceNeg, Int.reduceMul, Nat.reduceLeDiff, h2]
      refine dc_cond _ rfl (fun _ => ?_) (fun h => by simp at h)   -- on t20
      refine dc_seq (dc_region (ok0 gl) [] (by kernel_rfl) ?_)
      simp only [go_sem, ↓gx_tt, ↓gx_tf, ↓gx_ft, ↓gx_ff, ↓gx_u2, ↓gk_tt, ↓gk_tf, ↓gk_ff, ↓gk_ft, reduceCtorEq, Nat.reduceEqDiff, ↓reduceIte, Nat.reduceAdd, Nat.reduceSub, Nat.reduceLT, Nat.reduceMul, Nat.reduceBEq, Int.reduceLE, Int.reduceLT, Int.reduceAdd, Int.reduceSub, Int.reduceToNat, Int.reduceNeg, Int.reduceMul, Nat.reduceLeDiff]
      refine dc_ret ⟨.inr rfl, ?_⟩
      simp only [retOk, go_sem, ↓gx_tt, ↓gx_tf, ↓gx_ft, ↓gx_ff, ↓gx_u2, ↓gk_tt, ↓gk_tf, ↓gk_ff, ↓gk_ft, reduceCtorEq, Nat.reduceEqDiff, ↓reduceIte, Nat.reduceAdd, Nat.reduceSub, Nat.reduceLT, Nat.reduceMul, Nat.reduceBEq, Int.reduceLE, Int.reduceLT, Int.reduceAdd, Int.reduceSub, Int.reduceToNat, Int.reduceNeg, Int.reduceMul, Nat.reduceLeDiff, Tryd.f25, fetchV, e, Int.reduceEq, reduceIte] <;> try rfl
    · refine dc_seq (dc_seq (dc_region (ok0 gl) [] (by kernel_rfl) ?_))
      simp only [go_sem, ↓gx_tt, ↓gx_tf, ↓gx_ft, ↓gx_ff, ↓gx_u2, ↓gk_tt, ↓gk_tf, ↓gk_ff, ↓gk_ft, reduceCtorEq, Nat.reduceEqDiff, ↓reduceIte, Nat.reduceAdd, Nat.reduceSub, Nat.reduceLT, Nat.reduceMul, Nat.reduceBEq, Int.reduceLE, Int.reduceLT, Int.reduceAdd, Int.reduceSub, Int.reduceToNat, Int.reduceNeg, Int.reduceMul, Nat.reduceLeDiff, h2]
      refine dc_cond _ rfl (fun h => by simp at h) (fun _ => dc_skip ?_)   -- on t20
      have hm : (formsC.getD (bN p at_).toNat .nil).get 1 = .int (moreN (bN p at_)) := by
        have := forms_more (bN p at_).toNat (by omega)
        rwa [Int.toNat_of_nonneg b2] at this
      have hg' : gl 0 = _ := hg
      have m8 := moreN_le (bN p at_)
      generalize hmm : moreN (bN p at_) = m at hm m8
      have w2 : IntKind.i64.wrap ((at_ : Int) + 1) = (at_ : Int) + 1 := IntWalk.i64_in _ (by omega)
      have w3 : IntKind.i64.wrap ((at_ : Int) + 1 + (m : Int)) = (at_ : Int) + 1 + (m : Int) := IntWalk.i64_in _ (by omega)
      refine dc_seq (dc_region (ok0 gl) [] (by kernel_rfl) ?_)
      simp only [go_sem, ↓gx_tt, ↓gx_tf, ↓gx_ft, ↓gx_ff, ↓gx_u2, ↓gk_tt, ↓gk_tf, ↓gk_ff, ↓gk_ft, reduceCtorEq, Nat.reduceEqDiff, ↓reduceIte, Nat.reduceAdd, Nat.reduceSub, Nat.reduceLT, Nat.reduceMul, Nat.reduceBEq, Int.reduceLE, Int.reduceLT, Int.reduceAdd, Int.reduceSub, Int.reduceToNat, Int.reduceNeg, Int.reduceMul, Nat.reduceLeDiff, hg', hm, w2, w3]
      refine ⟨by omega, by omega, ?_⟩
      by_cases h3 : p.length < at_ + 1 + m
      · have h3' : (p.length : Int) < (at_ : Int) + 1 + (m : Int) := by omega
        have e : errN p at_ = 9 := by unfold errN; rw [if_neg h1, if_neg h2, hmm, if_pos h3]
        refine dc_seq (dc_seq (dc_region (ok0 gl) [] (by kernel_rfl) ?_))
        simp only [go_sem, ↓gx_tt, ↓gx_tf, ↓gx_ft, ↓gx_ff, ↓gx_u2, ↓gk_tt, ↓gk_tf, ↓gk_ff, ↓gk_ft, reduceCtorEq, Nat.reduceEqDiff, ↓reduceIte, Nat.reduceAdd, Nat.reduceSub, Nat.reduceLT, Nat.reduceMul, Nat.reduceBEq, Int.reduceLE, Int.reduceLT, Int.reduceAdd, Int.reduceSub, Int.reduceToNat, Int.reduceNeg, Int.reduceMul, Nat.reduceLeDiff, h3']
        refine dc_cond _ rfl (fun _ => ?_) (fun h => by simp at h)   -- on t31
        refine dc_seq (dc_region (ok0 gl) [] (by kernel_rfl) ?_)
        simp only [go_sem, ↓gx_tt, ↓gx_tf, ↓gx_ft, ↓gx_ff, ↓gx_u2, ↓gk_tt, ↓gk_tf, ↓gk_ff, ↓gk_ft, reduceCtorEq, Nat.reduceEqDiff, ↓reduceIte, Nat.reduceAdd, Nat.reduceSub, Nat.reduceLT, Nat.reduceMul, Nat.reduceBEq, Int.reduceLE, Int.reduceLT, Int.reduceAdd, Int.reduceSub, Int.reduceToNat, Int.reduceNeg, Int.reduceMul, Nat.reduceLeDiff]
        refine dc_ret ⟨.inr rfl, ?_⟩
        simp only [retOk, go_sem, ↓gx_tt, ↓gx_tf, ↓gx_ft, ↓gx_ff, ↓gx_u2, ↓gk_tt, ↓gk_tf, ↓gk_ff, ↓gk_ft, reduceCtorEq, Nat.reduceEqDiff, ↓reduceIte, Nat.reduceAdd, Nat.reduceSub, Nat.reduceLT, Nat.reduceMul, Nat.reduceBEq, Int.reduceLE, Int.reduceLT, Int.reduceAdd, Int.reduceSub, Int.reduceToNat, Int.reduceNeg, Int.reduceMul, Nat.reduceLeDiff, Tryd.f25, fetchV, e, Int.reduceEq, reduceIte] <;> try rfl
      · have h3' : ¬ (p.length : Int) < (at_ : Int) + 1 + (m : Int) := by omega
        have e : errN p at_ = 0 := by unfold errN; rw [if_neg h1, if_neg h2, hmm, if_neg h3]
        refine dc_seq (dc_seq (dc_region (ok0 gl) [] (by kernel_rfl) ?_))
        simp only [go_sem, ↓gx_tt, ↓gx_tf, ↓gx_ft, ↓gx_ff, ↓gx_u2, ↓gk_tt, ↓gk_tf, ↓gk_ff, ↓gk_ft, reduceCtorEq, Nat.reduceEqDiff, ↓reduceIte, Nat.reduceAdd, Nat.reduceSub, Nat.reduceLT, Nat.reduceMul, Nat.reduceBEq, Int.reduceLE, Int.reduceLT, Int.reduceAdd, Int.reduceSub, Int.reduceToNat, Int.reduceNeg, Int.reduceMul, Nat.reduceLeDiff, h3']
        refine dc_cond _ rfl (fun h => by simp at h) (fun _ => dc_skip ?_)   -- on t31
        have e2 : ((at_ : Int) + 1 + (m : Int)).toNat = at_ + 1 + m := by omega
        have e3 : ((at_ : Int) + 1).toNat = at_ + 1 := by omega
        refine dc_seq (dc_seq (dc_region (ok0 gl) [] (by kernel_rfl) ?_))
        simp only [go_sem, ↓gx_tt, ↓gx_tf, ↓gx_ft, ↓gx_ff, ↓gx_u2, ↓gk_tt, ↓gk_tf, ↓gk_ff, ↓gk_ft, reduceCtorEq, Nat.reduceEqDiff, ↓reduceIte, Nat.reduceAdd, Nat.reduceSub, Nat.reduceLT, Nat.reduceMul, Nat.reduceBEq, Int.reduceLE, Int.reduceLT, Int.reduceAdd, Int.reduceSub, Int.reduceToNat, Int.reduceNeg, Int.reduceMul, Nat.reduceLeDiff, w2, e2, e3]
        refine ⟨by omega, by omega, by omega, ?_⟩
        have hql : (List.drop (at_ + 1) (List.take (at_ + 1 + m) p)).length = m := by simp; omega
        have hqe : ∀ i, i < m → (List.drop (at_ + 1) (List.take (at_ + 1 + m) p)).getD i .nil = .int (bN p (at_ + 1 + i)) := by
          intro i hi
          rw [← (bN_wf hw (i := at_ + 1 + i) (by omega)).1]
          simp [List.getD_eq_getElem?_getD, List.getElem?_drop, List.getElem?_take, show at_ + 1 + i < at_ + 1 + m by omega]
        generalize hq : List.drop (at_ + 1) (List.take (at_ + 1 + m) p) = q at hql hqe
        simp only [hql]
        refine dc_block (dc_count (fun i => ⟨[(38, .d (.int .i64) (.int i)), (37, .d (.int .i64) (.int m)), (36, .d (.slice 1 (.int .u8)) (.slice q)), (6, .d (.int .i64) (.int ((at_ : Int) + 1 + (m : Int)))), (5, .d (.int .u64) (.int (argN p (at_ + 1) i))), (4, .d (.int .i64) (.int (bN p at_))), (7, .d (.int .i64) (.int 0)), (0, .d (.slice 1 (.int .u8)) (.slice p)), (1, .d (.int .i64) (.int at_))], [], A', []⟩) m (fun _ => True) ?_ trivial ?_)
        · refine weak_to rfl ?_ ?_ ?_ ?_ ?_ <;> simp only [go_sem, ↓gx_tt, ↓gx_tf, ↓gx_ft, ↓gx_ff, ↓gx_u2, ↓gk_tt, ↓gk_tf, ↓gk_ff, ↓gk_ft, reduceCtorEq, Nat.reduceEqDiff, ↓reduceIte, Nat.reduceAdd, Nat.reduceSub, Nat.reduceLT, Nat.reduceMul, Nat.reduceBEq, Int.reduceLE, Int.reduceLT, Int.reduceAdd, Int.reduceSub, Int.reduceToNat, Int.reduceNeg, Int.reduceMul, Nat.reduceLeDiff]
          all_goals first | (simp only [argN]; done) | (simp only [argN]; exact ⟨rfl, trivial⟩)
        · intro i hi _
          refine dc_seq (dc_region (ok0 gl) [] (by kernel_rfl) ?_)
          simp only [go_sem, ↓gx_tt, ↓gx_tf, ↓gx_ft, ↓gx_ff, ↓gx_u2, ↓gk_tt, ↓gk_tf, ↓gk_ff, ↓gk_ft, reduceCtorEq, Nat.reduceEqDiff, ↓reduceIte, Nat.reduceAdd, Nat.reduceSub, Nat.reduceLT, Nat.reduceMul, Nat.reduceBEq, Int.reduceLE, Int.reduceLT, Int.reduceAdd, Int.reduceSub, Int.reduceToNat, Int.reduceNeg, Int.reduceMul, Nat.reduceLeDiff]
          refine dc_seq (dc_cond _ rfl (fun hlt => dc_skip ?_) (fun hge => dc_exit ?_))
          · have hlt : i < m := by simpa using hlt
            have e4 : ((i : Int).toNat) = i := Int.toNat_natCast i
            have hqi := hqe i hlt
            obtain ⟨a1, a2, a3⟩ := argN_lt hw (i := at_ + 1) (k := i) (by omega) (by omega)
            obtain ⟨_, c2, c3⟩ := bN_wf hw (i := at_ + 1 + i) (by omega)
            have w4 : IntKind.u64.wrap (bN p (at_ + 1 + i)) = bN p (at_ + 1 + i) := wrap_id (by have : IntKind.u64.min = 0 := by decide
                                                                                                omega) (by have : IntKind.u64.max = 18446744073709551615 := by decide
                                                                                                           omega)
            have w5 : IntKind.u64.wrap (argN p (at_ + 1) i * 256) = argN p (at_ + 1) i * 256 := wrap_id (by have : IntKind.u64.min = 0 := by decide
                                                                                                            omega) (by have : IntKind.u64.max = 18446744073709551615 := by decide
                                                                                                                       omega)
            have w6 := or_byte a1 (a3 (by omega)) c2 c3
            refine dc_seq (dc_block (dc_seq (dc_region (ok0 gl) [] (by kernel_rfl) ?_)))
            simp only [go_sem, ↓gx_tt, ↓gx_tf, ↓gx_ft, ↓gx_ff, ↓gx_u2, ↓gk_tt, ↓gk_tf, ↓gk_ff, ↓gk_ft, reduceCtorEq, Nat.reduceEqDiff, ↓reduceIte, Nat.reduceAdd, Nat.reduceSub, Nat.reduceLT, Nat.reduceMul, Nat.reduceBEq, Int.reduceLE, Int.reduceLT, Int.reduceAdd, Int.reduceSub, Int.reduceToNat, Int.reduceNeg, Int.reduceMul, Nat.reduceLeDiff, e4, hqi, hql]
            refine ⟨by omega, by omega, ?_⟩
            have hp : ((2 : Int) ^ min 8 64) = 256 := by decide
            refine dc_region (ok0 gl) [] (by kernel_rfl) ?_
            simp only [go_sem, ↓gx_tt, ↓gx_tf, ↓gx_ft, ↓gx_ff, ↓gx_u2, ↓gk_tt, ↓gk_tf, ↓gk_ff, ↓gk_ft, reduceCtorEq, Nat.reduceEqDiff, ↓reduceIte, Nat.reduceAdd, Nat.reduceSub, Nat.reduceLT, Nat.reduceMul, Nat.reduceBEq, Int.reduceLE, Int.reduceLT, Int.reduceAdd, Int.reduceSub, Int.reduceToNat, Int.reduceNeg, Int.reduceMul, Nat.reduceLeDiff, w4, hp, w5, w6]
            refine dc_region (ok0 gl) [] (by kernel_rfl) ?_
            simp only [go_sem, ↓gx_tt, ↓gx_tf, ↓gx_ft, ↓gx_ff, ↓gx_u2, ↓gk_tt, ↓gk_tf, ↓gk_ff, ↓gk_ft, reduceCtorEq, Nat.reduceEqDiff, ↓reduceIte, Nat.reduceAdd, Nat.reduceSub, Nat.reduceLT, Nat.reduceMul, Nat.reduceBEq, Int.reduceLE, Int.reduceLT, Int.reduceAdd, Int.reduceSub, Int.reduceToNat, Int.reduceNeg, Int.reduceMul, Nat.reduceLeDiff]
            refine ⟨hlt, ?_⟩
            have e7 : argN p (at_ + 1) (i + 1) = argN p (at_ + 1) i * 256 + bN p (at_ + 1 + i) := rfl
            rw [e7, IntWalk.i64_in _ (by omega)]
            refine weak_to rfl ?_ ?_ ?_ ?_ ?_ <;> simp only [go_sem, ↓gx_tt, ↓gx_tf, ↓gx_ft, ↓gx_ff, ↓gx_u2, ↓gk_tt, ↓gk_tf, ↓gk_ff, ↓gk_ft, reduceCtorEq, Nat.reduceEqDiff, ↓reduceIte, Nat.reduceAdd, Nat.reduceSub, Nat.reduceLT, Nat.reduceMul, Nat.reduceBEq, Int.reduceLE, Int.reduceLT, Int.reduceAdd, Int.reduceSub, Int.reduceToNat, Int.reduceNeg, Int.reduceMul, Nat.reduceLeDiff]
            rfl
          · have hge : m ≤ i := by simpa using hge
            obtain rfl : i = m := by omega
            refine dc_seq (dc_region (ok0 gl) [] (by kernel_rfl) ?_)
            simp only [go_sem, ↓gx_tt, ↓gx_tf, ↓gx_ft, ↓gx_ff, ↓gx_u2, ↓gk_tt, ↓gk_tf, ↓gk_ff, ↓gk_ft, reduceCtorEq, Nat.reduceEqDiff, ↓reduceIte, Nat.reduceAdd, Nat.reduceSub, Nat.reduceLT, Nat.reduceMul, Nat.reduceBEq, Int.reduceLE, Int.reduceLT, Int.reduceAdd, Int.reduceSub, Int.reduceToNat, Int.reduceNeg, Int.reduceMul, Nat.reduceLeDiff]
            have e5 : ((at_ : Int) + 1 + (i : Int)) = ((at_ + 1 + i : Nat) : Int) := by omega
            simp only [e5]
            refine dc_ret ⟨.inr rfl, ?_⟩
            simp only [retOk, go_sem, ↓gx_tt, ↓gx_tf, ↓gx_ft, ↓gx_ff, ↓gx_u2, ↓gk_tt, ↓gk_tf, ↓gk_ff, ↓gk_ft, reduceCtorEq, Nat.reduceEqDiff, ↓reduceIte, Nat.reduceAdd, Nat.reduceSub, Nat.reduceLT, Nat.reduceMul, Nat.reduceBEq, Int.reduceLE, Int.reduceLT, Int.reduceAdd, Int.reduceSub, Int.reduceToNat, Int.reduceNeg, Int.reduceMul, Nat.reduceLeDiff, Tryd.f25, fetchV, e, hmm, reduceIte] <;> try rfl
end Go.Proofs.YtgkdfggnlpojoaaDoor

namespace Go.Proofs.YtgkdfggnlpojoaaDoor
open Go Go.E
set_option maxRecDepth 10000
set_option linter.unusedSimpArgs false
variable {gl : Nat → Option (Ty × C)}
/-- A slice alike. -/
theorem clone_Byte (A : Key → Option O) (cs : List C) : DCalls (X0 gl) 13 [.d (.slice 1 (.int .u8)) (.slice cs)] A (.ts 1 (.int .u8) cs) [] := by
  refine dcalls_intro (n := 8) (ok0 gl) Tryd.func13 rfl rfl (by simp) ?_
  intro A' hA
  refine dc_seq (dc_region (ok0 gl) [] (by kernel_rfl) ?_)
  simp only [go_sem, ↓gx_tt, ↓gx_tf, ↓gx_ft, ↓gx_ff, ↓gx_u2, ↓gk_tt, ↓gk_tf, ↓gk_ff, ↓gk_ft, reduceCtorEq, Nat.reduceEqDiff, ↓reduceIte, Nat.reduceAdd, Nat.reduceSub, Nat.reduceLT, Nat.reduceMul, Nat.reduceBEq, Int.reduceLE, Int.reduceLT, Int.reduceAdd, Int.reduceSub, Int.reduceToNat, Int.reduceNeg, Int.reduceMul, Nat.reduceLeDiff]
  refine dc_seq (dc_seq (dc_region (ok0 gl) [] (by kernel_rfl) ?_))
  cases cs with
  | nil =>
    simp only [go_sem, ↓gx_tt, ↓gx_tf, ↓gx_ft, ↓gx_ff, ↓gx_u2, ↓gk_tt, ↓gk_tf, ↓gk_ff, ↓gk_ft, reduceCtorEq, Nat.reduceEqDiff, ↓reduceIte, Nat.reduceAdd, Nat.reduceSub, Nat.reduceLT, Nat.reduceMul, Nat.reduceBEq, Int.reduceLE, Int.reduceLT, Int.reduceAdd, Int.reduceSub, Int.reduceToNat, Int.reduceNeg, Int.reduceMul, Nat.reduceLeDiff]
    refine dc_cond_top rfl ?_ (dc_skip ?_)
    · refine dc_seq (dc_region (ok0 gl) [] (by kernel_rfl) ?_)
      simp only [go_sem, ↓gx_tt, ↓gx_tf, ↓gx_ft, ↓gx_ff, ↓gx_u2, ↓gk_tt, ↓gk_tf, ↓gk_ff, ↓gk_ft, reduceCtorEq, Nat.reduceEqDiff, ↓reduceIte, Nat.reduceAdd, Nat.reduceSub, Nat.reduceLT, Nat.reduceMul, Nat.reduceBEq, Int.reduceLE, Int.reduceLT, Int.reduceAdd, Int.reduceSub, Int.reduceToNat, Int.reduceNeg, Int.reduceMul, Nat.reduceLeDiff]
      refine dc_ret ⟨.inr rfl, ?_⟩
      simp only [retOk, go_sem, ↓gx_tt, ↓gx_tf, ↓gx_ft, ↓gx_ff, ↓gx_u2, ↓gk_tt, ↓gk_tf, ↓gk_ff, ↓gk_ft, reduceCtorEq, Nat.reduceEqDiff, ↓reduceIte, Nat.reduceAdd, Nat.reduceSub, Nat.reduceLT, Nat.reduceMul, Nat.reduceBEq, Int.reduceLE, Int.reduceLT, Int.reduceAdd, Int.reduceSub, Int.reduceToNat, Int.reduceNeg, Int.reduceMul, Nat.reduceLeDiff, Tryd.f13]
    · refine dc_seq (dc_region (ok0 gl) [] (by kernel_rfl) ?_)
      simp only [go_sem, ↓gx_tt, ↓gx_tf, ↓gx_ft, ↓gx_ff, ↓gx_u2, ↓gk_tt, ↓gk_tf, ↓gk_ff, ↓gk_ft, reduceCtorEq, Nat.reduceEqDiff, ↓reduceIte, Nat.reduceAdd, Nat.reduceSub, Nat.reduceLT, Nat.reduceMul, Nat.reduceBEq, Int.reduceLE, Int.reduceLT, Int.reduceAdd, Int.reduceSub, Int.reduceToNat, Int.reduceNeg, Int.reduceMul, Nat.reduceLeDiff]
      refine dc_ret ⟨.inr rfl, ?_⟩
      simp only [retOk, go_sem, ↓gx_tt, ↓gx_tf, ↓gx_ft, ↓gx_ff, ↓gx_u2, ↓gk_tt, ↓gk_tf, ↓gk_ff, ↓gk_ft, reduceCtorEq, Nat.reduceEqDiff, ↓reduceIte, Nat.reduceAdd, Nat.reduceSub, Nat.reduceLT, Nat.reduceMul, Nat.reduceBEq, Int.reduceLE, Int.reduceLT, Int.reduceAdd, Int.reduceSub, Int.reduceToNat, Int.reduceNeg, Int.reduceMul, Nat.reduceLeDiff, Tryd.f13]
  | cons c cs =>
    simp only [go_sem, ↓gx_tt, ↓gx_tf, ↓gx_ft, ↓gx_ff, ↓gx_u2, ↓gk_tt, ↓gk_tf, ↓gk_ff, ↓gk_ft, reduceCtorEq, Nat.reduceEqDiff, ↓reduceIte, Nat.reduceAdd, Nat.reduceSub, Nat.reduceLT, Nat.reduceMul, Nat.reduceBEq, Int.reduceLE, Int.reduceLT, Int.reduceAdd, Int.reduceSub, Int.reduceToNat, Int.reduceNeg, Int.reduceMul, Nat.reduceLeDiff]
    refine dc_cond _ rfl (fun h => by simp at h) (fun _ => dc_skip ?_)
    refine dc_seq (dc_region (ok0 gl) [] (by kernel_rfl) ?_)
    simp only [go_sem, ↓gx_tt, ↓gx_tf, ↓gx_ft, ↓gx_ff, ↓gx_u2, ↓gk_tt, ↓gk_tf, ↓gk_ff, ↓gk_ft, reduceCtorEq, Nat.reduceEqDiff, ↓reduceIte, Nat.reduceAdd, Nat.reduceSub, Nat.reduceLT, Nat.reduceMul, Nat.reduceBEq, Int.reduceLE, Int.reduceLT, Int.reduceAdd, Int.reduceSub, Int.reduceToNat, Int.reduceNeg, Int.reduceMul, Nat.reduceLeDiff]
    refine dc_ret ⟨.inr rfl, ?_⟩
    simp only [retOk, go_sem, ↓gx_tt, ↓gx_tf, ↓gx_ft, ↓gx_ff, ↓gx_u2, ↓gk_tt, ↓gk_tf, ↓gk_ff, ↓gk_ft, reduceCtorEq, Nat.reduceEqDiff, ↓reduceIte, Nat.reduceAdd, Nat.reduceSub, Nat.reduceLT, Nat.reduceMul, Nat.reduceBEq, Int.reduceLE, Int.reduceLT, Int.reduceAdd, Int.reduceSub, Int.reduceToNat, Int.reduceNeg, Int.reduceMul, Nat.reduceLeDiff, Tryd.f13]
/-- The same, as an array of its own. -/
theorem clone_Byte_arr (A : Key → Option O) (cs : List C) (hne : cs ≠ []) : DCalls (X0 gl) 13 [.d (.slice 1 (.int .u8)) (.slice cs)] A (.sr (.l 7) [] 0 cs.length none 1 (.int .u8)) [(.l 7, .box (.d (.arr cs.length (.int .u8)) (.agg cs)))] := by
  refine dcalls_intro (n := 8) (ok0 gl) Tryd.func13 rfl rfl (by simp) ?_
  intro A' hA
  refine dc_seq (dc_region (ok0 gl) [] (by kernel_rfl) ?_)
  simp only [go_sem, ↓gx_tt, ↓gx_tf, ↓gx_ft, ↓gx_ff, ↓gx_u2, ↓gk_tt, ↓gk_tf, ↓gk_ff, ↓gk_ft, reduceCtorEq, Nat.reduceEqDiff, ↓reduceIte, Nat.reduceAdd, Nat.reduceSub, Nat.reduceLT, Nat.reduceMul, Nat.reduceBEq, Int.reduceLE, Int.reduceLT, Int.reduceAdd, Int.reduceSub, Int.reduceToNat, Int.reduceNeg, Int.reduceMul, Nat.reduceLeDiff]
  cases cs with
  | nil => exact absurd rfl hne
  | cons c cs =>
    refine dc_seq (dc_seq (dc_region (ok0 gl) [] (by kernel_rfl) ?_))
    simp only [go_sem, ↓gx_tt, ↓gx_tf, ↓gx_ft, ↓gx_ff, ↓gx_u2, ↓gk_tt, ↓gk_tf, ↓gk_ff, ↓gk_ft, reduceCtorEq, Nat.reduceEqDiff, ↓reduceIte, Nat.reduceAdd, Nat.reduceSub, Nat.reduceLT, Nat.reduceMul, Nat.reduceBEq, Int.reduceLE, Int.reduceLT, Int.reduceAdd, Int.reduceSub, Int.reduceToNat, Int.reduceNeg, Int.reduceMul, Nat.reduceLeDiff]
    refine dc_cond _ rfl (fun h => by simp at h) (fun _ => dc_skip ?_)
    refine dc_seq (dc_region (ok0 gl) [(7, 3)] (by kernel_rfl) ?_)
    simp only [go_sem, ↓gx_tt, ↓gx_tf, ↓gx_ft, ↓gx_ff, ↓gx_u2, ↓gk_tt, ↓gk_tf, ↓gk_ff, ↓gk_ft, reduceCtorEq, Nat.reduceEqDiff, ↓reduceIte, Nat.reduceAdd, Nat.reduceSub, Nat.reduceLT, Nat.reduceMul, Nat.reduceBEq, Int.reduceLE, Int.reduceLT, Int.reduceAdd, Int.reduceSub, Int.reduceToNat, Int.reduceNeg, Int.reduceMul, Nat.reduceLeDiff]
    refine dc_ret ⟨.inr rfl, ?_⟩
    simp only [retOk, go_sem, ↓gx_tt, ↓gx_tf, ↓gx_ft, ↓gx_ff, ↓gx_u2, ↓gk_tt, ↓gk_tf, ↓gk_ff, ↓gk_ft, reduceCtorEq, Nat.reduceEqDiff, ↓reduceIte, Nat.reduceAdd, Nat.reduceSub, Nat.reduceLT, Nat.reduceMul, Nat.reduceBEq, Int.reduceLE, Int.reduceLT, Int.reduceAdd, Int.reduceSub, Int.reduceToNat, Int.reduceNeg, Int.reduceMul, Nat.reduceLeDiff, Tryd.f13] <;> try rfl
/-- A slice alike. -/
theorem clone_Cond (A : Key → Option O) (cs : List C) : DCalls (X0 gl) 29 [.d (.slice 64 tCond) (.slice cs)] A (.ts 64 tCond cs) [] := by
  refine dcalls_intro (n := 8) (ok0 gl) Tryd.func29 rfl rfl (by simp) ?_
  intro A' hA
  refine dc_seq (dc_region (ok0 gl) [] (by kernel_rfl) ?_)
  simp only [go_sem, ↓gx_tt, ↓gx_tf, ↓gx_ft, ↓gx_ff, ↓gx_u2, ↓gk_tt, ↓gk_tf, ↓gk_ff, ↓gk_ft, reduceCtorEq, Nat.reduceEqDiff, ↓reduceIte, Nat.reduceAdd, Nat.reduceSub, Nat.reduceLT, Nat.reduceMul, Nat.reduceBEq, Int.reduceLE, Int.reduceLT, Int.reduceAdd, Int.reduceSub, Int.reduceToNat, Int.reduceNeg, Int.reduceMul, Nat.reduceLeDiff]
  refine dc_seq (dc_seq (dc_region (ok0 gl) [] (by kernel_rfl) ?_))
  cases cs with
  | nil =>
    simp only [go_sem, ↓gx_tt, ↓gx_tf, ↓gx_ft, ↓gx_ff, ↓gx_u2, ↓gk_tt, ↓gk_tf, ↓gk_ff, ↓gk_ft, reduceCtorEq, Nat.reduceEqDiff, ↓reduceIte, Nat.reduceAdd, Nat.reduceSub, Nat.reduceLT, Nat.reduceMul, Nat.reduceBEq, Int.reduceLE, Int.reduceLT, Int.reduceAdd, Int.reduceSub, Int.reduceToNat, Int.reduceNeg, Int.reduceMul, Nat.reduceLeDiff]
    refine dc_cond_top rfl ?_ (dc_skip ?_)
    · refine dc_seq (dc_region (ok0 gl) [] (by kernel_rfl) ?_)
      simp only [go_sem, ↓gx_tt, ↓gx_tf, ↓gx_ft, ↓gx_ff, ↓gx_u2, ↓gk_tt, ↓gk_tf, ↓gk_ff, ↓gk_ft, reduceCtorEq, Nat.reduceEqDiff, ↓reduceIte, Nat.reduceAdd, Nat.reduceSub, Nat.reduceLT, Nat.reduceMul, Nat.reduceBEq, Int.reduceLE, Int.reduceLT, Int.reduceAdd, Int.reduceSub, Int.reduceToNat, Int.reduceNeg, Int.reduceMul, Nat.reduceLeDiff]
      refine dc_ret ⟨.inr rfl, ?_⟩
      simp only [retOk, go_sem, ↓gx_tt, ↓gx_tf, ↓gx_ft, ↓gx_ff, ↓gx_u2, ↓gk_tt, ↓gk_tf, ↓gk_ff, ↓gk_ft, reduceCtorEq, Nat.reduceEqDiff, ↓reduceIte, Nat.reduceAdd, Nat.reduceSub, Nat.reduceLT, Nat.reduceMul, Nat.reduceBEq, Int.reduceLE, Int.reduceLT, Int.reduceAdd, Int.reduceSub, Int.reduceToNat, Int.reduceNeg, Int.reduceMul, Nat.reduceLeDiff, Tryd.f29]
    · refine dc_seq (dc_region (ok0 gl) [] (by kernel_rfl) ?_)
      simp only [go_sem, ↓gx_tt, ↓gx_tf, ↓gx_ft, ↓gx_ff, ↓gx_u2, ↓gk_tt, ↓gk_tf, ↓gk_ff, ↓gk_ft, reduceCtorEq, Nat.reduceEqDiff, ↓reduceIte, Nat.reduceAdd, Nat.reduceSub, Nat.reduceLT, Nat.reduceMul, Nat.reduceBEq, Int.reduceLE, Int.reduceLT, Int.reduceAdd, Int.reduceSub, Int.reduceToNat, Int.reduceNeg, Int.reduceMul, Nat.reduceLeDiff]
      refine dc_ret ⟨.inr rfl, ?_⟩
      simp only [retOk, go_sem, ↓gx_tt, ↓gx_tf, ↓gx_ft, ↓gx_ff, ↓gx_u2, ↓gk_tt, ↓gk_tf, ↓gk_ff, ↓gk_ft, reduceCtorEq, Nat.reduceEqDiff, ↓reduceIte, Nat.reduceAdd, Nat.reduceSub, Nat.reduceLT, Nat.reduceMul, Nat.reduceBEq, Int.reduceLE, Int.reduceLT, Int.reduceAdd, Int.reduceSub, Int.reduceToNat, Int.reduceNeg, Int.reduceMul, Nat.reduceLeDiff, Tryd.f29]
  | cons c cs =>
    simp only [go_sem, ↓gx_tt, ↓gx_tf, ↓gx_ft, ↓gx_ff, ↓gx_u2, ↓gk_tt, ↓gk_tf, ↓gk_ff, ↓gk_ft, reduceCtorEq, Nat.reduceEqDiff, ↓reduceIte, Nat.reduceAdd, Nat.reduceSub, Nat.reduceLT, Nat.reduceMul, Nat.reduceBEq, Int.reduceLE, Int.reduceLT, Int.reduceAdd, Int.reduceSub, Int.reduceToNat, Int.reduceNeg, Int.reduceMul, Nat.reduceLeDiff]
    refine dc_cond _ rfl (fun h => by simp at h) (fun _ => dc_skip ?_)
    refine dc_seq (dc_region (ok0 gl) [] (by kernel_rfl) ?_)
    simp only [go_sem, ↓gx_tt, ↓gx_tf, ↓gx_ft, ↓gx_ff, ↓gx_u2, ↓gk_tt, ↓gk_tf, ↓gk_ff, ↓gk_ft, reduceCtorEq, Nat.reduceEqDiff, ↓reduceIte, Nat.reduceAdd, Nat.reduceSub, Nat.reduceLT, Nat.reduceMul, Nat.reduceBEq, Int.reduceLE, Int.reduceLT, Int.reduceAdd, Int.reduceSub, Int.reduceToNat, Int.reduceNeg, Int.reduceMul, Nat.reduceLeDiff]
    refine dc_ret ⟨.inr rfl, ?_⟩
    simp only [retOk, go_sem, ↓gx_tt, ↓gx_tf, ↓gx_ft, ↓gx_ff, ↓gx_u2, ↓gk_tt, ↓gk_tf, ↓gk_ff, ↓gk_ft, reduceCtorEq, Nat.reduceEqDiff, ↓reduceIte, Nat.reduceAdd, Nat.reduceSub, Nat.reduceLT, Nat.reduceMul, Nat.reduceBEq, Int.reduceLE, Int.reduceLT, Int.reduceAdd, Int.reduceSub, Int.reduceToNat, Int.reduceNeg, Int.reduceMul, Nat.reduceLeDiff, Tryd.f29]
/-- The same, as an array of its own. -/
theorem clone_Cond_arr (A : Key → Option O) (cs : List C) (hne : cs ≠ []) : DCalls (X0 gl) 29 [.d (.slice 64 tCond) (.slice cs)] A (.sr (.l 7) [] 0 cs.length none 64 tCond) [(.l 7, .box (.d (.arr cs.length tCond) (.agg cs)))] := by
  refine dcalls_intro (n := 8) (ok0 gl) Tryd.func29 rfl rfl (by simp) ?_
  intro A' hA
  refine dc_seq (dc_region (ok0 gl) [] (by kernel_rfl) ?_)
  simp only [go_sem, ↓gx_tt, ↓gx_tf, ↓gx_ft, ↓gx_ff, ↓gx_u2, ↓gk_tt, ↓gk_tf, ↓gk_ff, ↓gk_ft, reduceCtorEq, Nat.reduceEqDiff, ↓reduceIte, Nat.reduceAdd, Nat.reduceSub, Nat.reduceLT, Nat.reduceMul, Nat.reduceBEq, Int.reduceLE, Int.reduceLT, Int.reduceAdd, Int.reduceSub, Int.reduceToNat, Int.reduceNeg, Int.reduceMul, Nat.reduceLeDiff]
  cases cs with
  | nil => exact absurd rfl hne
  | cons c cs =>
    refine dc_seq (dc_seq (dc_region (ok0 gl) [] (by kernel_rfl) ?_))
    simp only [go_sem, ↓gx_tt, ↓gx_tf, ↓gx_ft, ↓gx_ff, ↓gx_u2, ↓gk_tt, ↓gk_tf, ↓gk_ff, ↓gk_ft, reduceCtorEq, Nat.reduceEqDiff, ↓reduceIte, Nat.reduceAdd, Nat.reduceSub, Nat.reduceLT, Nat.reduceMul, Nat.reduceBEq, Int.reduceLE, Int.reduceLT, Int.reduceAdd, Int.reduceSub, Int.reduceToNat, Int.reduceNeg, Int.reduceMul, Nat.reduceLeDiff]
    refine dc_cond _ rfl (fun h => by simp at h) (fun _ => dc_skip ?_)
    refine dc_seq (dc_region (ok0 gl) [(7, 3)] (by kernel_rfl) ?_)
    simp only [go_sem, ↓gx_tt, ↓gx_tf, ↓gx_ft, ↓gx_ff, ↓gx_u2, ↓gk_tt, ↓gk_tf, ↓gk_ff, ↓gk_ft, reduceCtorEq, Nat.reduceEqDiff, ↓reduceIte, Nat.reduceAdd, Nat.reduceSub, Nat.reduceLT, Nat.reduceMul, Nat.reduceBEq, Int.reduceLE, Int.reduceLT, Int.reduceAdd, Int.reduceSub, Int.reduceToNat, Int.reduceNeg, Int.reduceMul, Nat.reduceLeDiff]
    refine dc_ret ⟨.inr rfl, ?_⟩
    simp only [retOk, go_sem, ↓gx_tt, ↓gx_tf, ↓gx_ft, ↓gx_ff, ↓gx_u2, ↓gk_tt, ↓gk_tf, ↓gk_ff, ↓gk_ft, reduceCtorEq, Nat.reduceEqDiff, ↓reduceIte, Nat.reduceAdd, Nat.reduceSub, Nat.reduceLT, Nat.reduceMul, Nat.reduceBEq, Int.reduceLE, Int.reduceLT, Int.reduceAdd, Int.reduceSub, Int.reduceToNat, Int.reduceNeg, Int.reduceMul, Nat.reduceLeDiff, Tryd.f29] <;> try rfl
end Go.Proofs.YtgkdfggnlpojoaaDoor

namespace Go.Proofs.YtgkdfggnlpojoaaDoor
open Go Go.E
set_option maxRecDepth 10000
set_option linter.unusedSimpArgs false
variable {gl : Nat → Option (Ty × C)}
theorem bits_Add64 (a b : C) : EDoes (X0 gl) 37 [.d (.int .u64) a, .d (.int .u64) b, .d (.int .u64) (.int 0)] (.tup [.d (.int .u64) (.int ((a.toInt + b.toInt) % 18446744073709551616)), .d (.int .u64) (.int ((a.toInt + b.toInt) / 18446744073709551616))]) := by
  intro Γ w args hl hr
  have hs : args.size = 3 := hl.symm
  obtain ⟨e1, _, l1, m1⟩ := repV_int (hr 0 _ _ rfl (Array.getElem?_eq_getElem (by omega)))
  obtain ⟨e2, _, l2, m2⟩ := repV_int (hr 1 _ _ rfl (Array.getElem?_eq_getElem (by omega)))
  obtain ⟨e3, _, _, _⟩ := repV_int (hr 2 _ _ rfl (Array.getElem?_eq_getElem (by omega)))
  have ea : args = #[.int .u64 a.toInt, .int .u64 b.toInt, .int .u64 0] := by
    apply Array.ext
    · simpa using hs
    · intro i h1 h2
      match i with
      | 0 => simpa using e1
      | 1 => simpa using e2
      | 2 => simpa [C.toInt] using e3
      | i + 3 => omega
  have z : IntKind.u64.min = 0 := by decide
  have z' : IntKind.u64.max = 18446744073709551615 := by decide
  refine ⟨.tuple #[.int .u64 ((a.toInt + b.toInt) % 18446744073709551616), .int .u64 ((a.toInt + b.toInt) / 18446744073709551616)], ?_, #[_, _], rfl, ?_⟩
  · have hrun := run_callFunc_extern (P := (X0 gl).P) (f := 37) (fn := Tryd.f37) (e := add64Entry) Tryd.func37 (by decide) rfl (by kernel_rfl) (by kernel_rfl) args w
    rw [hrun, ea, run_add64 _ _ _ (by omega) (by omega) (by omega) (by omega)]
    simp
  · refine repCaps_of rfl fun i x u hx hu => ?_
    match i with
    | 0 => simp at hx hu; subst hx; subst hu; exact ⟨rfl, repV_mk_int (by omega) (by omega)⟩
    | 1 => simp at hx hu; subst hx; subst hu; exact ⟨rfl, repV_mk_int (by omega) (by omega)⟩
    | i + 2 => simp at hx
/-- A sum, or that it is too great. -/
def addV (a b : Int) : V := if 18446744073709551616 ≤ a + b then .tup [.d (.int .u64) (.int 0), .d (.int .i64) (.int 11)] else .tup [.d (.int .u64) (.int (a + b)), .d (.int .i64) (.int 0)]
theorem money_Add (A : Key → Option O) (a b : C) : DCalls (X0 gl) 30 [.d (.int .u64) a, .d (.int .u64) b] A (addV a.toInt b.toInt) [] := by
  refine dcalls_intro (n := 17) (ok0 gl) Tryd.func30 rfl rfl (by simp) ?_
  intro A' hA
  refine dc_facts fun W => ?_
  obtain ⟨_, l1, m1⟩ : C.wf (.int .u64) a := W.at (t := 0) rfl
  obtain ⟨_, l2, m2⟩ : C.wf (.int .u64) b := W.at (t := 1) rfl
  have z : IntKind.u64.min = 0 := by decide
  have z' : IntKind.u64.max = 18446744073709551615 := by decide
  refine dc_seq (dc_region (ok0 gl) [] (by kernel_rfl) ?_)
  simp only [go_sem, ↓gx_tt, ↓gx_tf, ↓gx_ft, ↓gx_ff, ↓gx_u2, ↓gk_tt, ↓gk_tf, ↓gk_ff, ↓gk_ft, reduceCtorEq, Nat.reduceEqDiff, ↓reduceIte, Nat.reduceAdd, Nat.reduceSub, Nat.reduceLT, Nat.reduceMul, Nat.reduceBEq, Int.reduceLE, Int.reduceLT, Int.reduceAdd, Int.reduceSub, Int.reduceToNat, Int.reduceNeg, Int.reduceMul, Nat.reduceLeDiff]
  refine dc_seq (dc_region (ok0 gl) [] (by kernel_rfl) (vc_n [(), ()] ?_))
  simp only [go_sem, ↓gx_tt, ↓gx_tf, ↓gx_ft, ↓gx_ff, ↓gx_u2, ↓gk_tt, ↓gk_tf, ↓gk_ff, ↓gk_ft, reduceCtorEq, Nat.reduceEqDiff, ↓reduceIte, Nat.reduceAdd, Nat.reduceSub, Nat.reduceLT, Nat.reduceMul, Nat.reduceBEq, Int.reduceLE, Int.reduceLT, Int.reduceAdd, Int.reduceSub, Int.reduceToNat, Int.reduceNeg, Int.reduceMul, Nat.reduceLeDiff]
  refine vcR_op [(), (), (), (), (), (), (), (), ()] rfl ?_
  refine vcO_ext _ (bits_Add64 a b) (by decide) rfl ?_ ?_ <;> simp only [go_sem, ↓gx_tt, ↓gx_tf, ↓gx_ft, ↓gx_ff, ↓gx_u2, ↓gk_tt, ↓gk_tf, ↓gk_ff, ↓gk_ft, reduceCtorEq, Nat.reduceEqDiff, ↓reduceIte, Nat.reduceAdd, Nat.reduceSub, Nat.reduceLT, Nat.reduceMul, Nat.reduceBEq, Int.reduceLE, Int.reduceLT, Int.reduceAdd, Int.reduceSub, Int.reduceToNat, Int.reduceNeg, Int.reduceMul, Nat.reduceLeDiff]
  by_cases h : 18446744073709551616 ≤ a.toInt + b.toInt
  · have h1 : (a.toInt + b.toInt) / 18446744073709551616 = 1 := by omega
    refine dc_seq (dc_seq (dc_region (ok0 gl) [] (by kernel_rfl) ?_))
    simp only [go_sem, ↓gx_tt, ↓gx_tf, ↓gx_ft, ↓gx_ff, ↓gx_u2, ↓gk_tt, ↓gk_tf, ↓gk_ff, ↓gk_ft, reduceCtorEq, Nat.reduceEqDiff, ↓reduceIte, Nat.reduceAdd, Nat.reduceSub, Nat.reduceLT, Nat.reduceMul, Nat.reduceBEq, Int.reduceLE, Int.reduceLT, Int.reduceAdd, Int.reduceSub, Int.reduceToNat, Int.reduceNeg, Int.reduceMul, Nat.reduceLeDiff, h1]
    refine dc_cond _ rfl (fun _ => ?_) (fun h => by simp at h)
    refine dc_seq (dc_region (ok0 gl) [] (by kernel_rfl) ?_)
    simp only [go_sem, ↓gx_tt, ↓gx_tf, ↓gx_ft, ↓gx_ff, ↓gx_u2, ↓gk_tt, ↓gk_tf, ↓gk_ff, ↓gk_ft, reduceCtorEq, Nat.reduceEqDiff, ↓reduceIte, Nat.reduceAdd, Nat.reduceSub, Nat.reduceLT, Nat.reduceMul, Nat.reduceBEq, Int.reduceLE, Int.reduceLT, Int.reduceAdd, Int.reduceSub, Int.reduceToNat, Int.reduceNeg, Int.reduceMul, Nat.reduceLeDiff]
    refine dc_ret ⟨.inr rfl, ?_⟩
    simp only [retOk, go_sem, ↓gx_tt, ↓gx_tf, ↓gx_ft, ↓gx_ff, ↓gx_u2, ↓gk_tt, ↓gk_tf, ↓gk_ff, ↓gk_ft, reduceCtorEq, Nat.reduceEqDiff, ↓reduceIte, Nat.reduceAdd, Nat.reduceSub, Nat.reduceLT, Nat.reduceMul, Nat.reduceBEq, Int.reduceLE, Int.reduceLT, Int.reduceAdd, Int.reduceSub, Int.reduceToNat, Int.reduceNeg, Int.reduceMul, Nat.reduceLeDiff, Tryd.f30, addV, h] <;> try rfl
  · have h1 : (a.toInt + b.toInt) / 18446744073709551616 = 0 := by omega
    have h2 : (a.toInt + b.toInt) % 18446744073709551616 = a.toInt + b.toInt := by omega
    refine dc_seq (dc_seq (dc_region (ok0 gl) [] (by kernel_rfl) ?_))
    simp only [go_sem, ↓gx_tt, ↓gx_tf, ↓gx_ft, ↓gx_ff, ↓gx_u2, ↓gk_tt, ↓gk_tf, ↓gk_ff, ↓gk_ft, reduceCtorEq, Nat.reduceEqDiff, ↓reduceIte, Nat.reduceAdd, Nat.reduceSub, Nat.reduceLT, Nat.reduceMul, Nat.reduceBEq, Int.reduceLE, Int.reduceLT, Int.reduceAdd, Int.reduceSub, Int.reduceToNat, Int.reduceNeg, Int.reduceMul, Nat.reduceLeDiff, h1, h2]
    refine dc_cond _ rfl (fun h => by simp at h) (fun _ => dc_skip ?_)
    refine dc_seq (dc_region (ok0 gl) [] (by kernel_rfl) ?_)
    simp only [go_sem, ↓gx_tt, ↓gx_tf, ↓gx_ft, ↓gx_ff, ↓gx_u2, ↓gk_tt, ↓gk_tf, ↓gk_ff, ↓gk_ft, reduceCtorEq, Nat.reduceEqDiff, ↓reduceIte, Nat.reduceAdd, Nat.reduceSub, Nat.reduceLT, Nat.reduceMul, Nat.reduceBEq, Int.reduceLE, Int.reduceLT, Int.reduceAdd, Int.reduceSub, Int.reduceToNat, Int.reduceNeg, Int.reduceMul, Nat.reduceLeDiff, h2]
    refine dc_ret ⟨.inr rfl, ?_⟩
    simp only [retOk, go_sem, ↓gx_tt, ↓gx_tf, ↓gx_ft, ↓gx_ff, ↓gx_u2, ↓gk_tt, ↓gk_tf, ↓gk_ff, ↓gk_ft, reduceCtorEq, Nat.reduceEqDiff, ↓reduceIte, Nat.reduceAdd, Nat.reduceSub, Nat.reduceLT, Nat.reduceMul, Nat.reduceBEq, Int.reduceLE, Int.reduceLT, Int.reduceAdd, Int.reduceSub, Int.reduceToNat, Int.reduceNeg, Int.reduceMul, Nat.reduceLeDiff, Tryd.f30, addV, h, h2] <;> try rfl
/-- A sum of many, if it isn't too great. -/
def sumF : List C → Int → Option Int
  | [], s => some s
  | c :: cs, s => if 18446744073709551616 ≤ s + c.toInt then none else sumF cs (s + c.toInt)
def sumV (o : Option Int) : V := match o with
  | none => .tup [.d (.int .u64) (.int 0), .d (.int .i64) (.int 11)]
  | some s => .tup [.d (.int .u64) (.int s), .d (.int .i64) (.int 0)]
theorem sumF_drop {cs : List C} {i : Nat} (s : Int) (h : i < cs.length) : sumF (cs.drop i) s = if 18446744073709551616 ≤ s + (cs.getD i .nil).toInt then none else sumF (cs.drop (i + 1)) (s + (cs.getD i .nil).toInt) := by
  rw [List.drop_eq_getElem_cons h]
  simp only [sumF, List.getD_eq_getElem?_getD, List.getElem?_eq_getElem h, Option.getD_some]
theorem money_Sum (A : Key → Option O) (cs : List C) : DCalls (X0 gl) 31 [.d (.slice 8 (.int .u64)) (.slice cs)] A (sumV (sumF cs 0)) [] := by
  refine dcalls_intro (n := 25) (ok0 gl) Tryd.func31 rfl rfl (by simp) ?_
  intro A' hA
  refine dc_facts fun W => ?_
  have hl : cs.length ≤ 9223372036854775807 := (W.at (t := 0) rfl).2.2.1
  refine dc_seq (dc_region (ok0 gl) [] (by kernel_rfl) ?_)
  simp only [go_sem, ↓gx_tt, ↓gx_tf, ↓gx_ft, ↓gx_ff, ↓gx_u2, ↓gk_tt, ↓gk_tf, ↓gk_ff, ↓gk_ft, reduceCtorEq, Nat.reduceEqDiff, ↓reduceIte, Nat.reduceAdd, Nat.reduceSub, Nat.reduceLT, Nat.reduceMul, Nat.reduceBEq, Int.reduceLE, Int.reduceLT, Int.reduceAdd, Int.reduceSub, Int.reduceToNat, Int.reduceNeg, Int.reduceMul, Nat.reduceLeDiff]
  refine dc_seq (dc_region (ok0 gl) [] (by kernel_rfl) ?_)
  simp only [go_sem, ↓gx_tt, ↓gx_tf, ↓gx_ft, ↓gx_ff, ↓gx_u2, ↓gk_tt, ↓gk_tf, ↓gk_ff, ↓gk_ft, reduceCtorEq, Nat.reduceEqDiff, ↓reduceIte, Nat.reduceAdd, Nat.reduceSub, Nat.reduceLT, Nat.reduceMul, Nat.reduceBEq, Int.reduceLE, Int.reduceLT, Int.reduceAdd, Int.reduceSub, Int.reduceToNat, Int.reduceNeg, Int.reduceMul, Nat.reduceLeDiff]
  refine dc_seq (dc_seq (dc_region (ok0 gl) [] (by kernel_rfl) ?_))
  simp only [go_sem, ↓gx_tt, ↓gx_tf, ↓gx_ft, ↓gx_ff, ↓gx_u2, ↓gk_tt, ↓gk_tf, ↓gk_ff, ↓gk_ft, reduceCtorEq, Nat.reduceEqDiff, ↓reduceIte, Nat.reduceAdd, Nat.reduceSub, Nat.reduceLT, Nat.reduceMul, Nat.reduceBEq, Int.reduceLE, Int.reduceLT, Int.reduceAdd, Int.reduceSub, Int.reduceToNat, Int.reduceNeg, Int.reduceMul, Nat.reduceLeDiff]
  refine dc_block (dc_while (ι := Nat × Int) (fun i => ⟨[(10, .d (.int .i64) (.int i.1)), (9, .d (.int .i64) (.int cs.length)), (8, .d (.slice 8 (.int .u64)) (.slice cs)), (4, .d (.int .u64) (.int i.2)), (2, .d (.int .u64) (.int 0)), (3, .d (.int .i64) (.int 0)), (0, .d (.slice 8 (.int .u64)) (.slice cs))], [], A', []⟩) (fun i => cs.length - i.1)
    (fun i => i.1 ≤ cs.length ∧ sumF (cs.drop i.1) i.2 = sumF cs 0) (0, 0) ?_ ⟨Nat.zero_le _, rfl⟩ ?_)
  · refine weak_to rfl ?_ ?_ ?_ ?_ ?_ <;> simp only [go_sem, ↓gx_tt, ↓gx_tf, ↓gx_ft, ↓gx_ff, ↓gx_u2, ↓gk_tt, ↓gk_tf, ↓gk_ff, ↓gk_ft, reduceCtorEq, Nat.reduceEqDiff, ↓reduceIte, Nat.reduceAdd, Nat.reduceSub, Nat.reduceLT, Nat.reduceMul, Nat.reduceBEq, Int.reduceLE, Int.reduceLT, Int.reduceAdd, Int.reduceSub, Int.reduceToNat, Int.reduceNeg, Int.reduceMul, Nat.reduceLeDiff]
    all_goals rfl
  · rintro ⟨i, s⟩ ⟨hi, hS⟩
    simp only at hi hS
    refine dc_seq (dc_region (ok0 gl) [] (by kernel_rfl) ?_)
    simp only [go_sem, ↓gx_tt, ↓gx_tf, ↓gx_ft, ↓gx_ff, ↓gx_u2, ↓gk_tt, ↓gk_tf, ↓gk_ff, ↓gk_ft, reduceCtorEq, Nat.reduceEqDiff, ↓reduceIte, Nat.reduceAdd, Nat.reduceSub, Nat.reduceLT, Nat.reduceMul, Nat.reduceBEq, Int.reduceLE, Int.reduceLT, Int.reduceAdd, Int.reduceSub, Int.reduceToNat, Int.reduceNeg, Int.reduceMul, Nat.reduceLeDiff]
    refine dc_seq (dc_cond _ rfl (fun hlt => dc_skip ?_) (fun hge => dc_exit ?_))
    · have hlt : i < cs.length := by simpa using hlt
      have e1 : ((i : Int).toNat) = i := Int.toNat_natCast i
      rw [sumF_drop _ hlt] at hS
      refine dc_seq (dc_block (dc_seq (dc_region (ok0 gl) [] (by kernel_rfl) ?_)))
      simp only [go_sem, ↓gx_tt, ↓gx_tf, ↓gx_ft, ↓gx_ff, ↓gx_u2, ↓gk_tt, ↓gk_tf, ↓gk_ff, ↓gk_ft, reduceCtorEq, Nat.reduceEqDiff, ↓reduceIte, Nat.reduceAdd, Nat.reduceSub, Nat.reduceLT, Nat.reduceMul, Nat.reduceBEq, Int.reduceLE, Int.reduceLT, Int.reduceAdd, Int.reduceSub, Int.reduceToNat, Int.reduceNeg, Int.reduceMul, Nat.reduceLeDiff, e1]
      refine ⟨by omega, by omega, ?_⟩
      refine dc_seq (dc_region (ok0 gl) [] (by kernel_rfl) ?_)
      simp only [go_sem, ↓gx_tt, ↓gx_tf, ↓gx_ft, ↓gx_ff, ↓gx_u2, ↓gk_tt, ↓gk_tf, ↓gk_ff, ↓gk_ft, reduceCtorEq, Nat.reduceEqDiff, ↓reduceIte, Nat.reduceAdd, Nat.reduceSub, Nat.reduceLT, Nat.reduceMul, Nat.reduceBEq, Int.reduceLE, Int.reduceLT, Int.reduceAdd, Int.reduceSub, Int.reduceToNat, Int.reduceNeg, Int.reduceMul, Nat.reduceLeDiff]
      by_cases h : 18446744073709551616 ≤ s + (cs.getD i .nil).toInt
      · rw [if_pos h] at hS
        have hS' := hS.symm
        refine dc_seq (dc_region (ok0 gl) [] (by kernel_rfl) (vc_n [(), ()] ?_))
        simp only [go_sem, ↓gx_tt, ↓gx_tf, ↓gx_ft, ↓gx_ff, ↓gx_u2, ↓gk_tt, ↓gk_tf, ↓gk_ff, ↓gk_ft, reduceCtorEq, Nat.reduceEqDiff, ↓reduceIte, Nat.reduceAdd, Nat.reduceSub, Nat.reduceLT, Nat.reduceMul, Nat.reduceBEq, Int.reduceLE, Int.reduceLT, Int.reduceAdd, Int.reduceSub, Int.reduceToNat, Int.reduceNeg, Int.reduceMul, Nat.reduceLeDiff]
        refine vcR_op [(), (), (), (), (), (), (), (), ()] rfl ?_
        refine vcO_call _ (money_Add _ (.int s) (cs.getD i .nil)) rfl (by simp only [go_sem]) rfl ?_ ?_ ?_ ?_ ?_ <;> simp only [go_sem, ↓gx_tt, ↓gx_tf, ↓gx_ft, ↓gx_ff, ↓gx_u2, ↓gk_tt, ↓gk_tf, ↓gk_ff, ↓gk_ft, reduceCtorEq, Nat.reduceEqDiff, ↓reduceIte, Nat.reduceAdd, Nat.reduceSub, Nat.reduceLT, Nat.reduceMul, Nat.reduceBEq, Int.reduceLE, Int.reduceLT, Int.reduceAdd, Int.reduceSub, Int.reduceToNat, Int.reduceNeg, Int.reduceMul, Nat.reduceLeDiff, addV, h]
        refine dc_seq (dc_region (ok0 gl) [] (by kernel_rfl) ?_)
        simp only [go_sem, ↓gx_tt, ↓gx_tf, ↓gx_ft, ↓gx_ff, ↓gx_u2, ↓gk_tt, ↓gk_tf, ↓gk_ff, ↓gk_ft, reduceCtorEq, Nat.reduceEqDiff, ↓reduceIte, Nat.reduceAdd, Nat.reduceSub, Nat.reduceLT, Nat.reduceMul, Nat.reduceBEq, Int.reduceLE, Int.reduceLT, Int.reduceAdd, Int.reduceSub, Int.reduceToNat, Int.reduceNeg, Int.reduceMul, Nat.reduceLeDiff]
        refine dc_cond _ rfl (fun _ => ?_) (fun h => by simp at h)
        refine dc_seq (dc_region (ok0 gl) [] (by kernel_rfl) ?_)
        simp only [go_sem, ↓gx_tt, ↓gx_tf, ↓gx_ft, ↓gx_ff, ↓gx_u2, ↓gk_tt, ↓gk_tf, ↓gk_ff, ↓gk_ft, reduceCtorEq, Nat.reduceEqDiff, ↓reduceIte, Nat.reduceAdd, Nat.reduceSub, Nat.reduceLT, Nat.reduceMul, Nat.reduceBEq, Int.reduceLE, Int.reduceLT, Int.reduceAdd, Int.reduceSub, Int.reduceToNat, Int.reduceNeg, Int.reduceMul, Nat.reduceLeDiff]
        simp only [hS', sumV]
        refine dc_ret ⟨.inr rfl, ?_⟩
        simp only [retOk, go_sem, ↓gx_tt, ↓gx_tf, ↓gx_ft, ↓gx_ff, ↓gx_u2, ↓gk_tt, ↓gk_tf, ↓gk_ff, ↓gk_ft, reduceCtorEq, Nat.reduceEqDiff, ↓reduceIte, Nat.reduceAdd, Nat.reduceSub, Nat.reduceLT, Nat.reduceMul, Nat.reduceBEq, Int.reduceLE, Int.reduceLT, Int.reduceAdd, Int.reduceSub, Int.reduceToNat, Int.reduceNeg, Int.reduceMul, Nat.reduceLeDiff, Tryd.f31] <;> try rfl
      · rw [if_neg h] at hS
        refine dc_seq (dc_region (ok0 gl) [] (by kernel_rfl) (vc_n [(), ()] ?_))
        simp only [go_sem, ↓gx_tt, ↓gx_tf, ↓gx_ft, ↓gx_ff, ↓gx_u2, ↓gk_tt, ↓gk_tf, ↓gk_ff, ↓gk_ft, reduceCtorEq, Nat.reduceEqDiff, ↓reduceIte, Nat.reduceAdd, Nat.reduceSub, Nat.reduceLT, Nat.reduceMul, Nat.reduceBEq, Int.reduceLE, Int.reduceLT, Int.reduceAdd, Int.reduceSub, Int.reduceToNat, Int.reduceNeg, Int.reduceMul, Nat.reduceLeDiff]
        refine vcR_op [(), (), (), (), (), (), (), (), ()] rfl ?_
        refine vcO_call _ (money_Add _ (.int s) (cs.getD i .nil)) rfl (by simp only [go_sem]) rfl ?_ ?_ ?_ ?_ ?_ <;> simp only [go_sem, ↓gx_tt, ↓gx_tf, ↓gx_ft, ↓gx_ff, ↓gx_u2, ↓gk_tt, ↓gk_tf, ↓gk_ff, ↓gk_ft, reduceCtorEq, Nat.reduceEqDiff, ↓reduceIte, Nat.reduceAdd, Nat.reduceSub, Nat.reduceLT, Nat.reduceMul, Nat.reduceBEq, Int.reduceLE, Int.reduceLT, Int.reduceAdd, Int.reduceSub, Int.reduceToNat, Int.reduceNeg, Int.reduceMul, Nat.reduceLeDiff, addV, h]
        refine dc_seq (dc_region (ok0 gl) [] (by kernel_rfl) ?_)
        simp only [go_sem, ↓gx_tt, ↓gx_tf, ↓gx_ft, ↓gx_ff, ↓gx_u2, ↓gk_tt, ↓gk_tf, ↓gk_ff, ↓gk_ft, reduceCtorEq, Nat.reduceEqDiff, ↓reduceIte, Nat.reduceAdd, Nat.reduceSub, Nat.reduceLT, Nat.reduceMul, Nat.reduceBEq, Int.reduceLE, Int.reduceLT, Int.reduceAdd, Int.reduceSub, Int.reduceToNat, Int.reduceNeg, Int.reduceMul, Nat.reduceLeDiff]
        refine dc_cond _ rfl (fun h => by simp at h) (fun _ => dc_skip ?_)
        refine dc_region (ok0 gl) [] (by kernel_rfl) ?_
        simp only [go_sem, ↓gx_tt, ↓gx_tf, ↓gx_ft, ↓gx_ff, ↓gx_u2, ↓gk_tt, ↓gk_tf, ↓gk_ff, ↓gk_ft, reduceCtorEq, Nat.reduceEqDiff, ↓reduceIte, Nat.reduceAdd, Nat.reduceSub, Nat.reduceLT, Nat.reduceMul, Nat.reduceBEq, Int.reduceLE, Int.reduceLT, Int.reduceAdd, Int.reduceSub, Int.reduceToNat, Int.reduceNeg, Int.reduceMul, Nat.reduceLeDiff]
        refine ⟨(i + 1, s + (cs.getD i .nil).toInt), ⟨hlt, hS⟩, by simp only; omega, ?_⟩
        refine weak_to rfl ?_ ?_ ?_ ?_ ?_ <;> simp only [go_sem, ↓gx_tt, ↓gx_tf, ↓gx_ft, ↓gx_ff, ↓gx_u2, ↓gk_tt, ↓gk_tf, ↓gk_ff, ↓gk_ft, reduceCtorEq, Nat.reduceEqDiff, ↓reduceIte, Nat.reduceAdd, Nat.reduceSub, Nat.reduceLT, Nat.reduceMul, Nat.reduceBEq, Int.reduceLE, Int.reduceLT, Int.reduceAdd, Int.reduceSub, Int.reduceToNat, Int.reduceNeg, Int.reduceMul, Nat.reduceLeDiff]
        rw [IntWalk.i64_in _ (by omega)]; rfl
    · have hge : cs.length ≤ i := by simpa using hge
      rw [List.drop_eq_nil_of_le hge] at hS
      simp only [sumF] at hS
      refine dc_seq (dc_region (ok0 gl) [] (by kernel_rfl) ?_)
      simp only [go_sem, ↓gx_tt, ↓gx_tf, ↓gx_ft, ↓gx_ff, ↓gx_u2, ↓gk_tt, ↓gk_tf, ↓gk_ff, ↓gk_ft, reduceCtorEq, Nat.reduceEqDiff, ↓reduceIte, Nat.reduceAdd, Nat.reduceSub, Nat.reduceLT, Nat.reduceMul, Nat.reduceBEq, Int.reduceLE, Int.reduceLT, Int.reduceAdd, Int.reduceSub, Int.reduceToNat, Int.reduceNeg, Int.reduceMul, Nat.reduceLeDiff]
      simp only [← hS, sumV]
      refine dc_ret ⟨.inr rfl, ?_⟩
      simp only [retOk, go_sem, ↓gx_tt, ↓gx_tf, ↓gx_ft, ↓gx_ff, ↓gx_u2, ↓gk_tt, ↓gk_tf, ↓gk_ff, ↓gk_ft, reduceCtorEq, Nat.reduceEqDiff, ↓reduceIte, Nat.reduceAdd, Nat.reduceSub, Nat.reduceLT, Nat.reduceMul, Nat.reduceBEq, Int.reduceLE, Int.reduceLT, Int.reduceAdd, Int.reduceSub, Int.reduceToNat, Int.reduceNeg, Int.reduceMul, Nat.reduceLeDiff, Tryd.f31] <;> try rfl
end Go.Proofs.YtgkdfggnlpojoaaDoor

namespace Go.Proofs.YtgkdfggnlpojoaaDoor
open Go Go.E
set_option maxRecDepth 100000
/-- Package-level variables that are read. -/
def gl0 : Nat → Option (Ty × C) := fun g => bif Nat.beq g 0 then some (.arr 18 tForm, .agg formsC) else none
theorem gf0 : GF gl0 := rfl
theorem gl0_sub (gl : Nat → Option (Ty × C)) (h : gl 0 = some (.arr 18 tForm, .agg formsC)) : ∀ g x, gl0 g = some x → gl g = some x := by
  intro g x hx
  unfold gl0 at hx
  cases hb : Nat.beq g 0 with
  | true =>
    rw [hb, cond_true] at hx
    cases hx
    rw [Nat.eq_of_beq_eq_true hb]; exact h
  | false => rw [hb] at hx; cases hx
/-- Functions without code that runs use. -/
def add64X : List V → Option V := fun xs => match xs with
  | [.d (.int .u64) a, .d (.int .u64) b, .d (.int .u64) (.int c)] => if c = 0 then some (.tup [.d (.int .u64) (.int ((a.toInt + b.toInt) % 18446744073709551616)), .d (.int .u64) (.int ((a.toInt + b.toInt) / 18446744073709551616))]) else none
  | _ => none
def extX : ExtK := fun f => bif Nat.beq f 37 then some add64X else none
theorem extX_ok (gl : Nat → Option (Ty × C)) : ExtKOk (X0 gl) extX := by
  intro f g xs v h h'
  unfold extX at h
  cases h1 : Nat.beq f 37 with
  | true =>
    rw [h1, cond_true] at h
    obtain rfl := Nat.eq_of_beq_eq_true h1
    cases h
    unfold add64X at h'
    split at h'
    · simp only [Option.ite_none_right_eq_some, Option.some.injEq] at h'
      obtain ⟨rfl, rfl⟩ := h'
      exact bits_Add64 _ _
    · cases h'
  | false =>
    rw [h1, cond_false] at h
    cases h
def noX : FuncId → Nat → List (Nat × Nat) := fun _ _ => []
noncomputable def cl_Byte_g (_ : Nat) {R : Type} : OvG R := cloneG 1 (.int .u8)
theorem cl_Byte_ok (N : Nat) {R : Type} : GOk (X0 gl0) 13 (cl_Byte_g N (R := R)) := cloneG_ok fun A cs => clone_Byte A cs
noncomputable def cl_Cond_g (_ : Nat) {R : Type} : OvG R := cloneG 64 tCond
theorem cl_Cond_ok (N : Nat) {R : Type} : GOk (X0 gl0) 29 (cl_Cond_g N (R := R)) := cloneG_ok fun A cs => clone_Cond A cs
end Go.Proofs.YtgkdfggnlpojoaaDoor

namespace Go.Proofs.YtgkdfggnlpojoaaDoor
open Go Go.E
set_option maxRecDepth 10000
set_option linter.unusedSimpArgs false
variable {gl : Nat → Option (Ty × C)}
/-- Where a number stands first. -/
def findI : List C → Int → Int → Int
  | [], _, _ => -1
  | c :: cs, x, i => if x = c.toInt then i else findI cs x (i + 1)
theorem findI_drop {cs : List C} {i : Nat} (x : Int) (h : i < cs.length) : findI (cs.drop i) x i = if x = (cs.getD i .nil).toInt then (i : Int) else findI (cs.drop (i + 1)) x ((i : Int) + 1) := by
  rw [List.drop_eq_getElem_cons h]
  simp only [findI, List.getD_eq_getElem?_getD, List.getElem?_eq_getElem h, Option.getD_some]
theorem index_int (A : Key → Option O) (cs : List C) (x : C) : DCalls (X0 gl) 19 [.d (.slice 8 (.int .i64)) (.slice cs), .d (.int .i64) x] A (.d (.int .i64) (.int (findI cs x.toInt 0))) [] := by
  refine dcalls_intro (n := 19) (ok0 gl) Tryd.func19 rfl rfl (by simp) ?_
  intro A' hA
  refine dc_facts fun W => ?_
  have hl : cs.length ≤ 9223372036854775807 := (W.at (t := 0) rfl).2.2.1
  refine dc_seq (dc_region (ok0 gl) [] (by kernel_rfl) ?_)
  simp only [go_sem, ↓gx_tt, ↓gx_tf, ↓gx_ft, ↓gx_ff, ↓gx_u2, ↓gk_tt, ↓gk_tf, ↓gk_ff, ↓gk_ft, reduceCtorEq, Nat.reduceEqDiff, ↓reduceIte, Nat.reduceAdd, Nat.reduceSub, Nat.reduceLT, Nat.reduceMul, Nat.reduceBEq, Int.reduceLE, Int.reduceLT, Int.reduceAdd, Int.reduceSub, Int.reduceToNat, Int.reduceNeg, Int.reduceMul, Nat.reduceLeDiff]
  refine dc_seq (dc_seq (dc_region (ok0 gl) [] (by kernel_rfl) ?_))
  simp only [go_sem, ↓gx_tt, ↓gx_tf, ↓gx_ft, ↓gx_ff, ↓gx_u2, ↓gk_tt, ↓gk_tf, ↓gk_ff, ↓gk_ft, reduceCtorEq, Nat.reduceEqDiff, ↓reduceIte, Nat.reduceAdd, Nat.reduceSub, Nat.reduceLT, Nat.reduceMul, Nat.reduceBEq, Int.reduceLE, Int.reduceLT, Int.reduceAdd, Int.reduceSub, Int.reduceToNat, Int.reduceNeg, Int.reduceMul, Nat.reduceLeDiff]
  refine dc_block (dc_count (fun i => ⟨[(8, .d (.int .i64) (.int i)), (7, .d (.int .i64) (.int cs.length)), (4, .d (.int .i64) (.int 0)), (1, .d (.int .i64) x), (0, .d (.slice 8 (.int .i64)) (.slice cs))], [], A', []⟩) cs.length (fun i => findI cs x.toInt 0 = findI (cs.drop i) x.toInt i) ?_ rfl ?_)
  · refine weak_to rfl ?_ ?_ ?_ ?_ ?_ <;> simp only [go_sem, ↓gx_tt, ↓gx_tf, ↓gx_ft, ↓gx_ff, ↓gx_u2, ↓gk_tt, ↓gk_tf, ↓gk_ff, ↓gk_ft, reduceCtorEq, Nat.reduceEqDiff, ↓reduceIte, Nat.reduceAdd, Nat.reduceSub, Nat.reduceLT, Nat.reduceMul, Nat.reduceBEq, Int.reduceLE, Int.reduceLT, Int.reduceAdd, Int.reduceSub, Int.reduceToNat, Int.reduceNeg, Int.reduceMul, Nat.reduceLeDiff]
    all_goals rfl
  · intro i hi hp
    refine dc_seq (dc_region (ok0 gl) [] (by kernel_rfl) ?_)
    simp only [go_sem, ↓gx_tt, ↓gx_tf, ↓gx_ft, ↓gx_ff, ↓gx_u2, ↓gk_tt, ↓gk_tf, ↓gk_ff, ↓gk_ft, reduceCtorEq, Nat.reduceEqDiff, ↓reduceIte, Nat.reduceAdd, Nat.reduceSub, Nat.reduceLT, Nat.reduceMul, Nat.reduceBEq, Int.reduceLE, Int.reduceLT, Int.reduceAdd, Int.reduceSub, Int.reduceToNat, Int.reduceNeg, Int.reduceMul, Nat.reduceLeDiff]
    refine dc_seq (dc_cond _ rfl (fun hlt => dc_skip ?_) (fun hge => dc_exit ?_))
    · have hlt : i < cs.length := by simpa using hlt
      rw [findI_drop _ hlt] at hp
      have e1 : ((i : Int).toNat) = i := Int.toNat_natCast i
      refine dc_seq (dc_block (dc_seq (dc_region (ok0 gl) [] (by kernel_rfl) ?_)))
      simp only [go_sem, ↓gx_tt, ↓gx_tf, ↓gx_ft, ↓gx_ff, ↓gx_u2, ↓gk_tt, ↓gk_tf, ↓gk_ff, ↓gk_ft, reduceCtorEq, Nat.reduceEqDiff, ↓reduceIte, Nat.reduceAdd, Nat.reduceSub, Nat.reduceLT, Nat.reduceMul, Nat.reduceBEq, Int.reduceLE, Int.reduceLT, Int.reduceAdd, Int.reduceSub, Int.reduceToNat, Int.reduceNeg, Int.reduceMul, Nat.reduceLeDiff]
      refine dc_seq (dc_region (ok0 gl) [] (by kernel_rfl) ?_)
      simp only [go_sem, ↓gx_tt, ↓gx_tf, ↓gx_ft, ↓gx_ff, ↓gx_u2, ↓gk_tt, ↓gk_tf, ↓gk_ff, ↓gk_ft, reduceCtorEq, Nat.reduceEqDiff, ↓reduceIte, Nat.reduceAdd, Nat.reduceSub, Nat.reduceLT, Nat.reduceMul, Nat.reduceBEq, Int.reduceLE, Int.reduceLT, Int.reduceAdd, Int.reduceSub, Int.reduceToNat, Int.reduceNeg, Int.reduceMul, Nat.reduceLeDiff, e1]
      refine ⟨by omega, by omega, dc_cond _ rfl (fun he => ?_) (fun he => dc_skip ?_)⟩
      · rw [if_pos (of_decide_eq_true he)] at hp
        refine dc_seq (dc_region (ok0 gl) [] (by kernel_rfl) ?_)
        simp only [go_sem, ↓gx_tt, ↓gx_tf, ↓gx_ft, ↓gx_ff, ↓gx_u2, ↓gk_tt, ↓gk_tf, ↓gk_ff, ↓gk_ft, reduceCtorEq, Nat.reduceEqDiff, ↓reduceIte, Nat.reduceAdd, Nat.reduceSub, Nat.reduceLT, Nat.reduceMul, Nat.reduceBEq, Int.reduceLE, Int.reduceLT, Int.reduceAdd, Int.reduceSub, Int.reduceToNat, Int.reduceNeg, Int.reduceMul, Nat.reduceLeDiff]
        refine dc_ret ⟨.inr rfl, ?_⟩
        simp only [retOk, go_sem, ↓gx_tt, ↓gx_tf, ↓gx_ft, ↓gx_ff, ↓gx_u2, ↓gk_tt, ↓gk_tf, ↓gk_ff, ↓gk_ft, reduceCtorEq, Nat.reduceEqDiff, ↓reduceIte, Nat.reduceAdd, Nat.reduceSub, Nat.reduceLT, Nat.reduceMul, Nat.reduceBEq, Int.reduceLE, Int.reduceLT, Int.reduceAdd, Int.reduceSub, Int.reduceToNat, Int.reduceNeg, Int.reduceMul, Nat.reduceLeDiff, Tryd.f19, hp]
      · rw [if_neg (of_decide_eq_false he)] at hp
        refine dc_region (ok0 gl) [] (by kernel_rfl) ?_
        simp only [go_sem, ↓gx_tt, ↓gx_tf, ↓gx_ft, ↓gx_ff, ↓gx_u2, ↓gk_tt, ↓gk_tf, ↓gk_ff, ↓gk_ft, reduceCtorEq, Nat.reduceEqDiff, ↓reduceIte, Nat.reduceAdd, Nat.reduceSub, Nat.reduceLT, Nat.reduceMul, Nat.reduceBEq, Int.reduceLE, Int.reduceLT, Int.reduceAdd, Int.reduceSub, Int.reduceToNat, Int.reduceNeg, Int.reduceMul, Nat.reduceLeDiff]
        refine ⟨hlt, hp, weak_to rfl ?_ ?_ ?_ ?_ ?_⟩ <;> simp only [go_sem, ↓gx_tt, ↓gx_tf, ↓gx_ft, ↓gx_ff, ↓gx_u2, ↓gk_tt, ↓gk_tf, ↓gk_ff, ↓gk_ft, reduceCtorEq, Nat.reduceEqDiff, ↓reduceIte, Nat.reduceAdd, Nat.reduceSub, Nat.reduceLT, Nat.reduceMul, Nat.reduceBEq, Int.reduceLE, Int.reduceLT, Int.reduceAdd, Int.reduceSub, Int.reduceToNat, Int.reduceNeg, Int.reduceMul, Nat.reduceLeDiff]
        rw [IntWalk.i64_in _ (by omega)]
        rfl
    · have hge : cs.length ≤ i := by simpa using hge
      rw [List.drop_eq_nil_of_le hge] at hp
      refine dc_seq (dc_region (ok0 gl) [] (by kernel_rfl) ?_)
      simp only [go_sem, ↓gx_tt, ↓gx_tf, ↓gx_ft, ↓gx_ff, ↓gx_u2, ↓gk_tt, ↓gk_tf, ↓gk_ff, ↓gk_ft, reduceCtorEq, Nat.reduceEqDiff, ↓reduceIte, Nat.reduceAdd, Nat.reduceSub, Nat.reduceLT, Nat.reduceMul, Nat.reduceBEq, Int.reduceLE, Int.reduceLT, Int.reduceAdd, Int.reduceSub, Int.reduceToNat, Int.reduceNeg, Int.reduceMul, Nat.reduceLeDiff]
      refine dc_ret ⟨.inr rfl, ?_⟩
      simp only [retOk, go_sem, ↓gx_tt, ↓gx_tf, ↓gx_ft, ↓gx_ff, ↓gx_u2, ↓gk_tt, ↓gk_tf, ↓gk_ff, ↓gk_ft, reduceCtorEq, Nat.reduceEqDiff, ↓reduceIte, Nat.reduceAdd, Nat.reduceSub, Nat.reduceLT, Nat.reduceMul, Nat.reduceBEq, Int.reduceLE, Int.reduceLT, Int.reduceAdd, Int.reduceSub, Int.reduceToNat, Int.reduceNeg, Int.reduceMul, Nat.reduceLeDiff, Tryd.f19, hp, findI]
end Go.Proofs.YtgkdfggnlpojoaaDoor

namespace Go.Proofs.YtgkdfggnlpojoaaDoor
open Go Go.E
set_option maxRecDepth 100000
/-- Functions without code that runs use. -/
def add64G : List V → Option V := fun xs => match xs with
  | [.d (.int .u64) a, .d (.int .u64) b, .d (.int .u64) (.int c)] => if c = 0 then some (.tup [.d (.int .u64) (.int ((a.toInt + b.toInt) % 18446744073709551616)), .d (.int .u64) (.int ((a.toInt + b.toInt) / 18446744073709551616))]) else none
  | _ => none
def ext1 : ExtK := fun f => bif Nat.beq f 37 then some add64G else none
theorem ext1_ok (gl : Nat → Option (Ty × C)) : ExtKOk (X0 gl) ext1 := by
  intro f g xs v h h'
  unfold ext1 at h
  cases h1 : Nat.beq f 37 with
  | true =>
    rw [h1, cond_true] at h
    obtain rfl := Nat.eq_of_beq_eq_true h1
    cases h
    unfold add64G at h'
    split at h'
    · simp only [Option.ite_none_right_eq_some, Option.some.injEq] at h'
      obtain ⟨rfl, rfl⟩ := h'
      exact bits_Add64 _ _
    · cases h'
  | false =>
    rw [h1, cond_false] at h
    cases h
/-- Does a number stand in a list? -/
def containsG {R : Type} : OvG R := fun xs _ K => match xs with
  | [.d (.slice 8 (.int .i64)) c, .d (.int .i64) x] => K (.d .bool (.bool (decide (0 ≤ findI c.elems x.toInt 0)))) []
  | _ => none
/-- Contracts that runs use. -/
def ovs1 (gl : Nat → Option (Ty × C)) : OvS (X0 gl) where
  g R := [
    (13, cloneG 1 (.int .u8)),
    (29, cloneG 64 tCond),
    (999998, fun _ _ _ => none)]
  ok R p hp := by
    simp only [List.mem_cons, List.not_mem_nil, or_false] at hp
    rcases hp with rfl | hp
    · exact cloneG_ok fun A cs => clone_Byte A cs
    rcases hp with rfl | hp
    · exact cloneG_ok fun A cs => clone_Cond A cs
    subst hp
    intro xs A Kr r h
    cases h
/-- A piece of code that is run. -/
theorem dc_run {gl : Nat → Option (Ty × C)} (o : OvS (X0 gl)) (tbl : Nat → List (Nat × Nat)) (f d : Nat) (keep rkeep : List Nat) {n : Nat} {c : Code} {env : List (Nat × V)} {loc : List (Key × O)} {tk : List (Nat × Option Nat)} {A A' : Key → Option O} (hA : leA A A')
    {T : Option (Exit × S)} (hT : ekC (X0 gl) (ekF (X0 gl) (o.ov _) ext1 (fun _ _ => []) f d) ext1 tbl n f c ⟨env, loc, A, tk⟩ (kKeep keep rkeep) = T) {Ψ : Exit → S → Prop} (h : TSat T fun e s => Ψ e (s.wA A')) : DC (X0 gl) n c ⟨env, loc, A', tk⟩ Ψ :=
  dc_ek (ok0 gl) (mo gl) (ekF_ok (ok0 gl) (mo gl) (o.ov_ok _) (ext1_ok gl) d) (ext1_ok gl) hA hT h
/-- A function that is run. -/
theorem call_run {gl : Nat → Option (Ty × C)} (o : OvS (X0 gl)) (tbl : FuncId → Nat → List (Nat × Nat)) (fuel d : Nat) {f : FuncId} {xs : List V} {A : Key → Option O} {T : Option (V × List (Key × O))}
    (hT : ekF (X0 gl) (o.ov _) ext1 tbl fuel d f xs A kR = T) {v : V} {L : List (Key × O)} (h : T = some (v, L)) : DCalls (X0 gl) f xs A v L :=
  dcalls_ek (ok0 gl) (mo gl) (o.ov_ok _) (ext1_ok gl) hT h
def noT : Nat → List (Nat × Nat) := fun _ => []
def noTT : FuncId → Nat → List (Nat × Nat) := fun _ _ => []
end Go.Proofs.YtgkdfggnlpojoaaDoor

namespace Go.Proofs.YtgkdfggnlpojoaaDoor
open Go Go.E
set_option maxRecDepth 10000
set_option maxHeartbeats 4000000
set_option linter.unusedSimpArgs false
variable {gl : Nat → Option (Ty × C)}
theorem ref11_More (A : Key → Option O) (o : C) : DCalls (X0 gl) 27 [.d (.int .i64) o] A (.d (.int .i64) (.int (moreN o.toInt))) [] := by
  refine call_run (ovs1 gl) noTT 60 6 (T := (bif decide (C.toInt o = Int.ofNat 1) then
          some ((V.d (Ty.int IntKind.i64) (C.int 8), []))
        else
          (bif decide (C.toInt o = Int.ofNat 2) then
            some ((V.d (Ty.int IntKind.i64) (C.int 1), []))
          else
            (bif decide (C.toInt o = Int.ofNat 16) then
              some ((V.d (Ty.int IntKind.i64) (C.int 1), []))
            else
              (bif decide (C.toInt o = Int.ofNat 11) then
                some ((V.d (Ty.int IntKind.i64) (C.int 2), []))
              else
                (bif decide (C.toInt o = Int.ofNat 12) then
                  some ((V.d (Ty.int IntKind.i64) (C.int 2), []))
                else
                  some ((V.d (Ty.int IntKind.i64) (C.int 0), [])))))))) (by kernel_rfl) ?_
  simp only [Bool.cond_decide, Int.ofNat_eq_natCast, Int.cast_ofNat_Int]
  unfold moreN
  (repeat' split) <;> first | rfl | (exfalso; omega)
/-- What Order gives. -/
def orderV (p : List C) (i : Nat) : V := .tup [.d (.int .i64) (.int (if errN p i = 0 then bN p i else 0)), .d (.int .u64) (.int (if errN p i = 0 then argN p (i + 1) (moreN (bN p i)) else 0)), .d (.int .i64) (.int (errN p i))]
theorem ref11_Order (A : Key → Option O) (p : List C) (at_ : Nat) (hl : p.length ≤ 256) (hat : at_ ≤ 600) : DCalls (X0 gl) 26 [.d (.slice 1 (.int .u8)) (.slice p), .d (.int .i64) (.int at_)] A (orderV p at_) [] := by
  refine dcalls_intro (n := 48) (ok0 gl) Tryd.func26 rfl rfl (by simp) ?_
  intro A' hA
  refine dc_facts fun W => ?_
  have hw : C.wf (.slice 1 (.int .u8)) (.slice p) := W.at (t := 0) rfl
  clear W
  refine dc_seq (dc_region (ok0 gl) [] (by kernel_rfl) ?_)
  simp only [go_sem, ↓gx_tt, ↓gx_tf, ↓gx_ft, ↓gx_ff, ↓gx_u2, ↓gk_tt, ↓gk_tf, ↓gk_ff, ↓gk_ft, reduceCtorEq, Nat.reduceEqDiff, ↓reduceIte, Nat.reduceAdd, Nat.reduceSub, Nat.reduceLT, Nat.reduceMul, Nat.reduceBEq, Int.reduceLE, Int.reduceLT, Int.reduceAdd, Int.reduceSub, Int.reduceToNat, Int.reduceNeg, Int.reduceMul, Nat.reduceLeDiff]
  by_cases h1 : p.length ≤ at_
  · have h1' : (p.length : Int) ≤ (at_ : Int) := by omega
    have e : errN p at_ = 9 := by unfold errN; rw [if_pos h1]
    refine dc_seq (dc_seq (dc_region (ok0 gl) [] (by kernel_rfl) ?_))
    simp only [go_sem, ↓gx_tt, ↓gx_tf, ↓gx_ft, ↓gx_ff, ↓gx_u2, ↓gk_tt, ↓gk_tf, ↓gk_ff, ↓gk_ft, reduceCtorEq, Nat.reduceEqDiff, ↓reduceIte, Nat.reduceAdd, Nat.reduceSub, Nat.reduceLT, Nat.reduceMul, Nat.reduceBEq, Int.reduceLE, Int.reduceLT, Int.reduceAdd, Int.reduceSub, Int.reduceToNat, Int.reduceNeg, Int.reduceMul, Nat.reduceLeDiff, h1']
    refine dc_cond _ rfl (fun _ => ?_) (fun h => by simp at h)
    refine dc_seq (dc_region (ok0 gl) [] (by kernel_rfl) ?_)
    simp only [go_sem, ↓gx_tt, ↓gx_tf, ↓gx_ft, ↓gx_ff, ↓gx_u2, ↓gk_tt, ↓gk_tf, ↓gk_ff, ↓gk_ft, reduceCtorEq, Nat.reduceEqDiff, ↓reduceIte, Nat.reduceAdd, Nat.reduceSub, Nat.reduceLT, Nat.reduceMul, Nat.reduceBEq, Int.reduceLE, Int.reduceLT, Int.reduceAdd, Int.reduceSub, Int.reduceToNat, Int.reduceNeg, Int.reduceMul, Nat.reduceLeDiff]
    refine dc_ret ⟨.inr rfl, ?_⟩
    simp only [retOk, go_sem, ↓gx_tt, ↓gx_tf, ↓gx_ft, ↓gx_ff, ↓gx_u2, ↓gk_tt, ↓gk_tf, ↓gk_ff, ↓gk_ft, reduceCtorEq, Nat.reduceEqDiff, ↓reduceIte, Nat.reduceAdd, Nat.reduceSub, Nat.reduceLT, Nat.reduceMul, Nat.reduceBEq, Int.reduceLE, Int.reduceLT, Int.reduceAdd, Int.reduceSub, Int.reduceToNat, Int.reduceNeg, Int.reduceMul, Nat.reduceLeDiff, Tryd.f26, orderV, e, Int.reduceEq, reduceIte] <;> try rfl
  · have h1' : ¬ (p.length : Int) ≤ (at_ : Int) := by omega
    have hlt : (at_ : Int) < (p.length : Int) := by omega
    have e1 : ((at_ : Int).toNat) = at_ := Int.toNat_natCast _
    obtain ⟨b1, b2, b3⟩ := bN_wf hw (i := at_) (by omega)
    refine dc_seq (dc_seq (dc_region (ok0 gl) [] (by kernel_rfl) ?_))
    simp only [go_sem, ↓gx_tt, ↓gx_tf, ↓gx_ft, ↓gx_ff, ↓gx_u2, ↓gk_tt, ↓gk_tf, ↓gk_ff, ↓gk_ft, reduceCtorEq, Nat.reduceEqDiff, ↓reduceIte, Nat.reduceAdd, Nat.reduceSub, Nat.reduceLT, Nat.reduceMul, Nat.reduceBEq, Int.reduceLE, Int.reduceLT, Int.reduceAdd, Int.reduceSub, Int.reduceToNat, Int.reduceNeg, Int.reduceMul, Nat.reduceLeDiff, h1']
    refine dc_cond _ rfl (fun h => by simp at h) (fun _ => dc_skip ?_)
    have w1 : IntKind.i64.wrap (bN p at_) = bN p at_ := IntWalk.i64_in _ (by omega)
    refine dc_seq (dc_region (ok0 gl) [] (by kernel_rfl) ?_)
    simp only [go_sem, ↓gx_tt, ↓gx_tf, ↓gx_ft, ↓gx_ff, ↓gx_u2, ↓gk_tt, ↓gk_tf, ↓gk_ff, ↓gk_ft, reduceCtorEq, Nat.reduceEqDiff, ↓reduceIte, Nat.reduceAdd, Nat.reduceSub, Nat.reduceLT, Nat.reduceMul, Nat.reduceBEq, Int.reduceLE, Int.reduceLT, Int.reduceAdd, Int.reduceSub, Int.reduceToNat, Int.reduceNeg, Int.reduceMul, Nat.reduceLeDiff, hlt, e1, b1, w1]
    refine ⟨by omega, ?_⟩
    by_cases h2 : 18 ≤ bN p at_
    · have e : errN p at_ = 33 := by unfold errN; rw [if_neg h1, if_pos h2]
      have h2' : 17 < bN p at_ := by omega
      refine dc_seq (dc_seq (dc_region (ok0 gl) [] (by kernel_rfl) ?_))
      simp only [go_sem, ↓gx_tt, ↓gx_tf, ↓gx_ft, ↓gx_ff, ↓gx_u2, ↓gk_tt, ↓gk_tf, ↓gk_ff, ↓gk_ft, reduceCtorEq, Nat.reduceEqDiff, ↓reduceIte, Nat.reduceAdd, Nat.reduceSub, Nat.reduceLT, Nat.reduceMul, Nat.reduceBEq, Int.reduceLE, Int.reduceLT, Int.reduceAdd, Int.reduceSub, Int.reduceToNat, Int.reduceNeg, Int.reduceMul, Nat.reduceLeDiff, h2']
      refine dc_cond _ rfl (fun _ => ?_) (fun h => by simp at h)
      refine dc_seq (dc_region (ok0 gl) [] (by kernel_rfl) ?_)
      simp only [go_sem, ↓gx_tt, ↓gx_tf, ↓gx_ft, ↓gx_ff, ↓gx_u2, ↓gk_tt, ↓gk_tf, ↓gk_ff, ↓gk_ft, reduceCtorEq, Nat.reduceEqDiff, ↓reduceIte, Nat.reduceAdd, Nat.reduceSub, Nat.reduceLT, Nat.reduceMul, Nat.reduceBEq, Int.reduceLE, Int.reduceLT, Int.reduceAdd, Int.reduceSub, Int.reduceToNat, Int.reduceNeg, Int.reduceMul, Nat.reduceLeDiff]
      refine dc_ret ⟨.inr rfl, ?_⟩
      simp only [retOk, go_sem, ↓gx_tt, ↓gx_tf, ↓gx_ft, ↓gx_ff, ↓gx_u2, ↓gk_tt, ↓gk_tf, ↓gk_ff, ↓gk_ft, reduceCtorEq, Nat.reduceEqDiff, ↓reduceIte, Nat.reduceAdd, Nat.reduceSub, Nat.reduceLT, Nat.reduceMul, Nat.reduceBEq, Int.reduceLE, Int.reduceLT, Int.reduceAdd, Int.reduceSub, Int.reduceToNat, Int.reduceNeg, Int.reduceMul, Nat.reduceLeDiff, Tryd.f26, orderV, e, Int.reduceEq, reduceIte] <;> try rfl
    · have h2' : ¬ 17 < bN p at_ := by omega
      refine dc_seq (dc_seq (dc_region (ok0 gl) [] (by kernel_rfl) ?_))
      simp only [go_sem, ↓gx_tt, ↓gx_tf, ↓gx_ft, ↓gx_ff, ↓gx_u2, ↓gk_tt, ↓gk_tf, ↓gk_ff, ↓gk_ft, reduceCtorEq, Nat.reduceEqDiff, ↓reduceIte, Nat.reduceAdd, Nat.reduceSub, Nat.reduceLT, Nat.reduceMul, Nat.reduceBEq, Int.reduceLE, Int.reduceLT, Int.reduceAdd, Int.reduceSub, Int.reduceToNat, Int.reduceNeg, Int.reduceMul, Nat.reduceLeDiff, h2']
      refine dc_cond _ rfl (fun h => by simp at h) (fun _ => dc_skip ?_)
      have m8 := moreN_le (bN p at_)
      have hM := ref11_More (gl := gl)
      have w2 : IntKind.i64.wrap ((at_ : Int) + 1) = (at_ : Int) + 1 := IntWalk.i64_in _ (by omega)
      generalize hmm : moreN (bN p at_) = m at m8
      have w3 : IntKind.i64.wrap ((at_ : Int) + 1 + (m : Int)) = (at_ : Int) + 1 + (m : Int) := IntWalk.i64_in _ (by omega)
      by_cases h3 : p.length < at_ + 1 + m
      · have h3' : (p.length : Int) < (at_ : Int) + 1 + (m : Int) := by omega
        have e : errN p at_ = 9 := by unfold errN; rw [if_neg h1, if_neg h2, hmm, if_pos h3]
        refine dc_seq (dc_seq (dc_region (ok0 gl) [] (by kernel_rfl) (vc_n [(), (), ()] ?_)))
        simp only [go_sem, ↓gx_tt, ↓gx_tf, ↓gx_ft, ↓gx_ff, ↓gx_u2, ↓gk_tt, ↓gk_tf, ↓gk_ff, ↓gk_ft, reduceCtorEq, Nat.reduceEqDiff, ↓reduceIte, Nat.reduceAdd, Nat.reduceSub, Nat.reduceLT, Nat.reduceMul, Nat.reduceBEq, Int.reduceLE, Int.reduceLT, Int.reduceAdd, Int.reduceSub, Int.reduceToNat, Int.reduceNeg, Int.reduceMul, Nat.reduceLeDiff, w2]
        refine vcR_op [(), (), (), (), (), (), (), (), ()] rfl ?_
        refine vcO_call _ (ref11_More _ (.int (bN p at_))) rfl (by simp only [go_sem]) rfl ?_ ?_ ?_ ?_ ?_ <;> simp only [go_sem, ↓gx_tt, ↓gx_tf, ↓gx_ft, ↓gx_ff, ↓gx_u2, ↓gk_tt, ↓gk_tf, ↓gk_ff, ↓gk_ft, reduceCtorEq, Nat.reduceEqDiff, ↓reduceIte, Nat.reduceAdd, Nat.reduceSub, Nat.reduceLT, Nat.reduceMul, Nat.reduceBEq, Int.reduceLE, Int.reduceLT, Int.reduceAdd, Int.reduceSub, Int.reduceToNat, Int.reduceNeg, Int.reduceMul, Nat.reduceLeDiff, w2, w3, hmm, h3', C.toInt]
        refine dc_cond _ rfl (fun _ => ?_) (fun h => by simp at h)
        refine dc_seq (dc_region (ok0 gl) [] (by kernel_rfl) ?_)
        simp only [go_sem, ↓gx_tt, ↓gx_tf, ↓gx_ft, ↓gx_ff, ↓gx_u2, ↓gk_tt, ↓gk_tf, ↓gk_ff, ↓gk_ft, reduceCtorEq, Nat.reduceEqDiff, ↓reduceIte, Nat.reduceAdd, Nat.reduceSub, Nat.reduceLT, Nat.reduceMul, Nat.reduceBEq, Int.reduceLE, Int.reduceLT, Int.reduceAdd, Int.reduceSub, Int.reduceToNat, Int.reduceNeg, Int.reduceMul, Nat.reduceLeDiff]
        refine dc_ret ⟨.inr rfl, ?_⟩
        simp only [retOk, go_sem, ↓gx_tt, ↓gx_tf, ↓gx_ft, ↓gx_ff, ↓gx_u2, ↓gk_tt, ↓gk_tf, ↓gk_ff, ↓gk_ft, reduceCtorEq, Nat.reduceEqDiff, ↓reduceIte, Nat.reduceAdd, Nat.reduceSub, Nat.reduceLT, Nat.reduceMul, Nat.reduceBEq, Int.reduceLE, Int.reduceLT, Int.reduceAdd, Int.reduceSub, Int.reduceToNat, Int.reduceNeg, Int.reduceMul, Nat.reduceLeDiff, Tryd.f26, orderV, e, Int.reduceEq, reduceIte] <;> try rfl
      · have h3' : ¬ (p.length : Int) < (at_ : Int) + 1 + (m : Int) := by omega
        have e : errN p at_ = 0 := by unfold errN; rw [if_neg h1, if_neg h2, hmm, if_neg h3]
        refine dc_seq (dc_seq (dc_region (ok0 gl) [] (by kernel_rfl) (vc_n [(), (), ()] ?_)))
        simp only [go_sem, ↓gx_tt, ↓gx_tf, ↓gx_ft, ↓gx_ff, ↓gx_u2, ↓gk_tt, ↓gk_tf, ↓gk_ff, ↓gk_ft, reduceCtorEq, Nat.reduceEqDiff, ↓reduceIte, Nat.reduceAdd, Nat.reduceSub, Nat.reduceLT, Nat.reduceMul, Nat.reduceBEq, Int.reduceLE, Int.reduceLT, Int.reduceAdd, Int.reduceSub, Int.reduceToNat, Int.reduceNeg, Int.reduceMul, Nat.reduceLeDiff, w2]
        refine vcR_op [(), (), (), (), (), (), (), (), ()] rfl ?_
        refine vcO_call _ (ref11_More _ (.int (bN p at_))) rfl (by simp only [go_sem]) rfl ?_ ?_ ?_ ?_ ?_ <;> simp only [go_sem, ↓gx_tt, ↓gx_tf, ↓gx_ft, ↓gx_ff, ↓gx_u2, ↓gk_tt, ↓gk_tf, ↓gk_ff, ↓gk_ft, reduceCtorEq, Nat.reduceEqDiff, ↓reduceIte, Nat.reduceAdd, Nat.reduceSub, Nat.reduceLT, Nat.reduceMul, Nat.reduceBEq, Int.reduceLE, Int.reduceLT, Int.reduceAdd, Int.reduceSub, Int.reduceToNat, Int.reduceNeg, Int.reduceMul, Nat.reduceLeDiff, w2, w3, hmm, h3', C.toInt]
        refine dc_cond _ rfl (fun h => by simp at h) (fun _ => dc_skip ?_)
        refine dc_seq (dc_region (ok0 gl) [] (by kernel_rfl) ?_)
        simp only [go_sem, ↓gx_tt, ↓gx_tf, ↓gx_ft, ↓gx_ff, ↓gx_u2, ↓gk_tt, ↓gk_tf, ↓gk_ff, ↓gk_ft, reduceCtorEq, Nat.reduceEqDiff, ↓reduceIte, Nat.reduceAdd, Nat.reduceSub, Nat.reduceLT, Nat.reduceMul, Nat.reduceBEq, Int.reduceLE, Int.reduceLT, Int.reduceAdd, Int.reduceSub, Int.reduceToNat, Int.reduceNeg, Int.reduceMul, Nat.reduceLeDiff]
        refine dc_seq (dc_seq (dc_region (ok0 gl) [] (by kernel_rfl) ?_))
        simp only [go_sem, ↓gx_tt, ↓gx_tf, ↓gx_ft, ↓gx_ff, ↓gx_u2, ↓gk_tt, ↓gk_tf, ↓gk_ff, ↓gk_ft, reduceCtorEq, Nat.reduceEqDiff, ↓reduceIte, Nat.reduceAdd, Nat.reduceSub, Nat.reduceLT, Nat.reduceMul, Nat.reduceBEq, Int.reduceLE, Int.reduceLT, Int.reduceAdd, Int.reduceSub, Int.reduceToNat, Int.reduceNeg, Int.reduceMul, Nat.reduceLeDiff]
        refine dc_block (dc_count (fun i => ⟨[(9, .d (.int .i64) (.int i)), (8, .d (.int .u64) (.int (argN p (at_ + 1) i))), (7, .d (.int .i64) (.int (bN p at_))), (4, .d (.int .i64) (.int 0)), (5, .d (.int .u64) (.int 0)), (6, .d (.int .i64) (.int 0)), (0, .d (.slice 1 (.int .u8)) (.slice p)), (1, .d (.int .i64) (.int at_))], [], A', []⟩) m (fun _ => True) ?_ trivial ?_)
        · refine weak_to rfl ?_ ?_ ?_ ?_ ?_ <;> simp only [go_sem, ↓gx_tt, ↓gx_tf, ↓gx_ft, ↓gx_ff, ↓gx_u2, ↓gk_tt, ↓gk_tf, ↓gk_ff, ↓gk_ft, reduceCtorEq, Nat.reduceEqDiff, ↓reduceIte, Nat.reduceAdd, Nat.reduceSub, Nat.reduceLT, Nat.reduceMul, Nat.reduceBEq, Int.reduceLE, Int.reduceLT, Int.reduceAdd, Int.reduceSub, Int.reduceToNat, Int.reduceNeg, Int.reduceMul, Nat.reduceLeDiff]
          all_goals first | (simp only [argN]; done) | (simp only [argN]; exact ⟨rfl, trivial⟩)
        · intro i hi _
          by_cases hlt2 : i < m
          · have hlt2' : (i : Int) < (m : Int) := by omega
            refine dc_seq (dc_seq (dc_region (ok0 gl) [] (by kernel_rfl) (vc_n [(), ()] ?_)))
            simp only [go_sem, ↓gx_tt, ↓gx_tf, ↓gx_ft, ↓gx_ff, ↓gx_u2, ↓gk_tt, ↓gk_tf, ↓gk_ff, ↓gk_ft, reduceCtorEq, Nat.reduceEqDiff, ↓reduceIte, Nat.reduceAdd, Nat.reduceSub, Nat.reduceLT, Nat.reduceMul, Nat.reduceBEq, Int.reduceLE, Int.reduceLT, Int.reduceAdd, Int.reduceSub, Int.reduceToNat, Int.reduceNeg, Int.reduceMul, Nat.reduceLeDiff]
            refine vcR_op [(), (), (), (), (), (), (), (), ()] rfl ?_
            refine vcO_call _ (ref11_More _ (.int (bN p at_))) rfl (by simp only [go_sem]) rfl ?_ ?_ ?_ ?_ ?_ <;> simp only [go_sem, ↓gx_tt, ↓gx_tf, ↓gx_ft, ↓gx_ff, ↓gx_u2, ↓gk_tt, ↓gk_tf, ↓gk_ff, ↓gk_ft, reduceCtorEq, Nat.reduceEqDiff, ↓reduceIte, Nat.reduceAdd, Nat.reduceSub, Nat.reduceLT, Nat.reduceMul, Nat.reduceBEq, Int.reduceLE, Int.reduceLT, Int.reduceAdd, Int.reduceSub, Int.reduceToNat, Int.reduceNeg, Int.reduceMul, Nat.reduceLeDiff, hmm, hlt2', C.toInt]
            refine dc_cond _ rfl (fun _ => dc_skip ?_) (fun h => by simp at h)
            have e4 : ((at_ : Int) + 1 + (i : Int)).toNat = at_ + 1 + i := by omega
            obtain ⟨a1, a2, a3⟩ := argN_lt hw (i := at_ + 1) (k := i + 1) (by omega) (by omega)
            obtain ⟨a4, a5, a6⟩ := argN_lt hw (i := at_ + 1) (k := i) (by omega) (by omega)
            have e7 : argN p (at_ + 1) (i + 1) = argN p (at_ + 1) i * 256 + bN p (at_ + 1 + i) := rfl
            obtain ⟨c1, c2, c3⟩ := bN_wf hw (i := at_ + 1 + i) (by omega)
            have z1 : IntKind.u64.min = 0 := by decide
            have z2 : IntKind.u64.max = 18446744073709551615 := by decide
            have w4 : IntKind.u64.wrap (bN p (at_ + 1 + i)) = bN p (at_ + 1 + i) := wrap_id (by omega) (by omega)
            have w5 : IntKind.u64.wrap (argN p (at_ + 1) i * 256) = argN p (at_ + 1) i * 256 := wrap_id (by omega) (by omega)
            have w6 : IntKind.u64.wrap (argN p (at_ + 1) i * 256 + bN p (at_ + 1 + i)) = argN p (at_ + 1) i * 256 + bN p (at_ + 1 + i) := wrap_id (by omega) (by omega)
            have w7 : IntKind.i64.wrap ((at_ : Int) + 1 + (i : Int)) = (at_ : Int) + 1 + (i : Int) := IntWalk.i64_in _ (by omega)
            refine dc_seq (dc_block (dc_region (ok0 gl) [] (by kernel_rfl) ?_))
            simp only [go_sem, ↓gx_tt, ↓gx_tf, ↓gx_ft, ↓gx_ff, ↓gx_u2, ↓gk_tt, ↓gk_tf, ↓gk_ff, ↓gk_ft, reduceCtorEq, Nat.reduceEqDiff, ↓reduceIte, Nat.reduceAdd, Nat.reduceSub, Nat.reduceLT, Nat.reduceMul, Nat.reduceBEq, Int.reduceLE, Int.reduceLT, Int.reduceAdd, Int.reduceSub, Int.reduceToNat, Int.reduceNeg, Int.reduceMul, Nat.reduceLeDiff, w2, w7, e4, c1, w4, w5, w6]
            refine ⟨by omega, by omega, ?_⟩
            refine dc_region (ok0 gl) [] (by kernel_rfl) ?_
            simp only [go_sem, ↓gx_tt, ↓gx_tf, ↓gx_ft, ↓gx_ff, ↓gx_u2, ↓gk_tt, ↓gk_tf, ↓gk_ff, ↓gk_ft, reduceCtorEq, Nat.reduceEqDiff, ↓reduceIte, Nat.reduceAdd, Nat.reduceSub, Nat.reduceLT, Nat.reduceMul, Nat.reduceBEq, Int.reduceLE, Int.reduceLT, Int.reduceAdd, Int.reduceSub, Int.reduceToNat, Int.reduceNeg, Int.reduceMul, Nat.reduceLeDiff]
            refine ⟨hlt2, ?_⟩
            rw [e7, IntWalk.i64_in _ (by omega)]
            refine weak_to rfl ?_ ?_ ?_ ?_ ?_ <;> simp only [go_sem, ↓gx_tt, ↓gx_tf, ↓gx_ft, ↓gx_ff, ↓gx_u2, ↓gk_tt, ↓gk_tf, ↓gk_ff, ↓gk_ft, reduceCtorEq, Nat.reduceEqDiff, ↓reduceIte, Nat.reduceAdd, Nat.reduceSub, Nat.reduceLT, Nat.reduceMul, Nat.reduceBEq, Int.reduceLE, Int.reduceLT, Int.reduceAdd, Int.reduceSub, Int.reduceToNat, Int.reduceNeg, Int.reduceMul, Nat.reduceLeDiff]
            rfl
          · have hlt2' : ¬ (i : Int) < (m : Int) := by omega
            obtain rfl : i = m := by omega
            refine dc_seq (dc_seq (dc_region (ok0 gl) [] (by kernel_rfl) (vc_n [(), ()] ?_)))
            simp only [go_sem, ↓gx_tt, ↓gx_tf, ↓gx_ft, ↓gx_ff, ↓gx_u2, ↓gk_tt, ↓gk_tf, ↓gk_ff, ↓gk_ft, reduceCtorEq, Nat.reduceEqDiff, ↓reduceIte, Nat.reduceAdd, Nat.reduceSub, Nat.reduceLT, Nat.reduceMul, Nat.reduceBEq, Int.reduceLE, Int.reduceLT, Int.reduceAdd, Int.reduceSub, Int.reduceToNat, Int.reduceNeg, Int.reduceMul, Nat.reduceLeDiff]
            refine vcR_op [(), (), (), (), (), (), (), (), ()] rfl ?_
            refine vcO_call _ (ref11_More _ (.int (bN p at_))) rfl (by simp only [go_sem]) rfl ?_ ?_ ?_ ?_ ?_ <;> simp only [go_sem, ↓gx_tt, ↓gx_tf, ↓gx_ft, ↓gx_ff, ↓gx_u2, ↓gk_tt, ↓gk_tf, ↓gk_ff, ↓gk_ft, reduceCtorEq, Nat.reduceEqDiff, ↓reduceIte, Nat.reduceAdd, Nat.reduceSub, Nat.reduceLT, Nat.reduceMul, Nat.reduceBEq, Int.reduceLE, Int.reduceLT, Int.reduceAdd, Int.reduceSub, Int.reduceToNat, Int.reduceNeg, Int.reduceMul, Nat.reduceLeDiff, hmm, hlt2', C.toInt]
            refine dc_cond _ rfl (fun h => by simp at h) (fun _ => dc_exit ?_)
            refine dc_seq (dc_region (ok0 gl) [] (by kernel_rfl) ?_)
            simp only [go_sem, ↓gx_tt, ↓gx_tf, ↓gx_ft, ↓gx_ff, ↓gx_u2, ↓gk_tt, ↓gk_tf, ↓gk_ff, ↓gk_ft, reduceCtorEq, Nat.reduceEqDiff, ↓reduceIte, Nat.reduceAdd, Nat.reduceSub, Nat.reduceLT, Nat.reduceMul, Nat.reduceBEq, Int.reduceLE, Int.reduceLT, Int.reduceAdd, Int.reduceSub, Int.reduceToNat, Int.reduceNeg, Int.reduceMul, Nat.reduceLeDiff]
            refine dc_ret ⟨.inr rfl, ?_⟩
            simp only [retOk, go_sem, ↓gx_tt, ↓gx_tf, ↓gx_ft, ↓gx_ff, ↓gx_u2, ↓gk_tt, ↓gk_tf, ↓gk_ff, ↓gk_ft, reduceCtorEq, Nat.reduceEqDiff, ↓reduceIte, Nat.reduceAdd, Nat.reduceSub, Nat.reduceLT, Nat.reduceMul, Nat.reduceBEq, Int.reduceLE, Int.reduceLT, Int.reduceAdd, Int.reduceSub, Int.reduceToNat, Int.reduceNeg, Int.reduceMul, Nat.reduceLeDiff, Tryd.f26, orderV, e, hmm, reduceIte] <;> try rfl
end Go.Proofs.YtgkdfggnlpojoaaDoor

namespace Go.Proofs.YtgkdfggnlpojoaaDoor
open Go Go.E
set_option maxRecDepth 10000
set_option maxHeartbeats 4000000
set_option linter.unusedSimpArgs false
variable {gl : Nat → Option (Ty × C)}
/-- Where orders begin, from a place on; or what is wrong first. -/
def scanN (p : List C) : Nat → Nat → List Nat → Int × List Nat
  | 0, _, bs => (0, bs)
  | f + 1, i, bs => if i < p.length then (if errN p i = 0 then scanN p f (i + 1 + moreN (bN p i)) (bs ++ [i]) else (errN p i, bs)) else (0, bs)
def leapN (p : List C) (i : Nat) : Bool := decide (bN p i = 11) || decide (bN p i = 12)
def toN (p : List C) (i : Nat) : Int := argN p (i + 1) (moreN (bN p i))
def leapsN (p : List C) (bs : List Nat) : List C := (bs.filter (leapN p)).map fun i => .int (toN p i)
/-- What the map of beginnings says. -/
def begC (bs : List Nat) (c : C) : C := .bool (bs.any fun j => decide (c = C.int (j : Int)))
/-- Is a program whole? -/
def checkN (p : List C) : Int :=
  if 256 < p.length then 1 else if (scanN p p.length 0 []).1 ≠ 0 then (scanN p p.length 0 []).1 else
    if (leapsN p (scanN p p.length 0 []).2).all (fun c => (begC (scanN p p.length 0 []).2 c).toBool) then 0 else 10
theorem scanN_step {p : List C} {i : Nat} {bs : List Nat} {r : Int × List Nat} (hi : i < p.length) (h : scanN p (p.length - i) i bs = r) :
    (errN p i ≠ 0 → r = (errN p i, bs)) ∧ (errN p i = 0 → i + 1 + moreN (bN p i) ≤ p.length ∧ scanN p (p.length - (i + 1 + moreN (bN p i))) (i + 1 + moreN (bN p i)) (bs ++ [i]) = r) := by
  have mono : ∀ (f g j : Nat) (bs : List Nat), p.length - j ≤ f → p.length - j ≤ g → scanN p f j bs = scanN p g j bs := by
    intro f
    induction f with
    | zero =>
      intro g j bs h1 h2
      cases g with
      | zero => rfl
      | succ g => simp only [scanN]; rw [if_neg (by omega)]
    | succ f ih =>
      intro g j bs h1 h2
      cases g with
      | zero => simp only [scanN]; rw [if_neg (by omega)]
      | succ g =>
        simp only [scanN]
        split
        · split
          · exact ih _ _ _ (by omega) (by omega)
          · rfl
        · rfl
  obtain ⟨f, hf⟩ : ∃ f, p.length - i = f + 1 := ⟨p.length - i - 1, by omega⟩
  rw [hf] at h
  simp only [scanN] at h
  rw [if_pos hi] at h
  refine ⟨fun he => ?_, fun he => ⟨?_, ?_⟩⟩
  · rw [if_neg he] at h; exact h.symm
  · unfold errN at he
    rw [if_neg (by omega)] at he
    split at he
    · simp at he
    · split at he
      · simp at he
      · omega
  · rw [if_pos he] at h
    rw [← h]
    exact mono _ _ _ _ (by omega) (by omega)
theorem scanN_end {p : List C} {i : Nat} {bs : List Nat} (hi : p.length ≤ i) : scanN p (p.length - i) i bs = (0, bs) := by
  rw [show p.length - i = 0 by omega]; rfl
theorem leapsN_snoc (p : List C) (bs : List Nat) (i : Nat) : leapsN p (bs ++ [i]) = if leapN p i = true then leapsN p bs ++ [.int (toN p i)] else leapsN p bs := by
  unfold leapsN
  rw [List.filter_append]
  by_cases h : leapN p i = true
  · rw [if_pos h]; simp [h]
  · rw [if_neg h]; simp [h]
theorem leapsN_len (p : List C) (bs : List Nat) : (leapsN p bs).length ≤ bs.length := by
  unfold leapsN
  rw [List.length_map]
  exact List.length_filter_le _ _
theorem begC_put (bs : List Nat) (i : Nat) : updC (begC bs) (.int (i : Int)) (.bool true) = begC (bs ++ [i]) := by
  funext c
  unfold updC begC
  simp only [C.eqb_iff]
  by_cases h : c = .int (i : Int)
  · rw [if_pos h]; simp [h]
  · rw [if_neg h]; simp [h]
theorem code_Check (hg : GF gl) (A : Key → Option O) (p : List C) : DCalls (X0 gl) 12 [.d (.slice 1 (.int .u8)) (.slice p)] A (.d (.int .i64) (.int (checkN p))) [] := by
  refine dcalls_intro (n := 56) (ok0 gl) Tryd.func12 rfl rfl (by simp) ?_
  intro A' hA
  refine dc_seq (dc_region (ok0 gl) [] (by kernel_rfl) ?_)
  simp only [go_sem, ↓gx_tt, ↓gx_tf, ↓gx_ft, ↓gx_ff, ↓gx_u2, ↓gk_tt, ↓gk_tf, ↓gk_ff, ↓gk_ft, reduceCtorEq, Nat.reduceEqDiff, ↓reduceIte, Nat.reduceAdd, Nat.reduceSub, Nat.reduceLT, Nat.reduceMul, Nat.reduceBEq, Int.reduceLE, Int.reduceLT, Int.reduceAdd, Int.reduceSub, Int.reduceToNat, Int.reduceNeg, Int.reduceMul, Nat.reduceLeDiff]
  by_cases h0 : 256 < p.length
  · have h0' : (256 : Int) < (p.length : Int) := by omega
    refine dc_seq (dc_seq (dc_region (ok0 gl) [] (by kernel_rfl) ?_))
    simp only [go_sem, ↓gx_tt, ↓gx_tf, ↓gx_ft, ↓gx_ff, ↓gx_u2, ↓gk_tt, ↓gk_tf, ↓gk_ff, ↓gk_ft, reduceCtorEq, Nat.reduceEqDiff, ↓reduceIte, Nat.reduceAdd, Nat.reduceSub, Nat.reduceLT, Nat.reduceMul, Nat.reduceBEq, Int.reduceLE, Int.reduceLT, Int.reduceAdd, Int.reduceSub, Int.reduceToNat, Int.reduceNeg, Int.reduceMul, Nat.reduceLeDiff, h0']
    refine dc_cond _ rfl (fun _ => ?_) (fun h => by simp at h)
    refine dc_seq (dc_region (ok0 gl) [] (by kernel_rfl) ?_)
    simp only [go_sem, ↓gx_tt, ↓gx_tf, ↓gx_ft, ↓gx_ff, ↓gx_u2, ↓gk_tt, ↓gk_tf, ↓gk_ff, ↓gk_ft, reduceCtorEq, Nat.reduceEqDiff, ↓reduceIte, Nat.reduceAdd, Nat.reduceSub, Nat.reduceLT, Nat.reduceMul, Nat.reduceBEq, Int.reduceLE, Int.reduceLT, Int.reduceAdd, Int.reduceSub, Int.reduceToNat, Int.reduceNeg, Int.reduceMul, Nat.reduceLeDiff]
    refine dc_ret ⟨.inr rfl, ?_⟩
    simp only [retOk, go_sem, ↓gx_tt, ↓gx_tf, ↓gx_ft, ↓gx_ff, ↓gx_u2, ↓gk_tt, ↓gk_tf, ↓gk_ff, ↓gk_ft, reduceCtorEq, Nat.reduceEqDiff, ↓reduceIte, Nat.reduceAdd, Nat.reduceSub, Nat.reduceLT, Nat.reduceMul, Nat.reduceBEq, Int.reduceLE, Int.reduceLT, Int.reduceAdd, Int.reduceSub, Int.reduceToNat, Int.reduceNeg, Int.reduceMul, Nat.reduceLeDiff, Tryd.f12, checkN, h0, reduceIte] <;> try rfl
  · have h0' : ¬ (256 : Int) < (p.length : Int) := by omega
    refine dc_seq (dc_seq (dc_region (ok0 gl) [] (by kernel_rfl) ?_))
    simp only [go_sem, ↓gx_tt, ↓gx_tf, ↓gx_ft, ↓gx_ff, ↓gx_u2, ↓gk_tt, ↓gk_tf, ↓gk_ff, ↓gk_ft, reduceCtorEq, Nat.reduceEqDiff, ↓reduceIte, Nat.reduceAdd, Nat.reduceSub, Nat.reduceLT, Nat.reduceMul, Nat.reduceBEq, Int.reduceLE, Int.reduceLT, Int.reduceAdd, Int.reduceSub, Int.reduceToNat, Int.reduceNeg, Int.reduceMul, Nat.reduceLeDiff, h0']
    refine dc_cond _ rfl (fun h => by simp at h) (fun _ => dc_skip ?_)
    refine dc_seq (dc_region (ok0 gl) [] (by kernel_rfl) ?_)
    simp only [go_sem, ↓gx_tt, ↓gx_tf, ↓gx_ft, ↓gx_ff, ↓gx_u2, ↓gk_tt, ↓gk_tf, ↓gk_ff, ↓gk_ft, reduceCtorEq, Nat.reduceEqDiff, ↓reduceIte, Nat.reduceAdd, Nat.reduceSub, Nat.reduceLT, Nat.reduceMul, Nat.reduceBEq, Int.reduceLE, Int.reduceLT, Int.reduceAdd, Int.reduceSub, Int.reduceToNat, Int.reduceNeg, Int.reduceMul, Nat.reduceLeDiff]
    refine dc_seq (dc_region (ok0 gl) [] (by kernel_rfl) ?_)
    simp only [go_sem, ↓gx_tt, ↓gx_tf, ↓gx_ft, ↓gx_ff, ↓gx_u2, ↓gk_tt, ↓gk_tf, ↓gk_ff, ↓gk_ft, reduceCtorEq, Nat.reduceEqDiff, ↓reduceIte, Nat.reduceAdd, Nat.reduceSub, Nat.reduceLT, Nat.reduceMul, Nat.reduceBEq, Int.reduceLE, Int.reduceLT, Int.reduceAdd, Int.reduceSub, Int.reduceToNat, Int.reduceNeg, Int.reduceMul, Nat.reduceLeDiff]
    refine dc_seq (dc_seq (dc_region (ok0 gl) [] (by kernel_rfl) ?_))
    simp only [go_sem, ↓gx_tt, ↓gx_tf, ↓gx_ft, ↓gx_ff, ↓gx_u2, ↓gk_tt, ↓gk_tf, ↓gk_ff, ↓gk_ft, reduceCtorEq, Nat.reduceEqDiff, ↓reduceIte, Nat.reduceAdd, Nat.reduceSub, Nat.reduceLT, Nat.reduceMul, Nat.reduceBEq, Int.reduceLE, Int.reduceLT, Int.reduceAdd, Int.reduceSub, Int.reduceToNat, Int.reduceNeg, Int.reduceMul, Nat.reduceLeDiff]
    refine DC.weak (weak_tok (t := 4) (u := 43) (eb := 8) (e := .int .u64) rfl (.inl rfl)) ?_
    refine dc_block (dc_while (ι := Nat × List Nat × List (C × V)) (fun i => ⟨[(5, .d (.int .i64) (.int i.1)), (4, .sl 8 (.int .u64) (leapsN p i.2.1) 43), (3, .mp (.l 15)), (2, .d (.int .i64) (.int 0)), (0, .d (.slice 1 (.int .u8)) (.slice p))], [(.l 15, .map (.int .u64) .bool i.2.2)], A', [(43, some (leapsN p i.2.1).length)]⟩) (fun i => p.length - i.1)
      (fun i => i.1 ≤ p.length ∧ i.2.1.length ≤ i.1 ∧ MapF (X0 gl).P 4 .bool i.2.2 (begC i.2.1) ∧ scanN p (p.length - i.1) i.1 i.2.1 = scanN p p.length 0 []) (0, [], []) ?_ ⟨Nat.zero_le _, Nat.le_refl _, MapF.nil (by simp only [go_sem]), rfl⟩ ?_)
    · refine weak_to rfl ?_ ?_ ?_ ?_ ?_ <;> simp only [go_sem, ↓gx_tt, ↓gx_tf, ↓gx_ft, ↓gx_ff, ↓gx_u2, ↓gk_tt, ↓gk_tf, ↓gk_ff, ↓gk_ft, reduceCtorEq, Nat.reduceEqDiff, ↓reduceIte, Nat.reduceAdd, Nat.reduceSub, Nat.reduceLT, Nat.reduceMul, Nat.reduceBEq, Int.reduceLE, Int.reduceLT, Int.reduceAdd, Int.reduceSub, Int.reduceToNat, Int.reduceNeg, Int.reduceMul, Nat.reduceLeDiff]
      all_goals first | rfl | exact ⟨rfl, rfl⟩
    · rintro ⟨i, bs, es⟩ ⟨hi, hb, hM, hS⟩
      simp only at hi hb hM hS
      have hM' : ∀ c, lookV (X0 gl).P 4 es c = .d .bool (begC bs c) := hM.look
      by_cases hlt : i < p.length
      · have hlt' : (i : Int) < (p.length : Int) := by omega
        obtain ⟨s1, s2⟩ := scanN_step hlt hS
        refine dc_seq (dc_seq (dc_region (ok0 gl) [] (by kernel_rfl) ?_))
        simp only [go_sem, ↓gx_tt, ↓gx_tf, ↓gx_ft, ↓gx_ff, ↓gx_u2, ↓gk_tt, ↓gk_tf, ↓gk_ff, ↓gk_ft, reduceCtorEq, Nat.reduceEqDiff, ↓reduceIte, Nat.reduceAdd, Nat.reduceSub, Nat.reduceLT, Nat.reduceMul, Nat.reduceBEq, Int.reduceLE, Int.reduceLT, Int.reduceAdd, Int.reduceSub, Int.reduceToNat, Int.reduceNeg, Int.reduceMul, Nat.reduceLeDiff, hlt']
        refine dc_cond _ rfl (fun _ => dc_skip ?_) (fun h => by simp at h)
        refine dc_block (dc_seq (dc_region (ok0 gl) [] (by kernel_rfl) (vc_n [(), ()] ?_)))
        simp only [go_sem, ↓gx_tt, ↓gx_tf, ↓gx_ft, ↓gx_ff, ↓gx_u2, ↓gk_tt, ↓gk_tf, ↓gk_ff, ↓gk_ft, reduceCtorEq, Nat.reduceEqDiff, ↓reduceIte, Nat.reduceAdd, Nat.reduceSub, Nat.reduceLT, Nat.reduceMul, Nat.reduceBEq, Int.reduceLE, Int.reduceLT, Int.reduceAdd, Int.reduceSub, Int.reduceToNat, Int.reduceNeg, Int.reduceMul, Nat.reduceLeDiff]
        refine vcR_op [(), (), (), (), (), (), (), (), ()] rfl ?_
        refine vcO_call _ (code_fetch hg _ p i (by omega) (by omega)) rfl (by simp only [go_sem]) rfl ?_ ?_ ?_ ?_ ?_ <;> simp only [go_sem, ↓gx_tt, ↓gx_tf, ↓gx_ft, ↓gx_ff, ↓gx_u2, ↓gk_tt, ↓gk_tf, ↓gk_ff, ↓gk_ft, reduceCtorEq, Nat.reduceEqDiff, ↓reduceIte, Nat.reduceAdd, Nat.reduceSub, Nat.reduceLT, Nat.reduceMul, Nat.reduceBEq, Int.reduceLE, Int.reduceLT, Int.reduceAdd, Int.reduceSub, Int.reduceToNat, Int.reduceNeg, Int.reduceMul, Nat.reduceLeDiff, fetchV]
        by_cases he : errN p i = 0
        · obtain ⟨q1, q2⟩ := s2 he
          refine dc_seq (dc_seq (dc_region (ok0 gl) [] (by kernel_rfl) ?_))
          simp only [go_sem, ↓gx_tt, ↓gx_tf, ↓gx_ft, ↓gx_ff, ↓gx_u2, ↓gk_tt, ↓gk_tf, ↓gk_ff, ↓gk_ft, reduceCtorEq, Nat.reduceEqDiff, ↓reduceIte, Nat.reduceAdd, Nat.reduceSub, Nat.reduceLT, Nat.reduceMul, Nat.reduceBEq, Int.reduceLE, Int.reduceLT, Int.reduceAdd, Int.reduceSub, Int.reduceToNat, Int.reduceNeg, Int.reduceMul, Nat.reduceLeDiff, he]
          refine dc_cond _ rfl (fun h => by simp at h) (fun _ => dc_skip ?_)
          have z1 : IntKind.u64.min = 0 := by decide
          have z2 : IntKind.u64.max = 18446744073709551615 := by decide
          have w1 : IntKind.u64.wrap (i : Int) = i := wrap_id (by omega) (by omega)
          have hput : MapF (X0 gl).P 4 .bool (putM es (.int (i : Int)) (.d .bool (.bool true))) (begC (bs ++ [i])) := by
            rw [← begC_put]; exact hM.put _ _
          have hln := leapsN_len p bs
          have hbl : (bs ++ [i]).length ≤ i + 1 + moreN (bN p i) := by simp; omega
          refine dc_seq (dc_region (ok0 gl) [] (by kernel_rfl) ?_)
          simp only [go_sem, ↓gx_tt, ↓gx_tf, ↓gx_ft, ↓gx_ff, ↓gx_u2, ↓gk_tt, ↓gk_tf, ↓gk_ff, ↓gk_ft, reduceCtorEq, Nat.reduceEqDiff, ↓reduceIte, Nat.reduceAdd, Nat.reduceSub, Nat.reduceLT, Nat.reduceMul, Nat.reduceBEq, Int.reduceLE, Int.reduceLT, Int.reduceAdd, Int.reduceSub, Int.reduceToNat, Int.reduceNeg, Int.reduceMul, Nat.reduceLeDiff, w1]
          by_cases l1 : bN p i = 11
          · have hsn : leapsN p (bs ++ [i]) = leapsN p bs ++ [.int (argN p (i + 1) (moreN 11))] := by rw [leapsN_snoc, if_pos (by simp [leapN, l1])]; unfold toN; rw [l1]
            rw [l1] at q1 q2 hbl
            refine dc_seq (dc_seq (dc_region (ok0 gl) [] (by kernel_rfl) ?_))
            simp only [go_sem, ↓gx_tt, ↓gx_tf, ↓gx_ft, ↓gx_ff, ↓gx_u2, ↓gk_tt, ↓gk_tf, ↓gk_ff, ↓gk_ft, reduceCtorEq, Nat.reduceEqDiff, ↓reduceIte, Nat.reduceAdd, Nat.reduceSub, Nat.reduceLT, Nat.reduceMul, Nat.reduceBEq, Int.reduceLE, Int.reduceLT, Int.reduceAdd, Int.reduceSub, Int.reduceToNat, Int.reduceNeg, Int.reduceMul, Nat.reduceLeDiff, l1]
            refine dc_cond _ rfl (fun _ => ?_) (fun h => by simp at h)
            refine dc_region (ok0 gl) [] (by kernel_rfl) ?_
            simp only [go_sem, ↓gx_tt, ↓gx_tf, ↓gx_ft, ↓gx_ff, ↓gx_u2, ↓gk_tt, ↓gk_tf, ↓gk_ff, ↓gk_ft, reduceCtorEq, Nat.reduceEqDiff, ↓reduceIte, Nat.reduceAdd, Nat.reduceSub, Nat.reduceLT, Nat.reduceMul, Nat.reduceBEq, Int.reduceLE, Int.reduceLT, Int.reduceAdd, Int.reduceSub, Int.reduceToNat, Int.reduceNeg, Int.reduceMul, Nat.reduceLeDiff]
            refine ⟨rfl, fun x hx => ?_, by omega, by unfold maxLen; omega, ?_⟩
            · simp only [List.mem_singleton] at hx
              subst hx
              exact ⟨rfl, rfl⟩
            refine dc_region (ok0 gl) [] (by kernel_rfl) ?_
            simp only [go_sem, ↓gx_tt, ↓gx_tf, ↓gx_ft, ↓gx_ff, ↓gx_u2, ↓gk_tt, ↓gk_tf, ↓gk_ff, ↓gk_ft, reduceCtorEq, Nat.reduceEqDiff, ↓reduceIte, Nat.reduceAdd, Nat.reduceSub, Nat.reduceLT, Nat.reduceMul, Nat.reduceBEq, Int.reduceLE, Int.reduceLT, Int.reduceAdd, Int.reduceSub, Int.reduceToNat, Int.reduceNeg, Int.reduceMul, Nat.reduceLeDiff]
            refine ⟨(i + 1 + moreN 11, bs ++ [i], putM es (.int (i : Int)) (.d .bool (.bool true))), ⟨q1, hbl, hput, q2⟩, by simp only; omega, ?_⟩
            simp only [hsn]
            refine weak_to rfl ?_ ?_ ?_ ?_ ?_ <;> simp only [go_sem, ↓gx_tt, ↓gx_tf, ↓gx_ft, ↓gx_ff, ↓gx_u2, ↓gk_tt, ↓gk_tf, ↓gk_ff, ↓gk_ft, reduceCtorEq, Nat.reduceEqDiff, ↓reduceIte, Nat.reduceAdd, Nat.reduceSub, Nat.reduceLT, Nat.reduceMul, Nat.reduceBEq, Int.reduceLE, Int.reduceLT, Int.reduceAdd, Int.reduceSub, Int.reduceToNat, Int.reduceNeg, Int.reduceMul, Nat.reduceLeDiff, List.length_append]
            all_goals first | exact hput.all _ _ | rfl
          · by_cases l2 : bN p i = 12
            · have hsn : leapsN p (bs ++ [i]) = leapsN p bs ++ [.int (argN p (i + 1) (moreN 12))] := by rw [leapsN_snoc, if_pos (by simp [leapN, l2])]; unfold toN; rw [l2]
              have l1' : ¬ (12 : Int) = 11 := by decide
              rw [l2] at q1 q2 hbl
              refine dc_seq (dc_seq (dc_region (ok0 gl) [] (by kernel_rfl) ?_))
              simp only [go_sem, ↓gx_tt, ↓gx_tf, ↓gx_ft, ↓gx_ff, ↓gx_u2, ↓gk_tt, ↓gk_tf, ↓gk_ff, ↓gk_ft, reduceCtorEq, Nat.reduceEqDiff, ↓reduceIte, Nat.reduceAdd, Nat.reduceSub, Nat.reduceLT, Nat.reduceMul, Nat.reduceBEq, Int.reduceLE, Int.reduceLT, Int.reduceAdd, Int.reduceSub, Int.reduceToNat, Int.reduceNeg, Int.reduceMul, Nat.reduceLeDiff, l2, l1']
              refine dc_cond _ rfl (fun _ => ?_) (fun h => by simp at h)
              refine dc_region (ok0 gl) [] (by kernel_rfl) ?_
              simp only [go_sem, ↓gx_tt, ↓gx_tf, ↓gx_ft, ↓gx_ff, ↓gx_u2, ↓gk_tt, ↓gk_tf, ↓gk_ff, ↓gk_ft, reduceCtorEq, Nat.reduceEqDiff, ↓reduceIte, Nat.reduceAdd, Nat.reduceSub, Nat.reduceLT, Nat.reduceMul, Nat.reduceBEq, Int.reduceLE, Int.reduceLT, Int.reduceAdd, Int.reduceSub, Int.reduceToNat, Int.reduceNeg, Int.reduceMul, Nat.reduceLeDiff]
              refine ⟨rfl, fun x hx => ?_, by omega, by unfold maxLen; omega, ?_⟩
              · simp only [List.mem_singleton] at hx
                subst hx
                exact ⟨rfl, rfl⟩
              refine dc_region (ok0 gl) [] (by kernel_rfl) ?_
              simp only [go_sem, ↓gx_tt, ↓gx_tf, ↓gx_ft, ↓gx_ff, ↓gx_u2, ↓gk_tt, ↓gk_tf, ↓gk_ff, ↓gk_ft, reduceCtorEq, Nat.reduceEqDiff, ↓reduceIte, Nat.reduceAdd, Nat.reduceSub, Nat.reduceLT, Nat.reduceMul, Nat.reduceBEq, Int.reduceLE, Int.reduceLT, Int.reduceAdd, Int.reduceSub, Int.reduceToNat, Int.reduceNeg, Int.reduceMul, Nat.reduceLeDiff]
              refine ⟨(i + 1 + moreN 12, bs ++ [i], putM es (.int (i : Int)) (.d .bool (.bool true))), ⟨q1, hbl, hput, q2⟩, by simp only; omega, ?_⟩
              simp only [hsn]
              refine weak_to rfl ?_ ?_ ?_ ?_ ?_ <;> simp only [go_sem, ↓gx_tt, ↓gx_tf, ↓gx_ft, ↓gx_ff, ↓gx_u2, ↓gk_tt, ↓gk_tf, ↓gk_ff, ↓gk_ft, reduceCtorEq, Nat.reduceEqDiff, ↓reduceIte, Nat.reduceAdd, Nat.reduceSub, Nat.reduceLT, Nat.reduceMul, Nat.reduceBEq, Int.reduceLE, Int.reduceLT, Int.reduceAdd, Int.reduceSub, Int.reduceToNat, Int.reduceNeg, Int.reduceMul, Nat.reduceLeDiff, List.length_append]
              all_goals first | exact hput.all _ _ | rfl
            · have hsn : leapsN p (bs ++ [i]) = leapsN p bs := by rw [leapsN_snoc, if_neg (by simp [leapN, l1, l2])]
              refine dc_seq (dc_seq (dc_region (ok0 gl) [] (by kernel_rfl) ?_))
              simp only [go_sem, ↓gx_tt, ↓gx_tf, ↓gx_ft, ↓gx_ff, ↓gx_u2, ↓gk_tt, ↓gk_tf, ↓gk_ff, ↓gk_ft, reduceCtorEq, Nat.reduceEqDiff, ↓reduceIte, Nat.reduceAdd, Nat.reduceSub, Nat.reduceLT, Nat.reduceMul, Nat.reduceBEq, Int.reduceLE, Int.reduceLT, Int.reduceAdd, Int.reduceSub, Int.reduceToNat, Int.reduceNeg, Int.reduceMul, Nat.reduceLeDiff, l1, l2]
              refine dc_cond _ rfl (fun h => by simp at h) (fun _ => dc_skip ?_)
              refine dc_region (ok0 gl) [] (by kernel_rfl) ?_
              simp only [go_sem, ↓gx_tt, ↓gx_tf, ↓gx_ft, ↓gx_ff, ↓gx_u2, ↓gk_tt, ↓gk_tf, ↓gk_ff, ↓gk_ft, reduceCtorEq, Nat.reduceEqDiff, ↓reduceIte, Nat.reduceAdd, Nat.reduceSub, Nat.reduceLT, Nat.reduceMul, Nat.reduceBEq, Int.reduceLE, Int.reduceLT, Int.reduceAdd, Int.reduceSub, Int.reduceToNat, Int.reduceNeg, Int.reduceMul, Nat.reduceLeDiff]
              refine ⟨(i + 1 + moreN (bN p i), bs ++ [i], putM es (.int (i : Int)) (.d .bool (.bool true))), ⟨q1, hbl, hput, q2⟩, by simp only; omega, ?_⟩
              simp only [hsn]
              refine weak_to rfl ?_ ?_ ?_ ?_ ?_ <;> simp only [go_sem, ↓gx_tt, ↓gx_tf, ↓gx_ft, ↓gx_ff, ↓gx_u2, ↓gk_tt, ↓gk_tf, ↓gk_ff, ↓gk_ft, reduceCtorEq, Nat.reduceEqDiff, ↓reduceIte, Nat.reduceAdd, Nat.reduceSub, Nat.reduceLT, Nat.reduceMul, Nat.reduceBEq, Int.reduceLE, Int.reduceLT, Int.reduceAdd, Int.reduceSub, Int.reduceToNat, Int.reduceNeg, Int.reduceMul, Nat.reduceLeDiff]
              all_goals first | exact hput.all _ _ | rfl
        · have hr := s1 he
          refine dc_seq (dc_seq (dc_region (ok0 gl) [] (by kernel_rfl) ?_))
          simp only [go_sem, ↓gx_tt, ↓gx_tf, ↓gx_ft, ↓gx_ff, ↓gx_u2, ↓gk_tt, ↓gk_tf, ↓gk_ff, ↓gk_ft, reduceCtorEq, Nat.reduceEqDiff, ↓reduceIte, Nat.reduceAdd, Nat.reduceSub, Nat.reduceLT, Nat.reduceMul, Nat.reduceBEq, Int.reduceLE, Int.reduceLT, Int.reduceAdd, Int.reduceSub, Int.reduceToNat, Int.reduceNeg, Int.reduceMul, Nat.reduceLeDiff, he]
          refine dc_cond _ rfl (fun _ => ?_) (fun h => by simp at h)
          refine dc_seq (dc_region (ok0 gl) [] (by kernel_rfl) ?_)
          simp only [go_sem, ↓gx_tt, ↓gx_tf, ↓gx_ft, ↓gx_ff, ↓gx_u2, ↓gk_tt, ↓gk_tf, ↓gk_ff, ↓gk_ft, reduceCtorEq, Nat.reduceEqDiff, ↓reduceIte, Nat.reduceAdd, Nat.reduceSub, Nat.reduceLT, Nat.reduceMul, Nat.reduceBEq, Int.reduceLE, Int.reduceLT, Int.reduceAdd, Int.reduceSub, Int.reduceToNat, Int.reduceNeg, Int.reduceMul, Nat.reduceLeDiff]
          refine dc_ret ⟨.inr rfl, ?_⟩
          simp only [retOk, go_sem, ↓gx_tt, ↓gx_tf, ↓gx_ft, ↓gx_ff, ↓gx_u2, ↓gk_tt, ↓gk_tf, ↓gk_ff, ↓gk_ft, reduceCtorEq, Nat.reduceEqDiff, ↓reduceIte, Nat.reduceAdd, Nat.reduceSub, Nat.reduceLT, Nat.reduceMul, Nat.reduceBEq, Int.reduceLE, Int.reduceLT, Int.reduceAdd, Int.reduceSub, Int.reduceToNat, Int.reduceNeg, Int.reduceMul, Nat.reduceLeDiff, Tryd.f12, checkN, h0, hr, he, reduceIte] <;> try rfl
      · have hlt' : ¬ (i : Int) < (p.length : Int) := by omega
        obtain rfl : i = p.length := by omega
        rw [scanN_end (Nat.le_refl _)] at hS
        refine dc_seq (dc_seq (dc_region (ok0 gl) [] (by kernel_rfl) ?_))
        simp only [go_sem, ↓gx_tt, ↓gx_tf, ↓gx_ft, ↓gx_ff, ↓gx_u2, ↓gk_tt, ↓gk_tf, ↓gk_ff, ↓gk_ft, reduceCtorEq, Nat.reduceEqDiff, ↓reduceIte, Nat.reduceAdd, Nat.reduceSub, Nat.reduceLT, Nat.reduceMul, Nat.reduceBEq, Int.reduceLE, Int.reduceLT, Int.reduceAdd, Int.reduceSub, Int.reduceToNat, Int.reduceNeg, Int.reduceMul, Nat.reduceLeDiff, hlt']
        refine dc_cond _ rfl (fun h => by simp at h) (fun _ => dc_exit ?_)
        refine dc_seq (dc_seq (dc_region (ok0 gl) [] (by kernel_rfl) ?_))
        simp only [go_sem, ↓gx_tt, ↓gx_tf, ↓gx_ft, ↓gx_ff, ↓gx_u2, ↓gk_tt, ↓gk_tf, ↓gk_ff, ↓gk_ft, reduceCtorEq, Nat.reduceEqDiff, ↓reduceIte, Nat.reduceAdd, Nat.reduceSub, Nat.reduceLT, Nat.reduceMul, Nat.reduceBEq, Int.reduceLE, Int.reduceLT, Int.reduceAdd, Int.reduceSub, Int.reduceToNat, Int.reduceNeg, Int.reduceMul, Nat.reduceLeDiff]
        refine dc_block (dc_count (fun j => ⟨[(47, .d (.int .i64) (.int j)), (46, .d (.int .i64) (.int (leapsN p bs).length)), (45, .sl 8 (.int .u64) (leapsN p bs) 43), (3, .mp (.l 15)), (2, .d (.int .i64) (.int 0)), (0, .d (.slice 1 (.int .u8)) (.slice p))], [(.l 15, .map (.int .u64) .bool es)], A', [(43, some (leapsN p bs).length)]⟩) (leapsN p bs).length (fun j => ∀ c ∈ (leapsN p bs).take j, (begC bs c).toBool = true) ?_ (by simp) ?_)
        · refine weak_to rfl ?_ ?_ ?_ ?_ ?_ <;> simp only [go_sem, ↓gx_tt, ↓gx_tf, ↓gx_ft, ↓gx_ff, ↓gx_u2, ↓gk_tt, ↓gk_tf, ↓gk_ff, ↓gk_ft, reduceCtorEq, Nat.reduceEqDiff, ↓reduceIte, Nat.reduceAdd, Nat.reduceSub, Nat.reduceLT, Nat.reduceMul, Nat.reduceBEq, Int.reduceLE, Int.reduceLT, Int.reduceAdd, Int.reduceSub, Int.reduceToNat, Int.reduceNeg, Int.reduceMul, Nat.reduceLeDiff]
          all_goals first | exact hM.all _ _ | rfl
        · intro j hj hall
          refine dc_seq (dc_region (ok0 gl) [] (by kernel_rfl) ?_)
          simp only [go_sem, ↓gx_tt, ↓gx_tf, ↓gx_ft, ↓gx_ff, ↓gx_u2, ↓gk_tt, ↓gk_tf, ↓gk_ff, ↓gk_ft, reduceCtorEq, Nat.reduceEqDiff, ↓reduceIte, Nat.reduceAdd, Nat.reduceSub, Nat.reduceLT, Nat.reduceMul, Nat.reduceBEq, Int.reduceLE, Int.reduceLT, Int.reduceAdd, Int.reduceSub, Int.reduceToNat, Int.reduceNeg, Int.reduceMul, Nat.reduceLeDiff]
          refine dc_seq (dc_cond _ rfl (fun hlt => dc_skip ?_) (fun hge => dc_exit ?_))
          · have hlt : j < (leapsN p bs).length := by simpa using hlt
            have e1 : ((j : Int).toNat) = j := Int.toNat_natCast j
            have hln := leapsN_len p bs
            refine dc_seq (dc_block (dc_seq (dc_region (ok0 gl) [] (by kernel_rfl) ?_)))
            simp only [go_sem, ↓gx_tt, ↓gx_tf, ↓gx_ft, ↓gx_ff, ↓gx_u2, ↓gk_tt, ↓gk_tf, ↓gk_ff, ↓gk_ft, reduceCtorEq, Nat.reduceEqDiff, ↓reduceIte, Nat.reduceAdd, Nat.reduceSub, Nat.reduceLT, Nat.reduceMul, Nat.reduceBEq, Int.reduceLE, Int.reduceLT, Int.reduceAdd, Int.reduceSub, Int.reduceToNat, Int.reduceNeg, Int.reduceMul, Nat.reduceLeDiff, e1]
            refine ⟨by omega, by omega, ?_⟩
            have hmem : (leapsN p bs).getD j .nil ∈ leapsN p bs := by
              rw [List.getD_eq_getElem?_getD, List.getElem?_eq_getElem hlt]; exact List.getElem_mem hlt
            by_cases hin : (begC bs ((leapsN p bs).getD j .nil)).toBool = true
            · refine dc_seq (dc_region (ok0 gl) [] (by kernel_rfl) ?_)
              simp only [go_sem, ↓gx_tt, ↓gx_tf, ↓gx_ft, ↓gx_ff, ↓gx_u2, ↓gk_tt, ↓gk_tf, ↓gk_ff, ↓gk_ft, reduceCtorEq, Nat.reduceEqDiff, ↓reduceIte, Nat.reduceAdd, Nat.reduceSub, Nat.reduceLT, Nat.reduceMul, Nat.reduceBEq, Int.reduceLE, Int.reduceLT, Int.reduceAdd, Int.reduceSub, Int.reduceToNat, Int.reduceNeg, Int.reduceMul, Nat.reduceLeDiff, hM', hin]
              refine dc_cond _ rfl (fun h => by simp at h) (fun _ => dc_skip ?_)
              refine dc_region (ok0 gl) [] (by kernel_rfl) ?_
              simp only [go_sem, ↓gx_tt, ↓gx_tf, ↓gx_ft, ↓gx_ff, ↓gx_u2, ↓gk_tt, ↓gk_tf, ↓gk_ff, ↓gk_ft, reduceCtorEq, Nat.reduceEqDiff, ↓reduceIte, Nat.reduceAdd, Nat.reduceSub, Nat.reduceLT, Nat.reduceMul, Nat.reduceBEq, Int.reduceLE, Int.reduceLT, Int.reduceAdd, Int.reduceSub, Int.reduceToNat, Int.reduceNeg, Int.reduceMul, Nat.reduceLeDiff]
              refine ⟨hlt, ?_, ?_⟩
              · intro c hc
                rw [List.take_add_one, List.mem_append] at hc
                rcases hc with hc | hc
                · exact hall c hc
                · rw [List.getElem?_eq_getElem hlt] at hc
                  simp only [Option.toList_some, List.mem_singleton] at hc
                  subst hc
                  rw [List.getD_eq_getElem?_getD, List.getElem?_eq_getElem hlt] at hin
                  exact hin
              · rw [IntWalk.i64_in _ (by omega)]
                refine weak_to rfl ?_ ?_ ?_ ?_ ?_ <;> simp only [go_sem, ↓gx_tt, ↓gx_tf, ↓gx_ft, ↓gx_ff, ↓gx_u2, ↓gk_tt, ↓gk_tf, ↓gk_ff, ↓gk_ft, reduceCtorEq, Nat.reduceEqDiff, ↓reduceIte, Nat.reduceAdd, Nat.reduceSub, Nat.reduceLT, Nat.reduceMul, Nat.reduceBEq, Int.reduceLE, Int.reduceLT, Int.reduceAdd, Int.reduceSub, Int.reduceToNat, Int.reduceNeg, Int.reduceMul, Nat.reduceLeDiff]
                all_goals first | exact hM.all _ _ | rfl
            · have hin' : (begC bs ((leapsN p bs).getD j .nil)).toBool = false := by simpa using hin
              refine dc_seq (dc_region (ok0 gl) [] (by kernel_rfl) ?_)
              simp only [go_sem, ↓gx_tt, ↓gx_tf, ↓gx_ft, ↓gx_ff, ↓gx_u2, ↓gk_tt, ↓gk_tf, ↓gk_ff, ↓gk_ft, reduceCtorEq, Nat.reduceEqDiff, ↓reduceIte, Nat.reduceAdd, Nat.reduceSub, Nat.reduceLT, Nat.reduceMul, Nat.reduceBEq, Int.reduceLE, Int.reduceLT, Int.reduceAdd, Int.reduceSub, Int.reduceToNat, Int.reduceNeg, Int.reduceMul, Nat.reduceLeDiff, hM', hin']
              refine dc_cond _ rfl (fun _ => ?_) (fun h => by simp at h)
              have hr : checkN p = 10 := by
                unfold checkN
                rw [if_neg h0, ← hS, if_neg (by simp), if_neg]
                intro h
                exact hin (List.all_eq_true.1 h _ hmem)
              refine dc_seq (dc_region (ok0 gl) [] (by kernel_rfl) ?_)
              simp only [go_sem, ↓gx_tt, ↓gx_tf, ↓gx_ft, ↓gx_ff, ↓gx_u2, ↓gk_tt, ↓gk_tf, ↓gk_ff, ↓gk_ft, reduceCtorEq, Nat.reduceEqDiff, ↓reduceIte, Nat.reduceAdd, Nat.reduceSub, Nat.reduceLT, Nat.reduceMul, Nat.reduceBEq, Int.reduceLE, Int.reduceLT, Int.reduceAdd, Int.reduceSub, Int.reduceToNat, Int.reduceNeg, Int.reduceMul, Nat.reduceLeDiff]
              refine dc_ret ⟨.inr rfl, ?_⟩
              simp only [retOk, go_sem, ↓gx_tt, ↓gx_tf, ↓gx_ft, ↓gx_ff, ↓gx_u2, ↓gk_tt, ↓gk_tf, ↓gk_ff, ↓gk_ft, reduceCtorEq, Nat.reduceEqDiff, ↓reduceIte, Nat.reduceAdd, Nat.reduceSub, Nat.reduceLT, Nat.reduceMul, Nat.reduceBEq, Int.reduceLE, Int.reduceLT, Int.reduceAdd, Int.reduceSub, Int.reduceToNat, Int.reduceNeg, Int.reduceMul, Nat.reduceLeDiff, Tryd.f12, hr] <;> try rfl
          · have hge : (leapsN p bs).length ≤ j := by simpa using hge
            rw [List.take_of_length_le hge] at hall
            have hr : checkN p = 0 := by
              unfold checkN
              rw [if_neg h0, ← hS, if_neg (by simp), if_pos (by rw [List.all_eq_true]; exact hall)]
            refine dc_seq (dc_region (ok0 gl) [] (by kernel_rfl) ?_)
            simp only [go_sem, ↓gx_tt, ↓gx_tf, ↓gx_ft, ↓gx_ff, ↓gx_u2, ↓gk_tt, ↓gk_tf, ↓gk_ff, ↓gk_ft, reduceCtorEq, Nat.reduceEqDiff, ↓reduceIte, Nat.reduceAdd, Nat.reduceSub, Nat.reduceLT, Nat.reduceMul, Nat.reduceBEq, Int.reduceLE, Int.reduceLT, Int.reduceAdd, Int.reduceSub, Int.reduceToNat, Int.reduceNeg, Int.reduceMul, Nat.reduceLeDiff]
            refine dc_ret ⟨.inr rfl, ?_⟩
            simp only [retOk, go_sem, ↓gx_tt, ↓gx_tf, ↓gx_ft, ↓gx_ff, ↓gx_u2, ↓gk_tt, ↓gk_tf, ↓gk_ff, ↓gk_ft, reduceCtorEq, Nat.reduceEqDiff, ↓reduceIte, Nat.reduceAdd, Nat.reduceSub, Nat.reduceLT, Nat.reduceMul, Nat.reduceBEq, Int.reduceLE, Int.reduceLT, Int.reduceAdd, Int.reduceSub, Int.reduceToNat, Int.reduceNeg, Int.reduceMul, Nat.reduceLeDiff, Tryd.f12, hr] <;> try rfl
end Go.Proofs.YtgkdfggnlpojoaaDoor

namespace Go.Proofs.YtgkdfggnlpojoaaDoor
open Go Go.E
set_option maxRecDepth 10000
set_option maxHeartbeats 4000000
set_option linter.unusedSimpArgs false
variable {gl : Nat → Option (Ty × C)}
/-- Beginnings, as flags. -/
def flagsN (bs : List Nat) (n : Nat) : List C := (List.range n).map fun j => .bool (decide (j ∈ bs))
theorem flagsN_len (bs : List Nat) (n : Nat) : (flagsN bs n).length = n := by simp [flagsN]
theorem flagsN_get {bs : List Nat} {n i : Nat} (h : i < n) : (flagsN bs n).getD i .nil = .bool (decide (i ∈ bs)) := by
  simp [flagsN, List.getD_eq_getElem?_getD, h]
theorem flagsN_set (bs : List Nat) (n i : Nat) : (flagsN bs n).set i (.bool true) = flagsN (bs ++ [i]) n := by
  apply List.ext_getElem?
  intro j
  simp only [flagsN, List.getElem?_set, List.length_map, List.length_range, List.getElem?_map]
  by_cases hj : j < n
  · rw [List.getElem?_range hj]
    by_cases e : i = j
    · subst e; simp [hj]
    · have e' : ¬ j = i := fun h => e h.symm
      simp [e, e']
  · have h1 : (List.range n)[j]? = none := by simp; omega
    rw [h1]
    split
    · rename_i e; subst e; rw [if_neg hj]; rfl
    · rfl
theorem flagsN_nil (n : Nat) : flagsN [] n = List.replicate n (.bool false) := by
  simp [flagsN, List.map_const']
theorem begC_int (bs : List Nat) (x : Int) : (begC bs (.int x)).toBool = true ↔ ∃ j ∈ bs, x = (j : Int) := by
  simp [begC, C.toBool]
theorem ref11_Check (A : Key → Option O) (p : List C) : DCalls (X0 gl) 15 [.d (.slice 1 (.int .u8)) (.slice p)] A (.d (.int .i64) (.int (checkN p))) [] := by
  refine dcalls_intro (n := 84) (ok0 gl) Tryd.func15 rfl rfl (by simp) ?_
  intro A' hA
  refine dc_facts fun W => ?_
  have hw : C.wf (.slice 1 (.int .u8)) (.slice p) := W.at (t := 0) rfl
  clear W
  refine dc_seq (dc_region (ok0 gl) [] (by kernel_rfl) ?_)
  simp only [go_sem, ↓gx_tt, ↓gx_tf, ↓gx_ft, ↓gx_ff, ↓gx_u2, ↓gk_tt, ↓gk_tf, ↓gk_ff, ↓gk_ft, reduceCtorEq, Nat.reduceEqDiff, ↓reduceIte, Nat.reduceAdd, Nat.reduceSub, Nat.reduceLT, Nat.reduceMul, Nat.reduceBEq, Int.reduceLE, Int.reduceLT, Int.reduceAdd, Int.reduceSub, Int.reduceToNat, Int.reduceNeg, Int.reduceMul, Nat.reduceLeDiff]
  by_cases h0 : 256 < p.length
  · have h0' : (256 : Int) < (p.length : Int) := by omega
    refine dc_seq (dc_seq (dc_region (ok0 gl) [] (by kernel_rfl) ?_))
    simp only [go_sem, ↓gx_tt, ↓gx_tf, ↓gx_ft, ↓gx_ff, ↓gx_u2, ↓gk_tt, ↓gk_tf, ↓gk_ff, ↓gk_ft, reduceCtorEq, Nat.reduceEqDiff, ↓reduceIte, Nat.reduceAdd, Nat.reduceSub, Nat.reduceLT, Nat.reduceMul, Nat.reduceBEq, Int.reduceLE, Int.reduceLT, Int.reduceAdd, Int.reduceSub, Int.reduceToNat, Int.reduceNeg, Int.reduceMul, Nat.reduceLeDiff, h0']
    refine dc_cond _ rfl (fun _ => ?_) (fun h => by simp at h)
    refine dc_seq (dc_region (ok0 gl) [] (by kernel_rfl) ?_)
    simp only [go_sem, ↓gx_tt, ↓gx_tf, ↓gx_ft, ↓gx_ff, ↓gx_u2, ↓gk_tt, ↓gk_tf, ↓gk_ff, ↓gk_ft, reduceCtorEq, Nat.reduceEqDiff, ↓reduceIte, Nat.reduceAdd, Nat.reduceSub, Nat.reduceLT, Nat.reduceMul, Nat.reduceBEq, Int.reduceLE, Int.reduceLT, Int.reduceAdd, Int.reduceSub, Int.reduceToNat, Int.reduceNeg, Int.reduceMul, Nat.reduceLeDiff]
    refine dc_ret ⟨.inr rfl, ?_⟩
    simp only [retOk, go_sem, ↓gx_tt, ↓gx_tf, ↓gx_ft, ↓gx_ff, ↓gx_u2, ↓gk_tt, ↓gk_tf, ↓gk_ff, ↓gk_ft, reduceCtorEq, Nat.reduceEqDiff, ↓reduceIte, Nat.reduceAdd, Nat.reduceSub, Nat.reduceLT, Nat.reduceMul, Nat.reduceBEq, Int.reduceLE, Int.reduceLT, Int.reduceAdd, Int.reduceSub, Int.reduceToNat, Int.reduceNeg, Int.reduceMul, Nat.reduceLeDiff, Tryd.f15, checkN, h0, reduceIte] <;> try rfl
  · have h0' : ¬ (256 : Int) < (p.length : Int) := by omega
    refine dc_seq (dc_seq (dc_region (ok0 gl) [] (by kernel_rfl) ?_))
    simp only [go_sem, ↓gx_tt, ↓gx_tf, ↓gx_ft, ↓gx_ff, ↓gx_u2, ↓gk_tt, ↓gk_tf, ↓gk_ff, ↓gk_ft, reduceCtorEq, Nat.reduceEqDiff, ↓reduceIte, Nat.reduceAdd, Nat.reduceSub, Nat.reduceLT, Nat.reduceMul, Nat.reduceBEq, Int.reduceLE, Int.reduceLT, Int.reduceAdd, Int.reduceSub, Int.reduceToNat, Int.reduceNeg, Int.reduceMul, Nat.reduceLeDiff, h0']
    refine dc_cond _ rfl (fun h => by simp at h) (fun _ => dc_skip ?_)
    have e0 : ((p.length : Int)).toNat = p.length := Int.toNat_natCast _
    refine dc_seq (dc_region (ok0 gl) [] (by kernel_rfl) ?_)
    simp only [go_sem, ↓gx_tt, ↓gx_tf, ↓gx_ft, ↓gx_ff, ↓gx_u2, ↓gk_tt, ↓gk_tf, ↓gk_ff, ↓gk_ft, reduceCtorEq, Nat.reduceEqDiff, ↓reduceIte, Nat.reduceAdd, Nat.reduceSub, Nat.reduceLT, Nat.reduceMul, Nat.reduceBEq, Int.reduceLE, Int.reduceLT, Int.reduceAdd, Int.reduceSub, Int.reduceToNat, Int.reduceNeg, Int.reduceMul, Nat.reduceLeDiff, e0]
    refine ⟨by omega, by omega, by omega, by omega, ?_⟩
    refine dc_seq (dc_region (ok0 gl) [] (by kernel_rfl) ?_)
    simp only [go_sem, ↓gx_tt, ↓gx_tf, ↓gx_ft, ↓gx_ff, ↓gx_u2, ↓gk_tt, ↓gk_tf, ↓gk_ff, ↓gk_ft, reduceCtorEq, Nat.reduceEqDiff, ↓reduceIte, Nat.reduceAdd, Nat.reduceSub, Nat.reduceLT, Nat.reduceMul, Nat.reduceBEq, Int.reduceLE, Int.reduceLT, Int.reduceAdd, Int.reduceSub, Int.reduceToNat, Int.reduceNeg, Int.reduceMul, Nat.reduceLeDiff]
    refine dc_seq (dc_block (dc_while (ι := Nat × List Nat) (fun i => ⟨[(4, .d (.int .i64) (.int i.1)), (3, .sr (.l 17) [] 0 p.length (some p.length) 1 .bool), (2, .d (.int .i64) (.int 0)), (0, .d (.slice 1 (.int .u8)) (.slice p))], [(.l 17, .box (.d (.arr p.length .bool) (.agg (flagsN i.2 p.length))))], A', []⟩) (fun i => p.length - i.1)
      (fun i => i.1 ≤ p.length ∧ (∀ j ∈ i.2, j < p.length ∧ errN p j = 0) ∧ scanN p (p.length - i.1) i.1 i.2 = scanN p p.length 0 []) (0, []) ?_ ⟨Nat.zero_le _, by simp, rfl⟩ ?_))
    · refine weak_to rfl ?_ ?_ ?_ ?_ ?_ <;> simp only [go_sem, ↓gx_tt, ↓gx_tf, ↓gx_ft, ↓gx_ff, ↓gx_u2, ↓gk_tt, ↓gk_tf, ↓gk_ff, ↓gk_ft, reduceCtorEq, Nat.reduceEqDiff, ↓reduceIte, Nat.reduceAdd, Nat.reduceSub, Nat.reduceLT, Nat.reduceMul, Nat.reduceBEq, Int.reduceLE, Int.reduceLT, Int.reduceAdd, Int.reduceSub, Int.reduceToNat, Int.reduceNeg, Int.reduceMul, Nat.reduceLeDiff, flagsN_nil]
      all_goals rfl
    · rintro ⟨i, bs⟩ ⟨hi, hb, hS⟩
      simp only at hi hb hS
      by_cases hlt : i < p.length
      · have hlt' : (i : Int) < (p.length : Int) := by omega
        have e1 : ((i : Int).toNat) = i := Int.toNat_natCast i
        obtain ⟨s1, s2⟩ := scanN_step hlt hS
        refine dc_seq (dc_seq (dc_region (ok0 gl) [] (by kernel_rfl) ?_))
        simp only [go_sem, ↓gx_tt, ↓gx_tf, ↓gx_ft, ↓gx_ff, ↓gx_u2, ↓gk_tt, ↓gk_tf, ↓gk_ff, ↓gk_ft, reduceCtorEq, Nat.reduceEqDiff, ↓reduceIte, Nat.reduceAdd, Nat.reduceSub, Nat.reduceLT, Nat.reduceMul, Nat.reduceBEq, Int.reduceLE, Int.reduceLT, Int.reduceAdd, Int.reduceSub, Int.reduceToNat, Int.reduceNeg, Int.reduceMul, Nat.reduceLeDiff, hlt']
        refine dc_cond _ rfl (fun _ => dc_skip ?_) (fun h => by simp at h)
        refine dc_block (dc_seq (dc_region (ok0 gl) [] (by kernel_rfl) (vc_n [(), ()] ?_)))
        simp only [go_sem, ↓gx_tt, ↓gx_tf, ↓gx_ft, ↓gx_ff, ↓gx_u2, ↓gk_tt, ↓gk_tf, ↓gk_ff, ↓gk_ft, reduceCtorEq, Nat.reduceEqDiff, ↓reduceIte, Nat.reduceAdd, Nat.reduceSub, Nat.reduceLT, Nat.reduceMul, Nat.reduceBEq, Int.reduceLE, Int.reduceLT, Int.reduceAdd, Int.reduceSub, Int.reduceToNat, Int.reduceNeg, Int.reduceMul, Nat.reduceLeDiff]
        refine vcR_op [(), (), (), (), (), (), (), (), ()] rfl ?_
        refine vcO_call _ (ref11_Order _ p i (by omega) (by omega)) rfl (by simp only [go_sem]) rfl ?_ ?_ ?_ ?_ ?_ <;> simp only [go_sem, ↓gx_tt, ↓gx_tf, ↓gx_ft, ↓gx_ff, ↓gx_u2, ↓gk_tt, ↓gk_tf, ↓gk_ff, ↓gk_ft, reduceCtorEq, Nat.reduceEqDiff, ↓reduceIte, Nat.reduceAdd, Nat.reduceSub, Nat.reduceLT, Nat.reduceMul, Nat.reduceBEq, Int.reduceLE, Int.reduceLT, Int.reduceAdd, Int.reduceSub, Int.reduceToNat, Int.reduceNeg, Int.reduceMul, Nat.reduceLeDiff, orderV]
        by_cases he : errN p i = 0
        · obtain ⟨q1, q2⟩ := s2 he
          refine dc_seq (dc_seq (dc_region (ok0 gl) [] (by kernel_rfl) ?_))
          simp only [go_sem, ↓gx_tt, ↓gx_tf, ↓gx_ft, ↓gx_ff, ↓gx_u2, ↓gk_tt, ↓gk_tf, ↓gk_ff, ↓gk_ft, reduceCtorEq, Nat.reduceEqDiff, ↓reduceIte, Nat.reduceAdd, Nat.reduceSub, Nat.reduceLT, Nat.reduceMul, Nat.reduceBEq, Int.reduceLE, Int.reduceLT, Int.reduceAdd, Int.reduceSub, Int.reduceToNat, Int.reduceNeg, Int.reduceMul, Nat.reduceLeDiff, he]
          refine dc_cond _ rfl (fun h => by simp at h) (fun _ => dc_skip ?_)
          refine dc_seq (dc_region (ok0 gl) [] (by kernel_rfl) ?_)
          simp only [go_sem, ↓gx_tt, ↓gx_tf, ↓gx_ft, ↓gx_ff, ↓gx_u2, ↓gk_tt, ↓gk_tf, ↓gk_ff, ↓gk_ft, reduceCtorEq, Nat.reduceEqDiff, ↓reduceIte, Nat.reduceAdd, Nat.reduceSub, Nat.reduceLT, Nat.reduceMul, Nat.reduceBEq, Int.reduceLE, Int.reduceLT, Int.reduceAdd, Int.reduceSub, Int.reduceToNat, Int.reduceNeg, Int.reduceMul, Nat.reduceLeDiff, e1, flagsN_set, Nat.zero_add]
          refine ⟨by omega, by omega, rfl, ?_⟩
          have m8 := moreN_le (bN p i)
          have w2 : IntKind.i64.wrap ((i : Int) + 1) = (i : Int) + 1 := IntWalk.i64_in _ (by omega)
          have w3 : IntKind.i64.wrap ((i : Int) + 1 + (moreN (bN p i) : Int)) = ((i + 1 + moreN (bN p i) : Nat) : Int) := by rw [IntWalk.i64_in _ (by omega)]; omega
          refine dc_region (ok0 gl) [] (by kernel_rfl) (vc_n [(), (), ()] ?_)
          simp only [go_sem, ↓gx_tt, ↓gx_tf, ↓gx_ft, ↓gx_ff, ↓gx_u2, ↓gk_tt, ↓gk_tf, ↓gk_ff, ↓gk_ft, reduceCtorEq, Nat.reduceEqDiff, ↓reduceIte, Nat.reduceAdd, Nat.reduceSub, Nat.reduceLT, Nat.reduceMul, Nat.reduceBEq, Int.reduceLE, Int.reduceLT, Int.reduceAdd, Int.reduceSub, Int.reduceToNat, Int.reduceNeg, Int.reduceMul, Nat.reduceLeDiff]
          refine vcR_op [(), (), (), (), (), (), (), (), ()] rfl ?_
          refine vcO_call _ (ref11_More _ (.int (bN p i))) rfl (by simp only [go_sem]) rfl ?_ ?_ ?_ ?_ ?_ <;> simp only [go_sem, ↓gx_tt, ↓gx_tf, ↓gx_ft, ↓gx_ff, ↓gx_u2, ↓gk_tt, ↓gk_tf, ↓gk_ff, ↓gk_ft, reduceCtorEq, Nat.reduceEqDiff, ↓reduceIte, Nat.reduceAdd, Nat.reduceSub, Nat.reduceLT, Nat.reduceMul, Nat.reduceBEq, Int.reduceLE, Int.reduceLT, Int.reduceAdd, Int.reduceSub, Int.reduceToNat, Int.reduceNeg, Int.reduceMul, Nat.reduceLeDiff, C.toInt, w2, w3]
          refine ⟨(i + 1 + moreN (bN p i), bs ++ [i]), ⟨q1, ?_, q2⟩, by simp only; omega, ?_⟩
          · intro j hj
            rcases List.mem_append.1 hj with hj | hj
            · exact hb j hj
            · simp only [List.mem_singleton] at hj
              subst hj
              exact ⟨hlt, he⟩
          · refine weak_to rfl ?_ ?_ ?_ ?_ ?_ <;> simp only [go_sem, ↓gx_tt, ↓gx_tf, ↓gx_ft, ↓gx_ff, ↓gx_u2, ↓gk_tt, ↓gk_tf, ↓gk_ff, ↓gk_ft, reduceCtorEq, Nat.reduceEqDiff, ↓reduceIte, Nat.reduceAdd, Nat.reduceSub, Nat.reduceLT, Nat.reduceMul, Nat.reduceBEq, Int.reduceLE, Int.reduceLT, Int.reduceAdd, Int.reduceSub, Int.reduceToNat, Int.reduceNeg, Int.reduceMul, Nat.reduceLeDiff]
            all_goals rfl
        · have hr := s1 he
          refine dc_seq (dc_seq (dc_region (ok0 gl) [] (by kernel_rfl) ?_))
          simp only [go_sem, ↓gx_tt, ↓gx_tf, ↓gx_ft, ↓gx_ff, ↓gx_u2, ↓gk_tt, ↓gk_tf, ↓gk_ff, ↓gk_ft, reduceCtorEq, Nat.reduceEqDiff, ↓reduceIte, Nat.reduceAdd, Nat.reduceSub, Nat.reduceLT, Nat.reduceMul, Nat.reduceBEq, Int.reduceLE, Int.reduceLT, Int.reduceAdd, Int.reduceSub, Int.reduceToNat, Int.reduceNeg, Int.reduceMul, Nat.reduceLeDiff, he]
          refine dc_cond _ rfl (fun _ => ?_) (fun h => by simp at h)
          refine dc_seq (dc_region (ok0 gl) [] (by kernel_rfl) ?_)
          simp only [go_sem, ↓gx_tt, ↓gx_tf, ↓gx_ft, ↓gx_ff, ↓gx_u2, ↓gk_tt, ↓gk_tf, ↓gk_ff, ↓gk_ft, reduceCtorEq, Nat.reduceEqDiff, ↓reduceIte, Nat.reduceAdd, Nat.reduceSub, Nat.reduceLT, Nat.reduceMul, Nat.reduceBEq, Int.reduceLE, Int.reduceLT, Int.reduceAdd, Int.reduceSub, Int.reduceToNat, Int.reduceNeg, Int.reduceMul, Nat.reduceLeDiff]
          refine dc_ret ⟨.inr rfl, ?_⟩
          simp only [retOk, go_sem, ↓gx_tt, ↓gx_tf, ↓gx_ft, ↓gx_ff, ↓gx_u2, ↓gk_tt, ↓gk_tf, ↓gk_ff, ↓gk_ft, reduceCtorEq, Nat.reduceEqDiff, ↓reduceIte, Nat.reduceAdd, Nat.reduceSub, Nat.reduceLT, Nat.reduceMul, Nat.reduceBEq, Int.reduceLE, Int.reduceLT, Int.reduceAdd, Int.reduceSub, Int.reduceToNat, Int.reduceNeg, Int.reduceMul, Nat.reduceLeDiff, Tryd.f15, checkN, h0, hr, he, reduceIte] <;> try rfl
      · have hlt' : ¬ (i : Int) < (p.length : Int) := by omega
        obtain rfl : i = p.length := by omega
        rw [scanN_end (Nat.le_refl _)] at hS
        refine dc_seq (dc_seq (dc_region (ok0 gl) [] (by kernel_rfl) ?_))
        simp only [go_sem, ↓gx_tt, ↓gx_tf, ↓gx_ft, ↓gx_ff, ↓gx_u2, ↓gk_tt, ↓gk_tf, ↓gk_ff, ↓gk_ft, reduceCtorEq, Nat.reduceEqDiff, ↓reduceIte, Nat.reduceAdd, Nat.reduceSub, Nat.reduceLT, Nat.reduceMul, Nat.reduceBEq, Int.reduceLE, Int.reduceLT, Int.reduceAdd, Int.reduceSub, Int.reduceToNat, Int.reduceNeg, Int.reduceMul, Nat.reduceLeDiff, hlt']
        refine dc_cond _ rfl (fun h => by simp at h) (fun _ => dc_exit ?_)
        have hbl : ∀ j, j ∈ bs → begC bs (.int (j : Int)) = .bool true := by
          intro j hj
          have := (begC_int bs (j : Int)).2 ⟨j, hj, rfl⟩
          unfold begC at this ⊢
          simp only [C.toBool] at this
          rw [this]
        have hS' : scanN p p.length 0 [] = (0, bs) := hS.symm
        have hbad : ∀ j ∈ bs, leapN p j = true → (begC bs (.int (toN p j))).toBool = false → checkN p = 10 := by
          intro j hj hl hbeg
          unfold checkN
          rw [if_neg h0, hS', if_neg (by simp), if_neg]
          intro h
          have := List.all_eq_true.1 h (.int (toN p j)) (List.mem_map.2 ⟨j, List.mem_filter.2 ⟨hj, hl⟩, rfl⟩)
          rw [hbeg] at this
          cases this
        refine dc_seq (dc_seq (dc_region (ok0 gl) [] (by kernel_rfl) ?_))
        simp only [go_sem, ↓gx_tt, ↓gx_tf, ↓gx_ft, ↓gx_ff, ↓gx_u2, ↓gk_tt, ↓gk_tf, ↓gk_ff, ↓gk_ft, reduceCtorEq, Nat.reduceEqDiff, ↓reduceIte, Nat.reduceAdd, Nat.reduceSub, Nat.reduceLT, Nat.reduceMul, Nat.reduceBEq, Int.reduceLE, Int.reduceLT, Int.reduceAdd, Int.reduceSub, Int.reduceToNat, Int.reduceNeg, Int.reduceMul, Nat.reduceLeDiff]
        refine dc_block (dc_count (fun j => ⟨[(8, .d (.int .i64) (.int j)), (3, .sr (.l 17) [] 0 p.length (some p.length) 1 .bool), (2, .d (.int .i64) (.int 0)), (0, .d (.slice 1 (.int .u8)) (.slice p))], [(.l 17, .box (.d (.arr p.length .bool) (.agg (flagsN bs p.length))))], A', []⟩) p.length (fun j => ∀ x ∈ bs, x < j → leapN p x = true → (begC bs (.int (toN p x))).toBool = true) ?_ (by intro x _ h; omega) ?_)
        · refine weak_to rfl ?_ ?_ ?_ ?_ ?_ <;> simp only [go_sem, ↓gx_tt, ↓gx_tf, ↓gx_ft, ↓gx_ff, ↓gx_u2, ↓gk_tt, ↓gk_tf, ↓gk_ff, ↓gk_ft, reduceCtorEq, Nat.reduceEqDiff, ↓reduceIte, Nat.reduceAdd, Nat.reduceSub, Nat.reduceLT, Nat.reduceMul, Nat.reduceBEq, Int.reduceLE, Int.reduceLT, Int.reduceAdd, Int.reduceSub, Int.reduceToNat, Int.reduceNeg, Int.reduceMul, Nat.reduceLeDiff]
          all_goals rfl
        · intro j hj hall
          by_cases hlt : j < p.length
          · have hlt' : (j : Int) < (p.length : Int) := by omega
            have e1 : ((j : Int).toNat) = j := Int.toNat_natCast j
            have hf := flagsN_get (bs := bs) hlt
            obtain ⟨b1, b2, b3⟩ := bN_wf hw hlt
            refine dc_seq (dc_seq (dc_region (ok0 gl) [] (by kernel_rfl) ?_))
            simp only [go_sem, ↓gx_tt, ↓gx_tf, ↓gx_ft, ↓gx_ff, ↓gx_u2, ↓gk_tt, ↓gk_tf, ↓gk_ff, ↓gk_ft, reduceCtorEq, Nat.reduceEqDiff, ↓reduceIte, Nat.reduceAdd, Nat.reduceSub, Nat.reduceLT, Nat.reduceMul, Nat.reduceBEq, Int.reduceLE, Int.reduceLT, Int.reduceAdd, Int.reduceSub, Int.reduceToNat, Int.reduceNeg, Int.reduceMul, Nat.reduceLeDiff, hlt']
            refine dc_cond _ rfl (fun _ => dc_skip ?_) (fun h => by simp at h)
            by_cases hin : j ∈ bs
            · obtain ⟨_, he⟩ := hb j hin
              have hf' : (flagsN bs p.length).getD j .nil = .bool true := by rw [hf]; simp [hin]
              have wl : IntKind.u64.wrap (p.length : Int) = (p.length : Int) := wrap_id (by have : IntKind.u64.min = 0 := by decide
                                                                                            omega) (by have : IntKind.u64.max = 18446744073709551615 := by decide
                                                                                                       omega)
              have hfit : j + 1 + moreN (bN p j) ≤ p.length := by
                unfold errN at he
                rw [if_neg (by omega)] at he
                split at he
                · simp at he
                · split at he
                  · simp at he
                  · omega
              obtain ⟨m, hm⟩ : ∃ m : Nat, argN p (j + 1) (moreN (bN p j)) = (m : Int) := Int.eq_ofNat_of_zero_le (argN_wf hw hfit).1
              have ht : toN p j = (m : Int) := hm
              have e2 : ((m : Int)).toNat = m := Int.toNat_natCast m
              by_cases l1 : bN p j = 11
              · have hl : leapN p j = true := by simp [leapN, l1]
                refine dc_seq (dc_block (dc_seq (dc_seq (dc_region (ok0 gl) [] (by kernel_rfl) ?_))))
                simp only [go_sem, ↓gx_tt, ↓gx_tf, ↓gx_ft, ↓gx_ff, ↓gx_u2, ↓gk_tt, ↓gk_tf, ↓gk_ff, ↓gk_ft, reduceCtorEq, Nat.reduceEqDiff, ↓reduceIte, Nat.reduceAdd, Nat.reduceSub, Nat.reduceLT, Nat.reduceMul, Nat.reduceBEq, Int.reduceLE, Int.reduceLT, Int.reduceAdd, Int.reduceSub, Int.reduceToNat, Int.reduceNeg, Int.reduceMul, Nat.reduceLeDiff, e1, hf', Nat.zero_add, b1, l1]
                refine ⟨by omega, by omega, by omega, by omega, ?_⟩
                refine dc_cond _ rfl (fun h => by simp at h) (fun _ => dc_skip ?_)
                refine dc_seq (dc_region (ok0 gl) [] (by kernel_rfl) (vc_n [(), ()] ?_))
                simp only [go_sem, ↓gx_tt, ↓gx_tf, ↓gx_ft, ↓gx_ff, ↓gx_u2, ↓gk_tt, ↓gk_tf, ↓gk_ff, ↓gk_ft, reduceCtorEq, Nat.reduceEqDiff, ↓reduceIte, Nat.reduceAdd, Nat.reduceSub, Nat.reduceLT, Nat.reduceMul, Nat.reduceBEq, Int.reduceLE, Int.reduceLT, Int.reduceAdd, Int.reduceSub, Int.reduceToNat, Int.reduceNeg, Int.reduceMul, Nat.reduceLeDiff]
                refine vcR_op [(), (), (), (), (), (), (), (), ()] rfl ?_
                refine vcO_call _ (ref11_Order _ p j (by omega) (by omega)) rfl (by simp only [go_sem]) rfl ?_ ?_ ?_ ?_ ?_ <;> simp only [go_sem, ↓gx_tt, ↓gx_tf, ↓gx_ft, ↓gx_ff, ↓gx_u2, ↓gk_tt, ↓gk_tf, ↓gk_ff, ↓gk_ft, reduceCtorEq, Nat.reduceEqDiff, ↓reduceIte, Nat.reduceAdd, Nat.reduceSub, Nat.reduceLT, Nat.reduceMul, Nat.reduceBEq, Int.reduceLE, Int.reduceLT, Int.reduceAdd, Int.reduceSub, Int.reduceToNat, Int.reduceNeg, Int.reduceMul, Nat.reduceLeDiff, orderV, he, hm]
                by_cases g1 : p.length ≤ m
                · have g1' : (p.length : Int) ≤ (m : Int) := by omega
                  have hr := hbad j hin hl (by
                    rw [Bool.eq_false_iff]
                    intro h
                    obtain ⟨x, hx, e⟩ := (begC_int _ _).1 h
                    have := (hb x hx).1
                    omega)
                  refine dc_seq (dc_region (ok0 gl) [] (by kernel_rfl) ?_)
                  simp only [go_sem, ↓gx_tt, ↓gx_tf, ↓gx_ft, ↓gx_ff, ↓gx_u2, ↓gk_tt, ↓gk_tf, ↓gk_ff, ↓gk_ft, reduceCtorEq, Nat.reduceEqDiff, ↓reduceIte, Nat.reduceAdd, Nat.reduceSub, Nat.reduceLT, Nat.reduceMul, Nat.reduceBEq, Int.reduceLE, Int.reduceLT, Int.reduceAdd, Int.reduceSub, Int.reduceToNat, Int.reduceNeg, Int.reduceMul, Nat.reduceLeDiff, wl, g1']
                  refine dc_cond _ rfl (fun _ => ?_) (fun h => by simp at h)
                  refine dc_seq (dc_region (ok0 gl) [] (by kernel_rfl) ?_)
                  simp only [go_sem, ↓gx_tt, ↓gx_tf, ↓gx_ft, ↓gx_ff, ↓gx_u2, ↓gk_tt, ↓gk_tf, ↓gk_ff, ↓gk_ft, reduceCtorEq, Nat.reduceEqDiff, ↓reduceIte, Nat.reduceAdd, Nat.reduceSub, Nat.reduceLT, Nat.reduceMul, Nat.reduceBEq, Int.reduceLE, Int.reduceLT, Int.reduceAdd, Int.reduceSub, Int.reduceToNat, Int.reduceNeg, Int.reduceMul, Nat.reduceLeDiff]
                  refine dc_ret ⟨.inr rfl, ?_⟩
                  simp only [retOk, go_sem, ↓gx_tt, ↓gx_tf, ↓gx_ft, ↓gx_ff, ↓gx_u2, ↓gk_tt, ↓gk_tf, ↓gk_ff, ↓gk_ft, reduceCtorEq, Nat.reduceEqDiff, ↓reduceIte, Nat.reduceAdd, Nat.reduceSub, Nat.reduceLT, Nat.reduceMul, Nat.reduceBEq, Int.reduceLE, Int.reduceLT, Int.reduceAdd, Int.reduceSub, Int.reduceToNat, Int.reduceNeg, Int.reduceMul, Nat.reduceLeDiff, Tryd.f15, hr] <;> try rfl
                · have g1' : ¬ (p.length : Int) ≤ (m : Int) := by omega
                  by_cases g2 : m ∈ bs
                  · have hf2 : (flagsN bs p.length).getD m .nil = .bool true := by rw [flagsN_get (by omega)]; simp [g2]
                    refine dc_seq (dc_region (ok0 gl) [] (by kernel_rfl) ?_)
                    simp only [go_sem, ↓gx_tt, ↓gx_tf, ↓gx_ft, ↓gx_ff, ↓gx_u2, ↓gk_tt, ↓gk_tf, ↓gk_ff, ↓gk_ft, reduceCtorEq, Nat.reduceEqDiff, ↓reduceIte, Nat.reduceAdd, Nat.reduceSub, Nat.reduceLT, Nat.reduceMul, Nat.reduceBEq, Int.reduceLE, Int.reduceLT, Int.reduceAdd, Int.reduceSub, Int.reduceToNat, Int.reduceNeg, Int.reduceMul, Nat.reduceLeDiff, wl, g1', e2, hf2, Nat.zero_add]
                    refine ⟨by omega, by omega, ?_⟩
                    refine dc_cond _ rfl (fun h => by simp at h) (fun _ => dc_skip ?_)
                    refine dc_region (ok0 gl) [] (by kernel_rfl) ?_
                    simp only [go_sem, ↓gx_tt, ↓gx_tf, ↓gx_ft, ↓gx_ff, ↓gx_u2, ↓gk_tt, ↓gk_tf, ↓gk_ff, ↓gk_ft, reduceCtorEq, Nat.reduceEqDiff, ↓reduceIte, Nat.reduceAdd, Nat.reduceSub, Nat.reduceLT, Nat.reduceMul, Nat.reduceBEq, Int.reduceLE, Int.reduceLT, Int.reduceAdd, Int.reduceSub, Int.reduceToNat, Int.reduceNeg, Int.reduceMul, Nat.reduceLeDiff]
                    refine ⟨hlt, ?_, ?_⟩
                    · intro x hx hxj hxl
                      by_cases e : x = j
                      · subst e; exact (begC_int _ _).2 ⟨m, g2, ht⟩
                      · exact hall x hx (by omega) hxl
                    · rw [IntWalk.i64_in _ (by omega)]
                      refine weak_to rfl ?_ ?_ ?_ ?_ ?_ <;> simp only [go_sem, ↓gx_tt, ↓gx_tf, ↓gx_ft, ↓gx_ff, ↓gx_u2, ↓gk_tt, ↓gk_tf, ↓gk_ff, ↓gk_ft, reduceCtorEq, Nat.reduceEqDiff, ↓reduceIte, Nat.reduceAdd, Nat.reduceSub, Nat.reduceLT, Nat.reduceMul, Nat.reduceBEq, Int.reduceLE, Int.reduceLT, Int.reduceAdd, Int.reduceSub, Int.reduceToNat, Int.reduceNeg, Int.reduceMul, Nat.reduceLeDiff]
                      all_goals rfl
                  · have hf2 : (flagsN bs p.length).getD m .nil = .bool false := by rw [flagsN_get (by omega)]; simp [g2]
                    have hr := hbad j hin hl (by
                      rw [Bool.eq_false_iff]
                      intro h
                      obtain ⟨x, hx, e⟩ := (begC_int _ _).1 h
                      have : x = m := by omega
                      subst this
                      exact g2 hx)
                    refine dc_seq (dc_region (ok0 gl) [] (by kernel_rfl) ?_)
                    simp only [go_sem, ↓gx_tt, ↓gx_tf, ↓gx_ft, ↓gx_ff, ↓gx_u2, ↓gk_tt, ↓gk_tf, ↓gk_ff, ↓gk_ft, reduceCtorEq, Nat.reduceEqDiff, ↓reduceIte, Nat.reduceAdd, Nat.reduceSub, Nat.reduceLT, Nat.reduceMul, Nat.reduceBEq, Int.reduceLE, Int.reduceLT, Int.reduceAdd, Int.reduceSub, Int.reduceToNat, Int.reduceNeg, Int.reduceMul, Nat.reduceLeDiff, wl, g1', e2, hf2, Nat.zero_add]
                    refine ⟨by omega, by omega, ?_⟩
                    refine dc_cond _ rfl (fun _ => ?_) (fun h => by simp at h)
                    refine dc_seq (dc_region (ok0 gl) [] (by kernel_rfl) ?_)
                    simp only [go_sem, ↓gx_tt, ↓gx_tf, ↓gx_ft, ↓gx_ff, ↓gx_u2, ↓gk_tt, ↓gk_tf, ↓gk_ff, ↓gk_ft, reduceCtorEq, Nat.reduceEqDiff, ↓reduceIte, Nat.reduceAdd, Nat.reduceSub, Nat.reduceLT, Nat.reduceMul, Nat.reduceBEq, Int.reduceLE, Int.reduceLT, Int.reduceAdd, Int.reduceSub, Int.reduceToNat, Int.reduceNeg, Int.reduceMul, Nat.reduceLeDiff]
                    refine dc_ret ⟨.inr rfl, ?_⟩
                    simp only [retOk, go_sem, ↓gx_tt, ↓gx_tf, ↓gx_ft, ↓gx_ff, ↓gx_u2, ↓gk_tt, ↓gk_tf, ↓gk_ff, ↓gk_ft, reduceCtorEq, Nat.reduceEqDiff, ↓reduceIte, Nat.reduceAdd, Nat.reduceSub, Nat.reduceLT, Nat.reduceMul, Nat.reduceBEq, Int.reduceLE, Int.reduceLT, Int.reduceAdd, Int.reduceSub, Int.reduceToNat, Int.reduceNeg, Int.reduceMul, Nat.reduceLeDiff, Tryd.f15, hr] <;> try rfl
              · by_cases l2 : bN p j = 12
                · have l3 : ¬ (12 : Int) = 11 := by decide
                  have hl : leapN p j = true := by simp [leapN, l2]
                  refine dc_seq (dc_block (dc_seq (dc_seq (dc_region (ok0 gl) [] (by kernel_rfl) ?_))))
                  simp only [go_sem, ↓gx_tt, ↓gx_tf, ↓gx_ft, ↓gx_ff, ↓gx_u2, ↓gk_tt, ↓gk_tf, ↓gk_ff, ↓gk_ft, reduceCtorEq, Nat.reduceEqDiff, ↓reduceIte, Nat.reduceAdd, Nat.reduceSub, Nat.reduceLT, Nat.reduceMul, Nat.reduceBEq, Int.reduceLE, Int.reduceLT, Int.reduceAdd, Int.reduceSub, Int.reduceToNat, Int.reduceNeg, Int.reduceMul, Nat.reduceLeDiff, e1, hf', Nat.zero_add, b1, l2, l3]
                  refine ⟨by omega, by omega, by omega, by omega, by omega, by omega, ?_⟩
                  refine dc_cond _ rfl (fun h => by simp at h) (fun _ => dc_skip ?_)
                  refine dc_seq (dc_region (ok0 gl) [] (by kernel_rfl) (vc_n [(), ()] ?_))
                  simp only [go_sem, ↓gx_tt, ↓gx_tf, ↓gx_ft, ↓gx_ff, ↓gx_u2, ↓gk_tt, ↓gk_tf, ↓gk_ff, ↓gk_ft, reduceCtorEq, Nat.reduceEqDiff, ↓reduceIte, Nat.reduceAdd, Nat.reduceSub, Nat.reduceLT, Nat.reduceMul, Nat.reduceBEq, Int.reduceLE, Int.reduceLT, Int.reduceAdd, Int.reduceSub, Int.reduceToNat, Int.reduceNeg, Int.reduceMul, Nat.reduceLeDiff]
                  refine vcR_op [(), (), (), (), (), (), (), (), ()] rfl ?_
                  refine vcO_call _ (ref11_Order _ p j (by omega) (by omega)) rfl (by simp only [go_sem]) rfl ?_ ?_ ?_ ?_ ?_ <;> simp only [go_sem, ↓gx_tt, ↓gx_tf, ↓gx_ft, ↓gx_ff, ↓gx_u2, ↓gk_tt, ↓gk_tf, ↓gk_ff, ↓gk_ft, reduceCtorEq, Nat.reduceEqDiff, ↓reduceIte, Nat.reduceAdd, Nat.reduceSub, Nat.reduceLT, Nat.reduceMul, Nat.reduceBEq, Int.reduceLE, Int.reduceLT, Int.reduceAdd, Int.reduceSub, Int.reduceToNat, Int.reduceNeg, Int.reduceMul, Nat.reduceLeDiff, orderV, he, hm]
                  by_cases g1 : p.length ≤ m
                  · have g1' : (p.length : Int) ≤ (m : Int) := by omega
                    have hr := hbad j hin hl (by
                      rw [Bool.eq_false_iff]
                      intro h
                      obtain ⟨x, hx, e⟩ := (begC_int _ _).1 h
                      have := (hb x hx).1
                      omega)
                    refine dc_seq (dc_region (ok0 gl) [] (by kernel_rfl) ?_)
                    simp only [go_sem, ↓gx_tt, ↓gx_tf, ↓gx_ft, ↓gx_ff, ↓gx_u2, ↓gk_tt, ↓gk_tf, ↓gk_ff, ↓gk_ft, reduceCtorEq, Nat.reduceEqDiff, ↓reduceIte, Nat.reduceAdd, Nat.reduceSub, Nat.reduceLT, Nat.reduceMul, Nat.reduceBEq, Int.reduceLE, Int.reduceLT, Int.reduceAdd, Int.reduceSub, Int.reduceToNat, Int.reduceNeg, Int.reduceMul, Nat.reduceLeDiff, wl, g1']
                    refine dc_cond _ rfl (fun _ => ?_) (fun h => by simp at h)
                    refine dc_seq (dc_region (ok0 gl) [] (by kernel_rfl) ?_)
                    simp only [go_sem, ↓gx_tt, ↓gx_tf, ↓gx_ft, ↓gx_ff, ↓gx_u2, ↓gk_tt, ↓gk_tf, ↓gk_ff, ↓gk_ft, reduceCtorEq, Nat.reduceEqDiff, ↓reduceIte, Nat.reduceAdd, Nat.reduceSub, Nat.reduceLT, Nat.reduceMul, Nat.reduceBEq, Int.reduceLE, Int.reduceLT, Int.reduceAdd, Int.reduceSub, Int.reduceToNat, Int.reduceNeg, Int.reduceMul, Nat.reduceLeDiff]
                    refine dc_ret ⟨.inr rfl, ?_⟩
                    simp only [retOk, go_sem, ↓gx_tt, ↓gx_tf, ↓gx_ft, ↓gx_ff, ↓gx_u2, ↓gk_tt, ↓gk_tf, ↓gk_ff, ↓gk_ft, reduceCtorEq, Nat.reduceEqDiff, ↓reduceIte, Nat.reduceAdd, Nat.reduceSub, Nat.reduceLT, Nat.reduceMul, Nat.reduceBEq, Int.reduceLE, Int.reduceLT, Int.reduceAdd, Int.reduceSub, Int.reduceToNat, Int.reduceNeg, Int.reduceMul, Nat.reduceLeDiff, Tryd.f15, hr] <;> try rfl
                  · have g1' : ¬ (p.length : Int) ≤ (m : Int) := by omega
                    by_cases g2 : m ∈ bs
                    · have hf2 : (flagsN bs p.length).getD m .nil = .bool true := by rw [flagsN_get (by omega)]; simp [g2]
                      refine dc_seq (dc_region (ok0 gl) [] (by kernel_rfl) ?_)
                      simp only [go_sem, ↓gx_tt, ↓gx_tf, ↓gx_ft, ↓gx_ff, ↓gx_u2, ↓gk_tt, ↓gk_tf, ↓gk_ff, ↓gk_ft, reduceCtorEq, Nat.reduceEqDiff, ↓reduceIte, Nat.reduceAdd, Nat.reduceSub, Nat.reduceLT, Nat.reduceMul, Nat.reduceBEq, Int.reduceLE, Int.reduceLT, Int.reduceAdd, Int.reduceSub, Int.reduceToNat, Int.reduceNeg, Int.reduceMul, Nat.reduceLeDiff, wl, g1', e2, hf2, Nat.zero_add]
                      refine ⟨by omega, by omega, ?_⟩
                      refine dc_cond _ rfl (fun h => by simp at h) (fun _ => dc_skip ?_)
                      refine dc_region (ok0 gl) [] (by kernel_rfl) ?_
                      simp only [go_sem, ↓gx_tt, ↓gx_tf, ↓gx_ft, ↓gx_ff, ↓gx_u2, ↓gk_tt, ↓gk_tf, ↓gk_ff, ↓gk_ft, reduceCtorEq, Nat.reduceEqDiff, ↓reduceIte, Nat.reduceAdd, Nat.reduceSub, Nat.reduceLT, Nat.reduceMul, Nat.reduceBEq, Int.reduceLE, Int.reduceLT, Int.reduceAdd, Int.reduceSub, Int.reduceToNat, Int.reduceNeg, Int.reduceMul, Nat.reduceLeDiff]
                      refine ⟨hlt, ?_, ?_⟩
                      · intro x hx hxj hxl
                        by_cases e : x = j
                        · subst e; exact (begC_int _ _).2 ⟨m, g2, ht⟩
                        · exact hall x hx (by omega) hxl
                      · rw [IntWalk.i64_in _ (by omega)]
                        refine weak_to rfl ?_ ?_ ?_ ?_ ?_ <;> simp only [go_sem, ↓gx_tt, ↓gx_tf, ↓gx_ft, ↓gx_ff, ↓gx_u2, ↓gk_tt, ↓gk_tf, ↓gk_ff, ↓gk_ft, reduceCtorEq, Nat.reduceEqDiff, ↓reduceIte, Nat.reduceAdd, Nat.reduceSub, Nat.reduceLT, Nat.reduceMul, Nat.reduceBEq, Int.reduceLE, Int.reduceLT, Int.reduceAdd, Int.reduceSub, Int.reduceToNat, Int.reduceNeg, Int.reduceMul, Nat.reduceLeDiff]
                        all_goals rfl
                    · have hf2 : (flagsN bs p.length).getD m .nil = .bool false := by rw [flagsN_get (by omega)]; simp [g2]
                      have hr := hbad j hin hl (by
                        rw [Bool.eq_false_iff]
                        intro h
                        obtain ⟨x, hx, e⟩ := (begC_int _ _).1 h
                        have : x = m := by omega
                        subst this
                        exact g2 hx)
                      refine dc_seq (dc_region (ok0 gl) [] (by kernel_rfl) ?_)
                      simp only [go_sem, ↓gx_tt, ↓gx_tf, ↓gx_ft, ↓gx_ff, ↓gx_u2, ↓gk_tt, ↓gk_tf, ↓gk_ff, ↓gk_ft, reduceCtorEq, Nat.reduceEqDiff, ↓reduceIte, Nat.reduceAdd, Nat.reduceSub, Nat.reduceLT, Nat.reduceMul, Nat.reduceBEq, Int.reduceLE, Int.reduceLT, Int.reduceAdd, Int.reduceSub, Int.reduceToNat, Int.reduceNeg, Int.reduceMul, Nat.reduceLeDiff, wl, g1', e2, hf2, Nat.zero_add]
                      refine ⟨by omega, by omega, ?_⟩
                      refine dc_cond _ rfl (fun _ => ?_) (fun h => by simp at h)
                      refine dc_seq (dc_region (ok0 gl) [] (by kernel_rfl) ?_)
                      simp only [go_sem, ↓gx_tt, ↓gx_tf, ↓gx_ft, ↓gx_ff, ↓gx_u2, ↓gk_tt, ↓gk_tf, ↓gk_ff, ↓gk_ft, reduceCtorEq, Nat.reduceEqDiff, ↓reduceIte, Nat.reduceAdd, Nat.reduceSub, Nat.reduceLT, Nat.reduceMul, Nat.reduceBEq, Int.reduceLE, Int.reduceLT, Int.reduceAdd, Int.reduceSub, Int.reduceToNat, Int.reduceNeg, Int.reduceMul, Nat.reduceLeDiff]
                      refine dc_ret ⟨.inr rfl, ?_⟩
                      simp only [retOk, go_sem, ↓gx_tt, ↓gx_tf, ↓gx_ft, ↓gx_ff, ↓gx_u2, ↓gk_tt, ↓gk_tf, ↓gk_ff, ↓gk_ft, reduceCtorEq, Nat.reduceEqDiff, ↓reduceIte, Nat.reduceAdd, Nat.reduceSub, Nat.reduceLT, Nat.reduceMul, Nat.reduceBEq, Int.reduceLE, Int.reduceLT, Int.reduceAdd, Int.reduceSub, Int.reduceToNat, Int.reduceNeg, Int.reduceMul, Nat.reduceLeDiff, Tryd.f15, hr] <;> try rfl
                · have hl : leapN p j = false := by simp [leapN, l1, l2]
                  refine dc_seq (dc_block (dc_seq (dc_seq (dc_region (ok0 gl) [] (by kernel_rfl) ?_))))
                  simp only [go_sem, ↓gx_tt, ↓gx_tf, ↓gx_ft, ↓gx_ff, ↓gx_u2, ↓gk_tt, ↓gk_tf, ↓gk_ff, ↓gk_ft, reduceCtorEq, Nat.reduceEqDiff, ↓reduceIte, Nat.reduceAdd, Nat.reduceSub, Nat.reduceLT, Nat.reduceMul, Nat.reduceBEq, Int.reduceLE, Int.reduceLT, Int.reduceAdd, Int.reduceSub, Int.reduceToNat, Int.reduceNeg, Int.reduceMul, Nat.reduceLeDiff, e1, hf', Nat.zero_add, b1, l1, l2]
                  refine ⟨by omega, by omega, by omega, by omega, by omega, by omega, ?_⟩
                  refine dc_cond _ rfl (fun _ => dc_exit ?_) (fun h => by simp at h)
                  refine dc_region (ok0 gl) [] (by kernel_rfl) ?_
                  simp only [go_sem, ↓gx_tt, ↓gx_tf, ↓gx_ft, ↓gx_ff, ↓gx_u2, ↓gk_tt, ↓gk_tf, ↓gk_ff, ↓gk_ft, reduceCtorEq, Nat.reduceEqDiff, ↓reduceIte, Nat.reduceAdd, Nat.reduceSub, Nat.reduceLT, Nat.reduceMul, Nat.reduceBEq, Int.reduceLE, Int.reduceLT, Int.reduceAdd, Int.reduceSub, Int.reduceToNat, Int.reduceNeg, Int.reduceMul, Nat.reduceLeDiff]
                  refine ⟨hlt, ?_, ?_⟩
                  · intro x hx hxj hxl
                    by_cases e : x = j
                    · subst e; rw [hl] at hxl; cases hxl
                    · exact hall x hx (by omega) hxl
                  · rw [IntWalk.i64_in _ (by omega)]
                    refine weak_to rfl ?_ ?_ ?_ ?_ ?_ <;> simp only [go_sem, ↓gx_tt, ↓gx_tf, ↓gx_ft, ↓gx_ff, ↓gx_u2, ↓gk_tt, ↓gk_tf, ↓gk_ff, ↓gk_ft, reduceCtorEq, Nat.reduceEqDiff, ↓reduceIte, Nat.reduceAdd, Nat.reduceSub, Nat.reduceLT, Nat.reduceMul, Nat.reduceBEq, Int.reduceLE, Int.reduceLT, Int.reduceAdd, Int.reduceSub, Int.reduceToNat, Int.reduceNeg, Int.reduceMul, Nat.reduceLeDiff]
                    all_goals rfl
            · have hf' : (flagsN bs p.length).getD j .nil = .bool false := by rw [hf]; simp [hin]
              refine dc_seq (dc_block (dc_seq (dc_seq (dc_region (ok0 gl) [] (by kernel_rfl) ?_))))
              simp only [go_sem, ↓gx_tt, ↓gx_tf, ↓gx_ft, ↓gx_ff, ↓gx_u2, ↓gk_tt, ↓gk_tf, ↓gk_ff, ↓gk_ft, reduceCtorEq, Nat.reduceEqDiff, ↓reduceIte, Nat.reduceAdd, Nat.reduceSub, Nat.reduceLT, Nat.reduceMul, Nat.reduceBEq, Int.reduceLE, Int.reduceLT, Int.reduceAdd, Int.reduceSub, Int.reduceToNat, Int.reduceNeg, Int.reduceMul, Nat.reduceLeDiff, e1, hf', Nat.zero_add]
              refine ⟨by omega, by omega, ?_⟩
              refine dc_cond _ rfl (fun _ => dc_exit ?_) (fun h => by simp at h)
              refine dc_region (ok0 gl) [] (by kernel_rfl) ?_
              simp only [go_sem, ↓gx_tt, ↓gx_tf, ↓gx_ft, ↓gx_ff, ↓gx_u2, ↓gk_tt, ↓gk_tf, ↓gk_ff, ↓gk_ft, reduceCtorEq, Nat.reduceEqDiff, ↓reduceIte, Nat.reduceAdd, Nat.reduceSub, Nat.reduceLT, Nat.reduceMul, Nat.reduceBEq, Int.reduceLE, Int.reduceLT, Int.reduceAdd, Int.reduceSub, Int.reduceToNat, Int.reduceNeg, Int.reduceMul, Nat.reduceLeDiff]
              refine ⟨hlt, ?_, ?_⟩
              · intro x hx hxj
                by_cases e : x = j
                · subst e; exact absurd hx hin
                · exact hall x hx (by omega)
              · rw [IntWalk.i64_in _ (by omega)]
                refine weak_to rfl ?_ ?_ ?_ ?_ ?_ <;> simp only [go_sem, ↓gx_tt, ↓gx_tf, ↓gx_ft, ↓gx_ff, ↓gx_u2, ↓gk_tt, ↓gk_tf, ↓gk_ff, ↓gk_ft, reduceCtorEq, Nat.reduceEqDiff, ↓reduceIte, Nat.reduceAdd, Nat.reduceSub, Nat.reduceLT, Nat.reduceMul, Nat.reduceBEq, Int.reduceLE, Int.reduceLT, Int.reduceAdd, Int.reduceSub, Int.reduceToNat, Int.reduceNeg, Int.reduceMul, Nat.reduceLeDiff]
                all_goals rfl
          · have hlt' : ¬ (j : Int) < (p.length : Int) := by omega
            have hr : checkN p = 0 := by
              unfold checkN
              rw [if_neg h0, hS', if_neg (by simp), if_pos]
              rw [List.all_eq_true]
              intro c hc
              obtain ⟨x, hx, rfl⟩ := List.mem_map.1 hc
              obtain ⟨hx1, hx2⟩ := List.mem_filter.1 hx
              exact hall x hx1 (by have := (hb x hx1).1; omega) hx2
            refine dc_seq (dc_seq (dc_region (ok0 gl) [] (by kernel_rfl) ?_))
            simp only [go_sem, ↓gx_tt, ↓gx_tf, ↓gx_ft, ↓gx_ff, ↓gx_u2, ↓gk_tt, ↓gk_tf, ↓gk_ff, ↓gk_ft, reduceCtorEq, Nat.reduceEqDiff, ↓reduceIte, Nat.reduceAdd, Nat.reduceSub, Nat.reduceLT, Nat.reduceMul, Nat.reduceBEq, Int.reduceLE, Int.reduceLT, Int.reduceAdd, Int.reduceSub, Int.reduceToNat, Int.reduceNeg, Int.reduceMul, Nat.reduceLeDiff, hlt']
            refine dc_cond _ rfl (fun h => by simp at h) (fun _ => dc_exit ?_)
            refine dc_seq (dc_region (ok0 gl) [] (by kernel_rfl) ?_)
            simp only [go_sem, ↓gx_tt, ↓gx_tf, ↓gx_ft, ↓gx_ff, ↓gx_u2, ↓gk_tt, ↓gk_tf, ↓gk_ff, ↓gk_ft, reduceCtorEq, Nat.reduceEqDiff, ↓reduceIte, Nat.reduceAdd, Nat.reduceSub, Nat.reduceLT, Nat.reduceMul, Nat.reduceBEq, Int.reduceLE, Int.reduceLT, Int.reduceAdd, Int.reduceSub, Int.reduceToNat, Int.reduceNeg, Int.reduceMul, Nat.reduceLeDiff]
            refine dc_ret ⟨.inr rfl, ?_⟩
            simp only [retOk, go_sem, ↓gx_tt, ↓gx_tf, ↓gx_ft, ↓gx_ff, ↓gx_u2, ↓gk_tt, ↓gk_tf, ↓gk_ff, ↓gk_ft, reduceCtorEq, Nat.reduceEqDiff, ↓reduceIte, Nat.reduceAdd, Nat.reduceSub, Nat.reduceLT, Nat.reduceMul, Nat.reduceBEq, Int.reduceLE, Int.reduceLT, Int.reduceAdd, Int.reduceSub, Int.reduceToNat, Int.reduceNeg, Int.reduceMul, Nat.reduceLeDiff, Tryd.f15, hr] <;> try rfl
end Go.Proofs.YtgkdfggnlpojoaaDoor

namespace Go.Proofs.YtgkdfggnlpojoaaDoor
open Go Go.E
set_option maxRecDepth 100000
theorem slice_arg {X : Cx} {f : FuncId} {eb : Nat} {e : Ty} {c : C} {A : Key → Option O} {v : V} {L : List (Key × O)} (h : DCalls X f [.d (.slice eb e) (.slice c.elems)] A v L) : DCalls X f [.d (.slice eb e) c] A v L := by
  intro A' Γ w args hA hg hc hn hr
  have hs : args.size = 1 := hn.symm
  have h0 : RepV Γ (.d (.slice eb e) c) args[0] := hr 0 _ _ rfl (Array.getElem?_eq_getElem (by omega : 0 < args.size))
  obtain ⟨h2, _⟩ := (repV_one rfl rfl).1 h0
  simp only [RepX, RepC] at h2
  obtain ⟨_, _, _, cs, rfl, _⟩ := h2
  exact h A' Γ w args hA hg hc hn hr
/-- Whether a program is whole. -/
def checkG {R : Type} : OvG R := fun xs _ K => match xs with
  | [.d t c] => if t = .slice 1 (.int .u8) then K (.d (.int .i64) (.int (checkN c.elems))) [] else none
  | _ => none
noncomputable def code_Check_g (_ : Nat) {R : Type} : OvG R := checkG
theorem code_Check_ok (N : Nat) {R : Type} : GOk (X0 gl0) 12 (code_Check_g N (R := R)) := by
  intro xs A Kr r hr
  unfold code_Check_g checkG at hr
  split at hr
  · simp only [Option.ite_none_right_eq_some] at hr
    obtain ⟨rfl, hr⟩ := hr
    exact ⟨_, _, slice_arg (code_Check gf0 A _), hr⟩
  · cases hr
noncomputable def ref11_Check_g (_ : Nat) {R : Type} : OvG R := checkG
theorem ref11_Check_ok (N : Nat) {R : Type} : GOk (X0 gl0) 15 (ref11_Check_g N (R := R)) := by
  intro xs A Kr r hr
  unfold ref11_Check_g checkG at hr
  split at hr
  · simp only [Option.ite_none_right_eq_some] at hr
    obtain ⟨rfl, hr⟩ := hr
    exact ⟨_, _, slice_arg (ref11_Check A _), hr⟩
  · cases hr
end Go.Proofs.YtgkdfggnlpojoaaDoor

namespace Go.Proofs.YtgkdfggnlpojoaaDoor
open Go Go.E
set_option maxRecDepth 100000
set_option maxHeartbeats 4000000
set_option linter.unusedVariables false
noncomputable def pact_New_hs : Hints := [([9], ⟨[], [(2, .as (.ptr (.l 2) [] tState))], [], [(.l 2, .box (.d tState))], []⟩)]
noncomputable def pact_New_ov (N : Nat) : OvS (X0 gl0) where
  g R := []
  ok := fun R => fun _ h => nomatch h
/-- tollhouse/pact.New, on data. -/
noncomputable def pact_New_p0 {R : Type} (N : Nat) (a0 : C) (k1 : KD R) : Option R :=
  (k1 [C.agg
    [a0, zeroC (Ty.int IntKind.u64), zeroC (Ty.arr 2 (Ty.int IntKind.u64)), zeroC (Ty.arr 2 (Ty.int IntKind.u64)),
      C.slice []]] [])
noncomputable def pact_New_p {R : Type} (N : Nat) : C → KD R → Option R := lid "pact_New_p N" (pact_New_p0 N)
theorem pact_New_pe {R : Type} (N : Nat) (a0 : C) (k : KD R) : pact_New_p N a0 k = pact_New_p0 N a0 k := by unfold pact_New_p; rw [lid_eq]
theorem pact_New_run {R : Type} (N : Nat) (a0 : C) (K : V → List (Key × O) → Option R) : exF (X0 gl0) ((pact_New_ov N).ov R) extX noX (fun f => bif Nat.beq f 14 then pact_New_hs else []) N 400 8 14 [.d (.int .u32) a0] A0 K =
    pact_New_p N a0 (fun d1 m1 => K (V.d tState (dk d1 0)) []) := by
  rw [pact_New_pe]
  exact (show _ = jn (fun d1 m1 => K (V.d tState (dk d1 0)) []) (pact_New_p0 N a0) by kernel_rfl).trans (jn_eq _ _)
noncomputable def pact_New_g (N : Nat) {R : Type} : OvG R := fun xs _ K => match xs with
  | [.d t0 a0] => if t0 = (.int .u32) then pact_New_p N a0 (fun d1 m1 => K (V.d tState (dk d1 0)) []) else none
  | _ => none
theorem pact_New_ok (N : Nat) {R : Type} : GOk (X0 gl0) 14 (pact_New_g N (R := R)) := by
  intro xs A Kr r hr
  unfold pact_New_g at hr
  split at hr
  · simp only [Option.ite_none_right_eq_some] at hr
    obtain ⟨hty, hr⟩ := hr
    subst hty
    rw [← pact_New_run] at hr
    obtain ⟨v, L, h1, h2⟩ := exF_ok (ok0 gl0) (mo gl0) ((pact_New_ov N).ov_ok _) (extX_ok gl0) _ _ _ _ _ _ hr
    exact ⟨v, L, h1.mono (leA_none fun _ => rfl), h2⟩
  · cases hr
end Go.Proofs.YtgkdfggnlpojoaaDoor

namespace Go.Proofs.YtgkdfggnlpojoaaDoor
open Go Go.E
set_option maxRecDepth 100000
set_option maxHeartbeats 4000000
set_option linter.unusedVariables false
noncomputable def bond_New_hs : Hints := [([0, 0, 1], ⟨[0, 3, 5, 6, 8], [(25, .d .bool)], [], [], []⟩),
    ([9], ⟨[], [(8, .as (.ptr (.l 8) [] tBond)), (9, .d (.int .i64))], [], [(.l 8, .box (.d tBond))], []⟩)]
noncomputable def bond_New_ov (N : Nat) : OvS (X0 gl0) where
  g R := [(12, code_Check_g N), (13, cl_Byte_g N), (14, pact_New_g N)]
  ok := fun R => List.forall_mem_cons.2 ⟨code_Check_ok N, List.forall_mem_cons.2 ⟨cl_Byte_ok N, List.forall_mem_cons.2 ⟨pact_New_ok N, fun _ h => nomatch h⟩⟩⟩
/-- tollhouse/bond.New, on data. -/
noncomputable def bond_New_p0 {R : Type} (N : Nat) (a0 a1 a2 a3 : C) (k1 : KD R) : Option R :=
  (jn (fun d1 m1 =>
    (bif C.toBool (dk d1 4) then
      (k1 [C.int 1,
  C.agg
    [zeroC (Ty.int IntKind.u32), zeroC (Ty.arr 2 (Ty.int IntKind.i64)),
      C.agg [C.agg [C.agg (List.replicate 32 (C.int 0)), C.agg (List.replicate 32 (C.int 0))], C.int 0], C.slice [],
      zeroC (Ty.arr 2 (Ty.int IntKind.u64)), zeroC (Ty.arr 2 (Ty.int IntKind.u64)), zeroC (Ty.int IntKind.i64),
      zeroC (Ty.int IntKind.u64),
      C.agg
        [zeroC (Ty.int IntKind.u32), zeroC (Ty.int IntKind.u64), zeroC (Ty.arr 2 (Ty.int IntKind.u64)),
          zeroC (Ty.arr 2 (Ty.int IntKind.u64)), C.slice []]]] [])
    else
      (bif !decide (checkN (C.elems (dk d1 1)) = Int.ofNat 0) then
        (k1 [C.int (checkN (C.elems (dk d1 1))),
  C.agg
    [zeroC (Ty.int IntKind.u32), zeroC (Ty.arr 2 (Ty.int IntKind.i64)),
      C.agg [C.agg [C.agg (List.replicate 32 (C.int 0)), C.agg (List.replicate 32 (C.int 0))], C.int 0], C.slice [],
      zeroC (Ty.arr 2 (Ty.int IntKind.u64)), zeroC (Ty.arr 2 (Ty.int IntKind.u64)), zeroC (Ty.int IntKind.i64),
      zeroC (Ty.int IntKind.u64),
      C.agg
        [zeroC (Ty.int IntKind.u32), zeroC (Ty.int IntKind.u64), zeroC (Ty.arr 2 (Ty.int IntKind.u64)),
          zeroC (Ty.arr 2 (Ty.int IntKind.u64)), C.slice []]]] [])
      else
        (pact_New_p N (dk d1 0) (fun d2 m2 =>
          (bif Nat.beq (List.length (C.elems (dk d1 1))) (List.length (C.elems (dk d1 1))) && true then
            (k1 [C.int 0,
  C.agg
    [dk d1 0, dk d1 2, dk d1 3, C.slice (C.elems (dk d1 1)), zeroC (Ty.arr 2 (Ty.int IntKind.u64)),
      zeroC (Ty.arr 2 (Ty.int IntKind.u64)), zeroC (Ty.int IntKind.i64), zeroC (Ty.int IntKind.u64), dk d2 0]] [])
          else
            none)))))) (fun k2 =>
    (bif decide (C.toInt (C.get a1 (Int.toNat (Int.ofNat 0))) = C.toInt (C.get a1 (Int.toNat (Int.ofNat 1)))) then
      (k2 [a0, a3, a1, a2, C.bool true,
  C.agg
    [zeroC (Ty.int IntKind.u32), zeroC (Ty.arr 2 (Ty.int IntKind.i64)),
      C.agg [C.agg [C.agg (List.replicate 32 (C.int 0)), C.agg (List.replicate 32 (C.int 0))], C.int 0], C.slice [],
      zeroC (Ty.arr 2 (Ty.int IntKind.u64)), zeroC (Ty.arr 2 (Ty.int IntKind.u64)), zeroC (Ty.int IntKind.i64),
      zeroC (Ty.int IntKind.u64),
      C.agg
        [zeroC (Ty.int IntKind.u32), zeroC (Ty.int IntKind.u64), zeroC (Ty.arr 2 (Ty.int IntKind.u64)),
          zeroC (Ty.arr 2 (Ty.int IntKind.u64)), C.slice []]]] [])
    else
      (bif decide (C.toInt (C.get a2 1) < Int.ofNat 0) then
        (k2 [a0, a3, a1, a2, C.bool true,
  C.agg
    [zeroC (Ty.int IntKind.u32), zeroC (Ty.arr 2 (Ty.int IntKind.i64)),
      C.agg [C.agg [C.agg (List.replicate 32 (C.int 0)), C.agg (List.replicate 32 (C.int 0))], C.int 0], C.slice [],
      zeroC (Ty.arr 2 (Ty.int IntKind.u64)), zeroC (Ty.arr 2 (Ty.int IntKind.u64)), zeroC (Ty.int IntKind.i64),
      zeroC (Ty.int IntKind.u64),
      C.agg
        [zeroC (Ty.int IntKind.u32), zeroC (Ty.int IntKind.u64), zeroC (Ty.arr 2 (Ty.int IntKind.u64)),
          zeroC (Ty.arr 2 (Ty.int IntKind.u64)), C.slice []]]] [])
      else
        (k2 [a0, a3, a1, a2, C.bool (decide (Int.ofNat 8 < C.toInt (C.get a2 1))),
  C.agg
    [zeroC (Ty.int IntKind.u32), zeroC (Ty.arr 2 (Ty.int IntKind.i64)),
      C.agg [C.agg [C.agg (List.replicate 32 (C.int 0)), C.agg (List.replicate 32 (C.int 0))], C.int 0], C.slice [],
      zeroC (Ty.arr 2 (Ty.int IntKind.u64)), zeroC (Ty.arr 2 (Ty.int IntKind.u64)), zeroC (Ty.int IntKind.i64),
      zeroC (Ty.int IntKind.u64),
      C.agg
        [zeroC (Ty.int IntKind.u32), zeroC (Ty.int IntKind.u64), zeroC (Ty.arr 2 (Ty.int IntKind.u64)),
          zeroC (Ty.arr 2 (Ty.int IntKind.u64)), C.slice []]]] [])))))
noncomputable def bond_New_p {R : Type} (N : Nat) : C → C → C → C → KD R → Option R := lid "bond_New_p N" (bond_New_p0 N)
theorem bond_New_pe {R : Type} (N : Nat) (a0 a1 a2 a3 : C) (k : KD R) : bond_New_p N a0 a1 a2 a3 k = bond_New_p0 N a0 a1 a2 a3 k := by unfold bond_New_p; rw [lid_eq]
theorem bond_New_run {R : Type} (N : Nat) (a0 a1 a2 a3 : C) (K : V → List (Key × O) → Option R) : exF (X0 gl0) ((bond_New_ov N).ov R) extX (fun f r => bif Nat.beq f 4 then (bif Nat.beq r 0 then [(5, 5), (6, 5)] else bif Nat.beq r 6 then [(39, 7)] else []) else []) (fun f => bif Nat.beq f 4 then bond_New_hs else []) N 400 8 4 [.d (.int .u32) a0, .d (.arr 2 (.int .i64)) a1, .d tRoots a2, .d (.slice 1 (.int .u8)) a3] A0 K =
    bond_New_p N a0 a1 a2 a3 (fun d1 m1 => K (V.tup [V.d tBond (dk d1 1), V.d (Ty.int IntKind.i64) (dk d1 0)]) []) := by
  rw [bond_New_pe]
  exact (show _ = jn (fun d1 m1 => K (V.tup [V.d tBond (dk d1 1), V.d (Ty.int IntKind.i64) (dk d1 0)]) []) (bond_New_p0 N a0 a1 a2 a3) by kernel_rfl).trans (jn_eq _ _)
noncomputable def bond_New_g (N : Nat) {R : Type} : OvG R := fun xs _ K => match xs with
  | [.d t0 a0, .d t1 a1, .d t2 a2, .d t3 a3] => if t0 = (.int .u32) ∧ t1 = (.arr 2 (.int .i64)) ∧ t2 = tRoots ∧ t3 = (.slice 1 (.int .u8)) then bond_New_p N a0 a1 a2 a3 (fun d1 m1 => K (V.tup [V.d tBond (dk d1 1), V.d (Ty.int IntKind.i64) (dk d1 0)]) []) else none
  | _ => none
theorem bond_New_ok (N : Nat) {R : Type} : GOk (X0 gl0) 4 (bond_New_g N (R := R)) := by
  intro xs A Kr r hr
  unfold bond_New_g at hr
  split at hr
  · simp only [Option.ite_none_right_eq_some] at hr
    obtain ⟨hty, hr⟩ := hr
    obtain ⟨rfl, rfl, rfl, rfl⟩ := hty
    rw [← bond_New_run] at hr
    obtain ⟨v, L, h1, h2⟩ := exF_ok (ok0 gl0) (mo gl0) ((bond_New_ov N).ov_ok _) (extX_ok gl0) _ _ _ _ _ _ hr
    exact ⟨v, L, h1.mono (leA_none fun _ => rfl), h2⟩
  · cases hr
end Go.Proofs.YtgkdfggnlpojoaaDoor

namespace Go.Proofs.YtgkdfggnlpojoaaDoor
open Go Go.E
set_option maxRecDepth 100000
set_option maxHeartbeats 4000000
set_option linter.unusedVariables false
noncomputable def law13_Roots_hs : Hints := [([9], ⟨[], [(2, .as (.ptr (.l 2) [] tRoots))], [], [(.l 2, .box (.d tRoots))], []⟩)]
noncomputable def law13_Roots_ov (N : Nat) : OvS (X0 gl0) where
  g R := []
  ok := fun R => fun _ h => nomatch h
/-- tollhouse/tollhouselaw13.Roots, on data. -/
noncomputable def law13_Roots_p0 {R : Type} (N : Nat) (a0 : C) (k1 : KD R) : Option R :=
  (k1 [C.set
    (C.set (C.agg [C.agg [C.agg (List.replicate 32 (C.int 0)), C.agg (List.replicate 32 (C.int 0))], C.int 0]) 0
      (C.set (C.set (zeroC (Ty.arr 2 (Ty.arr 32 (Ty.int IntKind.u8)))) 0 (C.get (C.get a0 0) (Int.toNat (Int.ofNat 0))))
        1 (C.get (C.get a0 0) (Int.toNat (Int.ofNat 1)))))
    1 (C.get a0 1)] [])
noncomputable def law13_Roots_p {R : Type} (N : Nat) : C → KD R → Option R := lid "law13_Roots_p N" (law13_Roots_p0 N)
theorem law13_Roots_pe {R : Type} (N : Nat) (a0 : C) (k : KD R) : law13_Roots_p N a0 k = law13_Roots_p0 N a0 k := by unfold law13_Roots_p; rw [lid_eq]
theorem law13_Roots_run {R : Type} (N : Nat) (a0 : C) (K : V → List (Key × O) → Option R) : exF (X0 gl0) ((law13_Roots_ov N).ov R) extX (fun f r => bif Nat.beq f 5 then (bif Nat.beq r 0 then [(1, 5)] else []) else []) (fun f => bif Nat.beq f 5 then law13_Roots_hs else []) N 400 8 5 [.d tRoots a0] A0 K =
    law13_Roots_p N a0 (fun d1 m1 => K (V.d tRoots (dk d1 0)) []) := by
  rw [law13_Roots_pe]
  exact (show _ = jn (fun d1 m1 => K (V.d tRoots (dk d1 0)) []) (law13_Roots_p0 N a0) by kernel_rfl).trans (jn_eq _ _)
noncomputable def law13_Roots_g (N : Nat) {R : Type} : OvG R := fun xs _ K => match xs with
  | [.d t0 a0] => if t0 = tRoots then law13_Roots_p N a0 (fun d1 m1 => K (V.d tRoots (dk d1 0)) []) else none
  | _ => none
theorem law13_Roots_ok (N : Nat) {R : Type} : GOk (X0 gl0) 5 (law13_Roots_g N (R := R)) := by
  intro xs A Kr r hr
  unfold law13_Roots_g at hr
  split at hr
  · simp only [Option.ite_none_right_eq_some] at hr
    obtain ⟨hty, hr⟩ := hr
    subst hty
    rw [← law13_Roots_run] at hr
    obtain ⟨v, L, h1, h2⟩ := exF_ok (ok0 gl0) (mo gl0) ((law13_Roots_ov N).ov_ok _) (extX_ok gl0) _ _ _ _ _ _ hr
    exact ⟨v, L, h1.mono (leA_none fun _ => rfl), h2⟩
  · cases hr
end Go.Proofs.YtgkdfggnlpojoaaDoor

namespace Go.Proofs.YtgkdfggnlpojoaaDoor
open Go Go.E
set_option maxRecDepth 100000
set_option maxHeartbeats 4000000
set_option linter.unusedVariables false
noncomputable def ref14_New_hs : Hints := [([0, 0, 1], ⟨[0, 3, 5, 6, 8], [(25, .d .bool)], [], [], []⟩),
    ([9], ⟨[], [(8, .as (.ptr (.l 8) [] tBond)), (9, .d (.int .i64))], [], [(.l 8, .box (.d tBond))], []⟩)]
noncomputable def ref14_New_ov (N : Nat) : OvS (X0 gl0) where
  g R := [(15, ref11_Check_g N)]
  ok := fun R => List.forall_mem_cons.2 ⟨ref11_Check_ok N, fun _ h => nomatch h⟩
/-- tollhouse/tollhouseref14.New, on data. -/
noncomputable def ref14_New_p0 {R : Type} (N : Nat) (a0 a1 a2 a3 : C) (k1 : KD R) : Option R :=
  (jn (fun d1 m1 =>
    (bif C.toBool (dk d1 4) then
      (k1 [C.int 1,
  C.agg
    [zeroC (Ty.int IntKind.u32), zeroC (Ty.arr 2 (Ty.int IntKind.i64)),
      C.agg [C.agg [C.agg (List.replicate 32 (C.int 0)), C.agg (List.replicate 32 (C.int 0))], C.int 0], C.slice [],
      zeroC (Ty.arr 2 (Ty.int IntKind.u64)), zeroC (Ty.arr 2 (Ty.int IntKind.u64)), zeroC (Ty.int IntKind.i64),
      zeroC (Ty.int IntKind.u64),
      C.agg
        [zeroC (Ty.int IntKind.u32), zeroC (Ty.int IntKind.u64), zeroC (Ty.arr 2 (Ty.int IntKind.u64)),
          zeroC (Ty.arr 2 (Ty.int IntKind.u64)), C.slice []]]] [])
    else
      (bif !decide (checkN (C.elems (dk d1 1)) = Int.ofNat 0) then
        (k1 [C.int (checkN (C.elems (dk d1 1))),
  C.agg
    [zeroC (Ty.int IntKind.u32), zeroC (Ty.arr 2 (Ty.int IntKind.i64)),
      C.agg [C.agg [C.agg (List.replicate 32 (C.int 0)), C.agg (List.replicate 32 (C.int 0))], C.int 0], C.slice [],
      zeroC (Ty.arr 2 (Ty.int IntKind.u64)), zeroC (Ty.arr 2 (Ty.int IntKind.u64)), zeroC (Ty.int IntKind.i64),
      zeroC (Ty.int IntKind.u64),
      C.agg
        [zeroC (Ty.int IntKind.u32), zeroC (Ty.int IntKind.u64), zeroC (Ty.arr 2 (Ty.int IntKind.u64)),
          zeroC (Ty.arr 2 (Ty.int IntKind.u64)), C.slice []]]] [])
      else
        (k1 [C.int 0,
  C.agg
    [dk d1 0, dk d1 2, dk d1 3, dk d1 1, zeroC (Ty.arr 2 (Ty.int IntKind.u64)), zeroC (Ty.arr 2 (Ty.int IntKind.u64)),
      zeroC (Ty.int IntKind.i64), zeroC (Ty.int IntKind.u64),
      C.agg
        [dk d1 0, zeroC (Ty.int IntKind.u64), zeroC (Ty.arr 2 (Ty.int IntKind.u64)),
          zeroC (Ty.arr 2 (Ty.int IntKind.u64)), C.slice []]]] [])))) (fun k2 =>
    (bif decide (C.toInt (C.get a1 (Int.toNat (Int.ofNat 0))) = C.toInt (C.get a1 (Int.toNat (Int.ofNat 1)))) then
      (k2 [a0, a3, a1, a2, C.bool true,
  C.agg
    [zeroC (Ty.int IntKind.u32), zeroC (Ty.arr 2 (Ty.int IntKind.i64)),
      C.agg [C.agg [C.agg (List.replicate 32 (C.int 0)), C.agg (List.replicate 32 (C.int 0))], C.int 0], C.slice [],
      zeroC (Ty.arr 2 (Ty.int IntKind.u64)), zeroC (Ty.arr 2 (Ty.int IntKind.u64)), zeroC (Ty.int IntKind.i64),
      zeroC (Ty.int IntKind.u64),
      C.agg
        [zeroC (Ty.int IntKind.u32), zeroC (Ty.int IntKind.u64), zeroC (Ty.arr 2 (Ty.int IntKind.u64)),
          zeroC (Ty.arr 2 (Ty.int IntKind.u64)), C.slice []]]] [])
    else
      (bif decide (C.toInt (C.get a2 1) < Int.ofNat 0) then
        (k2 [a0, a3, a1, a2, C.bool true,
  C.agg
    [zeroC (Ty.int IntKind.u32), zeroC (Ty.arr 2 (Ty.int IntKind.i64)),
      C.agg [C.agg [C.agg (List.replicate 32 (C.int 0)), C.agg (List.replicate 32 (C.int 0))], C.int 0], C.slice [],
      zeroC (Ty.arr 2 (Ty.int IntKind.u64)), zeroC (Ty.arr 2 (Ty.int IntKind.u64)), zeroC (Ty.int IntKind.i64),
      zeroC (Ty.int IntKind.u64),
      C.agg
        [zeroC (Ty.int IntKind.u32), zeroC (Ty.int IntKind.u64), zeroC (Ty.arr 2 (Ty.int IntKind.u64)),
          zeroC (Ty.arr 2 (Ty.int IntKind.u64)), C.slice []]]] [])
      else
        (k2 [a0, a3, a1, a2, C.bool (decide (Int.ofNat 8 < C.toInt (C.get a2 1))),
  C.agg
    [zeroC (Ty.int IntKind.u32), zeroC (Ty.arr 2 (Ty.int IntKind.i64)),
      C.agg [C.agg [C.agg (List.replicate 32 (C.int 0)), C.agg (List.replicate 32 (C.int 0))], C.int 0], C.slice [],
      zeroC (Ty.arr 2 (Ty.int IntKind.u64)), zeroC (Ty.arr 2 (Ty.int IntKind.u64)), zeroC (Ty.int IntKind.i64),
      zeroC (Ty.int IntKind.u64),
      C.agg
        [zeroC (Ty.int IntKind.u32), zeroC (Ty.int IntKind.u64), zeroC (Ty.arr 2 (Ty.int IntKind.u64)),
          zeroC (Ty.arr 2 (Ty.int IntKind.u64)), C.slice []]]] [])))))
noncomputable def ref14_New_p {R : Type} (N : Nat) : C → C → C → C → KD R → Option R := lid "ref14_New_p N" (ref14_New_p0 N)
theorem ref14_New_pe {R : Type} (N : Nat) (a0 a1 a2 a3 : C) (k : KD R) : ref14_New_p N a0 a1 a2 a3 k = ref14_New_p0 N a0 a1 a2 a3 k := by unfold ref14_New_p; rw [lid_eq]
theorem ref14_New_run {R : Type} (N : Nat) (a0 a1 a2 a3 : C) (K : V → List (Key × O) → Option R) : exF (X0 gl0) ((ref14_New_ov N).ov R) extX (fun f r => bif Nat.beq f 6 then (bif Nat.beq r 0 then [(5, 5), (6, 5)] else []) else []) (fun f => bif Nat.beq f 6 then ref14_New_hs else []) N 400 8 6 [.d (.int .u32) a0, .d (.arr 2 (.int .i64)) a1, .d tRoots a2, .d (.slice 1 (.int .u8)) a3] A0 K =
    ref14_New_p N a0 a1 a2 a3 (fun d1 m1 => K (V.tup [V.d tBond (dk d1 1), V.d (Ty.int IntKind.i64) (dk d1 0)]) []) := by
  rw [ref14_New_pe]
  exact (show _ = jn (fun d1 m1 => K (V.tup [V.d tBond (dk d1 1), V.d (Ty.int IntKind.i64) (dk d1 0)]) []) (ref14_New_p0 N a0 a1 a2 a3) by kernel_rfl).trans (jn_eq _ _)
noncomputable def ref14_New_g (N : Nat) {R : Type} : OvG R := fun xs _ K => match xs with
  | [.d t0 a0, .d t1 a1, .d t2 a2, .d t3 a3] => if t0 = (.int .u32) ∧ t1 = (.arr 2 (.int .i64)) ∧ t2 = tRoots ∧ t3 = (.slice 1 (.int .u8)) then ref14_New_p N a0 a1 a2 a3 (fun d1 m1 => K (V.tup [V.d tBond (dk d1 1), V.d (Ty.int IntKind.i64) (dk d1 0)]) []) else none
  | _ => none
theorem ref14_New_ok (N : Nat) {R : Type} : GOk (X0 gl0) 6 (ref14_New_g N (R := R)) := by
  intro xs A Kr r hr
  unfold ref14_New_g at hr
  split at hr
  · simp only [Option.ite_none_right_eq_some] at hr
    obtain ⟨hty, hr⟩ := hr
    obtain ⟨rfl, rfl, rfl, rfl⟩ := hty
    rw [← ref14_New_run] at hr
    obtain ⟨v, L, h1, h2⟩ := exF_ok (ok0 gl0) (mo gl0) ((ref14_New_ov N).ov_ok _) (extX_ok gl0) _ _ _ _ _ _ hr
    exact ⟨v, L, h1.mono (leA_none fun _ => rfl), h2⟩
  · cases hr
end Go.Proofs.YtgkdfggnlpojoaaDoor

namespace Go.Proofs.YtgkdfggnlpojoaaDoor
open Go Go.E
set_option maxRecDepth 100000
set_option maxHeartbeats 4000000
set_option linter.unusedVariables false
noncomputable def ref12_Same_hs : Hints := [([0, 0, 1], ⟨[2, 3], [(40, .d .bool)], [], [], []⟩),
    ([1, 0, 1, 1], ⟨[], [], [], [], []⟩),
    ([4, 1, 0, 1, 1], ⟨[2, 3], [(5, .d (.int .i64))], [], [], []⟩),
    ([9], ⟨[], [(4, .d .bool)], [], [], []⟩)]
noncomputable def ref12_Same_ov (N : Nat) : OvS (X0 gl0) where
  g R := []
  ok := fun R => fun _ h => nomatch h
/-- A loop of it. -/
noncomputable def ref12_Same_l1 {R : Type} (N : Nat) (k1 : KD R) (k2 : KD R) : KD R → List C → List Es → Option R :=
  (fun k3 d2 m2 =>
  (bif decide (C.toInt (dk d2 2) < Int.ofNat (List.length (C.elems (C.get (dk d2 0) 4)))) then
    (if 0 ≤ C.toInt (dk d2 2) ∧ C.toInt (dk d2 2) < (↑(List.length (C.elems (C.get (dk d2 0) 4))) : Int) then
      (if 0 ≤ C.toInt (dk d2 2) ∧ C.toInt (dk d2 2) < (↑(List.length (C.elems (C.get (dk d2 1) 4))) : Int) then
        (bif !C.beq (List.getD (C.elems (C.get (dk d2 0) 4)) (Int.toNat (C.toInt (dk d2 2))) C.nil)
    (List.getD (C.elems (C.get (dk d2 1) 4)) (Int.toNat (C.toInt (dk d2 2))) C.nil) then
          (k1 [C.bool false] [])
        else
          (k3 [dk d2 0, dk d2 1, C.int (IntKind.wrap IntKind.i64 (C.toInt (dk d2 2) + Int.ofNat 1))] []))
      else
        none)
    else
      none)
  else
    (k2 [] [])))
/-- tollhouse/tollhouseref12.Same, on data. -/
noncomputable def ref12_Same_p0 {R : Type} (N : Nat) (a0 a1 : C) (k1 : KD R) : Option R :=
  (jn (fun d1 m1 =>
    (bif C.toBool (dk d1 2) then
      (k1 [C.bool false] [])
    else
      (jn (fun d2 m2 =>
        (k1 [C.bool true] [])) (fun k2 =>
        (loopK N (ref12_Same_l1 N k1 k2) [dk d1 0, dk d1 1, C.int 0] []))))) (fun k2 =>
    (bif !decide (C.toInt (C.get a0 0) = C.toInt (C.get a1 0)) then
      (k2 [a0, a1, C.bool true] [])
    else
      (bif !decide (C.toInt (C.get a0 1) = C.toInt (C.get a1 1)) then
        (k2 [a0, a1, C.bool true] [])
      else
        (bif !C.beq (C.get a0 2) (C.get a1 2) then
          (k2 [a0, a1, C.bool true] [])
        else
          (bif !C.beq (C.get a0 3) (C.get a1 3) then
            (k2 [a0, a1, C.bool true] [])
          else
            (k2 [a0, a1,
  C.bool !decide (Int.ofNat (List.length (C.elems (C.get a0 4))) = Int.ofNat (List.length (C.elems (C.get a1 4))))] [])))))))
noncomputable def ref12_Same_p {R : Type} (N : Nat) : C → C → KD R → Option R := lid "ref12_Same_p N" (ref12_Same_p0 N)
theorem ref12_Same_pe {R : Type} (N : Nat) (a0 a1 : C) (k : KD R) : ref12_Same_p N a0 a1 k = ref12_Same_p0 N a0 a1 k := by unfold ref12_Same_p; rw [lid_eq]
theorem ref12_Same_run {R : Type} (N : Nat) (a0 a1 : C) (K : V → List (Key × O) → Option R) : exF (X0 gl0) ((ref12_Same_ov N).ov R) extX (fun f r => bif Nat.beq f 16 then (bif Nat.beq r 0 then [(2, 5), (3, 5)] else []) else []) (fun f => bif Nat.beq f 16 then ref12_Same_hs else []) N 400 8 16 [.d tState a0, .d tState a1] A0 K =
    ref12_Same_p N a0 a1 (fun d1 m1 => K (V.d Ty.bool (C.bool (C.toBool (dk d1 0)))) []) := by
  rw [ref12_Same_pe]
  exact (show _ = jn (fun d1 m1 => K (V.d Ty.bool (C.bool (C.toBool (dk d1 0)))) []) (ref12_Same_p0 N a0 a1) by kernel_rfl).trans (jn_eq _ _)
noncomputable def ref12_Same_g (N : Nat) {R : Type} : OvG R := fun xs _ K => match xs with
  | [.d t0 a0, .d t1 a1] => if t0 = tState ∧ t1 = tState then ref12_Same_p N a0 a1 (fun d1 m1 => K (V.d Ty.bool (C.bool (C.toBool (dk d1 0)))) []) else none
  | _ => none
theorem ref12_Same_ok (N : Nat) {R : Type} : GOk (X0 gl0) 16 (ref12_Same_g N (R := R)) := by
  intro xs A Kr r hr
  unfold ref12_Same_g at hr
  split at hr
  · simp only [Option.ite_none_right_eq_some] at hr
    obtain ⟨hty, hr⟩ := hr
    obtain ⟨rfl, rfl⟩ := hty
    rw [← ref12_Same_run] at hr
    obtain ⟨v, L, h1, h2⟩ := exF_ok (ok0 gl0) (mo gl0) ((ref12_Same_ov N).ov_ok _) (extX_ok gl0) _ _ _ _ _ _ hr
    exact ⟨v, L, h1.mono (leA_none fun _ => rfl), h2⟩
  · cases hr
end Go.Proofs.YtgkdfggnlpojoaaDoor

namespace Go.Proofs.YtgkdfggnlpojoaaDoor
open Go Go.E
set_option maxRecDepth 100000
set_option maxHeartbeats 4000000
set_option linter.unusedVariables false
noncomputable def ref14_Same_hs : Hints := [([0, 1], ⟨[], [(4, .d .bool)], [], [], []⟩),
    ([9], ⟨[], [(4, .d .bool)], [], [], []⟩)]
noncomputable def ref14_Same_ov (N : Nat) : OvS (X0 gl0) where
  g R := [(16, ref12_Same_g N)]
  ok := fun R => List.forall_mem_cons.2 ⟨ref12_Same_ok N, fun _ h => nomatch h⟩
/-- tollhouse/tollhouseref14.Same, on data. -/
noncomputable def ref14_Same_p0 {R : Type} (N : Nat) (a0 a1 : C) (k1 : KD R) : Option R :=
  (jn (fun d1 m1 =>
    (k1 [C.bool (C.toBool (dk d1 0))] [])) (fun k2 =>
    (bif decide (C.toInt (C.get a0 0) = C.toInt (C.get a1 0)) then
      (bif C.beq (C.get a0 1) (C.get a1 1) then
        (bif C.beq (C.get a0 2) (C.get a1 2) then
          (bif List.map (fun c => UInt8.ofNat (Int.toNat (C.toInt c))) (C.elems (C.get a0 3)) ==
  List.map (fun c => UInt8.ofNat (Int.toNat (C.toInt c))) (C.elems (C.get a1 3)) then
            (bif C.beq (C.get a0 4) (C.get a1 4) then
              (bif C.beq (C.get a0 5) (C.get a1 5) then
                (bif decide (C.toInt (C.get a0 6) = C.toInt (C.get a1 6)) then
                  (bif decide (C.toInt (C.get a0 7) = C.toInt (C.get a1 7)) then
                    (ref12_Same_p N (C.get a0 8) (C.get a1 8) (fun d1 m1 =>
                      (k2 [C.bool (C.toBool (dk d1 0))] [])))
                  else
                    (k2 [C.bool false] []))
                else
                  (k2 [C.bool false] []))
              else
                (k2 [C.bool false] []))
            else
              (k2 [C.bool false] []))
          else
            (k2 [C.bool false] []))
        else
          (k2 [C.bool false] []))
      else
        (k2 [C.bool false] []))
    else
      (k2 [C.bool false] []))))
noncomputable def ref14_Same_p {R : Type} (N : Nat) : C → C → KD R → Option R := lid "ref14_Same_p N" (ref14_Same_p0 N)
theorem ref14_Same_pe {R : Type} (N : Nat) (a0 a1 : C) (k : KD R) : ref14_Same_p N a0 a1 k = ref14_Same_p0 N a0 a1 k := by unfold ref14_Same_p; rw [lid_eq]
theorem ref14_Same_run {R : Type} (N : Nat) (a0 a1 : C) (K : V → List (Key × O) → Option R) : exF (X0 gl0) ((ref14_Same_ov N).ov R) extX (fun f r => bif Nat.beq f 7 then (bif Nat.beq r 0 then [(2, 5), (3, 5)] else []) else []) (fun f => bif Nat.beq f 7 then ref14_Same_hs else []) N 400 8 7 [.d tBond a0, .d tBond a1] A0 K =
    ref14_Same_p N a0 a1 (fun d1 m1 => K (V.d Ty.bool (C.bool (C.toBool (dk d1 0)))) []) := by
  rw [ref14_Same_pe]
  exact (show _ = jn (fun d1 m1 => K (V.d Ty.bool (C.bool (C.toBool (dk d1 0)))) []) (ref14_Same_p0 N a0 a1) by kernel_rfl).trans (jn_eq _ _)
noncomputable def ref14_Same_g (N : Nat) {R : Type} : OvG R := fun xs _ K => match xs with
  | [.d t0 a0, .d t1 a1] => if t0 = tBond ∧ t1 = tBond then ref14_Same_p N a0 a1 (fun d1 m1 => K (V.d Ty.bool (C.bool (C.toBool (dk d1 0)))) []) else none
  | _ => none
theorem ref14_Same_ok (N : Nat) {R : Type} : GOk (X0 gl0) 7 (ref14_Same_g N (R := R)) := by
  intro xs A Kr r hr
  unfold ref14_Same_g at hr
  split at hr
  · simp only [Option.ite_none_right_eq_some] at hr
    obtain ⟨hty, hr⟩ := hr
    obtain ⟨rfl, rfl⟩ := hty
    rw [← ref14_Same_run] at hr
    obtain ⟨v, L, h1, h2⟩ := exF_ok (ok0 gl0) (mo gl0) ((ref14_Same_ov N).ov_ok _) (extX_ok gl0) _ _ _ _ _ _ hr
    exact ⟨v, L, h1.mono (leA_none fun _ => rfl), h2⟩
  · cases hr
end Go.Proofs.YtgkdfggnlpojoaaDoor

namespace Go.Proofs.YtgkdfggnlpojoaaDoor
open Go Go.E
set_option maxRecDepth 100000
set_option maxHeartbeats 4000000
set_option linter.unusedVariables false
noncomputable def law10_From_hs : Hints := [([9], ⟨[], [(2, .as (.ptr (.l 2) [] tCond))], [], [(.l 2, .box (.d tCond))], []⟩)]
noncomputable def law10_From_ov (N : Nat) : OvS (X0 gl0) where
  g R := []
  ok := fun R => fun _ h => nomatch h
/-- tollhouse/tollhouselaw10.From, on data. -/
noncomputable def law10_From_p0 {R : Type} (N : Nat) (a0 : C) (k1 : KD R) : Option R :=
  (k1 [C.set
    (C.set
      (C.set
        (C.set (C.set (C.agg [C.int 0, C.int 0, C.int 0, C.agg (List.replicate 32 (C.int 0)), C.int 0]) 0 (C.get a0 0))
          1 (C.get a0 1))
        2 (C.get a0 2))
      3 (C.get a0 3))
    4 (C.get a0 4)] [])
noncomputable def law10_From_p {R : Type} (N : Nat) : C → KD R → Option R := lid "law10_From_p N" (law10_From_p0 N)
theorem law10_From_pe {R : Type} (N : Nat) (a0 : C) (k : KD R) : law10_From_p N a0 k = law10_From_p0 N a0 k := by unfold law10_From_p; rw [lid_eq]
theorem law10_From_run {R : Type} (N : Nat) (a0 : C) (K : V → List (Key × O) → Option R) : exF (X0 gl0) ((law10_From_ov N).ov R) extX (fun f r => bif Nat.beq f 28 then (bif Nat.beq r 0 then [(1, 5)] else []) else []) (fun f => bif Nat.beq f 28 then law10_From_hs else []) N 400 8 28 [.d tCond a0] A0 K =
    law10_From_p N a0 (fun d1 m1 => K (V.d tCond (dk d1 0)) []) := by
  rw [law10_From_pe]
  exact (show _ = jn (fun d1 m1 => K (V.d tCond (dk d1 0)) []) (law10_From_p0 N a0) by kernel_rfl).trans (jn_eq _ _)
noncomputable def law10_From_g (N : Nat) {R : Type} : OvG R := fun xs _ K => match xs with
  | [.d t0 a0] => if t0 = tCond then law10_From_p N a0 (fun d1 m1 => K (V.d tCond (dk d1 0)) []) else none
  | _ => none
theorem law10_From_ok (N : Nat) {R : Type} : GOk (X0 gl0) 28 (law10_From_g N (R := R)) := by
  intro xs A Kr r hr
  unfold law10_From_g at hr
  split at hr
  · simp only [Option.ite_none_right_eq_some] at hr
    obtain ⟨hty, hr⟩ := hr
    subst hty
    rw [← law10_From_run] at hr
    obtain ⟨v, L, h1, h2⟩ := exF_ok (ok0 gl0) (mo gl0) ((law10_From_ov N).ov_ok _) (extX_ok gl0) _ _ _ _ _ _ hr
    exact ⟨v, L, h1.mono (leA_none fun _ => rfl), h2⟩
  · cases hr
end Go.Proofs.YtgkdfggnlpojoaaDoor

namespace Go.Proofs.YtgkdfggnlpojoaaDoor
open Go Go.E
set_option maxRecDepth 100000
set_option maxHeartbeats 4000000
set_option linter.unusedVariables false
noncomputable def law12_From_hs : Hints := [([1, 0, 1, 1], ⟨[2, 3], [], [], [(.l 3, .box (.agg tState [.d (.int .u32), .d (.int .u64), .d (.arr 2 (.int .u64)), .d (.arr 2 (.int .u64)), (.ts 64 tCond)]))], []⟩),
    ([4, 1, 0, 1, 1], ⟨[2, 3, 16, 17], [(18, .d (.int .i64))], [], [(.l 3, .box (.agg tState [.d (.int .u32), .d (.int .u64), .d (.arr 2 (.int .u64)), .d (.arr 2 (.int .u64)), (.ts 64 tCond)]))], []⟩),
    ([9], ⟨[], [(2, .as (.ptr (.l 2) [] tState))], [], [(.l 2, .box (.d tState))], []⟩)]
noncomputable def law12_From_ov (N : Nat) : OvS (X0 gl0) where
  g R := [(28, law10_From_g N)]
  ok := fun R => List.forall_mem_cons.2 ⟨law10_From_ok N, fun _ h => nomatch h⟩
/-- A loop of it. -/
noncomputable def law12_From_l1 {R : Type} (N : Nat) (k2 : KD R) : KD R → List C → List Es → Option R :=
  (fun k3 d1 m1 =>
  (bif decide (C.toInt (dk d1 2) < C.toInt (dk d1 1)) then
    (if 0 ≤ C.toInt (dk d1 2) ∧ C.toInt (dk d1 2) < (↑(List.length (C.elems (dk d1 0))) : Int) then
      (law10_From_p N (List.getD (C.elems (dk d1 0)) (Int.toNat (C.toInt (dk d1 2))) C.nil) (fun d2 m2 =>
        (bif Nat.beq (List.length (C.elems (dk d1 7))) (List.length (C.elems (dk d1 7))) then
          (if (List.length (C.elems (dk d1 7)) + 1) * 64 ≤ 140737488355328 ∧ List.length (C.elems (dk d1 7)) + 1 ≤ 9223372036854775807 then
            (bif Nat.beq (List.length (C.elems (dk d1 7)) + 1) (List.length (C.elems (dk d1 7) ++ [dk d2 0])) then
              (k3 [dk d1 0, dk d1 1, C.int (IntKind.wrap IntKind.i64 (C.toInt (dk d1 2) + Int.ofNat 1)), dk d1 3, dk d1 4, dk d1 5,
  dk d1 6, C.slice (C.elems (dk d1 7) ++ [dk d2 0]), dk d1 8] [])
            else
              none)
          else
            none)
        else
          none)))
    else
      none)
  else
    (k2 [dk d1 3, dk d1 4, dk d1 5, dk d1 6, C.slice (C.elems (dk d1 7)), dk d1 8] [])))
/-- tollhouse/tollhouselaw12.From, on data. -/
noncomputable def law12_From_p0 {R : Type} (N : Nat) (a0 : C) (k1 : KD R) : Option R :=
  (jn (fun d1 m1 =>
    (k1 [C.agg [dk d1 0, dk d1 1, dk d1 2, dk d1 3, C.slice (C.elems (dk d1 4))]] [])) (fun k2 =>
    (loopK N (law12_From_l1 N k2) [C.get a0 4, C.int (↑(List.length (C.elems (C.get a0 4))) : Int), C.int 0, C.get a0 0, C.get a0 1, C.get a0 2,
  C.get a0 3, C.slice [],
  C.agg
    [zeroC (Ty.int IntKind.u32), zeroC (Ty.int IntKind.u64), zeroC (Ty.arr 2 (Ty.int IntKind.u64)),
      zeroC (Ty.arr 2 (Ty.int IntKind.u64)), C.slice []]] [])))
noncomputable def law12_From_p {R : Type} (N : Nat) : C → KD R → Option R := lid "law12_From_p N" (law12_From_p0 N)
theorem law12_From_pe {R : Type} (N : Nat) (a0 : C) (k : KD R) : law12_From_p N a0 k = law12_From_p0 N a0 k := by unfold law12_From_p; rw [lid_eq]
theorem law12_From_run {R : Type} (N : Nat) (a0 : C) (K : V → List (Key × O) → Option R) : exF (X0 gl0) ((law12_From_ov N).ov R) extX (fun f r => bif Nat.beq f 17 then (bif Nat.beq r 0 then [(1, 5)] else bif Nat.beq r 5 then [(25, 7), (5, 6)] else []) else []) (fun f => bif Nat.beq f 17 then law12_From_hs else []) N 400 8 17 [.d tState a0] A0 K =
    law12_From_p N a0 (fun d1 m1 => K (V.d tState (dk d1 0)) []) := by
  rw [law12_From_pe]
  exact (show _ = jn (fun d1 m1 => K (V.d tState (dk d1 0)) []) (law12_From_p0 N a0) by kernel_rfl).trans (jn_eq _ _)
noncomputable def law12_From_g (N : Nat) {R : Type} : OvG R := fun xs _ K => match xs with
  | [.d t0 a0] => if t0 = tState then law12_From_p N a0 (fun d1 m1 => K (V.d tState (dk d1 0)) []) else none
  | _ => none
theorem law12_From_ok (N : Nat) {R : Type} : GOk (X0 gl0) 17 (law12_From_g N (R := R)) := by
  intro xs A Kr r hr
  unfold law12_From_g at hr
  split at hr
  · simp only [Option.ite_none_right_eq_some] at hr
    obtain ⟨hty, hr⟩ := hr
    subst hty
    rw [← law12_From_run] at hr
    obtain ⟨v, L, h1, h2⟩ := exF_ok (ok0 gl0) (mo gl0) ((law12_From_ov N).ov_ok _) (extX_ok gl0) _ _ _ _ _ _ hr
    exact ⟨v, L, h1.mono (leA_none fun _ => rfl), h2⟩
  · cases hr
end Go.Proofs.YtgkdfggnlpojoaaDoor

namespace Go.Proofs.YtgkdfggnlpojoaaDoor
open Go Go.E
set_option maxRecDepth 100000
set_option maxHeartbeats 4000000
set_option linter.unusedVariables false
noncomputable def law14_From_hs : Hints := [([9], ⟨[], [(2, .as (.ptr (.l 2) [] tBond))], [], [(.l 2, .box (.d tBond))], []⟩)]
noncomputable def law14_From_ov (N : Nat) : OvS (X0 gl0) where
  g R := [(17, law12_From_g N)]
  ok := fun R => List.forall_mem_cons.2 ⟨law12_From_ok N, fun _ h => nomatch h⟩
/-- tollhouse/tollhouselaw14.From, on data. -/
noncomputable def law14_From_p0 {R : Type} (N : Nat) (a0 : C) (k1 : KD R) : Option R :=
  (law12_From_p N (C.get a0 8) (fun d1 m1 =>
    (k1 [C.agg
    [C.get a0 0, C.get a0 1,
      C.set
        (C.set (C.agg [C.agg [C.agg (List.replicate 32 (C.int 0)), C.agg (List.replicate 32 (C.int 0))], C.int 0]) 0
          (C.set
            (C.set (zeroC (Ty.arr 2 (Ty.arr 32 (Ty.int IntKind.u8)))) 0
              (C.get (C.get (C.get a0 2) 0) (Int.toNat (Int.ofNat 0))))
            1 (C.get (C.get (C.get a0 2) 0) (Int.toNat (Int.ofNat 1)))))
        1 (C.get (C.get a0 2) 1),
      C.get a0 3, C.get a0 4, C.get a0 5, C.get a0 6, C.get a0 7, dk d1 0]] [])))
noncomputable def law14_From_p {R : Type} (N : Nat) : C → KD R → Option R := lid "law14_From_p N" (law14_From_p0 N)
theorem law14_From_pe {R : Type} (N : Nat) (a0 : C) (k : KD R) : law14_From_p N a0 k = law14_From_p0 N a0 k := by unfold law14_From_p; rw [lid_eq]
theorem law14_From_run {R : Type} (N : Nat) (a0 : C) (K : V → List (Key × O) → Option R) : exF (X0 gl0) ((law14_From_ov N).ov R) extX (fun f r => bif Nat.beq f 8 then (bif Nat.beq r 0 then [(1, 5)] else bif Nat.beq r 1 then [(32, 7)] else []) else []) (fun f => bif Nat.beq f 8 then law14_From_hs else []) N 400 8 8 [.d tBond a0] A0 K =
    law14_From_p N a0 (fun d1 m1 => K (V.d tBond (dk d1 0)) []) := by
  rw [law14_From_pe]
  exact (show _ = jn (fun d1 m1 => K (V.d tBond (dk d1 0)) []) (law14_From_p0 N a0) by kernel_rfl).trans (jn_eq _ _)
noncomputable def law14_From_g (N : Nat) {R : Type} : OvG R := fun xs _ K => match xs with
  | [.d t0 a0] => if t0 = tBond then law14_From_p N a0 (fun d1 m1 => K (V.d tBond (dk d1 0)) []) else none
  | _ => none
theorem law14_From_ok (N : Nat) {R : Type} : GOk (X0 gl0) 8 (law14_From_g N (R := R)) := by
  intro xs A Kr r hr
  unfold law14_From_g at hr
  split at hr
  · simp only [Option.ite_none_right_eq_some] at hr
    obtain ⟨hty, hr⟩ := hr
    subst hty
    rw [← law14_From_run] at hr
    obtain ⟨v, L, h1, h2⟩ := exF_ok (ok0 gl0) (mo gl0) ((law14_From_ov N).ov_ok _) (extX_ok gl0) _ _ _ _ _ _ hr
    exact ⟨v, L, h1.mono (leA_none fun _ => rfl), h2⟩
  · cases hr
end Go.Proofs.YtgkdfggnlpojoaaDoor

namespace Go.Proofs.YtgkdfggnlpojoaaDoor
open Go Go.E
set_option maxRecDepth 100000
set_option maxHeartbeats 4000000
set_option linter.unusedVariables false
noncomputable def pact_Twin_hs : Hints := [([9], ⟨[], [(2, .as (.ptr (.l 2) [] tState))], [], [(.l 2, .box (.d tState))], []⟩)]
noncomputable def pact_Twin_ov (N : Nat) : OvS (X0 gl0) where
  g R := [(29, cl_Cond_g N)]
  ok := fun R => List.forall_mem_cons.2 ⟨cl_Cond_ok N, fun _ h => nomatch h⟩
/-- tollhouse/pact.Twin, on data. -/
noncomputable def pact_Twin_p0 {R : Type} (N : Nat) (a0 : C) (k1 : KD R) : Option R :=
  (bif Nat.beq (List.length (C.elems (C.get a0 4))) (List.length (C.elems (C.get a0 4))) then
    (k1 [C.agg [C.get a0 0, C.get a0 1, C.get a0 2, C.get a0 3, C.slice (C.elems (C.get a0 4))]] [])
  else
    none)
noncomputable def pact_Twin_p {R : Type} (N : Nat) : C → KD R → Option R := lid "pact_Twin_p N" (pact_Twin_p0 N)
theorem pact_Twin_pe {R : Type} (N : Nat) (a0 : C) (k : KD R) : pact_Twin_p N a0 k = pact_Twin_p0 N a0 k := by unfold pact_Twin_p; rw [lid_eq]
theorem pact_Twin_run {R : Type} (N : Nat) (a0 : C) (K : V → List (Key × O) → Option R) : exF (X0 gl0) ((pact_Twin_ov N).ov R) extX noX (fun f => bif Nat.beq f 18 then pact_Twin_hs else []) N 400 8 18 [.d tState a0] A0 K =
    pact_Twin_p N a0 (fun d1 m1 => K (V.d tState (dk d1 0)) []) := by
  rw [pact_Twin_pe]
  exact (show _ = jn (fun d1 m1 => K (V.d tState (dk d1 0)) []) (pact_Twin_p0 N a0) by kernel_rfl).trans (jn_eq _ _)
noncomputable def pact_Twin_g (N : Nat) {R : Type} : OvG R := fun xs _ K => match xs with
  | [.d t0 a0] => if t0 = tState then pact_Twin_p N a0 (fun d1 m1 => K (V.d tState (dk d1 0)) []) else none
  | _ => none
theorem pact_Twin_ok (N : Nat) {R : Type} : GOk (X0 gl0) 18 (pact_Twin_g N (R := R)) := by
  intro xs A Kr r hr
  unfold pact_Twin_g at hr
  split at hr
  · simp only [Option.ite_none_right_eq_some] at hr
    obtain ⟨hty, hr⟩ := hr
    subst hty
    rw [← pact_Twin_run] at hr
    obtain ⟨v, L, h1, h2⟩ := exF_ok (ok0 gl0) (mo gl0) ((pact_Twin_ov N).ov_ok _) (extX_ok gl0) _ _ _ _ _ _ hr
    exact ⟨v, L, h1.mono (leA_none fun _ => rfl), h2⟩
  · cases hr
end Go.Proofs.YtgkdfggnlpojoaaDoor

namespace Go.Proofs.YtgkdfggnlpojoaaDoor
open Go Go.E
set_option maxRecDepth 100000
set_option maxHeartbeats 4000000
set_option linter.unusedVariables false
noncomputable def bond_Bond_Twin_hs : Hints := [([9], ⟨[], [(2, .as (.ptr (.l 2) [] tBond))], [], [(.l 2, .box (.d tBond))], []⟩)]
noncomputable def bond_Bond_Twin_ov (N : Nat) : OvS (X0 gl0) where
  g R := [(13, cl_Byte_g N), (18, pact_Twin_g N)]
  ok := fun R => List.forall_mem_cons.2 ⟨cl_Byte_ok N, List.forall_mem_cons.2 ⟨pact_Twin_ok N, fun _ h => nomatch h⟩⟩
/-- (tollhouse/bond.Bond).Twin, on data. -/
noncomputable def bond_Bond_Twin_p0 {R : Type} (N : Nat) (a0 : C) (k1 : KD R) : Option R :=
  (pact_Twin_p N (C.get a0 8) (fun d1 m1 =>
    (bif Nat.beq (List.length (C.elems (C.get a0 3))) (List.length (C.elems (C.get a0 3))) then
      (k1 [C.agg
    [C.get a0 0, C.get a0 1, C.get a0 2, C.slice (C.elems (C.get a0 3)), C.get a0 4, C.get a0 5, C.get a0 6, C.get a0 7,
      dk d1 0]] [])
    else
      none)))
noncomputable def bond_Bond_Twin_p {R : Type} (N : Nat) : C → KD R → Option R := lid "bond_Bond_Twin_p N" (bond_Bond_Twin_p0 N)
theorem bond_Bond_Twin_pe {R : Type} (N : Nat) (a0 : C) (k : KD R) : bond_Bond_Twin_p N a0 k = bond_Bond_Twin_p0 N a0 k := by unfold bond_Bond_Twin_p; rw [lid_eq]
theorem bond_Bond_Twin_run {R : Type} (N : Nat) (a0 : C) (K : V → List (Key × O) → Option R) : exF (X0 gl0) ((bond_Bond_Twin_ov N).ov R) extX (fun f r => bif Nat.beq f 9 then (bif Nat.beq r 1 then [(8, 7)] else []) else []) (fun f => bif Nat.beq f 9 then bond_Bond_Twin_hs else []) N 400 8 9 [.d tBond a0] A0 K =
    bond_Bond_Twin_p N a0 (fun d1 m1 => K (V.d tBond (dk d1 0)) []) := by
  rw [bond_Bond_Twin_pe]
  exact (show _ = jn (fun d1 m1 => K (V.d tBond (dk d1 0)) []) (bond_Bond_Twin_p0 N a0) by kernel_rfl).trans (jn_eq _ _)
noncomputable def bond_Bond_Twin_g (N : Nat) {R : Type} : OvG R := fun xs _ K => match xs with
  | [.d t0 a0] => if t0 = tBond then bond_Bond_Twin_p N a0 (fun d1 m1 => K (V.d tBond (dk d1 0)) []) else none
  | _ => none
theorem bond_Bond_Twin_ok (N : Nat) {R : Type} : GOk (X0 gl0) 9 (bond_Bond_Twin_g N (R := R)) := by
  intro xs A Kr r hr
  unfold bond_Bond_Twin_g at hr
  split at hr
  · simp only [Option.ite_none_right_eq_some] at hr
    obtain ⟨hty, hr⟩ := hr
    subst hty
    rw [← bond_Bond_Twin_run] at hr
    obtain ⟨v, L, h1, h2⟩ := exF_ok (ok0 gl0) (mo gl0) ((bond_Bond_Twin_ov N).ov_ok _) (extX_ok gl0) _ _ _ _ _ _ hr
    exact ⟨v, L, h1.mono (leA_none fun _ => rfl), h2⟩
  · cases hr
end Go.Proofs.YtgkdfggnlpojoaaDoor

namespace Go.Proofs.YtgkdfggnlpojoaaDoor
open Go Go.E
set_option maxRecDepth 100000
set_option maxHeartbeats 4000000
set_option linter.unusedVariables false
noncomputable def slices_Index_int_int_hs : Hints := [([1, 0, 1], ⟨[], [], [], [], []⟩),
    ([4, 1, 0, 1], ⟨[0, 1, 7], [(8, .d (.int .i64))], [], [], []⟩),
    ([9], ⟨[], [(4, .d (.int .i64))], [], [], []⟩)]
noncomputable def slices_Index_int_int_ov (N : Nat) : OvS (X0 gl0) where
  g R := []
  ok := fun R => fun _ h => nomatch h
/-- A loop of it. -/
noncomputable def slices_Index_int_int_l1 {R : Type} (N : Nat) (k1 : KD R) (k2 : KD R) : KD R → List C → List Es → Option R :=
  (fun k3 d1 m1 =>
  (bif decide (C.toInt (dk d1 3) < C.toInt (dk d1 2)) then
    (if 0 ≤ C.toInt (dk d1 3) ∧ C.toInt (dk d1 3) < (↑(List.length (C.elems (dk d1 0))) : Int) then
      (bif decide (C.toInt (dk d1 1) = C.toInt (List.getD (C.elems (dk d1 0)) (Int.toNat (C.toInt (dk d1 3))) C.nil)) then
        (k1 [dk d1 3] [])
      else
        (k3 [dk d1 0, dk d1 1, dk d1 2, C.int (IntKind.wrap IntKind.i64 (C.toInt (dk d1 3) + Int.ofNat 1))] []))
    else
      none)
  else
    (k2 [] [])))
/-- slices.Index[[]int,int], on data. -/
noncomputable def slices_Index_int_int_p0 {R : Type} (N : Nat) (a0 a1 : C) (k1 : KD R) : Option R :=
  (jn (fun d1 m1 =>
    (k1 [C.int (-1)] [])) (fun k2 =>
    (loopK N (slices_Index_int_int_l1 N k1 k2) [a0, a1, C.int (↑(List.length (C.elems a0)) : Int), C.int 0] [])))
noncomputable def slices_Index_int_int_p {R : Type} (N : Nat) : C → C → KD R → Option R := lid "slices_Index_int_int_p N" (slices_Index_int_int_p0 N)
theorem slices_Index_int_int_pe {R : Type} (N : Nat) (a0 a1 : C) (k : KD R) : slices_Index_int_int_p N a0 a1 k = slices_Index_int_int_p0 N a0 a1 k := by unfold slices_Index_int_int_p; rw [lid_eq]
theorem slices_Index_int_int_run {R : Type} (N : Nat) (a0 a1 : C) (K : V → List (Key × O) → Option R) : exF (X0 gl0) ((slices_Index_int_int_ov N).ov R) extX noX (fun f => bif Nat.beq f 19 then slices_Index_int_int_hs else []) N 400 8 19 [.d (.slice 8 (.int .i64)) a0, .d (.int .i64) a1] A0 K =
    slices_Index_int_int_p N a0 a1 (fun d1 m1 => K (V.d (Ty.int IntKind.i64) (dk d1 0)) []) := by
  rw [slices_Index_int_int_pe]
  exact (show _ = jn (fun d1 m1 => K (V.d (Ty.int IntKind.i64) (dk d1 0)) []) (slices_Index_int_int_p0 N a0 a1) by kernel_rfl).trans (jn_eq _ _)
noncomputable def slices_Index_int_int_g (N : Nat) {R : Type} : OvG R := fun xs _ K => match xs with
  | [.d t0 a0, .d t1 a1] => if t0 = (.slice 8 (.int .i64)) ∧ t1 = (.int .i64) then slices_Index_int_int_p N a0 a1 (fun d1 m1 => K (V.d (Ty.int IntKind.i64) (dk d1 0)) []) else none
  | _ => none
theorem slices_Index_int_int_ok (N : Nat) {R : Type} : GOk (X0 gl0) 19 (slices_Index_int_int_g N (R := R)) := by
  intro xs A Kr r hr
  unfold slices_Index_int_int_g at hr
  split at hr
  · simp only [Option.ite_none_right_eq_some] at hr
    obtain ⟨hty, hr⟩ := hr
    obtain ⟨rfl, rfl⟩ := hty
    rw [← slices_Index_int_int_run] at hr
    obtain ⟨v, L, h1, h2⟩ := exF_ok (ok0 gl0) (mo gl0) ((slices_Index_int_int_ov N).ov_ok _) (extX_ok gl0) _ _ _ _ _ _ hr
    exact ⟨v, L, h1.mono (leA_none fun _ => rfl), h2⟩
  · cases hr
end Go.Proofs.YtgkdfggnlpojoaaDoor

namespace Go.Proofs.YtgkdfggnlpojoaaDoor
open Go Go.E
set_option maxRecDepth 100000
set_option maxHeartbeats 4000000
set_option linter.unusedVariables false
noncomputable def bond_Bond_Side_hs : Hints := [([9], ⟨[], [(4, .d (.int .i64)), (5, .d .bool)], [], [], []⟩)]
noncomputable def bond_Bond_Side_ov (N : Nat) : OvS (X0 gl0) where
  g R := [(19, slices_Index_int_int_g N)]
  ok := fun R => List.forall_mem_cons.2 ⟨slices_Index_int_int_ok N, fun _ h => nomatch h⟩
/-- (tollhouse/bond.Bond).Side, on data. -/
noncomputable def bond_Bond_Side_p0 {R : Type} (N : Nat) (a0 a1 : C) (k1 : KD R) : Option R :=
  (slices_Index_int_int_p N (C.slice (cut (C.elems (C.get a0 1)) 0 2)) a1 (fun d1 m1 =>
    (k1 [C.int (if C.toInt (dk d1 0) < Int.ofNat 0 then Int.ofNat 0 else C.toInt (dk d1 0)),
  C.bool (decide (Int.ofNat 0 ≤ C.toInt (dk d1 0)))] [])))
noncomputable def bond_Bond_Side_p {R : Type} (N : Nat) : C → C → KD R → Option R := lid "bond_Bond_Side_p N" (bond_Bond_Side_p0 N)
theorem bond_Bond_Side_pe {R : Type} (N : Nat) (a0 a1 : C) (k : KD R) : bond_Bond_Side_p N a0 a1 k = bond_Bond_Side_p0 N a0 a1 k := by unfold bond_Bond_Side_p; rw [lid_eq]
theorem bond_Bond_Side_run {R : Type} (N : Nat) (a0 a1 : C) (K : V → List (Key × O) → Option R) : exF (X0 gl0) ((bond_Bond_Side_ov N).ov R) extX (fun f r => bif Nat.beq f 10 then (bif Nat.beq r 0 then [(2, 5)] else []) else []) (fun f => bif Nat.beq f 10 then bond_Bond_Side_hs else []) N 400 8 10 [.d tBond a0, .d (.int .i64) a1] A0 K =
    bond_Bond_Side_p N a0 a1 (fun d1 m1 => K (V.tup [V.d (Ty.int IntKind.i64) (dk d1 0), V.d Ty.bool (C.bool (C.toBool (dk d1 1)))]) []) := by
  rw [bond_Bond_Side_pe]
  exact (show _ = jn (fun d1 m1 => K (V.tup [V.d (Ty.int IntKind.i64) (dk d1 0), V.d Ty.bool (C.bool (C.toBool (dk d1 1)))]) []) (bond_Bond_Side_p0 N a0 a1) by kernel_rfl).trans (jn_eq _ _)
noncomputable def bond_Bond_Side_g (N : Nat) {R : Type} : OvG R := fun xs _ K => match xs with
  | [.d t0 a0, .d t1 a1] => if t0 = tBond ∧ t1 = (.int .i64) then bond_Bond_Side_p N a0 a1 (fun d1 m1 => K (V.tup [V.d (Ty.int IntKind.i64) (dk d1 0), V.d Ty.bool (C.bool (C.toBool (dk d1 1)))]) []) else none
  | _ => none
theorem bond_Bond_Side_ok (N : Nat) {R : Type} : GOk (X0 gl0) 10 (bond_Bond_Side_g N (R := R)) := by
  intro xs A Kr r hr
  unfold bond_Bond_Side_g at hr
  split at hr
  · simp only [Option.ite_none_right_eq_some] at hr
    obtain ⟨hty, hr⟩ := hr
    obtain ⟨rfl, rfl⟩ := hty
    rw [← bond_Bond_Side_run] at hr
    obtain ⟨v, L, h1, h2⟩ := exF_ok (ok0 gl0) (mo gl0) ((bond_Bond_Side_ov N).ov_ok _) (extX_ok gl0) _ _ _ _ _ _ hr
    exact ⟨v, L, h1.mono (leA_none fun _ => rfl), h2⟩
  · cases hr
end Go.Proofs.YtgkdfggnlpojoaaDoor

namespace Go.Proofs.YtgkdfggnlpojoaaDoor
open Go Go.E
set_option maxRecDepth 100000
set_option maxHeartbeats 4000000
set_option linter.unusedVariables false
noncomputable def law14_awake_hs : Hints := [([0, 1, 1, 1, 1, 1], ⟨[], [(0, .d .bool)], [], [], []⟩),
    ([9], ⟨[], [(0, .d .bool)], [], [], []⟩)]
noncomputable def law14_awake_ov (N : Nat) : OvS (X0 gl0) where
  g R := [(13, cl_Byte_g N), (29, cl_Cond_g N)]
  ok := fun R => List.forall_mem_cons.2 ⟨cl_Byte_ok N, List.forall_mem_cons.2 ⟨cl_Cond_ok N, fun _ h => nomatch h⟩⟩
/-- tollhouse/tollhouselaw14.awake, on data. -/
noncomputable def law14_awake_p0 {R : Type} (N : Nat)  (k1 : KD R) : Option R :=
  (jn (fun d1 m1 =>
    (k1 [C.bool (C.toBool (dk d1 0))] [])) (fun k2 =>
    (k2 [C.bool true] [])))
noncomputable def law14_awake_p {R : Type} (N : Nat) : KD R → Option R := lid "law14_awake_p N" (law14_awake_p0 N)
theorem law14_awake_pe {R : Type} (N : Nat)  (k : KD R) : law14_awake_p N  k = law14_awake_p0 N  k := by unfold law14_awake_p; rw [lid_eq]
theorem law14_awake_run {R : Type} (N : Nat)  (K : V → List (Key × O) → Option R) : exF (X0 gl0) ((law14_awake_ov N).ov R) extX (fun f r => bif Nat.beq f 4 then (bif Nat.beq r 0 then [(5, 5), (6, 5)] else []) else bif Nat.beq f 21 then (bif Nat.beq r 0 then [(4, 5)] else []) else bif Nat.beq f 32 then (bif Nat.beq r 0 then [(2, 5), (3, 5)] else []) else bif Nat.beq f 38 then (bif Nat.beq r 0 then [(3, 5), (4, 5)] else []) else bif Nat.beq f 44 then (bif Nat.beq r 0 then [(2, 5), (3, 5)] else []) else bif Nat.beq f 45 then (bif Nat.beq r 0 then [(4, 5), (6, 5), (7, 5)] else []) else bif Nat.beq f 54 then (bif Nat.beq r 0 then [(5, 5), (6, 5), (9, 5)] else []) else bif Nat.beq f 65 then (bif Nat.beq r 0 then [(2, 5), (3, 5)] else []) else bif Nat.beq f 71 then (bif Nat.beq r 0 then [(2, 5)] else []) else bif Nat.beq f 72 then (bif Nat.beq r 0 then [(1, 5)] else []) else bif Nat.beq f 73 then (bif Nat.beq r 0 then [(1, 5)] else []) else bif Nat.beq f 66 then (bif Nat.beq r 0 then [(2, 5), (3, 5)] else []) else bif Nat.beq f 56 then (bif Nat.beq r 0 then [(1, 5)] else []) else bif Nat.beq f 69 then (bif Nat.beq r 0 then [(3, 5)] else []) else bif Nat.beq f 81 then (bif Nat.beq r 0 then [(3, 5)] else []) else bif Nat.beq f 39 then (bif Nat.beq r 0 then [(2, 5), (3, 5)] else []) else bif Nat.beq f 42 then (bif Nat.beq r 0 then [(3, 5), (4, 5)] else []) else bif Nat.beq f 51 then (bif Nat.beq r 0 then [(2, 5)] else []) else bif Nat.beq f 47 then (bif Nat.beq r 0 then [(2, 5)] else []) else bif Nat.beq f 58 then (bif Nat.beq r 0 then [(2, 5)] else []) else bif Nat.beq f 33 then (bif Nat.beq r 0 then [(3, 5)] else []) else bif Nat.beq f 34 then (bif Nat.beq r 0 then [(1, 5)] else []) else bif Nat.beq f 40 then (bif Nat.beq r 0 then [(4, 5)] else []) else bif Nat.beq f 49 then (bif Nat.beq r 0 then [(4, 5)] else []) else bif Nat.beq f 23 then (bif Nat.beq r 20 then [(12, 6), (3, 6)] else []) else bif Nat.beq f 41 then (bif Nat.beq r 0 then [(4, 5)] else []) else bif Nat.beq f 50 then (bif Nat.beq r 0 then [(4, 5)] else []) else bif Nat.beq f 64 then (bif Nat.beq r 0 then [(3, 5)] else []) else bif Nat.beq f 36 then (bif Nat.beq r 0 then [(4, 5), (5, 5), (6, 5)] else bif Nat.beq r 14 then [(61, 4)] else bif Nat.beq r 18 then [(19, 6)] else []) else []) (fun f => bif Nat.beq f 11 then law14_awake_hs else []) N 3000 20 11 [] A0 K =
    law14_awake_p N  (fun d1 m1 => K (V.d Ty.bool (C.bool (C.toBool (dk d1 0)))) []) := by
  rw [law14_awake_pe]
  exact (show _ = jn (fun d1 m1 => K (V.d Ty.bool (C.bool (C.toBool (dk d1 0)))) []) (law14_awake_p0 N ) by kernel_rfl).trans (jn_eq _ _)
noncomputable def law14_awake_g (N : Nat) {R : Type} : OvG R := fun xs _ K => match xs with
  | [] => law14_awake_p N  (fun d1 m1 => K (V.d Ty.bool (C.bool (C.toBool (dk d1 0)))) [])
  | _ => none
theorem law14_awake_ok (N : Nat) {R : Type} : GOk (X0 gl0) 11 (law14_awake_g N (R := R)) := by
  intro xs A Kr r hr
  unfold law14_awake_g at hr
  split at hr
  · skip
    rw [← law14_awake_run] at hr
    obtain ⟨v, L, h1, h2⟩ := exF_ok (ok0 gl0) (mo gl0) ((law14_awake_ov N).ov_ok _) (extX_ok gl0) _ _ _ _ _ _ hr
    exact ⟨v, L, h1.mono (leA_none fun _ => rfl), h2⟩
  · cases hr
end Go.Proofs.YtgkdfggnlpojoaaDoor

namespace Go.Proofs.YtgkdfggnlpojoaaDoor
open Go Go.E
set_option maxRecDepth 100000
set_option maxHeartbeats 4000000
set_option linter.unusedVariables false
noncomputable def law14_BondNews_hs : Hints := [([0, 0, 1, 1, 1, 1], ⟨[4, 12, 14], [(56, .d .bool)], [], [], []⟩),
    ([0, 1, 1, 1, 1, 1, 1, 1], ⟨[4, 14, 16, 17, 18], [(19, .d .bool)], [], [], []⟩),
    ([0, 0, 1, 1, 1, 1, 1, 1, 1, 1], ⟨[16, 17, 18, 19], [(82, .d .bool)], [], [], []⟩),
    ([1, 0, 1, 1, 1, 1, 1, 1, 1, 1], ⟨[16, 17, 19], [(18, .d (.int .i64))], [], [], []⟩),
    ([0, 1, 1, 1, 1, 1, 1, 1, 1, 1], ⟨[], [(10, .d .bool)], [], [], []⟩),
    ([9], ⟨[], [(10, .d .bool)], [], [], []⟩)]
noncomputable def law14_BondNews_ov (N : Nat) : OvS (X0 gl0) where
  g R := [(4, bond_New_g N), (5, law13_Roots_g N), (6, ref14_New_g N), (7, ref14_Same_g N), (8, law14_From_g N), (9, bond_Bond_Twin_g N), (10, bond_Bond_Side_g N), (11, law14_awake_g N)]
  ok := fun R => List.forall_mem_cons.2 ⟨bond_New_ok N, List.forall_mem_cons.2 ⟨law13_Roots_ok N, List.forall_mem_cons.2 ⟨ref14_New_ok N, List.forall_mem_cons.2 ⟨ref14_Same_ok N, List.forall_mem_cons.2 ⟨law14_From_ok N, List.forall_mem_cons.2 ⟨bond_Bond_Twin_ok N, List.forall_mem_cons.2 ⟨bond_Bond_Side_ok N, List.forall_mem_cons.2 ⟨law14_awake_ok N, fun _ h => nomatch h⟩⟩⟩⟩⟩⟩⟩⟩
/-- tollhouse/tollhouselaw14.BondNews, on data. -/
noncomputable def law14_BondNews_p0 {R : Type} (N : Nat) (a0 a1 a2 a3 a4 : C) (k1 : KD R) : Option R :=
  (law13_Roots_p N (C.set (C.agg [C.agg [C.agg (List.replicate 32 (C.int 0)), C.agg (List.replicate 32 (C.int 0))], C.int 0]) 1 a2) (fun d1 m1 =>
    (bond_New_p N a0 a1 (dk d1 0) a3 (fun d2 m2 =>
      (ref14_New_p N a0 a1 (C.set (C.agg [C.agg [C.agg (List.replicate 32 (C.int 0)), C.agg (List.replicate 32 (C.int 0))], C.int 0]) 1 a2) a3 (fun d3 m3 =>
        (jn (fun d4 m4 =>
          (bif C.toBool (dk d4 3) then
            (k1 [C.bool false] [])
          else
            (bond_Bond_Side_p N (dk d4 1) (dk d4 0) (fun d5 m5 =>
              (jn (fun d6 m6 =>
                (jn (fun d7 m7 =>
                  (jn (fun d8 m8 =>
                    (jn (fun d9 m9 =>
                      (k1 [C.bool (C.toBool (dk d9 0))] [])) (fun k2 =>
                      (law14_awake_p N (fun d9 m9 =>
                        (bif C.toBool (dk d9 0) then
                          (bif decide (C.toInt (dk d8 0) = C.toInt (dk d8 3)) then
                            (k2 [C.bool (C.toBool (dk d8 1) == C.toBool (dk d8 2))] [])
                          else
                            (k2 [C.bool false] []))
                        else
                          (k2 [C.bool false] []))))))) (fun k2 =>
                    (bif C.toBool (dk d7 4) then
                      (k2 [dk d7 0, C.bool (C.toBool (dk d7 1)), C.bool (C.toBool (dk d7 3)), C.int 1] [])
                    else
                      (k2 [dk d7 0, C.bool (C.toBool (dk d7 1)), C.bool (C.toBool (dk d7 3)), dk d7 2] []))))) (fun k2 =>
                  (bif C.toBool (dk d6 5) then
                    (k2 [dk d6 2, C.bool (C.toBool (dk d6 3)), dk d6 4, C.bool (C.toBool (dk d6 5)),
  C.bool !decide (C.toInt (C.get (C.get (dk d6 1) 1) (Int.toNat (Int.ofNat 0))) = C.toInt (dk d6 0))] [])
                  else
                    (k2 [dk d6 2, C.bool (C.toBool (dk d6 3)), dk d6 4, C.bool (C.toBool (dk d6 5)), C.bool false] []))))) (fun k2 =>
                (bif decide (C.toInt (C.get (C.get (dk d4 2) 1) (Int.toNat (Int.ofNat 0))) = C.toInt (dk d4 0)) then
                  (k2 [dk d4 0, dk d4 2, dk d5 0, C.bool (C.toBool (dk d5 1)), C.int 0, C.bool true] [])
                else
                  (k2 [dk d4 0, dk d4 2, dk d5 0, C.bool (C.toBool (dk d5 1)), C.int 0,
  C.bool (decide (C.toInt (C.get (C.get (dk d4 2) 1) (Int.toNat (Int.ofNat 1))) = C.toInt (dk d4 0)))] [])))))))) (fun k2 =>
          (bif !decide (C.toInt (dk d2 0) = C.toInt (dk d3 0)) then
            (k2 [a4, dk d2 1, dk d3 1, C.bool true] [])
          else
            (law14_From_p N (dk d2 1) (fun d4 m4 =>
              (ref14_Same_p N (dk d4 0) (dk d3 1) (fun d5 m5 =>
                (bif !C.toBool (dk d5 0) then
                  (k2 [a4, dk d2 1, dk d3 1, C.bool true] [])
                else
                  (bond_Bond_Twin_p N (dk d2 1) (fun d6 m6 =>
                    (law14_From_p N (dk d6 0) (fun d7 m7 =>
                      (ref14_Same_p N (dk d7 0) (dk d3 1) (fun d8 m8 =>
                        (k2 [a4, dk d2 1, dk d3 1, C.bool !C.toBool (dk d8 0)] [])))))))))))))))))))))
noncomputable def law14_BondNews_p {R : Type} (N : Nat) : C → C → C → C → C → KD R → Option R := lid "law14_BondNews_p N" (law14_BondNews_p0 N)
theorem law14_BondNews_pe {R : Type} (N : Nat) (a0 a1 a2 a3 a4 : C) (k : KD R) : law14_BondNews_p N a0 a1 a2 a3 a4 k = law14_BondNews_p0 N a0 a1 a2 a3 a4 k := by unfold law14_BondNews_p; rw [lid_eq]
theorem law14_BondNews_run {R : Type} (N : Nat) (a0 a1 a2 a3 a4 : C) (K : V → List (Key × O) → Option R) : exF (X0 gl0) ((law14_BondNews_ov N).ov R) extX (fun f r => bif Nat.beq f 3 then (bif Nat.beq r 0 then [(6, 5)] else bif Nat.beq r 2 then [(26, 7), (28, 7), (11, 6)] else bif Nat.beq r 4 then [(44, 7), (46, 7), (51, 7), (52, 7), (54, 7), (12, 6), (14, 6)] else []) else []) (fun f => bif Nat.beq f 3 then law14_BondNews_hs else []) N 400 8 3 [.d (.int .u32) a0, .d (.arr 2 (.int .i64)) a1, .d (.int .i64) a2, .d (.slice 1 (.int .u8)) a3, .d (.int .i64) a4] A0 K =
    law14_BondNews_p N a0 a1 a2 a3 a4 (fun d1 m1 => K (V.d Ty.bool (C.bool (C.toBool (dk d1 0)))) []) := by
  rw [law14_BondNews_pe]
  exact (show _ = jn (fun d1 m1 => K (V.d Ty.bool (C.bool (C.toBool (dk d1 0)))) []) (law14_BondNews_p0 N a0 a1 a2 a3 a4) by kernel_rfl).trans (jn_eq _ _)
noncomputable def law14_BondNews_g (N : Nat) {R : Type} : OvG R := fun xs _ K => match xs with
  | [.d t0 a0, .d t1 a1, .d t2 a2, .d t3 a3, .d t4 a4] => if t0 = (.int .u32) ∧ t1 = (.arr 2 (.int .i64)) ∧ t2 = (.int .i64) ∧ t3 = (.slice 1 (.int .u8)) ∧ t4 = (.int .i64) then law14_BondNews_p N a0 a1 a2 a3 a4 (fun d1 m1 => K (V.d Ty.bool (C.bool (C.toBool (dk d1 0)))) []) else none
  | _ => none
theorem law14_BondNews_ok (N : Nat) {R : Type} : GOk (X0 gl0) 3 (law14_BondNews_g N (R := R)) := by
  intro xs A Kr r hr
  unfold law14_BondNews_g at hr
  split at hr
  · simp only [Option.ite_none_right_eq_some] at hr
    obtain ⟨hty, hr⟩ := hr
    obtain ⟨rfl, rfl, rfl, rfl, rfl⟩ := hty
    rw [← law14_BondNews_run] at hr
    obtain ⟨v, L, h1, h2⟩ := exF_ok (ok0 gl0) (mo gl0) ((law14_BondNews_ov N).ov_ok _) (extX_ok gl0) _ _ _ _ _ _ hr
    exact ⟨v, L, h1.mono (leA_none fun _ => rfl), h2⟩
  · cases hr
end Go.Proofs.YtgkdfggnlpojoaaDoor

namespace Go.Proofs.YtgkdfggnlpojoaaDoor
open Go Go.E
set_option maxRecDepth 100000
set_option maxHeartbeats 4000000
set_option linter.unusedSimpArgs false
variable {R : Type} {N : Nat}
/-- Nothing but noughts. -/
def zBytes : C := .agg (List.replicate 32 (.int 0))
/-- Roots of a height. -/
def rootsZ (t : C) : C := .agg [.agg [zBytes, zBytes], t]
theorem law13_Roots_z (t : C) (k : KD R) : law13_Roots_p N (C.set (C.agg [C.agg [C.agg (List.replicate 32 (C.int 0)), C.agg (List.replicate 32 (C.int 0))], C.int 0]) 1 t) k = k [rootsZ t] [] := by
  rw [law13_Roots_pe]
  rfl
theorem pact_New_eq (a : C) (k : KD R) : pact_New_p N a k = k [.agg [a, .int 0, zeroC (.arr 2 (.int .u64)), zeroC (.arr 2 (.int .u64)), .slice []]] [] := by
  rw [pact_New_pe]
  rfl
/-- A bond that is none. -/
def zBond : C := .agg [.int 0, zeroC (.arr 2 (.int .i64)), rootsZ (.int 0), .slice [], zeroC (.arr 2 (.int .u64)), zeroC (.arr 2 (.int .u64)), .int 0, .int 0,
  .agg [.int 0, .int 0, zeroC (.arr 2 (.int .u64)), zeroC (.arr 2 (.int .u64)), .slice []]]
/-- A new one. -/
def nBond (id who roots rule : C) : C := .agg [id, who, roots, rule, zeroC (.arr 2 (.int .u64)), zeroC (.arr 2 (.int .u64)), .int 0, .int 0,
  .agg [id, .int 0, zeroC (.arr 2 (.int .u64)), zeroC (.arr 2 (.int .u64)), .slice []]]
/-- Why there is none. -/
def newE (who : C) (t : C) (rule : C) : Int :=
  if (who.get 0).toInt = (who.get 1).toInt then 1 else if t.toInt < 0 then 1 else if 8 < t.toInt then 1 else checkN rule.elems
theorem bond_New_eq (id who t rule : C) (hr : rule = .slice rule.elems) (k : KD R) :
    bond_New_p N id who (rootsZ t) rule k = k [.int (newE who t rule), if newE who t rule = 0 then nBond id who (rootsZ t) rule else zBond] [] := by
  rw [bond_New_pe]
  unfold bond_New_p0 newE
  simp only [go_sem, pact_New_eq, rootsZ, c_int, c_bool]
  by_cases h1 : (who.get 0).toInt = (who.get 1).toInt
  · simp [h1, c_bool, zBond, rootsZ, zBytes] <;> rfl
  · by_cases h2 : t.toInt < 0
    · simp [h1, h2, c_bool, zBond, rootsZ, zBytes] <;> rfl
    · by_cases h3 : 8 < t.toInt
      · simp [h1, h2, h3, c_bool, zBond, rootsZ, zBytes] <;> rfl
      · by_cases h4 : checkN rule.elems = 0
        · simp [h1, h2, h3, h4, c_bool, nBond, ← hr] <;> rfl
        · simp [h1, h2, h3, h4, c_bool, zBond, rootsZ, zBytes] <;> rfl
theorem ref14_New_eq (id who t rule : C) (k : KD R) :
    ref14_New_p N id who (C.set (C.agg [C.agg [C.agg (List.replicate 32 (C.int 0)), C.agg (List.replicate 32 (C.int 0))], C.int 0]) 1 t) rule k = k [.int (newE who t rule), if newE who t rule = 0 then nBond id who (rootsZ t) rule else zBond] [] := by
  rw [ref14_New_pe]
  unfold ref14_New_p0 newE
  simp only [go_sem, c_int, c_bool]
  by_cases h1 : (who.get 0).toInt = (who.get 1).toInt
  · simp [h1, c_bool, zBond, rootsZ, zBytes] <;> rfl
  · by_cases h2 : t.toInt < 0
    · simp [h1, h2, c_bool, zBond, rootsZ, zBytes] <;> rfl
    · by_cases h3 : 8 < t.toInt
      · simp [h1, h2, h3, c_bool, zBond, rootsZ, zBytes] <;> rfl
      · by_cases h4 : checkN rule.elems = 0
        · simp [h1, h2, h3, h4, c_bool, nBond, rootsZ, zBytes] <;> rfl
        · simp [h1, h2, h3, h4, c_bool, zBond, rootsZ, zBytes] <;> rfl
/-- A payment as the document's. -/
def condF (c : C) : C := .agg [c.get 0, c.get 1, c.get 2, c.get 3, c.get 4]
theorem law10_From_eq (c : C) (k : KD R) : law10_From_p N c k = k [condF c] [] := by
  rw [law10_From_pe]
  rfl
/-- A state as the document's. -/
def stateF (s : C) : C := .agg [s.get 0, s.get 1, s.get 2, s.get 3, .slice ((s.get 4).elems.map condF)]
theorem law12_From_eq (s : C) (hl : (s.get 4).elems.length * 64 ≤ 140737488355328) (hN : 2199023255552 < N) (k : KD R) : law12_From_p N s k = k [stateF s] [] := by
  rw [law12_From_pe]
  unfold law12_From_p0
  rw [jn_eq]
  generalize hcs : (s.get 4).elems = cs at hl
  refine loopK_count (fun i => [s.get 4, .int cs.length, .int i, s.get 0, s.get 1, s.get 2, s.get 3, .slice ((cs.take i).map condF), .agg [.int 0, .int 0, zeroC (Ty.arr 2 (Ty.int IntKind.u64)), zeroC (Ty.arr 2 (Ty.int IntKind.u64)), C.slice []]])
    (fun _ => []) cs.length (k [stateF s] []) ?_ ?_ (by omega)
  · intro i hi rec
    have h1 : (i : Int) < (cs.length : Int) := by omega
    have h2 : (cs.take i).length = i := by simp; omega
    have h3 : IntKind.i64.wrap ((i : Int) + 1) = ((i + 1 : Nat) : Int) := by rw [IntWalk.i64_in _ (by omega)]; simp
    have h4 : cs.take (i + 1) = cs.take i ++ [cs.getD i .nil] := by
      rw [List.take_add_one, List.getElem?_eq_getElem hi, List.getD_eq_getElem?_getD, List.getElem?_eq_getElem hi]; rfl
    unfold law12_From_l1
    simp only [go_sem, c_int, c_slice, hcs, h1, law10_From_eq, List.length_map, h2, List.length_append, List.length_cons, List.length_nil, Nat.zero_add, h3, h4, List.map_append, List.map_cons, List.map_nil]
    simp only [Int.natCast_nonneg, and_self, if_true, true_and]
    rw [if_pos (by omega)]
  · intro rec
    unfold law12_From_l1
    simp only [go_sem, c_int, c_slice, List.take_length, Int.lt_irrefl, stateF, hcs, if_false]
theorem stateF_n (id : C) : stateF (.agg [id, .int 0, zeroC (.arr 2 (.int .u64)), zeroC (.arr 2 (.int .u64)), .slice []]) = .agg [id, .int 0, zeroC (.arr 2 (.int .u64)), zeroC (.arr 2 (.int .u64)), .slice []] := rfl
/-- A bond without a state of anything, as the document's. -/
theorem law14_From_eq (id who t rule a b c d id2 : C) (hN : 2199023255552 < N) (k : KD R) :
    law14_From_p N (.agg [id, who, rootsZ t, rule, a, b, c, d, .agg [id2, .int 0, zeroC (.arr 2 (.int .u64)), zeroC (.arr 2 (.int .u64)), .slice []]]) k =
      k [.agg [id, who, rootsZ t, rule, a, b, c, d, .agg [id2, .int 0, zeroC (.arr 2 (.int .u64)), zeroC (.arr 2 (.int .u64)), .slice []]]] [] := by
  rw [law14_From_pe]
  unfold law14_From_p0
  rw [law12_From_eq _ (by simp only [go_sem, c_slice, List.length_nil]; omega) hN]
  rfl
theorem ref12_Same_refl (s : C) (hl : (s.get 4).elems.length < 2199023255552) (hN : 2199023255552 < N) (k : KD R) : ref12_Same_p N s s k = k [.bool true] [] := by
  rw [ref12_Same_pe]
  unfold ref12_Same_p0
  simp only [go_sem, c_bool, c_int]
  generalize hcs : (s.get 4).elems = cs at hl
  refine loopK_count (fun i => [s, s, .int i]) (fun _ => []) cs.length (k [.bool true] []) ?_ ?_ (by omega)
  · intro i hi rec
    have h1 : (i : Int) < (cs.length : Int) := by omega
    have h3 : IntKind.i64.wrap ((i : Int) + 1) = ((i + 1 : Nat) : Int) := by rw [IntWalk.i64_in _ (by omega)]; simp
    unfold ref12_Same_l1
    simp only [go_sem, c_int, c_slice, hcs, h1, h3, Int.natCast_nonneg, and_self, if_true, cond_false]
  · intro rec
    unfold ref12_Same_l1
    simp only [go_sem, c_int, c_slice, hcs, Int.lt_irrefl, if_false]
theorem ref14_Same_refl (b : C) (hl : ((b.get 8).get 4).elems.length < 2199023255552) (hN : 2199023255552 < N) (k : KD R) : ref14_Same_p N b b k = k [.bool true] [] := by
  rw [ref14_Same_pe]
  unfold ref14_Same_p0
  simp only [go_sem, c_bool, c_int, if_true, cond_true, ref12_Same_refl _ hl hN]
theorem bond_Twin_eq (id who t rule a b c d id2 : C) (hr : rule = .slice rule.elems) (k : KD R) :
    bond_Bond_Twin_p N (.agg [id, who, rootsZ t, rule, a, b, c, d, .agg [id2, .int 0, zeroC (.arr 2 (.int .u64)), zeroC (.arr 2 (.int .u64)), .slice []]]) k =
      k [.agg [id, who, rootsZ t, rule, a, b, c, d, .agg [id2, .int 0, zeroC (.arr 2 (.int .u64)), zeroC (.arr 2 (.int .u64)), .slice []]]] [] := by
  rw [bond_Bond_Twin_pe]
  unfold bond_Bond_Twin_p0
  simp only [pact_Twin_pe, pact_Twin_p0, go_sem, c_slice, cond_true]
  rw [← hr]
/-- On which side an account is. -/
def sideN (who : C) (one : Int) : Int := if one = (who.get 0).toInt then 0 else if one = (who.get 1).toInt then 1 else -1
theorem index_two (x y one : C) (hN : 2199023255552 < N) (k : KD R) :
    slices_Index_int_int_p N (.slice [x, y]) one k = k [.int (if one.toInt = x.toInt then 0 else if one.toInt = y.toInt then 1 else -1)] [] := by
  obtain ⟨n, rfl⟩ : ∃ n, N = n + 3 := ⟨N - 3, by omega⟩
  rw [slices_Index_int_int_pe]
  unfold slices_Index_int_int_p0
  rw [jn_eq, loopK_succ]
  have w0 : IntKind.i64.wrap (0 + 1) = 1 := by decide
  have w1 : IntKind.i64.wrap 1 = 1 := by decide
  have w2 : IntKind.i64.wrap 2 = 2 := by decide
  unfold slices_Index_int_int_l1
  simp only [go_sem, c_int, c_slice, List.length_cons, List.length_nil, List.getD_cons_zero, w0, Nat.zero_add, Int.reduceLT, Int.reduceLE, and_self, if_true, true_and, Int.natCast_add, Int.reduceAdd]
  by_cases h1 : one.toInt = x.toInt
  · simp [h1]
  · rw [if_neg h1, loopK_succ]
    simp only [go_sem, c_int, c_slice, List.length_cons, List.length_nil, List.getD_cons_zero, w1, Nat.zero_add, Int.reduceLT, Int.reduceLE, and_self, if_true, true_and, Int.reduceAdd, w2, h1, if_false]
    by_cases h2 : one.toInt = y.toInt
    · simp [h2]
    · rw [loopK_succ]
      simp [go_sem, c_int, c_slice, h2]
theorem Side_eq (b one x y : C) (hb : b.get 1 = .agg [x, y]) (hN : 2199023255552 < N) (k : KD R) :
    bond_Bond_Side_p N b one k = k [.int (if one.toInt = x.toInt then 0 else if one.toInt = y.toInt then 1 else 0), .bool (decide (one.toInt = x.toInt ∨ one.toInt = y.toInt))] [] := by
  rw [bond_Bond_Side_pe]
  unfold bond_Bond_Side_p0
  rw [hb]
  have e : cut (C.elems (.agg [x, y])) 0 2 = [x, y] := rfl
  rw [e, index_two x y one hN]
  simp only [go_sem, c_int]
  by_cases h1 : one.toInt = x.toInt
  · simp [h1]
  · by_cases h2 : one.toInt = y.toInt
    · have h3 : ¬ y.toInt = x.toInt := by rw [← h2]; exact h1
      simp [h2, h3]
    · simp [h1, h2]
theorem awake_eq (k : KD R) : law14_awake_p N k = k [.bool true] [] := by
  rw [law14_awake_pe]
  unfold law14_awake_p0
  simp only [go_sem]
/-- What a bond is, new or none. -/
def theBond (id who t rule : C) : C := if newE who t rule = 0 then nBond id who (rootsZ t) rule else zBond
theorem theBond_form (id who t rule : C) (hr : rule = .slice rule.elems) : ∃ i w t2 r a b c d j, r = .slice r.elems ∧ (w = who ∨ w = .agg [.int 0, .int 0]) ∧
    theBond id who t rule = .agg [i, w, rootsZ t2, r, a, b, c, d, .agg [j, .int 0, zeroC (.arr 2 (.int .u64)), zeroC (.arr 2 (.int .u64)), .slice []]] := by
  unfold theBond
  split
  · exact ⟨id, who, t, rule, _, _, _, _, id, hr, .inl rfl, rfl⟩
  · exact ⟨_, _, .int 0, .slice [], _, _, _, _, _, rfl, .inr rfl, rfl⟩
theorem Same_form (i w t2 r a b c d j : C) (hN : 2199023255552 < N) (k : KD R) :
    ref14_Same_p N (.agg [i, w, rootsZ t2, r, a, b, c, d, .agg [j, .int 0, zeroC (.arr 2 (.int .u64)), zeroC (.arr 2 (.int .u64)), .slice []]]) (.agg [i, w, rootsZ t2, r, a, b, c, d, .agg [j, .int 0, zeroC (.arr 2 (.int .u64)), zeroC (.arr 2 (.int .u64)), .slice []]]) k = k [.bool true] [] :=
  ref14_Same_refl _ (by simp [go_sem, c_slice]) hN k
theorem BondNews_eq (id x y t rule one : C) (hr : rule = .slice rule.elems) (hN : 2199023255552 < N) (k : KD R) : law14_BondNews_p N id (.agg [x, y]) t rule one k = k [.bool true] [] := by
  rw [law14_BondNews_pe]
  unfold law14_BondNews_p0
  rw [law13_Roots_z]
  simp only [dk_0, bond_New_eq id _ t rule hr, ref14_New_eq]
  obtain ⟨i, w, t2, r, a, b, c, d, j, h1, h2, h3⟩ := theBond_form id (.agg [x, y]) t rule hr
  rw [theBond] at h3
  rw [h3]
  simp only [go_sem, c_int, law14_From_eq i w t2 r a b c d j hN, bond_Twin_eq i w t2 r a b c d j h1, Same_form i w t2 r a b c d j hN, c_bool, cond_false, cond_true]
  obtain ⟨u, v, hw⟩ : ∃ u v, w = .agg [u, v] := by rcases h2 with h | h <;> exact ⟨_, _, h⟩
  subst hw
  rw [Side_eq _ one u v (by simp only [go_sem]) hN]
  simp only [go_sem, awake_eq, c_int, c_bool, eq_comm (a := u.toInt), eq_comm (a := v.toInt)]
  by_cases e1 : one.toInt = u.toInt
  · simp [e1, go_sem, c_int, c_bool]
  · by_cases e2 : one.toInt = v.toInt
    · have e3 : ¬ v.toInt = u.toInt := by rw [← e2]; exact e1
      simp [e2, e3, go_sem, c_int, c_bool]
    · simp [e1, e2, go_sem, c_int, c_bool]
theorem run_BondNews (A : Key → Option O) (id who t rule one : C) : DCalls (X0 gl0) 3 [.d (.int .u32) id, .d (.arr 2 (.int .i64)) who, .d (.int .i64) t, .d (.slice 1 (.int .u8)) rule, .d (.int .i64) one] A (.d .bool (.bool true)) [] := by
  refine dcalls_wf (ts := [.int .u32, .arr 2 (.int .i64), .int .i64, .slice 1 (.int .u8), .int .i64]) (cs := [id, who, t, rule, one]) fun W => ?_
  have h1 := W 1 _ _ rfl rfl
  have h3 := W 3 _ _ rfl rfl
  simp only [C.wf] at h1 h3
  obtain ⟨e1, e2, _⟩ := h1
  obtain ⟨x, y, hxy⟩ : ∃ x y, who = .agg [x, y] := by
    match hl : who.elems, e2 with
    | [x, y], _ => exact ⟨x, y, by rw [e1, hl]⟩
  refine of_gok (law14_BondNews_ok 2199023255553) ?_
  show law14_BondNews_g 2199023255553 [.d (.int .u32) id, .d (.arr 2 (.int .i64)) who, .d (.int .i64) t, .d (.slice 1 (.int .u8)) rule, .d (.int .i64) one] A kR = _
  simp only [law14_BondNews_g, and_self, if_true]
  rw [hxy, BondNews_eq id x y t rule one h3.1 (by omega)]
  rfl
end Go.Proofs.YtgkdfggnlpojoaaDoor
