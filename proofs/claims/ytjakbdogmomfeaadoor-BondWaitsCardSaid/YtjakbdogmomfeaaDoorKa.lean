/-
  What the functions on the way compute, part 1.
  Conditions: none.
-/
import Derived.Test.YtjakbdogmomfeaaDoorTf
import Derived.Laws.Externs
set_option linter.all false
namespace Go.Proofs.YtjakbdogmomfeaaDoor
open Go Go.E
set_option maxRecDepth 10000
set_option maxHeartbeats 4000000
set_option linter.unusedSimpArgs false
variable {gl : Nat → Option (Ty × C)}
def formC (l : List UInt8) (m c : Int) : C := .agg [.str l, .int m, .int c]
def formsC : List C := [formC [104, 97, 108, 116] 0 1, formC [112, 117, 115, 104] 8 1, formC [108, 111, 97, 100] 1 1, formC [97, 100, 100] 0 1, formC [115, 117, 98] 0 1, formC [109, 117, 108] 0 3,
  formC [108, 101, 115, 115] 0 1, formC [115, 97, 109, 101] 0 1, formC [110, 111, 116] 0 1, formC [98, 111, 116, 104] 0 1, formC [97, 110, 121] 0 1, formC [106, 117, 109, 112] 2 1, formC [105, 102] 2 1,
  formC [116, 119, 105, 99, 101] 0 1, formC [115, 119, 97, 112] 0 1, formC [100, 114, 111, 112] 0 1, formC [112, 97, 105, 100] 1 10, formC [110, 111, 119] 0 1]
def GF (gl : Nat → Option (Ty × C)) : Prop := gl 0 = some (.arr 18 tForm, .agg formsC)
def moreN (o : Int) : Nat := if o = 1 then 8 else if o = 2 ∨ o = 16 then 1 else if o = 11 ∨ o = 12 then 2 else 0
theorem moreN_le (o : Int) : moreN o ≤ 8 := by unfold moreN; (repeat' split) <;> omega
theorem forms_more : ∀ (o : Nat), o < 18 → (formsC.getD o .nil).get 1 = .int (moreN o) := by
  intro o h
  have c : o = 0 ∨ o = 1 ∨ o = 2 ∨ o = 3 ∨ o = 4 ∨ o = 5 ∨ o = 6 ∨ o = 7 ∨ o = 8 ∨ o = 9 ∨ o = 10 ∨ o = 11 ∨ o = 12 ∨ o = 13 ∨ o = 14 ∨ o = 15 ∨ o = 16 ∨ o = 17 := by omega
  rcases c with rfl | rfl | rfl | rfl | rfl | rfl | rfl | rfl | rfl | rfl | rfl | rfl | rfl | rfl | rfl | rfl | rfl | rfl <;> rfl
def bN (p : List C) (i : Nat) : Int := (p.getD i .nil).toInt
def argN (p : List C) (i : Nat) : Nat → Int
  | 0 => 0
  | k + 1 => argN p i k * 256 + bN p (i + k)
def errN (p : List C) (i : Nat) : Int :=
  if p.length ≤ i then 9 else if 18 ≤ bN p i then 33 else if p.length < i + 1 + moreN (bN p i) then 9 else 0
theorem bN_wf {p : List C} (h : C.wf (.slice 1 (.int .u8)) (.slice p)) {i : Nat} (hi : i < p.length) : p.getD i .nil = .int (bN p i) ∧ 0 ≤ bN p i ∧ bN p i ≤ 255 := by
  have := C.wf_elem (i := i) h hi
  simp only [C.elems, C.wf] at this
  have m1 : IntKind.u8.min = 0 := by decide
  have m2 : IntKind.u8.max = 255 := by decide
  exact ⟨this.1, by unfold bN; omega, by unfold bN; omega⟩
theorem argN_wf {p : List C} (h : C.wf (.slice 1 (.int .u8)) (.slice p)) {i : Nat} : ∀ {k : Nat}, i + k ≤ p.length → 0 ≤ argN p i k ∧ argN p i k < 256 ^ k
  | 0, _ => by simp [argN]
  | k + 1, hk => by
    have ih := argN_wf h (k := k) (i := i) (by omega)
    have hb := bN_wf h (i := i + k) (by omega)
    simp only [argN]
    have e : (256 : Int) ^ (k + 1) = 256 ^ k * 256 := by rw [Int.pow_succ]
    omega
theorem argN_lt {p : List C} (h : C.wf (.slice 1 (.int .u8)) (.slice p)) {i k : Nat} (hk : i + k ≤ p.length) (h8 : k ≤ 8) : 0 ≤ argN p i k ∧ argN p i k ≤ 18446744073709551615 ∧ (k < 8 → argN p i k < 72057594037927936) := by
  obtain ⟨h1, h2⟩ := argN_wf h hk
  have c : k = 0 ∨ k = 1 ∨ k = 2 ∨ k = 3 ∨ k = 4 ∨ k = 5 ∨ k = 6 ∨ k = 7 ∨ k = 8 := by omega
  rcases c with rfl | rfl | rfl | rfl | rfl | rfl | rfl | rfl | rfl <;> simp at h2 <;> omega
theorem or_byte {a b : Int} (ha : 0 ≤ a) (ha2 : a < 72057594037927936) (hb : 0 ≤ b) (hb2 : b ≤ 255) : bitsC .or .u64 (a * 256) b = a * 256 + b := by
  obtain ⟨x, rfl⟩ := Int.eq_ofNat_of_zero_le ha
  obtain ⟨y, rfl⟩ := Int.eq_ofNat_of_zero_le hb
  have hx : x < 72057594037927936 := by omega
  have hy : y < 256 := by omega
  have e1 : ((x : Int) * 256) = ((x * 256 : Nat) : Int) := by omega
  have key : (x * 256) ||| y = x * 256 + y := by
    have := Nat.two_pow_add_eq_or_of_lt (i := 8) (b := y) (by omega) x
    rw [Nat.mul_comm x 256]
    exact this.symm
  rw [e1]
  show IntKind.u64.wrap (((BitVec.ofInt 64 ((x * 256 : Nat) : Int)) ||| (BitVec.ofInt 64 ((y : Nat) : Int))).toNat : Int) = _
  simp only [BitVec.toNat_or, BitVec.ofInt_natCast, BitVec.toNat_ofNat]
  rw [Nat.mod_eq_of_lt (by omega), Nat.mod_eq_of_lt (by omega), key]
  have m1 : IntKind.u64.min = 0 := by decide
  have m2 : IntKind.u64.max = 18446744073709551615 := by decide
  exact (wrap_id (by omega) (by omega)).trans (by omega)
def fetchV (p : List C) (i : Nat) : V := .tup [.d (.int .i64) (.int (if errN p i = 0 then bN p i else 0)), .d (.int .u64) (.int (if errN p i = 0 then argN p (i + 1) (moreN (bN p i)) else 0)),
  .d (.int .i64) (.int (if errN p i = 0 then ((i + 1 + moreN (bN p i) : Nat) : Int) else 0)), .d (.int .i64) (.int (errN p i))]
theorem code_fetch (hg : GF gl) (A : Key → Option O) (p : List C) (at_ : Nat) (hl : p.length ≤ 256) (hat : at_ ≤ 100000) : DCalls (X0 gl) 23 [.d (.slice 1 (.int .u8)) (.slice p), .d (.int .i64) (.int at_)] A (fetchV p at_) [] := by
  refine dcalls_intro (n := 51) (ok0 gl) Tryd.func23 rfl rfl (by simp) ?_
  intro A' hA
  refine dc_facts fun W => ?_
  have hw : C.wf (.slice 1 (.int .u8)) (.slice p) := W.at (t := 0) rfl
  clear W
  refine dc_seq (dc_region (ok0 gl) [] (by kernel_rfl) ?_)
  simp only [go_sem, ↓gx_tt, ↓gx_tf, ↓gx_ft, ↓gx_ff, ↓gx_u2, ↓gk_tt, ↓gk_tf, ↓gk_ff, ↓gk_ft, reduceCtorEq, Nat.reduceEqDiff, ↓reduceIte, Nat.reduceAdd, Nat.reduceSub, Nat.reduceLT, Nat.reduceMul, Nat.reduceBEq, Int.reduceLE, Int.reduceLT, Int.reduceAdd, Int.reduceSub, Int.reduceToNat, Int.reduceNeg, Int.reduceMul, Nat.reduceLeDiff]
  by_cases h1 : p.length ≤ at_
  · have h1' : (p.length : Int) ≤ (at_ : Int) := by omega
    have e : errN p at_ = 9 := by unfold errN; rw [if_pos h1]
    refine dc_seq (dc_seq (dc_region (ok0 gl) [] (by kernel_rfl) ?_))
    simp only [go_sem, ↓gx_tt, ↓gx_tf, ↓gx_ft, ↓gx_ff, ↓gx_u2, ↓gk_tt, ↓gk_tf, ↓gk_ff, ↓gk_ft, reduceCtorEq, Nat.reduceEqDiff, ↓reduceIte, Nat.reduceAdd, Nat.reduceSub, Nat.reduceLT, Nat.reduceMul, Nat.reduceBEq, Int.reduceLE, Int.reduceLT, Int.reduceAdd, Int.reduceSub, Int.reduceToNat, Int.reduceNeg, Int.reduceMul, Nat.reduceLeDiff, h1']
    refine dc_cond _ rfl (fun _ => ?_) (fun h => by simp at h)   -- on t13
    refine dc_seq (dc_region (ok0 gl) [] (by kernel_rfl) ?_)
    simp only [go_sem, ↓gx_tt, ↓gx_tf, ↓gx_ft, ↓gx_ff, ↓gx_u2, ↓gk_tt, ↓gk_tf, ↓gk_ff, ↓gk_ft, reduceCtorEq, Nat.reduceEqDiff, ↓reduceIte, Nat.reduceAdd, Nat.reduceSub, Nat.reduceLT, Nat.reduceMul, Nat.reduceBEq, Int.reduceLE, Int.reduceLT, Int.reduceAdd, Int.reduceSub, Int.reduceToNat, Int.reduceNeg, Int.reduceMul, Nat.reduceLeDiff]
    refine dc_ret ⟨.inr rfl, ?_⟩
    simp only [retOk, go_sem, ↓gx_tt, ↓gx_tf, ↓gx_ft, ↓gx_ff, ↓gx_u2, ↓gk_tt, ↓gk_tf, ↓gk_ff, ↓gk_ft, reduceCtorEq, Nat.reduceEqDiff, ↓reduceIte, Nat.reduceAdd, Nat.reduceSub, Nat.reduceLT, Nat.reduceMul, Nat.reduceBEq, Int.reduceLE, Int.reduceLT, Int.reduceAdd, Int.reduceSub, Int.reduceToNat, Int.reduceNeg, Int.reduceMul, Nat.reduceLeDiff, Tryd.f23, fetchV, e, Int.reduceEq, reduceIte] <;> try rfl
  · have h1' : ¬ (p.length : Int) ≤ (at_ : Int) := by omega
    have hlt : (at_ : Int) < (p.length : Int) := by omega
    have e1 : ((at_ : Int).toNat) = at_ := Int.toNat_natCast _
    obtain ⟨b1, b2, b3⟩ := bN_wf hw (i := at_) (by omega)
    refine dc_seq (dc_seq (dc_region (ok0 gl) [] (by kernel_rfl) ?_))
    simp only [go_sem, ↓gx_tt, ↓gx_tf, ↓gx_ft, ↓gx_ff, ↓gx_u2, ↓gk_tt, ↓gk_tf, ↓gk_ff, ↓gk_ft, reduceCtorEq, Nat.reduceEqDiff, ↓reduceIte, Nat.reduceAdd, Nat.reduceSub, Nat.reduceLT, Nat.reduceMul, Nat.reduceBEq, Int.reduceLE, Int.reduceLT, Int.reduceAdd, Int.reduceSub, Int.reduceToNat, Int.reduceNeg, Int.reduceMul, Nat.reduceLeDiff, h1']
    refine dc_cond _ rfl (fun h => by simp at h) (fun _ => dc_skip ?_)   -- on t13
    have w1 : IntKind.i64.wrap (bN p at_) = bN p at_ := IntWalk.i64_in _ (by omega)
    refine dc_seq (dc_region (ok0 gl) [] (by kernel_rfl) ?_)
    simp only [go_sem, ↓gx_tt, ↓gx_tf, ↓gx_ft, ↓gx_ff, ↓gx_u2, ↓gk_tt, ↓gk_tf, ↓gk_ff, ↓gk_ft, reduceCtorEq, Nat.reduceEqDiff, ↓reduceIte, Nat.reduceAdd, Nat.reduceSub, Nat.reduceLT, Nat.reduceMul, Nat.reduceBEq, Int.reduceLE, Int.reduceLT, Int.reduceAdd, Int.reduceSub, Int.reduceToNat, Int.reduceNeg, Int.reduceMul, Nat.reduceLeDiff, hlt, e1, b1, w1]
    refine ⟨by omega, ?_⟩
    by_cases h2 : 18 ≤ bN p at_
    · have e : errN p at_ = 33 := by unfold errN; rw [if_neg h1, if_pos h2]
      refine dc_seq (dc_seq (dc_region (ok0 gl) [] (by kernel_rfl) ?_))
      simp only [go_sem, ↓gx_tt, ↓gx_tf, ↓gx_ft, ↓gx_ff, ↓gx_u2, ↓gk_tt, ↓gk_tf, ↓gk_ff, ↓gk_ft, reduceCtorEq, Nat.reduceEqDiff, ↓reduceIte, Nat.reduceAdd, Nat.reduceSub, Nat.reduceLT, Nat.reduceMul, Nat.reduceBEq, Int.reduceLE, Int.reduceLT, Int.reduceAdd, Int.reduceSub, Int.reduceToNat, Int.reduceNeg, Int.reduceMul, Nat.reduceLeDiff, h2]
      refine dc_cond _ rfl (fun _ => ?_) (fun h => by simp at h)   -- on t20
      refine dc_seq (dc_region (ok0 gl) [] (by kernel_rfl) ?_)
      simp only [go_sem, ↓gx_tt, ↓gx_tf, ↓gx_ft, ↓gx_ff, ↓gx_u2, ↓gk_tt, ↓gk_tf, ↓gk_ff, ↓gk_ft, reduceCtorEq, Nat.reduceEqDiff, ↓reduceIte, Nat.reduceAdd, Nat.reduceSub, Nat.reduceLT, Nat.reduceMul, Nat.reduceBEq, Int.reduceLE, Int.reduceLT, Int.reduceAdd, Int.reduceSub, Int.reduceToNat, Int.reduceNeg, Int.reduceMul, Nat.reduceLeDiff]
      refine dc_ret ⟨.inr rfl, ?_⟩
      simp only [retOk, go_sem, ↓gx_tt, ↓gx_tf, ↓gx_ft, ↓gx_ff, ↓gx_u2, ↓gk_tt, ↓gk_tf, ↓gk_ff, ↓gk_ft, reduceCtorEq, Nat.reduceEqDiff, ↓reduceIte, Nat.reduceAdd, Nat.reduceSub, Nat.reduceLT, Nat.reduceMul, Nat.reduceBEq, Int.reduceLE, Int.reduceLT, Int.reduceAdd, Int.reduceSub, Int.reduceToNat, Int.reduceNeg, Int.reduceMul, Nat.reduceLeDiff, Tryd.f23, fetchV, e, Int.reduceEq, reduceIte] <;> try rfl
    · refine dc_seq (dc_seq (dc_region (ok0 gl) [] (by kernel_rfl) ?_))
      simp only [go_sem, ↓gx_tt, ↓gx_tf, ↓gx_ft, ↓gx_ff, ↓gx_u2, ↓gk_tt, ↓gk_tf, ↓gk_ff, ↓gk_ft, reduceCtorEq, Nat.reduceEqDiff, ↓reduceIte, Nat.reduceAdd, Nat.reduceSub, Nat.reduceLT, Nat.reduceMul, Nat.reduceBEq, Int.reduceLE, Int.reduceLT, Int.reduceAdd, Int.reduceSub, Int.reduceToNat, Int.reduceNeg, Int.reduceMul, Nat.reduceLeDiff, h2]
      refine dc_cond _ rfl (fun h => by simp at h) (fun _ => dc_skip ?_)   -- on t20
      have hm : (formsC.getD (bN p at_).toNat .nil).get 1 = .int (moreN (bN p at_)) := by
        have := forms_more (bN p at_).toNat (by omega)
        rwa [Int.toNat_of_nonneg b2] at this
      have hg' : gl 0 = _ := hg
      have m8 := moreN_le (bN p at_)
      generalize hmm : moreN (bN p at_) = m at hm m8
      have w2 : IntKind.i64.wrap ((at_ : Int) + 1) = (at_ : Int) + 1 := IntWalk.i64_in _ (by omega)
      have w3 : IntKind.i64.wrap ((at_ : Int) + 1 + (m : Int)) = (at_ : Int) + 1 + (m : Int) := IntWalk.i64_in _ (by omega)
      refine dc_seq (dc_region (ok0 gl) [] (by kernel_rfl) ?_)
      simp only [go_sem, ↓gx_tt, ↓gx_tf, ↓gx_ft, ↓gx_ff, ↓gx_u2, ↓gk_tt, ↓gk_tf, ↓gk_ff, ↓gk_ft, reduceCtorEq, Nat.reduceEqDiff, ↓reduceIte, Nat.reduceAdd, Nat.reduceSub, Nat.reduceLT, Nat.reduceMul, Nat.reduceBEq, Int.reduceLE, Int.reduceLT, Int.reduceAdd, Int.reduceSub, Int.reduceToNat, Int.reduceNeg, Int.reduceMul, Nat.reduceLeDiff, hg', hm, w2, w3]
      refine ⟨by omega, by omega, ?_⟩
      by_cases h3 : p.length < at_ + 1 + m
      · have h3' : (p.length : Int) < (at_ : Int) + 1 + (m : Int) := by omega
        have e : errN p at_ = 9 := by unfold errN; rw [if_neg h1, if_neg h2, hmm, if_pos h3]
        refine dc_seq (dc_seq (dc_region (ok0 gl) [] (by kernel_rfl) ?_))
        simp only [go_sem, ↓gx_tt, ↓gx_tf, ↓gx_ft, ↓gx_ff, ↓gx_u2, ↓gk_tt, ↓gk_tf, ↓gk_ff, ↓gk_ft, reduceCtorEq, Nat.reduceEqDiff, ↓reduceIte, Nat.reduceAdd, Nat.reduceSub, Nat.reduceLT, Nat.reduceMul, Nat.reduceBEq, Int.reduceLE, Int.reduceLT, Int.reduceAdd, Int.reduceSub, Int.reduceToNat, Int.reduceNeg, Int.reduceMul, Nat.reduceLeDiff, h3']
        refine dc_cond _ rfl (fun _ => ?_) (fun h => by simp at h)   -- on t31
        refine dc_seq (dc_region (ok0 gl) [] (by kernel_rfl) ?_)
        simp only [go_sem, ↓gx_tt, ↓gx_tf, ↓gx_ft, ↓gx_ff, ↓gx_u2, ↓gk_tt, ↓gk_tf, ↓gk_ff, ↓gk_ft, reduceCtorEq, Nat.reduceEqDiff, ↓reduceIte, Nat.reduceAdd, Nat.reduceSub, Nat.reduceLT, Nat.reduceMul, Nat.reduceBEq, Int.reduceLE, Int.reduceLT, Int.reduceAdd, Int.reduceSub, Int.reduceToNat, Int.reduceNeg, Int.reduceMul, Nat.reduceLeDiff]
        refine dc_ret ⟨.inr rfl, ?_⟩
        simp only [retOk, go_sem, ↓gx_tt, ↓gx_tf, ↓gx_ft, ↓gx_ff, ↓gx_u2, ↓gk_tt, ↓gk_tf, ↓gk_ff, ↓gk_ft, reduceCtorEq, Nat.reduceEqDiff, ↓reduceIte, Nat.reduceAdd, Nat.reduceSub, Nat.reduceLT, Nat.reduceMul, Nat.reduceBEq, Int.reduceLE, Int.reduceLT, Int.reduceAdd, Int.reduceSub, Int.reduceToNat, Int.reduceNeg, Int.reduceMul, Nat.reduceLeDiff, Tryd.f23, fetchV, e, Int.reduceEq, reduceIte] <;> try rfl
      · have h3' : ¬ (p.length : Int) < (at_ : Int) + 1 + (m : Int) := by omega
        have e : errN p at_ = 0 := by unfold errN; rw [if_neg h1, if_neg h2, hmm, if_neg h3]
        refine dc_seq (dc_seq (dc_region (ok0 gl) [] (by kernel_rfl) ?_))
        simp only [go_sem, ↓gx_tt, ↓gx_tf, ↓gx_ft, ↓gx_ff, ↓gx_u2, ↓gk_tt, ↓gk_tf, ↓gk_ff, ↓gk_ft, reduceCtorEq, Nat.reduceEqDiff, ↓reduceIte, Nat.reduceAdd, Nat.reduceSub, Nat.reduceLT, Nat.reduceMul, Nat.reduceBEq, Int.reduceLE, Int.reduceLT, Int.reduceAdd, Int.reduceSub, Int.reduceToNat, Int.reduceNeg, Int.reduceMul, Nat.reduceLeDiff, h3']
        refine dc_cond _ rfl (fun h => by simp at h) (fun _ => dc_skip ?_)   -- on t31
        have e2 : ((at_ : Int) + 1 + (m : Int)).toNat = at_ + 1 + m := by omega
        have e3 : ((at_ : Int) + 1).toNat = at_ + 1 := by omega
        refine dc_seq (dc_seq (dc_region (ok0 gl) [] (by kernel_rfl) ?_))
        simp only [go_sem, ↓gx_tt, ↓gx_tf, ↓gx_ft, ↓gx_ff, ↓gx_u2, ↓gk_tt, ↓gk_tf, ↓gk_ff, ↓gk_ft, reduceCtorEq, Nat.reduceEqDiff, ↓reduceIte, Nat.reduceAdd, Nat.reduceSub, Nat.reduceLT, Nat.reduceMul, Nat.reduceBEq, Int.reduceLE, Int.reduceLT, Int.reduceAdd, Int.reduceSub, Int.reduceToNat, Int.reduceNeg, Int.reduceMul, Nat.reduceLeDiff, w2, e2, e3]
        refine ⟨by omega, by omega, by omega, ?_⟩
        have hql : (List.drop (at_ + 1) (List.take (at_ + 1 + m) p)).length = m := by simp; omega
        have hqe : ∀ i, i < m → (List.drop (at_ + 1) (List.take (at_ + 1 + m) p)).getD i .nil = .int (bN p (at_ + 1 + i)) := by
          intro i hi
          rw [← (bN_wf hw (i := at_ + 1 + i) (by omega)).1]
          simp [List.getD_eq_getElem?_getD, List.getElem?_drop, List.getElem?_take, show at_ + 1 + i < at_ + 1 + m by omega]
        generalize hq : List.drop (at_ + 1) (List.take (at_ + 1 + m) p) = q at hql hqe
        simp only [hql]
        refine dc_block (dc_count (fun i => ⟨[(38, .d (.int .i64) (.int i)), (37, .d (.int .i64) (.int m)), (36, .d (.slice 1 (.int .u8)) (.slice q)), (6, .d (.int .i64) (.int ((at_ : Int) + 1 + (m : Int)))), (5, .d (.int .u64) (.int (argN p (at_ + 1) i))), (4, .d (.int .i64) (.int (bN p at_))), (7, .d (.int .i64) (.int 0)), (0, .d (.slice 1 (.int .u8)) (.slice p)), (1, .d (.int .i64) (.int at_))], [], A', []⟩) m (fun _ => True) ?_ trivial ?_)
        · refine weak_to rfl ?_ ?_ ?_ ?_ ?_ <;> simp only [go_sem, ↓gx_tt, ↓gx_tf, ↓gx_ft, ↓gx_ff, ↓gx_u2, ↓gk_tt, ↓gk_tf, ↓gk_ff, ↓gk_ft, reduceCtorEq, Nat.reduceEqDiff, ↓reduceIte, Nat.reduceAdd, Nat.reduceSub, Nat.reduceLT, Nat.reduceMul, Nat.reduceBEq, Int.reduceLE, Int.reduceLT, Int.reduceAdd, Int.reduceSub, Int.reduceToNat, Int.reduceNeg, Int.reduceMul, Nat.reduceLeDiff]
          all_goals first | (simp only [argN]; done) | (simp only [argN]; exact ⟨rfl, trivial⟩)
        · intro i hi _
          refine dc_seq (dc_region (ok0 gl) [] (by kernel_rfl) ?_)
          simp only [go_sem, ↓gx_tt, ↓gx_tf, ↓gx_ft, ↓gx_ff, ↓gx_u2, ↓gk_tt, ↓gk_tf, ↓gk_ff, ↓gk_ft, reduceCtorEq, Nat.reduceEqDiff, ↓reduceIte, Nat.reduceAdd, Nat.reduceSub, Nat.reduceLT, Nat.reduceMul, Nat.reduceBEq, Int.reduceLE, Int.reduceLT, Int.reduceAdd, Int.reduceSub, Int.reduceToNat, Int.reduceNeg, Int.reduceMul, Nat.reduceLeDiff]
          refine dc_seq (dc_cond _ rfl (fun hlt => dc_skip ?_) (fun hge => dc_exit ?_))
          · have hlt : i < m := by simpa using hlt
            have e4 : ((i : Int).toNat) = i := Int.toNat_natCast i
            have hqi := hqe i hlt
            obtain ⟨a1, a2, a3⟩ := argN_lt hw (i := at_ + 1) (k := i) (by omega) (by omega)
            obtain ⟨_, c2, c3⟩ := bN_wf hw (i := at_ + 1 + i) (by omega)
            have w4 : IntKind.u64.wrap (bN p (at_ + 1 + i)) = bN p (at_ + 1 + i) := wrap_id (by have : IntKind.u64.min = 0 := by decide
                                                                                                omega) (by have : IntKind.u64.max = 18446744073709551615 := by decide
                                                                                                           omega)
            have w5 : IntKind.u64.wrap (argN p (at_ + 1) i * 256) = argN p (at_ + 1) i * 256 := wrap_id (by have : IntKind.u64.min = 0 := by decide
                                                                                                            omega) (by have : IntKind.u64.max = 18446744073709551615 := by decide
                                                                                                                       omega)
            have w6 := or_byte a1 (a3 (by omega)) c2 c3
            refine dc_seq (dc_block (dc_seq (dc_region (ok0 gl) [] (by kernel_rfl) ?_)))
            simp only [go_sem, ↓gx_tt, ↓gx_tf, ↓gx_ft, ↓gx_ff, ↓gx_u2, ↓gk_tt, ↓gk_tf, ↓gk_ff, ↓gk_ft, reduceCtorEq, Nat.reduceEqDiff, ↓reduceIte, Nat.reduceAdd, Nat.reduceSub, Nat.reduceLT, Nat.reduceMul, Nat.reduceBEq, Int.reduceLE, Int.reduceLT, Int.reduceAdd, Int.reduceSub, Int.reduceToNat, Int.reduceNeg, Int.reduceMul, Nat.reduceLeDiff, e4, hqi, hql]
            refine ⟨by omega, by omega, ?_⟩
            have hp : ((2 : Int) ^ min 8 64) = 256 := by decide
            refine dc_region (ok0 gl) [] (by kernel_rfl) ?_
            simp only [go_sem, ↓gx_tt, ↓gx_tf, ↓gx_ft, ↓gx_ff, ↓gx_u2, ↓gk_tt, ↓gk_tf, ↓gk_ff, ↓gk_ft, reduceCtorEq, Nat.reduceEqDiff, ↓reduceIte, Nat.reduceAdd, Nat.reduceSub, Nat.reduceLT, Nat.reduceMul, Nat.reduceBEq, Int.reduceLE, Int.reduceLT, Int.reduceAdd, Int.reduceSub, Int.reduceToNat, Int.reduceNeg, Int.reduceMul, Nat.reduceLeDiff, w4, hp, w5, w6]
            refine dc_region (ok0 gl) [] (by kernel_rfl) ?_
            simp only [go_sem, ↓gx_tt, ↓gx_tf, ↓gx_ft, ↓gx_ff, ↓gx_u2, ↓gk_tt, ↓gk_tf, ↓gk_ff, ↓gk_ft, reduceCtorEq, Nat.reduceEqDiff, ↓reduceIte, Nat.reduceAdd, Nat.reduceSub, Nat.reduceLT, Nat.reduceMul, Nat.reduceBEq, Int.reduceLE, Int.reduceLT, Int.reduceAdd, Int.reduceSub, Int.reduceToNat, Int.reduceNeg, Int.reduceMul, Nat.reduceLeDiff]
            refine ⟨hlt, ?_⟩
            have e7 : argN p (at_ + 1) (i + 1) = argN p (at_ + 1) i * 256 + bN p (at_ + 1 + i) := rfl
            rw [e7, IntWalk.i64_in _ (by omega)]
            refine weak_to rfl ?_ ?_ ?_ ?_ ?_ <;> simp only [go_sem, ↓gx_tt, ↓gx_tf, ↓gx_ft, ↓gx_ff, ↓gx_u2, ↓gk_tt, ↓gk_tf, ↓gk_ff, ↓gk_ft, reduceCtorEq, Nat.reduceEqDiff, ↓reduceIte, Nat.reduceAdd, Nat.reduceSub, Nat.reduceLT, Nat.reduceMul, Nat.reduceBEq, Int.reduceLE, Int.reduceLT, Int.reduceAdd, Int.reduceSub, Int.reduceToNat, Int.reduceNeg, Int.reduceMul, Nat.reduceLeDiff]
            rfl
          · have hge : m ≤ i := by simpa using hge
            obtain rfl : i = m := by omega
            refine dc_seq (dc_region (ok0 gl) [] (by kernel_rfl) ?_)
            simp only [go_sem, ↓gx_tt, ↓gx_tf, ↓gx_ft, ↓gx_ff, ↓gx_u2, ↓gk_tt, ↓gk_tf, ↓gk_ff, ↓gk_ft, reduceCtorEq, Nat.reduceEqDiff, ↓reduceIte, Nat.reduceAdd, Nat.reduceSub, Nat.reduceLT, Nat.reduceMul, Nat.reduceBEq, Int.reduceLE, Int.reduceLT, Int.reduceAdd, Int.reduceSub, Int.reduceToNat, Int.reduceNeg, Int.reduceMul, Nat.reduceLeDiff]
            have e5 : ((at_ : Int) + 1 + (i : Int)) = ((at_ + 1 + i : Nat) : Int) := by omega
            simp only [e5]
            refine dc_ret ⟨.inr rfl, ?_⟩
            simp only [retOk, go_sem, ↓gx_tt, ↓gx_tf, ↓gx_ft, ↓gx_ff, ↓gx_u2, ↓gk_tt, ↓gk_tf, ↓gk_ff, ↓gk_ft, reduceCtorEq, Nat.reduceEqDiff, ↓reduceIte, Nat.reduceAdd, Nat.reduceSub, Nat.reduceLT, Nat.reduceMul, Nat.reduceBEq, Int.reduceLE, Int.reduceLT, Int.reduceAdd, Int.reduceSub, Int.reduceToNat, Int.reduceNeg, Int.reduceMul, Nat.reduceLeDiff, Tryd.f23, fetchV, e, hmm, reduceIte] <;> try rfl
end Go.Proofs.YtjakbdogmomfeaaDoor


namespace Go.Proofs.YtjakbdogmomfeaaDoor
open Go Go.E
set_option maxRecDepth 10000
set_option linter.unusedSimpArgs false
variable {gl : Nat → Option (Ty × C)}
theorem clone_Byte (A : Key → Option O) (cs : List C) : DCalls (X0 gl) 13 [.d (.slice 1 (.int .u8)) (.slice cs)] A (.ts 1 (.int .u8) cs) [] := by
  refine dcalls_intro (n := 8) (ok0 gl) Tryd.func13 rfl rfl (by simp) ?_
  intro A' hA
  refine dc_seq (dc_region (ok0 gl) [] (by kernel_rfl) ?_)
  simp only [go_sem, ↓gx_tt, ↓gx_tf, ↓gx_ft, ↓gx_ff, ↓gx_u2, ↓gk_tt, ↓gk_tf, ↓gk_ff, ↓gk_ft, reduceCtorEq, Nat.reduceEqDiff, ↓reduceIte, Nat.reduceAdd, Nat.reduceSub, Nat.reduceLT, Nat.reduceMul, Nat.reduceBEq, Int.reduceLE, Int.reduceLT, Int.reduceAdd, Int.reduceSub, Int.reduceToNat, Int.reduceNeg, Int.reduceMul, Nat.reduceLeDiff]
  refine dc_seq (dc_seq (dc_region (ok0 gl) [] (by kernel_rfl) ?_))
  cases cs with
  | nil =>
    simp only [go_sem, ↓gx_tt, ↓gx_tf, ↓gx_ft, ↓gx_ff, ↓gx_u2, ↓gk_tt, ↓gk_tf, ↓gk_ff, ↓gk_ft, reduceCtorEq, Nat.reduceEqDiff, ↓reduceIte, Nat.reduceAdd, Nat.reduceSub, Nat.reduceLT, Nat.reduceMul, Nat.reduceBEq, Int.reduceLE, Int.reduceLT, Int.reduceAdd, Int.reduceSub, Int.reduceToNat, Int.reduceNeg, Int.reduceMul, Nat.reduceLeDiff]
    refine dc_cond_top rfl ?_ (dc_skip ?_)
    · refine dc_seq (dc_region (ok0 gl) [] (by kernel_rfl) ?_)
      simp only [go_sem, ↓gx_tt, ↓gx_tf, ↓gx_ft, ↓gx_ff, ↓gx_u2, ↓gk_tt, ↓gk_tf, ↓gk_ff, ↓gk_ft, reduceCtorEq, Nat.reduceEqDiff, ↓reduceIte, Nat.reduceAdd, Nat.reduceSub, Nat.reduceLT, Nat.reduceMul, Nat.reduceBEq, Int.reduceLE, Int.reduceLT, Int.reduceAdd, Int.reduceSub, Int.reduceToNat, Int.reduceNeg, Int.reduceMul, Nat.reduceLeDiff]
      refine dc_ret ⟨.inr rfl, ?_⟩
      simp only [retOk, go_sem, ↓gx_tt, ↓gx_tf, ↓gx_ft, ↓gx_ff, ↓gx_u2, ↓gk_tt, ↓gk_tf, ↓gk_ff, ↓gk_ft, reduceCtorEq, Nat.reduceEqDiff, ↓reduceIte, Nat.reduceAdd, Nat.reduceSub, Nat.reduceLT, Nat.reduceMul, Nat.reduceBEq, Int.reduceLE, Int.reduceLT, Int.reduceAdd, Int.reduceSub, Int.reduceToNat, Int.reduceNeg, Int.reduceMul, Nat.reduceLeDiff, Tryd.f13]
    · refine dc_seq (dc_region (ok0 gl) [] (by kernel_rfl) ?_)
      simp only [go_sem, ↓gx_tt, ↓gx_tf, ↓gx_ft, ↓gx_ff, ↓gx_u2, ↓gk_tt, ↓gk_tf, ↓gk_ff, ↓gk_ft, reduceCtorEq, Nat.reduceEqDiff, ↓reduceIte, Nat.reduceAdd, Nat.reduceSub, Nat.reduceLT, Nat.reduceMul, Nat.reduceBEq, Int.reduceLE, Int.reduceLT, Int.reduceAdd, Int.reduceSub, Int.reduceToNat, Int.reduceNeg, Int.reduceMul, Nat.reduceLeDiff]
      refine dc_ret ⟨.inr rfl, ?_⟩
      simp only [retOk, go_sem, ↓gx_tt, ↓gx_tf, ↓gx_ft, ↓gx_ff, ↓gx_u2, ↓gk_tt, ↓gk_tf, ↓gk_ff, ↓gk_ft, reduceCtorEq, Nat.reduceEqDiff, ↓reduceIte, Nat.reduceAdd, Nat.reduceSub, Nat.reduceLT, Nat.reduceMul, Nat.reduceBEq, Int.reduceLE, Int.reduceLT, Int.reduceAdd, Int.reduceSub, Int.reduceToNat, Int.reduceNeg, Int.reduceMul, Nat.reduceLeDiff, Tryd.f13]
  | cons c cs =>
    simp only [go_sem, ↓gx_tt, ↓gx_tf, ↓gx_ft, ↓gx_ff, ↓gx_u2, ↓gk_tt, ↓gk_tf, ↓gk_ff, ↓gk_ft, reduceCtorEq, Nat.reduceEqDiff, ↓reduceIte, Nat.reduceAdd, Nat.reduceSub, Nat.reduceLT, Nat.reduceMul, Nat.reduceBEq, Int.reduceLE, Int.reduceLT, Int.reduceAdd, Int.reduceSub, Int.reduceToNat, Int.reduceNeg, Int.reduceMul, Nat.reduceLeDiff]
    refine dc_cond _ rfl (fun h => by simp at h) (fun _ => dc_skip ?_)
    refine dc_seq (dc_region (ok0 gl) [] (by kernel_rfl) ?_)
    simp only [go_sem, ↓gx_tt, ↓gx_tf, ↓gx_ft, ↓gx_ff, ↓gx_u2, ↓gk_tt, ↓gk_tf, ↓gk_ff, ↓gk_ft, reduceCtorEq, Nat.reduceEqDiff, ↓reduceIte, Nat.reduceAdd, Nat.reduceSub, Nat.reduceLT, Nat.reduceMul, Nat.reduceBEq, Int.reduceLE, Int.reduceLT, Int.reduceAdd, Int.reduceSub, Int.reduceToNat, Int.reduceNeg, Int.reduceMul, Nat.reduceLeDiff]
    refine dc_ret ⟨.inr rfl, ?_⟩
    simp only [retOk, go_sem, ↓gx_tt, ↓gx_tf, ↓gx_ft, ↓gx_ff, ↓gx_u2, ↓gk_tt, ↓gk_tf, ↓gk_ff, ↓gk_ft, reduceCtorEq, Nat.reduceEqDiff, ↓reduceIte, Nat.reduceAdd, Nat.reduceSub, Nat.reduceLT, Nat.reduceMul, Nat.reduceBEq, Int.reduceLE, Int.reduceLT, Int.reduceAdd, Int.reduceSub, Int.reduceToNat, Int.reduceNeg, Int.reduceMul, Nat.reduceLeDiff, Tryd.f13]
theorem clone_Cond (A : Key → Option O) (cs : List C) : DCalls (X0 gl) 32 [.d (.slice 64 tCond) (.slice cs)] A (.ts 64 tCond cs) [] := by
  refine dcalls_intro (n := 8) (ok0 gl) Tryd.func32 rfl rfl (by simp) ?_
  intro A' hA
  refine dc_seq (dc_region (ok0 gl) [] (by kernel_rfl) ?_)
  simp only [go_sem, ↓gx_tt, ↓gx_tf, ↓gx_ft, ↓gx_ff, ↓gx_u2, ↓gk_tt, ↓gk_tf, ↓gk_ff, ↓gk_ft, reduceCtorEq, Nat.reduceEqDiff, ↓reduceIte, Nat.reduceAdd, Nat.reduceSub, Nat.reduceLT, Nat.reduceMul, Nat.reduceBEq, Int.reduceLE, Int.reduceLT, Int.reduceAdd, Int.reduceSub, Int.reduceToNat, Int.reduceNeg, Int.reduceMul, Nat.reduceLeDiff]
  refine dc_seq (dc_seq (dc_region (ok0 gl) [] (by kernel_rfl) ?_))
  cases cs with
  | nil =>
    simp only [go_sem, ↓gx_tt, ↓gx_tf, ↓gx_ft, ↓gx_ff, ↓gx_u2, ↓gk_tt, ↓gk_tf, ↓gk_ff, ↓gk_ft, reduceCtorEq, Nat.reduceEqDiff, ↓reduceIte, Nat.reduceAdd, Nat.reduceSub, Nat.reduceLT, Nat.reduceMul, Nat.reduceBEq, Int.reduceLE, Int.reduceLT, Int.reduceAdd, Int.reduceSub, Int.reduceToNat, Int.reduceNeg, Int.reduceMul, Nat.reduceLeDiff]
    refine dc_cond_top rfl ?_ (dc_skip ?_)
    · refine dc_seq (dc_region (ok0 gl) [] (by kernel_rfl) ?_)
      simp only [go_sem, ↓gx_tt, ↓gx_tf, ↓gx_ft, ↓gx_ff, ↓gx_u2, ↓gk_tt, ↓gk_tf, ↓gk_ff, ↓gk_ft, reduceCtorEq, Nat.reduceEqDiff, ↓reduceIte, Nat.reduceAdd, Nat.reduceSub, Nat.reduceLT, Nat.reduceMul, Nat.reduceBEq, Int.reduceLE, Int.reduceLT, Int.reduceAdd, Int.reduceSub, Int.reduceToNat, Int.reduceNeg, Int.reduceMul, Nat.reduceLeDiff]
      refine dc_ret ⟨.inr rfl, ?_⟩
      simp only [retOk, go_sem, ↓gx_tt, ↓gx_tf, ↓gx_ft, ↓gx_ff, ↓gx_u2, ↓gk_tt, ↓gk_tf, ↓gk_ff, ↓gk_ft, reduceCtorEq, Nat.reduceEqDiff, ↓reduceIte, Nat.reduceAdd, Nat.reduceSub, Nat.reduceLT, Nat.reduceMul, Nat.reduceBEq, Int.reduceLE, Int.reduceLT, Int.reduceAdd, Int.reduceSub, Int.reduceToNat, Int.reduceNeg, Int.reduceMul, Nat.reduceLeDiff, Tryd.f32]
    · refine dc_seq (dc_region (ok0 gl) [] (by kernel_rfl) ?_)
      simp only [go_sem, ↓gx_tt, ↓gx_tf, ↓gx_ft, ↓gx_ff, ↓gx_u2, ↓gk_tt, ↓gk_tf, ↓gk_ff, ↓gk_ft, reduceCtorEq, Nat.reduceEqDiff, ↓reduceIte, Nat.reduceAdd, Nat.reduceSub, Nat.reduceLT, Nat.reduceMul, Nat.reduceBEq, Int.reduceLE, Int.reduceLT, Int.reduceAdd, Int.reduceSub, Int.reduceToNat, Int.reduceNeg, Int.reduceMul, Nat.reduceLeDiff]
      refine dc_ret ⟨.inr rfl, ?_⟩
      simp only [retOk, go_sem, ↓gx_tt, ↓gx_tf, ↓gx_ft, ↓gx_ff, ↓gx_u2, ↓gk_tt, ↓gk_tf, ↓gk_ff, ↓gk_ft, reduceCtorEq, Nat.reduceEqDiff, ↓reduceIte, Nat.reduceAdd, Nat.reduceSub, Nat.reduceLT, Nat.reduceMul, Nat.reduceBEq, Int.reduceLE, Int.reduceLT, Int.reduceAdd, Int.reduceSub, Int.reduceToNat, Int.reduceNeg, Int.reduceMul, Nat.reduceLeDiff, Tryd.f32]
  | cons c cs =>
    simp only [go_sem, ↓gx_tt, ↓gx_tf, ↓gx_ft, ↓gx_ff, ↓gx_u2, ↓gk_tt, ↓gk_tf, ↓gk_ff, ↓gk_ft, reduceCtorEq, Nat.reduceEqDiff, ↓reduceIte, Nat.reduceAdd, Nat.reduceSub, Nat.reduceLT, Nat.reduceMul, Nat.reduceBEq, Int.reduceLE, Int.reduceLT, Int.reduceAdd, Int.reduceSub, Int.reduceToNat, Int.reduceNeg, Int.reduceMul, Nat.reduceLeDiff]
    refine dc_cond _ rfl (fun h => by simp at h) (fun _ => dc_skip ?_)
    refine dc_seq (dc_region (ok0 gl) [] (by kernel_rfl) ?_)
    simp only [go_sem, ↓gx_tt, ↓gx_tf, ↓gx_ft, ↓gx_ff, ↓gx_u2, ↓gk_tt, ↓gk_tf, ↓gk_ff, ↓gk_ft, reduceCtorEq, Nat.reduceEqDiff, ↓reduceIte, Nat.reduceAdd, Nat.reduceSub, Nat.reduceLT, Nat.reduceMul, Nat.reduceBEq, Int.reduceLE, Int.reduceLT, Int.reduceAdd, Int.reduceSub, Int.reduceToNat, Int.reduceNeg, Int.reduceMul, Nat.reduceLeDiff]
    refine dc_ret ⟨.inr rfl, ?_⟩
    simp only [retOk, go_sem, ↓gx_tt, ↓gx_tf, ↓gx_ft, ↓gx_ff, ↓gx_u2, ↓gk_tt, ↓gk_tf, ↓gk_ff, ↓gk_ft, reduceCtorEq, Nat.reduceEqDiff, ↓reduceIte, Nat.reduceAdd, Nat.reduceSub, Nat.reduceLT, Nat.reduceMul, Nat.reduceBEq, Int.reduceLE, Int.reduceLT, Int.reduceAdd, Int.reduceSub, Int.reduceToNat, Int.reduceNeg, Int.reduceMul, Nat.reduceLeDiff, Tryd.f32]
end Go.Proofs.YtjakbdogmomfeaaDoor


namespace Go.Proofs.YtjakbdogmomfeaaDoor
open Go Go.E
set_option maxRecDepth 10000
set_option linter.unusedSimpArgs false
variable {gl : Nat → Option (Ty × C)}
theorem bits_Add64 (a b : C) : EDoes (X0 gl) 25 [.d (.int .u64) a, .d (.int .u64) b, .d (.int .u64) (.int 0)] (.tup [.d (.int .u64) (.int ((a.toInt + b.toInt) % 18446744073709551616)), .d (.int .u64) (.int ((a.toInt + b.toInt) / 18446744073709551616))]) := by
  intro Γ w args hl hr
  have hs : args.size = 3 := hl.symm
  obtain ⟨e1, _, l1, m1⟩ := repV_int (hr 0 _ _ rfl (Array.getElem?_eq_getElem (by omega)))
  obtain ⟨e2, _, l2, m2⟩ := repV_int (hr 1 _ _ rfl (Array.getElem?_eq_getElem (by omega)))
  obtain ⟨e3, _, _, _⟩ := repV_int (hr 2 _ _ rfl (Array.getElem?_eq_getElem (by omega)))
  have ea : args = #[.int .u64 a.toInt, .int .u64 b.toInt, .int .u64 0] := by
    apply Array.ext
    · simpa using hs
    · intro i h1 h2
      match i with
      | 0 => simpa using e1
      | 1 => simpa using e2
      | 2 => simpa [C.toInt] using e3
      | i + 3 => omega
  have z : IntKind.u64.min = 0 := by decide
  have z' : IntKind.u64.max = 18446744073709551615 := by decide
  refine ⟨.tuple #[.int .u64 ((a.toInt + b.toInt) % 18446744073709551616), .int .u64 ((a.toInt + b.toInt) / 18446744073709551616)], ?_, #[_, _], rfl, ?_⟩
  · have hrun := run_callFunc_extern (P := (X0 gl).P) (f := 25) (fn := Tryd.f25) (e := add64Entry) Tryd.func25 (by decide) rfl (by kernel_rfl) (by kernel_rfl) args w
    rw [hrun, ea, run_add64 _ _ _ (by omega) (by omega) (by omega) (by omega)]
    simp
  · refine repCaps_of rfl fun i x u hx hu => ?_
    match i with
    | 0 => simp at hx hu; subst hx; subst hu; exact ⟨rfl, repV_mk_int (by omega) (by omega)⟩
    | 1 => simp at hx hu; subst hx; subst hu; exact ⟨rfl, repV_mk_int (by omega) (by omega)⟩
    | i + 2 => simp at hx
end Go.Proofs.YtjakbdogmomfeaaDoor


namespace Go.Proofs.YtjakbdogmomfeaaDoor
open Go Go.E
set_option maxRecDepth 100000
def gl0 : Nat → Option (Ty × C) := fun g => bif Nat.beq g 0 then some (.arr 18 tForm, .agg formsC) else none
theorem gf0 : GF gl0 := rfl
theorem gl0_sub (gl : Nat → Option (Ty × C)) (h : gl 0 = some (.arr 18 tForm, .agg formsC)) : ∀ g x, gl0 g = some x → gl g = some x := by
  intro g x hx
  unfold gl0 at hx
  cases hb : Nat.beq g 0 with
  | true =>
    rw [hb, cond_true] at hx
    cases hx
    rw [Nat.eq_of_beq_eq_true hb]; exact h
  | false => rw [hb] at hx; cases hx
def add64X : List V → Option V := fun xs => match xs with
  | [.d (.int .u64) a, .d (.int .u64) b, .d (.int .u64) (.int c)] => if c = 0 then some (.tup [.d (.int .u64) (.int ((a.toInt + b.toInt) % 18446744073709551616)), .d (.int .u64) (.int ((a.toInt + b.toInt) / 18446744073709551616))]) else none
  | _ => none
def extX : ExtK := fun f => bif Nat.beq f 25 then some add64X else none
theorem extX_ok (gl : Nat → Option (Ty × C)) : ExtKOk (X0 gl) extX := by
  intro f g xs v h h'
  unfold extX at h
  cases h1 : Nat.beq f 25 with
  | true =>
    rw [h1, cond_true] at h
    obtain rfl := Nat.eq_of_beq_eq_true h1
    cases h
    unfold add64X at h'
    split at h'
    · simp only [Option.ite_none_right_eq_some, Option.some.injEq] at h'
      obtain ⟨rfl, rfl⟩ := h'
      exact bits_Add64 _ _
    · cases h'
  | false =>
    rw [h1, cond_false] at h
    cases h
def noX : FuncId → Nat → List (Nat × Nat) := fun _ _ => []
noncomputable def cl_Byte_g (_ : Nat) {R : Type} : OvG R := cloneG 1 (.int .u8)
theorem cl_Byte_ok (N : Nat) {R : Type} : GOk (X0 gl0) 13 (cl_Byte_g N (R := R)) := cloneG_ok fun A cs => clone_Byte A cs
noncomputable def cl_Cond_g (_ : Nat) {R : Type} : OvG R := cloneG 64 tCond
theorem cl_Cond_ok (N : Nat) {R : Type} : GOk (X0 gl0) 32 (cl_Cond_g N (R := R)) := cloneG_ok fun A cs => clone_Cond A cs
end Go.Proofs.YtjakbdogmomfeaaDoor


namespace Go.Proofs.YtjakbdogmomfeaaDoor
open Go Go.E
set_option maxRecDepth 10000
set_option linter.unusedSimpArgs false
variable {gl : Nat → Option (Ty × C)}
end Go.Proofs.YtjakbdogmomfeaaDoor


namespace Go.Proofs.YtjakbdogmomfeaaDoor
open Go Go.E
set_option maxRecDepth 100000
end Go.Proofs.YtjakbdogmomfeaaDoor


namespace Go.Proofs.YtjakbdogmomfeaaDoor
open Go Go.E
set_option maxRecDepth 10000
set_option maxHeartbeats 4000000
set_option linter.unusedSimpArgs false
variable {gl : Nat → Option (Ty × C)}
def scanN (p : List C) : Nat → Nat → List Nat → Int × List Nat
  | 0, _, bs => (0, bs)
  | f + 1, i, bs => if i < p.length then (if errN p i = 0 then scanN p f (i + 1 + moreN (bN p i)) (bs ++ [i]) else (errN p i, bs)) else (0, bs)
def leapN (p : List C) (i : Nat) : Bool := decide (bN p i = 11) || decide (bN p i = 12)
def toN (p : List C) (i : Nat) : Int := argN p (i + 1) (moreN (bN p i))
def leapsN (p : List C) (bs : List Nat) : List C := (bs.filter (leapN p)).map fun i => .int (toN p i)
def begC (bs : List Nat) (c : C) : C := .bool (bs.any fun j => decide (c = C.int (j : Int)))
def checkN (p : List C) : Int :=
  if 256 < p.length then 1 else if (scanN p p.length 0 []).1 ≠ 0 then (scanN p p.length 0 []).1 else
    if (leapsN p (scanN p p.length 0 []).2).all (fun c => (begC (scanN p p.length 0 []).2 c).toBool) then 0 else 10
theorem scanN_step {p : List C} {i : Nat} {bs : List Nat} {r : Int × List Nat} (hi : i < p.length) (h : scanN p (p.length - i) i bs = r) :
    (errN p i ≠ 0 → r = (errN p i, bs)) ∧ (errN p i = 0 → i + 1 + moreN (bN p i) ≤ p.length ∧ scanN p (p.length - (i + 1 + moreN (bN p i))) (i + 1 + moreN (bN p i)) (bs ++ [i]) = r) := by
  have mono : ∀ (f g j : Nat) (bs : List Nat), p.length - j ≤ f → p.length - j ≤ g → scanN p f j bs = scanN p g j bs := by
    intro f
    induction f with
    | zero =>
      intro g j bs h1 h2
      cases g with
      | zero => rfl
      | succ g => simp only [scanN]; rw [if_neg (by omega)]
    | succ f ih =>
      intro g j bs h1 h2
      cases g with
      | zero => simp only [scanN]; rw [if_neg (by omega)]
      | succ g =>
        simp only [scanN]
        split
        · split
          · exact ih _ _ _ (by omega) (by omega)
          · rfl
        · rfl
  obtain ⟨f, hf⟩ : ∃ f, p.length - i = f + 1 := ⟨p.length - i - 1, by omega⟩
  rw [hf] at h
  simp only [scanN] at h
  rw [if_pos hi] at h
  refine ⟨fun he => ?_, fun he => ⟨?_, ?_⟩⟩
  · rw [if_neg he] at h; exact h.symm
  · unfold errN at he
    rw [if_neg (by omega)] at he
    split at he
    · simp at he
    · split at he
      · simp at he
      · omega
  · rw [if_pos he] at h
    rw [← h]
    exact mono _ _ _ _ (by omega) (by omega)
theorem scanN_end {p : List C} {i : Nat} {bs : List Nat} (hi : p.length ≤ i) : scanN p (p.length - i) i bs = (0, bs) := by
  rw [show p.length - i = 0 by omega]; rfl
theorem leapsN_snoc (p : List C) (bs : List Nat) (i : Nat) : leapsN p (bs ++ [i]) = if leapN p i = true then leapsN p bs ++ [.int (toN p i)] else leapsN p bs := by
  unfold leapsN
  rw [List.filter_append]
  by_cases h : leapN p i = true
  · rw [if_pos h]; simp [h]
  · rw [if_neg h]; simp [h]
theorem leapsN_len (p : List C) (bs : List Nat) : (leapsN p bs).length ≤ bs.length := by
  unfold leapsN
  rw [List.length_map]
  exact List.length_filter_le _ _
theorem begC_put (bs : List Nat) (i : Nat) : updC (begC bs) (.int (i : Int)) (.bool true) = begC (bs ++ [i]) := by
  funext c
  unfold updC begC
  simp only [C.eqb_iff]
  by_cases h : c = .int (i : Int)
  · rw [if_pos h]; simp [h]
  · rw [if_neg h]; simp [h]
theorem code_Check (hg : GF gl) (A : Key → Option O) (p : List C) : DCalls (X0 gl) 12 [.d (.slice 1 (.int .u8)) (.slice p)] A (.d (.int .i64) (.int (checkN p))) [] := by
  refine dcalls_intro (n := 56) (ok0 gl) Tryd.func12 rfl rfl (by simp) ?_
  intro A' hA
  refine dc_seq (dc_region (ok0 gl) [] (by kernel_rfl) ?_)
  simp only [go_sem, ↓gx_tt, ↓gx_tf, ↓gx_ft, ↓gx_ff, ↓gx_u2, ↓gk_tt, ↓gk_tf, ↓gk_ff, ↓gk_ft, reduceCtorEq, Nat.reduceEqDiff, ↓reduceIte, Nat.reduceAdd, Nat.reduceSub, Nat.reduceLT, Nat.reduceMul, Nat.reduceBEq, Int.reduceLE, Int.reduceLT, Int.reduceAdd, Int.reduceSub, Int.reduceToNat, Int.reduceNeg, Int.reduceMul, Nat.reduceLeDiff]
  by_cases h0 : 256 < p.length
  · have h0' : (256 : Int) < (p.length : Int) := by omega
    refine dc_seq (dc_seq (dc_region (ok0 gl) [] (by kernel_rfl) ?_))
    simp only [go_sem, ↓gx_tt, ↓gx_tf, ↓gx_ft, ↓gx_ff, ↓gx_u2, ↓gk_tt, ↓gk_tf, ↓gk_ff, ↓gk_ft, reduceCtorEq, Nat.reduceEqDiff, ↓reduceIte, Nat.reduceAdd, Nat.reduceSub, Nat.reduceLT, Nat.reduceMul, Nat.reduceBEq, Int.reduceLE, Int.reduceLT, Int.reduceAdd, Int.reduceSub, Int.reduceToNat, Int.reduceNeg, Int.reduceMul, Nat.reduceLeDiff, h0']
    refine dc_cond _ rfl (fun _ => ?_) (fun h => by simp at h)
    refine dc_seq (dc_region (ok0 gl) [] (by kernel_rfl) ?_)
    simp only [go_sem, ↓gx_tt, ↓gx_tf, ↓gx_ft, ↓gx_ff, ↓gx_u2, ↓gk_tt, ↓gk_tf, ↓gk_ff, ↓gk_ft, reduceCtorEq, Nat.reduceEqDiff, ↓reduceIte, Nat.reduceAdd, Nat.reduceSub, Nat.reduceLT, Nat.reduceMul, Nat.reduceBEq, Int.reduceLE, Int.reduceLT, Int.reduceAdd, Int.reduceSub, Int.reduceToNat, Int.reduceNeg, Int.reduceMul, Nat.reduceLeDiff]
    refine dc_ret ⟨.inr rfl, ?_⟩
    simp only [retOk, go_sem, ↓gx_tt, ↓gx_tf, ↓gx_ft, ↓gx_ff, ↓gx_u2, ↓gk_tt, ↓gk_tf, ↓gk_ff, ↓gk_ft, reduceCtorEq, Nat.reduceEqDiff, ↓reduceIte, Nat.reduceAdd, Nat.reduceSub, Nat.reduceLT, Nat.reduceMul, Nat.reduceBEq, Int.reduceLE, Int.reduceLT, Int.reduceAdd, Int.reduceSub, Int.reduceToNat, Int.reduceNeg, Int.reduceMul, Nat.reduceLeDiff, Tryd.f12, checkN, h0, reduceIte] <;> try rfl
  · have h0' : ¬ (256 : Int) < (p.length : Int) := by omega
    refine dc_seq (dc_seq (dc_region (ok0 gl) [] (by kernel_rfl) ?_))
    simp only [go_sem, ↓gx_tt, ↓gx_tf, ↓gx_ft, ↓gx_ff, ↓gx_u2, ↓gk_tt, ↓gk_tf, ↓gk_ff, ↓gk_ft, reduceCtorEq, Nat.reduceEqDiff, ↓reduceIte, Nat.reduceAdd, Nat.reduceSub, Nat.reduceLT, Nat.reduceMul, Nat.reduceBEq, Int.reduceLE, Int.reduceLT, Int.reduceAdd, Int.reduceSub, Int.reduceToNat, Int.reduceNeg, Int.reduceMul, Nat.reduceLeDiff, h0']
    refine dc_cond _ rfl (fun h => by simp at h) (fun _ => dc_skip ?_)
    refine dc_seq (dc_region (ok0 gl) [] (by kernel_rfl) ?_)
    simp only [go_sem, ↓gx_tt, ↓gx_tf, ↓gx_ft, ↓gx_ff, ↓gx_u2, ↓gk_tt, ↓gk_tf, ↓gk_ff, ↓gk_ft, reduceCtorEq, Nat.reduceEqDiff, ↓reduceIte, Nat.reduceAdd, Nat.reduceSub, Nat.reduceLT, Nat.reduceMul, Nat.reduceBEq, Int.reduceLE, Int.reduceLT, Int.reduceAdd, Int.reduceSub, Int.reduceToNat, Int.reduceNeg, Int.reduceMul, Nat.reduceLeDiff]
    refine dc_seq (dc_region (ok0 gl) [] (by kernel_rfl) ?_)
    simp only [go_sem, ↓gx_tt, ↓gx_tf, ↓gx_ft, ↓gx_ff, ↓gx_u2, ↓gk_tt, ↓gk_tf, ↓gk_ff, ↓gk_ft, reduceCtorEq, Nat.reduceEqDiff, ↓reduceIte, Nat.reduceAdd, Nat.reduceSub, Nat.reduceLT, Nat.reduceMul, Nat.reduceBEq, Int.reduceLE, Int.reduceLT, Int.reduceAdd, Int.reduceSub, Int.reduceToNat, Int.reduceNeg, Int.reduceMul, Nat.reduceLeDiff]
    refine dc_seq (dc_seq (dc_region (ok0 gl) [] (by kernel_rfl) ?_))
    simp only [go_sem, ↓gx_tt, ↓gx_tf, ↓gx_ft, ↓gx_ff, ↓gx_u2, ↓gk_tt, ↓gk_tf, ↓gk_ff, ↓gk_ft, reduceCtorEq, Nat.reduceEqDiff, ↓reduceIte, Nat.reduceAdd, Nat.reduceSub, Nat.reduceLT, Nat.reduceMul, Nat.reduceBEq, Int.reduceLE, Int.reduceLT, Int.reduceAdd, Int.reduceSub, Int.reduceToNat, Int.reduceNeg, Int.reduceMul, Nat.reduceLeDiff]
    refine DC.weak (weak_tok (t := 4) (u := 43) (eb := 8) (e := .int .u64) rfl (.inl rfl)) ?_
    refine dc_block (dc_while (ι := Nat × List Nat × List (C × V)) (fun i => ⟨[(5, .d (.int .i64) (.int i.1)), (4, .sl 8 (.int .u64) (leapsN p i.2.1) 43), (3, .mp (.l 15)), (2, .d (.int .i64) (.int 0)), (0, .d (.slice 1 (.int .u8)) (.slice p))], [(.l 15, .map (.int .u64) .bool i.2.2)], A', [(43, some (leapsN p i.2.1).length)]⟩) (fun i => p.length - i.1)
      (fun i => i.1 ≤ p.length ∧ i.2.1.length ≤ i.1 ∧ MapF (X0 gl).P 4 .bool i.2.2 (begC i.2.1) ∧ scanN p (p.length - i.1) i.1 i.2.1 = scanN p p.length 0 []) (0, [], []) ?_ ⟨Nat.zero_le _, Nat.le_refl _, MapF.nil (by simp only [go_sem]), rfl⟩ ?_)
    · refine weak_to rfl ?_ ?_ ?_ ?_ ?_ <;> simp only [go_sem, ↓gx_tt, ↓gx_tf, ↓gx_ft, ↓gx_ff, ↓gx_u2, ↓gk_tt, ↓gk_tf, ↓gk_ff, ↓gk_ft, reduceCtorEq, Nat.reduceEqDiff, ↓reduceIte, Nat.reduceAdd, Nat.reduceSub, Nat.reduceLT, Nat.reduceMul, Nat.reduceBEq, Int.reduceLE, Int.reduceLT, Int.reduceAdd, Int.reduceSub, Int.reduceToNat, Int.reduceNeg, Int.reduceMul, Nat.reduceLeDiff]
      all_goals first | rfl | exact ⟨rfl, rfl⟩
    · rintro ⟨i, bs, es⟩ ⟨hi, hb, hM, hS⟩
      simp only at hi hb hM hS
      have hM' : ∀ c, lookV (X0 gl).P 4 es c = .d .bool (begC bs c) := hM.look
      by_cases hlt : i < p.length
      · have hlt' : (i : Int) < (p.length : Int) := by omega
        obtain ⟨s1, s2⟩ := scanN_step hlt hS
        refine dc_seq (dc_seq (dc_region (ok0 gl) [] (by kernel_rfl) ?_))
        simp only [go_sem, ↓gx_tt, ↓gx_tf, ↓gx_ft, ↓gx_ff, ↓gx_u2, ↓gk_tt, ↓gk_tf, ↓gk_ff, ↓gk_ft, reduceCtorEq, Nat.reduceEqDiff, ↓reduceIte, Nat.reduceAdd, Nat.reduceSub, Nat.reduceLT, Nat.reduceMul, Nat.reduceBEq, Int.reduceLE, Int.reduceLT, Int.reduceAdd, Int.reduceSub, Int.reduceToNat, Int.reduceNeg, Int.reduceMul, Nat.reduceLeDiff, hlt']
        refine dc_cond _ rfl (fun _ => dc_skip ?_) (fun h => by simp at h)
        refine dc_block (dc_seq (dc_region (ok0 gl) [] (by kernel_rfl) (vc_n [(), ()] ?_)))
        simp only [go_sem, ↓gx_tt, ↓gx_tf, ↓gx_ft, ↓gx_ff, ↓gx_u2, ↓gk_tt, ↓gk_tf, ↓gk_ff, ↓gk_ft, reduceCtorEq, Nat.reduceEqDiff, ↓reduceIte, Nat.reduceAdd, Nat.reduceSub, Nat.reduceLT, Nat.reduceMul, Nat.reduceBEq, Int.reduceLE, Int.reduceLT, Int.reduceAdd, Int.reduceSub, Int.reduceToNat, Int.reduceNeg, Int.reduceMul, Nat.reduceLeDiff]
        refine vcR_op [(), (), (), (), (), (), (), (), ()] rfl ?_
        refine vcO_call _ (code_fetch hg _ p i (by omega) (by omega)) rfl (by simp only [go_sem]) rfl ?_ ?_ ?_ ?_ ?_ <;> simp only [go_sem, ↓gx_tt, ↓gx_tf, ↓gx_ft, ↓gx_ff, ↓gx_u2, ↓gk_tt, ↓gk_tf, ↓gk_ff, ↓gk_ft, reduceCtorEq, Nat.reduceEqDiff, ↓reduceIte, Nat.reduceAdd, Nat.reduceSub, Nat.reduceLT, Nat.reduceMul, Nat.reduceBEq, Int.reduceLE, Int.reduceLT, Int.reduceAdd, Int.reduceSub, Int.reduceToNat, Int.reduceNeg, Int.reduceMul, Nat.reduceLeDiff, fetchV]
        by_cases he : errN p i = 0
        · obtain ⟨q1, q2⟩ := s2 he
          refine dc_seq (dc_seq (dc_region (ok0 gl) [] (by kernel_rfl) ?_))
          simp only [go_sem, ↓gx_tt, ↓gx_tf, ↓gx_ft, ↓gx_ff, ↓gx_u2, ↓gk_tt, ↓gk_tf, ↓gk_ff, ↓gk_ft, reduceCtorEq, Nat.reduceEqDiff, ↓reduceIte, Nat.reduceAdd, Nat.reduceSub, Nat.reduceLT, Nat.reduceMul, Nat.reduceBEq, Int.reduceLE, Int.reduceLT, Int.reduceAdd, Int.reduceSub, Int.reduceToNat, Int.reduceNeg, Int.reduceMul, Nat.reduceLeDiff, he]
          refine dc_cond _ rfl (fun h => by simp at h) (fun _ => dc_skip ?_)
          have z1 : IntKind.u64.min = 0 := by decide
          have z2 : IntKind.u64.max = 18446744073709551615 := by decide
          have w1 : IntKind.u64.wrap (i : Int) = i := wrap_id (by omega) (by omega)
          have hput : MapF (X0 gl).P 4 .bool (putM es (.int (i : Int)) (.d .bool (.bool true))) (begC (bs ++ [i])) := by
            rw [← begC_put]; exact hM.put _ _
          have hln := leapsN_len p bs
          have hbl : (bs ++ [i]).length ≤ i + 1 + moreN (bN p i) := by simp; omega
          refine dc_seq (dc_region (ok0 gl) [] (by kernel_rfl) ?_)
          simp only [go_sem, ↓gx_tt, ↓gx_tf, ↓gx_ft, ↓gx_ff, ↓gx_u2, ↓gk_tt, ↓gk_tf, ↓gk_ff, ↓gk_ft, reduceCtorEq, Nat.reduceEqDiff, ↓reduceIte, Nat.reduceAdd, Nat.reduceSub, Nat.reduceLT, Nat.reduceMul, Nat.reduceBEq, Int.reduceLE, Int.reduceLT, Int.reduceAdd, Int.reduceSub, Int.reduceToNat, Int.reduceNeg, Int.reduceMul, Nat.reduceLeDiff, w1]
          by_cases l1 : bN p i = 11
          · have hsn : leapsN p (bs ++ [i]) = leapsN p bs ++ [.int (argN p (i + 1) (moreN 11))] := by rw [leapsN_snoc, if_pos (by simp [leapN, l1])]; unfold toN; rw [l1]
            rw [l1] at q1 q2 hbl
            refine dc_seq (dc_seq (dc_region (ok0 gl) [] (by kernel_rfl) ?_))
            simp only [go_sem, ↓gx_tt, ↓gx_tf, ↓gx_ft, ↓gx_ff, ↓gx_u2, ↓gk_tt, ↓gk_tf, ↓gk_ff, ↓gk_ft, reduceCtorEq, Nat.reduceEqDiff, ↓reduceIte, Nat.reduceAdd, Nat.reduceSub, Nat.reduceLT, Nat.reduceMul, Nat.reduceBEq, Int.reduceLE, Int.reduceLT, Int.reduceAdd, Int.reduceSub, Int.reduceToNat, Int.reduceNeg, Int.reduceMul, Nat.reduceLeDiff, l1]
            refine dc_cond _ rfl (fun _ => ?_) (fun h => by simp at h)
            refine dc_region (ok0 gl) [] (by kernel_rfl) ?_
            simp only [go_sem, ↓gx_tt, ↓gx_tf, ↓gx_ft, ↓gx_ff, ↓gx_u2, ↓gk_tt, ↓gk_tf, ↓gk_ff, ↓gk_ft, reduceCtorEq, Nat.reduceEqDiff, ↓reduceIte, Nat.reduceAdd, Nat.reduceSub, Nat.reduceLT, Nat.reduceMul, Nat.reduceBEq, Int.reduceLE, Int.reduceLT, Int.reduceAdd, Int.reduceSub, Int.reduceToNat, Int.reduceNeg, Int.reduceMul, Nat.reduceLeDiff]
            refine ⟨rfl, fun x hx => ?_, by omega, by unfold maxLen; omega, ?_⟩
            · simp only [List.mem_singleton] at hx
              subst hx
              exact ⟨rfl, rfl⟩
            refine dc_region (ok0 gl) [] (by kernel_rfl) ?_
            simp only [go_sem, ↓gx_tt, ↓gx_tf, ↓gx_ft, ↓gx_ff, ↓gx_u2, ↓gk_tt, ↓gk_tf, ↓gk_ff, ↓gk_ft, reduceCtorEq, Nat.reduceEqDiff, ↓reduceIte, Nat.reduceAdd, Nat.reduceSub, Nat.reduceLT, Nat.reduceMul, Nat.reduceBEq, Int.reduceLE, Int.reduceLT, Int.reduceAdd, Int.reduceSub, Int.reduceToNat, Int.reduceNeg, Int.reduceMul, Nat.reduceLeDiff]
            refine ⟨(i + 1 + moreN 11, bs ++ [i], putM es (.int (i : Int)) (.d .bool (.bool true))), ⟨q1, hbl, hput, q2⟩, by simp only; omega, ?_⟩
            simp only [hsn]
            refine weak_to rfl ?_ ?_ ?_ ?_ ?_ <;> simp only [go_sem, ↓gx_tt, ↓gx_tf, ↓gx_ft, ↓gx_ff, ↓gx_u2, ↓gk_tt, ↓gk_tf, ↓gk_ff, ↓gk_ft, reduceCtorEq, Nat.reduceEqDiff, ↓reduceIte, Nat.reduceAdd, Nat.reduceSub, Nat.reduceLT, Nat.reduceMul, Nat.reduceBEq, Int.reduceLE, Int.reduceLT, Int.reduceAdd, Int.reduceSub, Int.reduceToNat, Int.reduceNeg, Int.reduceMul, Nat.reduceLeDiff, List.length_append]
            all_goals first | exact hput.all _ _ | rfl
          · by_cases l2 : bN p i = 12
            · have hsn : leapsN p (bs ++ [i]) = leapsN p bs ++ [.int (argN p (i + 1) (moreN 12))] := by rw [leapsN_snoc, if_pos (by simp [leapN, l2])]; unfold toN; rw [l2]
              have l1' : ¬ (12 : Int) = 11 := by decide
              rw [l2] at q1 q2 hbl
              refine dc_seq (dc_seq (dc_region (ok0 gl) [] (by kernel_rfl) ?_))
              simp only [go_sem, ↓gx_tt, ↓gx_tf, ↓gx_ft, ↓gx_ff, ↓gx_u2, ↓gk_tt, ↓gk_tf, ↓gk_ff, ↓gk_ft, reduceCtorEq, Nat.reduceEqDiff, ↓reduceIte, Nat.reduceAdd, Nat.reduceSub, Nat.reduceLT, Nat.reduceMul, Nat.reduceBEq, Int.reduceLE, Int.reduceLT, Int.reduceAdd, Int.reduceSub, Int.reduceToNat, Int.reduceNeg, Int.reduceMul, Nat.reduceLeDiff, l2, l1']
              refine dc_cond _ rfl (fun _ => ?_) (fun h => by simp at h)
              refine dc_region (ok0 gl) [] (by kernel_rfl) ?_
              simp only [go_sem, ↓gx_tt, ↓gx_tf, ↓gx_ft, ↓gx_ff, ↓gx_u2, ↓gk_tt, ↓gk_tf, ↓gk_ff, ↓gk_ft, reduceCtorEq, Nat.reduceEqDiff, ↓reduceIte, Nat.reduceAdd, Nat.reduceSub, Nat.reduceLT, Nat.reduceMul, Nat.reduceBEq, Int.reduceLE, Int.reduceLT, Int.reduceAdd, Int.reduceSub, Int.reduceToNat, Int.reduceNeg, Int.reduceMul, Nat.reduceLeDiff]
              refine ⟨rfl, fun x hx => ?_, by omega, by unfold maxLen; omega, ?_⟩
              · simp only [List.mem_singleton] at hx
                subst hx
                exact ⟨rfl, rfl⟩
              refine dc_region (ok0 gl) [] (by kernel_rfl) ?_
              simp only [go_sem, ↓gx_tt, ↓gx_tf, ↓gx_ft, ↓gx_ff, ↓gx_u2, ↓gk_tt, ↓gk_tf, ↓gk_ff, ↓gk_ft, reduceCtorEq, Nat.reduceEqDiff, ↓reduceIte, Nat.reduceAdd, Nat.reduceSub, Nat.reduceLT, Nat.reduceMul, Nat.reduceBEq, Int.reduceLE, Int.reduceLT, Int.reduceAdd, Int.reduceSub, Int.reduceToNat, Int.reduceNeg, Int.reduceMul, Nat.reduceLeDiff]
              refine ⟨(i + 1 + moreN 12, bs ++ [i], putM es (.int (i : Int)) (.d .bool (.bool true))), ⟨q1, hbl, hput, q2⟩, by simp only; omega, ?_⟩
              simp only [hsn]
              refine weak_to rfl ?_ ?_ ?_ ?_ ?_ <;> simp only [go_sem, ↓gx_tt, ↓gx_tf, ↓gx_ft, ↓gx_ff, ↓gx_u2, ↓gk_tt, ↓gk_tf, ↓gk_ff, ↓gk_ft, reduceCtorEq, Nat.reduceEqDiff, ↓reduceIte, Nat.reduceAdd, Nat.reduceSub, Nat.reduceLT, Nat.reduceMul, Nat.reduceBEq, Int.reduceLE, Int.reduceLT, Int.reduceAdd, Int.reduceSub, Int.reduceToNat, Int.reduceNeg, Int.reduceMul, Nat.reduceLeDiff, List.length_append]
              all_goals first | exact hput.all _ _ | rfl
            · have hsn : leapsN p (bs ++ [i]) = leapsN p bs := by rw [leapsN_snoc, if_neg (by simp [leapN, l1, l2])]
              refine dc_seq (dc_seq (dc_region (ok0 gl) [] (by kernel_rfl) ?_))
              simp only [go_sem, ↓gx_tt, ↓gx_tf, ↓gx_ft, ↓gx_ff, ↓gx_u2, ↓gk_tt, ↓gk_tf, ↓gk_ff, ↓gk_ft, reduceCtorEq, Nat.reduceEqDiff, ↓reduceIte, Nat.reduceAdd, Nat.reduceSub, Nat.reduceLT, Nat.reduceMul, Nat.reduceBEq, Int.reduceLE, Int.reduceLT, Int.reduceAdd, Int.reduceSub, Int.reduceToNat, Int.reduceNeg, Int.reduceMul, Nat.reduceLeDiff, l1, l2]
              refine dc_cond _ rfl (fun h => by simp at h) (fun _ => dc_skip ?_)
              refine dc_region (ok0 gl) [] (by kernel_rfl) ?_
              simp only [go_sem, ↓gx_tt, ↓gx_tf, ↓gx_ft, ↓gx_ff, ↓gx_u2, ↓gk_tt, ↓gk_tf, ↓gk_ff, ↓gk_ft, reduceCtorEq, Nat.reduceEqDiff, ↓reduceIte, Nat.reduceAdd, Nat.reduceSub, Nat.reduceLT, Nat.reduceMul, Nat.reduceBEq, Int.reduceLE, Int.reduceLT, Int.reduceAdd, Int.reduceSub, Int.reduceToNat, Int.reduceNeg, Int.reduceMul, Nat.reduceLeDiff]
              refine ⟨(i + 1 + moreN (bN p i), bs ++ [i], putM es (.int (i : Int)) (.d .bool (.bool true))), ⟨q1, hbl, hput, q2⟩, by simp only; omega, ?_⟩
              simp only [hsn]
              refine weak_to rfl ?_ ?_ ?_ ?_ ?_ <;> simp only [go_sem, ↓gx_tt, ↓gx_tf, ↓gx_ft, ↓gx_ff, ↓gx_u2, ↓gk_tt, ↓gk_tf, ↓gk_ff, ↓gk_ft, reduceCtorEq, Nat.reduceEqDiff, ↓reduceIte, Nat.reduceAdd, Nat.reduceSub, Nat.reduceLT, Nat.reduceMul, Nat.reduceBEq, Int.reduceLE, Int.reduceLT, Int.reduceAdd, Int.reduceSub, Int.reduceToNat, Int.reduceNeg, Int.reduceMul, Nat.reduceLeDiff]
              all_goals first | exact hput.all _ _ | rfl
        · have hr := s1 he
          refine dc_seq (dc_seq (dc_region (ok0 gl) [] (by kernel_rfl) ?_))
          simp only [go_sem, ↓gx_tt, ↓gx_tf, ↓gx_ft, ↓gx_ff, ↓gx_u2, ↓gk_tt, ↓gk_tf, ↓gk_ff, ↓gk_ft, reduceCtorEq, Nat.reduceEqDiff, ↓reduceIte, Nat.reduceAdd, Nat.reduceSub, Nat.reduceLT, Nat.reduceMul, Nat.reduceBEq, Int.reduceLE, Int.reduceLT, Int.reduceAdd, Int.reduceSub, Int.reduceToNat, Int.reduceNeg, Int.reduceMul, Nat.reduceLeDiff, he]
          refine dc_cond _ rfl (fun _ => ?_) (fun h => by simp at h)
          refine dc_seq (dc_region (ok0 gl) [] (by kernel_rfl) ?_)
          simp only [go_sem, ↓gx_tt, ↓gx_tf, ↓gx_ft, ↓gx_ff, ↓gx_u2, ↓gk_tt, ↓gk_tf, ↓gk_ff, ↓gk_ft, reduceCtorEq, Nat.reduceEqDiff, ↓reduceIte, Nat.reduceAdd, Nat.reduceSub, Nat.reduceLT, Nat.reduceMul, Nat.reduceBEq, Int.reduceLE, Int.reduceLT, Int.reduceAdd, Int.reduceSub, Int.reduceToNat, Int.reduceNeg, Int.reduceMul, Nat.reduceLeDiff]
          refine dc_ret ⟨.inr rfl, ?_⟩
          simp only [retOk, go_sem, ↓gx_tt, ↓gx_tf, ↓gx_ft, ↓gx_ff, ↓gx_u2, ↓gk_tt, ↓gk_tf, ↓gk_ff, ↓gk_ft, reduceCtorEq, Nat.reduceEqDiff, ↓reduceIte, Nat.reduceAdd, Nat.reduceSub, Nat.reduceLT, Nat.reduceMul, Nat.reduceBEq, Int.reduceLE, Int.reduceLT, Int.reduceAdd, Int.reduceSub, Int.reduceToNat, Int.reduceNeg, Int.reduceMul, Nat.reduceLeDiff, Tryd.f12, checkN, h0, hr, he, reduceIte] <;> try rfl
      · have hlt' : ¬ (i : Int) < (p.length : Int) := by omega
        obtain rfl : i = p.length := by omega
        rw [scanN_end (Nat.le_refl _)] at hS
        refine dc_seq (dc_seq (dc_region (ok0 gl) [] (by kernel_rfl) ?_))
        simp only [go_sem, ↓gx_tt, ↓gx_tf, ↓gx_ft, ↓gx_ff, ↓gx_u2, ↓gk_tt, ↓gk_tf, ↓gk_ff, ↓gk_ft, reduceCtorEq, Nat.reduceEqDiff, ↓reduceIte, Nat.reduceAdd, Nat.reduceSub, Nat.reduceLT, Nat.reduceMul, Nat.reduceBEq, Int.reduceLE, Int.reduceLT, Int.reduceAdd, Int.reduceSub, Int.reduceToNat, Int.reduceNeg, Int.reduceMul, Nat.reduceLeDiff, hlt']
        refine dc_cond _ rfl (fun h => by simp at h) (fun _ => dc_exit ?_)
        refine dc_seq (dc_seq (dc_region (ok0 gl) [] (by kernel_rfl) ?_))
        simp only [go_sem, ↓gx_tt, ↓gx_tf, ↓gx_ft, ↓gx_ff, ↓gx_u2, ↓gk_tt, ↓gk_tf, ↓gk_ff, ↓gk_ft, reduceCtorEq, Nat.reduceEqDiff, ↓reduceIte, Nat.reduceAdd, Nat.reduceSub, Nat.reduceLT, Nat.reduceMul, Nat.reduceBEq, Int.reduceLE, Int.reduceLT, Int.reduceAdd, Int.reduceSub, Int.reduceToNat, Int.reduceNeg, Int.reduceMul, Nat.reduceLeDiff]
        refine dc_block (dc_count (fun j => ⟨[(47, .d (.int .i64) (.int j)), (46, .d (.int .i64) (.int (leapsN p bs).length)), (45, .sl 8 (.int .u64) (leapsN p bs) 43), (3, .mp (.l 15)), (2, .d (.int .i64) (.int 0)), (0, .d (.slice 1 (.int .u8)) (.slice p))], [(.l 15, .map (.int .u64) .bool es)], A', [(43, some (leapsN p bs).length)]⟩) (leapsN p bs).length (fun j => ∀ c ∈ (leapsN p bs).take j, (begC bs c).toBool = true) ?_ (by simp) ?_)
        · refine weak_to rfl ?_ ?_ ?_ ?_ ?_ <;> simp only [go_sem, ↓gx_tt, ↓gx_tf, ↓gx_ft, ↓gx_ff, ↓gx_u2, ↓gk_tt, ↓gk_tf, ↓gk_ff, ↓gk_ft, reduceCtorEq, Nat.reduceEqDiff, ↓reduceIte, Nat.reduceAdd, Nat.reduceSub, Nat.reduceLT, Nat.reduceMul, Nat.reduceBEq, Int.reduceLE, Int.reduceLT, Int.reduceAdd, Int.reduceSub, Int.reduceToNat, Int.reduceNeg, Int.reduceMul, Nat.reduceLeDiff]
          all_goals first | exact hM.all _ _ | rfl
        · intro j hj hall
          refine dc_seq (dc_region (ok0 gl) [] (by kernel_rfl) ?_)
          simp only [go_sem, ↓gx_tt, ↓gx_tf, ↓gx_ft, ↓gx_ff, ↓gx_u2, ↓gk_tt, ↓gk_tf, ↓gk_ff, ↓gk_ft, reduceCtorEq, Nat.reduceEqDiff, ↓reduceIte, Nat.reduceAdd, Nat.reduceSub, Nat.reduceLT, Nat.reduceMul, Nat.reduceBEq, Int.reduceLE, Int.reduceLT, Int.reduceAdd, Int.reduceSub, Int.reduceToNat, Int.reduceNeg, Int.reduceMul, Nat.reduceLeDiff]
          refine dc_seq (dc_cond _ rfl (fun hlt => dc_skip ?_) (fun hge => dc_exit ?_))
          · have hlt : j < (leapsN p bs).length := by simpa using hlt
            have e1 : ((j : Int).toNat) = j := Int.toNat_natCast j
            have hln := leapsN_len p bs
            refine dc_seq (dc_block (dc_seq (dc_region (ok0 gl) [] (by kernel_rfl) ?_)))
            simp only [go_sem, ↓gx_tt, ↓gx_tf, ↓gx_ft, ↓gx_ff, ↓gx_u2, ↓gk_tt, ↓gk_tf, ↓gk_ff, ↓gk_ft, reduceCtorEq, Nat.reduceEqDiff, ↓reduceIte, Nat.reduceAdd, Nat.reduceSub, Nat.reduceLT, Nat.reduceMul, Nat.reduceBEq, Int.reduceLE, Int.reduceLT, Int.reduceAdd, Int.reduceSub, Int.reduceToNat, Int.reduceNeg, Int.reduceMul, Nat.reduceLeDiff, e1]
            refine ⟨by omega, by omega, ?_⟩
            have hmem : (leapsN p bs).getD j .nil ∈ leapsN p bs := by
              rw [List.getD_eq_getElem?_getD, List.getElem?_eq_getElem hlt]; exact List.getElem_mem hlt
            by_cases hin : (begC bs ((leapsN p bs).getD j .nil)).toBool = true
            · refine dc_seq (dc_region (ok0 gl) [] (by kernel_rfl) ?_)
              simp only [go_sem, ↓gx_tt, ↓gx_tf, ↓gx_ft, ↓gx_ff, ↓gx_u2, ↓gk_tt, ↓gk_tf, ↓gk_ff, ↓gk_ft, reduceCtorEq, Nat.reduceEqDiff, ↓reduceIte, Nat.reduceAdd, Nat.reduceSub, Nat.reduceLT, Nat.reduceMul, Nat.reduceBEq, Int.reduceLE, Int.reduceLT, Int.reduceAdd, Int.reduceSub, Int.reduceToNat, Int.reduceNeg, Int.reduceMul, Nat.reduceLeDiff, hM', hin]
              refine dc_cond _ rfl (fun h => by simp at h) (fun _ => dc_skip ?_)
              refine dc_region (ok0 gl) [] (by kernel_rfl) ?_
              simp only [go_sem, ↓gx_tt, ↓gx_tf, ↓gx_ft, ↓gx_ff, ↓gx_u2, ↓gk_tt, ↓gk_tf, ↓gk_ff, ↓gk_ft, reduceCtorEq, Nat.reduceEqDiff, ↓reduceIte, Nat.reduceAdd, Nat.reduceSub, Nat.reduceLT, Nat.reduceMul, Nat.reduceBEq, Int.reduceLE, Int.reduceLT, Int.reduceAdd, Int.reduceSub, Int.reduceToNat, Int.reduceNeg, Int.reduceMul, Nat.reduceLeDiff]
              refine ⟨hlt, ?_, ?_⟩
              · intro c hc
                rw [List.take_add_one, List.mem_append] at hc
                rcases hc with hc | hc
                · exact hall c hc
                · rw [List.getElem?_eq_getElem hlt] at hc
                  simp only [Option.toList_some, List.mem_singleton] at hc
                  subst hc
                  rw [List.getD_eq_getElem?_getD, List.getElem?_eq_getElem hlt] at hin
                  exact hin
              · rw [IntWalk.i64_in _ (by omega)]
                refine weak_to rfl ?_ ?_ ?_ ?_ ?_ <;> simp only [go_sem, ↓gx_tt, ↓gx_tf, ↓gx_ft, ↓gx_ff, ↓gx_u2, ↓gk_tt, ↓gk_tf, ↓gk_ff, ↓gk_ft, reduceCtorEq, Nat.reduceEqDiff, ↓reduceIte, Nat.reduceAdd, Nat.reduceSub, Nat.reduceLT, Nat.reduceMul, Nat.reduceBEq, Int.reduceLE, Int.reduceLT, Int.reduceAdd, Int.reduceSub, Int.reduceToNat, Int.reduceNeg, Int.reduceMul, Nat.reduceLeDiff]
                all_goals first | exact hM.all _ _ | rfl
            · have hin' : (begC bs ((leapsN p bs).getD j .nil)).toBool = false := by simpa using hin
              refine dc_seq (dc_region (ok0 gl) [] (by kernel_rfl) ?_)
              simp only [go_sem, ↓gx_tt, ↓gx_tf, ↓gx_ft, ↓gx_ff, ↓gx_u2, ↓gk_tt, ↓gk_tf, ↓gk_ff, ↓gk_ft, reduceCtorEq, Nat.reduceEqDiff, ↓reduceIte, Nat.reduceAdd, Nat.reduceSub, Nat.reduceLT, Nat.reduceMul, Nat.reduceBEq, Int.reduceLE, Int.reduceLT, Int.reduceAdd, Int.reduceSub, Int.reduceToNat, Int.reduceNeg, Int.reduceMul, Nat.reduceLeDiff, hM', hin']
              refine dc_cond _ rfl (fun _ => ?_) (fun h => by simp at h)
              have hr : checkN p = 10 := by
                unfold checkN
                rw [if_neg h0, ← hS, if_neg (by simp), if_neg]
                intro h
                exact hin (List.all_eq_true.1 h _ hmem)
              refine dc_seq (dc_region (ok0 gl) [] (by kernel_rfl) ?_)
              simp only [go_sem, ↓gx_tt, ↓gx_tf, ↓gx_ft, ↓gx_ff, ↓gx_u2, ↓gk_tt, ↓gk_tf, ↓gk_ff, ↓gk_ft, reduceCtorEq, Nat.reduceEqDiff, ↓reduceIte, Nat.reduceAdd, Nat.reduceSub, Nat.reduceLT, Nat.reduceMul, Nat.reduceBEq, Int.reduceLE, Int.reduceLT, Int.reduceAdd, Int.reduceSub, Int.reduceToNat, Int.reduceNeg, Int.reduceMul, Nat.reduceLeDiff]
              refine dc_ret ⟨.inr rfl, ?_⟩
              simp only [retOk, go_sem, ↓gx_tt, ↓gx_tf, ↓gx_ft, ↓gx_ff, ↓gx_u2, ↓gk_tt, ↓gk_tf, ↓gk_ff, ↓gk_ft, reduceCtorEq, Nat.reduceEqDiff, ↓reduceIte, Nat.reduceAdd, Nat.reduceSub, Nat.reduceLT, Nat.reduceMul, Nat.reduceBEq, Int.reduceLE, Int.reduceLT, Int.reduceAdd, Int.reduceSub, Int.reduceToNat, Int.reduceNeg, Int.reduceMul, Nat.reduceLeDiff, Tryd.f12, hr] <;> try rfl
          · have hge : (leapsN p bs).length ≤ j := by simpa using hge
            rw [List.take_of_length_le hge] at hall
            have hr : checkN p = 0 := by
              unfold checkN
              rw [if_neg h0, ← hS, if_neg (by simp), if_pos (by rw [List.all_eq_true]; exact hall)]
            refine dc_seq (dc_region (ok0 gl) [] (by kernel_rfl) ?_)
            simp only [go_sem, ↓gx_tt, ↓gx_tf, ↓gx_ft, ↓gx_ff, ↓gx_u2, ↓gk_tt, ↓gk_tf, ↓gk_ff, ↓gk_ft, reduceCtorEq, Nat.reduceEqDiff, ↓reduceIte, Nat.reduceAdd, Nat.reduceSub, Nat.reduceLT, Nat.reduceMul, Nat.reduceBEq, Int.reduceLE, Int.reduceLT, Int.reduceAdd, Int.reduceSub, Int.reduceToNat, Int.reduceNeg, Int.reduceMul, Nat.reduceLeDiff]
            refine dc_ret ⟨.inr rfl, ?_⟩
            simp only [retOk, go_sem, ↓gx_tt, ↓gx_tf, ↓gx_ft, ↓gx_ff, ↓gx_u2, ↓gk_tt, ↓gk_tf, ↓gk_ff, ↓gk_ft, reduceCtorEq, Nat.reduceEqDiff, ↓reduceIte, Nat.reduceAdd, Nat.reduceSub, Nat.reduceLT, Nat.reduceMul, Nat.reduceBEq, Int.reduceLE, Int.reduceLT, Int.reduceAdd, Int.reduceSub, Int.reduceToNat, Int.reduceNeg, Int.reduceMul, Nat.reduceLeDiff, Tryd.f12, hr] <;> try rfl
end Go.Proofs.YtjakbdogmomfeaaDoor


namespace Go.Proofs.YtjakbdogmomfeaaDoor
open Go Go.E
set_option maxRecDepth 100000
theorem slice_arg {X : Cx} {f : FuncId} {eb : Nat} {e : Ty} {c : C} {A : Key → Option O} {v : V} {L : List (Key × O)} (h : DCalls X f [.d (.slice eb e) (.slice c.elems)] A v L) : DCalls X f [.d (.slice eb e) c] A v L := by
  intro A' Γ w args hA hg hc hn hr
  have hs : args.size = 1 := hn.symm
  have h0 : RepV Γ (.d (.slice eb e) c) args[0] := hr 0 _ _ rfl (Array.getElem?_eq_getElem (by omega : 0 < args.size))
  obtain ⟨h2, _⟩ := (repV_one rfl rfl).1 h0
  simp only [RepX, RepC] at h2
  obtain ⟨_, _, _, cs, rfl, _⟩ := h2
  exact h A' Γ w args hA hg hc hn hr
def checkG {R : Type} : OvG R := fun xs _ K => match xs with
  | [.d t c] => if t = .slice 1 (.int .u8) then K (.d (.int .i64) (.int (checkN c.elems))) [] else none
  | _ => none
noncomputable def code_Check_g (_ : Nat) {R : Type} : OvG R := checkG
theorem code_Check_ok (N : Nat) {R : Type} : GOk (X0 gl0) 12 (code_Check_g N (R := R)) := by
  intro xs A Kr r hr
  unfold code_Check_g checkG at hr
  split at hr
  · simp only [Option.ite_none_right_eq_some] at hr
    obtain ⟨rfl, hr⟩ := hr
    exact ⟨_, _, slice_arg (code_Check gf0 A _), hr⟩
  · cases hr
theorem slice_arg2 {X : Cx} {f : FuncId} {eb : Nat} {e : Ty} {c : C} {y : V} {A : Key → Option O} {v : V} {L : List (Key × O)} (h : DCalls X f [.d (.slice eb e) (.slice c.elems), y] A v L) : DCalls X f [.d (.slice eb e) c, y] A v L := by
  intro A' Γ w args hA hg hc hn hr
  have hs : args.size = 2 := hn.symm
  have h0 : RepV Γ (.d (.slice eb e) c) args[0] := hr 0 _ _ rfl (Array.getElem?_eq_getElem (by omega : 0 < args.size))
  obtain ⟨h2, _⟩ := (repV_one rfl rfl).1 h0
  simp only [RepX, RepC] at h2
  obtain ⟨_, _, _, cs, rfl, _⟩ := h2
  exact h A' Γ w args hA hg hc hn hr
theorem int_arg2 {X : Cx} {f : FuncId} {k : IntKind} {c : C} {y : V} {A : Key → Option O} {v : V} {L : List (Key × O)} (h : DCalls X f [y, .d (.int k) (.int c.toInt)] A v L) : DCalls X f [y, .d (.int k) c] A v L := by
  intro A' Γ w args hA hg hc hn hr
  have hs : args.size = 2 := hn.symm
  have h0 : RepV Γ (.d (.int k) c) args[1] := hr 1 _ _ rfl (Array.getElem?_eq_getElem (by omega : 1 < args.size))
  obtain ⟨h2, _⟩ := (repV_one rfl rfl).1 h0
  simp only [RepX, RepC] at h2
  have hc' : ∃ i, c = .int i := by
    cases c <;> simp_all
  obtain ⟨i, rfl⟩ := hc'
  exact h A' Γ w args hA hg hc hn hr
def fetchG {R : Type} : OvG R := fun xs _ K => match xs with
  | [.d t c, .d u i] => if t = .slice 1 (.int .u8) ∧ u = .int .i64 then (if c.elems.length ≤ 256 ∧ 0 ≤ i.toInt ∧ i.toInt ≤ 100000 then
      K (.tup [.d (.int .i64) (.int (if errN c.elems i.toInt.toNat = 0 then bN c.elems i.toInt.toNat else 0)), .d (.int .u64) (.int (if errN c.elems i.toInt.toNat = 0 then argN c.elems (i.toInt.toNat + 1) (moreN (bN c.elems i.toInt.toNat)) else 0)), .d (.int .i64) (.int (if errN c.elems i.toInt.toNat = 0 then ((i.toInt.toNat + 1 + moreN (bN c.elems i.toInt.toNat) : Nat) : Int) else 0)), .d (.int .i64) (.int (errN c.elems i.toInt.toNat))]) [] else none) else none
  | _ => none
noncomputable def code_fetch_g (_ : Nat) {R : Type} : OvG R := fetchG
theorem code_fetch_ok (N : Nat) {R : Type} : GOk (X0 gl0) 23 (code_fetch_g N (R := R)) := by
  intro xs A Kr r hr
  unfold code_fetch_g fetchG at hr
  split at hr
  · simp only [Option.ite_none_right_eq_some] at hr
    obtain ⟨⟨rfl, rfl⟩, ⟨h1, h2, h3⟩, hr⟩ := hr
    rename_i c i
    refine ⟨_, _, slice_arg2 (int_arg2 ?_), hr⟩
    have := code_fetch gf0 A c.elems i.toInt.toNat h1 (by omega)
    rw [Int.toNat_of_nonneg h2] at this
    simpa only [fetchV] using this
  · cases hr
end Go.Proofs.YtjakbdogmomfeaaDoor


namespace Go.Proofs.YtjakbdogmomfeaaDoor
open Go Go.E
set_option maxRecDepth 100000
set_option maxHeartbeats 4000000
set_option linter.unusedVariables false
noncomputable def money_Add_hs : Hints := [([9], ⟨[], [(4, .d (.int .u64)), (5, .d (.int .i64))], [], [], [], []⟩)]
noncomputable def money_Add_ov (N : Nat) : OvS (X0 gl0) where
  g R := []
  ok := fun R => fun _ h => nomatch h
noncomputable def money_Add_p0 {R : Type} (N : Nat) (a0 a1 : C) (k1 : KD R) : Option R := (bif !decide ((C.toInt a0 + C.toInt a1) / 18446744073709551616 = 0) then (k1 [C.int 0, C.int 11] []) else (k1 [C.int ((C.toInt a0 + C.toInt a1) % 18446744073709551616), C.int 0] []))
noncomputable def money_Add_p {R : Type} (N : Nat) : C → C → KD R → Option R := lid "money_Add_p N" (money_Add_p0 N)
theorem money_Add_pe {R : Type} (N : Nat) (a0 a1 : C) (k : KD R) : money_Add_p N a0 a1 k = money_Add_p0 N a0 a1 k := by unfold money_Add_p; rw [lid_eq]
theorem money_Add_run {R : Type} (N : Nat) (a0 a1 : C) (K : V → List (Key × O) → Option R) : exF (X0 gl0) ((money_Add_ov N).ov R) extX noX (fun f => bif Nat.beq f 16 then money_Add_hs else []) N 400 8 16 [.d (.int .u64) a0, .d (.int .u64) a1] A0 K =
    money_Add_p N a0 a1 (fun d1 m1 => K (V.tup [V.d (Ty.int IntKind.u64) (dk d1 0), V.d (Ty.int IntKind.i64) (dk d1 1)]) []) := by
  rw [money_Add_pe]
  exact (show _ = jn (fun d1 m1 => (K (V.tup [V.d (Ty.int IntKind.u64) (dk d1 0), V.d (Ty.int IntKind.i64) (dk d1 1)]) [])) (money_Add_p0 N a0 a1) by kernel_rfl).trans (jn_eq _ _)
noncomputable def money_Add_g (N : Nat) {R : Type} : OvG R := fun xs _ K => match xs with
  | [.d t0 a0, .d t1 a1] => if t0 = (.int .u64) ∧ t1 = (.int .u64) then money_Add_p N a0 a1 (fun d1 m1 => K (V.tup [V.d (Ty.int IntKind.u64) (dk d1 0), V.d (Ty.int IntKind.i64) (dk d1 1)]) []) else none
  | _ => none
theorem money_Add_ok (N : Nat) {R : Type} : GOk (X0 gl0) 16 (money_Add_g N (R := R)) := by
  intro xs A Kr r hr
  unfold money_Add_g at hr
  split at hr
  · simp only [Option.ite_none_right_eq_some] at hr
    obtain ⟨hty, hr⟩ := hr
    obtain ⟨rfl, rfl⟩ := hty
    rw [← money_Add_run] at hr
    obtain ⟨v, L, h1, h2⟩ := exF_ok (ok0 gl0) (mo gl0) ((money_Add_ov N).ov_ok _) (extX_ok gl0) _ _ _ _ _ _ hr
    exact ⟨v, L, h1.mono (leA_none fun _ => rfl), h2⟩
  · cases hr
end Go.Proofs.YtjakbdogmomfeaaDoor


namespace Go.Proofs.YtjakbdogmomfeaaDoor
open Go Go.E
set_option maxRecDepth 100000
set_option maxHeartbeats 4000000
set_option linter.unusedVariables false
noncomputable def money_Sub_hs : Hints := [([9], ⟨[], [(4, .d (.int .u64)), (5, .d (.int .i64))], [], [], [], []⟩)]
noncomputable def money_Sub_ov (N : Nat) : OvS (X0 gl0) where
  g R := []
  ok := fun R => fun _ h => nomatch h
noncomputable def money_Sub_p0 {R : Type} (N : Nat) (a0 a1 : C) (k1 : KD R) : Option R := (bif decide (C.toInt a0 < C.toInt a1) then (k1 [C.int 0, C.int 12] []) else (k1 [C.int (IntKind.wrap IntKind.u64 (C.toInt a0 - C.toInt a1)), C.int 0] []))
noncomputable def money_Sub_p {R : Type} (N : Nat) : C → C → KD R → Option R := lid "money_Sub_p N" (money_Sub_p0 N)
theorem money_Sub_pe {R : Type} (N : Nat) (a0 a1 : C) (k : KD R) : money_Sub_p N a0 a1 k = money_Sub_p0 N a0 a1 k := by unfold money_Sub_p; rw [lid_eq]
theorem money_Sub_run {R : Type} (N : Nat) (a0 a1 : C) (K : V → List (Key × O) → Option R) : exF (X0 gl0) ((money_Sub_ov N).ov R) extX noX (fun f => bif Nat.beq f 31 then money_Sub_hs else []) N 400 8 31 [.d (.int .u64) a0, .d (.int .u64) a1] A0 K =
    money_Sub_p N a0 a1 (fun d1 m1 => K (V.tup [V.d (Ty.int IntKind.u64) (dk d1 0), V.d (Ty.int IntKind.i64) (dk d1 1)]) []) := by
  rw [money_Sub_pe]
  exact (show _ = jn (fun d1 m1 => (K (V.tup [V.d (Ty.int IntKind.u64) (dk d1 0), V.d (Ty.int IntKind.i64) (dk d1 1)]) [])) (money_Sub_p0 N a0 a1) by kernel_rfl).trans (jn_eq _ _)
noncomputable def money_Sub_g (N : Nat) {R : Type} : OvG R := fun xs _ K => match xs with
  | [.d t0 a0, .d t1 a1] => if t0 = (.int .u64) ∧ t1 = (.int .u64) then money_Sub_p N a0 a1 (fun d1 m1 => K (V.tup [V.d (Ty.int IntKind.u64) (dk d1 0), V.d (Ty.int IntKind.i64) (dk d1 1)]) []) else none
  | _ => none
theorem money_Sub_ok (N : Nat) {R : Type} : GOk (X0 gl0) 31 (money_Sub_g N (R := R)) := by
  intro xs A Kr r hr
  unfold money_Sub_g at hr
  split at hr
  · simp only [Option.ite_none_right_eq_some] at hr
    obtain ⟨hty, hr⟩ := hr
    obtain ⟨rfl, rfl⟩ := hty
    rw [← money_Sub_run] at hr
    obtain ⟨v, L, h1, h2⟩ := exF_ok (ok0 gl0) (mo gl0) ((money_Sub_ov N).ov_ok _) (extX_ok gl0) _ _ _ _ _ _ hr
    exact ⟨v, L, h1.mono (leA_none fun _ => rfl), h2⟩
  · cases hr
end Go.Proofs.YtjakbdogmomfeaaDoor


namespace Go.Proofs.YtjakbdogmomfeaaDoor
open Go Go.E
set_option maxRecDepth 100000
set_option maxHeartbeats 4000000
set_option linter.unusedVariables false
noncomputable def money_Sum_hs : Hints := [([1, 0, 1, 1], ⟨[], [(4, .d (.int .u64))], [], [], [], []⟩),
    ([4, 1, 0, 1, 1], ⟨[8, 9], [(4, .d (.int .u64)), (10, .d (.int .i64))], [], [], [], []⟩),
    ([9], ⟨[], [(2, .d (.int .u64)), (3, .d (.int .i64))], [], [], [], []⟩)]
noncomputable def money_Sum_ov (N : Nat) : OvS (X0 gl0) where
  g R := [(16, money_Add_g N)]
  ok := fun R => List.forall_mem_cons.2 ⟨money_Add_ok N, fun _ h => nomatch h⟩
noncomputable def money_Sum_l1 {R : Type} (N : Nat) (k1 : KD R) (k2 : KD R) : KD R → List C → List Es → Option R := (fun k3 d1 m1 => (bif decide (C.toInt (dk d1 3) < C.toInt (dk d1 1)) then (if 0 ≤ C.toInt (dk d1 3) ∧ C.toInt (dk d1 3) < (↑(List.length (C.elems (dk d1 0))) : Int) then (money_Add_p N (dk d1 2) (List.getD (C.elems (dk d1 0)) (Int.toNat (C.toInt (dk d1 3))) C.nil) (fun d2 m2 => (bif !decide (C.toInt (dk d2 1) = 0) then (k1 [C.int 0, dk d2 1] []) else (k3 [dk d1 0, dk d1 1, dk d2 0, C.int (IntKind.wrap IntKind.i64 (C.toInt (dk d1 3) + 1))] [])))) else none) else (k2 [dk d1 2] [])))
noncomputable def money_Sum_p0 {R : Type} (N : Nat) (a0 : C) (k1 : KD R) : Option R := (jn (fun d1 m1 => (k1 [dk d1 0, C.int 0] [])) (fun k2 => (loopK N (money_Sum_l1 N k1 k2) [a0, C.int (↑(List.length (C.elems a0)) : Int), C.int 0, C.int 0] [])))
noncomputable def money_Sum_p {R : Type} (N : Nat) : C → KD R → Option R := lid "money_Sum_p N" (money_Sum_p0 N)
theorem money_Sum_pe {R : Type} (N : Nat) (a0 : C) (k : KD R) : money_Sum_p N a0 k = money_Sum_p0 N a0 k := by unfold money_Sum_p; rw [lid_eq]
theorem money_Sum_run {R : Type} (N : Nat) (a0 : C) (K : V → List (Key × O) → Option R) : exF (X0 gl0) ((money_Sum_ov N).ov R) extX noX (fun f => bif Nat.beq f 17 then money_Sum_hs else []) N 400 8 17 [.d (.slice 8 (.int .u64)) a0] A0 K =
    money_Sum_p N a0 (fun d1 m1 => K (V.tup [V.d (Ty.int IntKind.u64) (dk d1 0), V.d (Ty.int IntKind.i64) (dk d1 1)]) []) := by
  rw [money_Sum_pe]
  exact (show _ = jn (fun d1 m1 => (K (V.tup [V.d (Ty.int IntKind.u64) (dk d1 0), V.d (Ty.int IntKind.i64) (dk d1 1)]) [])) (money_Sum_p0 N a0) by kernel_rfl).trans (jn_eq _ _)
noncomputable def money_Sum_g (N : Nat) {R : Type} : OvG R := fun xs _ K => match xs with
  | [.d t0 a0] => if t0 = (.slice 8 (.int .u64)) then money_Sum_p N a0 (fun d1 m1 => K (V.tup [V.d (Ty.int IntKind.u64) (dk d1 0), V.d (Ty.int IntKind.i64) (dk d1 1)]) []) else none
  | _ => none
theorem money_Sum_ok (N : Nat) {R : Type} : GOk (X0 gl0) 17 (money_Sum_g N (R := R)) := by
  intro xs A Kr r hr
  unfold money_Sum_g at hr
  split at hr
  · simp only [Option.ite_none_right_eq_some] at hr
    obtain ⟨hty, hr⟩ := hr
    subst hty
    rw [← money_Sum_run] at hr
    obtain ⟨v, L, h1, h2⟩ := exF_ok (ok0 gl0) (mo gl0) ((money_Sum_ov N).ov_ok _) (extX_ok gl0) _ _ _ _ _ _ hr
    exact ⟨v, L, h1.mono (leA_none fun _ => rfl), h2⟩
  · cases hr
end Go.Proofs.YtjakbdogmomfeaaDoor


namespace Go.Proofs.YtjakbdogmomfeaaDoor
open Go Go.E
set_option maxRecDepth 100000
set_option maxHeartbeats 4000000
set_option linter.unusedSimpArgs false
variable {R : Type} {N : Nat}
def addR (a b : Int) : Int × Int := if (a + b) / 18446744073709551616 = 0 then ((a + b) % 18446744073709551616, 0) else (0, 11)
def subR (a b : Int) : Int × Int := if a < b then (0, 12) else (IntKind.u64.wrap (a - b), 0)
theorem add_eq (a b : C) (k : KD R) : money_Add_p N a b k = k [.int (addR a.toInt b.toInt).1, .int (addR a.toInt b.toInt).2] [] := by
  rw [money_Add_pe]
  unfold money_Add_p0 addR
  by_cases h : (a.toInt + b.toInt) / 18446744073709551616 = 0 <;> simp [h]
theorem sub_eq (a b : C) (k : KD R) : money_Sub_p N a b k = k [.int (subR a.toInt b.toInt).1, .int (subR a.toInt b.toInt).2] [] := by
  rw [money_Sub_pe]
  unfold money_Sub_p0 subR
  by_cases h : a.toInt < b.toInt <;> simp [h]
theorem addR_ok {a b : Int} (h : 0 ≤ a) (h2 : 0 ≤ b) (h3 : a + b < 18446744073709551616) : addR a b = (a + b, 0) := by
  unfold addR
  rw [if_pos (by omega), Int.emod_eq_of_lt (by omega) (by omega)]
theorem subR_ok {a b : Int} (h : b ≤ a) (h2 : 0 ≤ b) (h3 : a < 18446744073709551616) : subR a b = (a - b, 0) := by
  unfold subR
  rw [if_neg (by omega), wrap_u64 (by omega) (by omega)]
def addF (_ : Nat) (s : Int) (c : C) : Int ⊕ Int := if (addR s c.toInt).2 = 0 then .inl (addR s c.toInt).1 else .inr (addR s c.toInt).2
def valE : Int ⊕ Int → Int × Int
  | .inl s => (s, 0)
  | .inr e => (0, e)
def sumP (l : List C) : Int × Int := valE (runE addF 0 0 l)
theorem sum_eq (c : C) (hl : c.elems.length < 2199023255552) (hN : 2199023255552 < N) (k : KD R) : money_Sum_p N c k = k [.int (sumP c.elems).1, .int (sumP c.elems).2] [] := by
  rw [money_Sum_pe]
  unfold money_Sum_p0
  rw [jn_eq]
  refine (loopK_run0 (F := money_Sum_l1 N k _) (fun i (s : Int) => [c, .int c.elems.length, .int s, .int i]) (fun _ _ => []) c.elems addF (fun s => k [.int s, .int 0] []) (fun e => k [.int 0, .int e] []) ?_ ?_ (by omega)).trans ?_
  · intro i s x hx hi rec
    have h1 : (i : Int) < (c.elems.length : Int) := by omega
    unfold money_Sum_l1 addF
    simp only [go_sem, c_int, h1, add_eq, wrap_succ (show i < 4611686018427387904 by omega), Int.natCast_nonneg, and_self, if_true, getD_of hx]
    by_cases h : (addR s x.toInt).2 = 0 <;> simp [h]
  · intro s rec
    unfold money_Sum_l1
    simp only [go_sem, c_int, Int.lt_irrefl, if_false]
  · unfold sumP endE valE
    cases runE addF 0 0 c.elems <;> rfl
end Go.Proofs.YtjakbdogmomfeaaDoor


namespace Go.Proofs.YtjakbdogmomfeaaDoor
open Go Go.E
set_option maxRecDepth 100000
set_option maxHeartbeats 4000000
set_option linter.unusedVariables false
noncomputable def pact_is_hs : Hints := [([0, 1], ⟨[], [(2, .d .bool)], [], [], [], []⟩),
    ([9], ⟨[], [(2, .d .bool)], [], [], [], []⟩)]
noncomputable def pact_is_ov (N : Nat) : OvS (X0 gl0) where
  g R := []
  ok := fun R => fun _ h => nomatch h
noncomputable def pact_is_p0 {R : Type} (N : Nat) (a0 : C) (k1 : KD R) : Option R := (jn (fun d1 m1 => (k1 [C.bool (C.toBool (dk d1 0))] [])) (fun k2 => (bif decide (C.toInt a0 = 0) then (k2 [C.bool true] []) else (k2 [C.bool (decide (C.toInt a0 = 1))] []))))
noncomputable def pact_is_p {R : Type} (N : Nat) : C → KD R → Option R := lid "pact_is_p N" (pact_is_p0 N)
theorem pact_is_pe {R : Type} (N : Nat) (a0 : C) (k : KD R) : pact_is_p N a0 k = pact_is_p0 N a0 k := by unfold pact_is_p; rw [lid_eq]
theorem pact_is_run {R : Type} (N : Nat) (a0 : C) (K : V → List (Key × O) → Option R) : exF (X0 gl0) ((pact_is_ov N).ov R) extX noX (fun f => bif Nat.beq f 35 then pact_is_hs else []) N 400 8 35 [.d (.int .i64) a0] A0 K =
    pact_is_p N a0 (fun d1 m1 => K (V.d Ty.bool (C.bool (C.toBool (dk d1 0)))) []) := by
  rw [pact_is_pe]
  exact (show _ = jn (fun d1 m1 => (K (V.d Ty.bool (C.bool (C.toBool (dk d1 0)))) [])) (pact_is_p0 N a0) by kernel_rfl).trans (jn_eq _ _)
noncomputable def pact_is_g (N : Nat) {R : Type} : OvG R := fun xs _ K => match xs with
  | [.d t0 a0] => if t0 = (.int .i64) then pact_is_p N a0 (fun d1 m1 => K (V.d Ty.bool (C.bool (C.toBool (dk d1 0)))) []) else none
  | _ => none
theorem pact_is_ok (N : Nat) {R : Type} : GOk (X0 gl0) 35 (pact_is_g N (R := R)) := by
  intro xs A Kr r hr
  unfold pact_is_g at hr
  split at hr
  · simp only [Option.ite_none_right_eq_some] at hr
    obtain ⟨hty, hr⟩ := hr
    subst hty
    rw [← pact_is_run] at hr
    obtain ⟨v, L, h1, h2⟩ := exF_ok (ok0 gl0) (mo gl0) ((pact_is_ov N).ov_ok _) (extX_ok gl0) _ _ _ _ _ _ hr
    exact ⟨v, L, h1.mono (leA_none fun _ => rfl), h2⟩
  · cases hr
end Go.Proofs.YtjakbdogmomfeaaDoor


namespace Go.Proofs.YtjakbdogmomfeaaDoor
open Go Go.E
set_option maxRecDepth 100000
set_option maxHeartbeats 4000000
set_option linter.unusedVariables false
noncomputable def pact_Held_hs : Hints := [([1, 0, 1, 1], ⟨[], [(6, .sl 8 (.int .u64) 5006)], [], [], [], []⟩),
    ([4, 1, 0, 1, 1], ⟨[1, 10, 11], [(6, .sl 8 (.int .u64) 5006), (12, .d (.int .i64))], [], [], [], []⟩),
    ([1, 1, 4, 0, 1, 1, 5, 4, 1, 0, 1, 1], ⟨[1, 10, 11, 12], [(6, .sl 8 (.int .u64) 5006)], [], [], [], []⟩),
    ([9], ⟨[], [(4, .d (.int .u64)), (5, .d (.int .i64))], [], [], [], []⟩)]
noncomputable def pact_Held_ov (N : Nat) : OvS (X0 gl0) where
  g R := [(17, money_Sum_g N)]
  ok := fun R => List.forall_mem_cons.2 ⟨money_Sum_ok N, fun _ h => nomatch h⟩
noncomputable def pact_Held_l1 {R : Type} (N : Nat) (k2 : KD R) : KD R → List C → List Es → Option R := (fun k3 d1 m1 => (bif decide (C.toInt (dk d1 4) < C.toInt (dk d1 2)) then (if 0 ≤ C.toInt (dk d1 4) ∧ C.toInt (dk d1 4) < (↑(List.length (C.elems (dk d1 1))) : Int) then (jn (fun d2 m2 => (bif Nat.beq (List.length (C.elems (dk d2 4))) (List.length (C.elems (dk d2 4))) then (k3 [dk d2 0, dk d2 1, dk d2 2, C.slice (C.elems (dk d2 4)), C.int (IntKind.wrap IntKind.i64 (C.toInt (dk d2 3) + 1))] []) else none)) (fun k4 => (bif decide (C.toInt (C.get (List.getD (C.elems (dk d1 1)) (Int.toNat (C.toInt (dk d1 4))) C.nil) 1) = C.toInt (dk d1 0)) then (bif Nat.beq (List.length (C.elems (dk d1 3))) (List.length (C.elems (dk d1 3))) then (if (List.length (C.elems (dk d1 3)) + 1) * 8 ≤ 140737488355328 ∧ List.length (C.elems (dk d1 3)) + 1 ≤ 9223372036854775807 then (bif Nat.beq (List.length (C.elems (dk d1 3)) + 1) (List.length (C.elems (dk d1 3) ++ [C.get (List.getD (C.elems (dk d1 1)) (Int.toNat (C.toInt (dk d1 4))) C.nil) 2])) then (k4 [dk d1 0, dk d1 1, dk d1 2, dk d1 4, C.slice (C.elems (dk d1 3) ++ [C.get (List.getD (C.elems (dk d1 1)) (Int.toNat (C.toInt (dk d1 4))) C.nil) 2])] []) else none) else none) else none) else (bif Nat.beq (List.length (C.elems (dk d1 3))) (List.length (C.elems (dk d1 3))) then (k4 [dk d1 0, dk d1 1, dk d1 2, dk d1 4, C.slice (C.elems (dk d1 3))] []) else none)))) else none) else (bif Nat.beq (List.length (C.elems (dk d1 3))) (List.length (C.elems (dk d1 3))) then (k2 [C.slice (C.elems (dk d1 3))] []) else none)))
noncomputable def pact_Held_p0 {R : Type} (N : Nat) (a0 a1 : C) (k1 : KD R) : Option R := (jn (fun d1 m1 => (money_Sum_p N (C.slice (C.elems (dk d1 0))) (fun d2 m2 => (k1 [dk d2 0, dk d2 1] [])))) (fun k2 => (loopK N (pact_Held_l1 N k2) [a1, C.get a0 4, C.int (↑(List.length (C.elems (C.get a0 4))) : Int), C.slice [], C.int 0] [])))
noncomputable def pact_Held_p {R : Type} (N : Nat) : C → C → KD R → Option R := lid "pact_Held_p N" (pact_Held_p0 N)
theorem pact_Held_pe {R : Type} (N : Nat) (a0 a1 : C) (k : KD R) : pact_Held_p N a0 a1 k = pact_Held_p0 N a0 a1 k := by unfold pact_Held_p; rw [lid_eq]
theorem pact_Held_run {R : Type} (N : Nat) (a0 a1 : C) (K : V → List (Key × O) → Option R) : exF (X0 gl0) ((pact_Held_ov N).ov R) extX (fun f r => bif Nat.beq f 40 then (bif Nat.beq r 0 then [(2, 5)] else []) else []) (fun f => bif Nat.beq f 40 then pact_Held_hs else []) N 400 8 40 [.d tState a0, .d (.int .i64) a1] A0 K =
    pact_Held_p N a0 a1 (fun d1 m1 => K (V.tup [V.d (Ty.int IntKind.u64) (dk d1 0), V.d (Ty.int IntKind.i64) (dk d1 1)]) []) := by
  rw [pact_Held_pe]
  exact (show _ = jn (fun d1 m1 => (K (V.tup [V.d (Ty.int IntKind.u64) (dk d1 0), V.d (Ty.int IntKind.i64) (dk d1 1)]) [])) (pact_Held_p0 N a0 a1) by kernel_rfl).trans (jn_eq _ _)
noncomputable def pact_Held_g (N : Nat) {R : Type} : OvG R := fun xs _ K => match xs with
  | [.d t0 a0, .d t1 a1] => if t0 = tState ∧ t1 = (.int .i64) then pact_Held_p N a0 a1 (fun d1 m1 => K (V.tup [V.d (Ty.int IntKind.u64) (dk d1 0), V.d (Ty.int IntKind.i64) (dk d1 1)]) []) else none
  | _ => none
theorem pact_Held_ok (N : Nat) {R : Type} : GOk (X0 gl0) 40 (pact_Held_g N (R := R)) := by
  intro xs A Kr r hr
  unfold pact_Held_g at hr
  split at hr
  · simp only [Option.ite_none_right_eq_some] at hr
    obtain ⟨hty, hr⟩ := hr
    obtain ⟨rfl, rfl⟩ := hty
    rw [← pact_Held_run] at hr
    obtain ⟨v, L, h1, h2⟩ := exF_ok (ok0 gl0) (mo gl0) ((pact_Held_ov N).ov_ok _) (extX_ok gl0) _ _ _ _ _ _ hr
    exact ⟨v, L, h1.mono (leA_none fun _ => rfl), h2⟩
  · cases hr
end Go.Proofs.YtjakbdogmomfeaaDoor


namespace Go.Proofs.YtjakbdogmomfeaaDoor
open Go Go.E
set_option maxRecDepth 100000
set_option maxHeartbeats 4000000
set_option linter.unusedVariables false
noncomputable def pact_Other_hs : Hints := [([9], ⟨[], [(2, .d (.int .i64))], [], [], [], []⟩)]
noncomputable def pact_Other_ov (N : Nat) : OvS (X0 gl0) where
  g R := []
  ok := fun R => fun _ h => nomatch h
noncomputable def pact_Other_p0 {R : Type} (N : Nat) (a0 : C) (k1 : KD R) : Option R := (k1 [C.int (IntKind.wrap IntKind.i64 (1 - C.toInt a0))] [])
noncomputable def pact_Other_p {R : Type} (N : Nat) : C → KD R → Option R := lid "pact_Other_p N" (pact_Other_p0 N)
theorem pact_Other_pe {R : Type} (N : Nat) (a0 : C) (k : KD R) : pact_Other_p N a0 k = pact_Other_p0 N a0 k := by unfold pact_Other_p; rw [lid_eq]
theorem pact_Other_run {R : Type} (N : Nat) (a0 : C) (K : V → List (Key × O) → Option R) : exF (X0 gl0) ((pact_Other_ov N).ov R) extX noX (fun f => bif Nat.beq f 41 then pact_Other_hs else []) N 400 8 41 [.d (.int .i64) a0] A0 K =
    pact_Other_p N a0 (fun d1 m1 => K (V.d (Ty.int IntKind.i64) (dk d1 0)) []) := by
  rw [pact_Other_pe]
  exact (show _ = jn (fun d1 m1 => (K (V.d (Ty.int IntKind.i64) (dk d1 0)) [])) (pact_Other_p0 N a0) by kernel_rfl).trans (jn_eq _ _)
noncomputable def pact_Other_g (N : Nat) {R : Type} : OvG R := fun xs _ K => match xs with
  | [.d t0 a0] => if t0 = (.int .i64) then pact_Other_p N a0 (fun d1 m1 => K (V.d (Ty.int IntKind.i64) (dk d1 0)) []) else none
  | _ => none
theorem pact_Other_ok (N : Nat) {R : Type} : GOk (X0 gl0) 41 (pact_Other_g N (R := R)) := by
  intro xs A Kr r hr
  unfold pact_Other_g at hr
  split at hr
  · simp only [Option.ite_none_right_eq_some] at hr
    obtain ⟨hty, hr⟩ := hr
    subst hty
    rw [← pact_Other_run] at hr
    obtain ⟨v, L, h1, h2⟩ := exF_ok (ok0 gl0) (mo gl0) ((pact_Other_ov N).ov_ok _) (extX_ok gl0) _ _ _ _ _ _ hr
    exact ⟨v, L, h1.mono (leA_none fun _ => rfl), h2⟩
  · cases hr
end Go.Proofs.YtjakbdogmomfeaaDoor


namespace Go.Proofs.YtjakbdogmomfeaaDoor
open Go Go.E
set_option maxRecDepth 100000
set_option maxHeartbeats 4000000
set_option linter.unusedVariables false
noncomputable def pact_Free_hs : Hints := [([1, 0, 1, 1, 1, 1, 1, 1], ⟨[], [(10, .d (.int .u64))], [], [], [], []⟩),
    ([4, 1, 0, 1, 1, 1, 1, 1, 1], ⟨[50, 51], [(10, .d (.int .u64)), (52, .d (.int .i64))], [], [], [], []⟩),
    ([9], ⟨[], [(6, .d (.int .u64)), (7, .d (.int .i64))], [], [], [], []⟩)]
noncomputable def pact_Free_ov (N : Nat) : OvS (X0 gl0) where
  g R := [(17, money_Sum_g N), (31, money_Sub_g N), (35, pact_is_g N), (40, pact_Held_g N), (41, pact_Other_g N)]
  ok := fun R => List.forall_mem_cons.2 ⟨money_Sum_ok N, List.forall_mem_cons.2 ⟨money_Sub_ok N, List.forall_mem_cons.2 ⟨pact_is_ok N, List.forall_mem_cons.2 ⟨pact_Held_ok N, List.forall_mem_cons.2 ⟨pact_Other_ok N, fun _ h => nomatch h⟩⟩⟩⟩⟩
noncomputable def pact_Free_l1 {R : Type} (N : Nat) (k1 : KD R) (k2 : KD R) : KD R → List C → List Es → Option R := (fun k3 d5 m5 => (bif decide (C.toInt (dk d5 3) < C.toInt (dk d5 1)) then (if 0 ≤ C.toInt (dk d5 3) ∧ C.toInt (dk d5 3) < (↑(List.length (C.elems (dk d5 0))) : Int) then (money_Sub_p N (dk d5 2) (List.getD (C.elems (dk d5 0)) (Int.toNat (C.toInt (dk d5 3))) C.nil) (fun d6 m6 => (bif !decide (C.toInt (dk d6 1) = 0) then (k1 [C.int 0, dk d6 1] []) else (k3 [dk d5 0, dk d5 1, dk d6 0, C.int (IntKind.wrap IntKind.i64 (C.toInt (dk d5 3) + 1))] [])))) else none) else (k2 [dk d5 2] [])))
noncomputable def pact_Free_p0 {R : Type} (N : Nat) (a0 a1 a2 : C) (k1 : KD R) : Option R := (pact_is_p N a2 (fun d1 m1 => (bif !C.toBool (dk d1 0) then (k1 [C.int 0, C.int 1] []) else (pact_Held_p N a0 a2 (fun d2 m2 => (bif !decide (C.toInt (dk d2 1) = 0) then (k1 [C.int 0, dk d2 1] []) else (if 0 ≤ C.toInt a2 ∧ C.toInt a2 < 2 then (pact_Other_p N a2 (fun d3 m3 => (if 0 ≤ C.toInt (dk d3 0) ∧ C.toInt (dk d3 0) < 2 then (money_Sum_p N (C.slice [C.get a1 (Int.toNat (C.toInt a2)), C.get (C.get a0 2) (Int.toNat (C.toInt (dk d3 0)))]) (fun d4 m4 => (bif !decide (C.toInt (dk d4 1) = 0) then (k1 [C.int 0, dk d4 1] []) else (if 0 ≤ C.toInt a2 ∧ C.toInt a2 < 2 then (if 0 ≤ C.toInt a2 ∧ C.toInt a2 < 2 then (jn (fun d5 m5 => (k1 [dk d5 0, C.int 0] [])) (fun k2 => (loopK N (pact_Free_l1 N k1 k2) [C.slice [C.get (C.get a0 2) (Int.toNat (C.toInt a2)), C.get (C.get a0 3) (Int.toNat (C.toInt a2)), dk d2 0], C.int (↑3 : Int), dk d4 0, C.int 0] []))) else none) else none)))) else none))) else none)))))))
noncomputable def pact_Free_p {R : Type} (N : Nat) : C → C → C → KD R → Option R := lid "pact_Free_p N" (pact_Free_p0 N)
theorem pact_Free_pe {R : Type} (N : Nat) (a0 a1 a2 : C) (k : KD R) : pact_Free_p N a0 a1 a2 k = pact_Free_p0 N a0 a1 a2 k := by unfold pact_Free_p; rw [lid_eq]
theorem pact_Free_run {R : Type} (N : Nat) (a0 a1 a2 : C) (K : V → List (Key × O) → Option R) : exF (X0 gl0) ((pact_Free_ov N).ov R) extX (fun f r => bif Nat.beq f 30 then (bif Nat.beq r 0 then [(3, 5), (4, 5)] else bif Nat.beq r 6 then [(30, 7), (35, 7)] else []) else []) (fun f => bif Nat.beq f 30 then pact_Free_hs else []) N 400 8 30 [.d tState a0, .d (.arr 2 (.int .u64)) a1, .d (.int .i64) a2] A0 K =
    pact_Free_p N a0 a1 a2 (fun d1 m1 => K (V.tup [V.d (Ty.int IntKind.u64) (dk d1 0), V.d (Ty.int IntKind.i64) (dk d1 1)]) []) := by
  rw [pact_Free_pe]
  exact (show _ = jn (fun d1 m1 => (K (V.tup [V.d (Ty.int IntKind.u64) (dk d1 0), V.d (Ty.int IntKind.i64) (dk d1 1)]) [])) (pact_Free_p0 N a0 a1 a2) by kernel_rfl).trans (jn_eq _ _)
noncomputable def pact_Free_g (N : Nat) {R : Type} : OvG R := fun xs _ K => match xs with
  | [.d t0 a0, .d t1 a1, .d t2 a2] => if t0 = tState ∧ t1 = (.arr 2 (.int .u64)) ∧ t2 = (.int .i64) then pact_Free_p N a0 a1 a2 (fun d1 m1 => K (V.tup [V.d (Ty.int IntKind.u64) (dk d1 0), V.d (Ty.int IntKind.i64) (dk d1 1)]) []) else none
  | _ => none
theorem pact_Free_ok (N : Nat) {R : Type} : GOk (X0 gl0) 30 (pact_Free_g N (R := R)) := by
  intro xs A Kr r hr
  unfold pact_Free_g at hr
  split at hr
  · simp only [Option.ite_none_right_eq_some] at hr
    obtain ⟨hty, hr⟩ := hr
    obtain ⟨rfl, rfl, rfl⟩ := hty
    rw [← pact_Free_run] at hr
    obtain ⟨v, L, h1, h2⟩ := exF_ok (ok0 gl0) (mo gl0) ((pact_Free_ov N).ov_ok _) (extX_ok gl0) _ _ _ _ _ _ hr
    exact ⟨v, L, h1.mono (leA_none fun _ => rfl), h2⟩
  · cases hr
end Go.Proofs.YtjakbdogmomfeaaDoor


namespace Go.Proofs.YtjakbdogmomfeaaDoor
open Go Go.E
set_option maxRecDepth 100000
set_option maxHeartbeats 4000000
set_option linter.unusedVariables false
noncomputable def pact_Find_hs : Hints := [([9], ⟨[], [(4, .d (.int .i64))], [], [], [], []⟩)]
noncomputable def pact_Find_ov (N : Nat) : OvS (X0 gl0) where
  g R := []
  ok := fun R => fun _ h => nomatch h
noncomputable def pact_Find_l1 {R : Type} (N : Nat) (a1 : C) (k2 : KD R) (k3 : KD R) : KD R → List C → List Es → Option R := (fun k4 d1 m1 => (bif decide (C.toInt (dk d1 2) < C.toInt (dk d1 1)) then (if 0 ≤ C.toInt (dk d1 2) ∧ C.toInt (dk d1 2) < (↑(List.length (C.elems (dk d1 0))) : Int) then (jn (fun d2 m2 => (bif C.toBool (dk d2 0) then (k2 [dk d1 2] []) else (k4 [dk d1 0, dk d1 1, C.int (IntKind.wrap IntKind.i64 (C.toInt (dk d1 2) + 1))] []))) (fun k5 => (k5 [C.bool (decide (C.toInt (C.get (List.getD (C.elems (dk d1 0)) (Int.toNat (C.toInt (dk d1 2))) C.nil) 0) = C.toInt a1))] []))) else none) else (k3 [] [])))
noncomputable def pact_Find_p0 {R : Type} (N : Nat) (a0 a1 : C) (k1 : KD R) : Option R := (jn (fun d1 m1 => (k1 [dk d1 0] [])) (fun k2 => (jn (fun d1 m1 => (k2 [C.int (-1)] [])) (fun k3 => (loopK N (pact_Find_l1 N a1 k2 k3) [C.get a0 4, C.int (↑(List.length (C.elems (C.get a0 4))) : Int), C.int 0] [])))))
noncomputable def pact_Find_p {R : Type} (N : Nat) : C → C → KD R → Option R := lid "pact_Find_p N" (pact_Find_p0 N)
theorem pact_Find_pe {R : Type} (N : Nat) (a0 a1 : C) (k : KD R) : pact_Find_p N a0 a1 k = pact_Find_p0 N a0 a1 k := by unfold pact_Find_p; rw [lid_eq]
theorem pact_Find_run {R : Type} (N : Nat) (a0 a1 : C) (K : V → List (Key × O) → Option R) : exF (X0 gl0) ((pact_Find_ov N).ov R) extX (fun f r => bif Nat.beq f 36 then (bif Nat.beq r 0 then [(2, 5)] else []) else bif Nat.beq f 47 then (bif Nat.beq r 0 then [(2, 5)] else []) else []) (fun f => bif Nat.beq f 36 then pact_Find_hs else bif Nat.beq f 46 then [([1, 0, 1], ⟨[], [], [], [], [.g (.l 3)], []⟩), ([4, 1, 0, 1], ⟨[0, 1, 7], [(8, .d (.int .i64))], [], [], [.g (.l 3)], []⟩), ([9], ⟨[], [(4, .d (.int .i64))], [], [], [.g (.l 3)], []⟩)] else bif Nat.beq f 47 then [([9], ⟨[], [(3, .d .bool)], [], [], [], []⟩)] else []) N 400 8 36 [.d tState a0, .d (.int .u64) a1] A0 K =
    pact_Find_p N a0 a1 (fun d1 m1 => K (V.d (Ty.int IntKind.i64) (dk d1 0)) []) := by
  rw [pact_Find_pe]
  exact (show _ = jn (fun d1 m1 => (K (V.d (Ty.int IntKind.i64) (dk d1 0)) [])) (pact_Find_p0 N a0 a1) by kernel_rfl).trans (jn_eq _ _)
noncomputable def pact_Find_g (N : Nat) {R : Type} : OvG R := fun xs _ K => match xs with
  | [.d t0 a0, .d t1 a1] => if t0 = tState ∧ t1 = (.int .u64) then pact_Find_p N a0 a1 (fun d1 m1 => K (V.d (Ty.int IntKind.i64) (dk d1 0)) []) else none
  | _ => none
theorem pact_Find_ok (N : Nat) {R : Type} : GOk (X0 gl0) 36 (pact_Find_g N (R := R)) := by
  intro xs A Kr r hr
  unfold pact_Find_g at hr
  split at hr
  · simp only [Option.ite_none_right_eq_some] at hr
    obtain ⟨hty, hr⟩ := hr
    obtain ⟨rfl, rfl⟩ := hty
    rw [← pact_Find_run] at hr
    obtain ⟨v, L, h1, h2⟩ := exF_ok (ok0 gl0) (mo gl0) ((pact_Find_ov N).ov_ok _) (extX_ok gl0) _ _ _ _ _ _ hr
    exact ⟨v, L, h1.mono (leA_none fun _ => rfl), h2⟩
  · cases hr
end Go.Proofs.YtjakbdogmomfeaaDoor


namespace Go.Proofs.YtjakbdogmomfeaaDoor
open Go Go.E
set_option maxRecDepth 100000
set_option maxHeartbeats 4000000
set_option linter.unusedVariables false
noncomputable def pact_Sound_hs : Hints := [([0, 0, 1], ⟨[2, 3], [(19, .d .bool)], [], [], [], []⟩),
    ([1, 0, 1, 1], ⟨[2, 3], [], [], [], [], []⟩),
    ([4, 1, 0, 1, 1], ⟨[2, 3, 21, 22], [(23, .d (.int .i64))], [], [], [], []⟩),
    ([0, 4, 1, 4, 0, 1, 1, 5, 4, 1, 0, 1, 1], ⟨[2, 3, 5, 6, 21, 22, 23], [(28, .d .bool)], [], [], [], []⟩),
    ([1, 0, 1, 1, 1], ⟨[], [], [], [], [], []⟩),
    ([4, 1, 0, 1, 1, 1], ⟨[2, 3, 46], [(47, .d (.int .i64))], [], [], [], []⟩),
    ([9], ⟨[], [(4, .d (.int .i64))], [], [], [], []⟩)]
noncomputable def pact_Sound_ov (N : Nat) : OvS (X0 gl0) where
  g R := [(30, pact_Free_g N), (35, pact_is_g N), (36, pact_Find_g N)]
  ok := fun R => List.forall_mem_cons.2 ⟨pact_Free_ok N, List.forall_mem_cons.2 ⟨pact_is_ok N, List.forall_mem_cons.2 ⟨pact_Find_ok N, fun _ h => nomatch h⟩⟩⟩
noncomputable def pact_Sound_l1 {R : Type} (N : Nat) (k1 : KD R) (k2 : KD R) : KD R → List C → List Es → Option R := (fun k3 d3 m3 => (bif decide (C.toInt (dk d3 3) < 2) then (if 0 ≤ C.toInt (dk d3 3) ∧ C.toInt (dk d3 3) < 2 then (pact_Free_p N (dk d3 0) (dk d3 1) (C.get (dk d3 2) (Int.toNat (C.toInt (dk d3 3)))) (fun d4 m4 => (bif !decide (C.toInt (dk d4 1) = 0) then (k1 [dk d4 1] []) else (k3 [dk d3 0, dk d3 1, dk d3 2, C.int (IntKind.wrap IntKind.i64 (C.toInt (dk d3 3) + 1))] [])))) else none) else (k2 [] [])))
noncomputable def pact_Sound_l2 {R : Type} (N : Nat) (k1 : KD R) (k2 : KD R) : KD R → List C → List Es → Option R := (fun k3 d2 m2 => (bif decide (C.toInt (dk d2 4) < C.toInt (dk d2 3)) then (if 0 ≤ C.toInt (dk d2 4) ∧ C.toInt (dk d2 4) < (↑(List.length (C.elems (dk d2 2))) : Int) then (jn (fun d3 m3 => (bif C.toBool (dk d3 6) then (k1 [C.int 1] []) else (pact_Find_p N (dk d3 0) (C.get (dk d3 7) 0) (fun d4 m4 => (bif !decide (C.toInt (dk d4 0) = C.toInt (dk d3 2)) then (k1 [C.int 7] []) else (k3 [dk d3 0, dk d3 1, dk d3 3, dk d3 4, C.int (IntKind.wrap IntKind.i64 (C.toInt (dk d3 5) + 1))] [])))))) (fun k4 => (pact_is_p N (C.get (List.getD (C.elems (dk d2 2)) (Int.toNat (C.toInt (dk d2 4))) C.nil) 1) (fun d3 m3 => (bif !C.toBool (dk d3 0) then (k4 [dk d2 0, dk d2 1, dk d2 4, dk d2 2, dk d2 3, dk d2 4, C.bool true, List.getD (C.elems (dk d2 2)) (Int.toNat (C.toInt (dk d2 4))) C.nil] []) else (k4 [dk d2 0, dk d2 1, dk d2 4, dk d2 2, dk d2 3, dk d2 4, C.bool (decide (C.toInt (C.get (List.getD (C.elems (dk d2 2)) (Int.toNat (C.toInt (dk d2 4))) C.nil) 2) = 0)), List.getD (C.elems (dk d2 2)) (Int.toNat (C.toInt (dk d2 4))) C.nil] [])))))) else none) else (k2 [dk d2 0, dk d2 1] [])))
noncomputable def pact_Sound_p0 {R : Type} (N : Nat) (a0 a1 : C) (k1 : KD R) : Option R := (jn (fun d1 m1 => (bif C.toBool (dk d1 2) then (k1 [C.int 8] []) else (jn (fun d2 m2 => (jn (fun d3 m3 => (k1 [C.int 0] [])) (fun k2 => (loopK N (pact_Sound_l1 N k1 k2) [dk d2 0, dk d2 1, C.set (C.set (zeroC (Ty.arr 2 (Ty.int IntKind.i64))) 0 (C.int 0)) 1 (C.int 1), C.int 0] [])))) (fun k2 => (loopK N (pact_Sound_l2 N k1 k2) [dk d1 0, dk d1 1, C.get (dk d1 0) 4, C.int (↑(List.length (C.elems (C.get (dk d1 0) 4))) : Int), C.int 0] []))))) (fun k2 => (bif decide (200 < C.toInt (C.get a0 1)) then (k2 [a0, a1, C.bool true] []) else (k2 [a0, a1, C.bool (decide (8 < (↑(List.length (C.elems (C.get a0 4))) : Int)))] []))))
noncomputable def pact_Sound_p {R : Type} (N : Nat) : C → C → KD R → Option R := lid "pact_Sound_p N" (pact_Sound_p0 N)
theorem pact_Sound_pe {R : Type} (N : Nat) (a0 a1 : C) (k : KD R) : pact_Sound_p N a0 a1 k = pact_Sound_p0 N a0 a1 k := by unfold pact_Sound_p; rw [lid_eq]
theorem pact_Sound_run {R : Type} (N : Nat) (a0 a1 : C) (K : V → List (Key × O) → Option R) : exF (X0 gl0) ((pact_Sound_ov N).ov R) extX (fun f r => bif Nat.beq f 27 then (bif Nat.beq r 0 then [(2, 5), (3, 5)] else []) else []) (fun f => bif Nat.beq f 27 then pact_Sound_hs else []) N 400 8 27 [.d tState a0, .d (.arr 2 (.int .u64)) a1] A0 K =
    pact_Sound_p N a0 a1 (fun d1 m1 => K (V.d (Ty.int IntKind.i64) (dk d1 0)) []) := by
  rw [pact_Sound_pe]
  exact (show _ = jn (fun d1 m1 => (K (V.d (Ty.int IntKind.i64) (dk d1 0)) [])) (pact_Sound_p0 N a0 a1) by kernel_rfl).trans (jn_eq _ _)
noncomputable def pact_Sound_g (N : Nat) {R : Type} : OvG R := fun xs _ K => match xs with
  | [.d t0 a0, .d t1 a1] => if t0 = tState ∧ t1 = (.arr 2 (.int .u64)) then pact_Sound_p N a0 a1 (fun d1 m1 => K (V.d (Ty.int IntKind.i64) (dk d1 0)) []) else none
  | _ => none
theorem pact_Sound_ok (N : Nat) {R : Type} : GOk (X0 gl0) 27 (pact_Sound_g N (R := R)) := by
  intro xs A Kr r hr
  unfold pact_Sound_g at hr
  split at hr
  · simp only [Option.ite_none_right_eq_some] at hr
    obtain ⟨hty, hr⟩ := hr
    obtain ⟨rfl, rfl⟩ := hty
    rw [← pact_Sound_run] at hr
    obtain ⟨v, L, h1, h2⟩ := exF_ok (ok0 gl0) (mo gl0) ((pact_Sound_ov N).ov_ok _) (extX_ok gl0) _ _ _ _ _ _ hr
    exact ⟨v, L, h1.mono (leA_none fun _ => rfl), h2⟩
  · cases hr
end Go.Proofs.YtjakbdogmomfeaaDoor


namespace Go.Proofs.YtjakbdogmomfeaaDoor
open Go Go.E
set_option maxRecDepth 100000
set_option maxHeartbeats 4000000
set_option linter.unusedVariables false
noncomputable def pact_Split_hs : Hints := [([1, 0, 1, 1, 1, 1], ⟨[8, 11], [], [], [], [], []⟩),
    ([4, 1, 0, 1, 1, 1, 1], ⟨[3, 4, 5, 6, 8, 11], [(34, .d (.int .i64))], [], [], [], []⟩),
    ([1, 0, 1, 1, 1, 1, 1, 4, 0, 1, 1, 5, 4, 1, 0, 1, 1, 1, 1], ⟨[3, 4, 5, 6, 8, 11, 12, 34], [(17, .sl 8 (.int .u64) 5017)], [], [], [], []⟩),
    ([4, 1, 0, 1, 1, 1, 1, 1, 4, 0, 1, 1, 5, 4, 1, 0, 1, 1, 1, 1], ⟨[3, 4, 5, 6, 8, 11, 12, 34, 63, 64], [(17, .sl 8 (.int .u64) 5017), (65, .d (.int .i64))], [], [], [], []⟩),
    ([1, 1, 4, 0, 1, 1, 5, 4, 1, 0, 1, 1, 1, 1, 1, 4, 0, 1, 1, 5, 4, 1, 0, 1, 1, 1, 1], ⟨[3, 4, 5, 6, 8, 11, 12, 34, 63, 64, 65], [(17, .sl 8 (.int .u64) 5017)], [], [], [], []⟩),
    ([9], ⟨[], [(8, .as (.ptr (.l 8) [] (.arr 2 (.int .u64)))), (9, .d (.int .i64))], [], [(.l 8, .box (.d (.arr 2 (.int .u64))))], [], []⟩)]
noncomputable def pact_Split_ov (N : Nat) : OvS (X0 gl0) where
  g R := [(17, money_Sum_g N), (27, pact_Sound_g N), (30, pact_Free_g N), (31, money_Sub_g N)]
  ok := fun R => List.forall_mem_cons.2 ⟨money_Sum_ok N, List.forall_mem_cons.2 ⟨pact_Sound_ok N, List.forall_mem_cons.2 ⟨pact_Free_ok N, List.forall_mem_cons.2 ⟨money_Sub_ok N, fun _ h => nomatch h⟩⟩⟩⟩
noncomputable def pact_Split_l1 {R : Type} (N : Nat) (k4 : KD R) : KD R → List C → List Es → Option R := (fun k5 d5 m5 => (bif decide (C.toInt (dk d5 9) < C.toInt (dk d5 7)) then (if 0 ≤ C.toInt (dk d5 9) ∧ C.toInt (dk d5 9) < (↑(List.length (C.elems (dk d5 6))) : Int) then (if 0 ≤ C.toInt (dk d5 9) ∧ C.toInt (dk d5 9) < (↑(List.length (C.elems (dk d5 0))) : Int) then (jn (fun d6 m6 => (bif Nat.beq (List.length (C.elems (dk d6 9))) (List.length (C.elems (dk d6 9))) then (k5 [dk d6 0, dk d6 1, dk d6 2, dk d6 3, dk d6 4, dk d6 5, dk d6 6, dk d6 7, C.slice (C.elems (dk d6 9)), C.int (IntKind.wrap IntKind.i64 (C.toInt (dk d6 8) + 1)), dk d6 10, dk d6 11] []) else none)) (fun k6 => (bif !decide (C.toInt (C.get (List.getD (C.elems (dk d5 6)) (Int.toNat (C.toInt (dk d5 9))) C.nil) 1) = C.toInt (dk d5 4)) == C.toBool (List.getD (C.elems (dk d5 0)) (Int.toNat (C.toInt (dk d5 9))) C.nil) then (bif Nat.beq (List.length (C.elems (dk d5 8))) (List.length (C.elems (dk d5 8))) then (if (List.length (C.elems (dk d5 8)) + 1) * 8 ≤ 140737488355328 ∧ List.length (C.elems (dk d5 8)) + 1 ≤ 9223372036854775807 then (bif Nat.beq (List.length (C.elems (dk d5 8)) + 1) (List.length (C.elems (dk d5 8) ++ [C.get (List.getD (C.elems (dk d5 6)) (Int.toNat (C.toInt (dk d5 9))) C.nil) 2])) then (k6 [dk d5 0, dk d5 1, dk d5 2, dk d5 3, dk d5 4, dk d5 5, dk d5 6, dk d5 7, dk d5 9, C.slice (C.elems (dk d5 8) ++ [C.get (List.getD (C.elems (dk d5 6)) (Int.toNat (C.toInt (dk d5 9))) C.nil) 2]), dk d5 10, dk d5 11] []) else none) else none) else none) else (bif Nat.beq (List.length (C.elems (dk d5 8))) (List.length (C.elems (dk d5 8))) then (k6 [dk d5 0, dk d5 1, dk d5 2, dk d5 3, dk d5 4, dk d5 5, dk d5 6, dk d5 7, dk d5 9, C.slice (C.elems (dk d5 8)), dk d5 10, dk d5 11] []) else none)))) else none) else none) else (bif Nat.beq (List.length (C.elems (dk d5 8))) (List.length (C.elems (dk d5 8))) then (k4 [dk d5 0, dk d5 1, dk d5 2, dk d5 3, dk d5 4, dk d5 5, C.slice (C.elems (dk d5 8)), dk d5 10, dk d5 11] []) else none)))
noncomputable def pact_Split_l2 {R : Type} (N : Nat) (k1 : KD R) (k2 : KD R) : KD R → List C → List Es → Option R := (fun k3 d2 m2 => (bif decide (C.toInt (dk d2 4) < 2) then (pact_Free_p N (dk d2 1) (dk d2 2) (dk d2 4) (fun d3 m3 => (if 0 ≤ C.toInt (dk d2 4) ∧ C.toInt (dk d2 4) < 2 then (if 0 ≤ C.toInt (dk d2 4) ∧ C.toInt (dk d2 4) < 2 then (money_Sub_p N (C.get (C.get (dk d2 1) 3) (Int.toNat (C.toInt (dk d2 4)))) (C.get (dk d2 3) (Int.toNat (C.toInt (dk d2 4)))) (fun d4 m4 => (bif !decide (C.toInt (dk d4 1) = 0) then (k1 [dk d4 1, zeroC (Ty.arr 2 (Ty.int IntKind.u64))] []) else (jn (fun d5 m5 => (money_Sum_p N (C.slice (C.elems (dk d5 6))) (fun d6 m6 => (if 0 ≤ C.toInt (dk d5 4) ∧ C.toInt (dk d5 4) < 2 then (bif !decide (C.toInt (dk d6 1) = 0) then (k1 [dk d6 1, zeroC (Ty.arr 2 (Ty.int IntKind.u64))] []) else (k3 [dk d5 0, dk d5 1, dk d5 2, dk d5 3, C.int (IntKind.wrap IntKind.i64 (C.toInt (dk d5 5) + 1)), dk d5 7, C.set (dk d5 8) (Int.toNat (C.toInt (dk d5 4))) (dk d6 0)] [])) else none)))) (fun k4 => (loopK N (pact_Split_l1 N k4) [dk d2 0, dk d2 1, dk d2 2, dk d2 3, dk d2 4, dk d2 4, C.get (dk d2 1) 4, C.int (↑(List.length (C.elems (C.get (dk d2 1) 4))) : Int), C.slice [dk d3 0, dk d4 0], C.int 0, dk d2 5, dk d2 6] [])))))) else none) else none))) else (k2 [dk d2 5, dk d2 6] [])))
noncomputable def pact_Split_p0 {R : Type} (N : Nat) (a0 a1 a2 a3 : C) (k1 : KD R) : Option R := (pact_Sound_p N a0 a1 (fun d1 m1 => (bif !decide (C.toInt (dk d1 0) = 0) then (k1 [dk d1 0, zeroC (Ty.arr 2 (Ty.int IntKind.u64))] []) else (bif !decide ((↑(List.length (C.elems a3)) : Int) = (↑(List.length (C.elems (C.get a0 4))) : Int)) then (k1 [C.int 1, zeroC (Ty.arr 2 (Ty.int IntKind.u64))] []) else (jn (fun d2 m2 => (k1 [C.int 0, dk d2 1] [])) (fun k2 => (loopK N (pact_Split_l2 N k1 k2) [a3, a0, a1, a2, C.int 0, zeroC (Ty.arr 2 (Ty.int IntKind.u64)), zeroC (Ty.arr 2 (Ty.int IntKind.u64))] [])))))))
noncomputable def pact_Split_p {R : Type} (N : Nat) : C → C → C → C → KD R → Option R := lid "pact_Split_p N" (pact_Split_p0 N)
theorem pact_Split_pe {R : Type} (N : Nat) (a0 a1 a2 a3 : C) (k : KD R) : pact_Split_p N a0 a1 a2 a3 k = pact_Split_p0 N a0 a1 a2 a3 k := by unfold pact_Split_p; rw [lid_eq]
theorem pact_Split_run {R : Type} (N : Nat) (a0 a1 a2 a3 : C) (K : V → List (Key × O) → Option R) : exF (X0 gl0) ((pact_Split_ov N).ov R) extX (fun f r => bif Nat.beq f 22 then (bif Nat.beq r 0 then [(4, 5), (5, 5), (6, 5)] else bif Nat.beq r 14 then [(61, 4)] else bif Nat.beq r 11 then [(52, 7)] else bif Nat.beq r 18 then [(19, 6)] else []) else []) (fun f => bif Nat.beq f 22 then pact_Split_hs else []) N 400 8 22 [.d tState a0, .d (.arr 2 (.int .u64)) a1, .d (.arr 2 (.int .u64)) a2, .d (.slice 1 .bool) a3] A0 K =
    pact_Split_p N a0 a1 a2 a3 (fun d1 m1 => K (V.tup [V.d (Ty.arr 2 (Ty.int IntKind.u64)) (dk d1 1), V.d (Ty.int IntKind.i64) (dk d1 0)]) []) := by
  rw [pact_Split_pe]
  exact (show _ = jn (fun d1 m1 => (K (V.tup [V.d (Ty.arr 2 (Ty.int IntKind.u64)) (dk d1 1), V.d (Ty.int IntKind.i64) (dk d1 0)]) [])) (pact_Split_p0 N a0 a1 a2 a3) by kernel_rfl).trans (jn_eq _ _)
noncomputable def pact_Split_g (N : Nat) {R : Type} : OvG R := fun xs _ K => match xs with
  | [.d t0 a0, .d t1 a1, .d t2 a2, .d t3 a3] => if t0 = tState ∧ t1 = (.arr 2 (.int .u64)) ∧ t2 = (.arr 2 (.int .u64)) ∧ t3 = (.slice 1 .bool) then pact_Split_p N a0 a1 a2 a3 (fun d1 m1 => K (V.tup [V.d (Ty.arr 2 (Ty.int IntKind.u64)) (dk d1 1), V.d (Ty.int IntKind.i64) (dk d1 0)]) []) else none
  | _ => none
theorem pact_Split_ok (N : Nat) {R : Type} : GOk (X0 gl0) 22 (pact_Split_g N (R := R)) := by
  intro xs A Kr r hr
  unfold pact_Split_g at hr
  split at hr
  · simp only [Option.ite_none_right_eq_some] at hr
    obtain ⟨hty, hr⟩ := hr
    obtain ⟨rfl, rfl, rfl, rfl⟩ := hty
    rw [← pact_Split_run] at hr
    obtain ⟨v, L, h1, h2⟩ := exF_ok (ok0 gl0) (mo gl0) ((pact_Split_ov N).ov_ok _) (extX_ok gl0) _ _ _ _ _ _ hr
    exact ⟨v, L, h1.mono (leA_none fun _ => rfl), h2⟩
  · cases hr
end Go.Proofs.YtjakbdogmomfeaaDoor


namespace Go.Proofs.YtjakbdogmomfeaaDoor
open Go Go.E
set_option maxRecDepth 100000
set_option maxHeartbeats 4000000
set_option linter.unusedSimpArgs false
variable {R : Type} {N : Nat}
theorem is_eq (a : C) (k : KD R) : pact_is_p N a k = k [.bool (decide (a.toInt = 0 ∨ a.toInt = 1))] [] := by
  rw [pact_is_pe]
  unfold pact_is_p0
  by_cases h : a.toInt = 0 <;> simp [h, go_sem, c_bool]
def condsP (s : C) : List C := (s.get 4).elems
def heldL (side : Int) (l : List C) : List C := (l.filter fun c => decide ((c.get 1).toInt = side)).map fun c => c.get 2
def heldP (s : C) (side : Int) : Int × Int := sumP (heldL side (condsP s))
theorem held_take {side : Int} {l : List C} {i : Nat} {c : C} (h : l[i]? = some c) : heldL side (l.take (i + 1)) = heldL side (l.take i) ++ (if (c.get 1).toInt = side then [c.get 2] else []) := by
  unfold heldL
  rw [List.take_add_one, h, Option.toList_some, List.filter_append, List.map_append]
  by_cases hs : (c.get 1).toInt = side <;> simp [hs]
theorem held_len {side : Int} {l : List C} {i : Nat} : (heldL side (l.take i)).length ≤ i := by
  unfold heldL
  rw [List.length_map]
  exact Nat.le_trans (List.length_filter_le _ _) (by rw [List.length_take]; omega)
theorem held_eq (s side : C) (hl : (condsP s).length < 1099511627776) (hN : 2199023255552 < N) (k : KD R) : pact_Held_p N s side k = k [.int (heldP s side.toInt).1, .int (heldP s side.toInt).2] [] := by
  rw [pact_Held_pe]
  unfold pact_Held_p0
  rw [jn_eq]
  refine loopK_count (F := pact_Held_l1 N _) (fun i => [side, s.get 4, .int (condsP s).length, .slice (heldL side.toInt ((condsP s).take i)), .int i]) (fun _ => []) (condsP s).length _ ?_ ?_ (by omega)
  · intro i hi rec
    have hc : (condsP s)[i]? = some (condsP s)[i] := List.getElem?_eq_getElem hi
    have h1 : (i : Int) < ((condsP s).length : Int) := by omega
    have h2 := held_len (side := side.toInt) (l := condsP s) (i := i)
    have h3 : ((heldL side.toInt ((condsP s).take i)).length + 1) * 8 ≤ 140737488355328 ∧ (heldL side.toInt ((condsP s).take i)).length + 1 ≤ 9223372036854775807 := by omega
    have hd : (s.get 4).elems.getD i .nil = (condsP s)[i] := getD_of hc
    have hs : (s.get 4).elems.length = (condsP s).length := rfl
    unfold pact_Held_l1
    simp only [go_sem, c_int, c_slice, hs, h1, hd, wrap_succ (show i < 4611686018427387904 by omega), Int.natCast_nonneg, and_self, if_true, h3, Nat.beq_refl, cond_true, held_take hc]
    by_cases h : ((condsP s)[i].get 1).toInt = side.toInt
    · simp [h]
    · simp [h]
  · intro rec
    unfold pact_Held_l1
    simp only [go_sem, c_int, c_slice, Int.lt_irrefl, if_false, Nat.beq_refl, cond_true, List.take_length]
    have h2 := held_len (side := side.toInt) (l := condsP s) (i := (condsP s).length)
    rw [List.take_length] at h2
    rw [sum_eq _ (by rw [c_slice]; omega) hN]
    rfl
def subF (_ : Nat) (s : Int) (c : C) : Int ⊕ Int := if (subR s c.toInt).2 = 0 then .inl (subR s c.toInt).1 else .inr (subR s c.toInt).2
def freeP (s put : C) (side : Int) : Int × Int :=
  if side ≠ 0 ∧ side ≠ 1 then (0, 1) else if (heldP s side).2 ≠ 0 then (0, (heldP s side).2) else
    if (sumP [put.get side.toNat, (s.get 2).get (1 - side).toNat]).2 ≠ 0 then (0, (sumP [put.get side.toNat, (s.get 2).get (1 - side).toNat]).2) else
      valE (runE subF 0 (sumP [put.get side.toNat, (s.get 2).get (1 - side).toNat]).1 [(s.get 2).get side.toNat, (s.get 3).get side.toNat, .int (heldP s side).1])
theorem free_eq (s put side : C) (hl : (condsP s).length < 1099511627776) (hN : 2199023255552 < N) (k : KD R) : pact_Free_p N s put side k = k [.int (freeP s put side.toInt).1, .int (freeP s put side.toInt).2] [] := by
  rw [pact_Free_pe]
  unfold pact_Free_p0 freeP
  rw [pact_is_pe]
  unfold pact_is_p0
  by_cases hs : side.toInt ≠ 0 ∧ side.toInt ≠ 1
  · simp [hs.1, hs.2, go_sem, c_int, c_bool]
  · have hs' : side.toInt = 0 ∨ side.toInt = 1 := by omega
    have h2 : 0 ≤ side.toInt ∧ side.toInt < 2 := by omega
    have h3 : 0 ≤ (1 - side.toInt) ∧ (1 - side.toInt) < 2 := by omega
    have w : IntKind.i64.wrap (1 - side.toInt) = 1 - side.toInt := IntWalk.i64_in _ (by omega)
    have hb : (bif decide (side.toInt = 0) then true else decide (side.toInt = 1)) = true := by rcases hs' with h | h <;> simp [h]
    have e : ∀ K : KD R, (bif decide (side.toInt = 0) then K [.bool true] [] else K [.bool (decide (side.toInt = 1))] []) = K [.bool true] [] := fun K => by rcases hs' with h | h <;> simp [h]
    rw [if_neg hs]
    simp only [go_sem, c_int, c_bool, e, held_eq s side hl hN, Bool.not_true, cond_false, h2, and_self, if_true, pact_Other_pe, pact_Other_p0, w, h3]
    by_cases h4 : (heldP s side.toInt).2 = 0
    · simp only [h4, decide_true, Bool.not_true, cond_false, ne_eq, not_true, if_false]
      rw [sum_eq _ (by simp [C.elems]) hN]
      simp only [go_sem, c_int, c_slice]
      by_cases h5 : (sumP [put.get side.toInt.toNat, (s.get 2).get (1 - side.toInt).toNat]).2 = 0
      · simp only [h5, decide_true, Bool.not_true, cond_false, ne_eq, not_true, if_false, if_true]
        refine (loopK_run0 (F := pact_Free_l1 N k _) (fun i (x : Int) => [.slice [(s.get 2).get side.toInt.toNat, (s.get 3).get side.toInt.toNat, .int (heldP s side.toInt).1], .int 3, .int x, .int i]) (fun _ _ => [])
          [(s.get 2).get side.toInt.toNat, (s.get 3).get side.toInt.toNat, .int (heldP s side.toInt).1] subF (fun s => k [.int s, .int 0] []) (fun e => k [.int 0, .int e] []) ?_ ?_ (by simp; omega)).trans ?_
        · intro i x c hx hi rec
          have hi3 : i < 3 := hi
          have h1 : (i : Int) < 3 := by omega
          have hlen : (i : Int) < ((0 + 1 + 1 + 1 : Nat) : Int) := by omega
          unfold pact_Free_l1 subF
          simp only [go_sem, c_int, c_slice, h1, sub_eq, wrap_succ (show i < 4611686018427387904 by omega), Int.natCast_nonneg, and_self, if_true, getD_of hx, List.length_cons, List.length_nil, hlen]
          by_cases h : (subR x c.toInt).2 = 0 <;> simp [h]
        · intro x rec
          unfold pact_Free_l1
          simp only [go_sem, c_int, c_slice]
          simp
        · unfold endE valE
          cases runE subF 0 (sumP [put.get side.toInt.toNat, (s.get 2).get (1 - side.toInt).toNat]).1 [(s.get 2).get side.toInt.toNat, (s.get 3).get side.toInt.toNat, .int (heldP s side.toInt).1] <;> rfl
      · simp [h5]
    · simp [h4]

def zz2 : C := .agg [.int 0, .int 1]
def findF (id : Int) (i : Nat) (_ : Unit) (c : C) : Unit ⊕ Nat := if (c.get 0).toInt = id then .inr i else .inl ()
def placeE : Unit ⊕ Nat → Int
  | .inl _ => -1
  | .inr i => i
def findP (s : C) (id : Int) : Int := placeE (runE (findF id) 0 () (condsP s))
theorem find_eq (s id : C) (hl : (condsP s).length < 1099511627776) (hN : 2199023255552 < N) (k : KD R) : pact_Find_p N s id k = k [.int (findP s id.toInt)] [] := by
  rw [pact_Find_pe]
  unfold pact_Find_p0
  rw [jn_eq, jn_eq]
  refine (loopK_run0 (F := pact_Find_l1 N id _ _) (fun i (_ : Unit) => [s.get 4, .int (condsP s).length, .int i]) (fun _ _ => []) (condsP s) (findF id.toInt) (fun _ => k [.int (-1)] []) (fun i => k [.int i] []) (s0 := ()) ?_ ?_ (by omega)).trans ?_
  · intro i _ c hx hi rec
    have h1 : (i : Int) < ((condsP s).length : Int) := by omega
    have hd : (s.get 4).elems.getD i .nil = c := getD_of hx
    have hs : (s.get 4).elems.length = (condsP s).length := rfl
    unfold pact_Find_l1 findF
    simp only [go_sem, c_int, c_bool, hs, h1, hd, wrap_succ (show i < 4611686018427387904 by omega), Int.natCast_nonneg, and_self, if_true]
    by_cases h : (c.get 0).toInt = id.toInt <;> simp [h]
  · intro _ rec
    unfold pact_Find_l1
    simp only [go_sem, c_int, Int.lt_irrefl, if_false]
  · unfold findP endE placeE
    cases runE (findF id.toInt) 0 () (condsP s) <;> rfl
def soundF (s : C) (i : Nat) (_ : Unit) (c : C) : Unit ⊕ Int :=
  if ((c.get 1).toInt ≠ 0 ∧ (c.get 1).toInt ≠ 1) ∨ (c.get 2).toInt = 0 then .inr 1 else if findP s (c.get 0).toInt = i then .inl () else .inr 7
def freesF (s put : C) (_ : Nat) (_ : Unit) (side : Int) : Unit ⊕ Int := if (freeP s put side).2 = 0 then .inl () else .inr (freeP s put side).2
def okE : Unit ⊕ Int → Int
  | .inl _ => 0
  | .inr e => e
def soundP (s put : C) : Int :=
  if 200 < (s.get 1).toInt ∨ 8 < (condsP s).length then 8 else match runE (soundF s) 0 () (condsP s) with
    | .inl _ => okE (runE (freesF s put) 0 () [0, 1])
    | .inr e => e
theorem sound_eq (s put : C) (hN : 2199023255552 < N) (k : KD R) : pact_Sound_p N s put k = k [.int (soundP s put)] [] := by
  rw [pact_Sound_pe]
  have hz : C.set (C.set (zeroC (Ty.arr 2 (Ty.int IntKind.i64))) 0 (C.int 0)) 1 (C.int 1) = zz2 := rfl
  unfold pact_Sound_p0 soundP
  rw [hz]
  by_cases h1 : 200 < (s.get 1).toInt
  · simp [h1, go_sem, c_int, c_bool]
  have h8e : ((8 : Int) < (((s.get 4).elems.length : Nat) : Int)) = (8 < (condsP s).length) := by
    show ((8 : Int) < (((condsP s).length : Nat) : Int)) = _
    exact propext ⟨fun h => by omega, fun h => by omega⟩
  by_cases h2 : 8 < (condsP s).length
  · simp only [h1, h2, go_sem, c_int, c_bool, h8e, or_true, if_true]
  have hl : (condsP s).length < 1099511627776 := by omega
  have key : ∀ k' : KD R, loopK N (pact_Sound_l1 N k k') [s, put, zz2, .int 0] [] = endE (fun _ => k' [] []) (fun e => k [.int e] []) (runE (freesF s put) 0 () [0, 1]) := by
    intro k'
    refine loopK_run0 (F := pact_Sound_l1 N k k') (fun i (_ : Unit) => [s, put, zz2, .int i]) (fun _ _ => []) [0, 1] (freesF s put) (fun _ => k' [] []) (fun e => k [.int e] []) (s0 := ()) ?_ ?_ (by simp; omega)
    · intro i _ c hx hi rec
      have hi2 : i < 2 := hi
      have h1 : (i : Int) < 2 := by omega
      have hc : zz2.get i = .int c := by
        have : i = 0 ∨ i = 1 := by omega
        rcases this with rfl | rfl <;> simp at hx <;> subst hx <;> rfl
      unfold pact_Sound_l1 freesF
      simp only [go_sem, c_int, h1, hc, free_eq s put _ hl hN, wrap_succ (show i < 4611686018427387904 by omega), Int.natCast_nonneg, and_self, if_true]
      by_cases h : (freeP s put c).2 = 0 <;> simp [h]
    · intro _ rec
      unfold pact_Sound_l1
      simp [go_sem, c_int]
  have hor : ¬ (200 < (s.get 1).toInt ∨ 8 < (condsP s).length) := by omega
  rw [if_neg hor]
  simp only [h1, h2, go_sem, c_int, c_bool, h8e, decide_false, cond_false]
  refine (loopK_run0 (F := pact_Sound_l2 N k _) (fun i (_ : Unit) => [s, put, s.get 4, .int (condsP s).length, .int i]) (fun _ _ => []) (condsP s) (soundF s) (fun _ => k [.int (okE (runE (freesF s put) 0 () [0, 1]))] []) (fun e => k [.int e] []) (s0 := ()) ?_ ?_ (by omega)).trans ?_
  · intro i _ c hx hi rec
    have h1 : (i : Int) < ((condsP s).length : Int) := by omega
    have hd : (s.get 4).elems.getD i .nil = c := getD_of hx
    have hs : (s.get 4).elems.length = (condsP s).length := rfl
    unfold pact_Sound_l2 soundF
    simp only [go_sem, c_int, c_bool, hs, h1, hd, wrap_succ (show i < 4611686018427387904 by omega), Int.natCast_nonneg, and_self, if_true, find_eq s _ hl hN, is_eq]
    by_cases h3 : (c.get 1).toInt = 0
    · by_cases h4 : (c.get 2).toInt = 0
      · simp [h3, h4]
      · by_cases h5 : findP s (c.get 0).toInt = i <;> simp [h3, h4, h5]
    · by_cases h3' : (c.get 1).toInt = 1
      · by_cases h4 : (c.get 2).toInt = 0
        · simp [h3', h4]
        · by_cases h5 : findP s (c.get 0).toInt = i <;> simp [h3', h4, h5]
      · simp [h3, h3']
  · intro _ rec
    unfold pact_Sound_l2
    simp only [go_sem, c_int, Int.lt_irrefl, decide_false, cond_false, key]
    unfold endE okE
    cases runE (freesF s put) 0 () [0, 1] <;> rfl
  · unfold endE
    cases runE (soundF s) 0 () (condsP s) <;> rfl
theorem sound_len {s put : C} (h : soundP s put = 0) : (condsP s).length ≤ 8 ∧ (s.get 1).toInt ≤ 200 := by
  unfold soundP at h
  split at h
  · cases h
  · omega
def splF (done : List C) (side : Int) (j : Nat) (acc : List C) (c : C) : List C ⊕ Unit := .inl (if (!(decide ((c.get 1).toInt = side) == (done.getD j .nil).toBool)) = true then acc ++ [c.get 2] else acc)
def listE : List C ⊕ Unit → List C
  | .inl l => l
  | .inr _ => []
def splR (done : List C) (side : Int) (acc l : List C) : List C := listE (runE (splF done side) 0 acc l)
theorem runE_inl {α σ : Type} {f : Nat → σ → α → σ ⊕ Unit} (g : Nat → σ → α → σ) (h : ∀ i s c, f i s c = .inl (g i s c)) : ∀ (l : List α) (i : Nat) (s : σ), ∃ s', runE f i s l = .inl s'
  | [], _, s => ⟨s, rfl⟩
  | c :: l, i, s => by simp only [runE, h]; exact runE_inl g h l _ _
theorem spl_loop {done : List C} {s : C} (hd : done.length = (condsP s).length) (hl : (condsP s).length ≤ 8) (hN : 2199023255552 < N) (sd : C) (hsd : sd = .slice done) (put paid a b out : C) (side : Nat) (acc : List C) (hacc : acc.length ≤ 2) (k4 : KD R) :
    loopK N (pact_Split_l1 N k4) [sd, s, put, paid, .int side, .int side, s.get 4, .int (condsP s).length, .slice acc, .int 0, b, out] [] = k4 [sd, s, put, paid, .int side, .int side, .slice (splR done side acc (condsP s)), b, out] [] := by
  subst hsd
  refine (loopK_run (F := pact_Split_l1 N k4) (fun j (x : List C) => [.slice done, s, put, paid, .int side, .int side, s.get 4, .int (condsP s).length, .slice x, .int j, b, out]) (fun _ _ => []) (condsP s) (splF done side)
    (fun x => k4 [.slice done, s, put, paid, .int side, .int side, .slice x, b, out] []) (fun _ => none) (fun j x => x.length ≤ j + 2) hacc ?_ ?_ (by omega)).trans ?_
  · intro j x c hx hP
    have hj : j < (condsP s).length := (List.getElem?_eq_some_iff.1 hx).1
    refine ⟨fun rec => ?_, fun x' hx' => ?_⟩
    · have h1 : (j : Int) < ((condsP s).length : Int) := by omega
      have h1d : (j : Int) < (done.length : Int) := by omega
      have hg : (s.get 4).elems.getD j .nil = c := getD_of hx
      have hs : (s.get 4).elems.length = (condsP s).length := rfl
      have h3 : (x.length + 1) * 8 ≤ 140737488355328 ∧ x.length + 1 ≤ 9223372036854775807 := by omega
      unfold pact_Split_l1 splF
      simp only [go_sem, c_int, c_bool, c_slice, hs, h1, h1d, hg, wrap_succ (show j < 4611686018427387904 by omega), Int.natCast_nonneg, and_self, if_true, Nat.beq_refl, cond_true, h3, List.length_append, List.length_cons, List.length_nil]
      cases h : (!(decide ((c.get 1).toInt = (side : Int)) == (done.getD j .nil).toBool)) <;> simp only [cond_true, cond_false, if_true, Bool.false_eq_true, if_false]
    · unfold splF at hx'
      simp only [Sum.inl.injEq] at hx'
      subst hx'
      split
      · simp; omega
      · omega
  · intro x hP rec
    unfold pact_Split_l1
    simp only [go_sem, c_int, c_slice, Int.lt_irrefl, if_false, Nat.beq_refl, cond_true]
  · obtain ⟨x, hx⟩ := runE_inl (f := splF done side) _ (fun _ _ _ => rfl) (condsP s) 0 acc
    unfold splR
    rw [hx]
    rfl
def shareF (done : List C) (s put paid : C) (_ : Nat) (out : C) (side : Nat) : C ⊕ Int :=
  if (subR ((s.get 3).get side).toInt (paid.get side).toInt).2 ≠ 0 then .inr (subR ((s.get 3).get side).toInt (paid.get side).toInt).2 else
    if (sumP (splR done side [.int (freeP s put side).1, .int (subR ((s.get 3).get side).toInt (paid.get side).toInt).1] (condsP s))).2 ≠ 0 then .inr (sumP (splR done side [.int (freeP s put side).1, .int (subR ((s.get 3).get side).toInt (paid.get side).toInt).1] (condsP s))).2
    else .inl (out.set side (.int (sumP (splR done side [.int (freeP s put side).1, .int (subR ((s.get 3).get side).toInt (paid.get side).toInt).1] (condsP s))).1))
def zz : C := .agg [.int 0, .int 0]
def shareE : C ⊕ Int → Int × C
  | .inl out => (0, out)
  | .inr e => (e, zz)
def splitP (s put paid : C) (done : List C) : Int × C :=
  if soundP s put ≠ 0 then (soundP s put, zz) else if done.length ≠ (condsP s).length then (1, zz) else shareE (runE (shareF done s put paid) 0 zz [0, 1])
theorem splR_len {done : List C} {side : Int} : ∀ (l : List C) (i : Nat) (acc : List C), (listE (runE (splF done side) i acc l)).length ≤ acc.length + l.length
  | [], _, acc => by simp [runE, listE]
  | c :: l, i, acc => by
    simp only [runE, splF]
    refine Nat.le_trans (splR_len l _ _) ?_
    split <;> simp <;> omega
theorem split_eq (s put paid : C) (done : C) (hd : done = .slice done.elems) (hN : 2199023255552 < N) (k : KD R) : pact_Split_p N s put paid done k = k [.int (splitP s put paid done.elems).1, (splitP s put paid done.elems).2] [] := by
  rw [pact_Split_pe]
  have hz : zeroC (Ty.arr 2 (Ty.int IntKind.u64)) = zz := rfl
  unfold pact_Split_p0 splitP
  rw [hz, sound_eq s put hN]
  by_cases h1 : soundP s put = 0
  case neg => simp [h1, go_sem, c_int]
  by_cases h2 : done.elems.length = (condsP s).length
  case neg =>
    have h2' : ¬ ((done.elems.length : Int) = ((s.get 4).elems.length : Int)) := fun h => h2 (by show _ = (s.get 4).elems.length; omega)
    simp only [h1, h2, h2', go_sem, c_int, decide_true, decide_false, Bool.not_true, Bool.not_false, cond_true, cond_false, ne_eq, not_true, not_false_iff, if_true, if_false]
  have hs : (s.get 4).elems.length = (condsP s).length := rfl
  simp only [h1, h2, hs, go_sem, c_int, decide_true, Bool.not_true, cond_false, ne_eq, not_true, if_false]
  obtain ⟨hl, _⟩ := sound_len h1
  refine (loopK_run0 (F := pact_Split_l2 N k _) (fun i (out : C) => [done, s, put, paid, .int i, zz, out]) (fun _ _ => []) ([0, 1] : List Nat) (shareF done.elems s put paid) (fun out => k [.int 0, out] []) (fun e => k [.int e, zz] []) ?_ ?_ (show 2 < N by omega)).trans ?_
  · intro i out c hx hi rec
    have hi2 : i < 2 := hi
    have h1 : (i : Int) < 2 := by omega
    have hc : c = i := by
      have : i = 0 ∨ i = 1 := by omega
      rcases this with rfl | rfl <;> simp at hx <;> exact hx.symm
    subst hc
    unfold pact_Split_l2 shareF
    simp only [go_sem, c_int, h1, free_eq s put _ (by omega) hN, wrap_succ (show c < 4611686018427387904 by omega), Int.natCast_nonneg, and_self, if_true, sub_eq]
    by_cases h3 : (subR ((s.get 3).get c).toInt (paid.get c).toInt).2 = 0
    case neg => simp [h3, hz]
    have := fun (b out : C) (k4 : KD R) => spl_loop (N := N) (s := s) h2 hl hN done hd put paid zz b out c [.int (freeP s put c).1, .int (subR ((s.get 3).get c).toInt (paid.get c).toInt).1] (by simp) k4
    simp only [h3, decide_true, Bool.not_true, cond_false, ne_eq, not_true, if_false]
    rw [hs, this]
    have hlen := splR_len (done := done.elems) (side := (c : Int)) (condsP s) 0 [.int (freeP s put c).1, .int (subR ((s.get 3).get c).toInt (paid.get c).toInt).1]
    rw [sum_eq _ (by simp only [go_sem, c_slice]; unfold splR; simp at hlen; omega) hN]
    simp only [go_sem, c_int, c_slice, h1, Int.natCast_nonneg, and_self, if_true, wrap_succ (show c < 4611686018427387904 by omega)]
    by_cases h4 : (sumP (splR done.elems c [.int (freeP s put c).1, .int (subR ((s.get 3).get c).toInt (paid.get c).toInt).1] (condsP s))).2 = 0 <;> simp [h4, hz]
  · intro out rec
    unfold pact_Split_l2
    simp [go_sem, c_int]
  · unfold endE shareE
    cases runE (shareF done.elems s put paid) 0 zz [0, 1] <;> rfl
end Go.Proofs.YtjakbdogmomfeaaDoor


namespace Go.Proofs.YtjakbdogmomfeaaDoor
open Go Go.E
set_option maxRecDepth 100000
set_option maxHeartbeats 4000000
set_option linter.unusedVariables false
def code_stack_fail_as : List Sh := [.as (.ptr (.g (.l 1)) [] tStack), .d (.int .i64)]
def code_stack_fail_os : List (Key × OSh) := [(.l 1, .box (.agg tStack [.vec (.g (.l 2)) 8 (.int .u64), .d (.int .i64)])), (.l 2, .box (.arr (.int .u64)))]
noncomputable def code_stack_fail_hs : Hints := [([1], ⟨[0], [], [.g (.l 1), .g (.l 2)], [], [], [(.int .u64)]⟩),
    ([9], ⟨[], [], [.g (.l 1), .g (.l 2)], [], [], [(.int .u64)]⟩)]
noncomputable def code_stack_fail_ov (N : Nat) : OvS (X0 gl0) where
  g R := []
  ok := fun R => fun _ h => nomatch h
noncomputable def code_stack_fail_p0 {R : Type} (N : Nat) (a0 b0 b1 b2 : C) (k1 : KD R) : Option R := (jn (fun d1 m1 => (if List.length (C.elems (dk d1 3)) = List.length (C.elems (dk d1 3)) then (k1 [C.int (↑(Int.toNat (C.toInt (dk d1 0))) : Int), dk d1 1, C.int (↑(Int.toNat (C.toInt (dk d1 2))) : Int), dk d1 3] []) else none)) (fun k2 => (bif decide (C.toInt b1 = 0) then (if List.length (C.elems b2) = List.length (C.elems b2) then (k2 [C.int (↑(Int.toNat (C.toInt b0)) : Int), a0, C.int (↑(List.length (C.elems b2)) : Int), b2] []) else none) else (if List.length (C.elems b2) = List.length (C.elems b2) then (k2 [C.int (↑(Int.toNat (C.toInt b0)) : Int), b1, C.int (↑(List.length (C.elems b2)) : Int), b2] []) else none))))
noncomputable def code_stack_fail_p {R : Type} (N : Nat) : C → C → C → C → KD R → Option R := lid "code_stack_fail_p N" (code_stack_fail_p0 N)
theorem code_stack_fail_pe {R : Type} (N : Nat) (a0 b0 b1 b2 : C) (k : KD R) : code_stack_fail_p N a0 b0 b1 b2 k = code_stack_fail_p0 N a0 b0 b1 b2 k := by unfold code_stack_fail_p; rw [lid_eq]
theorem code_stack_fail_run {R : Type} (N : Nat) (a0 b0 b1 b2 : C) (K : V → List (Key × O) → Option R) : exF (X0 gl0) ((code_stack_fail_ov N).ov R) extX noX (fun f => bif Nat.beq f 48 then code_stack_fail_hs else []) N 400 8 48 (Sh.fills code_stack_fail_as 0 [a0, b0, b1, b2]) (lookK (locFill code_stack_fail_os (Sh.manys code_stack_fail_as) 0 [a0, b0, b1, b2] [])) K =
    code_stack_fail_p N a0 b0 b1 b2 (fun d1 m1 => K (V.tup []) [(Key.g (Key.l 1),
    O.box
      (V.agg tStack
        [V.sr (Key.l 1000000000074) [] 0 (Int.toNat (C.toInt (dk d1 0))) none 8 (Ty.int IntKind.u64),
          V.d (Ty.int IntKind.i64) (dk d1 1)])),
  (Key.g (Key.l 2), O.dead (Ty.arr (Int.toNat (C.toInt (dk d1 2))) (Ty.int IntKind.u64))),
  (Key.l 1000000000074, O.box (V.d (Ty.arr (List.length (C.elems (dk d1 3))) (Ty.int IntKind.u64)) (dk d1 3)))]) := by
  rw [code_stack_fail_pe]
  exact (show _ = jn (fun d1 m1 => (K (V.tup []) [(Key.g (Key.l 1),
    O.box
      (V.agg tStack
        [V.sr (Key.l 1000000000074) [] 0 (Int.toNat (C.toInt (dk d1 0))) none 8 (Ty.int IntKind.u64),
          V.d (Ty.int IntKind.i64) (dk d1 1)])),
  (Key.g (Key.l 2), O.dead (Ty.arr (Int.toNat (C.toInt (dk d1 2))) (Ty.int IntKind.u64))),
  (Key.l 1000000000074, O.box (V.d (Ty.arr (List.length (C.elems (dk d1 3))) (Ty.int IntKind.u64)) (dk d1 3)))])) (code_stack_fail_p0 N a0 b0 b1 b2) by kernel_rfl).trans (jn_eq _ _)
noncomputable def code_stack_fail_g (N : Nat) {R : Type} : OvG R := ptrG code_stack_fail_as code_stack_fail_os fun ds ms K => code_stack_fail_p N (dk ds 0) (dk ds 1) (dk ds 2) (dk ds 3) (fun d1 m1 => K (V.tup []) [(Key.g (Key.l 1),
    O.box
      (V.agg tStack
        [V.sr (Key.l 1000000000074) [] 0 (Int.toNat (C.toInt (dk d1 0))) none 8 (Ty.int IntKind.u64),
          V.d (Ty.int IntKind.i64) (dk d1 1)])),
  (Key.g (Key.l 2), O.dead (Ty.arr (Int.toNat (C.toInt (dk d1 2))) (Ty.int IntKind.u64))),
  (Key.l 1000000000074, O.box (V.d (Ty.arr (List.length (C.elems (dk d1 3))) (Ty.int IntKind.u64)) (dk d1 3)))])
theorem code_stack_fail_ok (N : Nat) {R : Type} : GOk (X0 gl0) 48 (code_stack_fail_g N (R := R)) := by
  unfold code_stack_fail_g
  refine ptrG_ok fun ds ms K r hr => ?_
  rw [← code_stack_fail_run] at hr
  obtain ⟨v, L, h1, h2⟩ := exF_ok (ok0 gl0) (mo gl0) ((code_stack_fail_ov N).ov_ok _) (extX_ok gl0) _ _ _ _ _ _ hr
  exact ⟨v, L, h1, h2⟩
end Go.Proofs.YtjakbdogmomfeaaDoor


namespace Go.Proofs.YtjakbdogmomfeaaDoor
open Go Go.E
set_option maxRecDepth 100000
set_option maxHeartbeats 4000000
set_option linter.unusedVariables false
def code_stack_pop_as : List Sh := [.as (.ptr (.g (.l 1)) [] tStack)]
def code_stack_pop_os : List (Key × OSh) := [(.l 1, .box (.agg tStack [.vec (.g (.l 2)) 8 (.int .u64), .d (.int .i64)])), (.l 2, .box (.arr (.int .u64)))]
noncomputable def code_stack_pop_hs : Hints := [([9], ⟨[], [(2, .d (.int .u64))], [.g (.l 1), .g (.l 2)], [], [], [(.int .u64)]⟩)]
noncomputable def code_stack_pop_ov (N : Nat) : OvS (X0 gl0) where
  g R := [(48, code_stack_fail_g N)]
  ok := fun R => List.forall_mem_cons.2 ⟨code_stack_fail_ok N, fun _ h => nomatch h⟩
noncomputable def code_stack_pop_p0 {R : Type} (N : Nat) (b0 b1 b2 : C) (k1 : KD R) : Option R := (bif decide ((↑(Int.toNat (C.toInt b0)) : Int) = 0) then (if List.length (C.elems b2) = List.length (C.elems b2) then (code_stack_fail_p N (C.int 12) (C.int (↑(Int.toNat (C.toInt b0)) : Int)) b1 b2 (fun d1 m1 => (if List.length (C.elems (dk d1 3)) = List.length (C.elems (dk d1 3)) then (k1 [C.int 0, C.int (↑(Int.toNat (C.toInt (dk d1 0))) : Int), dk d1 1, C.int (↑(Int.toNat (C.toInt (dk d1 2))) : Int), dk d1 3] []) else none))) else none) else (if 0 ≤ IntKind.wrap IntKind.i64 ((↑(Int.toNat (C.toInt b0)) : Int) - 1) ∧ IntKind.wrap IntKind.i64 ((↑(Int.toNat (C.toInt b0)) : Int) - 1) < (↑(Int.toNat (C.toInt b0)) : Int) then (if Int.ofNat 0 ≤ 0 ∧ 0 ≤ IntKind.wrap IntKind.i64 ((↑(Int.toNat (C.toInt b0)) : Int) - 1) ∧ IntKind.wrap IntKind.i64 ((↑(Int.toNat (C.toInt b0)) : Int) - 1) ≤ (↑(Int.toNat (C.toInt b0)) : Int) then (if List.length (C.elems b2) = List.length (C.elems b2) then (k1 [C.get b2 (0 + Int.toNat (IntKind.wrap IntKind.i64 ((↑(Int.toNat (C.toInt b0)) : Int) - 1))), C.int (↑(Int.toNat (IntKind.wrap IntKind.i64 ((↑(Int.toNat (C.toInt b0)) : Int) - 1) - 0)) : Int), b1, C.int (↑(List.length (C.elems b2)) : Int), b2] []) else none) else none) else none))
noncomputable def code_stack_pop_p {R : Type} (N : Nat) : C → C → C → KD R → Option R := lid "code_stack_pop_p N" (code_stack_pop_p0 N)
theorem code_stack_pop_pe {R : Type} (N : Nat) (b0 b1 b2 : C) (k : KD R) : code_stack_pop_p N b0 b1 b2 k = code_stack_pop_p0 N b0 b1 b2 k := by unfold code_stack_pop_p; rw [lid_eq]
theorem code_stack_pop_run {R : Type} (N : Nat) (b0 b1 b2 : C) (K : V → List (Key × O) → Option R) : exF (X0 gl0) ((code_stack_pop_ov N).ov R) extX noX (fun f => bif Nat.beq f 37 then code_stack_pop_hs else []) N 400 8 37 (Sh.fills code_stack_pop_as 0 [b0, b1, b2]) (lookK (locFill code_stack_pop_os (Sh.manys code_stack_pop_as) 0 [b0, b1, b2] [])) K =
    code_stack_pop_p N b0 b1 b2 (fun d1 m1 => K (V.d (Ty.int IntKind.u64) (dk d1 0)) [(Key.g (Key.l 1),
    O.box
      (V.agg tStack
        [V.sr (Key.l 1000000000074) [] 0 (Int.toNat (C.toInt (dk d1 1))) none 8 (Ty.int IntKind.u64),
          V.d (Ty.int IntKind.i64) (dk d1 2)])),
  (Key.g (Key.l 2), O.dead (Ty.arr (Int.toNat (C.toInt (dk d1 3))) (Ty.int IntKind.u64))),
  (Key.l 1000000000074, O.box (V.d (Ty.arr (List.length (C.elems (dk d1 4))) (Ty.int IntKind.u64)) (dk d1 4)))]) := by
  rw [code_stack_pop_pe]
  exact (show _ = jn (fun d1 m1 => (K (V.d (Ty.int IntKind.u64) (dk d1 0)) [(Key.g (Key.l 1),
    O.box
      (V.agg tStack
        [V.sr (Key.l 1000000000074) [] 0 (Int.toNat (C.toInt (dk d1 1))) none 8 (Ty.int IntKind.u64),
          V.d (Ty.int IntKind.i64) (dk d1 2)])),
  (Key.g (Key.l 2), O.dead (Ty.arr (Int.toNat (C.toInt (dk d1 3))) (Ty.int IntKind.u64))),
  (Key.l 1000000000074, O.box (V.d (Ty.arr (List.length (C.elems (dk d1 4))) (Ty.int IntKind.u64)) (dk d1 4)))])) (code_stack_pop_p0 N b0 b1 b2) by kernel_rfl).trans (jn_eq _ _)
noncomputable def code_stack_pop_g (N : Nat) {R : Type} : OvG R := ptrG code_stack_pop_as code_stack_pop_os fun ds ms K => code_stack_pop_p N (dk ds 0) (dk ds 1) (dk ds 2) (fun d1 m1 => K (V.d (Ty.int IntKind.u64) (dk d1 0)) [(Key.g (Key.l 1),
    O.box
      (V.agg tStack
        [V.sr (Key.l 1000000000074) [] 0 (Int.toNat (C.toInt (dk d1 1))) none 8 (Ty.int IntKind.u64),
          V.d (Ty.int IntKind.i64) (dk d1 2)])),
  (Key.g (Key.l 2), O.dead (Ty.arr (Int.toNat (C.toInt (dk d1 3))) (Ty.int IntKind.u64))),
  (Key.l 1000000000074, O.box (V.d (Ty.arr (List.length (C.elems (dk d1 4))) (Ty.int IntKind.u64)) (dk d1 4)))])
theorem code_stack_pop_ok (N : Nat) {R : Type} : GOk (X0 gl0) 37 (code_stack_pop_g N (R := R)) := by
  unfold code_stack_pop_g
  refine ptrG_ok fun ds ms K r hr => ?_
  rw [← code_stack_pop_run] at hr
  obtain ⟨v, L, h1, h2⟩ := exF_ok (ok0 gl0) (mo gl0) ((code_stack_pop_ov N).ov_ok _) (extX_ok gl0) _ _ _ _ _ _ hr
  exact ⟨v, L, h1, h2⟩
end Go.Proofs.YtjakbdogmomfeaaDoor


namespace Go.Proofs.YtjakbdogmomfeaaDoor
open Go Go.E
set_option maxRecDepth 100000
set_option maxHeartbeats 4000000
set_option linter.unusedVariables false
def code_stack_push_as : List Sh := [.as (.ptr (.g (.l 1)) [] tStack), .d (.slice 8 (.int .u64))]
def code_stack_push_os : List (Key × OSh) := [(.l 1, .box (.agg tStack [.vec (.g (.l 2)) 8 (.int .u64), .d (.int .i64)])), (.l 2, .box (.arr (.int .u64)))]
noncomputable def code_stack_push_hs : Hints := [([1], ⟨[0], [], [.g (.l 1), .g (.l 2)], [], [], [(.int .u64)]⟩),
    ([4, 1], ⟨[0, 6, 7], [(8, .d (.int .i64))], [.g (.l 1), .g (.l 2)], [], [], [(.int .u64)]⟩),
    ([9], ⟨[], [], [.g (.l 1), .g (.l 2)], [], [], [(.int .u64)]⟩)]
noncomputable def code_stack_push_ov (N : Nat) : OvS (X0 gl0) where
  g R := [(48, code_stack_fail_g N)]
  ok := fun R => List.forall_mem_cons.2 ⟨code_stack_fail_ok N, fun _ h => nomatch h⟩
noncomputable def code_stack_push_l1 {R : Type} (N : Nat) (k1 : KD R) (k2 : KD R) : KD R → List C → List Es → Option R := (fun k3 d1 m1 => (bif decide (C.toInt (dk d1 2) < C.toInt (dk d1 1)) then (if 0 ≤ C.toInt (dk d1 2) ∧ C.toInt (dk d1 2) < (↑(List.length (C.elems (dk d1 0))) : Int) then (bif decide (32 ≤ (↑(Int.toNat (C.toInt (dk d1 3))) : Int)) then (if List.length (C.elems (dk d1 6)) = List.length (C.elems (dk d1 6)) then (code_stack_fail_p N (C.int 4) (C.int (↑(Int.toNat (C.toInt (dk d1 3))) : Int)) (dk d1 4) (dk d1 6) (fun d2 m2 => (if List.length (C.elems (dk d2 3)) = List.length (C.elems (dk d2 3)) then (k1 [C.int (↑(Int.toNat (C.toInt (dk d2 0))) : Int), dk d2 1, C.int (↑(Int.toNat (C.toInt (dk d1 5))) : Int), dk d2 3] []) else none))) else none) else (if false = false ∧ (Int.toNat (C.toInt (dk d1 3)) + 1) * 8 ≤ 140737488355328 ∧ Int.toNat (C.toInt (dk d1 3)) + 1 ≤ 9223372036854775807 then (if Int.toNat (C.toInt (dk d1 3)) + 1 = List.length (List.take (Int.toNat (C.toInt (dk d1 3))) (C.elems (dk d1 6)) ++ [List.getD (C.elems (dk d1 0)) (Int.toNat (C.toInt (dk d1 2))) C.nil]) then (k3 [dk d1 0, dk d1 1, C.int (IntKind.wrap IntKind.i64 (C.toInt (dk d1 2) + 1)), C.int (↑(Int.toNat (C.toInt (dk d1 3)) + 1) : Int), dk d1 4, C.int (↑(Int.toNat (C.toInt (dk d1 5))) : Int), C.agg (List.take (Int.toNat (C.toInt (dk d1 3))) (C.elems (dk d1 6)) ++ [List.getD (C.elems (dk d1 0)) (Int.toNat (C.toInt (dk d1 2))) C.nil])] []) else none) else none)) else none) else (if List.length (C.elems (dk d1 6)) = List.length (C.elems (dk d1 6)) then (k2 [C.int (↑(Int.toNat (C.toInt (dk d1 3))) : Int), dk d1 4, C.int (↑(Int.toNat (C.toInt (dk d1 5))) : Int), dk d1 6] []) else none)))
noncomputable def code_stack_push_p0 {R : Type} (N : Nat) (a0 b0 b1 b2 : C) (k1 : KD R) : Option R := (jn (fun d1 m1 => (if List.length (C.elems (dk d1 3)) = List.length (C.elems (dk d1 3)) then (k1 [C.int (↑(Int.toNat (C.toInt (dk d1 0))) : Int), dk d1 1, C.int (↑(Int.toNat (C.toInt (dk d1 2))) : Int), dk d1 3] []) else none)) (fun k2 => (if List.length (C.elems b2) = List.length (C.elems b2) then (loopK N (code_stack_push_l1 N k1 k2) [a0, C.int (↑(List.length (C.elems a0)) : Int), C.int 0, C.int (↑(Int.toNat (C.toInt b0)) : Int), b1, C.int (↑(List.length (C.elems b2)) : Int), b2] []) else none)))
noncomputable def code_stack_push_p {R : Type} (N : Nat) : C → C → C → C → KD R → Option R := lid "code_stack_push_p N" (code_stack_push_p0 N)
theorem code_stack_push_pe {R : Type} (N : Nat) (a0 b0 b1 b2 : C) (k : KD R) : code_stack_push_p N a0 b0 b1 b2 k = code_stack_push_p0 N a0 b0 b1 b2 k := by unfold code_stack_push_p; rw [lid_eq]
theorem code_stack_push_run {R : Type} (N : Nat) (a0 b0 b1 b2 : C) (K : V → List (Key × O) → Option R) : exF (X0 gl0) ((code_stack_push_ov N).ov R) extX noX (fun f => bif Nat.beq f 49 then code_stack_push_hs else []) N 400 8 49 (Sh.fills code_stack_push_as 0 [a0, b0, b1, b2]) (lookK (locFill code_stack_push_os (Sh.manys code_stack_push_as) 0 [a0, b0, b1, b2] [])) K =
    code_stack_push_p N a0 b0 b1 b2 (fun d1 m1 => K (V.tup []) [(Key.g (Key.l 1),
    O.box
      (V.agg tStack
        [V.sr (Key.l 1000000000074) [] 0 (Int.toNat (C.toInt (dk d1 0))) none 8 (Ty.int IntKind.u64),
          V.d (Ty.int IntKind.i64) (dk d1 1)])),
  (Key.g (Key.l 2), O.dead (Ty.arr (Int.toNat (C.toInt (dk d1 2))) (Ty.int IntKind.u64))),
  (Key.l 1000000000074, O.box (V.d (Ty.arr (List.length (C.elems (dk d1 3))) (Ty.int IntKind.u64)) (dk d1 3)))]) := by
  rw [code_stack_push_pe]
  exact (show _ = jn (fun d1 m1 => (K (V.tup []) [(Key.g (Key.l 1),
    O.box
      (V.agg tStack
        [V.sr (Key.l 1000000000074) [] 0 (Int.toNat (C.toInt (dk d1 0))) none 8 (Ty.int IntKind.u64),
          V.d (Ty.int IntKind.i64) (dk d1 1)])),
  (Key.g (Key.l 2), O.dead (Ty.arr (Int.toNat (C.toInt (dk d1 2))) (Ty.int IntKind.u64))),
  (Key.l 1000000000074, O.box (V.d (Ty.arr (List.length (C.elems (dk d1 3))) (Ty.int IntKind.u64)) (dk d1 3)))])) (code_stack_push_p0 N a0 b0 b1 b2) by kernel_rfl).trans (jn_eq _ _)
noncomputable def code_stack_push_g (N : Nat) {R : Type} : OvG R := ptrG code_stack_push_as code_stack_push_os fun ds ms K => code_stack_push_p N (dk ds 0) (dk ds 1) (dk ds 2) (dk ds 3) (fun d1 m1 => K (V.tup []) [(Key.g (Key.l 1),
    O.box
      (V.agg tStack
        [V.sr (Key.l 1000000000074) [] 0 (Int.toNat (C.toInt (dk d1 0))) none 8 (Ty.int IntKind.u64),
          V.d (Ty.int IntKind.i64) (dk d1 1)])),
  (Key.g (Key.l 2), O.dead (Ty.arr (Int.toNat (C.toInt (dk d1 2))) (Ty.int IntKind.u64))),
  (Key.l 1000000000074, O.box (V.d (Ty.arr (List.length (C.elems (dk d1 3))) (Ty.int IntKind.u64)) (dk d1 3)))])
theorem code_stack_push_ok (N : Nat) {R : Type} : GOk (X0 gl0) 49 (code_stack_push_g N (R := R)) := by
  unfold code_stack_push_g
  refine ptrG_ok fun ds ms K r hr => ?_
  rw [← code_stack_push_run] at hr
  obtain ⟨v, L, h1, h2⟩ := exF_ok (ok0 gl0) (mo gl0) ((code_stack_push_ov N).ov_ok _) (extX_ok gl0) _ _ _ _ _ _ hr
  exact ⟨v, L, h1, h2⟩
end Go.Proofs.YtjakbdogmomfeaaDoor


namespace Go.Proofs.YtjakbdogmomfeaaDoor
open Go Go.E
set_option maxRecDepth 100000
set_option maxHeartbeats 4000000
set_option linter.unusedVariables false
noncomputable def math_bits_Mul64_hs : Hints := [([9], ⟨[], [(4, .d (.int .u64)), (5, .d (.int .u64))], [], [], [], []⟩)]
noncomputable def math_bits_Mul64_ov (N : Nat) : OvS (X0 gl0) where
  g R := []
  ok := fun R => fun _ h => nomatch h
noncomputable def math_bits_Mul64_p0 {R : Type} (N : Nat) (a0 a1 : C) (k1 : KD R) : Option R := (k1 [C.int (IntKind.wrap IntKind.u64 (IntKind.wrap IntKind.u64 (IntKind.wrap IntKind.u64 (Int.fdiv (C.toInt a0) (2 ^ min (Int.toNat 32) 64) * Int.fdiv (C.toInt a1) (2 ^ min (Int.toNat 32) 64)) + Int.fdiv (IntKind.wrap IntKind.u64 (IntKind.wrap IntKind.u64 (Int.fdiv (C.toInt a0) (2 ^ min (Int.toNat 32) 64) * bitsC BinOp.and IntKind.u64 (C.toInt a1) 4294967295) + Int.fdiv (IntKind.wrap IntKind.u64 (bitsC BinOp.and IntKind.u64 (C.toInt a0) 4294967295 * bitsC BinOp.and IntKind.u64 (C.toInt a1) 4294967295)) (2 ^ min (Int.toNat 32) 64))) (2 ^ min (Int.toNat 32) 64)) + Int.fdiv (IntKind.wrap IntKind.u64 (bitsC BinOp.and IntKind.u64 (IntKind.wrap IntKind.u64 (IntKind.wrap IntKind.u64 (Int.fdiv (C.toInt a0) (2 ^ min (Int.toNat 32) 64) * bitsC BinOp.and IntKind.u64 (C.toInt a1) 4294967295) + Int.fdiv (IntKind.wrap IntKind.u64 (bitsC BinOp.and IntKind.u64 (C.toInt a0) 4294967295 * bitsC BinOp.and IntKind.u64 (C.toInt a1) 4294967295)) (2 ^ min (Int.toNat 32) 64))) 4294967295 + IntKind.wrap IntKind.u64 (bitsC BinOp.and IntKind.u64 (C.toInt a0) 4294967295 * Int.fdiv (C.toInt a1) (2 ^ min (Int.toNat 32) 64)))) (2 ^ min (Int.toNat 32) 64))), C.int (IntKind.wrap IntKind.u64 (C.toInt a0 * C.toInt a1))] [])
noncomputable def math_bits_Mul64_p {R : Type} (N : Nat) : C → C → KD R → Option R := lid "math_bits_Mul64_p N" (math_bits_Mul64_p0 N)
theorem math_bits_Mul64_pe {R : Type} (N : Nat) (a0 a1 : C) (k : KD R) : math_bits_Mul64_p N a0 a1 k = math_bits_Mul64_p0 N a0 a1 k := by unfold math_bits_Mul64_p; rw [lid_eq]
theorem math_bits_Mul64_run {R : Type} (N : Nat) (a0 a1 : C) (K : V → List (Key × O) → Option R) : exF (X0 gl0) ((math_bits_Mul64_ov N).ov R) extX noX (fun f => bif Nat.beq f 59 then math_bits_Mul64_hs else []) N 400 8 59 [.d (.int .u64) a0, .d (.int .u64) a1] A0 K =
    math_bits_Mul64_p N a0 a1 (fun d1 m1 => K (V.tup [V.d (Ty.int IntKind.u64) (dk d1 0), V.d (Ty.int IntKind.u64) (dk d1 1)]) []) := by
  rw [math_bits_Mul64_pe]
  exact (show _ = jn (fun d1 m1 => (K (V.tup [V.d (Ty.int IntKind.u64) (dk d1 0), V.d (Ty.int IntKind.u64) (dk d1 1)]) [])) (math_bits_Mul64_p0 N a0 a1) by kernel_rfl).trans (jn_eq _ _)
noncomputable def math_bits_Mul64_g (N : Nat) {R : Type} : OvG R := fun xs _ K => match xs with
  | [.d t0 a0, .d t1 a1] => if t0 = (.int .u64) ∧ t1 = (.int .u64) then math_bits_Mul64_p N a0 a1 (fun d1 m1 => K (V.tup [V.d (Ty.int IntKind.u64) (dk d1 0), V.d (Ty.int IntKind.u64) (dk d1 1)]) []) else none
  | _ => none
theorem math_bits_Mul64_ok (N : Nat) {R : Type} : GOk (X0 gl0) 59 (math_bits_Mul64_g N (R := R)) := by
  intro xs A Kr r hr
  unfold math_bits_Mul64_g at hr
  split at hr
  · simp only [Option.ite_none_right_eq_some] at hr
    obtain ⟨hty, hr⟩ := hr
    obtain ⟨rfl, rfl⟩ := hty
    rw [← math_bits_Mul64_run] at hr
    obtain ⟨v, L, h1, h2⟩ := exF_ok (ok0 gl0) (mo gl0) ((math_bits_Mul64_ov N).ov_ok _) (extX_ok gl0) _ _ _ _ _ _ hr
    exact ⟨v, L, h1.mono (leA_none fun _ => rfl), h2⟩
  · cases hr
end Go.Proofs.YtjakbdogmomfeaaDoor


namespace Go.Proofs.YtjakbdogmomfeaaDoor
open Go Go.E
set_option maxRecDepth 100000
set_option maxHeartbeats 4000000
set_option linter.unusedVariables false
noncomputable def money_Mul_hs : Hints := [([9], ⟨[], [(4, .d (.int .u64)), (5, .d (.int .i64))], [], [], [], []⟩)]
noncomputable def money_Mul_ov (N : Nat) : OvS (X0 gl0) where
  g R := [(59, math_bits_Mul64_g N)]
  ok := fun R => List.forall_mem_cons.2 ⟨math_bits_Mul64_ok N, fun _ h => nomatch h⟩
noncomputable def money_Mul_p0 {R : Type} (N : Nat) (a0 a1 : C) (k1 : KD R) : Option R := (math_bits_Mul64_p N a0 a1 (fun d1 m1 => (bif !decide (C.toInt (dk d1 0) = 0) then (k1 [C.int 0, C.int 11] []) else (k1 [dk d1 1, C.int 0] []))))
noncomputable def money_Mul_p {R : Type} (N : Nat) : C → C → KD R → Option R := lid "money_Mul_p N" (money_Mul_p0 N)
theorem money_Mul_pe {R : Type} (N : Nat) (a0 a1 : C) (k : KD R) : money_Mul_p N a0 a1 k = money_Mul_p0 N a0 a1 k := by unfold money_Mul_p; rw [lid_eq]
theorem money_Mul_run {R : Type} (N : Nat) (a0 a1 : C) (K : V → List (Key × O) → Option R) : exF (X0 gl0) ((money_Mul_ov N).ov R) extX noX (fun f => bif Nat.beq f 51 then money_Mul_hs else []) N 400 8 51 [.d (.int .u64) a0, .d (.int .u64) a1] A0 K =
    money_Mul_p N a0 a1 (fun d1 m1 => K (V.tup [V.d (Ty.int IntKind.u64) (dk d1 0), V.d (Ty.int IntKind.i64) (dk d1 1)]) []) := by
  rw [money_Mul_pe]
  exact (show _ = jn (fun d1 m1 => (K (V.tup [V.d (Ty.int IntKind.u64) (dk d1 0), V.d (Ty.int IntKind.i64) (dk d1 1)]) [])) (money_Mul_p0 N a0 a1) by kernel_rfl).trans (jn_eq _ _)
noncomputable def money_Mul_g (N : Nat) {R : Type} : OvG R := fun xs _ K => match xs with
  | [.d t0 a0, .d t1 a1] => if t0 = (.int .u64) ∧ t1 = (.int .u64) then money_Mul_p N a0 a1 (fun d1 m1 => K (V.tup [V.d (Ty.int IntKind.u64) (dk d1 0), V.d (Ty.int IntKind.i64) (dk d1 1)]) []) else none
  | _ => none
theorem money_Mul_ok (N : Nat) {R : Type} : GOk (X0 gl0) 51 (money_Mul_g N (R := R)) := by
  intro xs A Kr r hr
  unfold money_Mul_g at hr
  split at hr
  · simp only [Option.ite_none_right_eq_some] at hr
    obtain ⟨hty, hr⟩ := hr
    obtain ⟨rfl, rfl⟩ := hty
    rw [← money_Mul_run] at hr
    obtain ⟨v, L, h1, h2⟩ := exF_ok (ok0 gl0) (mo gl0) ((money_Mul_ov N).ov_ok _) (extX_ok gl0) _ _ _ _ _ _ hr
    exact ⟨v, L, h1.mono (leA_none fun _ => rfl), h2⟩
  · cases hr
end Go.Proofs.YtjakbdogmomfeaaDoor


namespace Go.Proofs.YtjakbdogmomfeaaDoor
open Go Go.E
set_option maxRecDepth 100000
set_option maxHeartbeats 4000000
set_option linter.unusedVariables false
def code_stack_bool_as : List Sh := [.as (.ptr (.g (.l 1)) [] tStack), .d .bool]
def code_stack_bool_os : List (Key × OSh) := [(.l 1, .box (.agg tStack [.vec (.g (.l 2)) 8 (.int .u64), .d (.int .i64)])), (.l 2, .box (.arr (.int .u64)))]
noncomputable def code_stack_bool_hs : Hints := [([9], ⟨[], [], [.g (.l 1), .g (.l 2)], [], [], [(.int .u64)]⟩)]
noncomputable def code_stack_bool_ov (N : Nat) : OvS (X0 gl0) where
  g R := [(49, code_stack_push_g N)]
  ok := fun R => List.forall_mem_cons.2 ⟨code_stack_push_ok N, fun _ h => nomatch h⟩
noncomputable def code_stack_bool_p0 {R : Type} (N : Nat) (a0 b0 b1 b2 : C) (k1 : KD R) : Option R := (bif C.toBool a0 then (if List.length (C.elems b2) = List.length (C.elems b2) then (code_stack_push_p N (C.slice [C.int 1]) (C.int (↑(Int.toNat (C.toInt b0)) : Int)) b1 b2 (fun d1 m1 => (if List.length (C.elems (dk d1 3)) = List.length (C.elems (dk d1 3)) then (k1 [C.int (↑(Int.toNat (C.toInt (dk d1 0))) : Int), dk d1 1, C.int (↑(Int.toNat (C.toInt (dk d1 2))) : Int), dk d1 3] []) else none))) else none) else (if List.length (C.elems b2) = List.length (C.elems b2) then (code_stack_push_p N (C.slice [C.int 0]) (C.int (↑(Int.toNat (C.toInt b0)) : Int)) b1 b2 (fun d1 m1 => (if List.length (C.elems (dk d1 3)) = List.length (C.elems (dk d1 3)) then (k1 [C.int (↑(Int.toNat (C.toInt (dk d1 0))) : Int), dk d1 1, C.int (↑(Int.toNat (C.toInt (dk d1 2))) : Int), dk d1 3] []) else none))) else none))
noncomputable def code_stack_bool_p {R : Type} (N : Nat) : C → C → C → C → KD R → Option R := lid "code_stack_bool_p N" (code_stack_bool_p0 N)
theorem code_stack_bool_pe {R : Type} (N : Nat) (a0 b0 b1 b2 : C) (k : KD R) : code_stack_bool_p N a0 b0 b1 b2 k = code_stack_bool_p0 N a0 b0 b1 b2 k := by unfold code_stack_bool_p; rw [lid_eq]
theorem code_stack_bool_run {R : Type} (N : Nat) (a0 b0 b1 b2 : C) (K : V → List (Key × O) → Option R) : exF (X0 gl0) ((code_stack_bool_ov N).ov R) extX noX (fun f => bif Nat.beq f 52 then code_stack_bool_hs else []) N 400 8 52 (Sh.fills code_stack_bool_as 0 [a0, b0, b1, b2]) (lookK (locFill code_stack_bool_os (Sh.manys code_stack_bool_as) 0 [a0, b0, b1, b2] [])) K =
    code_stack_bool_p N a0 b0 b1 b2 (fun d1 m1 => K (V.tup []) [(Key.g (Key.l 1),
    O.box
      (V.agg tStack
        [V.sr (Key.l 1000000000074) [] 0 (Int.toNat (C.toInt (dk d1 0))) none 8 (Ty.int IntKind.u64),
          V.d (Ty.int IntKind.i64) (dk d1 1)])),
  (Key.g (Key.l 2), O.dead (Ty.arr (Int.toNat (C.toInt (dk d1 2))) (Ty.int IntKind.u64))),
  (Key.l 1000000000074, O.box (V.d (Ty.arr (List.length (C.elems (dk d1 3))) (Ty.int IntKind.u64)) (dk d1 3)))]) := by
  rw [code_stack_bool_pe]
  exact (show _ = jn (fun d1 m1 => (K (V.tup []) [(Key.g (Key.l 1),
    O.box
      (V.agg tStack
        [V.sr (Key.l 1000000000074) [] 0 (Int.toNat (C.toInt (dk d1 0))) none 8 (Ty.int IntKind.u64),
          V.d (Ty.int IntKind.i64) (dk d1 1)])),
  (Key.g (Key.l 2), O.dead (Ty.arr (Int.toNat (C.toInt (dk d1 2))) (Ty.int IntKind.u64))),
  (Key.l 1000000000074, O.box (V.d (Ty.arr (List.length (C.elems (dk d1 3))) (Ty.int IntKind.u64)) (dk d1 3)))])) (code_stack_bool_p0 N a0 b0 b1 b2) by kernel_rfl).trans (jn_eq _ _)
noncomputable def code_stack_bool_g (N : Nat) {R : Type} : OvG R := ptrG code_stack_bool_as code_stack_bool_os fun ds ms K => code_stack_bool_p N (dk ds 0) (dk ds 1) (dk ds 2) (dk ds 3) (fun d1 m1 => K (V.tup []) [(Key.g (Key.l 1),
    O.box
      (V.agg tStack
        [V.sr (Key.l 1000000000074) [] 0 (Int.toNat (C.toInt (dk d1 0))) none 8 (Ty.int IntKind.u64),
          V.d (Ty.int IntKind.i64) (dk d1 1)])),
  (Key.g (Key.l 2), O.dead (Ty.arr (Int.toNat (C.toInt (dk d1 2))) (Ty.int IntKind.u64))),
  (Key.l 1000000000074, O.box (V.d (Ty.arr (List.length (C.elems (dk d1 3))) (Ty.int IntKind.u64)) (dk d1 3)))])
theorem code_stack_bool_ok (N : Nat) {R : Type} : GOk (X0 gl0) 52 (code_stack_bool_g N (R := R)) := by
  unfold code_stack_bool_g
  refine ptrG_ok fun ds ms K r hr => ?_
  rw [← code_stack_bool_run] at hr
  obtain ⟨v, L, h1, h2⟩ := exF_ok (ok0 gl0) (mo gl0) ((code_stack_bool_ov N).ov_ok _) (extX_ok gl0) _ _ _ _ _ _ hr
  exact ⟨v, L, h1, h2⟩
end Go.Proofs.YtjakbdogmomfeaaDoor


namespace Go.Proofs.YtjakbdogmomfeaaDoor
open Go Go.E
set_option maxRecDepth 100000
set_option maxHeartbeats 4000000
set_option linter.unusedVariables false
def code_World_plain_as : List Sh := [.d tWorld, .as (.ptr (.g (.l 1)) [] tStack), .d (.int .i64), .d (.int .u64)]
def code_World_plain_os : List (Key × OSh) := [(.l 1, .box (.agg tStack [.vec (.g (.l 2)) 8 (.int .u64), .d (.int .i64)])), (.l 2, .box (.arr (.int .u64)))]
noncomputable def code_World_plain_hs : Hints := [([1, 2, 1, 3, 1, 3, 1, 3, 1, 3, 1, 3, 1, 3, 1, 3, 1, 3, 1, 4, 1, 1], ⟨[1], [], [.g (.l 1), .g (.l 2)], [], [], [(.int .u64)]⟩),
    ([1, 2, 1, 3, 1, 3, 1, 3, 1, 3, 1, 3, 1, 3, 1, 3, 1, 3, 1, 3, 1, 4, 1, 1], ⟨[1], [], [.g (.l 1), .g (.l 2)], [], [], [(.int .u64)]⟩),
    ([9], ⟨[], [], [.g (.l 1), .g (.l 2)], [], [], [(.int .u64)]⟩)]
noncomputable def code_World_plain_ov (N : Nat) : OvS (X0 gl0) where
  g R := [(16, money_Add_g N), (31, money_Sub_g N), (37, code_stack_pop_g N), (48, code_stack_fail_g N), (49, code_stack_push_g N), (51, money_Mul_g N), (52, code_stack_bool_g N)]
  ok := fun R => List.forall_mem_cons.2 ⟨money_Add_ok N, List.forall_mem_cons.2 ⟨money_Sub_ok N, List.forall_mem_cons.2 ⟨code_stack_pop_ok N, List.forall_mem_cons.2 ⟨code_stack_fail_ok N, List.forall_mem_cons.2 ⟨code_stack_push_ok N, List.forall_mem_cons.2 ⟨money_Mul_ok N, List.forall_mem_cons.2 ⟨code_stack_bool_ok N, fun _ h => nomatch h⟩⟩⟩⟩⟩⟩⟩
noncomputable def code_World_plain_p0 {R : Type} (N : Nat) (a0 a1 a2 b0 b1 b2 : C) (k1 : KD R) : Option R := (bif decide (C.toInt a1 = 1) then (if List.length (C.elems b2) = List.length (C.elems b2) then (code_stack_push_p N (C.slice [a2]) (C.int (↑(Int.toNat (C.toInt b0)) : Int)) b1 b2 (fun d1 m1 => (if List.length (C.elems (dk d1 3)) = List.length (C.elems (dk d1 3)) then (k1 [C.int (↑(Int.toNat (C.toInt (dk d1 0))) : Int), dk d1 1, C.int (↑(Int.toNat (C.toInt (dk d1 2))) : Int), dk d1 3] []) else none))) else none) else (bif decide (C.toInt a1 = 2) then (bif decide (IntKind.wrap IntKind.u64 (↑(List.length (C.elems (C.get a0 0))) : Int) ≤ C.toInt a2) then (if List.length (C.elems b2) = List.length (C.elems b2) then (code_stack_fail_p N (C.int 1) (C.int (↑(Int.toNat (C.toInt b0)) : Int)) b1 b2 (fun d1 m1 => (if List.length (C.elems (dk d1 3)) = List.length (C.elems (dk d1 3)) then (k1 [C.int (↑(Int.toNat (C.toInt (dk d1 0))) : Int), dk d1 1, C.int (↑(Int.toNat (C.toInt (dk d1 2))) : Int), dk d1 3] []) else none))) else none) else (if 0 ≤ C.toInt a2 ∧ C.toInt a2 < (↑(List.length (C.elems (C.get a0 0))) : Int) then (if List.length (C.elems b2) = List.length (C.elems b2) then (code_stack_push_p N (C.slice [List.getD (C.elems (C.get a0 0)) (Int.toNat (C.toInt a2)) C.nil]) (C.int (↑(Int.toNat (C.toInt b0)) : Int)) b1 b2 (fun d1 m1 => (if List.length (C.elems (dk d1 3)) = List.length (C.elems (dk d1 3)) then (k1 [C.int (↑(Int.toNat (C.toInt (dk d1 0))) : Int), dk d1 1, C.int (↑(Int.toNat (C.toInt (dk d1 2))) : Int), dk d1 3] []) else none))) else none) else none)) else (bif decide (C.toInt a1 = 3) then (jn (fun d1 m1 => (if List.length (C.elems (dk d1 3)) = List.length (C.elems (dk d1 3)) then (k1 [C.int (↑(Int.toNat (C.toInt (dk d1 0))) : Int), dk d1 1, C.int (↑(Int.toNat (C.toInt (dk d1 2))) : Int), dk d1 3] []) else none)) (fun k2 => (if List.length (C.elems b2) = List.length (C.elems b2) then (code_stack_pop_p N (C.int (↑(Int.toNat (C.toInt b0)) : Int)) b1 b2 (fun d1 m1 => (if List.length (C.elems (dk d1 4)) = List.length (C.elems (dk d1 4)) then (code_stack_pop_p N (C.int (↑(Int.toNat (C.toInt (dk d1 1))) : Int)) (dk d1 2) (dk d1 4) (fun d2 m2 => (bif !decide (C.toInt (dk d2 2) = 0) then (if List.length (C.elems (dk d2 4)) = List.length (C.elems (dk d2 4)) then (k2 [C.int (↑(Int.toNat (C.toInt (dk d2 1))) : Int), dk d2 2, C.int (↑(Int.toNat (C.toInt (dk d1 3))) : Int), dk d2 4] []) else none) else (money_Add_p N (dk d2 0) (dk d1 0) (fun d3 m3 => (bif !decide (C.toInt (dk d3 1) = 0) then (if List.length (C.elems (dk d2 4)) = List.length (C.elems (dk d2 4)) then (code_stack_fail_p N (dk d3 1) (C.int (↑(Int.toNat (C.toInt (dk d2 1))) : Int)) (dk d2 2) (dk d2 4) (fun d4 m4 => (if List.length (C.elems (dk d4 3)) = List.length (C.elems (dk d4 3)) then (k2 [C.int (↑(Int.toNat (C.toInt (dk d4 0))) : Int), dk d4 1, C.int (↑(Int.toNat (C.toInt (dk d1 3))) : Int), dk d4 3] []) else none))) else none) else (if List.length (C.elems (dk d2 4)) = List.length (C.elems (dk d2 4)) then (code_stack_push_p N (C.slice [dk d3 0]) (C.int (↑(Int.toNat (C.toInt (dk d2 1))) : Int)) (dk d2 2) (dk d2 4) (fun d4 m4 => (if List.length (C.elems (dk d4 3)) = List.length (C.elems (dk d4 3)) then (k2 [C.int (↑(Int.toNat (C.toInt (dk d4 0))) : Int), dk d4 1, C.int (↑(Int.toNat (C.toInt (dk d1 3))) : Int), dk d4 3] []) else none))) else none))))))) else none))) else none))) else (bif decide (C.toInt a1 = 4) then (jn (fun d1 m1 => (if List.length (C.elems (dk d1 3)) = List.length (C.elems (dk d1 3)) then (k1 [C.int (↑(Int.toNat (C.toInt (dk d1 0))) : Int), dk d1 1, C.int (↑(Int.toNat (C.toInt (dk d1 2))) : Int), dk d1 3] []) else none)) (fun k2 => (if List.length (C.elems b2) = List.length (C.elems b2) then (code_stack_pop_p N (C.int (↑(Int.toNat (C.toInt b0)) : Int)) b1 b2 (fun d1 m1 => (if List.length (C.elems (dk d1 4)) = List.length (C.elems (dk d1 4)) then (code_stack_pop_p N (C.int (↑(Int.toNat (C.toInt (dk d1 1))) : Int)) (dk d1 2) (dk d1 4) (fun d2 m2 => (bif !decide (C.toInt (dk d2 2) = 0) then (if List.length (C.elems (dk d2 4)) = List.length (C.elems (dk d2 4)) then (k2 [C.int (↑(Int.toNat (C.toInt (dk d2 1))) : Int), dk d2 2, C.int (↑(Int.toNat (C.toInt (dk d1 3))) : Int), dk d2 4] []) else none) else (money_Sub_p N (dk d2 0) (dk d1 0) (fun d3 m3 => (bif !decide (C.toInt (dk d3 1) = 0) then (if List.length (C.elems (dk d2 4)) = List.length (C.elems (dk d2 4)) then (code_stack_fail_p N (dk d3 1) (C.int (↑(Int.toNat (C.toInt (dk d2 1))) : Int)) (dk d2 2) (dk d2 4) (fun d4 m4 => (if List.length (C.elems (dk d4 3)) = List.length (C.elems (dk d4 3)) then (k2 [C.int (↑(Int.toNat (C.toInt (dk d4 0))) : Int), dk d4 1, C.int (↑(Int.toNat (C.toInt (dk d1 3))) : Int), dk d4 3] []) else none))) else none) else (if List.length (C.elems (dk d2 4)) = List.length (C.elems (dk d2 4)) then (code_stack_push_p N (C.slice [dk d3 0]) (C.int (↑(Int.toNat (C.toInt (dk d2 1))) : Int)) (dk d2 2) (dk d2 4) (fun d4 m4 => (if List.length (C.elems (dk d4 3)) = List.length (C.elems (dk d4 3)) then (k2 [C.int (↑(Int.toNat (C.toInt (dk d4 0))) : Int), dk d4 1, C.int (↑(Int.toNat (C.toInt (dk d1 3))) : Int), dk d4 3] []) else none))) else none))))))) else none))) else none))) else (bif decide (C.toInt a1 = 5) then (jn (fun d1 m1 => (if List.length (C.elems (dk d1 3)) = List.length (C.elems (dk d1 3)) then (k1 [C.int (↑(Int.toNat (C.toInt (dk d1 0))) : Int), dk d1 1, C.int (↑(Int.toNat (C.toInt (dk d1 2))) : Int), dk d1 3] []) else none)) (fun k2 => (if List.length (C.elems b2) = List.length (C.elems b2) then (code_stack_pop_p N (C.int (↑(Int.toNat (C.toInt b0)) : Int)) b1 b2 (fun d1 m1 => (if List.length (C.elems (dk d1 4)) = List.length (C.elems (dk d1 4)) then (code_stack_pop_p N (C.int (↑(Int.toNat (C.toInt (dk d1 1))) : Int)) (dk d1 2) (dk d1 4) (fun d2 m2 => (bif !decide (C.toInt (dk d2 2) = 0) then (if List.length (C.elems (dk d2 4)) = List.length (C.elems (dk d2 4)) then (k2 [C.int (↑(Int.toNat (C.toInt (dk d2 1))) : Int), dk d2 2, C.int (↑(Int.toNat (C.toInt (dk d1 3))) : Int), dk d2 4] []) else none) else (money_Mul_p N (dk d2 0) (dk d1 0) (fun d3 m3 => (bif !decide (C.toInt (dk d3 1) = 0) then (if List.length (C.elems (dk d2 4)) = List.length (C.elems (dk d2 4)) then (code_stack_fail_p N (dk d3 1) (C.int (↑(Int.toNat (C.toInt (dk d2 1))) : Int)) (dk d2 2) (dk d2 4) (fun d4 m4 => (if List.length (C.elems (dk d4 3)) = List.length (C.elems (dk d4 3)) then (k2 [C.int (↑(Int.toNat (C.toInt (dk d4 0))) : Int), dk d4 1, C.int (↑(Int.toNat (C.toInt (dk d1 3))) : Int), dk d4 3] []) else none))) else none) else (if List.length (C.elems (dk d2 4)) = List.length (C.elems (dk d2 4)) then (code_stack_push_p N (C.slice [dk d3 0]) (C.int (↑(Int.toNat (C.toInt (dk d2 1))) : Int)) (dk d2 2) (dk d2 4) (fun d4 m4 => (if List.length (C.elems (dk d4 3)) = List.length (C.elems (dk d4 3)) then (k2 [C.int (↑(Int.toNat (C.toInt (dk d4 0))) : Int), dk d4 1, C.int (↑(Int.toNat (C.toInt (dk d1 3))) : Int), dk d4 3] []) else none))) else none))))))) else none))) else none))) else (bif decide (C.toInt a1 = 6) then (if List.length (C.elems b2) = List.length (C.elems b2) then (code_stack_pop_p N (C.int (↑(Int.toNat (C.toInt b0)) : Int)) b1 b2 (fun d1 m1 => (if List.length (C.elems (dk d1 4)) = List.length (C.elems (dk d1 4)) then (code_stack_pop_p N (C.int (↑(Int.toNat (C.toInt (dk d1 1))) : Int)) (dk d1 2) (dk d1 4) (fun d2 m2 => (if List.length (C.elems (dk d2 4)) = List.length (C.elems (dk d2 4)) then (code_stack_bool_p N (C.bool (decide (C.toInt (dk d2 0) < C.toInt (dk d1 0)))) (C.int (↑(Int.toNat (C.toInt (dk d2 1))) : Int)) (dk d2 2) (dk d2 4) (fun d3 m3 => (if List.length (C.elems (dk d3 3)) = List.length (C.elems (dk d3 3)) then (k1 [C.int (↑(Int.toNat (C.toInt (dk d3 0))) : Int), dk d3 1, C.int (↑(Int.toNat (C.toInt (dk d1 3))) : Int), dk d3 3] []) else none))) else none))) else none))) else none) else (bif decide (C.toInt a1 = 7) then (if List.length (C.elems b2) = List.length (C.elems b2) then (code_stack_pop_p N (C.int (↑(Int.toNat (C.toInt b0)) : Int)) b1 b2 (fun d1 m1 => (if List.length (C.elems (dk d1 4)) = List.length (C.elems (dk d1 4)) then (code_stack_pop_p N (C.int (↑(Int.toNat (C.toInt (dk d1 1))) : Int)) (dk d1 2) (dk d1 4) (fun d2 m2 => (if List.length (C.elems (dk d2 4)) = List.length (C.elems (dk d2 4)) then (code_stack_bool_p N (C.bool (decide (C.toInt (dk d2 0) = C.toInt (dk d1 0)))) (C.int (↑(Int.toNat (C.toInt (dk d2 1))) : Int)) (dk d2 2) (dk d2 4) (fun d3 m3 => (if List.length (C.elems (dk d3 3)) = List.length (C.elems (dk d3 3)) then (k1 [C.int (↑(Int.toNat (C.toInt (dk d3 0))) : Int), dk d3 1, C.int (↑(Int.toNat (C.toInt (dk d1 3))) : Int), dk d3 3] []) else none))) else none))) else none))) else none) else (bif decide (C.toInt a1 = 8) then (if List.length (C.elems b2) = List.length (C.elems b2) then (code_stack_pop_p N (C.int (↑(Int.toNat (C.toInt b0)) : Int)) b1 b2 (fun d1 m1 => (if List.length (C.elems (dk d1 4)) = List.length (C.elems (dk d1 4)) then (code_stack_bool_p N (C.bool (decide (C.toInt (dk d1 0) = 0))) (C.int (↑(Int.toNat (C.toInt (dk d1 1))) : Int)) (dk d1 2) (dk d1 4) (fun d2 m2 => (if List.length (C.elems (dk d2 3)) = List.length (C.elems (dk d2 3)) then (k1 [C.int (↑(Int.toNat (C.toInt (dk d2 0))) : Int), dk d2 1, C.int (↑(Int.toNat (C.toInt (dk d1 3))) : Int), dk d2 3] []) else none))) else none))) else none) else (bif decide (C.toInt a1 = 9) then (if List.length (C.elems b2) = List.length (C.elems b2) then (code_stack_pop_p N (C.int (↑(Int.toNat (C.toInt b0)) : Int)) b1 b2 (fun d1 m1 => (if List.length (C.elems (dk d1 4)) = List.length (C.elems (dk d1 4)) then (code_stack_pop_p N (C.int (↑(Int.toNat (C.toInt (dk d1 1))) : Int)) (dk d1 2) (dk d1 4) (fun d2 m2 => (jn (fun d3 m3 => (if List.length (C.elems (dk d3 2)) = List.length (C.elems (dk d3 2)) then (k1 [C.int (↑(Int.toNat (C.toInt (dk d3 0))) : Int), dk d3 1, C.int (↑(Int.toNat (C.toInt (dk d3 3))) : Int), dk d3 2] []) else none)) (fun k2 => (bif !decide (C.toInt (dk d2 0) = 0) then (if List.length (C.elems (dk d2 4)) = List.length (C.elems (dk d2 4)) then (code_stack_bool_p N (C.bool !decide (C.toInt (dk d1 0) = 0)) (C.int (↑(Int.toNat (C.toInt (dk d2 1))) : Int)) (dk d2 2) (dk d2 4) (fun d3 m3 => (if List.length (C.elems (dk d3 3)) = List.length (C.elems (dk d3 3)) then (k2 [C.int (↑(Int.toNat (C.toInt (dk d3 0))) : Int), dk d3 1, dk d3 3, C.int (↑(Int.toNat (C.toInt (dk d1 3))) : Int), C.int (↑(Int.toNat (C.toInt (dk d1 3))) : Int)] []) else none))) else none) else (if List.length (C.elems (dk d2 4)) = List.length (C.elems (dk d2 4)) then (code_stack_bool_p N (C.bool false) (C.int (↑(Int.toNat (C.toInt (dk d2 1))) : Int)) (dk d2 2) (dk d2 4) (fun d3 m3 => (if List.length (C.elems (dk d3 3)) = List.length (C.elems (dk d3 3)) then (k2 [C.int (↑(Int.toNat (C.toInt (dk d3 0))) : Int), dk d3 1, dk d3 3, C.int (↑(Int.toNat (C.toInt (dk d1 3))) : Int), C.int (↑(Int.toNat (C.toInt (dk d1 3))) : Int)] []) else none))) else none)))))) else none))) else none) else (bif decide (C.toInt a1 = 10) then (if List.length (C.elems b2) = List.length (C.elems b2) then (code_stack_pop_p N (C.int (↑(Int.toNat (C.toInt b0)) : Int)) b1 b2 (fun d1 m1 => (if List.length (C.elems (dk d1 4)) = List.length (C.elems (dk d1 4)) then (code_stack_pop_p N (C.int (↑(Int.toNat (C.toInt (dk d1 1))) : Int)) (dk d1 2) (dk d1 4) (fun d2 m2 => (jn (fun d3 m3 => (if List.length (C.elems (dk d3 2)) = List.length (C.elems (dk d3 2)) then (k1 [C.int (↑(Int.toNat (C.toInt (dk d3 0))) : Int), dk d3 1, C.int (↑(Int.toNat (C.toInt (dk d3 3))) : Int), dk d3 2] []) else none)) (fun k2 => (bif !decide (C.toInt (dk d2 0) = 0) then (if List.length (C.elems (dk d2 4)) = List.length (C.elems (dk d2 4)) then (code_stack_bool_p N (C.bool true) (C.int (↑(Int.toNat (C.toInt (dk d2 1))) : Int)) (dk d2 2) (dk d2 4) (fun d3 m3 => (if List.length (C.elems (dk d3 3)) = List.length (C.elems (dk d3 3)) then (k2 [C.int (↑(Int.toNat (C.toInt (dk d3 0))) : Int), dk d3 1, dk d3 3, C.int (↑(Int.toNat (C.toInt (dk d1 3))) : Int), C.int (↑(Int.toNat (C.toInt (dk d1 3))) : Int)] []) else none))) else none) else (if List.length (C.elems (dk d2 4)) = List.length (C.elems (dk d2 4)) then (code_stack_bool_p N (C.bool !decide (C.toInt (dk d1 0) = 0)) (C.int (↑(Int.toNat (C.toInt (dk d2 1))) : Int)) (dk d2 2) (dk d2 4) (fun d3 m3 => (if List.length (C.elems (dk d3 3)) = List.length (C.elems (dk d3 3)) then (k2 [C.int (↑(Int.toNat (C.toInt (dk d3 0))) : Int), dk d3 1, dk d3 3, C.int (↑(Int.toNat (C.toInt (dk d1 3))) : Int), C.int (↑(Int.toNat (C.toInt (dk d1 3))) : Int)] []) else none))) else none)))))) else none))) else none) else (bif decide (C.toInt a1 = 13) then (if List.length (C.elems b2) = List.length (C.elems b2) then (code_stack_pop_p N (C.int (↑(Int.toNat (C.toInt b0)) : Int)) b1 b2 (fun d1 m1 => (if List.length (C.elems (dk d1 4)) = List.length (C.elems (dk d1 4)) then (code_stack_push_p N (C.slice [dk d1 0, dk d1 0]) (C.int (↑(Int.toNat (C.toInt (dk d1 1))) : Int)) (dk d1 2) (dk d1 4) (fun d2 m2 => (if List.length (C.elems (dk d2 3)) = List.length (C.elems (dk d2 3)) then (k1 [C.int (↑(Int.toNat (C.toInt (dk d2 0))) : Int), dk d2 1, C.int (↑(Int.toNat (C.toInt (dk d1 3))) : Int), dk d2 3] []) else none))) else none))) else none) else (bif decide (C.toInt a1 = 14) then (if List.length (C.elems b2) = List.length (C.elems b2) then (code_stack_pop_p N (C.int (↑(Int.toNat (C.toInt b0)) : Int)) b1 b2 (fun d1 m1 => (if List.length (C.elems (dk d1 4)) = List.length (C.elems (dk d1 4)) then (code_stack_pop_p N (C.int (↑(Int.toNat (C.toInt (dk d1 1))) : Int)) (dk d1 2) (dk d1 4) (fun d2 m2 => (if List.length (C.elems (dk d2 4)) = List.length (C.elems (dk d2 4)) then (code_stack_push_p N (C.slice [dk d1 0, dk d2 0]) (C.int (↑(Int.toNat (C.toInt (dk d2 1))) : Int)) (dk d2 2) (dk d2 4) (fun d3 m3 => (if List.length (C.elems (dk d3 3)) = List.length (C.elems (dk d3 3)) then (k1 [C.int (↑(Int.toNat (C.toInt (dk d3 0))) : Int), dk d3 1, C.int (↑(Int.toNat (C.toInt (dk d1 3))) : Int), dk d3 3] []) else none))) else none))) else none))) else none) else (bif decide (C.toInt a1 = 15) then (if List.length (C.elems b2) = List.length (C.elems b2) then (code_stack_pop_p N (C.int (↑(Int.toNat (C.toInt b0)) : Int)) b1 b2 (fun d1 m1 => (if List.length (C.elems (dk d1 4)) = List.length (C.elems (dk d1 4)) then (k1 [C.int (↑(Int.toNat (C.toInt (dk d1 1))) : Int), dk d1 2, C.int (↑(Int.toNat (C.toInt (dk d1 3))) : Int), dk d1 4] []) else none))) else none) else (bif decide (C.toInt a1 = 16) then (bif decide (IntKind.wrap IntKind.u64 (↑(List.length (C.elems (C.get a0 1))) : Int) ≤ C.toInt a2) then (if List.length (C.elems b2) = List.length (C.elems b2) then (code_stack_fail_p N (C.int 1) (C.int (↑(Int.toNat (C.toInt b0)) : Int)) b1 b2 (fun d1 m1 => (if List.length (C.elems (dk d1 3)) = List.length (C.elems (dk d1 3)) then (k1 [C.int (↑(Int.toNat (C.toInt (dk d1 0))) : Int), dk d1 1, C.int (↑(Int.toNat (C.toInt (dk d1 2))) : Int), dk d1 3] []) else none))) else none) else (if 0 ≤ C.toInt a2 ∧ C.toInt a2 < (↑(List.length (C.elems (C.get a0 1))) : Int) then (if List.length (C.elems b2) = List.length (C.elems b2) then (code_stack_bool_p N (List.getD (C.elems (C.get a0 1)) (Int.toNat (C.toInt a2)) C.nil) (C.int (↑(Int.toNat (C.toInt b0)) : Int)) b1 b2 (fun d1 m1 => (if List.length (C.elems (dk d1 3)) = List.length (C.elems (dk d1 3)) then (k1 [C.int (↑(Int.toNat (C.toInt (dk d1 0))) : Int), dk d1 1, C.int (↑(Int.toNat (C.toInt (dk d1 2))) : Int), dk d1 3] []) else none))) else none) else none)) else (bif decide (C.toInt a1 = 17) then (if List.length (C.elems b2) = List.length (C.elems b2) then (code_stack_push_p N (C.slice [C.get a0 2]) (C.int (↑(Int.toNat (C.toInt b0)) : Int)) b1 b2 (fun d1 m1 => (if List.length (C.elems (dk d1 3)) = List.length (C.elems (dk d1 3)) then (k1 [C.int (↑(Int.toNat (C.toInt (dk d1 0))) : Int), dk d1 1, C.int (↑(Int.toNat (C.toInt (dk d1 2))) : Int), dk d1 3] []) else none))) else none) else (if List.length (C.elems b2) = List.length (C.elems b2) then (k1 [C.int (↑(Int.toNat (C.toInt b0)) : Int), b1, C.int (↑(List.length (C.elems b2)) : Int), b2] []) else none))))))))))))))))
noncomputable def code_World_plain_p {R : Type} (N : Nat) : C → C → C → C → C → C → KD R → Option R := lid "code_World_plain_p N" (code_World_plain_p0 N)
theorem code_World_plain_pe {R : Type} (N : Nat) (a0 a1 a2 b0 b1 b2 : C) (k : KD R) : code_World_plain_p N a0 a1 a2 b0 b1 b2 k = code_World_plain_p0 N a0 a1 a2 b0 b1 b2 k := by unfold code_World_plain_p; rw [lid_eq]
theorem code_World_plain_run {R : Type} (N : Nat) (a0 a1 a2 b0 b1 b2 : C) (K : V → List (Key × O) → Option R) : exF (X0 gl0) ((code_World_plain_ov N).ov R) extX (fun f r => bif Nat.beq f 38 then (bif Nat.beq r 0 then [(4, 5)] else []) else []) (fun f => bif Nat.beq f 38 then code_World_plain_hs else bif Nat.beq f 50 then [([9], ⟨[0], [], [], [], [], [(.int .u64)]⟩)] else []) N 400 8 38 (Sh.fills code_World_plain_as 0 [a0, a1, a2, b0, b1, b2]) (lookK (locFill code_World_plain_os (Sh.manys code_World_plain_as) 0 [a0, a1, a2, b0, b1, b2] [])) K =
    code_World_plain_p N a0 a1 a2 b0 b1 b2 (fun d1 m1 => K (V.tup []) [(Key.g (Key.l 1),
    O.box
      (V.agg tStack
        [V.sr (Key.l 1000000000074) [] 0 (Int.toNat (C.toInt (dk d1 0))) none 8 (Ty.int IntKind.u64),
          V.d (Ty.int IntKind.i64) (dk d1 1)])),
  (Key.g (Key.l 2), O.dead (Ty.arr (Int.toNat (C.toInt (dk d1 2))) (Ty.int IntKind.u64))),
  (Key.l 1000000000074, O.box (V.d (Ty.arr (List.length (C.elems (dk d1 3))) (Ty.int IntKind.u64)) (dk d1 3)))]) := by
  rw [code_World_plain_pe]
  exact (show _ = jn (fun d1 m1 => (K (V.tup []) [(Key.g (Key.l 1),
    O.box
      (V.agg tStack
        [V.sr (Key.l 1000000000074) [] 0 (Int.toNat (C.toInt (dk d1 0))) none 8 (Ty.int IntKind.u64),
          V.d (Ty.int IntKind.i64) (dk d1 1)])),
  (Key.g (Key.l 2), O.dead (Ty.arr (Int.toNat (C.toInt (dk d1 2))) (Ty.int IntKind.u64))),
  (Key.l 1000000000074, O.box (V.d (Ty.arr (List.length (C.elems (dk d1 3))) (Ty.int IntKind.u64)) (dk d1 3)))])) (code_World_plain_p0 N a0 a1 a2 b0 b1 b2) by kernel_rfl).trans (jn_eq _ _)
noncomputable def code_World_plain_g (N : Nat) {R : Type} : OvG R := ptrG code_World_plain_as code_World_plain_os fun ds ms K => code_World_plain_p N (dk ds 0) (dk ds 1) (dk ds 2) (dk ds 3) (dk ds 4) (dk ds 5) (fun d1 m1 => K (V.tup []) [(Key.g (Key.l 1),
    O.box
      (V.agg tStack
        [V.sr (Key.l 1000000000074) [] 0 (Int.toNat (C.toInt (dk d1 0))) none 8 (Ty.int IntKind.u64),
          V.d (Ty.int IntKind.i64) (dk d1 1)])),
  (Key.g (Key.l 2), O.dead (Ty.arr (Int.toNat (C.toInt (dk d1 2))) (Ty.int IntKind.u64))),
  (Key.l 1000000000074, O.box (V.d (Ty.arr (List.length (C.elems (dk d1 3))) (Ty.int IntKind.u64)) (dk d1 3)))])
theorem code_World_plain_ok (N : Nat) {R : Type} : GOk (X0 gl0) 38 (code_World_plain_g N (R := R)) := by
  unfold code_World_plain_g
  refine ptrG_ok fun ds ms K r hr => ?_
  rw [← code_World_plain_run] at hr
  obtain ⟨v, L, h1, h2⟩ := exF_ok (ok0 gl0) (mo gl0) ((code_World_plain_ov N).ov_ok _) (extX_ok gl0) _ _ _ _ _ _ hr
  exact ⟨v, L, h1, h2⟩
end Go.Proofs.YtjakbdogmomfeaaDoor


namespace Go.Proofs.YtjakbdogmomfeaaDoor
open Go Go.E
set_option maxRecDepth 100000
set_option maxHeartbeats 4000000
set_option linter.unusedVariables false
noncomputable def code_Run_hs : Hints := [([1], ⟨[0, 2, 4, 9], [(10, .d (.int .i64)), (11, .d (.int .i64))], [], [], [], [(.int .u64)]⟩),
    ([0, 0, 6, 1], ⟨[0, 2, 4], [(27, .d .bool)], [], [], [], [(.int .u64)]⟩),
    ([1, 3, 1, 4, 1, 0, 1, 1, 1, 1, 1, 7, 1], ⟨[0, 2, 4, 9, 11], [(10, .d (.int .i64))], [], [], [], [(.int .u64)]⟩),
    ([9], ⟨[], [(6, .d (.int .u64)), (7, .d (.int .i64)), (8, .d (.int .i64))], [], [], [], [(.int .u64)]⟩)]
noncomputable def code_Run_ov (N : Nat) : OvS (X0 gl0) where
  g R := [(23, code_fetch_g N), (37, code_stack_pop_g N), (38, code_World_plain_g N)]
  ok := fun R => List.forall_mem_cons.2 ⟨code_fetch_ok N, List.forall_mem_cons.2 ⟨code_stack_pop_ok N, List.forall_mem_cons.2 ⟨code_World_plain_ok N, fun _ h => nomatch h⟩⟩⟩
noncomputable def code_Run_l1 {R : Type} (N : Nat) (k1 : KD R) : KD R → List C → List Es → Option R := (fun k2 d2 m2 => (if List.length (C.elems (dk d2 0)) ≤ 256 ∧ 0 ≤ C.toInt (dk d2 3) ∧ C.toInt (dk d2 3) ≤ 100000 then (bif !decide (errN (C.elems (dk d2 0)) (Int.toNat (C.toInt (dk d2 3))) = 0) then (k1 [C.int 0, dk d2 4, C.int (errN (C.elems (dk d2 0)) (Int.toNat (C.toInt (dk d2 3))))] []) else (if (0 ≤ if errN (C.elems (dk d2 0)) (Int.toNat (C.toInt (dk d2 3))) = 0 then bN (C.elems (dk d2 0)) (Int.toNat (C.toInt (dk d2 3))) else 0) ∧ (if errN (C.elems (dk d2 0)) (Int.toNat (C.toInt (dk d2 3))) = 0 then bN (C.elems (dk d2 0)) (Int.toNat (C.toInt (dk d2 3))) else 0) < 18 then (bif decide (IntKind.wrap IntKind.i64 (C.toInt (dk d2 1) - C.toInt (dk d2 4)) < C.toInt (C.get (C.get (C.agg formsC) (Int.toNat (if errN (C.elems (dk d2 0)) (Int.toNat (C.toInt (dk d2 3))) = 0 then bN (C.elems (dk d2 0)) (Int.toNat (C.toInt (dk d2 3))) else 0))) 2)) then (k1 [C.int 0, dk d2 4, C.int 24] []) else (if (0 ≤ if errN (C.elems (dk d2 0)) (Int.toNat (C.toInt (dk d2 3))) = 0 then bN (C.elems (dk d2 0)) (Int.toNat (C.toInt (dk d2 3))) else 0) ∧ (if errN (C.elems (dk d2 0)) (Int.toNat (C.toInt (dk d2 3))) = 0 then bN (C.elems (dk d2 0)) (Int.toNat (C.toInt (dk d2 3))) else 0) < 18 then (bif decide ((if errN (C.elems (dk d2 0)) (Int.toNat (C.toInt (dk d2 3))) = 0 then bN (C.elems (dk d2 0)) (Int.toNat (C.toInt (dk d2 3))) else 0) = 0) then (if List.length (C.elems (dk d2 7)) = List.length (C.elems (dk d2 7)) then (code_stack_pop_p N (C.int (↑(Int.toNat (C.toInt (dk d2 5))) : Int)) (dk d2 6) (dk d2 7) (fun d3 m3 => (k1 [dk d3 0, C.int (IntKind.wrap IntKind.i64 (C.toInt (dk d2 4) + C.toInt (C.get (C.get (C.agg formsC) (Int.toNat (if errN (C.elems (dk d2 0)) (Int.toNat (C.toInt (dk d2 3))) = 0 then bN (C.elems (dk d2 0)) (Int.toNat (C.toInt (dk d2 3))) else 0))) 2))), dk d3 2] []))) else none) else (jn (fun d3 m3 => (bif !decide (C.toInt (dk d3 6) = 0) then (k1 [C.int 0, dk d3 3, dk d3 6] []) else (if List.length (C.elems (dk d3 7)) = List.length (C.elems (dk d3 7)) then (k2 [dk d3 0, dk d3 1, dk d3 2, dk d3 4, dk d3 3, C.int (↑(Int.toNat (C.toInt (dk d3 5))) : Int), dk d3 6, dk d3 7] []) else none))) (fun k3 => (bif decide ((if errN (C.elems (dk d2 0)) (Int.toNat (C.toInt (dk d2 3))) = 0 then bN (C.elems (dk d2 0)) (Int.toNat (C.toInt (dk d2 3))) else 0) = 11) then (if List.length (C.elems (dk d2 7)) = List.length (C.elems (dk d2 7)) then (k3 [dk d2 0, dk d2 1, dk d2 2, C.int (IntKind.wrap IntKind.i64 (C.toInt (dk d2 4) + C.toInt (C.get (C.get (C.agg formsC) (Int.toNat (if errN (C.elems (dk d2 0)) (Int.toNat (C.toInt (dk d2 3))) = 0 then bN (C.elems (dk d2 0)) (Int.toNat (C.toInt (dk d2 3))) else 0))) 2))), C.int (IntKind.wrap IntKind.i64 (if errN (C.elems (dk d2 0)) (Int.toNat (C.toInt (dk d2 3))) = 0 then argN (C.elems (dk d2 0)) (Int.toNat (C.toInt (dk d2 3)) + 1) (moreN (bN (C.elems (dk d2 0)) (Int.toNat (C.toInt (dk d2 3))))) else 0)), C.int (↑(Int.toNat (C.toInt (dk d2 5))) : Int), dk d2 6, dk d2 7] []) else none) else (bif decide ((if errN (C.elems (dk d2 0)) (Int.toNat (C.toInt (dk d2 3))) = 0 then bN (C.elems (dk d2 0)) (Int.toNat (C.toInt (dk d2 3))) else 0) = 12) then (if List.length (C.elems (dk d2 7)) = List.length (C.elems (dk d2 7)) then (code_stack_pop_p N (C.int (↑(Int.toNat (C.toInt (dk d2 5))) : Int)) (dk d2 6) (dk d2 7) (fun d3 m3 => (bif !decide (C.toInt (dk d3 0) = 0) then (if List.length (C.elems (dk d3 4)) = List.length (C.elems (dk d3 4)) then (k3 [dk d2 0, dk d2 1, dk d2 2, C.int (IntKind.wrap IntKind.i64 (C.toInt (dk d2 4) + C.toInt (C.get (C.get (C.agg formsC) (Int.toNat (if errN (C.elems (dk d2 0)) (Int.toNat (C.toInt (dk d2 3))) = 0 then bN (C.elems (dk d2 0)) (Int.toNat (C.toInt (dk d2 3))) else 0))) 2))), C.int (IntKind.wrap IntKind.i64 (if errN (C.elems (dk d2 0)) (Int.toNat (C.toInt (dk d2 3))) = 0 then argN (C.elems (dk d2 0)) (Int.toNat (C.toInt (dk d2 3)) + 1) (moreN (bN (C.elems (dk d2 0)) (Int.toNat (C.toInt (dk d2 3))))) else 0)), C.int (↑(Int.toNat (C.toInt (dk d3 1))) : Int), dk d3 2, dk d3 4] []) else none) else (if List.length (C.elems (dk d3 4)) = List.length (C.elems (dk d3 4)) then (k3 [dk d2 0, dk d2 1, dk d2 2, C.int (IntKind.wrap IntKind.i64 (C.toInt (dk d2 4) + C.toInt (C.get (C.get (C.agg formsC) (Int.toNat (if errN (C.elems (dk d2 0)) (Int.toNat (C.toInt (dk d2 3))) = 0 then bN (C.elems (dk d2 0)) (Int.toNat (C.toInt (dk d2 3))) else 0))) 2))), C.int (if errN (C.elems (dk d2 0)) (Int.toNat (C.toInt (dk d2 3))) = 0 then (↑(Int.toNat (C.toInt (dk d2 3)) + 1 + moreN (bN (C.elems (dk d2 0)) (Int.toNat (C.toInt (dk d2 3))))) : Int) else 0), C.int (↑(Int.toNat (C.toInt (dk d3 1))) : Int), dk d3 2, dk d3 4] []) else none)))) else none) else (if List.length (C.elems (dk d2 7)) = List.length (C.elems (dk d2 7)) then (code_World_plain_p N (dk d2 2) (C.int (if errN (C.elems (dk d2 0)) (Int.toNat (C.toInt (dk d2 3))) = 0 then bN (C.elems (dk d2 0)) (Int.toNat (C.toInt (dk d2 3))) else 0)) (C.int (if errN (C.elems (dk d2 0)) (Int.toNat (C.toInt (dk d2 3))) = 0 then argN (C.elems (dk d2 0)) (Int.toNat (C.toInt (dk d2 3)) + 1) (moreN (bN (C.elems (dk d2 0)) (Int.toNat (C.toInt (dk d2 3))))) else 0)) (C.int (↑(Int.toNat (C.toInt (dk d2 5))) : Int)) (dk d2 6) (dk d2 7) (fun d3 m3 => (if List.length (C.elems (dk d3 3)) = List.length (C.elems (dk d3 3)) then (k3 [dk d2 0, dk d2 1, dk d2 2, C.int (IntKind.wrap IntKind.i64 (C.toInt (dk d2 4) + C.toInt (C.get (C.get (C.agg formsC) (Int.toNat (if errN (C.elems (dk d2 0)) (Int.toNat (C.toInt (dk d2 3))) = 0 then bN (C.elems (dk d2 0)) (Int.toNat (C.toInt (dk d2 3))) else 0))) 2))), C.int (if errN (C.elems (dk d2 0)) (Int.toNat (C.toInt (dk d2 3))) = 0 then (↑(Int.toNat (C.toInt (dk d2 3)) + 1 + moreN (bN (C.elems (dk d2 0)) (Int.toNat (C.toInt (dk d2 3))))) : Int) else 0), C.int (↑(Int.toNat (C.toInt (dk d3 0))) : Int), dk d3 1, dk d3 3] []) else none))) else none)))))) else none)) else none)) else none))
noncomputable def code_Run_p0 {R : Type} (N : Nat) (a0 a1 a2 : C) (k1 : KD R) : Option R := (jn (fun d1 m1 => (bif C.toBool (dk d1 3) then (k1 [C.int 0, C.int 0, C.int 1] []) else (loopK N (code_Run_l1 N k1) [dk d1 0, dk d1 1, dk d1 2, C.int 0, C.int 0, C.int 0, zeroC (Ty.int IntKind.i64), C.agg []] []))) (fun k2 => (bif decide (256 < (↑(List.length (C.elems a0)) : Int)) then (k2 [a0, a2, a1, C.bool true] []) else (bif decide (C.toInt a2 < 0) then (k2 [a0, a2, a1, C.bool true] []) else (k2 [a0, a2, a1, C.bool (decide (4096 < C.toInt a2))] [])))))
noncomputable def code_Run_p {R : Type} (N : Nat) : C → C → C → KD R → Option R := lid "code_Run_p N" (code_Run_p0 N)
theorem code_Run_pe {R : Type} (N : Nat) (a0 a1 a2 : C) (k : KD R) : code_Run_p N a0 a1 a2 k = code_Run_p0 N a0 a1 a2 k := by unfold code_Run_p; rw [lid_eq]
theorem code_Run_run {R : Type} (N : Nat) (a0 a1 a2 : C) (K : V → List (Key × O) → Option R) : exF (X0 gl0) ((code_Run_ov N).ov R) extX (fun f r => bif Nat.beq f 28 then (bif Nat.beq r 0 then [(4, 5)] else []) else []) (fun f => bif Nat.beq f 28 then code_Run_hs else []) N 400 8 28 [.d (.slice 1 (.int .u8)) a0, .d tWorld a1, .d (.int .i64) a2] A0 K =
    code_Run_p N a0 a1 a2 (fun d1 m1 => K (V.tup [V.d (Ty.int IntKind.u64) (dk d1 0), V.d (Ty.int IntKind.i64) (dk d1 1), V.d (Ty.int IntKind.i64) (dk d1 2)]) []) := by
  rw [code_Run_pe]
  exact (show _ = jn (fun d1 m1 => (K (V.tup [V.d (Ty.int IntKind.u64) (dk d1 0), V.d (Ty.int IntKind.i64) (dk d1 1), V.d (Ty.int IntKind.i64) (dk d1 2)]) [])) (code_Run_p0 N a0 a1 a2) by kernel_rfl).trans (jn_eq _ _)
noncomputable def code_Run_g (N : Nat) {R : Type} : OvG R := fun xs _ K => match xs with
  | [.d t0 a0, .d t1 a1, .d t2 a2] => if t0 = (.slice 1 (.int .u8)) ∧ t1 = tWorld ∧ t2 = (.int .i64) then code_Run_p N a0 a1 a2 (fun d1 m1 => K (V.tup [V.d (Ty.int IntKind.u64) (dk d1 0), V.d (Ty.int IntKind.i64) (dk d1 1), V.d (Ty.int IntKind.i64) (dk d1 2)]) []) else none
  | _ => none
theorem code_Run_ok (N : Nat) {R : Type} : GOk (X0 gl0) 28 (code_Run_g N (R := R)) := by
  intro xs A Kr r hr
  unfold code_Run_g at hr
  split at hr
  · simp only [Option.ite_none_right_eq_some] at hr
    obtain ⟨hty, hr⟩ := hr
    obtain ⟨rfl, rfl, rfl⟩ := hty
    rw [← code_Run_run] at hr
    obtain ⟨v, L, h1, h2⟩ := exF_ok (ok0 gl0) (mo gl0) ((code_Run_ov N).ov_ok _) (extX_ok gl0) _ _ _ _ _ _ hr
    exact ⟨v, L, h1.mono (leA_none fun _ => rfl), h2⟩
  · cases hr
end Go.Proofs.YtjakbdogmomfeaaDoor


namespace Go.Proofs.YtjakbdogmomfeaaDoor
open Go Go.E
set_option maxRecDepth 100000
set_option maxHeartbeats 4000000
set_option linter.unusedSimpArgs false
variable {R : Type} {N : Nat}
structure St where
  s : List Int
  e : Int
def oneI (b : Bool) : Int := if b = true then 1 else 0
def St.fail (x : St) (c : Int) : St := ⟨x.s, if x.e = 0 then c else x.e⟩
def St.pop (x : St) : Int × St := match x.s with
  | [] => (0, x.fail 12)
  | a :: r => (a, ⟨r, x.e⟩)
def St.push (x : St) (a : Int) : St := if 32 ≤ x.s.length then x.fail 4 else ⟨a :: x.s, x.e⟩
def St.push2 (x : St) (a b : Int) : St := if 32 ≤ x.s.length then x.fail 4 else (x.push a).push b
structure OkA (x : St) (arr : C) : Prop where
  le : x.s.length ≤ 32
  is : arr.elems.take x.s.length = x.s.reverse.map C.int
def St.pushA (x : St) (arr : C) (a : Int) : C := if 32 ≤ x.s.length then arr else .agg (arr.elems.take x.s.length ++ [.int a])
def St.push2A (x : St) (arr : C) (a b : Int) : C := if 32 ≤ x.s.length then arr else (x.push a).pushA (x.pushA arr a) b
section
variable {x : St} {arr : C}
theorem OkA.fail (h : OkA x arr) (c : Int) : OkA (x.fail c) arr := ⟨h.le, h.is⟩
theorem OkA.pop (h : OkA x arr) : OkA x.pop.2 arr := by
  obtain ⟨s, e⟩ := x
  cases s with
  | nil => exact ⟨h.le, h.is⟩
  | cons a r =>
    have h1 : r.length + 1 ≤ 32 := h.le
    have h2 : arr.elems.take (r.length + 1) = (a :: r).reverse.map C.int := h.is
    refine ⟨show r.length ≤ 32 by omega, show arr.elems.take r.length = r.reverse.map C.int from ?_⟩
    have h3 := congrArg (List.take r.length) h2
    rw [List.take_take, Nat.min_eq_left (Nat.le_succ _), List.reverse_cons, List.map_append, List.take_append_of_le_length (by rw [List.length_map, List.length_reverse]; exact Nat.le_refl _), List.take_of_length_le (l := List.map C.int r.reverse) (by simp)] at h3
    exact h3
theorem OkA.len (h : OkA x arr) : x.s.length ≤ arr.elems.length := by
  have := congrArg List.length h.is
  simp at this
  omega
theorem OkA.top {a : Int} {r : List Int} {e : Int} (h : OkA ⟨a :: r, e⟩ arr) : arr.get r.length = .int a := by
  have h2 : arr.elems.take (r.length + 1) = (a :: r).reverse.map C.int := h.is
  have h3 := congrArg (fun l => l[r.length]?) h2
  simp only [List.getElem?_take, Nat.lt_succ_self, if_true, List.reverse_cons, List.map_append] at h3
  rw [List.getElem?_append_right (by simp)] at h3
  have h4 : arr.elems[r.length]? = some (.int a) := by simpa using h3
  cases arr <;> simp only [C.elems, List.getElem?_nil, reduceCtorEq] at h4 <;> simp [C.get, h4]
theorem OkA.push (h : OkA x arr) (a : Int) : OkA (x.push a) (x.pushA arr a) := by
  unfold St.push St.pushA
  by_cases h1 : 32 ≤ x.s.length
  · simp only [h1, if_true]; exact h.fail 4
  · simp only [h1, if_false]
    refine ⟨show x.s.length + 1 ≤ 32 by omega, ?_⟩
    show List.take (x.s.length + 1) (arr.elems.take x.s.length ++ [C.int a]) = (a :: x.s).reverse.map C.int
    rw [h.is, List.take_of_length_le (by simp), List.reverse_cons, List.map_append]
    rfl
theorem OkA.push2 (h : OkA x arr) (a b : Int) : OkA (x.push2 a b) (x.push2A arr a b) := by
  unfold St.push2 St.push2A
  by_cases h1 : 32 ≤ x.s.length
  · simp only [h1, if_true]; exact h.fail 4
  · simp only [h1, if_false]; exact (h.push a).push b
theorem fail_st (c : Int) (k : KD R) : code_stack_fail_p N (.int c) (.int x.s.length) (.int x.e) arr k = k [.int (x.fail c).s.length, .int (x.fail c).e, .int arr.elems.length, arr] [] := by
  rw [code_stack_fail_pe]
  unfold code_stack_fail_p0 St.fail
  simp only [go_sem, c_int, c_bool, Int.toNat_natCast, if_true]
  by_cases h : x.e = 0 <;> simp [h]
theorem pop_st (h : OkA x arr) (k : KD R) : code_stack_pop_p N (.int x.s.length) (.int x.e) arr k = k [.int x.pop.1, .int x.pop.2.s.length, .int x.pop.2.e, .int arr.elems.length, arr] [] := by
  obtain ⟨s, e⟩ := x
  cases s with
  | nil =>
    rw [code_stack_pop_pe]
    unfold code_stack_pop_p0
    have := fail_st (R := R) (N := N) (x := ⟨[], e⟩) (arr := arr) 12
    simp only [List.length_nil] at this ⊢
    simp only [go_sem, c_int, c_bool, Int.toNat_natCast, if_true]
    exact (this _).trans rfl
  | cons a r =>
    have hn : r.length + 1 ≤ 32 := h.le
    have hw : IntKind.wrap .i64 (((r.length + 1 : Nat) : Int) - 1) = r.length := by
      rw [IntWalk.i64_in _ (by omega)]; omega
    rw [code_stack_pop_pe]
    unfold code_stack_pop_p0
    simp only [List.length_cons, go_sem, c_int, c_bool, Int.toNat_natCast, if_true, hw]
    have h0 : ¬ (((r.length + 1 : Nat) : Int) = 0) := by omega
    have h1 : (0 : Int) ≤ (r.length : Int) ∧ (r.length : Int) < ((r.length + 1 : Nat) : Int) := ⟨by omega, by omega⟩
    have h2 : (0 : Int) ≤ 0 ∧ (0 : Int) ≤ (r.length : Int) ∧ (r.length : Int) ≤ ((r.length + 1 : Nat) : Int) := ⟨by decide, by omega, by omega⟩
    simp only [h0, decide_false, cond_false, if_pos h1, if_pos h2, Nat.zero_add, Int.sub_zero, Int.toNat_natCast, h.top]
    rfl
theorem push_st (h : OkA x arr) (a : Int) (hN : 4 < N) (k : KD R) : code_stack_push_p N (.slice [.int a]) (.int x.s.length) (.int x.e) arr k = k [.int (x.push a).s.length, .int (x.push a).e, .int arr.elems.length, x.pushA arr a] [] := by
  obtain ⟨M, rfl⟩ : ∃ M, N = M + 3 := ⟨N - 3, by omega⟩
  rw [code_stack_push_pe]
  unfold code_stack_push_p0
  simp only [go_sem, loopK_succ, code_stack_push_l1, c_int, c_bool, c_slice, Int.toNat_natCast, if_true, List.length_cons, List.length_nil, Nat.zero_add]
  have hl := h.len
  have h32 := h.le
  have e1 : IntKind.i64.wrap ((0 : Int) + 1) = 1 := by decide
  have e2 : ((0 : Int) < ((1 : Nat) : Int)) = True := by simp
  have e3 : (((1 : Nat) : Int) < ((1 : Nat) : Int)) = False := by simp
  by_cases h1 : 32 ≤ x.s.length
  · have h1' : (32 : Int) ≤ (x.s.length : Int) := by omega
    simp only [h1', fail_st, go_sem, c_int, decide_true, if_true]
    simp [St.push, St.pushA, h1]
  · have h1' : ¬ (32 : Int) ≤ (x.s.length : Int) := by omega
    have h2 : x.s.length + 1 = (List.take x.s.length arr.elems ++ [C.int a]).length := by simp; omega
    have h3 : (x.s.length + 1) * 8 ≤ 140737488355328 ∧ x.s.length + 1 ≤ 9223372036854775807 := by omega
    simp only [h1', go_sem, c_int, e1, List.getD_cons_zero, ← h2, h3]
    simp [St.push, St.pushA, h1]
theorem push2_st (h : OkA x arr) (a b : Int) (hN : 4 < N) (k : KD R) : code_stack_push_p N (.slice [.int a, .int b]) (.int x.s.length) (.int x.e) arr k = k [.int (x.push2 a b).s.length, .int (x.push2 a b).e, .int arr.elems.length, x.push2A arr a b] [] := by
  obtain ⟨M, rfl⟩ : ∃ M, N = M + 3 := ⟨N - 3, by omega⟩
  rw [code_stack_push_pe]
  unfold code_stack_push_p0
  simp only [go_sem, loopK_succ, code_stack_push_l1, c_int, c_bool, c_slice, Int.toNat_natCast, if_true, List.length_cons, List.length_nil, Nat.zero_add]
  have hl := h.len
  have h32 := h.le
  have e1 : IntKind.i64.wrap ((0 : Int) + 1) = 1 := by decide
  have e2 : IntKind.i64.wrap ((1 : Int) + 1) = 2 := by decide
  by_cases h1 : 32 ≤ x.s.length
  · have h1' : (32 : Int) ≤ (x.s.length : Int) := by omega
    simp only [h1', fail_st, go_sem, c_int, decide_true, if_true]
    simp [St.push2, St.push2A, h1]
  · have h1' : ¬ (32 : Int) ≤ (x.s.length : Int) := by omega
    have h2 : x.s.length + 1 = (List.take x.s.length arr.elems ++ [C.int a]).length := by simp; omega
    have h3 : (x.s.length + 1) * 8 ≤ 140737488355328 ∧ x.s.length + 1 ≤ 9223372036854775807 := by omega
    have hx : x.push a = ⟨a :: x.s, x.e⟩ := if_neg h1
    have hA : x.pushA arr a = .agg (arr.elems.take x.s.length ++ [.int a]) := if_neg h1
    simp only [h1', go_sem, c_int, e1, e2, List.getD_cons_zero, List.getD_cons_succ, ← h2, h3]
    by_cases h4 : 32 ≤ x.s.length + 1
    · have h4' : (32 : Int) ≤ ((x.s.length + 1 : Nat) : Int) := by omega
      have := fail_st (R := R) (N := M + 3) (x := x.push a) (arr := x.pushA arr a) 4
      rw [hx, hA] at this
      simp only [List.length_cons] at this
      simp only [h4', go_sem, c_int, this]
      simp [St.push2, St.push2A, h1, hx, hA, St.push, St.pushA, h4]
    · have h4' : ¬ (32 : Int) ≤ ((x.s.length + 1 : Nat) : Int) := by omega
      have h5 : (x.s.length + 1 + 1) * 8 ≤ 140737488355328 ∧ x.s.length + 1 + 1 ≤ 9223372036854775807 := by omega
      have h6 : List.take (x.s.length + 1) (List.take x.s.length arr.elems ++ [C.int a]) = List.take x.s.length arr.elems ++ [C.int a] := List.take_of_length_le (by omega)
      have h7 : x.s.length + 1 + 1 = (List.take x.s.length arr.elems ++ [C.int a] ++ [C.int b]).length := by simp; omega
      simp only [h4', go_sem, c_int, c_agg, h5, h6, ← h7]
      simp [St.push2, St.push2A, h1, hx, hA, St.push, St.pushA, h4]
      rw [c_agg, h6, List.append_assoc]
      rfl
theorem bool_st (h : OkA x arr) (c : C) (hN : 4 < N) (k : KD R) : code_stack_bool_p N c (.int x.s.length) (.int x.e) arr k = k [.int (x.push (oneI c.toBool)).s.length, .int (x.push (oneI c.toBool)).e, .int arr.elems.length, x.pushA arr (oneI c.toBool)] [] := by
  rw [code_stack_bool_pe]
  unfold code_stack_bool_p0
  cases hc : c.toBool <;> simp only [go_sem, c_int, Int.toNat_natCast, if_true, cond_true, cond_false, push_st h _ hN] <;> first | done | rfl
end
def St.put (x : St) (r : Int × Int) : St := if r.2 = 0 then x.push r.1 else x.fail r.2
def hiM (a b : Int) : Int :=
    (IntKind.wrap IntKind.u64
      (IntKind.wrap IntKind.u64
          (IntKind.wrap IntKind.u64
              (Int.fdiv (a) (2 ^ min (Int.toNat 32) 64) * Int.fdiv (b) (2 ^ min (Int.toNat 32) 64)) +
            Int.fdiv
              (IntKind.wrap IntKind.u64
                (IntKind.wrap IntKind.u64
                    (Int.fdiv (a) (2 ^ min (Int.toNat 32) 64) *
                      bitsC BinOp.and IntKind.u64 (b) 4294967295) +
                  Int.fdiv
                    (IntKind.wrap IntKind.u64
                      (bitsC BinOp.and IntKind.u64 (a) 4294967295 *
                        bitsC BinOp.and IntKind.u64 (b) 4294967295))
                    (2 ^ min (Int.toNat 32) 64)))
              (2 ^ min (Int.toNat 32) 64)) +
        Int.fdiv
          (IntKind.wrap IntKind.u64
            (bitsC BinOp.and IntKind.u64
                (IntKind.wrap IntKind.u64
                  (IntKind.wrap IntKind.u64
                      (Int.fdiv (a) (2 ^ min (Int.toNat 32) 64) *
                        bitsC BinOp.and IntKind.u64 (b) 4294967295) +
                    Int.fdiv
                      (IntKind.wrap IntKind.u64
                        (bitsC BinOp.and IntKind.u64 (a) 4294967295 *
                          bitsC BinOp.and IntKind.u64 (b) 4294967295))
                      (2 ^ min (Int.toNat 32) 64)))
                4294967295 +
              IntKind.wrap IntKind.u64
                (bitsC BinOp.and IntKind.u64 (a) 4294967295 *
                  Int.fdiv (b) (2 ^ min (Int.toNat 32) 64))))
          (2 ^ min (Int.toNat 32) 64)))
def mulR (a b : Int) : Int × Int := if hiM a b = 0 then (IntKind.u64.wrap (a * b), 0) else (0, 11)
def St.reck (x : St) (f : Int → Int → Int × Int) : St := if x.pop.2.pop.2.e = 0 then x.pop.2.pop.2.put (f x.pop.2.pop.1 x.pop.1) else x.pop.2.pop.2
def plainS (w : C) (op : Nat) (arg : Int) (x : St) : St := match op with
  | 1 => x.push arg
  | 2 => if arg < ((w.get 0).elems.length : Int) then x.push ((w.get 0).elems.getD arg.toNat .nil).toInt else x.fail 1
  | 3 => x.reck addR
  | 4 => x.reck subR
  | 5 => x.reck mulR
  | 6 => x.pop.2.pop.2.push (oneI (decide (x.pop.2.pop.1 < x.pop.1)))
  | 7 => x.pop.2.pop.2.push (oneI (decide (x.pop.2.pop.1 = x.pop.1)))
  | 8 => x.pop.2.push (oneI (decide (x.pop.1 = 0)))
  | 9 => x.pop.2.pop.2.push (oneI (!decide (x.pop.2.pop.1 = 0) && !decide (x.pop.1 = 0)))
  | 10 => x.pop.2.pop.2.push (oneI (!decide (x.pop.2.pop.1 = 0) || !decide (x.pop.1 = 0)))
  | 13 => x.pop.2.push2 x.pop.1 x.pop.1
  | 14 => x.pop.2.pop.2.push2 x.pop.1 x.pop.2.pop.1
  | 15 => x.pop.2
  | 16 => if arg < ((w.get 1).elems.length : Int) then x.push (oneI ((w.get 1).elems.getD arg.toNat .nil).toBool) else x.fail 1
  | 17 => x.push (w.get 2).toInt
  | _ => x
structure WOk (w : C) : Prop where
  f : ∀ c ∈ (w.get 0).elems, c = .int c.toInt
  l0 : (w.get 0).elems.length < 4611686018427387904
  l1 : (w.get 1).elems.length < 4611686018427387904
  h : w.get 2 = .int (w.get 2).toInt

theorem mul_eq (a b : Int) (k : KD R) : money_Mul_p N (.int a) (.int b) k = k [.int (mulR a b).1, .int (mulR a b).2] [] := by
  have h1 : ∀ k : KD R, math_bits_Mul64_p N (.int a) (.int b) k = k [.int (hiM a b), .int (IntKind.u64.wrap (a * b))] [] := fun k => by
    rw [math_bits_Mul64_pe]; rfl
  rw [money_Mul_pe]
  unfold money_Mul_p0 mulR
  rw [h1]
  simp only [go_sem, c_int]
  by_cases h : hiM a b = 0 <;> simp [h]
theorem plain_st {w : C} (hw : WOk w) {x : St} {arr : C} (h : OkA x arr) (hN : 4 < N) (op : Nat) (hop : op ≤ 17) (arg : Int) (ha : 0 ≤ arg) : ∃ arr', OkA (plainS w op arg x) arr' ∧ ∀ {R : Type} (k : KD R),
    code_World_plain_p N w (.int op) (.int arg) (.int x.s.length) (.int x.e) arr k = k [.int (plainS w op arg x).s.length, .int (plainS w op arg x).e, .int arr.elems.length, arr'] [] := by
  have c : op = 0 ∨ op = 1 ∨ op = 2 ∨ op = 3 ∨ op = 4 ∨ op = 5 ∨ op = 6 ∨ op = 7 ∨ op = 8 ∨ op = 9 ∨ op = 10 ∨ op = 11 ∨ op = 12 ∨ op = 13 ∨ op = 14 ∨ op = 15 ∨ op = 16 ∨ op = 17 := by omega
  have hp := h.pop
  have hpp := hp.pop
  have red : ∀ b : Prop, [Decidable b] → (if b then true else false) = decide b := fun b _ => by by_cases h : b <;> simp [h]
  have m1 : IntKind.u64.min = 0 := by decide
  have m2 : IntKind.u64.max = 18446744073709551615 := by decide
  have ofl : ∀ n : Nat, n < 4611686018427387904 → IntKind.u64.wrap (n : Int) = n := fun n hn => wrap_id (by omega) (by omega)
  have go : ∀ (x' : St) (arr' : C), OkA x' arr' → (∀ {R : Type} (k : KD R), code_World_plain_p0 N w (.int op) (.int arg) (.int x.s.length) (.int x.e) arr k = k [.int x'.s.length, .int x'.e, .int arr.elems.length, arr'] []) → x' = plainS w op arg x → ∃ arr', OkA (plainS w op arg x) arr' ∧ ∀ {R : Type} (k : KD R),
    code_World_plain_p N w (.int op) (.int arg) (.int x.s.length) (.int x.e) arr k = k [.int (plainS w op arg x).s.length, .int (plainS w op arg x).e, .int arr.elems.length, arr'] [] := by
    rintro x' arr' h1 h2 rfl
    exact ⟨arr', h1, fun k => by rw [code_World_plain_pe]; exact h2 k⟩
  have reck : ∀ (f : Int → Int → Int × Int), plainS w op arg x = x.reck f → (∀ {R : Type} (k : KD R), code_World_plain_p0 N w (.int op) (.int arg) (.int x.s.length) (.int x.e) arr k =
      if x.pop.2.pop.2.e = 0 then (if (f x.pop.2.pop.1 x.pop.1).2 = 0 then k [.int (x.pop.2.pop.2.push (f x.pop.2.pop.1 x.pop.1).1).s.length, .int (x.pop.2.pop.2.push (f x.pop.2.pop.1 x.pop.1).1).e, .int arr.elems.length, x.pop.2.pop.2.pushA arr (f x.pop.2.pop.1 x.pop.1).1] []
        else k [.int (x.pop.2.pop.2.fail (f x.pop.2.pop.1 x.pop.1).2).s.length, .int (x.pop.2.pop.2.fail (f x.pop.2.pop.1 x.pop.1).2).e, .int arr.elems.length, arr] [])
      else k [.int x.pop.2.pop.2.s.length, .int x.pop.2.pop.2.e, .int arr.elems.length, arr] []) → ∃ arr', OkA (plainS w op arg x) arr' ∧ ∀ {R : Type} (k : KD R),
    code_World_plain_p N w (.int op) (.int arg) (.int x.s.length) (.int x.e) arr k = k [.int (plainS w op arg x).s.length, .int (plainS w op arg x).e, .int arr.elems.length, arr'] [] := by
    intro f hf hk
    by_cases h1 : x.pop.2.pop.2.e = 0
    · by_cases h2 : (f x.pop.2.pop.1 x.pop.1).2 = 0
      · refine go _ _ (hpp.push (f x.pop.2.pop.1 x.pop.1).1) (fun k => ?_) ?_
        · rw [hk, if_pos h1, if_pos h2]
        · rw [hf]; simp [St.reck, St.put, h1, h2]
      · refine go _ _ (hpp.fail (f x.pop.2.pop.1 x.pop.1).2) (fun k => ?_) ?_
        · rw [hk, if_pos h1, if_neg h2]
        · rw [hf]; simp [St.reck, St.put, h1, h2]
    · refine go _ _ hpp (fun k => ?_) ?_
      · rw [hk, if_neg h1]
      · rw [hf]; simp [St.reck, h1]
  rcases c with rfl | rfl | rfl | rfl | rfl | rfl | rfl | rfl | rfl | rfl | rfl | rfl | rfl | rfl | rfl | rfl | rfl | rfl
  case inr.inl =>   -- push
    refine go _ _ (h.push arg) (fun k => ?_) rfl
    unfold code_World_plain_p0
    simp only [go_sem, c_int, Int.toNat_natCast, if_true, push_st h _ hN, Int.reduceEq, reduceIte]
  case inr.inr.inl =>   -- load
    by_cases hlt : arg < ((w.get 0).elems.length : Int)
    · have hlt' : ¬ ((w.get 0).elems.length : Int) ≤ arg := by omega
      have hget : (w.get 0).elems.getD arg.toNat .nil = .int ((w.get 0).elems.getD arg.toNat .nil).toInt := by
        refine hw.f _ ?_
        rw [List.getD_eq_getElem?_getD, List.getElem?_eq_getElem (by omega)]
        exact List.getElem_mem _
      refine go _ _ (h.push ((w.get 0).elems.getD arg.toNat .nil).toInt) (fun k => ?_) (by simp only [plainS, hlt, if_true])
      unfold code_World_plain_p0
      simp only [go_sem, c_int, Int.toNat_natCast, if_true, ofl _ hw.l0, hlt', hlt, ha, and_self, Int.reduceEq, reduceIte]
      rw [hget, push_st h _ hN]
      simp only [go_sem, c_int, Int.toNat_natCast, if_true]
    · have hlt' : ((w.get 0).elems.length : Int) ≤ arg := by omega
      refine go _ _ (h.fail 1) (fun k => ?_) (by simp only [plainS, hlt, if_false])
      unfold code_World_plain_p0
      simp only [go_sem, c_int, Int.toNat_natCast, if_true, ofl _ hw.l0, hlt', fail_st, Int.reduceEq, reduceIte]
  case inr.inr.inr.inl =>   -- add
    refine reck addR rfl fun k => ?_
    unfold code_World_plain_p0
    simp only [go_sem, c_int, Int.toNat_natCast, if_true, pop_st h, pop_st hp, add_eq, push_st hpp _ hN, fail_st, Int.reduceEq, reduceIte]
    by_cases h1 : x.pop.2.pop.2.e = 0 <;> by_cases h2 : (addR x.pop.2.pop.1 x.pop.1).2 = 0 <;> simp [h1, h2]
  case inr.inr.inr.inr.inl =>   -- sub
    refine reck subR rfl fun k => ?_
    unfold code_World_plain_p0
    simp only [go_sem, c_int, Int.toNat_natCast, if_true, pop_st h, pop_st hp, sub_eq, push_st hpp _ hN, fail_st, Int.reduceEq, reduceIte]
    by_cases h1 : x.pop.2.pop.2.e = 0 <;> by_cases h2 : (subR x.pop.2.pop.1 x.pop.1).2 = 0 <;> simp [h1, h2]
  case inr.inr.inr.inr.inr.inl =>   -- mul
    refine reck mulR rfl fun k => ?_
    unfold code_World_plain_p0
    simp only [go_sem, c_int, Int.toNat_natCast, if_true, pop_st h, pop_st hp, mul_eq, push_st hpp _ hN, fail_st, Int.reduceEq, reduceIte]
    by_cases h1 : x.pop.2.pop.2.e = 0 <;> by_cases h2 : (mulR x.pop.2.pop.1 x.pop.1).2 = 0 <;> simp [h1, h2]
  all_goals try (   -- those that can't fail of themselves
    first
    | (refine go _ _ (hpp.push _) (fun k => ?_) rfl
       unfold code_World_plain_p0
       simp only [go_sem, c_int, c_bool, Int.toNat_natCast, if_true, pop_st h, pop_st hp, bool_st hpp _ hN, Int.reduceEq, reduceIte]
       first | done | rfl)
    | (refine go _ _ (hp.push _) (fun k => ?_) rfl
       unfold code_World_plain_p0
       simp only [go_sem, c_int, c_bool, Int.toNat_natCast, if_true, pop_st h, bool_st hp _ hN, Int.reduceEq, reduceIte]
       first | done | rfl)
    | (refine go _ _ (hp.push2 _ _) (fun k => ?_) rfl
       unfold code_World_plain_p0
       simp only [go_sem, c_int, Int.toNat_natCast, if_true, pop_st h, push2_st hp _ _ hN, Int.reduceEq, reduceIte]
       first | done | rfl)
    | (refine go _ _ (hpp.push2 _ _) (fun k => ?_) rfl
       unfold code_World_plain_p0
       simp only [go_sem, c_int, Int.toNat_natCast, if_true, pop_st h, pop_st hp, push2_st hpp _ _ hN, Int.reduceEq, reduceIte]
       first | done | rfl)
    | (refine go _ _ hp (fun k => ?_) rfl
       unfold code_World_plain_p0
       simp only [go_sem, c_int, Int.toNat_natCast, if_true, pop_st h, Int.reduceEq, reduceIte]
       first | done | rfl)
    | (refine go _ _ h (fun k => ?_) rfl
       unfold code_World_plain_p0
       simp only [go_sem, c_int, Int.toNat_natCast, if_true, Int.reduceEq, reduceIte]
       first | done | rfl))
  · by_cases h1 : x.pop.2.pop.1 = 0
    · refine go _ _ (hpp.push (oneI false)) (fun k => ?_) (by simp [plainS, h1])
      unfold code_World_plain_p0
      simp only [go_sem, c_int, c_bool, Int.toNat_natCast, if_true, pop_st h, pop_st hp, h1, decide_true, Bool.not_true, cond_false, bool_st hpp _ hN, Int.reduceEq, reduceIte]
      first | done | rfl
    · refine go _ _ (hpp.push (oneI (!decide (x.pop.1 = 0)))) (fun k => ?_) (by simp [plainS, h1])
      unfold code_World_plain_p0
      simp only [go_sem, c_int, c_bool, Int.toNat_natCast, if_true, pop_st h, pop_st hp, h1, decide_false, Bool.not_false, cond_true, bool_st hpp _ hN, Int.reduceEq, reduceIte]
      first | done | rfl
  · by_cases h1 : x.pop.2.pop.1 = 0
    · refine go _ _ (hpp.push (oneI (!decide (x.pop.1 = 0)))) (fun k => ?_) (by simp [plainS, h1])
      unfold code_World_plain_p0
      simp only [go_sem, c_int, c_bool, Int.toNat_natCast, if_true, pop_st h, pop_st hp, h1, decide_true, Bool.not_true, cond_false, bool_st hpp _ hN, Int.reduceEq, reduceIte]
      first | done | rfl
    · refine go _ _ (hpp.push (oneI true)) (fun k => ?_) (by simp [plainS, h1])
      unfold code_World_plain_p0
      simp only [go_sem, c_int, c_bool, Int.toNat_natCast, if_true, pop_st h, pop_st hp, h1, decide_false, Bool.not_false, cond_true, bool_st hpp _ hN, Int.reduceEq, reduceIte]
      first | done | rfl
  · by_cases hlt : arg < ((w.get 1).elems.length : Int)
    · have hlt' : ¬ ((w.get 1).elems.length : Int) ≤ arg := by omega
      refine go _ _ (h.push (oneI ((w.get 1).elems.getD arg.toNat .nil).toBool)) (fun k => ?_) (by simp only [plainS, hlt, if_true])
      unfold code_World_plain_p0
      simp only [go_sem, c_int, Int.toNat_natCast, if_true, ofl _ hw.l1, hlt', hlt, ha, and_self, bool_st h _ hN, Int.reduceEq, reduceIte]
      first | done | rfl
    · have hlt' : ((w.get 1).elems.length : Int) ≤ arg := by omega
      refine go _ _ (h.fail 1) (fun k => ?_) (by simp only [plainS, hlt, if_false])
      unfold code_World_plain_p0
      simp only [go_sem, c_int, Int.toNat_natCast, if_true, ofl _ hw.l1, hlt', fail_st, Int.reduceEq, reduceIte]
  · refine go _ _ (h.push (w.get 2).toInt) (fun k => ?_) rfl
    unfold code_World_plain_p0
    simp only [go_sem, c_int, Int.toNat_natCast, if_true, Int.reduceEq, reduceIte]
    rw [hw.h, push_st h _ hN]
    simp only [go_sem, c_int, Int.toNat_natCast, if_true]
end Go.Proofs.YtjakbdogmomfeaaDoor


namespace Go.Proofs.YtjakbdogmomfeaaDoor
open Go Go.E
set_option maxRecDepth 100000
set_option maxHeartbeats 4000000
set_option linter.unusedSimpArgs false
variable {R : Type} {N : Nat}
def costN (o : Int) : Int := if o = 5 then 3 else if o = 16 then 10 else 1
theorem costN_pos (o : Int) : 1 ≤ costN o ∧ costN o ≤ 10 := by unfold costN; (repeat' split) <;> omega
theorem forms_cost : ∀ (o : Nat), o < 18 → (formsC.getD o .nil).get 2 = .int (costN o) := by
  intro o h
  have c : o = 0 ∨ o = 1 ∨ o = 2 ∨ o = 3 ∨ o = 4 ∨ o = 5 ∨ o = 6 ∨ o = 7 ∨ o = 8 ∨ o = 9 ∨ o = 10 ∨ o = 11 ∨ o = 12 ∨ o = 13 ∨ o = 14 ∨ o = 15 ∨ o = 16 ∨ o = 17 := by omega
  rcases c with rfl | rfl | rfl | rfl | rfl | rfl | rfl | rfl | rfl | rfl | rfl | rfl | rfl | rfl | rfl | rfl | rfl | rfl <;> rfl
def argA (p : List C) (i : Nat) : Int := argN p (i + 1) (moreN (bN p i))
def runF (p : List C) (gas : Int) (w : C) : Nat → Nat → Int → St → Int × Int × Int
  | 0, _, _, _ => (0, 0, 0)
  | f + 1, i, sp, x =>
    if errN p i ≠ 0 then (0, sp, errN p i)
    else if gas - sp < costN (bN p i) then (0, sp, 24)
    else if bN p i = 0 then (x.pop.1, sp + costN (bN p i), x.pop.2.e)
    else if bN p i = 11 then (if x.e ≠ 0 then (0, sp + costN (bN p i), x.e) else runF p gas w f (argA p i).toNat (sp + costN (bN p i)) x)
    else if bN p i = 12 then (if x.pop.2.e ≠ 0 then (0, sp + costN (bN p i), x.pop.2.e) else runF p gas w f (if x.pop.1 = 0 then i + 1 + moreN (bN p i) else (argA p i).toNat) (sp + costN (bN p i)) x.pop.2)
    else (if (plainS w (bN p i).toNat (argA p i) x).e ≠ 0 then (0, sp + costN (bN p i), (plainS w (bN p i).toNat (argA p i) x).e)
      else runF p gas w f (i + 1 + moreN (bN p i)) (sp + costN (bN p i)) (plainS w (bN p i).toNat (argA p i) x))
theorem runF_fuel {p : List C} {gas : Int} {w : C} : ∀ (f g i : Nat) (sp : Int) (x : St), (gas - sp).toNat < f → (gas - sp).toNat < g → runF p gas w f i sp x = runF p gas w g i sp x
  | 0, _, _, _, _, h, _ => by omega
  | _ + 1, 0, _, _, _, _, h => by omega
  | f + 1, g + 1, i, sp, x, h1, h2 => by
    have hc := costN_pos (bN p i)
    simp only [runF]
    split
    · rfl
    split
    · rfl
    split
    · rfl
    split
    · split
      · rfl
      · exact runF_fuel f g _ _ _ (by omega) (by omega)
    split
    · split
      · rfl
      · exact runF_fuel f g _ _ _ (by omega) (by omega)
    split
    · rfl
    · exact runF_fuel f g _ _ _ (by omega) (by omega)
def runV (p : List C) (gas : Int) (w : C) (i : Nat) (sp : Int) (x : St) : Int × Int × Int := runF p gas w ((gas - sp).toNat + 1) i sp x
theorem runV_eq {p : List C} {gas : Int} {w : C} {i : Nat} {sp : Int} {x : St} : runV p gas w i sp x =
    if errN p i ≠ 0 then (0, sp, errN p i)
    else if gas - sp < costN (bN p i) then (0, sp, 24)
    else if bN p i = 0 then (x.pop.1, sp + costN (bN p i), x.pop.2.e)
    else if bN p i = 11 then (if x.e ≠ 0 then (0, sp + costN (bN p i), x.e) else runV p gas w (argA p i).toNat (sp + costN (bN p i)) x)
    else if bN p i = 12 then (if x.pop.2.e ≠ 0 then (0, sp + costN (bN p i), x.pop.2.e) else runV p gas w (if x.pop.1 = 0 then i + 1 + moreN (bN p i) else (argA p i).toNat) (sp + costN (bN p i)) x.pop.2)
    else (if (plainS w (bN p i).toNat (argA p i) x).e ≠ 0 then (0, sp + costN (bN p i), (plainS w (bN p i).toNat (argA p i) x).e)
      else runV p gas w (i + 1 + moreN (bN p i)) (sp + costN (bN p i)) (plainS w (bN p i).toNat (argA p i) x)) := by
  have hc := costN_pos (bN p i)
  unfold runV
  rw [runF]
  split
  · rfl
  split
  · rfl
  split
  · rfl
  split
  · split
    · rfl
    · exact runF_fuel _ _ _ _ _ (by omega) (by omega)
  split
  · split
    · rfl
    · exact runF_fuel _ _ _ _ _ (by omega) (by omega)
  split
  · rfl
  · exact runF_fuel _ _ _ _ _ (by omega) (by omega)
theorem arg16 {p : List C} (hp : C.wf (.slice 1 (.int .u8)) (.slice p)) {i : Nat} (h : i + 1 + moreN (bN p i) ≤ p.length) (h2 : bN p i = 11 ∨ bN p i = 12) : 0 ≤ argA p i ∧ argA p i < 65536 := by
  have hm : moreN (bN p i) = 2 := by rcases h2 with h2 | h2 <;> rw [h2] <;> rfl
  have h16 := argN_wf hp (i := i + 1) (k := moreN (bN p i)) (by omega)
  unfold argA
  rw [hm] at h16 ⊢
  exact ⟨h16.1, by have := h16.2; omega⟩
structure RunI where
  i : Nat
  sp : Int
  x : St
  arr : C
theorem run_st {p : List C} (hp : C.wf (.slice 1 (.int .u8)) (.slice p)) (hl : p.length ≤ 256) {gas : Int} (hg : 0 ≤ gas ∧ gas ≤ 4096) {w : C} (hw : WOk w) (hN : 5000 < N) (k : KD R) :
    code_Run_p N (.slice p) w (.int gas) k = k [.int (runV p gas w 0 0 ⟨[], 0⟩).1, .int (runV p gas w 0 0 ⟨[], 0⟩).2.1, .int (runV p gas w 0 0 ⟨[], 0⟩).2.2] [] := by
  rw [code_Run_pe]
  unfold code_Run_p0
  have a1 : ¬ (256 : Int) < (p.length : Int) := by omega
  have a2 : ¬ gas < 0 := by omega
  have a3 : ¬ (4096 : Int) < gas := by omega
  simp only [go_sem, c_int, c_slice, c_bool, a1, a2, a3, decide_false, cond_false]
  refine loopK_ind (F := code_Run_l1 N k) (fun i : RunI => [.slice p, .int gas, w, .int i.i, .int i.sp, .int i.x.s.length, .int i.x.e, i.arr]) (fun _ => []) (fun i => (gas - i.sp).toNat)
    (fun i => OkA i.x i.arr ∧ i.x.e = 0 ∧ 0 ≤ i.sp ∧ i.sp ≤ gas ∧ i.i ≤ 100000) (fun i => k [.int (runV p gas w i.i i.sp i.x).1, .int (runV p gas w i.i i.sp i.x).2.1, .int (runV p gas w i.i i.sp i.x).2.2] [])
    ?_ N ⟨0, 0, ⟨[], 0⟩, .agg []⟩ ⟨⟨by simp, by simp [C.elems]⟩, rfl, by dsimp only; omega, by dsimp only; omega, by dsimp only; omega⟩ (by dsimp only; omega)
  rintro ⟨i, sp, x, arr⟩ ⟨hA, he, h0, h1, hi⟩ rec hrec
  dsimp only at hA he h0 h1 hi hrec ⊢
  rw [runV_eq]
  unfold code_Run_l1
  have b1 : List.length p ≤ 256 ∧ (0 : Int) ≤ (i : Int) ∧ (i : Int) ≤ 100000 := ⟨hl, by omega, by omega⟩
  simp only [go_sem, c_int, c_slice, c_bool, b1, if_true, and_self, Int.toNat_natCast]
  by_cases e1 : errN p i = 0
  case neg => simp [e1]
  have hb : i < p.length ∧ bN p i < 18 ∧ i + 1 + moreN (bN p i) ≤ p.length := by
    unfold errN at e1
    split at e1
    · cases e1
    split at e1
    · cases e1
    split at e1
    · cases e1
    omega
  have hbw := bN_wf hp hb.1
  have hop : 0 ≤ bN p i ∧ bN p i < 18 := by omega
  simp only [e1, hop, if_true, and_self, decide_true, Bool.not_true, cond_false, ne_eq, not_true, if_false]
  have hco : (formsC.getD (bN p i).toNat .nil).get 2 = .int (costN (bN p i)) := by
    have := forms_cost (bN p i).toNat (by omega)
    rwa [Int.toNat_of_nonneg hop.1] at this
  have hcp := costN_pos (bN p i)
  have w1 : IntKind.i64.wrap (gas - sp) = gas - sp := IntWalk.i64_in _ (by omega)
  have w2 : IntKind.i64.wrap (sp + costN (bN p i)) = sp + costN (bN p i) := IntWalk.i64_in _ (by omega)
  have hmo := moreN_le (bN p i)
  obtain ⟨g1, g2, g3⟩ := argN_lt hp (i := i + 1) (k := moreN (bN p i)) (by omega) hmo
  have hpl := plain_st hw hA (N := N) (by omega) (bN p i).toNat (by omega) (argN p (i + 1) (moreN (bN p i))) g1
  rw [Int.toNat_of_nonneg hop.1] at hpl
  simp only [hco, go_sem, c_int, w1, w2]
  generalize hc : costN (bN p i) = c at *
  by_cases e2 : gas - sp < c
  · simp [e2]
  by_cases e3 : bN p i = 0
  · simp [e2, e3, pop_st hA, go_sem]
  have hw3 : 0 ≤ argA p i → argA p i < 65536 → IntKind.i64.wrap (argN p (i + 1) (moreN (bN p i))) = ((argA p i).toNat : Int) := fun h1 h2 => by
    rw [Int.toNat_of_nonneg h1]
    exact IntWalk.i64_in _ (by unfold argA at *; omega)
  by_cases e4 : bN p i = 11
  · obtain ⟨q1, q2⟩ := arg16 hp hb.2.2 (.inl e4)
    have := hrec ⟨(argA p i).toNat, sp + c, x, arr⟩ ⟨hA, he, by dsimp only; omega, by dsimp only; omega, by dsimp only; omega⟩ (by dsimp only; omega)
    simp only [hw3 q1 q2]
    simp only [e2, e3, e4, he, decide_true, decide_false, cond_true, cond_false, Bool.not_true, if_true, if_false, not_true, not_false_iff, Int.reduceEq]
    simpa only [he] using this
  by_cases e5 : bN p i = 12
  · obtain ⟨q1, q2⟩ := arg16 hp hb.2.2 (.inr e5)
    simp only [hw3 q1 q2, pop_st hA]
    simp only [e2, e3, e4, e5, go_sem, c_int, decide_true, decide_false, cond_true, cond_false, Bool.not_true, if_true, if_false, not_true, not_false_iff, Int.reduceEq, Int.toNat_natCast]
    by_cases e6 : x.pop.2.e = 0
    · by_cases e7 : x.pop.1 = 0
      · have := hrec ⟨i + 1 + moreN (bN p i), sp + c, x.pop.2, arr⟩ ⟨hA.pop, e6, by dsimp only; omega, by dsimp only; omega, by dsimp only; omega⟩ (by dsimp only; omega)
        simp only [e5] at this
        simpa [e6, e7] using this
      · have := hrec ⟨(argA p i).toNat, sp + c, x.pop.2, arr⟩ ⟨hA.pop, e6, by dsimp only; omega, by dsimp only; omega, by dsimp only; omega⟩ (by dsimp only; omega)
        simpa [e6, e7] using this
    · by_cases e7 : x.pop.1 = 0 <;> simp [e6, e7]
  · obtain ⟨arr', hA', hk⟩ := hpl
    simp only [hk]
    simp only [e2, e3, e4, e5, go_sem, c_int, decide_true, decide_false, cond_true, cond_false, Bool.not_true, if_true, if_false, not_true, not_false_iff, Int.reduceEq, Int.toNat_natCast]
    have hq : argN p (i + 1) (moreN (bN p i)) = argA p i := rfl
    rw [hq] at hA' ⊢
    by_cases e6 : (plainS w (bN p i).toNat (argA p i) x).e = 0
    · have := hrec ⟨i + 1 + moreN (bN p i), sp + c, plainS w (bN p i).toNat (argA p i) x, arr'⟩ ⟨hA', e6, by dsimp only; omega, by dsimp only; omega, by dsimp only; omega⟩ (by dsimp only; omega)
      simpa [e6] using this
    · simp [e6]
end Go.Proofs.YtjakbdogmomfeaaDoor


namespace Go.Proofs.YtjakbdogmomfeaaDoor
open Go Go.E
set_option maxRecDepth 100000
set_option maxHeartbeats 4000000
set_option linter.unusedVariables false
noncomputable def pact_New_hs : Hints := [([9], ⟨[], [(2, .as (.ptr (.l 2) [] tState))], [], [(.l 2, .box (.d tState))], [], []⟩)]
noncomputable def pact_New_ov (N : Nat) : OvS (X0 gl0) where
  g R := []
  ok := fun R => fun _ h => nomatch h
noncomputable def pact_New_p0 {R : Type} (N : Nat) (a0 : C) (k1 : KD R) : Option R := (k1 [C.agg [a0, zeroC (Ty.int IntKind.u64), zeroC (Ty.arr 2 (Ty.int IntKind.u64)), zeroC (Ty.arr 2 (Ty.int IntKind.u64)), C.slice []]] [])
noncomputable def pact_New_p {R : Type} (N : Nat) : C → KD R → Option R := lid "pact_New_p N" (pact_New_p0 N)
theorem pact_New_pe {R : Type} (N : Nat) (a0 : C) (k : KD R) : pact_New_p N a0 k = pact_New_p0 N a0 k := by unfold pact_New_p; rw [lid_eq]
theorem pact_New_run {R : Type} (N : Nat) (a0 : C) (K : V → List (Key × O) → Option R) : exF (X0 gl0) ((pact_New_ov N).ov R) extX noX (fun f => bif Nat.beq f 14 then pact_New_hs else []) N 400 8 14 [.d (.int .u32) a0] A0 K =
    pact_New_p N a0 (fun d1 m1 => K (V.d tState (dk d1 0)) []) := by
  rw [pact_New_pe]
  exact (show _ = jn (fun d1 m1 => (K (V.d tState (dk d1 0)) [])) (pact_New_p0 N a0) by kernel_rfl).trans (jn_eq _ _)
noncomputable def pact_New_g (N : Nat) {R : Type} : OvG R := fun xs _ K => match xs with
  | [.d t0 a0] => if t0 = (.int .u32) then pact_New_p N a0 (fun d1 m1 => K (V.d tState (dk d1 0)) []) else none
  | _ => none
theorem pact_New_ok (N : Nat) {R : Type} : GOk (X0 gl0) 14 (pact_New_g N (R := R)) := by
  intro xs A Kr r hr
  unfold pact_New_g at hr
  split at hr
  · simp only [Option.ite_none_right_eq_some] at hr
    obtain ⟨hty, hr⟩ := hr
    subst hty
    rw [← pact_New_run] at hr
    obtain ⟨v, L, h1, h2⟩ := exF_ok (ok0 gl0) (mo gl0) ((pact_New_ov N).ov_ok _) (extX_ok gl0) _ _ _ _ _ _ hr
    exact ⟨v, L, h1.mono (leA_none fun _ => rfl), h2⟩
  · cases hr
end Go.Proofs.YtjakbdogmomfeaaDoor


namespace Go.Proofs.YtjakbdogmomfeaaDoor
open Go Go.E
set_option maxRecDepth 100000
set_option maxHeartbeats 4000000
set_option linter.unusedVariables false
noncomputable def slices_Equal_api_Cond_api_Cond_hs : Hints := [([1, 0, 1, 1], ⟨[], [], [], [], [], []⟩),
    ([4, 1, 0, 1, 1], ⟨[0, 1, 12], [(13, .d (.int .i64))], [], [], [], []⟩),
    ([9], ⟨[], [(4, .d .bool)], [], [], [], []⟩)]
noncomputable def slices_Equal_api_Cond_api_Cond_ov (N : Nat) : OvS (X0 gl0) where
  g R := []
  ok := fun R => fun _ h => nomatch h
noncomputable def slices_Equal_api_Cond_api_Cond_l1 {R : Type} (N : Nat) (k1 : KD R) (k2 : KD R) : KD R → List C → List Es → Option R := (fun k3 d1 m1 => (bif decide (C.toInt (dk d1 3) < C.toInt (dk d1 2)) then (if 0 ≤ C.toInt (dk d1 3) ∧ C.toInt (dk d1 3) < (↑(List.length (C.elems (dk d1 0))) : Int) then (if 0 ≤ C.toInt (dk d1 3) ∧ C.toInt (dk d1 3) < (↑(List.length (C.elems (dk d1 1))) : Int) then (bif !C.beq (List.getD (C.elems (dk d1 0)) (Int.toNat (C.toInt (dk d1 3))) C.nil) (List.getD (C.elems (dk d1 1)) (Int.toNat (C.toInt (dk d1 3))) C.nil) then (k1 [C.bool false] []) else (k3 [dk d1 0, dk d1 1, dk d1 2, C.int (IntKind.wrap IntKind.i64 (C.toInt (dk d1 3) + 1))] [])) else none) else none) else (k2 [] [])))
noncomputable def slices_Equal_api_Cond_api_Cond_p0 {R : Type} (N : Nat) (a0 a1 : C) (k1 : KD R) : Option R := (bif !decide ((↑(List.length (C.elems a0)) : Int) = (↑(List.length (C.elems a1)) : Int)) then (k1 [C.bool false] []) else (jn (fun d1 m1 => (k1 [C.bool true] [])) (fun k2 => (loopK N (slices_Equal_api_Cond_api_Cond_l1 N k1 k2) [a0, a1, C.int (↑(List.length (C.elems a0)) : Int), C.int 0] []))))
noncomputable def slices_Equal_api_Cond_api_Cond_p {R : Type} (N : Nat) : C → C → KD R → Option R := lid "slices_Equal_api_Cond_api_Cond_p N" (slices_Equal_api_Cond_api_Cond_p0 N)
theorem slices_Equal_api_Cond_api_Cond_pe {R : Type} (N : Nat) (a0 a1 : C) (k : KD R) : slices_Equal_api_Cond_api_Cond_p N a0 a1 k = slices_Equal_api_Cond_api_Cond_p0 N a0 a1 k := by unfold slices_Equal_api_Cond_api_Cond_p; rw [lid_eq]
theorem slices_Equal_api_Cond_api_Cond_run {R : Type} (N : Nat) (a0 a1 : C) (K : V → List (Key × O) → Option R) : exF (X0 gl0) ((slices_Equal_api_Cond_api_Cond_ov N).ov R) extX noX (fun f => bif Nat.beq f 42 then slices_Equal_api_Cond_api_Cond_hs else []) N 400 8 42 [.d (.slice 64 tCond) a0, .d (.slice 64 tCond) a1] A0 K =
    slices_Equal_api_Cond_api_Cond_p N a0 a1 (fun d1 m1 => K (V.d Ty.bool (C.bool (C.toBool (dk d1 0)))) []) := by
  rw [slices_Equal_api_Cond_api_Cond_pe]
  exact (show _ = jn (fun d1 m1 => (K (V.d Ty.bool (C.bool (C.toBool (dk d1 0)))) [])) (slices_Equal_api_Cond_api_Cond_p0 N a0 a1) by kernel_rfl).trans (jn_eq _ _)
noncomputable def slices_Equal_api_Cond_api_Cond_g (N : Nat) {R : Type} : OvG R := fun xs _ K => match xs with
  | [.d t0 a0, .d t1 a1] => if t0 = (.slice 64 tCond) ∧ t1 = (.slice 64 tCond) then slices_Equal_api_Cond_api_Cond_p N a0 a1 (fun d1 m1 => K (V.d Ty.bool (C.bool (C.toBool (dk d1 0)))) []) else none
  | _ => none
theorem slices_Equal_api_Cond_api_Cond_ok (N : Nat) {R : Type} : GOk (X0 gl0) 42 (slices_Equal_api_Cond_api_Cond_g N (R := R)) := by
  intro xs A Kr r hr
  unfold slices_Equal_api_Cond_api_Cond_g at hr
  split at hr
  · simp only [Option.ite_none_right_eq_some] at hr
    obtain ⟨hty, hr⟩ := hr
    obtain ⟨rfl, rfl⟩ := hty
    rw [← slices_Equal_api_Cond_api_Cond_run] at hr
    obtain ⟨v, L, h1, h2⟩ := exF_ok (ok0 gl0) (mo gl0) ((slices_Equal_api_Cond_api_Cond_ov N).ov_ok _) (extX_ok gl0) _ _ _ _ _ _ hr
    exact ⟨v, L, h1.mono (leA_none fun _ => rfl), h2⟩
  · cases hr
end Go.Proofs.YtjakbdogmomfeaaDoor


namespace Go.Proofs.YtjakbdogmomfeaaDoor
open Go Go.E
set_option maxRecDepth 100000
set_option maxHeartbeats 4000000
set_option linter.unusedVariables false
noncomputable def pact_Same_hs : Hints := [([0, 1], ⟨[], [(4, .d .bool)], [], [], [], []⟩),
    ([9], ⟨[], [(4, .d .bool)], [], [], [], []⟩)]
noncomputable def pact_Same_ov (N : Nat) : OvS (X0 gl0) where
  g R := [(42, slices_Equal_api_Cond_api_Cond_g N)]
  ok := fun R => List.forall_mem_cons.2 ⟨slices_Equal_api_Cond_api_Cond_ok N, fun _ h => nomatch h⟩
noncomputable def pact_Same_p0 {R : Type} (N : Nat) (a0 a1 : C) (k1 : KD R) : Option R := (jn (fun d1 m1 => (k1 [C.bool (C.toBool (dk d1 0))] [])) (fun k2 => (bif decide (C.toInt (C.get a0 0) = C.toInt (C.get a1 0)) then (bif decide (C.toInt (C.get a0 1) = C.toInt (C.get a1 1)) then (bif C.beq (C.get a0 2) (C.get a1 2) then (bif C.beq (C.get a0 3) (C.get a1 3) then (slices_Equal_api_Cond_api_Cond_p N (C.get a0 4) (C.get a1 4) (fun d1 m1 => (k2 [C.bool (C.toBool (dk d1 0))] []))) else (k2 [C.bool false] [])) else (k2 [C.bool false] [])) else (k2 [C.bool false] [])) else (k2 [C.bool false] []))))
noncomputable def pact_Same_p {R : Type} (N : Nat) : C → C → KD R → Option R := lid "pact_Same_p N" (pact_Same_p0 N)
theorem pact_Same_pe {R : Type} (N : Nat) (a0 a1 : C) (k : KD R) : pact_Same_p N a0 a1 k = pact_Same_p0 N a0 a1 k := by unfold pact_Same_p; rw [lid_eq]
theorem pact_Same_run {R : Type} (N : Nat) (a0 a1 : C) (K : V → List (Key × O) → Option R) : exF (X0 gl0) ((pact_Same_ov N).ov R) extX (fun f r => bif Nat.beq f 33 then (bif Nat.beq r 0 then [(2, 5), (3, 5)] else []) else []) (fun f => bif Nat.beq f 33 then pact_Same_hs else []) N 400 8 33 [.d tState a0, .d tState a1] A0 K =
    pact_Same_p N a0 a1 (fun d1 m1 => K (V.d Ty.bool (C.bool (C.toBool (dk d1 0)))) []) := by
  rw [pact_Same_pe]
  exact (show _ = jn (fun d1 m1 => (K (V.d Ty.bool (C.bool (C.toBool (dk d1 0)))) [])) (pact_Same_p0 N a0 a1) by kernel_rfl).trans (jn_eq _ _)
noncomputable def pact_Same_g (N : Nat) {R : Type} : OvG R := fun xs _ K => match xs with
  | [.d t0 a0, .d t1 a1] => if t0 = tState ∧ t1 = tState then pact_Same_p N a0 a1 (fun d1 m1 => K (V.d Ty.bool (C.bool (C.toBool (dk d1 0)))) []) else none
  | _ => none
theorem pact_Same_ok (N : Nat) {R : Type} : GOk (X0 gl0) 33 (pact_Same_g N (R := R)) := by
  intro xs A Kr r hr
  unfold pact_Same_g at hr
  split at hr
  · simp only [Option.ite_none_right_eq_some] at hr
    obtain ⟨hty, hr⟩ := hr
    obtain ⟨rfl, rfl⟩ := hty
    rw [← pact_Same_run] at hr
    obtain ⟨v, L, h1, h2⟩ := exF_ok (ok0 gl0) (mo gl0) ((pact_Same_ov N).ov_ok _) (extX_ok gl0) _ _ _ _ _ _ hr
    exact ⟨v, L, h1.mono (leA_none fun _ => rfl), h2⟩
  · cases hr
end Go.Proofs.YtjakbdogmomfeaaDoor


namespace Go.Proofs.YtjakbdogmomfeaaDoor
open Go Go.E
set_option maxRecDepth 100000
set_option maxHeartbeats 4000000
set_option linter.unusedVariables false
noncomputable def lamp_bit_hs : Hints := [([9], ⟨[], [(4, .d (.int .u8))], [], [], [], []⟩)]
noncomputable def lamp_bit_ov (N : Nat) : OvS (X0 gl0) where
  g R := []
  ok := fun R => fun _ h => nomatch h
noncomputable def lamp_bit_p0 {R : Type} (N : Nat) (a0 a1 : C) (k1 : KD R) : Option R := (if 0 ≤ IntKind.wrap IntKind.i64 (Int.tdiv (C.toInt a1) 8) ∧ IntKind.wrap IntKind.i64 (Int.tdiv (C.toInt a1) 8) < 32 then (if 0 ≤ IntKind.wrap IntKind.i64 (7 - Int.tmod (C.toInt a1) 8) then (k1 [C.int (bitsC BinOp.and IntKind.u8 (Int.fdiv (C.toInt (C.get a0 (Int.toNat (IntKind.wrap IntKind.i64 (Int.tdiv (C.toInt a1) 8))))) (2 ^ min (Int.toNat (IntKind.wrap IntKind.i64 (7 - Int.tmod (C.toInt a1) 8))) 8)) 1)] []) else none) else none)
noncomputable def lamp_bit_p {R : Type} (N : Nat) : C → C → KD R → Option R := lid "lamp_bit_p N" (lamp_bit_p0 N)
theorem lamp_bit_pe {R : Type} (N : Nat) (a0 a1 : C) (k : KD R) : lamp_bit_p N a0 a1 k = lamp_bit_p0 N a0 a1 k := by unfold lamp_bit_p; rw [lid_eq]
theorem lamp_bit_run {R : Type} (N : Nat) (a0 a1 : C) (K : V → List (Key × O) → Option R) : exF (X0 gl0) ((lamp_bit_ov N).ov R) extX (fun f r => bif Nat.beq f 60 then (bif Nat.beq r 0 then [(2, 5)] else []) else []) (fun f => bif Nat.beq f 60 then lamp_bit_hs else []) N 400 8 60 [.d (.arr 32 (.int .u8)) a0, .d (.int .i64) a1] A0 K =
    lamp_bit_p N a0 a1 (fun d1 m1 => K (V.d (Ty.int IntKind.u8) (dk d1 0)) []) := by
  rw [lamp_bit_pe]
  exact (show _ = jn (fun d1 m1 => (K (V.d (Ty.int IntKind.u8) (dk d1 0)) [])) (lamp_bit_p0 N a0 a1) by kernel_rfl).trans (jn_eq _ _)
noncomputable def lamp_bit_g (N : Nat) {R : Type} : OvG R := fun xs _ K => match xs with
  | [.d t0 a0, .d t1 a1] => if t0 = (.arr 32 (.int .u8)) ∧ t1 = (.int .i64) then lamp_bit_p N a0 a1 (fun d1 m1 => K (V.d (Ty.int IntKind.u8) (dk d1 0)) []) else none
  | _ => none
theorem lamp_bit_ok (N : Nat) {R : Type} : GOk (X0 gl0) 60 (lamp_bit_g N (R := R)) := by
  intro xs A Kr r hr
  unfold lamp_bit_g at hr
  split at hr
  · simp only [Option.ite_none_right_eq_some] at hr
    obtain ⟨hty, hr⟩ := hr
    obtain ⟨rfl, rfl⟩ := hty
    rw [← lamp_bit_run] at hr
    obtain ⟨v, L, h1, h2⟩ := exF_ok (ok0 gl0) (mo gl0) ((lamp_bit_ov N).ov_ok _) (extX_ok gl0) _ _ _ _ _ _ hr
    exact ⟨v, L, h1.mono (leA_none fun _ => rfl), h2⟩
  · cases hr
end Go.Proofs.YtjakbdogmomfeaaDoor


namespace Go.Proofs.YtjakbdogmomfeaaDoor
open Go Go.E
set_option maxRecDepth 100000
set_option maxHeartbeats 4000000
set_option linter.unusedVariables false
noncomputable def mill_New_hs : Hints := [([9], ⟨[], [(0, .as (.ptr (.l 1) [] tMill))], [], [(.l 1, .box (.d tMill))], [], []⟩)]
noncomputable def mill_New_ov (N : Nat) : OvS (X0 gl0) where
  g R := []
  ok := fun R => fun _ h => nomatch h
noncomputable def mill_New_p0 {R : Type} (N : Nat) (k1 : KD R) : Option R := (k1 [C.set (C.agg [C.agg (List.replicate 8 (C.int 0)), C.agg (List.replicate 64 (C.int 0)), C.int 0]) 0 (C.set (C.set (C.set (C.set (C.set (C.set (C.set (C.set (zeroC (Ty.arr 8 (Ty.int IntKind.u32))) 0 (C.int 1779033703)) 1 (C.int 3144134277)) 2 (C.int 1013904242)) 3 (C.int 2773480762)) 4 (C.int 1359893119)) 5 (C.int 2600822924)) 6 (C.int 528734635)) 7 (C.int 1541459225))] [])
noncomputable def mill_New_p {R : Type} (N : Nat) : KD R → Option R := lid "mill_New_p N" (mill_New_p0 N)
theorem mill_New_pe {R : Type} (N : Nat)  (k : KD R) : mill_New_p N  k = mill_New_p0 N  k := by unfold mill_New_p; rw [lid_eq]
theorem mill_New_run {R : Type} (N : Nat)  (K : V → List (Key × O) → Option R) : exF (X0 gl0) ((mill_New_ov N).ov R) extX noX (fun f => bif Nat.beq f 63 then mill_New_hs else []) N 400 8 63 [] A0 K =
    mill_New_p N  (fun d1 m1 => K (V.ptr (Key.l 1) [] tMill) [(Key.l 1, O.box (V.d tMill (dk d1 0)))]) := by
  rw [mill_New_pe]
  exact (show _ = jn (fun d1 m1 => (K (V.ptr (Key.l 1) [] tMill) [(Key.l 1, O.box (V.d tMill (dk d1 0)))])) (mill_New_p0 N ) by kernel_rfl).trans (jn_eq _ _)
noncomputable def mill_New_g (N : Nat) {R : Type} : OvG R := fun xs _ K => match xs with
  | [] => mill_New_p N  (fun d1 m1 => K (V.ptr (Key.l 1) [] tMill) [(Key.l 1, O.box (V.d tMill (dk d1 0)))])
  | _ => none
theorem mill_New_ok (N : Nat) {R : Type} : GOk (X0 gl0) 63 (mill_New_g N (R := R)) := by
  intro xs A Kr r hr
  unfold mill_New_g at hr
  split at hr
  · skip
    rw [← mill_New_run] at hr
    obtain ⟨v, L, h1, h2⟩ := exF_ok (ok0 gl0) (mo gl0) ((mill_New_ov N).ov_ok _) (extX_ok gl0) _ _ _ _ _ _ hr
    exact ⟨v, L, h1.mono (leA_none fun _ => rfl), h2⟩
  · cases hr
end Go.Proofs.YtjakbdogmomfeaaDoor


namespace Go.Proofs.YtjakbdogmomfeaaDoor
open Go Go.E
set_option maxRecDepth 100000
set_option maxHeartbeats 4000000
set_option linter.unusedVariables false
noncomputable def mill_word_hs : Hints := [([1, 0, 1, 1], ⟨[], [(3, .d (.int .u32))], [], [], [], []⟩),
    ([4, 1, 0, 1, 1], ⟨[7, 8], [(3, .d (.int .u32)), (9, .d (.int .i64))], [], [], [], []⟩),
    ([9], ⟨[], [(2, .d (.int .u32))], [], [], [], []⟩)]
noncomputable def mill_word_ov (N : Nat) : OvS (X0 gl0) where
  g R := []
  ok := fun R => fun _ h => nomatch h
noncomputable def mill_word_l1 {R : Type} (N : Nat) (k2 : KD R) : KD R → List C → List Es → Option R := (fun k3 d1 m1 => (bif decide (C.toInt (dk d1 3) < C.toInt (dk d1 1)) then (if 0 ≤ C.toInt (dk d1 3) ∧ C.toInt (dk d1 3) < (↑(List.length (C.elems (dk d1 0))) : Int) then (k3 [dk d1 0, dk d1 1, C.int (bitsC BinOp.or IntKind.u32 (IntKind.wrap IntKind.u32 (C.toInt (dk d1 2) * 2 ^ min (Int.toNat 8) 32)) (IntKind.wrap IntKind.u32 (C.toInt (List.getD (C.elems (dk d1 0)) (Int.toNat (C.toInt (dk d1 3))) C.nil)))), C.int (IntKind.wrap IntKind.i64 (C.toInt (dk d1 3) + 1))] []) else none) else (k2 [dk d1 2] [])))
noncomputable def mill_word_p0 {R : Type} (N : Nat) (a0 : C) (k1 : KD R) : Option R := (if Int.ofNat 0 ≤ 0 ∧ Int.ofNat 0 ≤ 4 ∧ 4 ≤ (↑(List.length (C.elems a0)) : Int) then (jn (fun d1 m1 => (k1 [dk d1 0] [])) (fun k2 => (loopK N (mill_word_l1 N k2) [C.slice (cut (C.elems a0) 0 4), C.int (↑(List.length (cut (C.elems a0) 0 4)) : Int), C.int 0, C.int 0] []))) else none)
noncomputable def mill_word_p {R : Type} (N : Nat) : C → KD R → Option R := lid "mill_word_p N" (mill_word_p0 N)
theorem mill_word_pe {R : Type} (N : Nat) (a0 : C) (k : KD R) : mill_word_p N a0 k = mill_word_p0 N a0 k := by unfold mill_word_p; rw [lid_eq]
theorem mill_word_run {R : Type} (N : Nat) (a0 : C) (K : V → List (Key × O) → Option R) : exF (X0 gl0) ((mill_word_ov N).ov R) extX noX (fun f => bif Nat.beq f 74 then mill_word_hs else []) N 400 8 74 [.d (.slice 1 (.int .u8)) a0] A0 K =
    mill_word_p N a0 (fun d1 m1 => K (V.d (Ty.int IntKind.u32) (dk d1 0)) []) := by
  rw [mill_word_pe]
  exact (show _ = jn (fun d1 m1 => (K (V.d (Ty.int IntKind.u32) (dk d1 0)) [])) (mill_word_p0 N a0) by kernel_rfl).trans (jn_eq _ _)
noncomputable def mill_word_g (N : Nat) {R : Type} : OvG R := fun xs _ K => match xs with
  | [.d t0 a0] => if t0 = (.slice 1 (.int .u8)) then mill_word_p N a0 (fun d1 m1 => K (V.d (Ty.int IntKind.u32) (dk d1 0)) []) else none
  | _ => none
theorem mill_word_ok (N : Nat) {R : Type} : GOk (X0 gl0) 74 (mill_word_g N (R := R)) := by
  intro xs A Kr r hr
  unfold mill_word_g at hr
  split at hr
  · simp only [Option.ite_none_right_eq_some] at hr
    obtain ⟨hty, hr⟩ := hr
    subst hty
    rw [← mill_word_run] at hr
    obtain ⟨v, L, h1, h2⟩ := exF_ok (ok0 gl0) (mo gl0) ((mill_word_ov N).ov_ok _) (extX_ok gl0) _ _ _ _ _ _ hr
    exact ⟨v, L, h1.mono (leA_none fun _ => rfl), h2⟩
  · cases hr
end Go.Proofs.YtjakbdogmomfeaaDoor


namespace Go.Proofs.YtjakbdogmomfeaaDoor
open Go Go.E
set_option maxRecDepth 100000
set_option maxHeartbeats 4000000
set_option linter.unusedVariables false
noncomputable def mill_stirs_hs : Hints := [([9], ⟨[], [(0, .as (.ptr (.l 0) [] (.arr 64 (.int .u32))))], [], [(.l 0, .box (.d (.arr 64 (.int .u32))))], [], []⟩)]
noncomputable def mill_stirs_ov (N : Nat) : OvS (X0 gl0) where
  g R := []
  ok := fun R => fun _ h => nomatch h
noncomputable def mill_stirs_p0 {R : Type} (N : Nat) (k1 : KD R) : Option R := (k1 [C.set (C.set (C.set (C.set (C.set (C.set (C.set (C.set (C.set (C.set (C.set (C.set (C.set (C.set (C.set (C.set (C.set (C.set (C.set (C.set (C.set (C.set (C.set (C.set (C.set (C.set (C.set (C.set (C.set (C.set (C.set (C.set (C.set (C.set (C.set (C.set (C.set (C.set (C.set (C.set (C.set (C.set (C.set (C.set (C.set (C.set (C.set (C.set (C.set (C.set (C.set (C.set (C.set (C.set (C.set (C.set (C.set (C.set (C.set (C.set (C.set (C.set (C.set (C.set (zeroC (Ty.arr 64 (Ty.int IntKind.u32))) 0 (C.int 1116352408)) 1 (C.int 1899447441)) 2 (C.int 3049323471)) 3 (C.int 3921009573)) 4 (C.int 961987163)) 5 (C.int 1508970993)) 6 (C.int 2453635748)) 7 (C.int 2870763221)) 8 (C.int 3624381080)) 9 (C.int 310598401)) 10 (C.int 607225278)) 11 (C.int 1426881987)) 12 (C.int 1925078388)) 13 (C.int 2162078206)) 14 (C.int 2614888103)) 15 (C.int 3248222580)) 16 (C.int 3835390401)) 17 (C.int 4022224774)) 18 (C.int 264347078)) 19 (C.int 604807628)) 20 (C.int 770255983)) 21 (C.int 1249150122)) 22 (C.int 1555081692)) 23 (C.int 1996064986)) 24 (C.int 2554220882)) 25 (C.int 2821834349)) 26 (C.int 2952996808)) 27 (C.int 3210313671)) 28 (C.int 3336571891)) 29 (C.int 3584528711)) 30 (C.int 113926993)) 31 (C.int 338241895)) 32 (C.int 666307205)) 33 (C.int 773529912)) 34 (C.int 1294757372)) 35 (C.int 1396182291)) 36 (C.int 1695183700)) 37 (C.int 1986661051)) 38 (C.int 2177026350)) 39 (C.int 2456956037)) 40 (C.int 2730485921)) 41 (C.int 2820302411)) 42 (C.int 3259730800)) 43 (C.int 3345764771)) 44 (C.int 3516065817)) 45 (C.int 3600352804)) 46 (C.int 4094571909)) 47 (C.int 275423344)) 48 (C.int 430227734)) 49 (C.int 506948616)) 50 (C.int 659060556)) 51 (C.int 883997877)) 52 (C.int 958139571)) 53 (C.int 1322822218)) 54 (C.int 1537002063)) 55 (C.int 1747873779)) 56 (C.int 1955562222)) 57 (C.int 2024104815)) 58 (C.int 2227730452)) 59 (C.int 2361852424)) 60 (C.int 2428436474)) 61 (C.int 2756734187)) 62 (C.int 3204031479)) 63 (C.int 3329325298)] [])
noncomputable def mill_stirs_p {R : Type} (N : Nat) : KD R → Option R := lid "mill_stirs_p N" (mill_stirs_p0 N)
theorem mill_stirs_pe {R : Type} (N : Nat)  (k : KD R) : mill_stirs_p N  k = mill_stirs_p0 N  k := by unfold mill_stirs_p; rw [lid_eq]
theorem mill_stirs_run {R : Type} (N : Nat)  (K : V → List (Key × O) → Option R) : exF (X0 gl0) ((mill_stirs_ov N).ov R) extX noX (fun f => bif Nat.beq f 75 then mill_stirs_hs else []) N 400 8 75 [] A0 K =
    mill_stirs_p N  (fun d1 m1 => K (V.d (Ty.arr 64 (Ty.int IntKind.u32)) (dk d1 0)) []) := by
  rw [mill_stirs_pe]
  exact (show _ = jn (fun d1 m1 => (K (V.d (Ty.arr 64 (Ty.int IntKind.u32)) (dk d1 0)) [])) (mill_stirs_p0 N ) by kernel_rfl).trans (jn_eq _ _)
noncomputable def mill_stirs_g (N : Nat) {R : Type} : OvG R := fun xs _ K => match xs with
  | [] => mill_stirs_p N  (fun d1 m1 => K (V.d (Ty.arr 64 (Ty.int IntKind.u32)) (dk d1 0)) [])
  | _ => none
theorem mill_stirs_ok (N : Nat) {R : Type} : GOk (X0 gl0) 75 (mill_stirs_g N (R := R)) := by
  intro xs A Kr r hr
  unfold mill_stirs_g at hr
  split at hr
  · skip
    rw [← mill_stirs_run] at hr
    obtain ⟨v, L, h1, h2⟩ := exF_ok (ok0 gl0) (mo gl0) ((mill_stirs_ov N).ov_ok _) (extX_ok gl0) _ _ _ _ _ _ hr
    exact ⟨v, L, h1.mono (leA_none fun _ => rfl), h2⟩
  · cases hr
end Go.Proofs.YtjakbdogmomfeaaDoor


namespace Go.Proofs.YtjakbdogmomfeaaDoor
open Go Go.E
set_option maxRecDepth 100000
set_option maxHeartbeats 4000000
set_option linter.unusedVariables false
noncomputable def math_bits_RotateLeft32_hs : Hints := [([9], ⟨[], [(4, .d (.int .u32))], [], [], [], []⟩)]
noncomputable def math_bits_RotateLeft32_ov (N : Nat) : OvS (X0 gl0) where
  g R := []
  ok := fun R => fun _ h => nomatch h
noncomputable def math_bits_RotateLeft32_p0 {R : Type} (N : Nat) (a0 a1 : C) (k1 : KD R) : Option R := (if 0 ≤ IntKind.wrap IntKind.u64 (32 - bitsC BinOp.and IntKind.u64 (IntKind.wrap IntKind.u64 (C.toInt a1)) 31) then (k1 [C.int (bitsC BinOp.or IntKind.u32 (IntKind.wrap IntKind.u32 (C.toInt a0 * 2 ^ min (Int.toNat (bitsC BinOp.and IntKind.u64 (IntKind.wrap IntKind.u64 (C.toInt a1)) 31)) 32)) (Int.fdiv (C.toInt a0) (2 ^ min (Int.toNat (IntKind.wrap IntKind.u64 (32 - bitsC BinOp.and IntKind.u64 (IntKind.wrap IntKind.u64 (C.toInt a1)) 31))) 32)))] []) else none)
noncomputable def math_bits_RotateLeft32_p {R : Type} (N : Nat) : C → C → KD R → Option R := lid "math_bits_RotateLeft32_p N" (math_bits_RotateLeft32_p0 N)
theorem math_bits_RotateLeft32_pe {R : Type} (N : Nat) (a0 a1 : C) (k : KD R) : math_bits_RotateLeft32_p N a0 a1 k = math_bits_RotateLeft32_p0 N a0 a1 k := by unfold math_bits_RotateLeft32_p; rw [lid_eq]
theorem math_bits_RotateLeft32_run {R : Type} (N : Nat) (a0 a1 : C) (K : V → List (Key × O) → Option R) : exF (X0 gl0) ((math_bits_RotateLeft32_ov N).ov R) extX noX (fun f => bif Nat.beq f 77 then math_bits_RotateLeft32_hs else []) N 400 8 77 [.d (.int .u32) a0, .d (.int .i64) a1] A0 K =
    math_bits_RotateLeft32_p N a0 a1 (fun d1 m1 => K (V.d (Ty.int IntKind.u32) (dk d1 0)) []) := by
  rw [math_bits_RotateLeft32_pe]
  exact (show _ = jn (fun d1 m1 => (K (V.d (Ty.int IntKind.u32) (dk d1 0)) [])) (math_bits_RotateLeft32_p0 N a0 a1) by kernel_rfl).trans (jn_eq _ _)
noncomputable def math_bits_RotateLeft32_g (N : Nat) {R : Type} : OvG R := fun xs _ K => match xs with
  | [.d t0 a0, .d t1 a1] => if t0 = (.int .u32) ∧ t1 = (.int .i64) then math_bits_RotateLeft32_p N a0 a1 (fun d1 m1 => K (V.d (Ty.int IntKind.u32) (dk d1 0)) []) else none
  | _ => none
theorem math_bits_RotateLeft32_ok (N : Nat) {R : Type} : GOk (X0 gl0) 77 (math_bits_RotateLeft32_g N (R := R)) := by
  intro xs A Kr r hr
  unfold math_bits_RotateLeft32_g at hr
  split at hr
  · simp only [Option.ite_none_right_eq_some] at hr
    obtain ⟨hty, hr⟩ := hr
    obtain ⟨rfl, rfl⟩ := hty
    rw [← math_bits_RotateLeft32_run] at hr
    obtain ⟨v, L, h1, h2⟩ := exF_ok (ok0 gl0) (mo gl0) ((math_bits_RotateLeft32_ov N).ov_ok _) (extX_ok gl0) _ _ _ _ _ _ hr
    exact ⟨v, L, h1.mono (leA_none fun _ => rfl), h2⟩
  · cases hr
end Go.Proofs.YtjakbdogmomfeaaDoor


namespace Go.Proofs.YtjakbdogmomfeaaDoor
open Go Go.E
set_option maxRecDepth 100000
set_option maxHeartbeats 4000000
set_option linter.unusedVariables false
noncomputable def mill_three_hs : Hints := [([1, 0, 1, 1], ⟨[0, 1, 2], [(11, .d (.int .u32))], [], [], [], []⟩),
    ([9], ⟨[], [(10, .d (.int .u32))], [], [], [], []⟩)]
noncomputable def mill_three_ov (N : Nat) : OvS (X0 gl0) where
  g R := [(77, math_bits_RotateLeft32_g N)]
  ok := fun R => List.forall_mem_cons.2 ⟨math_bits_RotateLeft32_ok N, fun _ h => nomatch h⟩
noncomputable def mill_three_p0 {R : Type} (N : Nat) (a0 a1 a2 a3 a4 : C) (k1 : KD R) : Option R := (math_bits_RotateLeft32_p N a0 (C.int (IntKind.wrap IntKind.i64 (0 - C.toInt a3))) (fun d1 m1 => (jn (fun d2 m2 => (math_bits_RotateLeft32_p N (dk d2 0) (C.int (IntKind.wrap IntKind.i64 (0 - C.toInt (dk d2 1)))) (fun d3 m3 => (math_bits_RotateLeft32_p N (dk d2 0) (C.int (IntKind.wrap IntKind.i64 (0 - C.toInt (dk d2 2)))) (fun d4 m4 => (k1 [C.int (bitsC BinOp.xor IntKind.u32 (bitsC BinOp.xor IntKind.u32 (C.toInt (dk d3 0)) (C.toInt (dk d4 0))) (C.toInt (dk d2 3)))] [])))))) (fun k2 => (bif C.toBool a4 then (if 0 ≤ C.toInt a3 then (k2 [a0, a1, a2, C.int (Int.fdiv (C.toInt a0) (2 ^ min (Int.toNat (C.toInt a3)) 32))] []) else none) else (k2 [a0, a1, a2, dk d1 0] []))))))
noncomputable def mill_three_p {R : Type} (N : Nat) : C → C → C → C → C → KD R → Option R := lid "mill_three_p N" (mill_three_p0 N)
theorem mill_three_pe {R : Type} (N : Nat) (a0 a1 a2 a3 a4 : C) (k : KD R) : mill_three_p N a0 a1 a2 a3 a4 k = mill_three_p0 N a0 a1 a2 a3 a4 k := by unfold mill_three_p; rw [lid_eq]
theorem mill_three_run {R : Type} (N : Nat) (a0 a1 a2 a3 a4 : C) (K : V → List (Key × O) → Option R) : exF (X0 gl0) ((mill_three_ov N).ov R) extX noX (fun f => bif Nat.beq f 76 then mill_three_hs else []) N 400 8 76 [.d (.int .u32) a0, .d (.int .i64) a1, .d (.int .i64) a2, .d (.int .i64) a3, .d .bool a4] A0 K =
    mill_three_p N a0 a1 a2 a3 a4 (fun d1 m1 => K (V.d (Ty.int IntKind.u32) (dk d1 0)) []) := by
  rw [mill_three_pe]
  exact (show _ = jn (fun d1 m1 => (K (V.d (Ty.int IntKind.u32) (dk d1 0)) [])) (mill_three_p0 N a0 a1 a2 a3 a4) by kernel_rfl).trans (jn_eq _ _)
noncomputable def mill_three_g (N : Nat) {R : Type} : OvG R := fun xs _ K => match xs with
  | [.d t0 a0, .d t1 a1, .d t2 a2, .d t3 a3, .d t4 a4] => if t0 = (.int .u32) ∧ t1 = (.int .i64) ∧ t2 = (.int .i64) ∧ t3 = (.int .i64) ∧ t4 = .bool then mill_three_p N a0 a1 a2 a3 a4 (fun d1 m1 => K (V.d (Ty.int IntKind.u32) (dk d1 0)) []) else none
  | _ => none
theorem mill_three_ok (N : Nat) {R : Type} : GOk (X0 gl0) 76 (mill_three_g N (R := R)) := by
  intro xs A Kr r hr
  unfold mill_three_g at hr
  split at hr
  · simp only [Option.ite_none_right_eq_some] at hr
    obtain ⟨hty, hr⟩ := hr
    obtain ⟨rfl, rfl, rfl, rfl, rfl⟩ := hty
    rw [← mill_three_run] at hr
    obtain ⟨v, L, h1, h2⟩ := exF_ok (ok0 gl0) (mo gl0) ((mill_three_ov N).ov_ok _) (extX_ok gl0) _ _ _ _ _ _ hr
    exact ⟨v, L, h1.mono (leA_none fun _ => rfl), h2⟩
  · cases hr
end Go.Proofs.YtjakbdogmomfeaaDoor


namespace Go.Proofs.YtjakbdogmomfeaaDoor
open Go Go.E
set_option maxRecDepth 100000
set_option maxHeartbeats 4000000
set_option linter.unusedVariables false
def mill_Mill_grind_as : List Sh := [.as (.ptr (.g (.l 1)) [] tMill)]
def mill_Mill_grind_os : List (Key × OSh) := [(.l 1, .box (.d tMill))]
noncomputable def mill_Mill_grind_hs : Hints := [([1, 0, 1], ⟨[0, 2], [], [.g (.l 1)], [], [], []⟩),
    ([4, 1, 0, 1], ⟨[0, 2], [(12, .d (.int .i64))], [.g (.l 1)], [], [], []⟩),
    ([1, 0, 1, 1, 1], ⟨[0, 4], [], [.g (.l 1)], [], [], []⟩),
    ([4, 1, 0, 1, 1, 1], ⟨[0, 2, 4, 29], [(30, .d (.int .i64))], [.g (.l 1)], [], [], []⟩),
    ([1, 0, 1, 1, 4, 0, 1, 1, 5, 4, 1, 0, 1, 1, 1], ⟨[0, 2, 4, 6, 7, 29, 30], [], [.g (.l 1)], [], [], []⟩),
    ([1, 1, 1, 1, 1], ⟨[0], [], [.g (.l 1)], [], [], []⟩),
    ([4, 1, 1, 1, 1, 1], ⟨[0, 4], [(126, .d (.int .i64))], [.g (.l 1)], [], [], []⟩),
    ([9], ⟨[], [], [.g (.l 1)], [], [], []⟩)]
noncomputable def mill_Mill_grind_ov (N : Nat) : OvS (X0 gl0) where
  g R := [(74, mill_word_g N), (75, mill_stirs_g N), (76, mill_three_g N)]
  ok := fun R => List.forall_mem_cons.2 ⟨mill_word_ok N, List.forall_mem_cons.2 ⟨mill_stirs_ok N, List.forall_mem_cons.2 ⟨mill_three_ok N, fun _ h => nomatch h⟩⟩⟩
noncomputable def mill_Mill_grind_l1 {R : Type} (N : Nat) (k2 : KD R) : KD R → List C → List Es → Option R := (fun k3 d4 m4 => (bif decide (C.toInt (dk d4 0) < 8) then (if 0 ≤ C.toInt (dk d4 0) ∧ C.toInt (dk d4 0) < 8 then (if 0 ≤ C.toInt (dk d4 0) ∧ C.toInt (dk d4 0) < 8 then (if 0 ≤ C.toInt (dk d4 0) ∧ C.toInt (dk d4 0) < 8 then (k3 [C.int (IntKind.wrap IntKind.i64 (C.toInt (dk d4 0) + 1)), C.set (dk d4 1) 0 (C.set (C.get (dk d4 1) 0) (Int.toNat (C.toInt (dk d4 0))) (C.int (IntKind.wrap IntKind.u32 (C.toInt (C.get (C.get (dk d4 1) 0) (Int.toNat (C.toInt (dk d4 0)))) + C.toInt (C.get (dk d4 2) (Int.toNat (C.toInt (dk d4 0)))))))), dk d4 2] []) else none) else none) else none) else (k2 [dk d4 1] [])))
noncomputable def mill_Mill_grind_l2 {R : Type} (N : Nat) (k2 : KD R) : KD R → List C → List Es → Option R := (fun k3 d3 m3 => (bif decide (C.toInt (dk d3 1) < 64) then (if 0 ≤ C.toInt (dk d3 1) ∧ C.toInt (dk d3 1) < 64 then (jn (fun d4 m4 => (mill_three_p N (C.get (dk d4 6) (Int.toNat 4)) (C.int 6) (C.int 11) (C.int 25) (C.bool false) (fun d5 m5 => (if 0 ≤ C.toInt (dk d4 1) ∧ C.toInt (dk d4 1) < 16 then (mill_three_p N (C.get (dk d4 6) (Int.toNat 0)) (C.int 2) (C.int 13) (C.int 22) (C.bool false) (fun d6 m6 => (k3 [dk d4 2, C.int (IntKind.wrap IntKind.i64 (C.toInt (dk d4 3) + 1)), dk d4 4, dk d4 5, C.set (C.set (C.set (C.set (C.set (C.set (C.set (C.set (zeroC (Ty.arr 8 (Ty.int IntKind.u32))) 0 (C.int (IntKind.wrap IntKind.u32 (IntKind.wrap IntKind.u32 (IntKind.wrap IntKind.u32 (IntKind.wrap IntKind.u32 (IntKind.wrap IntKind.u32 (IntKind.wrap IntKind.u32 (C.toInt (C.get (dk d4 6) (Int.toNat 7)) + C.toInt (dk d5 0)) + bitsC BinOp.xor IntKind.u32 (C.toInt (C.get (dk d4 6) (Int.toNat 6))) (bitsC BinOp.and IntKind.u32 (C.toInt (C.get (dk d4 6) (Int.toNat 4))) (bitsC BinOp.xor IntKind.u32 (C.toInt (C.get (dk d4 6) (Int.toNat 5))) (C.toInt (C.get (dk d4 6) (Int.toNat 6)))))) + C.toInt (dk d4 0)) + C.toInt (C.get (dk d4 5) (Int.toNat (C.toInt (dk d4 1))))) + C.toInt (dk d6 0)) + bitsC BinOp.or IntKind.u32 (bitsC BinOp.and IntKind.u32 (C.toInt (C.get (dk d4 6) (Int.toNat 0))) (C.toInt (C.get (dk d4 6) (Int.toNat 1)))) (bitsC BinOp.and IntKind.u32 (C.toInt (C.get (dk d4 6) (Int.toNat 2))) (bitsC BinOp.or IntKind.u32 (C.toInt (C.get (dk d4 6) (Int.toNat 0))) (C.toInt (C.get (dk d4 6) (Int.toNat 1))))))))) 1 (C.get (dk d4 6) (Int.toNat 0))) 2 (C.get (dk d4 6) (Int.toNat 1))) 3 (C.get (dk d4 6) (Int.toNat 2))) 4 (C.int (IntKind.wrap IntKind.u32 (C.toInt (C.get (dk d4 6) (Int.toNat 3)) + IntKind.wrap IntKind.u32 (IntKind.wrap IntKind.u32 (IntKind.wrap IntKind.u32 (IntKind.wrap IntKind.u32 (C.toInt (C.get (dk d4 6) (Int.toNat 7)) + C.toInt (dk d5 0)) + bitsC BinOp.xor IntKind.u32 (C.toInt (C.get (dk d4 6) (Int.toNat 6))) (bitsC BinOp.and IntKind.u32 (C.toInt (C.get (dk d4 6) (Int.toNat 4))) (bitsC BinOp.xor IntKind.u32 (C.toInt (C.get (dk d4 6) (Int.toNat 5))) (C.toInt (C.get (dk d4 6) (Int.toNat 6)))))) + C.toInt (dk d4 0)) + C.toInt (C.get (dk d4 5) (Int.toNat (C.toInt (dk d4 1))))))))) 5 (C.get (dk d4 6) (Int.toNat 4))) 6 (C.get (dk d4 6) (Int.toNat 5))) 7 (C.get (dk d4 6) (Int.toNat 6))] []))) else none)))) (fun k4 => (bif decide (16 ≤ C.toInt (dk d3 1)) then (if 0 ≤ Int.tmod (C.toInt (dk d3 1)) 16 ∧ Int.tmod (C.toInt (dk d3 1)) 16 < 16 then (if 0 ≤ Int.tmod (IntKind.wrap IntKind.i64 (C.toInt (dk d3 1) + 1)) 16 ∧ Int.tmod (IntKind.wrap IntKind.i64 (C.toInt (dk d3 1) + 1)) 16 < 16 then (mill_three_p N (C.get (dk d3 3) (Int.toNat (Int.tmod (IntKind.wrap IntKind.i64 (C.toInt (dk d3 1) + 1)) 16))) (C.int 7) (C.int 18) (C.int 3) (C.bool true) (fun d4 m4 => (if 0 ≤ Int.tmod (IntKind.wrap IntKind.i64 (C.toInt (dk d3 1) + 9)) 16 ∧ Int.tmod (IntKind.wrap IntKind.i64 (C.toInt (dk d3 1) + 9)) 16 < 16 then (if 0 ≤ Int.tmod (IntKind.wrap IntKind.i64 (C.toInt (dk d3 1) + 14)) 16 ∧ Int.tmod (IntKind.wrap IntKind.i64 (C.toInt (dk d3 1) + 14)) 16 < 16 then (mill_three_p N (C.get (dk d3 3) (Int.toNat (Int.tmod (IntKind.wrap IntKind.i64 (C.toInt (dk d3 1) + 14)) 16))) (C.int 17) (C.int 19) (C.int 10) (C.bool true) (fun d5 m5 => (if 0 ≤ Int.tmod (C.toInt (dk d3 1)) 16 ∧ Int.tmod (C.toInt (dk d3 1)) 16 < 16 then (k4 [C.get (dk d3 0) (Int.toNat (C.toInt (dk d3 1))), C.int (Int.tmod (C.toInt (dk d3 1)) 16), dk d3 0, dk d3 1, dk d3 2, C.set (dk d3 3) (Int.toNat (Int.tmod (C.toInt (dk d3 1)) 16)) (C.int (IntKind.wrap IntKind.u32 (C.toInt (C.get (dk d3 3) (Int.toNat (Int.tmod (C.toInt (dk d3 1)) 16))) + IntKind.wrap IntKind.u32 (IntKind.wrap IntKind.u32 (C.toInt (dk d4 0) + C.toInt (C.get (dk d3 3) (Int.toNat (Int.tmod (IntKind.wrap IntKind.i64 (C.toInt (dk d3 1) + 9)) 16)))) + C.toInt (dk d5 0))))), dk d3 4] []) else none))) else none) else none))) else none) else none) else (k4 [C.get (dk d3 0) (Int.toNat (C.toInt (dk d3 1))), C.int (Int.tmod (C.toInt (dk d3 1)) 16), dk d3 0, dk d3 1, dk d3 2, dk d3 3, dk d3 4] [])))) else none) else (k2 [dk d3 2, dk d3 4] [])))
noncomputable def mill_Mill_grind_l3 {R : Type} (N : Nat) (k2 : KD R) : KD R → List C → List Es → Option R := (fun k3 d1 m1 => (bif decide (C.toInt (dk d1 0) < 16) then (if 0 ≤ IntKind.wrap IntKind.i64 (4 * C.toInt (dk d1 0)) ∧ IntKind.wrap IntKind.i64 (4 * C.toInt (dk d1 0)) ≤ 64 ∧ Int.ofNat 64 ≤ 64 then none else none) else (k2 [dk d1 1, dk d1 2] [])))
noncomputable def mill_Mill_grind_p0 {R : Type} (N : Nat) (b0 : C) (k1 : KD R) : Option R := (jn (fun d1 m1 => (mill_stirs_p N (fun d2 m2 => (jn (fun d3 m3 => (jn (fun d4 m4 => (k1 [dk d4 0] [])) (fun k2 => (loopK N (mill_Mill_grind_l1 N k2) [C.int 0, dk d3 0, dk d3 1] [])))) (fun k2 => (loopK N (mill_Mill_grind_l2 N k2) [dk d2 0, C.int 0, dk d1 0, dk d1 1, C.get (dk d1 0) 0] [])))))) (fun k2 => (loopK N (mill_Mill_grind_l3 N k2) [C.int 0, b0, zeroC (Ty.arr 16 (Ty.int IntKind.u32))] [])))
noncomputable def mill_Mill_grind_p {R : Type} (N : Nat) : C → KD R → Option R := lid "mill_Mill_grind_p N" (mill_Mill_grind_p0 N)
theorem mill_Mill_grind_pe {R : Type} (N : Nat) (b0 : C) (k : KD R) : mill_Mill_grind_p N b0 k = mill_Mill_grind_p0 N b0 k := by unfold mill_Mill_grind_p; rw [lid_eq]
theorem mill_Mill_grind_run {R : Type} (N : Nat) (b0 : C) (K : V → List (Key × O) → Option R) : exF (X0 gl0) ((mill_Mill_grind_ov N).ov R) extX (fun f r => bif Nat.beq f 73 then (bif Nat.beq r 12 then [(46, 7), (58, 7)] else bif Nat.beq r 15 then [(91, 7)] else bif Nat.beq r 16 then [(104, 7)] else []) else []) (fun f => bif Nat.beq f 73 then mill_Mill_grind_hs else []) N 400 8 73 (Sh.fills mill_Mill_grind_as 0 [b0]) (lookK (locFill mill_Mill_grind_os (Sh.manys mill_Mill_grind_as) 0 [b0] [])) K =
    mill_Mill_grind_p N b0 (fun d1 m1 => K (V.tup []) [(Key.g (Key.l 1), O.box (V.d tMill (dk d1 0)))]) := by
  rw [mill_Mill_grind_pe]
  exact (show _ = jn (fun d1 m1 => (K (V.tup []) [(Key.g (Key.l 1), O.box (V.d tMill (dk d1 0)))])) (mill_Mill_grind_p0 N b0) by kernel_rfl).trans (jn_eq _ _)
noncomputable def mill_Mill_grind_g (N : Nat) {R : Type} : OvG R := ptrG mill_Mill_grind_as mill_Mill_grind_os fun ds ms K => mill_Mill_grind_p N (dk ds 0) (fun d1 m1 => K (V.tup []) [(Key.g (Key.l 1), O.box (V.d tMill (dk d1 0)))])
theorem mill_Mill_grind_ok (N : Nat) {R : Type} : GOk (X0 gl0) 73 (mill_Mill_grind_g N (R := R)) := by
  unfold mill_Mill_grind_g
  refine ptrG_ok fun ds ms K r hr => ?_
  rw [← mill_Mill_grind_run] at hr
  obtain ⟨v, L, h1, h2⟩ := exF_ok (ok0 gl0) (mo gl0) ((mill_Mill_grind_ov N).ov_ok _) (extX_ok gl0) _ _ _ _ _ _ hr
  exact ⟨v, L, h1, h2⟩
end Go.Proofs.YtjakbdogmomfeaaDoor


namespace Go.Proofs.YtjakbdogmomfeaaDoor
open Go Go.E
set_option maxRecDepth 100000
set_option maxHeartbeats 4000000
set_option linter.unusedVariables false
def mill_Mill_put_as : List Sh := [.as (.ptr (.g (.l 1)) [] tMill), .d (.slice 1 (.int .u8))]
def mill_Mill_put_os : List (Key × OSh) := [(.l 1, .box (.d tMill))]
noncomputable def mill_Mill_put_hs : Hints := [([], ⟨[0], [], [.g (.l 1)], [], [], []⟩),
    ([4], ⟨[0], [(1, .d (.slice 1 (.int .u8)))], [.g (.l 1)], [], [], []⟩),
    ([1, 1, 1, 1, 4, 1, 5, 4], ⟨[0, 1], [], [.g (.l 1)], [], [], []⟩),
    ([9], ⟨[], [], [.g (.l 1)], [], [], []⟩)]
noncomputable def mill_Mill_put_ov (N : Nat) : OvS (X0 gl0) where
  g R := [(73, mill_Mill_grind_g N)]
  ok := fun R => List.forall_mem_cons.2 ⟨mill_Mill_grind_ok N, fun _ h => nomatch h⟩
noncomputable def mill_Mill_put_l1 {R : Type} (N : Nat) (k2 : KD R) : KD R → List C → List Es → Option R := (fun k3 d1 m1 => (bif decide (0 < (↑(List.length (C.elems (dk d1 0))) : Int)) then (if 0 ≤ Int.tmod (C.toInt (C.get (dk d1 1) 2)) 64 ∧ Int.tmod (C.toInt (C.get (dk d1 1) 2)) 64 ≤ 64 ∧ Int.ofNat 64 ≤ 64 then (if 0 < Int.toNat (64 - Int.tmod (C.toInt (C.get (dk d1 1) 2)) 64) then (if 0 ≤ (↑(min (List.length (C.elems (dk d1 0))) (Int.toNat (64 - Int.tmod (C.toInt (C.get (dk d1 1) 2)) 64))) : Int) ∧ (↑(min (List.length (C.elems (dk d1 0))) (Int.toNat (64 - Int.tmod (C.toInt (C.get (dk d1 1) 2)) 64))) : Int) ≤ (↑(List.length (C.elems (dk d1 0))) : Int) ∧ (↑(List.length (C.elems (dk d1 0))) : Int) ≤ (↑(List.length (C.elems (dk d1 0))) : Int) then (jn (fun d2 m2 => (k3 [dk d2 0, dk d2 1] [])) (fun k4 => (bif decide (Int.tmod (C.toInt (C.get (C.set (C.set (dk d1 1) 1 (C.agg (copyC (C.elems (C.get (dk d1 1) 1)) (Int.toNat (Int.tmod (C.toInt (C.get (dk d1 1) 2)) 64)) (Int.toNat (64 - Int.tmod (C.toInt (C.get (dk d1 1) 2)) 64)) (C.elems (dk d1 0))))) 2 (C.int (IntKind.wrap IntKind.u64 (C.toInt (C.get (C.set (dk d1 1) 1 (C.agg (copyC (C.elems (C.get (dk d1 1) 1)) (Int.toNat (Int.tmod (C.toInt (C.get (dk d1 1) 2)) 64)) (Int.toNat (64 - Int.tmod (C.toInt (C.get (dk d1 1) 2)) 64)) (C.elems (dk d1 0))))) 2) + IntKind.wrap IntKind.u64 (↑(min (List.length (C.elems (dk d1 0))) (Int.toNat (64 - Int.tmod (C.toInt (C.get (dk d1 1) 2)) 64))) : Int))))) 2)) 64 = 0) then (mill_Mill_grind_p N (C.set (C.set (dk d1 1) 1 (C.agg (copyC (C.elems (C.get (dk d1 1) 1)) (Int.toNat (Int.tmod (C.toInt (C.get (dk d1 1) 2)) 64)) (Int.toNat (64 - Int.tmod (C.toInt (C.get (dk d1 1) 2)) 64)) (C.elems (dk d1 0))))) 2 (C.int (IntKind.wrap IntKind.u64 (C.toInt (C.get (C.set (dk d1 1) 1 (C.agg (copyC (C.elems (C.get (dk d1 1) 1)) (Int.toNat (Int.tmod (C.toInt (C.get (dk d1 1) 2)) 64)) (Int.toNat (64 - Int.tmod (C.toInt (C.get (dk d1 1) 2)) 64)) (C.elems (dk d1 0))))) 2) + IntKind.wrap IntKind.u64 (↑(min (List.length (C.elems (dk d1 0))) (Int.toNat (64 - Int.tmod (C.toInt (C.get (dk d1 1) 2)) 64))) : Int))))) (fun d2 m2 => (k4 [C.slice (cut (C.elems (dk d1 0)) (↑(min (List.length (C.elems (dk d1 0))) (Int.toNat (64 - Int.tmod (C.toInt (C.get (dk d1 1) 2)) 64))) : Int) (↑(List.length (C.elems (dk d1 0))) : Int)), dk d2 0] []))) else (k4 [C.slice (cut (C.elems (dk d1 0)) (↑(min (List.length (C.elems (dk d1 0))) (Int.toNat (64 - Int.tmod (C.toInt (C.get (dk d1 1) 2)) 64))) : Int) (↑(List.length (C.elems (dk d1 0))) : Int)), C.set (C.set (dk d1 1) 1 (C.agg (copyC (C.elems (C.get (dk d1 1) 1)) (Int.toNat (Int.tmod (C.toInt (C.get (dk d1 1) 2)) 64)) (Int.toNat (64 - Int.tmod (C.toInt (C.get (dk d1 1) 2)) 64)) (C.elems (dk d1 0))))) 2 (C.int (IntKind.wrap IntKind.u64 (C.toInt (C.get (C.set (dk d1 1) 1 (C.agg (copyC (C.elems (C.get (dk d1 1) 1)) (Int.toNat (Int.tmod (C.toInt (C.get (dk d1 1) 2)) 64)) (Int.toNat (64 - Int.tmod (C.toInt (C.get (dk d1 1) 2)) 64)) (C.elems (dk d1 0))))) 2) + IntKind.wrap IntKind.u64 (↑(min (List.length (C.elems (dk d1 0))) (Int.toNat (64 - Int.tmod (C.toInt (C.get (dk d1 1) 2)) 64))) : Int))))] [])))) else none) else none) else none) else (k2 [dk d1 1] [])))
noncomputable def mill_Mill_put_p0 {R : Type} (N : Nat) (a0 b0 : C) (k1 : KD R) : Option R := (jn (fun d1 m1 => (k1 [dk d1 0] [])) (fun k2 => (loopK N (mill_Mill_put_l1 N k2) [a0, b0] [])))
noncomputable def mill_Mill_put_p {R : Type} (N : Nat) : C → C → KD R → Option R := lid "mill_Mill_put_p N" (mill_Mill_put_p0 N)
theorem mill_Mill_put_pe {R : Type} (N : Nat) (a0 b0 : C) (k : KD R) : mill_Mill_put_p N a0 b0 k = mill_Mill_put_p0 N a0 b0 k := by unfold mill_Mill_put_p; rw [lid_eq]
theorem mill_Mill_put_run {R : Type} (N : Nat) (a0 b0 : C) (K : V → List (Key × O) → Option R) : exF (X0 gl0) ((mill_Mill_put_ov N).ov R) extX noX (fun f => bif Nat.beq f 71 then mill_Mill_put_hs else []) N 400 8 71 (Sh.fills mill_Mill_put_as 0 [a0, b0]) (lookK (locFill mill_Mill_put_os (Sh.manys mill_Mill_put_as) 0 [a0, b0] [])) K =
    mill_Mill_put_p N a0 b0 (fun d1 m1 => K (V.tup []) [(Key.g (Key.l 1), O.box (V.d tMill (dk d1 0)))]) := by
  rw [mill_Mill_put_pe]
  exact (show _ = jn (fun d1 m1 => (K (V.tup []) [(Key.g (Key.l 1), O.box (V.d tMill (dk d1 0)))])) (mill_Mill_put_p0 N a0 b0) by kernel_rfl).trans (jn_eq _ _)
noncomputable def mill_Mill_put_g (N : Nat) {R : Type} : OvG R := ptrG mill_Mill_put_as mill_Mill_put_os fun ds ms K => mill_Mill_put_p N (dk ds 0) (dk ds 1) (fun d1 m1 => K (V.tup []) [(Key.g (Key.l 1), O.box (V.d tMill (dk d1 0)))])
theorem mill_Mill_put_ok (N : Nat) {R : Type} : GOk (X0 gl0) 71 (mill_Mill_put_g N (R := R)) := by
  unfold mill_Mill_put_g
  refine ptrG_ok fun ds ms K r hr => ?_
  rw [← mill_Mill_put_run] at hr
  obtain ⟨v, L, h1, h2⟩ := exF_ok (ok0 gl0) (mo gl0) ((mill_Mill_put_ov N).ov_ok _) (extX_ok gl0) _ _ _ _ _ _ hr
  exact ⟨v, L, h1, h2⟩
end Go.Proofs.YtjakbdogmomfeaaDoor


namespace Go.Proofs.YtjakbdogmomfeaaDoor
open Go Go.E
set_option maxRecDepth 100000
set_option maxHeartbeats 4000000
set_option linter.unusedVariables false
def mill_Mill_Write_as : List Sh := [.as (.ptr (.g (.l 1)) [] tMill), .d (.slice 24 (.slice 1 (.int .u8)))]
def mill_Mill_Write_os : List (Key × OSh) := [(.l 1, .box (.d tMill))]
noncomputable def mill_Mill_Write_hs : Hints := [([1, 1], ⟨[0], [], [.g (.l 1)], [], [], []⟩),
    ([4, 1, 1], ⟨[0, 8, 9], [(10, .d (.int .i64))], [.g (.l 1)], [], [], []⟩),
    ([9], ⟨[], [], [.g (.l 1)], [], [], []⟩)]
noncomputable def mill_Mill_Write_ov (N : Nat) : OvS (X0 gl0) where
  g R := [(71, mill_Mill_put_g N)]
  ok := fun R => List.forall_mem_cons.2 ⟨mill_Mill_put_ok N, fun _ h => nomatch h⟩
noncomputable def mill_Mill_Write_l1 {R : Type} (N : Nat) (k2 : KD R) : KD R → List C → List Es → Option R := (fun k3 d1 m1 => (bif decide (C.toInt (dk d1 2) < C.toInt (dk d1 1)) then (if 0 ≤ C.toInt (dk d1 2) ∧ C.toInt (dk d1 2) < (↑(List.length (C.elems (dk d1 0))) : Int) then (mill_Mill_put_p N (List.getD (C.elems (dk d1 0)) (Int.toNat (C.toInt (dk d1 2))) C.nil) (dk d1 3) (fun d2 m2 => (k3 [dk d1 0, dk d1 1, C.int (IntKind.wrap IntKind.i64 (C.toInt (dk d1 2) + 1)), dk d2 0] []))) else none) else (k2 [dk d1 3] [])))
noncomputable def mill_Mill_Write_p0 {R : Type} (N : Nat) (a0 b0 : C) (k1 : KD R) : Option R := (jn (fun d1 m1 => (k1 [dk d1 0] [])) (fun k2 => (loopK N (mill_Mill_Write_l1 N k2) [a0, C.int (↑(List.length (C.elems a0)) : Int), C.int 0, b0] [])))
noncomputable def mill_Mill_Write_p {R : Type} (N : Nat) : C → C → KD R → Option R := lid "mill_Mill_Write_p N" (mill_Mill_Write_p0 N)
theorem mill_Mill_Write_pe {R : Type} (N : Nat) (a0 b0 : C) (k : KD R) : mill_Mill_Write_p N a0 b0 k = mill_Mill_Write_p0 N a0 b0 k := by unfold mill_Mill_Write_p; rw [lid_eq]
theorem mill_Mill_Write_run {R : Type} (N : Nat) (a0 b0 : C) (K : V → List (Key × O) → Option R) : exF (X0 gl0) ((mill_Mill_Write_ov N).ov R) extX noX (fun f => bif Nat.beq f 64 then mill_Mill_Write_hs else []) N 400 8 64 (Sh.fills mill_Mill_Write_as 0 [a0, b0]) (lookK (locFill mill_Mill_Write_os (Sh.manys mill_Mill_Write_as) 0 [a0, b0] [])) K =
    mill_Mill_Write_p N a0 b0 (fun d1 m1 => K (V.tup []) [(Key.g (Key.l 1), O.box (V.d tMill (dk d1 0)))]) := by
  rw [mill_Mill_Write_pe]
  exact (show _ = jn (fun d1 m1 => (K (V.tup []) [(Key.g (Key.l 1), O.box (V.d tMill (dk d1 0)))])) (mill_Mill_Write_p0 N a0 b0) by kernel_rfl).trans (jn_eq _ _)
noncomputable def mill_Mill_Write_g (N : Nat) {R : Type} : OvG R := ptrG mill_Mill_Write_as mill_Mill_Write_os fun ds ms K => mill_Mill_Write_p N (dk ds 0) (dk ds 1) (fun d1 m1 => K (V.tup []) [(Key.g (Key.l 1), O.box (V.d tMill (dk d1 0)))])
theorem mill_Mill_Write_ok (N : Nat) {R : Type} : GOk (X0 gl0) 64 (mill_Mill_Write_g N (R := R)) := by
  unfold mill_Mill_Write_g
  refine ptrG_ok fun ds ms K r hr => ?_
  rw [← mill_Mill_Write_run] at hr
  obtain ⟨v, L, h1, h2⟩ := exF_ok (ok0 gl0) (mo gl0) ((mill_Mill_Write_ov N).ov_ok _) (extX_ok gl0) _ _ _ _ _ _ hr
  exact ⟨v, L, h1, h2⟩
end Go.Proofs.YtjakbdogmomfeaaDoor


namespace Go.Proofs.YtjakbdogmomfeaaDoor
open Go Go.E
set_option maxRecDepth 100000
set_option maxHeartbeats 4000000
set_option linter.unusedVariables false
noncomputable def mill_four_hs : Hints := [([9], ⟨[], [(2, .sl 1 (.int .u8) 5002)], [], [], [], []⟩)]
noncomputable def mill_four_ov (N : Nat) : OvS (X0 gl0) where
  g R := []
  ok := fun R => fun _ h => nomatch h
noncomputable def mill_four_p0 {R : Type} (N : Nat) (a0 : C) (k1 : KD R) : Option R := (k1 [C.slice [C.int (IntKind.wrap IntKind.u8 (Int.fdiv (C.toInt a0) (2 ^ min (Int.toNat 24) 32))), C.int (IntKind.wrap IntKind.u8 (Int.fdiv (C.toInt a0) (2 ^ min (Int.toNat 16) 32))), C.int (IntKind.wrap IntKind.u8 (Int.fdiv (C.toInt a0) (2 ^ min (Int.toNat 8) 32))), C.int (IntKind.wrap IntKind.u8 (C.toInt a0))]] [])
noncomputable def mill_four_p {R : Type} (N : Nat) : C → KD R → Option R := lid "mill_four_p N" (mill_four_p0 N)
theorem mill_four_pe {R : Type} (N : Nat) (a0 : C) (k : KD R) : mill_four_p N a0 k = mill_four_p0 N a0 k := by unfold mill_four_p; rw [lid_eq]
theorem mill_four_run {R : Type} (N : Nat) (a0 : C) (K : V → List (Key × O) → Option R) : exF (X0 gl0) ((mill_four_ov N).ov R) extX (fun f r => bif Nat.beq f 65 then (bif Nat.beq r 1 then [(14, 4)] else []) else []) (fun f => bif Nat.beq f 65 then mill_four_hs else []) N 400 8 65 [.d (.int .u32) a0] A0 K =
    mill_four_p N a0 (fun d1 m1 => K (V.ts 1 (Ty.int IntKind.u8) (C.elems (dk d1 0))) []) := by
  rw [mill_four_pe]
  exact (show _ = jn (fun d1 m1 => (bif Nat.beq (List.length (C.elems (dk d1 0))) (List.length (C.elems (dk d1 0))) then
    (K (V.ts 1 (Ty.int IntKind.u8) (C.elems (dk d1 0))) [])
  else
    none)) (mill_four_p0 N a0) by kernel_rfl).trans ((jn_eq _ _).trans (congrArg (mill_four_p0 N a0) (funext fun _ => funext fun _ => by simp only [Nat.beq_refl, cond_true])))
noncomputable def mill_four_g (N : Nat) {R : Type} : OvG R := fun xs _ K => match xs with
  | [.d t0 a0] => if t0 = (.int .u32) then mill_four_p N a0 (fun d1 m1 => K (V.ts 1 (Ty.int IntKind.u8) (C.elems (dk d1 0))) []) else none
  | _ => none
theorem mill_four_ok (N : Nat) {R : Type} : GOk (X0 gl0) 65 (mill_four_g N (R := R)) := by
  intro xs A Kr r hr
  unfold mill_four_g at hr
  split at hr
  · simp only [Option.ite_none_right_eq_some] at hr
    obtain ⟨hty, hr⟩ := hr
    subst hty
    rw [← mill_four_run] at hr
    obtain ⟨v, L, h1, h2⟩ := exF_ok (ok0 gl0) (mo gl0) ((mill_four_ov N).ov_ok _) (extX_ok gl0) _ _ _ _ _ _ hr
    exact ⟨v, L, h1.mono (leA_none fun _ => rfl), h2⟩
  · cases hr
end Go.Proofs.YtjakbdogmomfeaaDoor


namespace Go.Proofs.YtjakbdogmomfeaaDoor
open Go Go.E
set_option maxRecDepth 100000
set_option maxHeartbeats 4000000
set_option linter.unusedVariables false
def mill_Mill_Sum_as : List Sh := [.as (.ptr (.g (.l 1)) [] tMill)]
def mill_Mill_Sum_os : List (Key × OSh) := [(.l 1, .box (.d tMill))]
noncomputable def mill_Mill_Sum_hs : Hints := [([1, 0, 1, 1, 1, 1, 1, 1, 1, 1, 1], ⟨[0, 2, 6], [], [.g (.l 1)], [], [], []⟩),
    ([4, 1, 0, 1, 1, 1, 1, 1, 1, 1, 1, 1], ⟨[0, 2, 6, 38], [(39, .d (.int .i64))], [.g (.l 1)], [], [], []⟩),
    ([9], ⟨[], [(2, .as (.ptr (.l 2) [] (.arr 32 (.int .u8))))], [.g (.l 1)], [(.l 2, .box (.d (.arr 32 (.int .u8))))], [], []⟩)]
noncomputable def mill_Mill_Sum_ov (N : Nat) : OvS (X0 gl0) where
  g R := [(65, mill_four_g N), (71, mill_Mill_put_g N)]
  ok := fun R => List.forall_mem_cons.2 ⟨mill_four_ok N, List.forall_mem_cons.2 ⟨mill_Mill_put_ok N, fun _ h => nomatch h⟩⟩
noncomputable def mill_Mill_Sum_l1 {R : Type} (N : Nat) (k2 : KD R) : KD R → List C → List Es → Option R := (fun k3 d5 m5 => (bif decide (C.toInt (dk d5 1) < 8) then (if 0 ≤ C.toInt (dk d5 1) ∧ C.toInt (dk d5 1) < 8 then (if 0 ≤ IntKind.wrap IntKind.i64 (4 * C.toInt (dk d5 1)) ∧ IntKind.wrap IntKind.i64 (4 * C.toInt (dk d5 1)) ≤ 32 ∧ Int.ofNat 32 ≤ 32 then (mill_four_p N (C.get (dk d5 0) (Int.toNat (C.toInt (dk d5 1)))) (fun d6 m6 => (if 0 < Int.toNat (32 - IntKind.wrap IntKind.i64 (4 * C.toInt (dk d5 1))) then (k3 [dk d5 0, C.int (IntKind.wrap IntKind.i64 (C.toInt (dk d5 1) + 1)), dk d5 2, dk d5 3, C.agg (copyC (C.elems (dk d5 4)) (Int.toNat (IntKind.wrap IntKind.i64 (4 * C.toInt (dk d5 1)))) (Int.toNat (32 - IntKind.wrap IntKind.i64 (4 * C.toInt (dk d5 1)))) (C.elems (dk d6 0)))] []) else none))) else none) else none) else (k2 [dk d5 2, dk d5 3, dk d5 4] [])))
noncomputable def mill_Mill_Sum_p0 {R : Type} (N : Nat) (b0 : C) (k1 : KD R) : Option R := (if 0 ≤ IntKind.wrap IntKind.u64 (64 - Int.tmod (IntKind.wrap IntKind.u64 (C.toInt (C.get b0 2) + 8)) 64) ∧ IntKind.wrap IntKind.u64 (64 - Int.tmod (IntKind.wrap IntKind.u64 (C.toInt (C.get b0 2) + 8)) 64) ≤ IntKind.wrap IntKind.u64 (64 - Int.tmod (IntKind.wrap IntKind.u64 (C.toInt (C.get b0 2) + 8)) 64) ∧ IntKind.wrap IntKind.u64 (64 - Int.tmod (IntKind.wrap IntKind.u64 (C.toInt (C.get b0 2) + 8)) 64) ≤ 9223372036854775807 ∧ Int.toNat (IntKind.wrap IntKind.u64 (64 - Int.tmod (IntKind.wrap IntKind.u64 (C.toInt (C.get b0 2) + 8)) 64)) * 1 ≤ 140737488355328 then (if Int.ofNat 0 ≤ 0 ∧ 0 < (↑(Int.toNat (IntKind.wrap IntKind.u64 (64 - Int.tmod (IntKind.wrap IntKind.u64 (C.toInt (C.get b0 2) + 8)) 64))) : Int) then (mill_Mill_put_p N (C.slice (List.take (Int.toNat (IntKind.wrap IntKind.u64 (64 - Int.tmod (IntKind.wrap IntKind.u64 (C.toInt (C.get b0 2) + 8)) 64))) (List.drop 0 (List.set (List.replicate (Int.toNat (IntKind.wrap IntKind.u64 (64 - Int.tmod (IntKind.wrap IntKind.u64 (C.toInt (C.get b0 2) + 8)) 64))) (zeroC (Ty.int IntKind.u8))) 0 (C.int 128))))) b0 (fun d1 m1 => (mill_four_p N (C.int (IntKind.wrap IntKind.u32 (Int.fdiv (IntKind.wrap IntKind.u64 (C.toInt (C.get b0 2) * 8)) (2 ^ min (Int.toNat 32) 64)))) (fun d2 m2 => (mill_four_p N (C.int (IntKind.wrap IntKind.u32 (IntKind.wrap IntKind.u64 (C.toInt (C.get b0 2) * 8)))) (fun d3 m3 => (bif Nat.beq (List.length (C.elems (dk d2 0))) (List.length (C.elems (dk d2 0))) then (if (List.length (C.elems (dk d2 0)) + List.length (C.elems (dk d3 0))) * 1 ≤ 140737488355328 ∧ List.length (C.elems (dk d2 0)) + List.length (C.elems (dk d3 0)) ≤ 9223372036854775807 then (mill_Mill_put_p N (C.slice (C.elems (dk d2 0) ++ C.elems (dk d3 0))) (dk d1 0) (fun d4 m4 => (jn (fun d5 m5 => (k1 [dk d5 2, dk d5 0] [])) (fun k2 => (loopK N (mill_Mill_Sum_l1 N k2) [C.get (dk d4 0) 0, C.int 0, b0, zeroC (Ty.arr 32 (Ty.int IntKind.u8)), zeroC (Ty.arr 32 (Ty.int IntKind.u8))] []))))) else none) else none))))))) else none) else none)
noncomputable def mill_Mill_Sum_p {R : Type} (N : Nat) : C → KD R → Option R := lid "mill_Mill_Sum_p N" (mill_Mill_Sum_p0 N)
theorem mill_Mill_Sum_pe {R : Type} (N : Nat) (b0 : C) (k : KD R) : mill_Mill_Sum_p N b0 k = mill_Mill_Sum_p0 N b0 k := by unfold mill_Mill_Sum_p; rw [lid_eq]
theorem mill_Mill_Sum_run {R : Type} (N : Nat) (b0 : C) (K : V → List (Key × O) → Option R) : exF (X0 gl0) ((mill_Mill_Sum_ov N).ov R) extX (fun f r => bif Nat.beq f 66 then (bif Nat.beq r 7 then [(27, 100)] else []) else []) (fun f => bif Nat.beq f 66 then mill_Mill_Sum_hs else []) N 400 8 66 (Sh.fills mill_Mill_Sum_as 0 [b0]) (lookK (locFill mill_Mill_Sum_os (Sh.manys mill_Mill_Sum_as) 0 [b0] [])) K =
    mill_Mill_Sum_p N b0 (fun d1 m1 => K (V.d (Ty.arr 32 (Ty.int IntKind.u8)) (dk d1 0)) [(Key.g (Key.l 1), O.box (V.d tMill (dk d1 1)))]) := by
  rw [mill_Mill_Sum_pe]
  exact (show _ = jn (fun d1 m1 => (K (V.d (Ty.arr 32 (Ty.int IntKind.u8)) (dk d1 0)) [(Key.g (Key.l 1), O.box (V.d tMill (dk d1 1)))])) (mill_Mill_Sum_p0 N b0) by kernel_rfl).trans (jn_eq _ _)
noncomputable def mill_Mill_Sum_g (N : Nat) {R : Type} : OvG R := ptrG mill_Mill_Sum_as mill_Mill_Sum_os fun ds ms K => mill_Mill_Sum_p N (dk ds 0) (fun d1 m1 => K (V.d (Ty.arr 32 (Ty.int IntKind.u8)) (dk d1 0)) [(Key.g (Key.l 1), O.box (V.d tMill (dk d1 1)))])
theorem mill_Mill_Sum_ok (N : Nat) {R : Type} : GOk (X0 gl0) 66 (mill_Mill_Sum_g N (R := R)) := by
  unfold mill_Mill_Sum_g
  refine ptrG_ok fun ds ms K r hr => ?_
  rw [← mill_Mill_Sum_run] at hr
  obtain ⟨v, L, h1, h2⟩ := exF_ok (ok0 gl0) (mo gl0) ((mill_Mill_Sum_ov N).ov_ok _) (extX_ok gl0) _ _ _ _ _ _ hr
  exact ⟨v, L, h1, h2⟩
end Go.Proofs.YtjakbdogmomfeaaDoor


namespace Go.Proofs.YtjakbdogmomfeaaDoor
open Go Go.E
set_option maxRecDepth 100000
set_option maxHeartbeats 4000000
set_option linter.unusedVariables false
noncomputable def mill_For_hs : Hints := [([1, 0, 1, 1, 1], ⟨[4, 5], [], [], [], [], []⟩),
    ([4, 1, 0, 1, 1, 1], ⟨[4, 5, 17, 18], [(19, .d (.int .i64))], [], [], [], []⟩),
    ([9], ⟨[], [(4, .as (.ptr (.l 4) [] (.arr 32 (.int .u8))))], [], [(.l 4, .box (.d (.arr 32 (.int .u8))))], [], []⟩)]
noncomputable def mill_For_ov (N : Nat) : OvS (X0 gl0) where
  g R := [(63, mill_New_g N), (64, mill_Mill_Write_g N), (65, mill_four_g N), (66, mill_Mill_Sum_g N)]
  ok := fun R => List.forall_mem_cons.2 ⟨mill_New_ok N, List.forall_mem_cons.2 ⟨mill_Mill_Write_ok N, List.forall_mem_cons.2 ⟨mill_four_ok N, List.forall_mem_cons.2 ⟨mill_Mill_Sum_ok N, fun _ h => nomatch h⟩⟩⟩⟩
noncomputable def mill_For_l1 {R : Type} (N : Nat) (k2 : KD R) : KD R → List C → List Es → Option R := (fun k3 d3 m3 => (bif decide (C.toInt (dk d3 2) < C.toInt (dk d3 1)) then (if 0 ≤ C.toInt (dk d3 2) ∧ C.toInt (dk d3 2) < (↑(List.length (C.elems (dk d3 0))) : Int) then (mill_four_p N (C.int (IntKind.wrap IntKind.u32 (↑(List.length (C.elems (List.getD (C.elems (dk d3 0)) (Int.toNat (C.toInt (dk d3 2))) C.nil))) : Int))) (fun d4 m4 => (mill_Mill_Write_p N (C.slice [C.slice (C.elems (dk d4 0)), List.getD (C.elems (dk d3 0)) (Int.toNat (C.toInt (dk d3 2))) C.nil]) (dk d3 4) (fun d5 m5 => (k3 [dk d3 0, dk d3 1, C.int (IntKind.wrap IntKind.i64 (C.toInt (dk d3 2) + 1)), dk d3 3, dk d5 0] []))))) else none) else (k2 [dk d3 3, dk d3 4] [])))
noncomputable def mill_For_p0 {R : Type} (N : Nat) (a0 a1 : C) (k1 : KD R) : Option R := (mill_New_p N (fun d1 m1 => (mill_Mill_Write_p N (C.slice [C.slice [a0, C.int (IntKind.wrap IntKind.u8 (↑(List.length (C.elems a1)) : Int))]]) (dk d1 0) (fun d2 m2 => (jn (fun d3 m3 => (mill_Mill_Sum_p N (dk d3 1) (fun d4 m4 => (k1 [dk d4 0] [])))) (fun k2 => (loopK N (mill_For_l1 N k2) [a1, C.int (↑(List.length (C.elems a1)) : Int), C.int 0, zeroC (Ty.arr 32 (Ty.int IntKind.u8)), dk d2 0] [])))))))
noncomputable def mill_For_p {R : Type} (N : Nat) : C → C → KD R → Option R := lid "mill_For_p N" (mill_For_p0 N)
theorem mill_For_pe {R : Type} (N : Nat) (a0 a1 : C) (k : KD R) : mill_For_p N a0 a1 k = mill_For_p0 N a0 a1 k := by unfold mill_For_p; rw [lid_eq]
theorem mill_For_run {R : Type} (N : Nat) (a0 a1 : C) (K : V → List (Key × O) → Option R) : exF (X0 gl0) ((mill_For_ov N).ov R) extX noX (fun f => bif Nat.beq f 56 then mill_For_hs else []) N 400 8 56 [.d (.int .u8) a0, .d (.slice 24 (.slice 1 (.int .u8))) a1] A0 K =
    mill_For_p N a0 a1 (fun d1 m1 => K (V.d (Ty.arr 32 (Ty.int IntKind.u8)) (dk d1 0)) []) := by
  rw [mill_For_pe]
  exact (show _ = jn (fun d1 m1 => (K (V.d (Ty.arr 32 (Ty.int IntKind.u8)) (dk d1 0)) [])) (mill_For_p0 N a0 a1) by kernel_rfl).trans (jn_eq _ _)
noncomputable def mill_For_g (N : Nat) {R : Type} : OvG R := fun xs _ K => match xs with
  | [.d t0 a0, .d t1 a1] => if t0 = (.int .u8) ∧ t1 = (.slice 24 (.slice 1 (.int .u8))) then mill_For_p N a0 a1 (fun d1 m1 => K (V.d (Ty.arr 32 (Ty.int IntKind.u8)) (dk d1 0)) []) else none
  | _ => none
theorem mill_For_ok (N : Nat) {R : Type} : GOk (X0 gl0) 56 (mill_For_g N (R := R)) := by
  intro xs A Kr r hr
  unfold mill_For_g at hr
  split at hr
  · simp only [Option.ite_none_right_eq_some] at hr
    obtain ⟨hty, hr⟩ := hr
    obtain ⟨rfl, rfl⟩ := hty
    rw [← mill_For_run] at hr
    obtain ⟨v, L, h1, h2⟩ := exF_ok (ok0 gl0) (mo gl0) ((mill_For_ov N).ov_ok _) (extX_ok gl0) _ _ _ _ _ _ hr
    exact ⟨v, L, h1.mono (leA_none fun _ => rfl), h2⟩
  · cases hr
end Go.Proofs.YtjakbdogmomfeaaDoor


namespace Go.Proofs.YtjakbdogmomfeaaDoor
open Go Go.E
set_option maxRecDepth 100000
set_option maxHeartbeats 4000000
set_option linter.unusedVariables false
noncomputable def lamp_cover_hs : Hints := [([9], ⟨[], [(2, .as (.ptr (.l 2) [] (.arr 16 (.int .u8))))], [], [(.l 2, .box (.d (.arr 16 (.int .u8))))], [], []⟩)]
noncomputable def lamp_cover_ov (N : Nat) : OvS (X0 gl0) where
  g R := [(56, mill_For_g N)]
  ok := fun R => List.forall_mem_cons.2 ⟨mill_For_ok N, fun _ h => nomatch h⟩
noncomputable def lamp_cover_p0 {R : Type} (N : Nat) (a0 : C) (k1 : KD R) : Option R := (mill_For_p N (C.int 5) (C.slice [C.slice (cut (C.elems a0) 0 16)]) (fun d1 m1 => (if 16 ≤ List.length (List.take 16 (List.drop 0 (C.elems (dk d1 0)))) then (k1 [C.agg (List.take 16 (List.take 16 (List.drop 0 (C.elems (dk d1 0)))))] []) else none)))
noncomputable def lamp_cover_p {R : Type} (N : Nat) : C → KD R → Option R := lid "lamp_cover_p N" (lamp_cover_p0 N)
theorem lamp_cover_pe {R : Type} (N : Nat) (a0 : C) (k : KD R) : lamp_cover_p N a0 k = lamp_cover_p0 N a0 k := by unfold lamp_cover_p; rw [lid_eq]
theorem lamp_cover_run {R : Type} (N : Nat) (a0 : C) (K : V → List (Key × O) → Option R) : exF (X0 gl0) ((lamp_cover_ov N).ov R) extX (fun f r => bif Nat.beq f 61 then (bif Nat.beq r 0 then [(1, 5)] else bif Nat.beq r 2 then [(8, 100)] else []) else []) (fun f => bif Nat.beq f 61 then lamp_cover_hs else []) N 400 8 61 [.d (.arr 16 (.int .u8)) a0] A0 K =
    lamp_cover_p N a0 (fun d1 m1 => K (V.d (Ty.arr 16 (Ty.int IntKind.u8)) (dk d1 0)) []) := by
  rw [lamp_cover_pe]
  exact (show _ = jn (fun d1 m1 => (K (V.d (Ty.arr 16 (Ty.int IntKind.u8)) (dk d1 0)) [])) (lamp_cover_p0 N a0) by kernel_rfl).trans (jn_eq _ _)
noncomputable def lamp_cover_g (N : Nat) {R : Type} : OvG R := fun xs _ K => match xs with
  | [.d t0 a0] => if t0 = (.arr 16 (.int .u8)) then lamp_cover_p N a0 (fun d1 m1 => K (V.d (Ty.arr 16 (Ty.int IntKind.u8)) (dk d1 0)) []) else none
  | _ => none
theorem lamp_cover_ok (N : Nat) {R : Type} : GOk (X0 gl0) 61 (lamp_cover_g N (R := R)) := by
  intro xs A Kr r hr
  unfold lamp_cover_g at hr
  split at hr
  · simp only [Option.ite_none_right_eq_some] at hr
    obtain ⟨hty, hr⟩ := hr
    subst hty
    rw [← lamp_cover_run] at hr
    obtain ⟨v, L, h1, h2⟩ := exF_ok (ok0 gl0) (mo gl0) ((lamp_cover_ov N).ov_ok _) (extX_ok gl0) _ _ _ _ _ _ hr
    exact ⟨v, L, h1.mono (leA_none fun _ => rfl), h2⟩
  · cases hr
end Go.Proofs.YtjakbdogmomfeaaDoor


namespace Go.Proofs.YtjakbdogmomfeaaDoor
open Go Go.E
set_option maxRecDepth 100000
set_option maxHeartbeats 4000000
set_option linter.unusedVariables false
noncomputable def lamp_leaf_hs : Hints := [([1, 0, 1, 1], ⟨[2], [(3, .sl 1 (.int .u8) 5003)], [], [], [], []⟩),
    ([4, 1, 0, 1, 1], ⟨[2, 6], [(3, .sl 1 (.int .u8) 5003), (7, .d (.int .i64))], [], [], [], []⟩),
    ([9], ⟨[], [(2, .as (.ptr (.l 2) [] (.arr 32 (.int .u8))))], [], [(.l 2, .box (.d (.arr 32 (.int .u8))))], [], []⟩)]
noncomputable def lamp_leaf_ov (N : Nat) : OvS (X0 gl0) where
  g R := [(56, mill_For_g N)]
  ok := fun R => List.forall_mem_cons.2 ⟨mill_For_ok N, fun _ h => nomatch h⟩
noncomputable def lamp_leaf_l1 {R : Type} (N : Nat) (k2 : KD R) : KD R → List C → List Es → Option R := (fun k3 d1 m1 => (bif decide (C.toInt (dk d1 2) < 32) then (if 0 ≤ C.toInt (dk d1 2) ∧ C.toInt (dk d1 2) < 32 then (bif Nat.beq (List.length (C.elems (dk d1 1))) (List.length (C.elems (dk d1 1))) then (if (List.length (C.elems (dk d1 1)) + List.length (List.take 16 (List.drop (Int.toNat 0) (C.elems (C.get (C.get (dk d1 0) (Int.toNat (C.toInt (dk d1 2)))) (Int.toNat 0)))))) * 1 ≤ 140737488355328 ∧ List.length (C.elems (dk d1 1)) + List.length (List.take 16 (List.drop (Int.toNat 0) (C.elems (C.get (C.get (dk d1 0) (Int.toNat (C.toInt (dk d1 2)))) (Int.toNat 0))))) ≤ 9223372036854775807 then (bif Nat.beq (List.length (C.elems (dk d1 1)) + List.length (List.take 16 (List.drop (Int.toNat 0) (C.elems (C.get (C.get (dk d1 0) (Int.toNat (C.toInt (dk d1 2)))) (Int.toNat 0)))))) (List.length (C.elems (dk d1 1) ++ List.take 16 (List.drop (Int.toNat 0) (C.elems (C.get (C.get (dk d1 0) (Int.toNat (C.toInt (dk d1 2)))) (Int.toNat 0)))))) then (if (List.length (C.elems (dk d1 1) ++ List.take 16 (List.drop (Int.toNat 0) (C.elems (C.get (C.get (dk d1 0) (Int.toNat (C.toInt (dk d1 2)))) (Int.toNat 0))))) + List.length (List.take 16 (List.drop (Int.toNat 0) (C.elems (C.get (C.get (dk d1 0) (Int.toNat (C.toInt (dk d1 2)))) (Int.toNat 1)))))) * 1 ≤ 140737488355328 ∧ List.length (C.elems (dk d1 1) ++ List.take 16 (List.drop (Int.toNat 0) (C.elems (C.get (C.get (dk d1 0) (Int.toNat (C.toInt (dk d1 2)))) (Int.toNat 0))))) + List.length (List.take 16 (List.drop (Int.toNat 0) (C.elems (C.get (C.get (dk d1 0) (Int.toNat (C.toInt (dk d1 2)))) (Int.toNat 1))))) ≤ 9223372036854775807 then (bif Nat.beq (List.length (C.elems (dk d1 1) ++ List.take 16 (List.drop (Int.toNat 0) (C.elems (C.get (C.get (dk d1 0) (Int.toNat (C.toInt (dk d1 2)))) (Int.toNat 0))))) + List.length (List.take 16 (List.drop (Int.toNat 0) (C.elems (C.get (C.get (dk d1 0) (Int.toNat (C.toInt (dk d1 2)))) (Int.toNat 1)))))) (List.length (C.elems (dk d1 1) ++ List.take 16 (List.drop (Int.toNat 0) (C.elems (C.get (C.get (dk d1 0) (Int.toNat (C.toInt (dk d1 2)))) (Int.toNat 0)))) ++ List.take 16 (List.drop (Int.toNat 0) (C.elems (C.get (C.get (dk d1 0) (Int.toNat (C.toInt (dk d1 2)))) (Int.toNat 1)))))) then (k3 [dk d1 0, C.slice (C.elems (dk d1 1) ++ List.take 16 (List.drop (Int.toNat 0) (C.elems (C.get (C.get (dk d1 0) (Int.toNat (C.toInt (dk d1 2)))) (Int.toNat 0)))) ++ List.take 16 (List.drop (Int.toNat 0) (C.elems (C.get (C.get (dk d1 0) (Int.toNat (C.toInt (dk d1 2)))) (Int.toNat 1))))), C.int (IntKind.wrap IntKind.i64 (C.toInt (dk d1 2) + 1)), dk d1 3] []) else none) else none) else none) else none) else none) else none) else (bif Nat.beq (List.length (C.elems (dk d1 1))) (List.length (C.elems (dk d1 1))) then (k2 [C.slice (C.elems (dk d1 1)), dk d1 3] []) else none)))
noncomputable def lamp_leaf_p0 {R : Type} (N : Nat) (a0 : C) (k1 : KD R) : Option R := (jn (fun d1 m1 => (mill_For_p N (C.int 2) (C.slice [C.slice (C.elems (dk d1 0))]) (fun d2 m2 => (k1 [dk d2 0] [])))) (fun k2 => (loopK N (lamp_leaf_l1 N k2) [a0, C.slice [], C.int 0, zeroC (Ty.arr 32 (Ty.int IntKind.u8))] [])))
noncomputable def lamp_leaf_p {R : Type} (N : Nat) : C → KD R → Option R := lid "lamp_leaf_p N" (lamp_leaf_p0 N)
theorem lamp_leaf_pe {R : Type} (N : Nat) (a0 : C) (k : KD R) : lamp_leaf_p N a0 k = lamp_leaf_p0 N a0 k := by unfold lamp_leaf_p; rw [lid_eq]
theorem lamp_leaf_run {R : Type} (N : Nat) (a0 : C) (K : V → List (Key × O) → Option R) : exF (X0 gl0) ((lamp_leaf_ov N).ov R) extX (fun f r => bif Nat.beq f 62 then (bif Nat.beq r 0 then [(1, 5)] else []) else []) (fun f => bif Nat.beq f 62 then lamp_leaf_hs else []) N 400 8 62 [.d (.arr 32 (.arr 2 (.arr 16 (.int .u8)))) a0] A0 K =
    lamp_leaf_p N a0 (fun d1 m1 => K (V.d (Ty.arr 32 (Ty.int IntKind.u8)) (dk d1 0)) []) := by
  rw [lamp_leaf_pe]
  exact (show _ = jn (fun d1 m1 => (K (V.d (Ty.arr 32 (Ty.int IntKind.u8)) (dk d1 0)) [])) (lamp_leaf_p0 N a0) by kernel_rfl).trans (jn_eq _ _)
noncomputable def lamp_leaf_g (N : Nat) {R : Type} : OvG R := fun xs _ K => match xs with
  | [.d t0 a0] => if t0 = (.arr 32 (.arr 2 (.arr 16 (.int .u8)))) then lamp_leaf_p N a0 (fun d1 m1 => K (V.d (Ty.arr 32 (Ty.int IntKind.u8)) (dk d1 0)) []) else none
  | _ => none
theorem lamp_leaf_ok (N : Nat) {R : Type} : GOk (X0 gl0) 62 (lamp_leaf_g N (R := R)) := by
  intro xs A Kr r hr
  unfold lamp_leaf_g at hr
  split at hr
  · simp only [Option.ite_none_right_eq_some] at hr
    obtain ⟨hty, hr⟩ := hr
    subst hty
    rw [← lamp_leaf_run] at hr
    obtain ⟨v, L, h1, h2⟩ := exF_ok (ok0 gl0) (mo gl0) ((lamp_leaf_ov N).ov_ok _) (extX_ok gl0) _ _ _ _ _ _ hr
    exact ⟨v, L, h1.mono (leA_none fun _ => rfl), h2⟩
  · cases hr
end Go.Proofs.YtjakbdogmomfeaaDoor


namespace Go.Proofs.YtjakbdogmomfeaaDoor
open Go Go.E
set_option maxRecDepth 100000
set_option maxHeartbeats 4000000
set_option linter.unusedVariables false
noncomputable def lamp_Sig_From_hs : Hints := [([1, 0, 1, 1], ⟨[4, 5], [], [], [], [], []⟩),
    ([4, 1, 0, 1, 1], ⟨[2, 3, 4, 5], [(8, .d (.int .i64))], [], [], [], []⟩),
    ([9], ⟨[], [(4, .as (.ptr (.l 4) [] (.arr 32 (.int .u8))))], [], [(.l 4, .box (.d (.arr 32 (.int .u8))))], [], []⟩)]
noncomputable def lamp_Sig_From_ov (N : Nat) : OvS (X0 gl0) where
  g R := [(60, lamp_bit_g N), (61, lamp_cover_g N), (62, lamp_leaf_g N)]
  ok := fun R => List.forall_mem_cons.2 ⟨lamp_bit_ok N, List.forall_mem_cons.2 ⟨lamp_cover_ok N, List.forall_mem_cons.2 ⟨lamp_leaf_ok N, fun _ h => nomatch h⟩⟩⟩
noncomputable def lamp_Sig_From_l1 {R : Type} (N : Nat) (k2 : KD R) : KD R → List C → List Es → Option R := (fun k3 d1 m1 => (bif decide (C.toInt (dk d1 2) < 32) then (lamp_bit_p N (dk d1 1) (dk d1 2) (fun d2 m2 => (if 0 ≤ C.toInt (dk d1 2) ∧ C.toInt (dk d1 2) < 32 then (lamp_cover_p N (C.get (C.get (dk d1 0) 0) (Int.toNat (C.toInt (dk d1 2)))) (fun d3 m3 => (if 0 ≤ C.toInt (dk d1 2) ∧ C.toInt (dk d1 2) < 32 then (if 0 ≤ C.toInt (dk d2 0) ∧ C.toInt (dk d2 0) < 2 then (if 0 ≤ C.toInt (dk d1 2) ∧ C.toInt (dk d1 2) < 32 then (if 0 ≤ C.toInt (dk d1 2) ∧ C.toInt (dk d1 2) < 32 then (if 0 ≤ IntKind.wrap IntKind.u8 (1 - C.toInt (dk d2 0)) ∧ IntKind.wrap IntKind.u8 (1 - C.toInt (dk d2 0)) < 2 then (k3 [dk d1 0, dk d1 1, C.int (IntKind.wrap IntKind.i64 (C.toInt (dk d1 2) + 1)), dk d1 3, C.set (C.set (dk d1 4) (Int.toNat (C.toInt (dk d1 2))) (C.set (C.get (dk d1 4) (Int.toNat (C.toInt (dk d1 2)))) (Int.toNat (C.toInt (dk d2 0))) (dk d3 0))) (Int.toNat (C.toInt (dk d1 2))) (C.set (C.get (C.set (dk d1 4) (Int.toNat (C.toInt (dk d1 2))) (C.set (C.get (dk d1 4) (Int.toNat (C.toInt (dk d1 2)))) (Int.toNat (C.toInt (dk d2 0))) (dk d3 0))) (Int.toNat (C.toInt (dk d1 2)))) (Int.toNat (IntKind.wrap IntKind.u8 (1 - C.toInt (dk d2 0)))) (C.get (C.get (dk d1 0) 1) (Int.toNat (C.toInt (dk d1 2)))))] []) else none) else none) else none) else none) else none))) else none))) else (k2 [dk d1 3, dk d1 4] [])))
noncomputable def lamp_Sig_From_p0 {R : Type} (N : Nat) (a0 a1 : C) (k1 : KD R) : Option R := (jn (fun d1 m1 => (lamp_leaf_p N (dk d1 1) (fun d2 m2 => (k1 [dk d2 0] [])))) (fun k2 => (loopK N (lamp_Sig_From_l1 N k2) [a0, a1, C.int 0, zeroC (Ty.arr 32 (Ty.int IntKind.u8)), zeroC (Ty.arr 32 (Ty.arr 2 (Ty.arr 16 (Ty.int IntKind.u8))))] [])))
noncomputable def lamp_Sig_From_p {R : Type} (N : Nat) : C → C → KD R → Option R := lid "lamp_Sig_From_p N" (lamp_Sig_From_p0 N)
theorem lamp_Sig_From_pe {R : Type} (N : Nat) (a0 a1 : C) (k : KD R) : lamp_Sig_From_p N a0 a1 k = lamp_Sig_From_p0 N a0 a1 k := by unfold lamp_Sig_From_p; rw [lid_eq]
theorem lamp_Sig_From_run {R : Type} (N : Nat) (a0 a1 : C) (K : V → List (Key × O) → Option R) : exF (X0 gl0) ((lamp_Sig_From_ov N).ov R) extX (fun f r => bif Nat.beq f 54 then (bif Nat.beq r 0 then [(2, 5), (3, 5)] else bif Nat.beq r 6 then [(20, 7)] else []) else []) (fun f => bif Nat.beq f 54 then lamp_Sig_From_hs else []) N 400 8 54 [.d tSig a0, .d (.arr 32 (.int .u8)) a1] A0 K =
    lamp_Sig_From_p N a0 a1 (fun d1 m1 => K (V.d (Ty.arr 32 (Ty.int IntKind.u8)) (dk d1 0)) []) := by
  rw [lamp_Sig_From_pe]
  exact (show _ = jn (fun d1 m1 => (K (V.d (Ty.arr 32 (Ty.int IntKind.u8)) (dk d1 0)) [])) (lamp_Sig_From_p0 N a0 a1) by kernel_rfl).trans (jn_eq _ _)
noncomputable def lamp_Sig_From_g (N : Nat) {R : Type} : OvG R := fun xs _ K => match xs with
  | [.d t0 a0, .d t1 a1] => if t0 = tSig ∧ t1 = (.arr 32 (.int .u8)) then lamp_Sig_From_p N a0 a1 (fun d1 m1 => K (V.d (Ty.arr 32 (Ty.int IntKind.u8)) (dk d1 0)) []) else none
  | _ => none
theorem lamp_Sig_From_ok (N : Nat) {R : Type} : GOk (X0 gl0) 54 (lamp_Sig_From_g N (R := R)) := by
  intro xs A Kr r hr
  unfold lamp_Sig_From_g at hr
  split at hr
  · simp only [Option.ite_none_right_eq_some] at hr
    obtain ⟨hty, hr⟩ := hr
    obtain ⟨rfl, rfl⟩ := hty
    rw [← lamp_Sig_From_run] at hr
    obtain ⟨v, L, h1, h2⟩ := exF_ok (ok0 gl0) (mo gl0) ((lamp_Sig_From_ov N).ov_ok _) (extX_ok gl0) _ _ _ _ _ _ hr
    exact ⟨v, L, h1.mono (leA_none fun _ => rfl), h2⟩
  · cases hr
end Go.Proofs.YtjakbdogmomfeaaDoor

