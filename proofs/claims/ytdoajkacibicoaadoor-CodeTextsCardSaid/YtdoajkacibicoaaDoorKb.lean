/-
 What the functions on the way compute, part 2.
 Conditions: none.
-/
import Derived.Test.YtdoajkacibicoaaDoorKa
set_option linter.all false
namespace Go.Proofs.YtdoajkacibicoaaDoor
open Go Go.E
set_option maxRecDepth 100000
set_option maxHeartbeats 4000000
set_option linter.unusedSimpArgs false
variable {R : Type} {N : Nat}
theorem wrap_u64 {n : Int} (h : 0 ≤ n) (h2 : n ≤ 18446744073709551615) : IntKind.u64.wrap n = n := by rw [IntKind.wrap_u64]; omega
theorem q8a (o : Int) (k : KD R) : j6 N (.int o) k = k [.int (x8 o)] [] := by
 rw [q6I]
 unfold q2p x8
 by_cases h1 : o = 1
 ·subst h1; rfl
 by_cases h2 : o = 2
 ·subst h2; simp [go_sem, o5]
 by_cases h16 : o = 16
 ·subst h16; simp [go_sem, o5]
 by_cases h11 : o = 11
 ·subst h11; simp [go_sem, o5]
 by_cases h12 : o = 12
 ·subst h12; simp [go_sem, o5]
 simp [go_sem, o5, h1, h2, h16, h11, h12]
theorem y0P {p : List C} (hp : C.wf (.slice 1 (.int .u8)) (.slice p)) (hl : p.length ≤ 256) (i : Nat) (o : Int) (h : i + 1 + x8 o ≤ p.length) (hN : 100 < N) (k2 : KD R) :
  b6 N (q1R N k2) [.slice p, .int i, .int o, .int 0, .int 0] [] = k2 [.int o, .int (Q3 p (i + 1) (x8 o))] [] := by
 have hm := q3d o
 refine q8x (F := q1R N k2) (fun j : Nat => [.slice p, .int i, .int o, .int (Q3 p (i + 1) j), .int j]) (fun _ => []) (x8 o) _ ?_ ?_ (by omega)
 ·intro j hj rec
  unfold q1R
  have w1 : IntKind.i64.wrap ((i : Int) + 1) = ((i + 1 : Nat) : Int) := by rw [IntWalk.i64_in _ (by omega)]; rfl
  have w2 : IntKind.i64.wrap (((i + 1 : Nat) : Int) + (j : Int)) = ((i + 1 + j : Nat) : Int) := by rw [IntWalk.i64_in _ (by omega)]; rfl
  have w3 : IntKind.i64.wrap ((j : Int) + 1) = ((j + 1 : Nat) : Int) := by rw [IntWalk.i64_in _ (by omega)]; rfl
  have hb := q47 hp (i := i + 1 + j) (by omega)
  obtain ⟨a1, a2, a3⟩ := q7j hp (i := i + 1) (k := j) (by omega) (by omega)
  have a4 := a3 (by omega)
  have b1 : (j : Int) < ((x8 o : Nat) : Int) := by omega
  have b2 : (0 : Int) ≤ ((i + 1 + j : Nat) : Int) ∧ ((i + 1 + j : Nat) : Int) < (p.length : Int) := by omega
  have w4 : IntKind.u64.wrap (Q3 p (i + 1) j * 256) = Q3 p (i + 1) j * 256 := wrap_u64 (by omega) (by omega)
  have w5 : IntKind.u64.wrap (bN p (i + 1 + j)) = bN p (i + 1 + j) := wrap_u64 (by omega) (by omega)
  have w6 : IntKind.u64.wrap (Q3 p (i + 1) j * 256 + bN p (i + 1 + j)) = Q3 p (i + 1) j * 256 + bN p (i + 1 + j) := wrap_u64 (by omega) (by omega)
  simp only [go_sem, q8a, u2, p9, w1, w2, w3, b1, b2, decide_true, cond_true, if_true, and_self, Int.toNat_natCast]
  rw [hb.1]
  simp only [u2, w4, w5, w6]
  rfl
 ·intro rec
  unfold q1R
  simp only [go_sem, q8a, u2, Int.lt_irrefl, decide_false, cond_false]
theorem y3D {p : List C} (hp : C.wf (.slice 1 (.int .u8)) (.slice p)) (hl : p.length ≤ 256) (i : Nat) (hi : i ≤ 100000) (hN : 100 < N) (k : KD R) :
  q1q N (.slice p) (.int i) k = k [.int (if u9 p i = 0 then bN p i else 0), .int (if u9 p i = 0 then Q3 p (i + 1) (x8 (bN p i)) else 0), .int (u9 p i)] [] := by
 rw [q8Y]
 unfold q3B
 by_cases h1 : p.length ≤ i
 ·have h1' : (p.length : Int) ≤ (i : Int) := by omega
  have e : u9 p i = 9 := by unfold u9; rw [if_pos h1]
  simp [go_sem, h1', e]
 have h1' : ¬ (p.length : Int) ≤ (i : Int) := by omega
 have b1 : (0 : Int) ≤ (i : Int) ∧ (i : Int) < (p.length : Int) := by omega
 have hb := q47 hp (i := i) (by omega)
 have w0 : IntKind.i64.wrap (bN p i) = bN p i := IntWalk.i64_in _ (by omega)
 by_cases h2 : 18 ≤ bN p i
 ·have e : u9 p i = 33 := by unfold u9; rw [if_neg h1, if_pos h2]
  have h2' : 17 < bN p i := by omega
  simp only [go_sem, u2, p9, h1', b1, decide_false, cond_false, if_true, and_self, Int.toNat_natCast, hb.1, w0, h2', e, decide_true, cond_true]
  rfl
 have h2' : ¬ 17 < bN p i := by omega
 have hm := q3d (bN p i)
 have w1 : IntKind.i64.wrap ((i : Int) + 1) = ((i + 1 : Nat) : Int) := by rw [IntWalk.i64_in _ (by omega)]; rfl
 have w2 : IntKind.i64.wrap (((i + 1 : Nat) : Int) + ((x8 (bN p i) : Nat) : Int)) = ((i + 1 + x8 (bN p i) : Nat) : Int) := by rw [IntWalk.i64_in _ (by omega)]; rfl
 by_cases h3 : p.length < i + 1 + x8 (bN p i)
 ·have e : u9 p i = 9 := by unfold u9; rw [if_neg h1, if_neg h2, if_pos h3]
  have h3' : (p.length : Int) < ((i + 1 + x8 (bN p i) : Nat) : Int) := by omega
  simp only [go_sem, u2, p9, h1', b1, if_true, and_self, Int.toNat_natCast, hb.1, w0, h2', decide_false, cond_false, q8a, W6, w1, w2, h3', decide_true, cond_true, e]
  rfl
 ·have e : u9 p i = 0 := by unfold u9; rw [if_neg h1, if_neg h2, if_neg h3]
  have h3' : ¬ (p.length : Int) < ((i + 1 + x8 (bN p i) : Nat) : Int) := by omega
  simp only [go_sem, u2, p9, h1', b1, and_self, Int.toNat_natCast, hb.1, w0, h2', decide_false, cond_false, q8a, W6, q0V, w1, w2, h3', o5, y0P hp hl i (bN p i) (by omega) hN, e, if_true]
theorem y4g {o : Nat} (h : o < 18) : (X1.getD o .nil).get 0 = .str (q4P o) := by
 rcases z3S h with rfl | rfl | rfl | rfl | rfl | rfl | rfl | rfl | rfl | rfl | rfl | rfl | rfl | rfl | rfl | rfl | rfl | rfl <;> rfl
theorem z9n {o : Nat} (h : o < 18) : (q4P o).length ≤ 10 := by
 rcases z3S h with rfl | rfl | rfl | rfl | rfl | rfl | rfl | rfl | rfl | rfl | rfl | rfl | rfl | rfl | rfl | rfl | rfl | rfl <;> decide
theorem y1T (n : Nat) (h : n < 18446744073709551616) : (U9 n).length ≤ 20 := by rw [z6y n h]; exact z1T n h
def q2W (p : List C) (i : Nat) : List UInt8 := q4P (bN p i).toNat ++ (if 0 < x8 (bN p i) then [UInt8.ofNat 32] ++ U9 (Q3 p (i + 1) (x8 (bN p i))).toNat else [])
def q0m (p : List C) : Nat → Nat → List (List UInt8)
 | 0, _ => []
 | f + 1, i => if p.length ≤ i then [] else q2W p i :: q0m p f (i + 1 + x8 (bN p i))
structure At (p : List C) (i : Nat) : Prop where
 err : u9 p i = 0
 nxt : i + 1 + x8 (bN p i) ≤ p.length
 op : ∃ o : Nat, o < 18 ∧ bN p i = (o : Int)
 arg : 0 ≤ Q3 p (i + 1) (x8 (bN p i)) ∧ Q3 p (i + 1) (x8 (bN p i)) ≤ 18446744073709551615
def z3Z (p : List C) (i : Nat) : Prop := i ≤ p.length ∧ ∃ bs, (q0v p (p.length - i) i bs).1 = 0
theorem z3Z.at_ {p : List C} (hp : C.wf (.slice 1 (.int .u8)) (.slice p)) {i : Nat} (h : z3Z p i) (hi : i < p.length) : At p i ∧ z3Z p (i + 1 + x8 (bN p i)) := by
 obtain ⟨hle, bs, hs⟩ := h
 have hst := q9z (bs := bs) hi rfl
 have he : u9 p i = 0 := by
  by_cases he : u9 p i = 0
  ·exact he
  ·have := hst.1 he; rw [this] at hs; exact absurd hs he
 obtain ⟨h1, h2⟩ := hst.2 he
 have hb := q47 hp hi
 have h18 : ¬ 18 ≤ bN p i := by
  intro h
  unfold u9 at he
  rw [if_neg (by omega), if_pos h] at he
  cases he
 have harg := q7j hp (i := i + 1) (k := x8 (bN p i)) (by omega) (q3d _)
 refine ⟨⟨he, h1, ⟨(bN p i).toNat, by omega, by omega⟩, harg.1, harg.2.1⟩, h1, bs ++ [i], ?_⟩
 rw [h2]; exact hs
theorem z1w {p : List C} {i : Nat} (h : At p i) : (q2W p i).length ≤ 31 := by
 obtain ⟨o, ho, hb⟩ := h.op
 have h1 := z9n ho
 have h2 := y1T (Q3 p (i + 1) (x8 (bN p i))).toNat (by have := h.arg; omega)
 unfold q2W
 rw [hb, Int.toNat_natCast] at *
 split <;> simp only [List.length_append, List.length_cons, List.length_nil] <;> omega
theorem z5r {p : List C} (hp : C.wf (.slice 1 (.int .u8)) (.slice p)) (hl : p.length ≤ 256) (N0 : Nat) (k2 : KD R) : ∀ (f i : Nat) (out : List C) (M : Nat), p.length - i ≤ f → z3Z p i → out.length + f ≤ 1000 →
  b6 (M + f + 1) (q45 N0 k2) [.slice p, .slice out, .int (i : Int)] [] = k2 [.slice (out ++ (q0m p f i).map C.str)] []
 | f, i, out, M, hf, hok, ho => by
  rw [U7]
  by_cases hi : i < p.length
  ·cases f with
   | zero => omega
   | succ f =>
    obtain ⟨hat, hok'⟩ := hok.at_ hp hi
    have hlt := z1w hat
    obtain ⟨o, ho18, hb⟩ := hat.op
    have h1 : (i : Int) < (p.length : Int) := by omega
    have he := hat.err
    have hg : p.length ≤ 256 ∧ (0 : Int) ≤ (i : Int) ∧ (i : Int) ≤ 100000 := by omega
    have ho1 : (0 : Int) ≤ (o : Int) ∧ (o : Int) < 18 := by omega
    have hget : C.get (.agg X1) o = X1.getD o .nil := rfl
    have hbq : ∀ x : C, (out.length + 1).beq (out ++ [x]).length = true := fun x => by simp
    have hg2 : (out.length + 1) * 16 ≤ 140737488355328 ∧ out.length + 1 ≤ 9223372036854775807 := by omega
    have ih := z5r hp hl N0 k2 f (i + 1 + x8 (bN p i)) (out ++ [.str (q2W p i)]) M (by omega) hok' (by simp only [List.length_append, List.length_cons, List.length_nil]; omega)
    have e1 : q0m p (f + 1) i = q2W p i :: q0m p f (i + 1 + x8 (bN p i)) := by rw [q0m, if_neg (by omega)]
    rw [e1]
    rw [show out ++ (q2W p i :: q0m p f (i + 1 + x8 (bN p i))).map C.str = (out ++ [C.str (q2W p i)]) ++ (q0m p f (i + 1 + x8 (bN p i))).map C.str by simp]
    rw [← ih]
    unfold q2W at hlt ⊢
    have hm := q62 ho18
    have hmb : x8 (bN p i) = x8 (o : Int) := by rw [hb]
    unfold q45
    simp only [o5, W6, q0V, q1W, u2, p9, J0, h1, decide_true, cond_true, hg, and_self, if_true, Int.toNat_natCast, he, hb, ho1, hget, y4g ho18, q9X o ho18, Nat.beq_refl] at hlt ⊢
    by_cases hmm : 0 < x8 (o : Int)
    ·have hmm' : (0 : Int) < (x8 (o : Int) : Int) := by omega
     simp only [hmm, hmm', decide_true, cond_true, if_true, List.length_append, List.length_cons, List.length_nil] at hlt ⊢
     refine (if_pos (by omega)).trans ?_
     refine (if_pos (by omega)).trans ?_
     simp only [W6, q0V, q1W, q8D, p9, Nat.beq_refl, cond_true]
     refine (if_pos hg2).trans ?_
     rfl
    ·have hmm' : ¬ (0 : Int) < (x8 (o : Int) : Int) := by omega
     simp only [hmm, hmm', decide_false, cond_false, if_false, List.append_nil, W6, q0V, q1W, q8D, p9, Nat.beq_refl, cond_true]
     refine (if_pos hg2).trans ?_
     simp only [hbq, cond_true]
     rfl
  ·have e : i = p.length := by have := hok.1; omega
   subst e
   have e1 : q0m p f p.length = [] := by cases f with
    | zero => rfl
    | succ f => rw [q0m, if_pos (Nat.le_refl _)]
   rw [e1]
   unfold q45
   simp only [W6, q0V, q1W, u2, p9, Int.lt_irrefl, decide_false, cond_false, Nat.beq_refl, cond_true, List.map_nil, List.append_nil]
end Go.Proofs.YtdoajkacibicoaaDoor
namespace Go.Proofs.YtdoajkacibicoaaDoor
open Go Go.E
set_option maxRecDepth 100000
set_option maxHeartbeats 4000000
set_option linter.unusedSimpArgs false
variable {R : Type} {N : Nat}
def z00 (i : Nat) (l : List UInt8) : List UInt8 := if 0 < i then [UInt8.ofNat 10] ++ l else l
def q4E (p : List C) : Nat → Nat → List UInt8
 | 0, _ => []
 | f + 1, i => if p.length ≤ i then [] else z00 i (q2W p i) ++ q4E p f (i + 1 + x8 (bN p i))
theorem z6U (p : List C) : ∀ (f i : Nat), 0 < i → q4E p f i = ((q0m p f i).map fun l => [UInt8.ofNat 10] ++ l).flatten
 | 0, _, _ => rfl
 | f + 1, i, h => by
  unfold q4E q0m
  split
  ·rfl
  ·rw [List.map_cons, List.flatten_cons, z6U p f _ (by omega), z00, if_pos h]
theorem z4O (sep x : List UInt8) : ∀ l : List (List UInt8), q0U sep (x :: l) = x ++ (l.map fun y => sep ++ y).flatten
 | [] => by simp [q0U]
 | y :: l => by
  have ih := z4O sep y l
  show x ++ sep ++ q0U sep (y :: l) = _
  rw [ih]; simp
theorem y2h (p : List C) (f : Nat) : q4E p f 0 = q0U [UInt8.ofNat 10] (q0m p f 0) := by
 cases f with
 | zero => rfl
 | succ f =>
  unfold q4E q0m
  split
  ·rfl
  ·rw [z4O, z6U p f _ (by omega)]; rfl
theorem z4i {p : List C} (hp : C.wf (.slice 1 (.int .u8)) (.slice p)) (hl : p.length ≤ 256) (N0 : Nat) (hN : 1000 < N0) (k2 : KD R) : ∀ (f i : Nat) (t : List UInt8) (M : Nat), p.length - i ≤ f → z3Z p i → t.length + 40 * f ≤ 100000 →
  b6 (M + f + 1) (q0c N0 k2) [.slice p, .str t, .int (i : Int)] [] = k2 [.str (t ++ q4E p f i)] []
 | f, i, t, M, hf, hok, ho => by
  rw [U7]
  by_cases hi : i < p.length
  ·cases f with
   | zero => omega
   | succ f =>
    obtain ⟨hat, hok'⟩ := hok.at_ hp hi
    have hlt := z1w hat
    obtain ⟨o, ho18, hb⟩ := hat.op
    have hnx := hat.nxt
    have h1 : (i : Int) < (p.length : Int) := by omega
    have he := hat.err
    have hnl : q32.length = 18 := by unfold q32; simp
    have ho1 : (0 : Int) ≤ (o : Int) ∧ (o : Int) < (q32.length : Int) := by rw [hnl]; omega
    have hsl : (z00 i (q2W p i)).length ≤ 32 := by
     unfold z00
     split
     ·rw [List.length_append]; show 1 + _ ≤ 32; omega
     ·omega
    have ih := z4i hp hl N0 hN k2 f (i + 1 + x8 (bN p i)) (t ++ z00 i (q2W p i)) M (by omega) hok' (by rw [List.length_append]; omega)
    have e1 : q4E p (f + 1) i = z00 i (q2W p i) ++ q4E p f (i + 1 + x8 (bN p i)) := by rw [q4E, if_neg (by omega)]
    rw [e1, ← List.append_assoc, ← ih]
    show q0c N0 k2 (b6 (M + (f + 1)) (q0c N0 k2)) _ _ = b6 (M + (f + 1)) (q0c N0 k2) _ _
    generalize b6 (M + (f + 1)) (q0c N0 k2) = rec
    have hmb : x8 (bN p i) = x8 (o : Int) := by rw [hb]
    have hm := q62 ho18
    have hw1 : IntKind.i64.wrap ((i : Int) + 1) = ((i + 1 : Nat) : Int) := q0Y (by omega)
    have hw2 : IntKind.i64.wrap (((i + 1 : Nat) : Int) + (x8 (o : Int) : Int)) = ((i + 1 + x8 (o : Int) : Nat) : Int) := by rw [wrap_i64 (by omega) (by omega)]; omega
    have hM : ∀ k : KD R, j6 N0 (.int (o : Int)) k = k [.int (x8 (o : Int))] [] := z6H ho18
    have hNm : ∀ k : KD R, H0 N0 k = k [.slice q32] [] := y0H
    obtain ⟨n, hn⟩ : ∃ n : Nat, Q3 p (i + 1) (x8 (o : Int)) = (n : Int) := ⟨(Q3 p (i + 1) (x8 (o : Int))).toNat, by have := hat.arg; rw [hmb] at this; omega⟩
    have hn64 : n < 18446744073709551616 := by have := hat.arg; rw [hmb, hn] at this; omega
    have hD : ∀ k : KD R, X6 N0 (.int (n : Int)) k = k [.str (U9 n)] [] := z5E n hn64 (by omega)
    have hdl := y1T n hn64
    have hnm := z9n ho18
    unfold q0c
    simp only [W6, q0V, q1W, u2, p9, h1, decide_true, cond_true]
    rw [y3D hp hl i (by omega) (by omega)]
    simp only [he, hb, if_true, hn, o5, W6, q0V, q1W, q8D, z6x, u2, J0]
    have fin : ∀ (u : List UInt8), u.length ≤ 100000 → (H0 N0 fun d4 m4 =>
      if (0 : Int) ≤ (o : Int) ∧ (o : Int) < ((C.elems (dk d4 0)).length : Int) then
       if u.length + (C.toStr ((C.elems (dk d4 0)).getD (Int.toNat (o : Int)) C.nil)).length ≤ 140737488355328 then
        j6 N0 (C.int (o : Int)) fun d5 m5 =>
         bif decide (0 < C.toInt (dk d5 0)) then
          if (u ++ C.toStr ((C.elems (dk d4 0)).getD (Int.toNat (o : Int)) C.nil)).length + 1 ≤ 140737488355328 then
           X6 N0 (C.int (n : Int)) fun d6 m6 =>
            if (u ++ C.toStr ((C.elems (dk d4 0)).getD (Int.toNat (o : Int)) C.nil) ++ [UInt8.ofNat 32]).length + (C.toStr (dk d6 0)).length ≤ 140737488355328 then
             j6 N0 (C.int (o : Int)) fun d7 m7 =>
              rec [.slice p, C.str (u ++ C.toStr ((C.elems (dk d4 0)).getD (Int.toNat (o : Int)) C.nil) ++ [UInt8.ofNat 32] ++ C.toStr (dk d6 0)), C.int (IntKind.wrap IntKind.i64 (IntKind.wrap IntKind.i64 ((i : Int) + 1) + C.toInt (dk d7 0)))] []
            else none
          else none
         else
          j6 N0 (C.int (o : Int)) fun d7 m7 =>
           rec [.slice p, C.str (u ++ C.toStr ((C.elems (dk d4 0)).getD (Int.toNat (o : Int)) C.nil)), C.int (IntKind.wrap IntKind.i64 (IntKind.wrap IntKind.i64 ((i : Int) + 1) + C.toInt (dk d7 0)))] []
       else none
      else none) = rec [.slice p, .str (u ++ q2W p i), .int ((i + 1 + x8 (o : Int) : Nat) : Int)] [] := by
     intro u hu
     unfold q2W
     rw [hNm]
     simp only [W6, p9]
     refine (if_pos ho1).trans ?_
     simp only [Int.toNat_natCast, z68 ho18, J0]
     refine (if_pos (by omega)).trans ?_
     rw [hM]
     simp only [W6, u2, hb, hn, Int.toNat_natCast]
     by_cases hmm : 0 < x8 (o : Int)
     ·have hmm' : (0 : Int) < (x8 (o : Int) : Int) := by omega
      simp only [hmm, hmm', decide_true, cond_true, if_true]
      refine (if_pos (by rw [List.length_append]; omega)).trans ?_
      rw [hD]
      simp only [W6, J0]
      refine (if_pos (by simp only [List.length_append, List.length_cons, List.length_nil]; omega)).trans ?_
      rw [hM]
      simp only [W6, u2, hw1, hw2, List.append_assoc]
     ·have hmm' : ¬ (0 : Int) < (x8 (o : Int) : Int) := by omega
      simp only [hmm, hmm', decide_false, cond_false, if_false, List.append_nil]
      rw [hM]
      simp only [W6, u2, hw1, hw2]
    by_cases hi0 : 0 < i
    ·have hi0' : (0 : Int) < (i : Int) := by omega
     simp only [hi0', decide_true, cond_true]
     refine (if_pos (by omega)).trans ?_
     refine (fin (t ++ [UInt8.ofNat 10]) (by simp only [List.length_append, List.length_cons, List.length_nil]; omega)).trans ?_
     unfold z00
     rw [if_pos hi0, List.append_assoc]
    ·have hi0' : ¬ (0 : Int) < (i : Int) := by omega
     simp only [hi0', decide_false, cond_false]
     refine (fin t (by omega)).trans ?_
     unfold z00
     rw [if_neg hi0]
  ·have e : i = p.length := by have := hok.1; omega
   subst e
   have e1 : q4E p f p.length = [] := by cases f with
    | zero => rfl
    | succ f => rw [q4E, if_pos (Nat.le_refl _)]
   rw [e1]
   unfold q0c
   simp only [W6, q0V, q1W, u2, p9, Int.lt_irrefl, decide_false, cond_false, List.append_nil]
end Go.Proofs.YtdoajkacibicoaaDoor
namespace Go.Proofs.YtdoajkacibicoaaDoor
open Go Go.E
set_option maxRecDepth 100000
set_option maxHeartbeats 4000000
set_option linter.unusedSimpArgs false
variable {R : Type} {N : Nat}
theorem y3V (s : List UInt8) (hl : s.length ≤ 65536) (hN : 140737488355329 < N) (k : KD R) :
  b6 N (q1p N k (fun _ _ => k [.slice [], .int 40] [])) [.str s, .int (c7 s : Int), .int 0] [] = k [.slice (q1S s).1, .int (q1S s).2] [] := by
 have hle := z2F s
 have key := q6f (ε := List C × Int) (N := N) (F := q1p N k (fun _ _ => k [.slice [], .int 40] [])) (fun i (_ : Unit) => [.str s, .int (c7 s : Int), .int (i : Int)]) (fun _ _ => []) (List.range 18)
   (fun o _ _ => q8t (s.take (c7 s)) (decide (c7 s < s.length)) (s.drop (c7 s + 1)) o) (fun _ => k [.slice [], .int 40] []) (fun r => k [.slice r.1, .int r.2] []) (fun _ _ => True) (s0 := ()) trivial
   (fun o _ c hc _ => by
    have ho : o < 18 := by have := (List.getElem?_eq_some_iff.1 hc).1; simpa using this
    refine ⟨fun rec => ?_, fun _ _ => trivial⟩
    have h1 : (o : Int) < 18 := by omega
    have hnl : q32.length = 18 := by unfold q32; simp
    have h1' : (o : Int) < (q32.length : Int) := by rw [hnl]; omega
    have hw : IntKind.wrap IntKind.u8 (o : Int) = (o : Int) := by rw [wrap_u8]; omega
    have hcl : (c7 s : Int) ≤ (s.length : Int) := by omega
    have hz : (Int.ofNat 0 : Int) ≤ 0 := by decide
    unfold q1p
    simp only [W6, q0V, q1W, u2, J0, h1, decide_true, cond_true]
    rw [y0H]
    simp only [W6, q0V, q1W, u2, J0, p9, h1', hz, hcl, Int.natCast_nonneg, and_self, if_true, Int.toNat_natCast, z68 ho, List.drop_zero, q0Y (show o < 4611686018427387904 by omega)]
    unfold q8t
    by_cases hn : q4P o = s.take (c7 s)
    ·have hb : (q4P o == s.take (c7 s)) = true := by rw [beq_iff_eq]; exact hn
     rw [hb, if_pos hn, Bool.not_true, cond_false, z6H ho]
     simp only [W6, q0V, q1W, u2]
     unfold z84
     by_cases hf : c7 s < s.length
     ·have hf1 : (c7 s : Int) < (s.length : Int) := by omega
      have hf2 : ¬ (c7 s : Int) = (s.length : Int) := by omega
      by_cases hm : (0 : Int) < (x8 (o : Int) : Int)
      ·have hm' : 0 < x8 (o : Int) := by omega
       have hw1 : IntKind.i64.wrap ((c7 s : Int) + 1) = ((c7 s + 1 : Nat) : Int) := q0Y (by omega)
       have h2 : ((c7 s + 1 : Nat) : Int) ≤ (s.length : Int) := by omega
       simp only [hf, hf1, hf2, hm, hm', decide_true, decide_false, cond_true, cond_false, beq_self_eq_true, Bool.not_true, if_true, hw1, h2, Int.natCast_nonneg, Int.le_refl, and_self, Int.toNat_natCast, List.take_length, o5]
       have hrl : (s.drop (c7 s + 1)).length ≤ 65536 := by rw [List.length_drop]; omega
       generalize s.drop (c7 s + 1) = r at hrl
       rw [y3M _ r hrl hN]
       have hmc := q62 ho
       have hB : 8 * x8 (o : Int) = 8 ∨ 8 * x8 (o : Int) = 16 ∨ 8 * x8 (o : Int) = 64 := by omega
       rcases y0h r 0 0 with ⟨u, hu, hx⟩ | ⟨hu, x, hx⟩
       ·have hQ : z9k (8 * x8 (o : Int)) r = if r ≠ [] ∧ u ≤ 2 ^ (8 * x8 (o : Int)) - 1 ∧ U9 u = r then some u else none := by rw [y1z hB, hu]
        have hlt := Lib.parseUint10_lt r 0 u (by decide) hu
        have hR : ∀ k : KD R, q1D N (C.slice [C.int (o : Int)]) (C.int (u : Int)) (C.int (x8 (o : Int) : Int)) k = k [.slice ([C.int (o : Int)] ++ F3 (x8 (o : Int)) (u : Int))] [] := fun k => y69 [C.int (o : Int)] (C.int (u : Int)) ⟨by simp only [u2]; omega, by simp only [u2]; omega⟩ _ (by omega) (by simp; omega) (by omega) k
        have hM : ∀ k : KD R, j6 N (.int (o : Int)) k = k [.int (x8 (o : Int))] [] := z6H ho
        have hD : ∀ k : KD R, X6 N (.int (u : Int)) k = k [.str (U9 u)] [] := z5E u hlt (by omega)
        rw [hx, hQ]
        simp only [z95, W6, q0V, q1W, q8D, Z4, u2, J0, p9, cond_false, hM, hD, hw, hR]
        by_cases hr : r = []
        ·subst hr
         rfl
        ·have hrl0 : ¬ ((r.length : Int) = 0) := by
          have : r.length ≠ 0 := fun h => hr (List.eq_nil_of_length_eq_zero h)
          omega
         by_cases hd : U9 u = r
         ·have hd' : (U9 u == r) = true := by rw [beq_iff_eq]; exact hd
          rw [hd']
          simp only [hrl0, decide_false, cond_false, Bool.not_true]
          have e8 : 2 ^ (8 * 1) - 1 = 255 := by decide
          have e16 : 2 ^ (8 * 2) - 1 = 65535 := by decide
          have e64 : 2 ^ (8 * 8) - 1 = 18446744073709551615 := by decide
          generalize x8 (o : Int) = m at hmc hm' ⊢
          have hmc' : m = 1 ∨ m = 2 ∨ m = 8 := by omega
          rcases hmc' with rfl | rfl | rfl
          ·by_cases hb : 255 < (u : Int)
           ·rw [if_neg (show ¬ (r ≠ [] ∧ u ≤ 2 ^ (8 * 1) - 1 ∧ U9 u = r) from fun h => by rw [e8] at h; omega)]
            simp only [hb, decide_true, cond_true]
            rfl
           ·rw [if_pos (show r ≠ [] ∧ u ≤ 2 ^ (8 * 1) - 1 ∧ U9 u = r from ⟨hr, by rw [e8]; omega, hd⟩)]
            simp only [hb, decide_false, cond_false]
            rfl
          ·by_cases hb : 65535 < (u : Int)
           ·rw [if_neg (show ¬ (r ≠ [] ∧ u ≤ 2 ^ (8 * 2) - 1 ∧ U9 u = r) from fun h => by rw [e16] at h; omega)]
            simp only [hb, decide_true, cond_true]
            rfl
           ·rw [if_pos (show r ≠ [] ∧ u ≤ 2 ^ (8 * 2) - 1 ∧ U9 u = r from ⟨hr, by rw [e16]; omega, hd⟩)]
            simp only [hb, decide_false, cond_false]
            rfl
          ·rw [if_pos (show r ≠ [] ∧ u ≤ 2 ^ (8 * 8) - 1 ∧ U9 u = r from ⟨hr, by rw [e64]; omega, hd⟩)]
           rfl
         ·have hd' : (U9 u == r) = false := by rw [beq_eq_false_iff_ne]; exact hd
          rw [hd', if_neg (show ¬ (r ≠ [] ∧ u ≤ 2 ^ (8 * x8 (o : Int)) - 1 ∧ U9 u = r) from fun h => hd h.2.2)]
          simp only [hrl0, decide_false, cond_false, Bool.not_false, cond_true]
       ·rw [hx, y1z hB]
        cases hp : Lib.parseUint10 0 r with
        | ok v => exact absurd hp (hu v)
        | range => rfl
        | _ => rfl
      ·have hm' : ¬ 0 < x8 (o : Int) := by omega
       simp only [hf, hf1, hm, hm', decide_true, decide_false]
       rfl
     ·have hf1 : ¬ (c7 s : Int) < (s.length : Int) := by omega
      have hf2 : (c7 s : Int) = (s.length : Int) := by omega
      by_cases hm : (0 : Int) < (x8 (o : Int) : Int)
      ·have hm' : 0 < x8 (o : Int) := by omega
       simp only [hf, hf1, hm, hm', decide_true, decide_false]
       rfl
      ·have hm' : ¬ 0 < x8 (o : Int) := by omega
       simp only [hf, hf2, hm, hm', decide_true, decide_false, hw, Int.lt_irrefl, Nat.lt_irrefl]
       rfl
    ·have hb : (q4P o == s.take (c7 s)) = false := by rw [beq_eq_false_iff_ne]; exact hn
     rw [hb, if_neg hn]
     rfl)
   (fun _ _ rec => by
    rw [show (List.range 18).length = 18 from List.length_range]
    unfold q1p
    have h1 : ¬ ((18 : Int) < 18) := by decide
    simp only [go_sem, u2, h1, decide_false, cond_false]) (by rw [List.length_range]; omega)
 have key : b6 N (q1p N k (fun _ _ => k [.slice [], .int 40] [])) [.str s, .int (c7 s : Int), .int 0] [] = _ := key
 rw [key]
 unfold q1S z3u
 cases q0R (fun o (_ : Unit) (_ : Nat) => q8t (s.take (c7 s)) (decide (c7 s < s.length)) (s.drop (c7 s + 1)) o) 0 () (List.range 18) <;> rfl
theorem y7k (s : List UInt8) (hl : s.length ≤ 65536) (hN : 140737488355329 < N) (k : KD R) : q0o N (.str s) k = k [.slice (q1S s).1, .int (q1S s).2] [] := by
 rw [z0g]
 unfold q4a
 simp only [o5, J0]
 rw [y68 s hl hN]
 simp only [W6, q0V]
 exact y3V s hl hN k
end Go.Proofs.YtdoajkacibicoaaDoor
namespace Go.Proofs.YtdoajkacibicoaaDoor
open Go Go.E
set_option maxRecDepth 100000
set_option maxHeartbeats 4000000
set_option linter.unusedVariables false
noncomputable def z8b : Hints := [([1, 0, 1, 1, 1, 1], ⟨[], [(4, .sl 1 (.int .u8) 5004)], [], [], [], []⟩),
  ([4, 1, 0, 1, 1, 1, 1], ⟨[18, 19], [(4, .sl 1 (.int .u8) 5004), (20, .d (.int .i64))], [], [], [], []⟩),
  ([9], ⟨[], [(2, .sl 1 (.int .u8) 5002), (3, .d (.int .i64))], [], [], [], []⟩)]
noncomputable def z0y (N : Nat) : OvS (X0 gl0) where
 g R := [(10, q1Z N), (19, q5O N), (20, q7S N)]
 ok := fun R => List.forall_mem_cons.2 ⟨q4f N, List.forall_mem_cons.2 ⟨z1x N, List.forall_mem_cons.2 ⟨z77 N, fun _ h => nomatch h⟩⟩⟩
noncomputable def q1s {R : Type} (N : Nat) (k1 : KD R) (k2 : KD R) : KD R → List C → List Es → Option R := (fun k3 d1 m1 => (bif decide (C.toInt (dk d1 3) < C.toInt (dk d1 1)) then (if 0 ≤ C.toInt (dk d1 3) ∧ C.toInt (dk d1 3) < (↑(List.length (C.elems (dk d1 0))) : Int) then (q1Y N (List.getD (C.elems (dk d1 0)) (Int.toNat (C.toInt (dk d1 3))) C.nil) (fun d2 m2 => (bif !decide (C.toInt (dk d2 1) = 0) then (k1 [C.slice [], dk d2 1] []) else (bif Nat.beq (List.length (C.elems (dk d1 2))) (List.length (C.elems (dk d1 2))) then (if (List.length (C.elems (dk d1 2)) + List.length (C.elems (dk d2 0))) * 1 ≤ 140737488355328 ∧ List.length (C.elems (dk d1 2)) + List.length (C.elems (dk d2 0)) ≤ 9223372036854775807 then (bif Nat.beq (List.length (C.elems (dk d1 2)) + List.length (C.elems (dk d2 0))) (List.length (C.elems (dk d1 2) ++ C.elems (dk d2 0))) then (k3 [dk d1 0, dk d1 1, C.slice (C.elems (dk d1 2) ++ C.elems (dk d2 0)), C.int (IntKind.wrap IntKind.i64 (C.toInt (dk d1 3) + 1))] []) else none) else none) else none)))) else none) else (bif Nat.beq (List.length (C.elems (dk d1 2))) (List.length (C.elems (dk d1 2))) then (k2 [C.slice (C.elems (dk d1 2))] []) else none)))
noncomputable def q2w {R : Type} (N : Nat) (a0 : C) (k1 : KD R) : Option R := (bif decide (4096 < (↑(List.length (C.toStr a0)) : Int)) then (k1 [C.slice [], C.int 8] []) else (bif C.toStr a0 == [] then (k1 [C.slice [], C.int 0] []) else (if 1 = 1 ∧ List.length (C.toStr a0) < 4294967281 then (jn (fun d1 m1 => (bif !decide (Q7 (C.elems (dk d1 0)) = 0) then (k1 [C.slice [], C.int (Q7 (C.elems (dk d1 0)))] []) else (bif Nat.beq (List.length (C.elems (dk d1 0))) (List.length (C.elems (dk d1 0))) then (k1 [C.slice (C.elems (dk d1 0)), C.int 0] []) else none))) (fun k2 => (b6 N (q1s N k1 k2) [C.slice (List.map C.str (Z0 (UInt8.ofNat 10) (C.toStr a0))), C.int (↑(List.length (List.map C.str (Z0 (UInt8.ofNat 10) (C.toStr a0)))) : Int), C.slice [], C.int 0] []))) else none)))
noncomputable def q1d {R : Type} (N : Nat) : C → KD R → Option R := lid "" (q2w N)
theorem z0x {R : Type} (N : Nat) (a0 : C) (k : KD R) : q1d N a0 k = q2w N a0 k := by unfold q1d; rw [Z8]
theorem z6C {R : Type} (N : Nat) (a0 : C) (K : V → List (Key × O) → Option R) : exF (X0 gl0) ((z0y N).ov R) H9 noX (fun f => bif Nat.beq f 7 then z8b else []) N 400 8 7 [.d .str a0] A0 K =
  q1d N a0 (fun d1 m1 => K (V.tup [V.ts 1 (Ty.int IntKind.u8) (C.elems (dk d1 0)), V.d (Ty.int IntKind.i64) (dk d1 1)]) []) := by
 rw [z0x]
 exact (show _ = jn (fun d1 m1 => (bif Nat.beq (List.length (C.elems (dk d1 0))) (List.length (C.elems (dk d1 0))) then
  (K (V.tup [V.ts 1 (Ty.int IntKind.u8) (C.elems (dk d1 0)), V.d (Ty.int IntKind.i64) (dk d1 1)]) [])
 else
  none)) (q2w N a0) by kernel_rfl).trans ((o5 _ _).trans (congrArg (q2w N a0) (funext fun _ => funext fun _ => by simp only [Nat.beq_refl, cond_true])))
noncomputable def q7T (N : Nat) {R : Type} : OvG R := fun xs _ K => match xs with
 | [.d t0 a0] => if t0 = .str then q1d N a0 (fun d1 m1 => K (V.tup [V.ts 1 (Ty.int IntKind.u8) (C.elems (dk d1 0)), V.d (Ty.int IntKind.i64) (dk d1 1)]) []) else none
 | _ => none
theorem z8a (N : Nat) {R : Type} : GOk (X0 gl0) 7 (q7T N (R := R)) := by
 intro xs A Kr r hr
 unfold q7T at hr
 split at hr
 ·simp only [Option.ite_none_right_eq_some] at hr
  obtain ⟨hty, hr⟩ := hr
  subst hty
  rw [← z6C] at hr
  exact okA (z0y N) hr
 ·cases hr
noncomputable def z5U : Hints := [([1, 0, 1, 1, 1, 1], ⟨[], [(4, .sl 1 (.int .u8) 5004)], [], [], [], []⟩),
  ([4, 1, 0, 1, 1, 1, 1], ⟨[0], [(4, .sl 1 (.int .u8) 5004), (5, .d (.int .i64)), (6, .d (.int .i64))], [], [], [], []⟩),
  ([0, 0, 5, 4, 1, 0, 1, 1, 1, 1], ⟨[0, 5, 6], [(4, .sl 1 (.int .u8) 5004), (20, .d .bool)], [], [], [], []⟩),
  ([0, 1, 5, 4, 1, 0, 1, 1, 1, 1], ⟨[0, 6], [(4, .sl 1 (.int .u8) 5004), (5, .d (.int .i64))], [], [], [], []⟩),
  ([0, 0, 4, 0, 1, 5, 4, 1, 0, 1, 1, 1, 1], ⟨[0, 5, 6], [(4, .sl 1 (.int .u8) 5004), (32, .d .bool)], [], [], [], []⟩),
  ([9], ⟨[], [(2, .sl 1 (.int .u8) 5002), (3, .d (.int .i64))], [], [], [], []⟩)]
noncomputable def q8X (N : Nat) : OvS (X0 gl0) where
 g R := [(11, q2q N), (21, q7r N)]
 ok := fun R => List.forall_mem_cons.2 ⟨q5n N, List.forall_mem_cons.2 ⟨z7H N, fun _ h => nomatch h⟩⟩
noncomputable def q0g {R : Type} (N : Nat) (k1 : KD R) (k2 : KD R) : KD R → List C → List Es → Option R := (fun k3 d1 m1 => (jn (fun d2 m2 => (bif C.toBool (dk d2 4) then (jn (fun d3 m3 => (bif Nat.beq (List.length (C.elems (dk d3 2))) (List.length (C.elems (dk d3 2))) then (k3 [dk d3 0, C.slice (C.elems (dk d3 2)), dk d3 3, C.int (IntKind.wrap IntKind.i64 (C.toInt (dk d3 1) + 1))] []) else none)) (fun k4 => (jn (fun d3 m3 => (bif C.toBool (dk d3 4) then (bif Nat.beq (List.length (C.elems (dk d3 3))) (List.length (C.elems (dk d3 3))) then (k4 [dk d3 0, dk d3 2, C.slice (C.elems (dk d3 3)), dk d3 1] []) else none) else (if 0 ≤ C.toInt (dk d3 1) ∧ C.toInt (dk d3 1) ≤ C.toInt (dk d3 2) ∧ C.toInt (dk d3 2) ≤ (↑(List.length (C.toStr (dk d3 0))) : Int) then (q0o N (C.str (List.drop (Int.toNat (C.toInt (dk d3 1))) (List.take (Int.toNat (C.toInt (dk d3 2))) (C.toStr (dk d3 0))))) (fun d4 m4 => (bif !decide (C.toInt (dk d4 1) = 0) then (k1 [C.slice [], dk d4 1] []) else (bif Nat.beq (List.length (C.elems (dk d3 3))) (List.length (C.elems (dk d3 3))) then (if (List.length (C.elems (dk d3 3)) + List.length (C.elems (dk d4 0))) * 1 ≤ 140737488355328 ∧ List.length (C.elems (dk d3 3)) + List.length (C.elems (dk d4 0)) ≤ 9223372036854775807 then (bif Nat.beq (List.length (C.elems (dk d3 3)) + List.length (C.elems (dk d4 0))) (List.length (C.elems (dk d3 3) ++ C.elems (dk d4 0))) then (k4 [dk d3 0, dk d3 2, C.slice (C.elems (dk d3 3) ++ C.elems (dk d4 0)), C.int (IntKind.wrap IntKind.i64 (C.toInt (dk d3 2) + 1))] []) else none) else none) else none)))) else none))) (fun k5 => (bif decide (C.toInt (dk d2 2) < (↑(List.length (C.toStr (dk d2 0))) : Int)) then (if 0 ≤ C.toInt (dk d2 2) ∧ C.toInt (dk d2 2) < (↑(List.length (C.toStr (dk d2 0))) : Int) then (bif Nat.beq (List.length (C.elems (dk d2 3))) (List.length (C.elems (dk d2 3))) then (k5 [dk d2 0, dk d2 1, dk d2 2, C.slice (C.elems (dk d2 3)), C.bool !decide ((↑(UInt8.toNat (List.getD (C.toStr (dk d2 0)) (Int.toNat (C.toInt (dk d2 2))) (UInt8.ofNat 0))) : Int) = 10)] []) else none) else none) else (bif Nat.beq (List.length (C.elems (dk d2 3))) (List.length (C.elems (dk d2 3))) then (k5 [dk d2 0, dk d2 1, dk d2 2, C.slice (C.elems (dk d2 3)), C.bool false] []) else none)))))) else (bif Nat.beq (List.length (C.elems (dk d2 3))) (List.length (C.elems (dk d2 3))) then (k2 [C.slice (C.elems (dk d2 3))] []) else none))) (fun k4 => (bif decide (C.toInt (dk d1 3) ≤ (↑(List.length (C.toStr (dk d1 0))) : Int)) then (bif Nat.beq (List.length (C.elems (dk d1 1))) (List.length (C.elems (dk d1 1))) then (k4 [dk d1 0, dk d1 2, dk d1 3, C.slice (C.elems (dk d1 1)), C.bool !C.toStr (dk d1 0) == []] []) else none) else (bif Nat.beq (List.length (C.elems (dk d1 1))) (List.length (C.elems (dk d1 1))) then (k4 [dk d1 0, dk d1 2, dk d1 3, C.slice (C.elems (dk d1 1)), C.bool false] []) else none)))))
noncomputable def q1Q {R : Type} (N : Nat) (a0 : C) (k1 : KD R) : Option R := (bif decide (4096 < (↑(List.length (C.toStr a0)) : Int)) then (k1 [C.slice [], C.int 8] []) else (jn (fun d1 m1 => (bif !decide (Q7 (C.elems (dk d1 0)) = 0) then (k1 [C.slice [], C.int (Q7 (C.elems (dk d1 0)))] []) else (bif Nat.beq (List.length (C.elems (dk d1 0))) (List.length (C.elems (dk d1 0))) then (k1 [C.slice (C.elems (dk d1 0)), C.int 0] []) else none))) (fun k2 => (b6 N (q0g N k1 k2) [a0, C.slice [], C.int 0, C.int 0] []))))
noncomputable def q0F {R : Type} (N : Nat) : C → KD R → Option R := lid "" (q1Q N)
theorem q8W {R : Type} (N : Nat) (a0 : C) (k : KD R) : q0F N a0 k = q1Q N a0 k := by unfold q0F; rw [Z8]
theorem z4n {R : Type} (N : Nat) (a0 : C) (K : V → List (Key × O) → Option R) : exF (X0 gl0) ((q8X N).ov R) H9 noX (fun f => bif Nat.beq f 8 then z5U else []) N 400 8 8 [.d .str a0] A0 K =
  q0F N a0 (fun d1 m1 => K (V.tup [V.ts 1 (Ty.int IntKind.u8) (C.elems (dk d1 0)), V.d (Ty.int IntKind.i64) (dk d1 1)]) []) := by
 rw [q8W]
 exact (show _ = jn (fun d1 m1 => (bif Nat.beq (List.length (C.elems (dk d1 0))) (List.length (C.elems (dk d1 0))) then
  (K (V.tup [V.ts 1 (Ty.int IntKind.u8) (C.elems (dk d1 0)), V.d (Ty.int IntKind.i64) (dk d1 1)]) [])
 else
  none)) (q1Q N a0) by kernel_rfl).trans ((o5 _ _).trans (congrArg (q1Q N a0) (funext fun _ => funext fun _ => by simp only [Nat.beq_refl, cond_true])))
noncomputable def q6G (N : Nat) {R : Type} : OvG R := fun xs _ K => match xs with
 | [.d t0 a0] => if t0 = .str then q0F N a0 (fun d1 m1 => K (V.tup [V.ts 1 (Ty.int IntKind.u8) (C.elems (dk d1 0)), V.d (Ty.int IntKind.i64) (dk d1 1)]) []) else none
 | _ => none
theorem z5T (N : Nat) {R : Type} : GOk (X0 gl0) 8 (q6G N (R := R)) := by
 intro xs A Kr r hr
 unfold q6G at hr
 split at hr
 ·simp only [Option.ite_none_right_eq_some] at hr
  obtain ⟨hty, hr⟩ := hr
  subst hty
  rw [← z4n] at hr
  exact okA (q8X N) hr
 ·cases hr
end Go.Proofs.YtdoajkacibicoaaDoor
namespace Go.Proofs.YtdoajkacibicoaaDoor
open Go Go.E
set_option maxRecDepth 100000
set_option maxHeartbeats 4000000
set_option linter.unusedSimpArgs false
variable {R : Type} {N : Nat}
theorem y5r (f : Bool) (rest : List UInt8) (o : Nat) : (z84 f rest o).1.length ≤ 9 := by
 unfold z84
 have := q3d (o : Int)
 split
 ·cases f with
  | true =>
   simp only [cond_true]
   split
   ·rw [List.length_cons, q2b]; omega
   ·simp
  | false => simp
 ·simp
theorem y5s (nm : List UInt8) (f : Bool) (rest : List UInt8) : (z3u nm f rest).1.length ≤ 9 := by
 have key : ∀ (l : List Nat) (i : Nat), match q0R (fun o (_ : Unit) (_ : Nat) => q8t nm f rest o) i () l with | .inl _ => True | .inr r => r.1.length ≤ 9 := by
  intro l
  induction l with
  | nil => intro i; trivial
  | cons _ l ih =>
   intro i
   simp only [q0R]
   unfold q8t
   by_cases h : q4P i = nm
   ·rw [if_pos h]; exact y5r _ _ _
   ·rw [if_neg h]; exact ih (i + 1)
 have := key (List.range 18) 0
 unfold z3u
 revert this
 cases q0R (fun o (_ : Unit) (_ : Nat) => q8t nm f rest o) 0 () (List.range 18) with
 | inl _ => intro _; simp
 | inr r => intro h; exact h
theorem z3v (s : List UInt8) : (q1S s).1.length ≤ 9 := y5s _ _ _
def q4U (out : List C) (s : List UInt8) : List C ⊕ Int := if (q1S s).2 = 0 then .inl (out ++ (q1S s).1) else .inr (q1S s).2
def q8e (ls : List (List UInt8)) : List C ⊕ Int := q0R (fun _ out s => q4U out s) 0 [] ls
theorem z9A {n : Nat} {out out' : List C} {s : List UInt8} (ho : out.length ≤ 9 * n) (h : q4U out s = .inl out') : out'.length ≤ 9 * (n + 1) := by
 unfold q4U at h
 split at h
 ·cases h; have := z3v s; rw [List.length_append]; omega
 ·cases h
theorem y8F (ls : List (List UInt8)) (hl : ls.length ≤ 65537) (hw : ∀ w ∈ ls, w.length ≤ 65536) (hN : 140737488355329 < N) (k1 k2 : KD R) :
  b6 N (q1s N k1 k2) [.slice (ls.map C.str), .int (ls.length : Int), .slice [], .int 0] [] = (match q8e ls with | .inl out => k2 [.slice out] [] | .inr e => k1 [.slice [], .int e] []) := by
 have key := q6f (ε := Int) (N := N) (F := q1s N k1 k2) (fun i (out : List C) => [.slice (ls.map C.str), .int (ls.length : Int), .slice out, .int (i : Int)]) (fun _ _ => []) ls
   (fun _ out s => q4U out s) (fun out => k2 [.slice out] []) (fun e => k1 [.slice [], .int e] []) (fun i out => out.length ≤ 9 * i) (s0 := []) (Nat.le_refl _)
   (fun i out s hc ho => by
    have hi := (List.getElem?_eq_some_iff.1 hc).1
    have hs := hw s (List.mem_of_getElem? hc)
    refine ⟨fun rec => ?_, fun out' h => z9A ho h⟩
    have h1 : (i : Int) < (ls.length : Int) := by omega
    have hol := z3v s
    have g1 : (ls.map C.str).getD i .nil = .str s := by rw [List.getD_eq_getElem?_getD, List.getElem?_map, hc]; rfl
    have hb : (out.length + (q1S s).1.length).beq (out ++ (q1S s).1).length = true := by rw [List.length_append]; exact Nat.beq_refl _
    unfold q1s
    simp only [go_sem, u2, p9, J0, Z4, List.length_map, h1, decide_true, cond_true, Int.natCast_nonneg, and_self, if_true, Int.toNat_natCast, g1, Nat.beq_refl]
    rw [y5q s (by omega) hN]
    simp only [go_sem, u2, p9]
    unfold q4U
    by_cases h0 : (q1S s).2 = 0
    ·rw [if_pos h0]
     simp only [h0, decide_true, Bool.not_true, cond_false, hb, cond_true, q0Y (show i < 4611686018427387904 by omega)]
     exact if_pos (by omega)
    ·rw [if_neg h0]
     simp only [h0, decide_false, Bool.not_false, cond_true])
   (fun out ho rec => by
    unfold q1s
    simp only [go_sem, u2, p9, J0, Z4, Int.lt_irrefl, decide_false, cond_false, Nat.beq_refl, cond_true]) (by omega)
 have key : b6 N (q1s N k1 k2) [.slice (ls.map C.str), .int (ls.length : Int), .slice [], .int 0] [] = _ := key
 rw [key]
 show z95 _ _ (q8e ls) = _
 cases q8e ls <;> rfl
def q3Z (b : UInt8) : List UInt8 → List UInt8 → List (List UInt8)
 | cur, [] => [cur]
 | cur, c :: l => if c = b then cur :: q3Z b [] l else q3Z b (cur ++ [c]) l
theorem z0V (b : UInt8) : ∀ s, ∃ x l, Z0 b s = x :: l
 | [] => ⟨_, _, rfl⟩
 | c :: s => by
  obtain ⟨x, l, h⟩ := z0V b s
  unfold Z0
  split
  ·exact ⟨_, _, rfl⟩
  ·rw [h]; exact ⟨_, _, rfl⟩
theorem z0W (b : UInt8) : ∀ (l cur : List UInt8) (x : List UInt8) (xs : List (List UInt8)), Z0 b l = x :: xs → q3Z b cur l = (cur ++ x) :: xs
 | [], cur, x, xs, h => by simp [Z0] at h; obtain ⟨rfl, rfl⟩ := h; simp [q3Z]
 | c :: l, cur, x, xs, h => by
  obtain ⟨y, ys, hy⟩ := z0V b l
  unfold Z0 at h
  unfold q3Z
  split
  ·rename_i e
   rw [if_pos e] at h
   injection h with h1 h2
   subst h1
   rw [z0W b l [] y ys hy, List.nil_append, ← hy, h2, List.append_nil]
  ·rename_i e
   rw [if_neg e, hy] at h
   injection h with h1 h2
   subst h1 h2
   rw [z0W b l (cur ++ [c]) y ys hy]; simp
theorem y2c (b : UInt8) (l : List UInt8) : q3Z b [] l = Z0 b l := by
 obtain ⟨y, ys, hy⟩ := z0V b l
 rw [z0W b l [] y ys hy, hy]; rfl
def evF (s : List UInt8) (i : Nat) (p : List C × Nat) : (List C × Nat) ⊕ Int :=
 if i < s.length ∧ s.getD i (UInt8.ofNat 0) ≠ UInt8.ofNat 10 then .inl p else match q4U p.1 ((s.take i).drop p.2) with
  | .inl out => .inl (out, i + 1)
  | .inr e => .inr e
def y8v : (List C × Nat) ⊕ Int → List C ⊕ Int
 | .inl q => .inl q.1
 | .inr e => .inr e
theorem z9V (s : List UInt8) : ∀ (l : List UInt8) (i j : Nat) (p : List C × Nat), s.drop i = l → i ≤ s.length → p.2 ≤ i →
  y8v (q0R (fun i p (_ : Unit) => evF s i p) i p (List.replicate (l.length + 1) ())) = q0R (fun _ out w => q4U out w) j p.1 (q3Z (UInt8.ofNat 10) ((s.take i).drop p.2) l)
 | [], i, j, p, h, hi, hp => by
  have : i = s.length := by have := congrArg List.length h; simp at this; omega
  subst this
  have e1 : List.replicate (([] : List UInt8).length + 1) () = [()] := rfl
  rw [e1]
  simp only [q0R, q3Z, evF]
  rw [if_neg (show ¬ (s.length < s.length ∧ s.getD s.length (UInt8.ofNat 0) ≠ UInt8.ofNat 10) from fun h => Nat.lt_irrefl _ h.1)]
  cases q4U p.1 ((s.take s.length).drop p.2) <;> rfl
 | c :: l, i, j, p, h, hi, hp => by
  have hlt : i < s.length := by have := congrArg List.length h; simp at this; omega
  have hc : s[i]? = some c := by
   have := List.getElem?_drop (xs := s) (i := i) (j := 0)
   rw [h] at this
   simpa using this.symm
  have hgc : s.getD i (UInt8.ofNat 0) = c := by rw [List.getD_eq_getElem?_getD, hc]; rfl
  have hd : s.drop (i + 1) = l := by rw [← List.tail_drop, h]; rfl
  have ht : s.take (i + 1) = s.take i ++ [c] := by rw [List.take_add_one, hc]; rfl
  have e1 : List.replicate ((c :: l).length + 1) () = () :: List.replicate (l.length + 1) () := rfl
  rw [e1]
  simp only [q0R, q3Z, evF, hgc]
  by_cases e : c = UInt8.ofNat 10
  ·rw [if_neg (show ¬ (i < s.length ∧ c ≠ UInt8.ofNat 10) from fun h => h.2 e), if_pos e]
   simp only [q0R]
   cases hL : q4U p.1 ((s.take i).drop p.2) with
   | inr e => rfl
   | inl out =>
    have ih := z9V s l (i + 1) (j + 1) (out, i + 1) hd (by omega) (Nat.le_refl _)
    have e3 : (s.take (i + 1)).drop (i + 1) = [] := by simp
    simp only [e3] at ih
    exact ih
  ·rw [if_pos ⟨hlt, e⟩, if_neg e]
   have ih := z9V s l (i + 1) j p hd (by omega) (by omega)
   rw [ht, List.drop_append_of_le_length (by simp; omega)] at ih
   exact ih
end Go.Proofs.YtdoajkacibicoaaDoor
namespace Go.Proofs.YtdoajkacibicoaaDoor
open Go Go.E
set_option maxRecDepth 100000
set_option maxHeartbeats 4000000
set_option linter.unusedSimpArgs false
variable {R : Type} {N : Nat}
theorem y4M (c : UInt8) : ((c.toNat : Int) = 10) ↔ c = UInt8.ofNat 10 := by
 constructor
 ·intro h; exact UInt8.toNat_inj.1 (by show c.toNat = 10; omega)
 ·rintro rfl; rfl
theorem y5i (s : List UInt8) (hne : s ≠ []) (hl : s.length ≤ 4096) (hN : 140737488355329 < N) (k1 k2 : KD R) :
  b6 N (q0g N k1 k2) [.str s, .slice [], .int 0, .int 0] [] = (match q8e (Z0 (UInt8.ofNat 10) s) with | .inl out => k2 [.slice out] [] | .inr e => k1 [.slice [], .int e] []) := by
 have hne' : (s == []) = false := by simpa using hne
 have key := q6f (ε := Int) (N := N) (F := q0g N k1 k2) (fun i (p : List C × Nat) => [.str s, .slice p.1, .int (p.2 : Int), .int (i : Int)]) (fun _ _ => []) (List.replicate (s.length + 1) ())
   (fun i p _ => evF s i p) (fun p => k2 [.slice p.1] []) (fun e => k1 [.slice [], .int e] []) (fun i p => p.2 ≤ i ∧ p.1.length ≤ 9 * i) (s0 := ([], 0)) ⟨Nat.le_refl _, Nat.le_refl _⟩
   (fun i p c hc hp => by
    have hi : i ≤ s.length := by have := (List.getElem?_eq_some_iff.1 hc).1; rw [List.length_replicate] at this; omega
    obtain ⟨hp1, hp2⟩ := hp
    refine ⟨fun rec => ?_, fun p' h => ?_⟩
    ·have h1 : (i : Int) ≤ (s.length : Int) := by omega
     have hol := z3v ((s.take i).drop p.2)
     have hb : (p.1.length + (q1S ((s.take i).drop p.2)).1.length).beq (p.1 ++ (q1S ((s.take i).drop p.2)).1).length = true := by rw [List.length_append]; exact Nat.beq_refl _
     have hg : (0 : Int) ≤ (p.2 : Int) ∧ (p.2 : Int) ≤ (i : Int) ∧ (i : Int) ≤ (s.length : Int) := by omega
     have hlen : ((s.take i).drop p.2).length ≤ 65536 := by rw [List.length_drop, List.length_take]; omega
     have hline : ∀ k : KD R, q0o N (.str ((s.take i).drop p.2)) k = k [.slice (q1S ((s.take i).drop p.2)).1, .int (q1S ((s.take i).drop p.2)).2] [] := y7k _ hlen hN
     unfold q0g evF
     simp only [o5, W6, q0V, q1W, q8D, z6x, u2, p9, J0, Z4, h1, hne', decide_true, cond_true, Bool.not_false, Nat.beq_refl]
     have main : (if (0 : Int) ≤ (p.2 : Int) ∧ (p.2 : Int) ≤ (i : Int) ∧ (i : Int) ≤ (s.length : Int) then
       (q0o N (C.str (List.drop (Int.toNat (p.2 : Int)) (List.take (Int.toNat (i : Int)) s))) fun d4 m4 =>
        bif !decide (C.toInt (dk d4 1) = 0) then k1 [C.slice [], dk d4 1] []
        else if (p.1.length + List.length (C.elems (dk d4 0))) * 1 ≤ 140737488355328 ∧ p.1.length + List.length (C.elems (dk d4 0)) ≤ 9223372036854775807 then
         bif Nat.beq (p.1.length + List.length (C.elems (dk d4 0))) (List.length (p.1 ++ C.elems (dk d4 0))) then
          rec [.str s, C.slice (p.1 ++ C.elems (dk d4 0)), C.int (IntKind.wrap IntKind.i64 ((i : Int) + 1)), C.int (IntKind.wrap IntKind.i64 ((i : Int) + 1))] []
         else none
        else none) else none) = (match (match q4U p.1 ((s.take i).drop p.2) with | .inl out => .inl (out, i + 1) | .inr e => .inr e : (List C × Nat) ⊕ Int) with
       | .inl s' => rec [.str s, .slice s'.1, .int (s'.2 : Int), .int ((i + 1 : Nat) : Int)] []
       | .inr e => k1 [.slice [], .int e] []) := by
      rw [if_pos hg]
      simp only [Int.toNat_natCast]
      rw [hline]
      simp only [W6, q0V, u2, p9]
      unfold q4U
      by_cases h0 : (q1S ((s.take i).drop p.2)).2 = 0
      ·rw [if_pos h0]
       simp only [h0, decide_true, Bool.not_true, cond_false, hb, cond_true, q0Y (show i < 4611686018427387904 by omega)]
       exact if_pos (by omega)
      ·rw [if_neg h0]
       simp only [h0, decide_false, Bool.not_false, cond_true]
     by_cases hlt : i < s.length
     ·have hlt' : (i : Int) < (s.length : Int) := by omega
      have hg2 : (0 : Int) ≤ (i : Int) := by omega
      simp only [hlt', hg2, decide_true, cond_true, and_self, if_true, Int.toNat_natCast]
      by_cases e : s.getD i (UInt8.ofNat 0) = UInt8.ofNat 10
      ·have e' := (y4M _).2 e
       rw [if_neg (show ¬ (i < s.length ∧ s.getD i (UInt8.ofNat 0) ≠ UInt8.ofNat 10) from fun h => h.2 e)]
       simp only [e', decide_true, Bool.not_true, cond_false]
       refine Eq.trans ?_ (main.trans ?_)
       ·rw [if_pos hg]
        refine (if_pos ⟨hg.1, hg.2.1, trivial⟩).trans ?_
        rfl
       ·cases q4U p.1 ((s.take i).drop p.2) <;> rfl
      ·have e' : ¬ (((s.getD i (UInt8.ofNat 0)).toNat : Int) = 10) := fun h => e ((y4M _).1 h)
       rw [if_pos (show i < s.length ∧ s.getD i (UInt8.ofNat 0) ≠ UInt8.ofNat 10 from ⟨hlt, e⟩)]
       simp only [e', decide_false, Bool.not_false, cond_true, q0Y (show i < 4611686018427387904 by omega)]
     ·have hlt' : ¬ (i : Int) < (s.length : Int) := by omega
      rw [if_neg (show ¬ (i < s.length ∧ s.getD i (UInt8.ofNat 0) ≠ UInt8.ofNat 10) from fun h => hlt h.1)]
      simp only [hlt', decide_false, cond_false]
      refine Eq.trans ?_ (main.trans ?_)
      ·rw [if_pos hg]
       refine (if_pos ⟨hg.1, hg.2.1, trivial⟩).trans ?_
       rfl
      ·cases q4U p.1 ((s.take i).drop p.2) <;> rfl
    ·unfold evF at h
     split at h
     ·cases h; omega
     ·cases hL : q4U p.1 ((s.take i).drop p.2) with
      | inl out =>
       rw [hL] at h
       cases h
       have := z9A (n := i) hp2 hL
       exact ⟨Nat.le_refl _, this⟩
      | inr e => rw [hL] at h; cases h)
   (fun p hp rec => by
    rw [List.length_replicate]
    have h1 : ¬ (((s.length + 1 : Nat) : Int) ≤ (s.length : Int)) := by omega
    unfold q0g
    simp only [o5, W6, q0V, q1W, q8D, z6x, u2, p9, J0, Z4, h1, decide_false, cond_false, Nat.beq_refl, cond_true]) (by rw [List.length_replicate]; omega)
 have key : b6 N (q0g N k1 k2) [.str s, .slice [], .int 0, .int 0] [] = _ := key
 rw [key]
 have hev := z9V s s 0 0 ([], 0) rfl (Nat.zero_le _) (Nat.le_refl _)
 have hev : y8v (q0R (fun i p (_ : Unit) => evF s i p) 0 ([], 0) (List.replicate (s.length + 1) ())) = q8e (q3Z (UInt8.ofNat 10) [] s) := hev
 rw [y2c] at hev
 rw [← hev]
 cases q0R (fun i p (_ : Unit) => evF s i p) 0 ([], 0) (List.replicate (s.length + 1) ()) <;> rfl
theorem y6R (s : List UInt8) (hl : s.length ≤ 65536) (b : UInt8) : (Z0 b s).length ≤ 65537 ∧ ∀ w ∈ Z0 b s, w.length ≤ 65536 := by
 have h1 := q9w b s
 exact ⟨by omega, fun w hw => Nat.le_trans (q9v b s w hw) hl⟩
def z56 (t : List UInt8) : List C × Int :=
 if 4096 < t.length then ([], 8) else if t = [] then ([], 0) else match q8e (Z0 (UInt8.ofNat 10) t) with
  | .inl out => if Q7 out = 0 then (out, 0) else ([], Q7 out)
  | .inr e => ([], e)
theorem y4K (t : List UInt8) (hN : 140737488355329 < N) (k : KD R) : q1d N (.str t) k = k [.slice (z56 t).1, .int (z56 t).2] [] := by
 rw [z0x]
 unfold q2w z56
 simp only [o5, J0]
 by_cases h0 : 4096 < t.length
 ·have h0' : (4096 : Int) < (t.length : Int) := by omega
  simp only [h0, h0', decide_true, cond_true, if_true]
 ·have h0' : ¬ (4096 : Int) < (t.length : Int) := by omega
  simp only [h0, h0', decide_false, cond_false, if_false]
  by_cases h1 : t = []
  ·subst h1; rfl
  ·have h1' : (t == []) = false := by simpa using h1
   simp only [h1, h1', cond_false, if_false]
   refine (if_pos ⟨trivial, by omega⟩).trans ?_
   obtain ⟨w1, w3⟩ := y6R t (by omega) (UInt8.ofNat 10)
   rw [List.length_map]
   refine (y8F _ w1 w3 hN _ _).trans ?_
   cases q8e (Z0 (UInt8.ofNat 10) t) with
   | inl out =>
    simp only [W6, p9, Nat.beq_refl, cond_true]
    by_cases hc : Q7 out = 0
    ·simp only [hc, decide_true, Bool.not_true, cond_false, if_true]
    ·simp only [hc, decide_false, Bool.not_false, cond_true, if_false]
   | inr e => rfl
theorem y0S (t : List UInt8) (hN : 140737488355329 < N) (k : KD R) : q0F N (.str t) k = k [.slice (z56 t).1, .int (z56 t).2] [] := by
 rw [q8W]
 unfold q1Q z56
 simp only [o5, J0]
 by_cases h0 : 4096 < t.length
 ·have h0' : (4096 : Int) < (t.length : Int) := by omega
  simp only [h0, h0', decide_true, cond_true, if_true]
 ·have h0' : ¬ (4096 : Int) < (t.length : Int) := by omega
  simp only [h0, h0', decide_false, cond_false, if_false]
  by_cases h1 : t = []
  ·subst h1
   obtain ⟨M, rfl⟩ : ∃ M, N = M + 1 := ⟨N - 1, by omega⟩
   rw [U7]
   unfold q0g
   simp only [o5, W6, q0V, q1W, q8D, z6x, u2, p9, J0, Z4]
   rfl
  ·simp only [h1, if_false]
   refine (y5i t h1 (by omega) hN _ _).trans ?_
   cases q8e (Z0 (UInt8.ofNat 10) t) with
   | inl out =>
    simp only [W6, p9, Nat.beq_refl, cond_true]
    by_cases hc : Q7 out = 0
    ·simp only [hc, decide_true, Bool.not_true, cond_false, if_true]
    ·simp only [hc, decide_false, Bool.not_false, cond_true, if_false]
   | inr e => rfl
end Go.Proofs.YtdoajkacibicoaaDoor
namespace Go.Proofs.YtdoajkacibicoaaDoor
open Go Go.E
set_option maxRecDepth 100000
set_option maxHeartbeats 4000000
set_option linter.unusedVariables false
def q3r : List Sh := [.as (.ptr (.g (.l 1)) [] c9), .d (.int .i64)]
def q6v : List (Key × OSh) := [(.l 1, .box (.agg c9 [.vec (.g (.l 2)) 8 (.int .u64), .d (.int .i64)])), (.l 2, .box (.arr (.int .u64)))]
noncomputable def z1Y : Hints := [([1], ⟨[0], [], [.g (.l 1), .g (.l 2)], [], [], [(.int .u64)]⟩),
  ([9], ⟨[], [], [.g (.l 1), .g (.l 2)], [], [], [(.int .u64)]⟩)]
noncomputable def q6u (N : Nat) : OvS (X0 gl0) where
 g R := []
 ok := fun R => fun _ h => nomatch h
noncomputable def q1z {R : Type} (N : Nat) (a0 b0 b1 b2 : C) (k1 : KD R) : Option R := (jn (fun d1 m1 => (if List.length (C.elems (dk d1 3)) = List.length (C.elems (dk d1 3)) then (k1 [C.int (↑(Int.toNat (C.toInt (dk d1 0))) : Int), dk d1 1, C.int (↑(Int.toNat (C.toInt (dk d1 2))) : Int), dk d1 3] []) else none)) (fun k2 => (bif decide (C.toInt b1 = 0) then (if List.length (C.elems b2) = List.length (C.elems b2) then (k2 [C.int (↑(Int.toNat (C.toInt b0)) : Int), a0, C.int (↑(List.length (C.elems b2)) : Int), b2] []) else none) else (if List.length (C.elems b2) = List.length (C.elems b2) then (k2 [C.int (↑(Int.toNat (C.toInt b0)) : Int), b1, C.int (↑(List.length (C.elems b2)) : Int), b2] []) else none))))
noncomputable def Q1 {R : Type} (N : Nat) : C → C → C → C → KD R → Option R := lid "" (q1z N)
theorem q6t {R : Type} (N : Nat) (a0 b0 b1 b2 : C) (k : KD R) : Q1 N a0 b0 b1 b2 k = q1z N a0 b0 b1 b2 k := by unfold Q1; rw [Z8]
theorem z0F {R : Type} (N : Nat) (a0 b0 b1 b2 : C) (K : V → List (Key × O) → Option R) : exF (X0 gl0) ((q6u N).ov R) H9 noX (fun f => bif Nat.beq f 47 then z1Y else []) N 400 8 47 (Sh.U0 q3r 0 [a0, b0, b1, b2]) (z7 (u6 q6v (Sh.q0T q3r) 0 [a0, b0, b1, b2] [])) K =
  Q1 N a0 b0 b1 b2 (fun d1 m1 => K (V.tup []) [(Key.g (Key.l 1),
  O.box
   (V.agg c9
    [V.sr (Key.l 1000000000074) [] 0 (Int.toNat (C.toInt (dk d1 0))) none 8 (Ty.int IntKind.u64),
     V.d (Ty.int IntKind.i64) (dk d1 1)])),
 (Key.g (Key.l 2), O.dead (Ty.arr (Int.toNat (C.toInt (dk d1 2))) (Ty.int IntKind.u64))),
 (Key.l 1000000000074, O.box (V.d (Ty.arr (List.length (C.elems (dk d1 3))) (Ty.int IntKind.u64)) (dk d1 3)))]) := by
 rw [q6t]
 exact (show _ = jn (fun d1 m1 => (K (V.tup []) [(Key.g (Key.l 1),
  O.box
   (V.agg c9
    [V.sr (Key.l 1000000000074) [] 0 (Int.toNat (C.toInt (dk d1 0))) none 8 (Ty.int IntKind.u64),
     V.d (Ty.int IntKind.i64) (dk d1 1)])),
 (Key.g (Key.l 2), O.dead (Ty.arr (Int.toNat (C.toInt (dk d1 2))) (Ty.int IntKind.u64))),
 (Key.l 1000000000074, O.box (V.d (Ty.arr (List.length (C.elems (dk d1 3))) (Ty.int IntKind.u64)) (dk d1 3)))])) (q1z N a0 b0 b1 b2) by kernel_rfl).trans (o5 _ _)
noncomputable def q0O (N : Nat) {R : Type} : OvG R := q9G q3r q6v fun ds ms K => Q1 N (dk ds 0) (dk ds 1) (dk ds 2) (dk ds 3) (fun d1 m1 => K (V.tup []) [(Key.g (Key.l 1),
  O.box
   (V.agg c9
    [V.sr (Key.l 1000000000074) [] 0 (Int.toNat (C.toInt (dk d1 0))) none 8 (Ty.int IntKind.u64),
     V.d (Ty.int IntKind.i64) (dk d1 1)])),
 (Key.g (Key.l 2), O.dead (Ty.arr (Int.toNat (C.toInt (dk d1 2))) (Ty.int IntKind.u64))),
 (Key.l 1000000000074, O.box (V.d (Ty.arr (List.length (C.elems (dk d1 3))) (Ty.int IntKind.u64)) (dk d1 3)))])
theorem q3q (N : Nat) {R : Type} : GOk (X0 gl0) 47 (q0O N (R := R)) := by
 unfold q0O
 refine q5p fun ds ms K r hr => ?_
 rw [← z0F] at hr
 exact okB (q6u N) hr
def q3V : List Sh := [.as (.ptr (.g (.l 1)) [] c9)]
def q6W : List (Key × OSh) := [(.l 1, .box (.agg c9 [.vec (.g (.l 2)) 8 (.int .u64), .d (.int .i64)])), (.l 2, .box (.arr (.int .u64)))]
noncomputable def z2M : Hints := [([9], ⟨[], [(2, .d (.int .u64))], [.g (.l 1), .g (.l 2)], [], [], [(.int .u64)]⟩)]
noncomputable def q6V (N : Nat) : OvS (X0 gl0) where
 g R := [(47, q0O N)]
 ok := fun R => List.forall_mem_cons.2 ⟨q3q N, fun _ h => nomatch h⟩
noncomputable def q0N {R : Type} (N : Nat) (b0 b1 b2 : C) (k1 : KD R) : Option R := (bif decide ((↑(Int.toNat (C.toInt b0)) : Int) = 0) then (if List.length (C.elems b2) = List.length (C.elems b2) then (Q1 N (C.int 12) (C.int (↑(Int.toNat (C.toInt b0)) : Int)) b1 b2 (fun d1 m1 => (if List.length (C.elems (dk d1 3)) = List.length (C.elems (dk d1 3)) then (k1 [C.int 0, C.int (↑(Int.toNat (C.toInt (dk d1 0))) : Int), dk d1 1, C.int (↑(Int.toNat (C.toInt (dk d1 2))) : Int), dk d1 3] []) else none))) else none) else (if 0 ≤ IntKind.wrap IntKind.i64 ((↑(Int.toNat (C.toInt b0)) : Int) - 1) ∧ IntKind.wrap IntKind.i64 ((↑(Int.toNat (C.toInt b0)) : Int) - 1) < (↑(Int.toNat (C.toInt b0)) : Int) then (if Int.ofNat 0 ≤ 0 ∧ 0 ≤ IntKind.wrap IntKind.i64 ((↑(Int.toNat (C.toInt b0)) : Int) - 1) ∧ IntKind.wrap IntKind.i64 ((↑(Int.toNat (C.toInt b0)) : Int) - 1) ≤ (↑(Int.toNat (C.toInt b0)) : Int) then (if List.length (C.elems b2) = List.length (C.elems b2) then (k1 [C.get b2 (0 + Int.toNat (IntKind.wrap IntKind.i64 ((↑(Int.toNat (C.toInt b0)) : Int) - 1))), C.int (↑(Int.toNat (IntKind.wrap IntKind.i64 ((↑(Int.toNat (C.toInt b0)) : Int) - 1) - 0)) : Int), b1, C.int (↑(List.length (C.elems b2)) : Int), b2] []) else none) else none) else none))
noncomputable def u5 {R : Type} (N : Nat) : C → C → C → KD R → Option R := lid "" (q0N N)
theorem q3U {R : Type} (N : Nat) (b0 b1 b2 : C) (k : KD R) : u5 N b0 b1 b2 k = q0N N b0 b1 b2 k := by unfold u5; rw [Z8]
theorem z1X {R : Type} (N : Nat) (b0 b1 b2 : C) (K : V → List (Key × O) → Option R) : exF (X0 gl0) ((q6V N).ov R) H9 noX (fun f => bif Nat.beq f 32 then z2M else []) N 400 8 32 (Sh.U0 q3V 0 [b0, b1, b2]) (z7 (u6 q6W (Sh.q0T q3V) 0 [b0, b1, b2] [])) K =
  u5 N b0 b1 b2 (fun d1 m1 => K (V.d (Ty.int IntKind.u64) (dk d1 0)) [(Key.g (Key.l 1),
  O.box
   (V.agg c9
    [V.sr (Key.l 1000000000074) [] 0 (Int.toNat (C.toInt (dk d1 1))) none 8 (Ty.int IntKind.u64),
     V.d (Ty.int IntKind.i64) (dk d1 2)])),
 (Key.g (Key.l 2), O.dead (Ty.arr (Int.toNat (C.toInt (dk d1 3))) (Ty.int IntKind.u64))),
 (Key.l 1000000000074, O.box (V.d (Ty.arr (List.length (C.elems (dk d1 4))) (Ty.int IntKind.u64)) (dk d1 4)))]) := by
 rw [q3U]
 exact (show _ = jn (fun d1 m1 => (K (V.d (Ty.int IntKind.u64) (dk d1 0)) [(Key.g (Key.l 1),
  O.box
   (V.agg c9
    [V.sr (Key.l 1000000000074) [] 0 (Int.toNat (C.toInt (dk d1 1))) none 8 (Ty.int IntKind.u64),
     V.d (Ty.int IntKind.i64) (dk d1 2)])),
 (Key.g (Key.l 2), O.dead (Ty.arr (Int.toNat (C.toInt (dk d1 3))) (Ty.int IntKind.u64))),
 (Key.l 1000000000074, O.box (V.d (Ty.arr (List.length (C.elems (dk d1 4))) (Ty.int IntKind.u64)) (dk d1 4)))])) (q0N N b0 b1 b2) by kernel_rfl).trans (o5 _ _)
noncomputable def q2i (N : Nat) {R : Type} : OvG R := q9G q3V q6W fun ds ms K => u5 N (dk ds 0) (dk ds 1) (dk ds 2) (fun d1 m1 => K (V.d (Ty.int IntKind.u64) (dk d1 0)) [(Key.g (Key.l 1),
  O.box
   (V.agg c9
    [V.sr (Key.l 1000000000074) [] 0 (Int.toNat (C.toInt (dk d1 1))) none 8 (Ty.int IntKind.u64),
     V.d (Ty.int IntKind.i64) (dk d1 2)])),
 (Key.g (Key.l 2), O.dead (Ty.arr (Int.toNat (C.toInt (dk d1 3))) (Ty.int IntKind.u64))),
 (Key.l 1000000000074, O.box (V.d (Ty.arr (List.length (C.elems (dk d1 4))) (Ty.int IntKind.u64)) (dk d1 4)))])
theorem q6X (N : Nat) {R : Type} : GOk (X0 gl0) 32 (q2i N (R := R)) := by
 unfold q2i
 refine q5p fun ds ms K r hr => ?_
 rw [← z1X] at hr
 exact okB (q6V N) hr
def q3p : List Sh := [.as (.ptr (.g (.l 1)) [] c9), .d (.slice 8 (.int .u64))]
def q6r : List (Key × OSh) := [(.l 1, .box (.agg c9 [.vec (.g (.l 2)) 8 (.int .u64), .d (.int .i64)])), (.l 2, .box (.arr (.int .u64)))]
noncomputable def z1W : Hints := [([1], ⟨[0], [], [.g (.l 1), .g (.l 2)], [], [], [(.int .u64)]⟩),
  ([4, 1], ⟨[0, 6, 7], [(8, .d (.int .i64))], [.g (.l 1), .g (.l 2)], [], [], [(.int .u64)]⟩),
  ([9], ⟨[], [], [.g (.l 1), .g (.l 2)], [], [], [(.int .u64)]⟩)]
noncomputable def q6q (N : Nat) : OvS (X0 gl0) where
 g R := [(47, q0O N)]
 ok := fun R => List.forall_mem_cons.2 ⟨q3q N, fun _ h => nomatch h⟩
noncomputable def q3o {R : Type} (N : Nat) (k1 : KD R) (k2 : KD R) : KD R → List C → List Es → Option R := (fun k3 d1 m1 => (bif decide (C.toInt (dk d1 2) < C.toInt (dk d1 1)) then (if 0 ≤ C.toInt (dk d1 2) ∧ C.toInt (dk d1 2) < (↑(List.length (C.elems (dk d1 0))) : Int) then (bif decide (32 ≤ (↑(Int.toNat (C.toInt (dk d1 3))) : Int)) then (if List.length (C.elems (dk d1 6)) = List.length (C.elems (dk d1 6)) then (Q1 N (C.int 4) (C.int (↑(Int.toNat (C.toInt (dk d1 3))) : Int)) (dk d1 4) (dk d1 6) (fun d2 m2 => (if List.length (C.elems (dk d2 3)) = List.length (C.elems (dk d2 3)) then (k1 [C.int (↑(Int.toNat (C.toInt (dk d2 0))) : Int), dk d2 1, C.int (↑(Int.toNat (C.toInt (dk d1 5))) : Int), dk d2 3] []) else none))) else none) else (if false = false ∧ (Int.toNat (C.toInt (dk d1 3)) + 1) * 8 ≤ 140737488355328 ∧ Int.toNat (C.toInt (dk d1 3)) + 1 ≤ 9223372036854775807 then (if Int.toNat (C.toInt (dk d1 3)) + 1 = List.length (List.take (Int.toNat (C.toInt (dk d1 3))) (C.elems (dk d1 6)) ++ [List.getD (C.elems (dk d1 0)) (Int.toNat (C.toInt (dk d1 2))) C.nil]) then (k3 [dk d1 0, dk d1 1, C.int (IntKind.wrap IntKind.i64 (C.toInt (dk d1 2) + 1)), C.int (↑(Int.toNat (C.toInt (dk d1 3)) + 1) : Int), dk d1 4, C.int (↑(Int.toNat (C.toInt (dk d1 5))) : Int), C.agg (List.take (Int.toNat (C.toInt (dk d1 3))) (C.elems (dk d1 6)) ++ [List.getD (C.elems (dk d1 0)) (Int.toNat (C.toInt (dk d1 2))) C.nil])] []) else none) else none)) else none) else (if List.length (C.elems (dk d1 6)) = List.length (C.elems (dk d1 6)) then (k2 [C.int (↑(Int.toNat (C.toInt (dk d1 3))) : Int), dk d1 4, C.int (↑(Int.toNat (C.toInt (dk d1 5))) : Int), dk d1 6] []) else none)))
noncomputable def q0r {R : Type} (N : Nat) (a0 b0 b1 b2 : C) (k1 : KD R) : Option R := (jn (fun d1 m1 => (if List.length (C.elems (dk d1 3)) = List.length (C.elems (dk d1 3)) then (k1 [C.int (↑(Int.toNat (C.toInt (dk d1 0))) : Int), dk d1 1, C.int (↑(Int.toNat (C.toInt (dk d1 2))) : Int), dk d1 3] []) else none)) (fun k2 => (if List.length (C.elems b2) = List.length (C.elems b2) then (b6 N (q3o N k1 k2) [a0, C.int (↑(List.length (C.elems a0)) : Int), C.int 0, C.int (↑(Int.toNat (C.toInt b0)) : Int), b1, C.int (↑(List.length (C.elems b2)) : Int), b2] []) else none)))
noncomputable def o7 {R : Type} (N : Nat) : C → C → C → C → KD R → Option R := lid "" (q0r N)
theorem q3n {R : Type} (N : Nat) (a0 b0 b1 b2 : C) (k : KD R) : o7 N a0 b0 b1 b2 k = q0r N a0 b0 b1 b2 k := by unfold o7; rw [Z8]
theorem z0E {R : Type} (N : Nat) (a0 b0 b1 b2 : C) (K : V → List (Key × O) → Option R) : exF (X0 gl0) ((q6q N).ov R) H9 noX (fun f => bif Nat.beq f 48 then z1W else []) N 400 8 48 (Sh.U0 q3p 0 [a0, b0, b1, b2]) (z7 (u6 q6r (Sh.q0T q3p) 0 [a0, b0, b1, b2] [])) K =
  o7 N a0 b0 b1 b2 (fun d1 m1 => K (V.tup []) [(Key.g (Key.l 1),
  O.box
   (V.agg c9
    [V.sr (Key.l 1000000000074) [] 0 (Int.toNat (C.toInt (dk d1 0))) none 8 (Ty.int IntKind.u64),
     V.d (Ty.int IntKind.i64) (dk d1 1)])),
 (Key.g (Key.l 2), O.dead (Ty.arr (Int.toNat (C.toInt (dk d1 2))) (Ty.int IntKind.u64))),
 (Key.l 1000000000074, O.box (V.d (Ty.arr (List.length (C.elems (dk d1 3))) (Ty.int IntKind.u64)) (dk d1 3)))]) := by
 rw [q3n]
 exact (show _ = jn (fun d1 m1 => (K (V.tup []) [(Key.g (Key.l 1),
  O.box
   (V.agg c9
    [V.sr (Key.l 1000000000074) [] 0 (Int.toNat (C.toInt (dk d1 0))) none 8 (Ty.int IntKind.u64),
     V.d (Ty.int IntKind.i64) (dk d1 1)])),
 (Key.g (Key.l 2), O.dead (Ty.arr (Int.toNat (C.toInt (dk d1 2))) (Ty.int IntKind.u64))),
 (Key.l 1000000000074, O.box (V.d (Ty.arr (List.length (C.elems (dk d1 3))) (Ty.int IntKind.u64)) (dk d1 3)))])) (q0r N a0 b0 b1 b2) by kernel_rfl).trans (o5 _ _)
noncomputable def q1N (N : Nat) {R : Type} : OvG R := q9G q3p q6r fun ds ms K => o7 N (dk ds 0) (dk ds 1) (dk ds 2) (dk ds 3) (fun d1 m1 => K (V.tup []) [(Key.g (Key.l 1),
  O.box
   (V.agg c9
    [V.sr (Key.l 1000000000074) [] 0 (Int.toNat (C.toInt (dk d1 0))) none 8 (Ty.int IntKind.u64),
     V.d (Ty.int IntKind.i64) (dk d1 1)])),
 (Key.g (Key.l 2), O.dead (Ty.arr (Int.toNat (C.toInt (dk d1 2))) (Ty.int IntKind.u64))),
 (Key.l 1000000000074, O.box (V.d (Ty.arr (List.length (C.elems (dk d1 3))) (Ty.int IntKind.u64)) (dk d1 3)))])
theorem q6s (N : Nat) {R : Type} : GOk (X0 gl0) 48 (q1N N (R := R)) := by
 unfold q1N
 refine q5p fun ds ms K r hr => ?_
 rw [← z0E] at hr
 exact okB (q6q N) hr
noncomputable def z9u : Hints := [([9], ⟨[], [(4, .d (.int .u64)), (5, .d (.int .i64))], [], [], [], []⟩)]
noncomputable def z1o (N : Nat) : OvS (X0 gl0) where
 g R := []
 ok := fun R => fun _ h => nomatch h
noncomputable def q4S {R : Type} (N : Nat) (a0 a1 : C) (k1 : KD R) : Option R := (bif !decide ((C.toInt a0 + C.toInt a1) / 18446744073709551616 = 0) then (k1 [C.int 0, C.int 11] []) else (k1 [C.int ((C.toInt a0 + C.toInt a1) % 18446744073709551616), C.int 0] []))
noncomputable def q2I {R : Type} (N : Nat) : C → C → KD R → Option R := lid "" (q4S N)
theorem z1n {R : Type} (N : Nat) (a0 a1 : C) (k : KD R) : q2I N a0 a1 k = q4S N a0 a1 k := by unfold q2I; rw [Z8]
theorem z7V {R : Type} (N : Nat) (a0 a1 : C) (K : V → List (Key × O) → Option R) : exF (X0 gl0) ((z1o N).ov R) H9 noX (fun f => bif Nat.beq f 50 then z9u else []) N 400 8 50 [.d (.int .u64) a0, .d (.int .u64) a1] A0 K =
  q2I N a0 a1 (fun d1 m1 => K (V.tup [V.d (Ty.int IntKind.u64) (dk d1 0), V.d (Ty.int IntKind.i64) (dk d1 1)]) []) := by
 rw [z1n]
 exact (show _ = jn (fun d1 m1 => (K (V.tup [V.d (Ty.int IntKind.u64) (dk d1 0), V.d (Ty.int IntKind.i64) (dk d1 1)]) [])) (q4S N a0 a1) by kernel_rfl).trans (o5 _ _)
noncomputable def q8w (N : Nat) {R : Type} : OvG R := fun xs _ K => match xs with
 | [.d t0 a0, .d t1 a1] => if t0 = (.int .u64) ∧ t1 = (.int .u64) then q2I N a0 a1 (fun d1 m1 => K (V.tup [V.d (Ty.int IntKind.u64) (dk d1 0), V.d (Ty.int IntKind.i64) (dk d1 1)]) []) else none
 | _ => none
theorem z9t (N : Nat) {R : Type} : GOk (X0 gl0) 50 (q8w N (R := R)) := by
 intro xs A Kr r hr
 unfold q8w at hr
 split at hr
 ·simp only [Option.ite_none_right_eq_some] at hr
  obtain ⟨hty, hr⟩ := hr
  obtain ⟨rfl, rfl⟩ := hty
  rw [← z7V] at hr
  exact okA (z1o N) hr
 ·cases hr
noncomputable def z9q : Hints := [([9], ⟨[], [(4, .d (.int .u64)), (5, .d (.int .i64))], [], [], [], []⟩)]
noncomputable def z1k (N : Nat) : OvS (X0 gl0) where
 g R := []
 ok := fun R => fun _ h => nomatch h
noncomputable def q4Q {R : Type} (N : Nat) (a0 a1 : C) (k1 : KD R) : Option R := (bif decide (C.toInt a0 < C.toInt a1) then (k1 [C.int 0, C.int 12] []) else (k1 [C.int (IntKind.wrap IntKind.u64 (C.toInt a0 - C.toInt a1)), C.int 0] []))
noncomputable def q2G {R : Type} (N : Nat) : C → C → KD R → Option R := lid "" (q4Q N)
theorem z1j {R : Type} (N : Nat) (a0 a1 : C) (k : KD R) : q2G N a0 a1 k = q4Q N a0 a1 k := by unfold q2G; rw [Z8]
theorem z7T {R : Type} (N : Nat) (a0 a1 : C) (K : V → List (Key × O) → Option R) : exF (X0 gl0) ((z1k N).ov R) H9 noX (fun f => bif Nat.beq f 51 then z9q else []) N 400 8 51 [.d (.int .u64) a0, .d (.int .u64) a1] A0 K =
  q2G N a0 a1 (fun d1 m1 => K (V.tup [V.d (Ty.int IntKind.u64) (dk d1 0), V.d (Ty.int IntKind.i64) (dk d1 1)]) []) := by
 rw [z1j]
 exact (show _ = jn (fun d1 m1 => (K (V.tup [V.d (Ty.int IntKind.u64) (dk d1 0), V.d (Ty.int IntKind.i64) (dk d1 1)]) [])) (q4Q N a0 a1) by kernel_rfl).trans (o5 _ _)
noncomputable def q8u (N : Nat) {R : Type} : OvG R := fun xs _ K => match xs with
 | [.d t0 a0, .d t1 a1] => if t0 = (.int .u64) ∧ t1 = (.int .u64) then q2G N a0 a1 (fun d1 m1 => K (V.tup [V.d (Ty.int IntKind.u64) (dk d1 0), V.d (Ty.int IntKind.i64) (dk d1 1)]) []) else none
 | _ => none
theorem z9p (N : Nat) {R : Type} : GOk (X0 gl0) 51 (q8u N (R := R)) := by
 intro xs A Kr r hr
 unfold q8u at hr
 split at hr
 ·simp only [Option.ite_none_right_eq_some] at hr
  obtain ⟨hty, hr⟩ := hr
  obtain ⟨rfl, rfl⟩ := hty
  rw [← z7T] at hr
  exact okA (z1k N) hr
 ·cases hr
noncomputable def z1r : Hints := [([9], ⟨[], [(4, .d (.int .u64)), (5, .d (.int .u64))], [], [], [], []⟩)]
noncomputable def q6d (N : Nat) : OvS (X0 gl0) where
 g R := []
 ok := fun R => fun _ h => nomatch h
noncomputable def q3e {R : Type} (N : Nat) (a0 a1 : C) (k1 : KD R) : Option R := (k1 [C.int (IntKind.wrap IntKind.u64 (IntKind.wrap IntKind.u64 (IntKind.wrap IntKind.u64 (Int.fdiv (C.toInt a0) (2 ^ min (Int.toNat 32) 64) * Int.fdiv (C.toInt a1) (2 ^ min (Int.toNat 32) 64)) + Int.fdiv (IntKind.wrap IntKind.u64 (IntKind.wrap IntKind.u64 (Int.fdiv (C.toInt a0) (2 ^ min (Int.toNat 32) 64) * q0A BinOp.and IntKind.u64 (C.toInt a1) 4294967295) + Int.fdiv (IntKind.wrap IntKind.u64 (q0A BinOp.and IntKind.u64 (C.toInt a0) 4294967295 * q0A BinOp.and IntKind.u64 (C.toInt a1) 4294967295)) (2 ^ min (Int.toNat 32) 64))) (2 ^ min (Int.toNat 32) 64)) + Int.fdiv (IntKind.wrap IntKind.u64 (q0A BinOp.and IntKind.u64 (IntKind.wrap IntKind.u64 (IntKind.wrap IntKind.u64 (Int.fdiv (C.toInt a0) (2 ^ min (Int.toNat 32) 64) * q0A BinOp.and IntKind.u64 (C.toInt a1) 4294967295) + Int.fdiv (IntKind.wrap IntKind.u64 (q0A BinOp.and IntKind.u64 (C.toInt a0) 4294967295 * q0A BinOp.and IntKind.u64 (C.toInt a1) 4294967295)) (2 ^ min (Int.toNat 32) 64))) 4294967295 + IntKind.wrap IntKind.u64 (q0A BinOp.and IntKind.u64 (C.toInt a0) 4294967295 * Int.fdiv (C.toInt a1) (2 ^ min (Int.toNat 32) 64)))) (2 ^ min (Int.toNat 32) 64))), C.int (IntKind.wrap IntKind.u64 (C.toInt a0 * C.toInt a1))] [])
noncomputable def q0a {R : Type} (N : Nat) : C → C → KD R → Option R := lid "" (q3e N)
theorem q6c {R : Type} (N : Nat) (a0 a1 : C) (k : KD R) : q0a N a0 a1 k = q3e N a0 a1 k := by unfold q0a; rw [Z8]
theorem z0C {R : Type} (N : Nat) (a0 a1 : C) (K : V → List (Key × O) → Option R) : exF (X0 gl0) ((q6d N).ov R) H9 noX (fun f => bif Nat.beq f 72 then z1r else []) N 400 8 72 [.d (.int .u64) a0, .d (.int .u64) a1] A0 K =
  q0a N a0 a1 (fun d1 m1 => K (V.tup [V.d (Ty.int IntKind.u64) (dk d1 0), V.d (Ty.int IntKind.u64) (dk d1 1)]) []) := by
 rw [q6c]
 exact (show _ = jn (fun d1 m1 => (K (V.tup [V.d (Ty.int IntKind.u64) (dk d1 0), V.d (Ty.int IntKind.u64) (dk d1 1)]) [])) (q3e N a0 a1) by kernel_rfl).trans (o5 _ _)
noncomputable def q3R (N : Nat) {R : Type} : OvG R := fun xs _ K => match xs with
 | [.d t0 a0, .d t1 a1] => if t0 = (.int .u64) ∧ t1 = (.int .u64) then q0a N a0 a1 (fun d1 m1 => K (V.tup [V.d (Ty.int IntKind.u64) (dk d1 0), V.d (Ty.int IntKind.u64) (dk d1 1)]) []) else none
 | _ => none
theorem z1q (N : Nat) {R : Type} : GOk (X0 gl0) 72 (q3R N (R := R)) := by
 intro xs A Kr r hr
 unfold q3R at hr
 split at hr
 ·simp only [Option.ite_none_right_eq_some] at hr
  obtain ⟨hty, hr⟩ := hr
  obtain ⟨rfl, rfl⟩ := hty
  rw [← z0C] at hr
  exact okA (q6d N) hr
 ·cases hr
noncomputable def z9s : Hints := [([9], ⟨[], [(4, .d (.int .u64)), (5, .d (.int .i64))], [], [], [], []⟩)]
noncomputable def z1m (N : Nat) : OvS (X0 gl0) where
 g R := [(72, q3R N)]
 ok := fun R => List.forall_mem_cons.2 ⟨z1q N, fun _ h => nomatch h⟩
noncomputable def q4R {R : Type} (N : Nat) (a0 a1 : C) (k1 : KD R) : Option R := (q0a N a0 a1 (fun d1 m1 => (bif !decide (C.toInt (dk d1 0) = 0) then (k1 [C.int 0, C.int 11] []) else (k1 [dk d1 1, C.int 0] []))))
noncomputable def q2H {R : Type} (N : Nat) : C → C → KD R → Option R := lid "" (q4R N)
theorem z1l {R : Type} (N : Nat) (a0 a1 : C) (k : KD R) : q2H N a0 a1 k = q4R N a0 a1 k := by unfold q2H; rw [Z8]
theorem z7U {R : Type} (N : Nat) (a0 a1 : C) (K : V → List (Key × O) → Option R) : exF (X0 gl0) ((z1m N).ov R) H9 noX (fun f => bif Nat.beq f 52 then z9s else []) N 400 8 52 [.d (.int .u64) a0, .d (.int .u64) a1] A0 K =
  q2H N a0 a1 (fun d1 m1 => K (V.tup [V.d (Ty.int IntKind.u64) (dk d1 0), V.d (Ty.int IntKind.i64) (dk d1 1)]) []) := by
 rw [z1l]
 exact (show _ = jn (fun d1 m1 => (K (V.tup [V.d (Ty.int IntKind.u64) (dk d1 0), V.d (Ty.int IntKind.i64) (dk d1 1)]) [])) (q4R N a0 a1) by kernel_rfl).trans (o5 _ _)
noncomputable def q8v (N : Nat) {R : Type} : OvG R := fun xs _ K => match xs with
 | [.d t0 a0, .d t1 a1] => if t0 = (.int .u64) ∧ t1 = (.int .u64) then q2H N a0 a1 (fun d1 m1 => K (V.tup [V.d (Ty.int IntKind.u64) (dk d1 0), V.d (Ty.int IntKind.i64) (dk d1 1)]) []) else none
 | _ => none
theorem z9r (N : Nat) {R : Type} : GOk (X0 gl0) 52 (q8v N (R := R)) := by
 intro xs A Kr r hr
 unfold q8v at hr
 split at hr
 ·simp only [Option.ite_none_right_eq_some] at hr
  obtain ⟨hty, hr⟩ := hr
  obtain ⟨rfl, rfl⟩ := hty
  rw [← z7U] at hr
  exact okA (z1m N) hr
 ·cases hr
def q3s : List Sh := [.as (.ptr (.g (.l 1)) [] c9), .d .bool]
def q6y : List (Key × OSh) := [(.l 1, .box (.agg c9 [.vec (.g (.l 2)) 8 (.int .u64), .d (.int .i64)])), (.l 2, .box (.arr (.int .u64)))]
noncomputable def z10 : Hints := [([9], ⟨[], [], [.g (.l 1), .g (.l 2)], [], [], [(.int .u64)]⟩)]
noncomputable def q6x (N : Nat) : OvS (X0 gl0) where
 g R := [(48, q1N N)]
 ok := fun R => List.forall_mem_cons.2 ⟨q6s N, fun _ h => nomatch h⟩
noncomputable def q1A {R : Type} (N : Nat) (a0 b0 b1 b2 : C) (k1 : KD R) : Option R := (bif C.toBool a0 then (if List.length (C.elems b2) = List.length (C.elems b2) then (o7 N (C.slice [C.int 1]) (C.int (↑(Int.toNat (C.toInt b0)) : Int)) b1 b2 (fun d1 m1 => (if List.length (C.elems (dk d1 3)) = List.length (C.elems (dk d1 3)) then (k1 [C.int (↑(Int.toNat (C.toInt (dk d1 0))) : Int), dk d1 1, C.int (↑(Int.toNat (C.toInt (dk d1 2))) : Int), dk d1 3] []) else none))) else none) else (if List.length (C.elems b2) = List.length (C.elems b2) then (o7 N (C.slice [C.int 0]) (C.int (↑(Int.toNat (C.toInt b0)) : Int)) b1 b2 (fun d1 m1 => (if List.length (C.elems (dk d1 3)) = List.length (C.elems (dk d1 3)) then (k1 [C.int (↑(Int.toNat (C.toInt (dk d1 0))) : Int), dk d1 1, C.int (↑(Int.toNat (C.toInt (dk d1 2))) : Int), dk d1 3] []) else none))) else none))
noncomputable def b7 {R : Type} (N : Nat) : C → C → C → C → KD R → Option R := lid "" (q1A N)
theorem q6w {R : Type} (N : Nat) (a0 b0 b1 b2 : C) (k : KD R) : b7 N a0 b0 b1 b2 k = q1A N a0 b0 b1 b2 k := by unfold b7; rw [Z8]
theorem z0G {R : Type} (N : Nat) (a0 b0 b1 b2 : C) (K : V → List (Key × O) → Option R) : exF (X0 gl0) ((q6x N).ov R) H9 noX (fun f => bif Nat.beq f 53 then z10 else []) N 400 8 53 (Sh.U0 q3s 0 [a0, b0, b1, b2]) (z7 (u6 q6y (Sh.q0T q3s) 0 [a0, b0, b1, b2] [])) K =
  b7 N a0 b0 b1 b2 (fun d1 m1 => K (V.tup []) [(Key.g (Key.l 1),
  O.box
   (V.agg c9
    [V.sr (Key.l 1000000000074) [] 0 (Int.toNat (C.toInt (dk d1 0))) none 8 (Ty.int IntKind.u64),
     V.d (Ty.int IntKind.i64) (dk d1 1)])),
 (Key.g (Key.l 2), O.dead (Ty.arr (Int.toNat (C.toInt (dk d1 2))) (Ty.int IntKind.u64))),
 (Key.l 1000000000074, O.box (V.d (Ty.arr (List.length (C.elems (dk d1 3))) (Ty.int IntKind.u64)) (dk d1 3)))]) := by
 rw [q6w]
 exact (show _ = jn (fun d1 m1 => (K (V.tup []) [(Key.g (Key.l 1),
  O.box
   (V.agg c9
    [V.sr (Key.l 1000000000074) [] 0 (Int.toNat (C.toInt (dk d1 0))) none 8 (Ty.int IntKind.u64),
     V.d (Ty.int IntKind.i64) (dk d1 1)])),
 (Key.g (Key.l 2), O.dead (Ty.arr (Int.toNat (C.toInt (dk d1 2))) (Ty.int IntKind.u64))),
 (Key.l 1000000000074, O.box (V.d (Ty.arr (List.length (C.elems (dk d1 3))) (Ty.int IntKind.u64)) (dk d1 3)))])) (q1A N a0 b0 b1 b2) by kernel_rfl).trans (o5 _ _)
noncomputable def q3W (N : Nat) {R : Type} : OvG R := q9G q3s q6y fun ds ms K => b7 N (dk ds 0) (dk ds 1) (dk ds 2) (dk ds 3) (fun d1 m1 => K (V.tup []) [(Key.g (Key.l 1),
  O.box
   (V.agg c9
    [V.sr (Key.l 1000000000074) [] 0 (Int.toNat (C.toInt (dk d1 0))) none 8 (Ty.int IntKind.u64),
     V.d (Ty.int IntKind.i64) (dk d1 1)])),
 (Key.g (Key.l 2), O.dead (Ty.arr (Int.toNat (C.toInt (dk d1 2))) (Ty.int IntKind.u64))),
 (Key.l 1000000000074, O.box (V.d (Ty.arr (List.length (C.elems (dk d1 3))) (Ty.int IntKind.u64)) (dk d1 3)))])
theorem z1Z (N : Nat) {R : Type} : GOk (X0 gl0) 53 (q3W N (R := R)) := by
 unfold q3W
 refine q5p fun ds ms K r hr => ?_
 rw [← z0G] at hr
 exact okB (q6x N) hr
def q2S : List Sh := [.d F2, .as (.ptr (.g (.l 1)) [] c9), .d (.int .i64), .d (.int .u64)]
def q5f : List (Key × OSh) := [(.l 1, .box (.agg c9 [.vec (.g (.l 2)) 8 (.int .u64), .d (.int .i64)])), (.l 2, .box (.arr (.int .u64)))]
noncomputable def z0I : Hints := [([1, 2, 1, 3, 1, 3, 1, 3, 1, 3, 1, 3, 1, 3, 1, 3, 1, 3, 1, 4, 1, 1], ⟨[1], [], [.g (.l 1), .g (.l 2)], [], [], [(.int .u64)]⟩),
  ([1, 2, 1, 3, 1, 3, 1, 3, 1, 3, 1, 3, 1, 3, 1, 3, 1, 3, 1, 3, 1, 4, 1, 1], ⟨[1], [], [.g (.l 1), .g (.l 2)], [], [], [(.int .u64)]⟩),
  ([9], ⟨[], [], [.g (.l 1), .g (.l 2)], [], [], [(.int .u64)]⟩)]
noncomputable def q5e (N : Nat) : OvS (X0 gl0) where
 g R := [(32, q2i N), (47, q0O N), (48, q1N N), (50, q8w N), (51, q8u N), (52, q8v N), (53, q3W N)]
 ok := fun R => List.forall_mem_cons.2 ⟨q6X N, List.forall_mem_cons.2 ⟨q3q N, List.forall_mem_cons.2 ⟨q6s N, List.forall_mem_cons.2 ⟨z9t N, List.forall_mem_cons.2 ⟨z9p N, List.forall_mem_cons.2 ⟨z9r N, List.forall_mem_cons.2 ⟨z1Z N, fun _ h => nomatch h⟩⟩⟩⟩⟩⟩⟩
noncomputable def u1 {R : Type} (N : Nat) (a0 a1 a2 b0 b1 b2 : C) (k1 : KD R) : Option R := (bif decide (C.toInt a1 = 1) then (if List.length (C.elems b2) = List.length (C.elems b2) then (o7 N (C.slice [a2]) (C.int (↑(Int.toNat (C.toInt b0)) : Int)) b1 b2 (fun d1 m1 => (if List.length (C.elems (dk d1 3)) = List.length (C.elems (dk d1 3)) then (k1 [C.int (↑(Int.toNat (C.toInt (dk d1 0))) : Int), dk d1 1, C.int (↑(Int.toNat (C.toInt (dk d1 2))) : Int), dk d1 3] []) else none))) else none) else (bif decide (C.toInt a1 = 2) then (bif decide (IntKind.wrap IntKind.u64 (↑(List.length (C.elems (C.get a0 0))) : Int) ≤ C.toInt a2) then (if List.length (C.elems b2) = List.length (C.elems b2) then (Q1 N (C.int 1) (C.int (↑(Int.toNat (C.toInt b0)) : Int)) b1 b2 (fun d1 m1 => (if List.length (C.elems (dk d1 3)) = List.length (C.elems (dk d1 3)) then (k1 [C.int (↑(Int.toNat (C.toInt (dk d1 0))) : Int), dk d1 1, C.int (↑(Int.toNat (C.toInt (dk d1 2))) : Int), dk d1 3] []) else none))) else none) else (if 0 ≤ C.toInt a2 ∧ C.toInt a2 < (↑(List.length (C.elems (C.get a0 0))) : Int) then (if List.length (C.elems b2) = List.length (C.elems b2) then (o7 N (C.slice [List.getD (C.elems (C.get a0 0)) (Int.toNat (C.toInt a2)) C.nil]) (C.int (↑(Int.toNat (C.toInt b0)) : Int)) b1 b2 (fun d1 m1 => (if List.length (C.elems (dk d1 3)) = List.length (C.elems (dk d1 3)) then (k1 [C.int (↑(Int.toNat (C.toInt (dk d1 0))) : Int), dk d1 1, C.int (↑(Int.toNat (C.toInt (dk d1 2))) : Int), dk d1 3] []) else none))) else none) else none)) else (bif decide (C.toInt a1 = 3) then (jn (fun d1 m1 => (if List.length (C.elems (dk d1 3)) = List.length (C.elems (dk d1 3)) then (k1 [C.int (↑(Int.toNat (C.toInt (dk d1 0))) : Int), dk d1 1, C.int (↑(Int.toNat (C.toInt (dk d1 2))) : Int), dk d1 3] []) else none)) (fun k2 => (if List.length (C.elems b2) = List.length (C.elems b2) then (u5 N (C.int (↑(Int.toNat (C.toInt b0)) : Int)) b1 b2 (fun d1 m1 => (if List.length (C.elems (dk d1 4)) = List.length (C.elems (dk d1 4)) then (u5 N (C.int (↑(Int.toNat (C.toInt (dk d1 1))) : Int)) (dk d1 2) (dk d1 4) (fun d2 m2 => (bif !decide (C.toInt (dk d2 2) = 0) then (if List.length (C.elems (dk d2 4)) = List.length (C.elems (dk d2 4)) then (k2 [C.int (↑(Int.toNat (C.toInt (dk d2 1))) : Int), dk d2 2, C.int (↑(Int.toNat (C.toInt (dk d1 3))) : Int), dk d2 4] []) else none) else (q2I N (dk d2 0) (dk d1 0) (fun d3 m3 => (bif !decide (C.toInt (dk d3 1) = 0) then (if List.length (C.elems (dk d2 4)) = List.length (C.elems (dk d2 4)) then (Q1 N (dk d3 1) (C.int (↑(Int.toNat (C.toInt (dk d2 1))) : Int)) (dk d2 2) (dk d2 4) (fun d4 m4 => (if List.length (C.elems (dk d4 3)) = List.length (C.elems (dk d4 3)) then (k2 [C.int (↑(Int.toNat (C.toInt (dk d4 0))) : Int), dk d4 1, C.int (↑(Int.toNat (C.toInt (dk d1 3))) : Int), dk d4 3] []) else none))) else none) else (if List.length (C.elems (dk d2 4)) = List.length (C.elems (dk d2 4)) then (o7 N (C.slice [dk d3 0]) (C.int (↑(Int.toNat (C.toInt (dk d2 1))) : Int)) (dk d2 2) (dk d2 4) (fun d4 m4 => (if List.length (C.elems (dk d4 3)) = List.length (C.elems (dk d4 3)) then (k2 [C.int (↑(Int.toNat (C.toInt (dk d4 0))) : Int), dk d4 1, C.int (↑(Int.toNat (C.toInt (dk d1 3))) : Int), dk d4 3] []) else none))) else none))))))) else none))) else none))) else (bif decide (C.toInt a1 = 4) then (jn (fun d1 m1 => (if List.length (C.elems (dk d1 3)) = List.length (C.elems (dk d1 3)) then (k1 [C.int (↑(Int.toNat (C.toInt (dk d1 0))) : Int), dk d1 1, C.int (↑(Int.toNat (C.toInt (dk d1 2))) : Int), dk d1 3] []) else none)) (fun k2 => (if List.length (C.elems b2) = List.length (C.elems b2) then (u5 N (C.int (↑(Int.toNat (C.toInt b0)) : Int)) b1 b2 (fun d1 m1 => (if List.length (C.elems (dk d1 4)) = List.length (C.elems (dk d1 4)) then (u5 N (C.int (↑(Int.toNat (C.toInt (dk d1 1))) : Int)) (dk d1 2) (dk d1 4) (fun d2 m2 => (bif !decide (C.toInt (dk d2 2) = 0) then (if List.length (C.elems (dk d2 4)) = List.length (C.elems (dk d2 4)) then (k2 [C.int (↑(Int.toNat (C.toInt (dk d2 1))) : Int), dk d2 2, C.int (↑(Int.toNat (C.toInt (dk d1 3))) : Int), dk d2 4] []) else none) else (q2G N (dk d2 0) (dk d1 0) (fun d3 m3 => (bif !decide (C.toInt (dk d3 1) = 0) then (if List.length (C.elems (dk d2 4)) = List.length (C.elems (dk d2 4)) then (Q1 N (dk d3 1) (C.int (↑(Int.toNat (C.toInt (dk d2 1))) : Int)) (dk d2 2) (dk d2 4) (fun d4 m4 => (if List.length (C.elems (dk d4 3)) = List.length (C.elems (dk d4 3)) then (k2 [C.int (↑(Int.toNat (C.toInt (dk d4 0))) : Int), dk d4 1, C.int (↑(Int.toNat (C.toInt (dk d1 3))) : Int), dk d4 3] []) else none))) else none) else (if List.length (C.elems (dk d2 4)) = List.length (C.elems (dk d2 4)) then (o7 N (C.slice [dk d3 0]) (C.int (↑(Int.toNat (C.toInt (dk d2 1))) : Int)) (dk d2 2) (dk d2 4) (fun d4 m4 => (if List.length (C.elems (dk d4 3)) = List.length (C.elems (dk d4 3)) then (k2 [C.int (↑(Int.toNat (C.toInt (dk d4 0))) : Int), dk d4 1, C.int (↑(Int.toNat (C.toInt (dk d1 3))) : Int), dk d4 3] []) else none))) else none))))))) else none))) else none))) else (bif decide (C.toInt a1 = 5) then (jn (fun d1 m1 => (if List.length (C.elems (dk d1 3)) = List.length (C.elems (dk d1 3)) then (k1 [C.int (↑(Int.toNat (C.toInt (dk d1 0))) : Int), dk d1 1, C.int (↑(Int.toNat (C.toInt (dk d1 2))) : Int), dk d1 3] []) else none)) (fun k2 => (if List.length (C.elems b2) = List.length (C.elems b2) then (u5 N (C.int (↑(Int.toNat (C.toInt b0)) : Int)) b1 b2 (fun d1 m1 => (if List.length (C.elems (dk d1 4)) = List.length (C.elems (dk d1 4)) then (u5 N (C.int (↑(Int.toNat (C.toInt (dk d1 1))) : Int)) (dk d1 2) (dk d1 4) (fun d2 m2 => (bif !decide (C.toInt (dk d2 2) = 0) then (if List.length (C.elems (dk d2 4)) = List.length (C.elems (dk d2 4)) then (k2 [C.int (↑(Int.toNat (C.toInt (dk d2 1))) : Int), dk d2 2, C.int (↑(Int.toNat (C.toInt (dk d1 3))) : Int), dk d2 4] []) else none) else (q2H N (dk d2 0) (dk d1 0) (fun d3 m3 => (bif !decide (C.toInt (dk d3 1) = 0) then (if List.length (C.elems (dk d2 4)) = List.length (C.elems (dk d2 4)) then (Q1 N (dk d3 1) (C.int (↑(Int.toNat (C.toInt (dk d2 1))) : Int)) (dk d2 2) (dk d2 4) (fun d4 m4 => (if List.length (C.elems (dk d4 3)) = List.length (C.elems (dk d4 3)) then (k2 [C.int (↑(Int.toNat (C.toInt (dk d4 0))) : Int), dk d4 1, C.int (↑(Int.toNat (C.toInt (dk d1 3))) : Int), dk d4 3] []) else none))) else none) else (if List.length (C.elems (dk d2 4)) = List.length (C.elems (dk d2 4)) then (o7 N (C.slice [dk d3 0]) (C.int (↑(Int.toNat (C.toInt (dk d2 1))) : Int)) (dk d2 2) (dk d2 4) (fun d4 m4 => (if List.length (C.elems (dk d4 3)) = List.length (C.elems (dk d4 3)) then (k2 [C.int (↑(Int.toNat (C.toInt (dk d4 0))) : Int), dk d4 1, C.int (↑(Int.toNat (C.toInt (dk d1 3))) : Int), dk d4 3] []) else none))) else none))))))) else none))) else none))) else (bif decide (C.toInt a1 = 6) then (if List.length (C.elems b2) = List.length (C.elems b2) then (u5 N (C.int (↑(Int.toNat (C.toInt b0)) : Int)) b1 b2 (fun d1 m1 => (if List.length (C.elems (dk d1 4)) = List.length (C.elems (dk d1 4)) then (u5 N (C.int (↑(Int.toNat (C.toInt (dk d1 1))) : Int)) (dk d1 2) (dk d1 4) (fun d2 m2 => (if List.length (C.elems (dk d2 4)) = List.length (C.elems (dk d2 4)) then (b7 N (C.bool (decide (C.toInt (dk d2 0) < C.toInt (dk d1 0)))) (C.int (↑(Int.toNat (C.toInt (dk d2 1))) : Int)) (dk d2 2) (dk d2 4) (fun d3 m3 => (if List.length (C.elems (dk d3 3)) = List.length (C.elems (dk d3 3)) then (k1 [C.int (↑(Int.toNat (C.toInt (dk d3 0))) : Int), dk d3 1, C.int (↑(Int.toNat (C.toInt (dk d1 3))) : Int), dk d3 3] []) else none))) else none))) else none))) else none) else (bif decide (C.toInt a1 = 7) then (if List.length (C.elems b2) = List.length (C.elems b2) then (u5 N (C.int (↑(Int.toNat (C.toInt b0)) : Int)) b1 b2 (fun d1 m1 => (if List.length (C.elems (dk d1 4)) = List.length (C.elems (dk d1 4)) then (u5 N (C.int (↑(Int.toNat (C.toInt (dk d1 1))) : Int)) (dk d1 2) (dk d1 4) (fun d2 m2 => (if List.length (C.elems (dk d2 4)) = List.length (C.elems (dk d2 4)) then (b7 N (C.bool (decide (C.toInt (dk d2 0) = C.toInt (dk d1 0)))) (C.int (↑(Int.toNat (C.toInt (dk d2 1))) : Int)) (dk d2 2) (dk d2 4) (fun d3 m3 => (if List.length (C.elems (dk d3 3)) = List.length (C.elems (dk d3 3)) then (k1 [C.int (↑(Int.toNat (C.toInt (dk d3 0))) : Int), dk d3 1, C.int (↑(Int.toNat (C.toInt (dk d1 3))) : Int), dk d3 3] []) else none))) else none))) else none))) else none) else (bif decide (C.toInt a1 = 8) then (if List.length (C.elems b2) = List.length (C.elems b2) then (u5 N (C.int (↑(Int.toNat (C.toInt b0)) : Int)) b1 b2 (fun d1 m1 => (if List.length (C.elems (dk d1 4)) = List.length (C.elems (dk d1 4)) then (b7 N (C.bool (decide (C.toInt (dk d1 0) = 0))) (C.int (↑(Int.toNat (C.toInt (dk d1 1))) : Int)) (dk d1 2) (dk d1 4) (fun d2 m2 => (if List.length (C.elems (dk d2 3)) = List.length (C.elems (dk d2 3)) then (k1 [C.int (↑(Int.toNat (C.toInt (dk d2 0))) : Int), dk d2 1, C.int (↑(Int.toNat (C.toInt (dk d1 3))) : Int), dk d2 3] []) else none))) else none))) else none) else (bif decide (C.toInt a1 = 9) then (if List.length (C.elems b2) = List.length (C.elems b2) then (u5 N (C.int (↑(Int.toNat (C.toInt b0)) : Int)) b1 b2 (fun d1 m1 => (if List.length (C.elems (dk d1 4)) = List.length (C.elems (dk d1 4)) then (u5 N (C.int (↑(Int.toNat (C.toInt (dk d1 1))) : Int)) (dk d1 2) (dk d1 4) (fun d2 m2 => (jn (fun d3 m3 => (if List.length (C.elems (dk d3 2)) = List.length (C.elems (dk d3 2)) then (k1 [C.int (↑(Int.toNat (C.toInt (dk d3 0))) : Int), dk d3 1, C.int (↑(Int.toNat (C.toInt (dk d3 3))) : Int), dk d3 2] []) else none)) (fun k2 => (bif !decide (C.toInt (dk d2 0) = 0) then (if List.length (C.elems (dk d2 4)) = List.length (C.elems (dk d2 4)) then (b7 N (C.bool !decide (C.toInt (dk d1 0) = 0)) (C.int (↑(Int.toNat (C.toInt (dk d2 1))) : Int)) (dk d2 2) (dk d2 4) (fun d3 m3 => (if List.length (C.elems (dk d3 3)) = List.length (C.elems (dk d3 3)) then (k2 [C.int (↑(Int.toNat (C.toInt (dk d3 0))) : Int), dk d3 1, dk d3 3, C.int (↑(Int.toNat (C.toInt (dk d1 3))) : Int), C.int (↑(Int.toNat (C.toInt (dk d1 3))) : Int)] []) else none))) else none) else (if List.length (C.elems (dk d2 4)) = List.length (C.elems (dk d2 4)) then (b7 N (C.bool false) (C.int (↑(Int.toNat (C.toInt (dk d2 1))) : Int)) (dk d2 2) (dk d2 4) (fun d3 m3 => (if List.length (C.elems (dk d3 3)) = List.length (C.elems (dk d3 3)) then (k2 [C.int (↑(Int.toNat (C.toInt (dk d3 0))) : Int), dk d3 1, dk d3 3, C.int (↑(Int.toNat (C.toInt (dk d1 3))) : Int), C.int (↑(Int.toNat (C.toInt (dk d1 3))) : Int)] []) else none))) else none)))))) else none))) else none) else (bif decide (C.toInt a1 = 10) then (if List.length (C.elems b2) = List.length (C.elems b2) then (u5 N (C.int (↑(Int.toNat (C.toInt b0)) : Int)) b1 b2 (fun d1 m1 => (if List.length (C.elems (dk d1 4)) = List.length (C.elems (dk d1 4)) then (u5 N (C.int (↑(Int.toNat (C.toInt (dk d1 1))) : Int)) (dk d1 2) (dk d1 4) (fun d2 m2 => (jn (fun d3 m3 => (if List.length (C.elems (dk d3 2)) = List.length (C.elems (dk d3 2)) then (k1 [C.int (↑(Int.toNat (C.toInt (dk d3 0))) : Int), dk d3 1, C.int (↑(Int.toNat (C.toInt (dk d3 3))) : Int), dk d3 2] []) else none)) (fun k2 => (bif !decide (C.toInt (dk d2 0) = 0) then (if List.length (C.elems (dk d2 4)) = List.length (C.elems (dk d2 4)) then (b7 N (C.bool true) (C.int (↑(Int.toNat (C.toInt (dk d2 1))) : Int)) (dk d2 2) (dk d2 4) (fun d3 m3 => (if List.length (C.elems (dk d3 3)) = List.length (C.elems (dk d3 3)) then (k2 [C.int (↑(Int.toNat (C.toInt (dk d3 0))) : Int), dk d3 1, dk d3 3, C.int (↑(Int.toNat (C.toInt (dk d1 3))) : Int), C.int (↑(Int.toNat (C.toInt (dk d1 3))) : Int)] []) else none))) else none) else (if List.length (C.elems (dk d2 4)) = List.length (C.elems (dk d2 4)) then (b7 N (C.bool !decide (C.toInt (dk d1 0) = 0)) (C.int (↑(Int.toNat (C.toInt (dk d2 1))) : Int)) (dk d2 2) (dk d2 4) (fun d3 m3 => (if List.length (C.elems (dk d3 3)) = List.length (C.elems (dk d3 3)) then (k2 [C.int (↑(Int.toNat (C.toInt (dk d3 0))) : Int), dk d3 1, dk d3 3, C.int (↑(Int.toNat (C.toInt (dk d1 3))) : Int), C.int (↑(Int.toNat (C.toInt (dk d1 3))) : Int)] []) else none))) else none)))))) else none))) else none) else (bif decide (C.toInt a1 = 13) then (if List.length (C.elems b2) = List.length (C.elems b2) then (u5 N (C.int (↑(Int.toNat (C.toInt b0)) : Int)) b1 b2 (fun d1 m1 => (if List.length (C.elems (dk d1 4)) = List.length (C.elems (dk d1 4)) then (o7 N (C.slice [dk d1 0, dk d1 0]) (C.int (↑(Int.toNat (C.toInt (dk d1 1))) : Int)) (dk d1 2) (dk d1 4) (fun d2 m2 => (if List.length (C.elems (dk d2 3)) = List.length (C.elems (dk d2 3)) then (k1 [C.int (↑(Int.toNat (C.toInt (dk d2 0))) : Int), dk d2 1, C.int (↑(Int.toNat (C.toInt (dk d1 3))) : Int), dk d2 3] []) else none))) else none))) else none) else (bif decide (C.toInt a1 = 14) then (if List.length (C.elems b2) = List.length (C.elems b2) then (u5 N (C.int (↑(Int.toNat (C.toInt b0)) : Int)) b1 b2 (fun d1 m1 => (if List.length (C.elems (dk d1 4)) = List.length (C.elems (dk d1 4)) then (u5 N (C.int (↑(Int.toNat (C.toInt (dk d1 1))) : Int)) (dk d1 2) (dk d1 4) (fun d2 m2 => (if List.length (C.elems (dk d2 4)) = List.length (C.elems (dk d2 4)) then (o7 N (C.slice [dk d1 0, dk d2 0]) (C.int (↑(Int.toNat (C.toInt (dk d2 1))) : Int)) (dk d2 2) (dk d2 4) (fun d3 m3 => (if List.length (C.elems (dk d3 3)) = List.length (C.elems (dk d3 3)) then (k1 [C.int (↑(Int.toNat (C.toInt (dk d3 0))) : Int), dk d3 1, C.int (↑(Int.toNat (C.toInt (dk d1 3))) : Int), dk d3 3] []) else none))) else none))) else none))) else none) else (bif decide (C.toInt a1 = 15) then (if List.length (C.elems b2) = List.length (C.elems b2) then (u5 N (C.int (↑(Int.toNat (C.toInt b0)) : Int)) b1 b2 (fun d1 m1 => (if List.length (C.elems (dk d1 4)) = List.length (C.elems (dk d1 4)) then (k1 [C.int (↑(Int.toNat (C.toInt (dk d1 1))) : Int), dk d1 2, C.int (↑(Int.toNat (C.toInt (dk d1 3))) : Int), dk d1 4] []) else none))) else none) else (bif decide (C.toInt a1 = 16) then (bif decide (IntKind.wrap IntKind.u64 (↑(List.length (C.elems (C.get a0 1))) : Int) ≤ C.toInt a2) then (if List.length (C.elems b2) = List.length (C.elems b2) then (Q1 N (C.int 1) (C.int (↑(Int.toNat (C.toInt b0)) : Int)) b1 b2 (fun d1 m1 => (if List.length (C.elems (dk d1 3)) = List.length (C.elems (dk d1 3)) then (k1 [C.int (↑(Int.toNat (C.toInt (dk d1 0))) : Int), dk d1 1, C.int (↑(Int.toNat (C.toInt (dk d1 2))) : Int), dk d1 3] []) else none))) else none) else (if 0 ≤ C.toInt a2 ∧ C.toInt a2 < (↑(List.length (C.elems (C.get a0 1))) : Int) then (if List.length (C.elems b2) = List.length (C.elems b2) then (b7 N (List.getD (C.elems (C.get a0 1)) (Int.toNat (C.toInt a2)) C.nil) (C.int (↑(Int.toNat (C.toInt b0)) : Int)) b1 b2 (fun d1 m1 => (if List.length (C.elems (dk d1 3)) = List.length (C.elems (dk d1 3)) then (k1 [C.int (↑(Int.toNat (C.toInt (dk d1 0))) : Int), dk d1 1, C.int (↑(Int.toNat (C.toInt (dk d1 2))) : Int), dk d1 3] []) else none))) else none) else none)) else (bif decide (C.toInt a1 = 17) then (if List.length (C.elems b2) = List.length (C.elems b2) then (o7 N (C.slice [C.get a0 2]) (C.int (↑(Int.toNat (C.toInt b0)) : Int)) b1 b2 (fun d1 m1 => (if List.length (C.elems (dk d1 3)) = List.length (C.elems (dk d1 3)) then (k1 [C.int (↑(Int.toNat (C.toInt (dk d1 0))) : Int), dk d1 1, C.int (↑(Int.toNat (C.toInt (dk d1 2))) : Int), dk d1 3] []) else none))) else none) else (if List.length (C.elems b2) = List.length (C.elems b2) then (k1 [C.int (↑(Int.toNat (C.toInt b0)) : Int), b1, C.int (↑(List.length (C.elems b2)) : Int), b2] []) else none))))))))))))))))
noncomputable def W0 {R : Type} (N : Nat) : C → C → C → C → C → C → KD R → Option R := lid "" (u1 N)
theorem q5d {R : Type} (N : Nat) (a0 a1 a2 b0 b1 b2 : C) (k : KD R) : W0 N a0 a1 a2 b0 b1 b2 k = u1 N a0 a1 a2 b0 b1 b2 k := by unfold W0; rw [Z8]
theorem q96 {R : Type} (N : Nat) (a0 a1 a2 b0 b1 b2 : C) (K : V → List (Key × O) → Option R) : exF (X0 gl0) ((q5e N).ov R) H9 (fun f r => bif Nat.beq f 33 then (bif Nat.beq r 0 then [(4, 5)] else []) else []) (fun f => bif Nat.beq f 33 then z0I else bif Nat.beq f 49 then [([9], ⟨[0], [], [], [], [], [(.int .u64)]⟩)] else []) N 400 8 33 (Sh.U0 q2S 0 [a0, a1, a2, b0, b1, b2]) (z7 (u6 q5f (Sh.q0T q2S) 0 [a0, a1, a2, b0, b1, b2] [])) K =
  W0 N a0 a1 a2 b0 b1 b2 (fun d1 m1 => K (V.tup []) [(Key.g (Key.l 1),
  O.box
   (V.agg c9
    [V.sr (Key.l 1000000000074) [] 0 (Int.toNat (C.toInt (dk d1 0))) none 8 (Ty.int IntKind.u64),
     V.d (Ty.int IntKind.i64) (dk d1 1)])),
 (Key.g (Key.l 2), O.dead (Ty.arr (Int.toNat (C.toInt (dk d1 2))) (Ty.int IntKind.u64))),
 (Key.l 1000000000074, O.box (V.d (Ty.arr (List.length (C.elems (dk d1 3))) (Ty.int IntKind.u64)) (dk d1 3)))]) := by
 rw [q5d]
 exact (show _ = jn (fun d1 m1 => (K (V.tup []) [(Key.g (Key.l 1),
  O.box
   (V.agg c9
    [V.sr (Key.l 1000000000074) [] 0 (Int.toNat (C.toInt (dk d1 0))) none 8 (Ty.int IntKind.u64),
     V.d (Ty.int IntKind.i64) (dk d1 1)])),
 (Key.g (Key.l 2), O.dead (Ty.arr (Int.toNat (C.toInt (dk d1 2))) (Ty.int IntKind.u64))),
 (Key.l 1000000000074, O.box (V.d (Ty.arr (List.length (C.elems (dk d1 3))) (Ty.int IntKind.u64)) (dk d1 3)))])) (u1 N a0 a1 a2 b0 b1 b2) by kernel_rfl).trans (o5 _ _)
noncomputable def q3t (N : Nat) {R : Type} : OvG R := q9G q2S q5f fun ds ms K => W0 N (dk ds 0) (dk ds 1) (dk ds 2) (dk ds 3) (dk ds 4) (dk ds 5) (fun d1 m1 => K (V.tup []) [(Key.g (Key.l 1),
  O.box
   (V.agg c9
    [V.sr (Key.l 1000000000074) [] 0 (Int.toNat (C.toInt (dk d1 0))) none 8 (Ty.int IntKind.u64),
     V.d (Ty.int IntKind.i64) (dk d1 1)])),
 (Key.g (Key.l 2), O.dead (Ty.arr (Int.toNat (C.toInt (dk d1 2))) (Ty.int IntKind.u64))),
 (Key.l 1000000000074, O.box (V.d (Ty.arr (List.length (C.elems (dk d1 3))) (Ty.int IntKind.u64)) (dk d1 3)))])
theorem z0H (N : Nat) {R : Type} : GOk (X0 gl0) 33 (q3t N (R := R)) := by
 unfold q3t
 refine q5p fun ds ms K r hr => ?_
 rw [← q96] at hr
 exact okB (q5e N) hr
noncomputable def y1j : Hints := [([1], ⟨[0, 2, 4, 9], [(10, .d (.int .i64)), (11, .d (.int .i64))], [], [], [], [(.int .u64)]⟩),
  ([0, 0, 6, 1], ⟨[0, 2, 4], [(27, .d .bool)], [], [], [], [(.int .u64)]⟩),
  ([1, 3, 1, 4, 1, 0, 1, 1, 1, 1, 1, 7, 1], ⟨[0, 2, 4, 9, 11], [(10, .d (.int .i64))], [], [], [], [(.int .u64)]⟩),
  ([9], ⟨[], [(6, .d (.int .u64)), (7, .d (.int .i64)), (8, .d (.int .i64))], [], [], [], [(.int .u64)]⟩)]
noncomputable def z3i (N : Nat) : OvS (X0 gl0) where
 g R := [(12, q43 N), (32, q2i N), (33, q3t N)]
 ok := fun R => List.forall_mem_cons.2 ⟨z0w N, List.forall_mem_cons.2 ⟨q6X N, List.forall_mem_cons.2 ⟨z0H N, fun _ h => nomatch h⟩⟩⟩
noncomputable def q8I {R : Type} (N : Nat) (k1 : KD R) : KD R → List C → List Es → Option R := (fun k2 d2 m2 => (if List.length (C.elems (dk d2 0)) ≤ 256 ∧ 0 ≤ C.toInt (dk d2 3) ∧ C.toInt (dk d2 3) ≤ 100000 then (bif !decide (u9 (C.elems (dk d2 0)) (Int.toNat (C.toInt (dk d2 3))) = 0) then (k1 [C.int 0, dk d2 4, C.int (u9 (C.elems (dk d2 0)) (Int.toNat (C.toInt (dk d2 3))))] []) else (if (0 ≤ if u9 (C.elems (dk d2 0)) (Int.toNat (C.toInt (dk d2 3))) = 0 then bN (C.elems (dk d2 0)) (Int.toNat (C.toInt (dk d2 3))) else 0) ∧ (if u9 (C.elems (dk d2 0)) (Int.toNat (C.toInt (dk d2 3))) = 0 then bN (C.elems (dk d2 0)) (Int.toNat (C.toInt (dk d2 3))) else 0) < 18 then (bif decide (IntKind.wrap IntKind.i64 (C.toInt (dk d2 1) - C.toInt (dk d2 4)) < C.toInt (C.get (C.get (C.agg X1) (Int.toNat (if u9 (C.elems (dk d2 0)) (Int.toNat (C.toInt (dk d2 3))) = 0 then bN (C.elems (dk d2 0)) (Int.toNat (C.toInt (dk d2 3))) else 0))) 2)) then (k1 [C.int 0, dk d2 4, C.int 24] []) else (if (0 ≤ if u9 (C.elems (dk d2 0)) (Int.toNat (C.toInt (dk d2 3))) = 0 then bN (C.elems (dk d2 0)) (Int.toNat (C.toInt (dk d2 3))) else 0) ∧ (if u9 (C.elems (dk d2 0)) (Int.toNat (C.toInt (dk d2 3))) = 0 then bN (C.elems (dk d2 0)) (Int.toNat (C.toInt (dk d2 3))) else 0) < 18 then (bif decide ((if u9 (C.elems (dk d2 0)) (Int.toNat (C.toInt (dk d2 3))) = 0 then bN (C.elems (dk d2 0)) (Int.toNat (C.toInt (dk d2 3))) else 0) = 0) then (if List.length (C.elems (dk d2 7)) = List.length (C.elems (dk d2 7)) then (u5 N (C.int (↑(Int.toNat (C.toInt (dk d2 5))) : Int)) (dk d2 6) (dk d2 7) (fun d3 m3 => (k1 [dk d3 0, C.int (IntKind.wrap IntKind.i64 (C.toInt (dk d2 4) + C.toInt (C.get (C.get (C.agg X1) (Int.toNat (if u9 (C.elems (dk d2 0)) (Int.toNat (C.toInt (dk d2 3))) = 0 then bN (C.elems (dk d2 0)) (Int.toNat (C.toInt (dk d2 3))) else 0))) 2))), dk d3 2] []))) else none) else (jn (fun d3 m3 => (bif !decide (C.toInt (dk d3 6) = 0) then (k1 [C.int 0, dk d3 3, dk d3 6] []) else (if List.length (C.elems (dk d3 7)) = List.length (C.elems (dk d3 7)) then (k2 [dk d3 0, dk d3 1, dk d3 2, dk d3 4, dk d3 3, C.int (↑(Int.toNat (C.toInt (dk d3 5))) : Int), dk d3 6, dk d3 7] []) else none))) (fun k3 => (bif decide ((if u9 (C.elems (dk d2 0)) (Int.toNat (C.toInt (dk d2 3))) = 0 then bN (C.elems (dk d2 0)) (Int.toNat (C.toInt (dk d2 3))) else 0) = 11) then (if List.length (C.elems (dk d2 7)) = List.length (C.elems (dk d2 7)) then (k3 [dk d2 0, dk d2 1, dk d2 2, C.int (IntKind.wrap IntKind.i64 (C.toInt (dk d2 4) + C.toInt (C.get (C.get (C.agg X1) (Int.toNat (if u9 (C.elems (dk d2 0)) (Int.toNat (C.toInt (dk d2 3))) = 0 then bN (C.elems (dk d2 0)) (Int.toNat (C.toInt (dk d2 3))) else 0))) 2))), C.int (IntKind.wrap IntKind.i64 (if u9 (C.elems (dk d2 0)) (Int.toNat (C.toInt (dk d2 3))) = 0 then Q3 (C.elems (dk d2 0)) (Int.toNat (C.toInt (dk d2 3)) + 1) (x8 (bN (C.elems (dk d2 0)) (Int.toNat (C.toInt (dk d2 3))))) else 0)), C.int (↑(Int.toNat (C.toInt (dk d2 5))) : Int), dk d2 6, dk d2 7] []) else none) else (bif decide ((if u9 (C.elems (dk d2 0)) (Int.toNat (C.toInt (dk d2 3))) = 0 then bN (C.elems (dk d2 0)) (Int.toNat (C.toInt (dk d2 3))) else 0) = 12) then (if List.length (C.elems (dk d2 7)) = List.length (C.elems (dk d2 7)) then (u5 N (C.int (↑(Int.toNat (C.toInt (dk d2 5))) : Int)) (dk d2 6) (dk d2 7) (fun d3 m3 => (bif !decide (C.toInt (dk d3 0) = 0) then (if List.length (C.elems (dk d3 4)) = List.length (C.elems (dk d3 4)) then (k3 [dk d2 0, dk d2 1, dk d2 2, C.int (IntKind.wrap IntKind.i64 (C.toInt (dk d2 4) + C.toInt (C.get (C.get (C.agg X1) (Int.toNat (if u9 (C.elems (dk d2 0)) (Int.toNat (C.toInt (dk d2 3))) = 0 then bN (C.elems (dk d2 0)) (Int.toNat (C.toInt (dk d2 3))) else 0))) 2))), C.int (IntKind.wrap IntKind.i64 (if u9 (C.elems (dk d2 0)) (Int.toNat (C.toInt (dk d2 3))) = 0 then Q3 (C.elems (dk d2 0)) (Int.toNat (C.toInt (dk d2 3)) + 1) (x8 (bN (C.elems (dk d2 0)) (Int.toNat (C.toInt (dk d2 3))))) else 0)), C.int (↑(Int.toNat (C.toInt (dk d3 1))) : Int), dk d3 2, dk d3 4] []) else none) else (if List.length (C.elems (dk d3 4)) = List.length (C.elems (dk d3 4)) then (k3 [dk d2 0, dk d2 1, dk d2 2, C.int (IntKind.wrap IntKind.i64 (C.toInt (dk d2 4) + C.toInt (C.get (C.get (C.agg X1) (Int.toNat (if u9 (C.elems (dk d2 0)) (Int.toNat (C.toInt (dk d2 3))) = 0 then bN (C.elems (dk d2 0)) (Int.toNat (C.toInt (dk d2 3))) else 0))) 2))), C.int (if u9 (C.elems (dk d2 0)) (Int.toNat (C.toInt (dk d2 3))) = 0 then (↑(Int.toNat (C.toInt (dk d2 3)) + 1 + x8 (bN (C.elems (dk d2 0)) (Int.toNat (C.toInt (dk d2 3))))) : Int) else 0), C.int (↑(Int.toNat (C.toInt (dk d3 1))) : Int), dk d3 2, dk d3 4] []) else none)))) else none) else (if List.length (C.elems (dk d2 7)) = List.length (C.elems (dk d2 7)) then (W0 N (dk d2 2) (C.int (if u9 (C.elems (dk d2 0)) (Int.toNat (C.toInt (dk d2 3))) = 0 then bN (C.elems (dk d2 0)) (Int.toNat (C.toInt (dk d2 3))) else 0)) (C.int (if u9 (C.elems (dk d2 0)) (Int.toNat (C.toInt (dk d2 3))) = 0 then Q3 (C.elems (dk d2 0)) (Int.toNat (C.toInt (dk d2 3)) + 1) (x8 (bN (C.elems (dk d2 0)) (Int.toNat (C.toInt (dk d2 3))))) else 0)) (C.int (↑(Int.toNat (C.toInt (dk d2 5))) : Int)) (dk d2 6) (dk d2 7) (fun d3 m3 => (if List.length (C.elems (dk d3 3)) = List.length (C.elems (dk d3 3)) then (k3 [dk d2 0, dk d2 1, dk d2 2, C.int (IntKind.wrap IntKind.i64 (C.toInt (dk d2 4) + C.toInt (C.get (C.get (C.agg X1) (Int.toNat (if u9 (C.elems (dk d2 0)) (Int.toNat (C.toInt (dk d2 3))) = 0 then bN (C.elems (dk d2 0)) (Int.toNat (C.toInt (dk d2 3))) else 0))) 2))), C.int (if u9 (C.elems (dk d2 0)) (Int.toNat (C.toInt (dk d2 3))) = 0 then (↑(Int.toNat (C.toInt (dk d2 3)) + 1 + x8 (bN (C.elems (dk d2 0)) (Int.toNat (C.toInt (dk d2 3))))) : Int) else 0), C.int (↑(Int.toNat (C.toInt (dk d3 0))) : Int), dk d3 1, dk d3 3] []) else none))) else none)))))) else none)) else none)) else none))
noncomputable def q35 {R : Type} (N : Nat) (a0 a1 a2 : C) (k1 : KD R) : Option R := (jn (fun d1 m1 => (bif C.toBool (dk d1 3) then (k1 [C.int 0, C.int 0, C.int 1] []) else (b6 N (q8I N k1) [dk d1 0, dk d1 1, dk d1 2, C.int 0, C.int 0, C.int 0, Y6 (Ty.int IntKind.i64), C.agg []] []))) (fun k2 => (bif decide (256 < (↑(List.length (C.elems a0)) : Int)) then (k2 [a0, a2, a1, C.bool true] []) else (bif decide (C.toInt a2 < 0) then (k2 [a0, a2, a1, C.bool true] []) else (k2 [a0, a2, a1, C.bool (decide (4096 < C.toInt a2))] [])))))
noncomputable def q1B {R : Type} (N : Nat) : C → C → C → KD R → Option R := lid "" (q35 N)
theorem q8H {R : Type} (N : Nat) (a0 a1 a2 : C) (k : KD R) : q1B N a0 a1 a2 k = q35 N a0 a1 a2 k := by unfold q1B; rw [Z8]
theorem y0v {R : Type} (N : Nat) (a0 a1 a2 : C) (K : V → List (Key × O) → Option R) : exF (X0 gl0) ((z3i N).ov R) H9 (fun f r => bif Nat.beq f 22 then (bif Nat.beq r 0 then [(4, 5)] else []) else []) (fun f => bif Nat.beq f 22 then y1j else []) N 400 8 22 [.d (.slice 1 (.int .u8)) a0, .d F2 a1, .d (.int .i64) a2] A0 K =
  q1B N a0 a1 a2 (fun d1 m1 => K (V.tup [V.d (Ty.int IntKind.u64) (dk d1 0), V.d (Ty.int IntKind.i64) (dk d1 1), V.d (Ty.int IntKind.i64) (dk d1 2)]) []) := by
 rw [q8H]
 exact (show _ = jn (fun d1 m1 => (K (V.tup [V.d (Ty.int IntKind.u64) (dk d1 0), V.d (Ty.int IntKind.i64) (dk d1 1), V.d (Ty.int IntKind.i64) (dk d1 2)]) [])) (q35 N a0 a1 a2) by kernel_rfl).trans (o5 _ _)
noncomputable def q97 (N : Nat) {R : Type} : OvG R := fun xs _ K => match xs with
 | [.d t0 a0, .d t1 a1, .d t2 a2] => if t0 = (.slice 1 (.int .u8)) ∧ t1 = F2 ∧ t2 = (.int .i64) then q1B N a0 a1 a2 (fun d1 m1 => K (V.tup [V.d (Ty.int IntKind.u64) (dk d1 0), V.d (Ty.int IntKind.i64) (dk d1 1), V.d (Ty.int IntKind.i64) (dk d1 2)]) []) else none
 | _ => none
theorem y1i (N : Nat) {R : Type} : GOk (X0 gl0) 22 (q97 N (R := R)) := by
 intro xs A Kr r hr
 unfold q97 at hr
 split at hr
 ·simp only [Option.ite_none_right_eq_some] at hr
  obtain ⟨hty, hr⟩ := hr
  obtain ⟨rfl, rfl, rfl⟩ := hty
  rw [← y0v] at hr
  exact okA (z3i N) hr
 ·cases hr
end Go.Proofs.YtdoajkacibicoaaDoor
namespace Go.Proofs.YtdoajkacibicoaaDoor
open Go Go.E
set_option maxRecDepth 100000
set_option maxHeartbeats 4000000
set_option linter.unusedSimpArgs false
variable {R : Type} {N : Nat}
def z6G (a b : Int) : Int × Int := if (a + b) / 18446744073709551616 = 0 then ((a + b) % 18446744073709551616, 0) else (0, 11)
def z5J (a b : Int) : Int × Int := if a < b then (0, 12) else (IntKind.u64.wrap (a - b), 0)
theorem add_eq (a b : C) (k : KD R) : q2I N a b k = k [.int (z6G a.toInt b.toInt).1, .int (z6G a.toInt b.toInt).2] [] := by
 rw [z1n]
 unfold q4S z6G
 by_cases h : (a.toInt + b.toInt) / 18446744073709551616 = 0 <;> simp [h]
theorem sub_eq (a b : C) (k : KD R) : q2G N a b k = k [.int (z5J a.toInt b.toInt).1, .int (z5J a.toInt b.toInt).2] [] := by
 rw [z1j]
 unfold q4Q z5J
 by_cases h : a.toInt < b.toInt <;> simp [h]
end Go.Proofs.YtdoajkacibicoaaDoor
namespace Go.Proofs.YtdoajkacibicoaaDoor
open Go Go.E
set_option maxRecDepth 100000
set_option maxHeartbeats 4000000
set_option linter.unusedSimpArgs false
variable {R : Type} {N : Nat}
structure St where
 s : List Int
 e : Int
def q4L (b : Bool) : Int := if b = true then 1 else 0
def St.fail (x : St) (c : Int) : St := ⟨x.s, if x.e = 0 then c else x.e⟩
def St.pop (x : St) : Int × St := match x.s with
 | [] => (0, x.fail 12)
 | a :: r => (a, ⟨r, x.e⟩)
def St.push (x : St) (a : Int) : St := if 32 ≤ x.s.length then x.fail 4 else ⟨a :: x.s, x.e⟩
def St.q4d (x : St) (a b : Int) : St := if 32 ≤ x.s.length then x.fail 4 else (x.push a).push b
structure OkA (x : St) (arr : C) : Prop where
 le : x.s.length ≤ 32
 is : arr.elems.take x.s.length = x.s.reverse.map C.int
def St.q3D (x : St) (arr : C) (a : Int) : C := if 32 ≤ x.s.length then arr else .agg (arr.elems.take x.s.length ++ [.int a])
def St.q83 (x : St) (arr : C) (a b : Int) : C := if 32 ≤ x.s.length then arr else (x.push a).q3D (x.q3D arr a) b
section
variable {x : St} {arr : C}
theorem OkA.fail (h : OkA x arr) (c : Int) : OkA (x.fail c) arr := ⟨h.le, h.is⟩
theorem OkA.pop (h : OkA x arr) : OkA x.pop.2 arr := by
 obtain ⟨s, e⟩ := x
 cases s with
 | nil => exact ⟨h.le, h.is⟩
 | cons a r =>
  have h1 : r.length + 1 ≤ 32 := h.le
  have h2 : arr.elems.take (r.length + 1) = (a :: r).reverse.map C.int := h.is
  refine ⟨show r.length ≤ 32 by omega, show arr.elems.take r.length = r.reverse.map C.int from ?_⟩
  have h3 := congrArg (List.take r.length) h2
  rw [List.take_take, Nat.min_eq_left (Nat.le_succ _), List.reverse_cons, List.map_append, List.take_append_of_le_length (by rw [List.length_map, List.length_reverse]; exact Nat.le_refl _), List.take_of_length_le (l := List.map C.int r.reverse) (by simp)] at h3
  exact h3
theorem OkA.len (h : OkA x arr) : x.s.length ≤ arr.elems.length := by
 have := congrArg List.length h.is
 simp at this
 omega
theorem OkA.top {a : Int} {r : List Int} {e : Int} (h : OkA ⟨a :: r, e⟩ arr) : arr.get r.length = .int a := by
 have h2 : arr.elems.take (r.length + 1) = (a :: r).reverse.map C.int := h.is
 have h3 := congrArg (fun l => l[r.length]?) h2
 simp only [List.getElem?_take, Nat.lt_succ_self, if_true, List.reverse_cons, List.map_append] at h3
 rw [List.getElem?_append_right (by simp)] at h3
 have h4 : arr.elems[r.length]? = some (.int a) := by simpa using h3
 cases arr <;> simp only [C.elems, List.getElem?_nil, reduceCtorEq] at h4 <;> simp [C.get, h4]
theorem OkA.push (h : OkA x arr) (a : Int) : OkA (x.push a) (x.q3D arr a) := by
 unfold St.push St.q3D
 by_cases h1 : 32 ≤ x.s.length
 ·simp only [h1, if_true]; exact h.fail 4
 ·simp only [h1, if_false]
  refine ⟨show x.s.length + 1 ≤ 32 by omega, ?_⟩
  show List.take (x.s.length + 1) (arr.elems.take x.s.length ++ [C.int a]) = (a :: x.s).reverse.map C.int
  rw [h.is, List.take_of_length_le (by simp), List.reverse_cons, List.map_append]
  rfl
theorem OkA.q4d (h : OkA x arr) (a b : Int) : OkA (x.q4d a b) (x.q83 arr a b) := by
 unfold St.q4d St.q83
 by_cases h1 : 32 ≤ x.s.length
 ·simp only [h1, if_true]; exact h.fail 4
 ·simp only [h1, if_false]; exact (h.push a).push b
theorem q3L (c : Int) (k : KD R) : Q1 N (.int c) (.int x.s.length) (.int x.e) arr k = k [.int (x.fail c).s.length, .int (x.fail c).e, .int arr.elems.length, arr] [] := by
 rw [q6t]
 unfold q1z St.fail
 simp only [go_sem, u2, Z4, Int.toNat_natCast, if_true]
 by_cases h : x.e = 0 <;> simp [h]
theorem U2 (h : OkA x arr) (k : KD R) : u5 N (.int x.s.length) (.int x.e) arr k = k [.int x.pop.1, .int x.pop.2.s.length, .int x.pop.2.e, .int arr.elems.length, arr] [] := by
 obtain ⟨s, e⟩ := x
 cases s with
 | nil =>
  rw [q3U]
  unfold q0N
  have := q3L (R := R) (N := N) (x := ⟨[], e⟩) (arr := arr) 12
  simp only [List.length_nil] at this ⊢
  simp only [go_sem, u2, Z4, Int.toNat_natCast, if_true]
  exact (this _).trans rfl
 | cons a r =>
  have hn : r.length + 1 ≤ 32 := h.le
  have hw : IntKind.wrap .i64 (((r.length + 1 : Nat) : Int) - 1) = r.length := by
   rw [IntWalk.i64_in _ (by omega)]; omega
  rw [q3U]
  unfold q0N
  simp only [List.length_cons, go_sem, u2, Z4, Int.toNat_natCast, if_true, hw]
  have h0 : ¬ (((r.length + 1 : Nat) : Int) = 0) := by omega
  have h1 : (0 : Int) ≤ (r.length : Int) ∧ (r.length : Int) < ((r.length + 1 : Nat) : Int) := ⟨by omega, by omega⟩
  have h2 : (0 : Int) ≤ 0 ∧ (0 : Int) ≤ (r.length : Int) ∧ (r.length : Int) ≤ ((r.length + 1 : Nat) : Int) := ⟨by decide, by omega, by omega⟩
  simp only [h0, decide_false, cond_false, if_pos h1, if_pos h2, Nat.zero_add, Int.sub_zero, Int.toNat_natCast, h.top]
  rfl
theorem q5o (h : OkA x arr) (a : Int) (hN : 4 < N) (k : KD R) : o7 N (.slice [.int a]) (.int x.s.length) (.int x.e) arr k = k [.int (x.push a).s.length, .int (x.push a).e, .int arr.elems.length, x.q3D arr a] [] := by
 obtain ⟨M, rfl⟩ : ∃ M, N = M + 3 := ⟨N - 3, by omega⟩
 rw [q3n]
 unfold q0r
 simp only [go_sem, U7, q3o, u2, Z4, p9, Int.toNat_natCast, if_true, List.length_cons, List.length_nil, Nat.zero_add]
 have hl := h.len
 have h32 := h.le
 have e1 : IntKind.i64.wrap ((0 : Int) + 1) = 1 := by decide
 have e2 : ((0 : Int) < ((1 : Nat) : Int)) = True := by simp
 have e3 : (((1 : Nat) : Int) < ((1 : Nat) : Int)) = False := by simp
 by_cases h1 : 32 ≤ x.s.length
 ·have h1' : (32 : Int) ≤ (x.s.length : Int) := by omega
  simp only [h1', q3L, go_sem, u2, decide_true, if_true]
  simp [St.push, St.q3D, h1]
 ·have h1' : ¬ (32 : Int) ≤ (x.s.length : Int) := by omega
  have h2 : x.s.length + 1 = (List.take x.s.length arr.elems ++ [C.int a]).length := by simp; omega
  have h3 : (x.s.length + 1) * 8 ≤ 140737488355328 ∧ x.s.length + 1 ≤ 9223372036854775807 := by omega
  simp only [h1', go_sem, u2, e1, List.getD_cons_zero, ← h2, h3]
  simp [St.push, St.q3D, h1]
theorem z8W (h : OkA x arr) (a b : Int) (hN : 4 < N) (k : KD R) : o7 N (.slice [.int a, .int b]) (.int x.s.length) (.int x.e) arr k = k [.int (x.q4d a b).s.length, .int (x.q4d a b).e, .int arr.elems.length, x.q83 arr a b] [] := by
 obtain ⟨M, rfl⟩ : ∃ M, N = M + 3 := ⟨N - 3, by omega⟩
 rw [q3n]
 unfold q0r
 simp only [go_sem, U7, q3o, u2, Z4, p9, Int.toNat_natCast, if_true, List.length_cons, List.length_nil, Nat.zero_add]
 have hl := h.len
 have h32 := h.le
 have e1 : IntKind.i64.wrap ((0 : Int) + 1) = 1 := by decide
 have e2 : IntKind.i64.wrap ((1 : Int) + 1) = 2 := by decide
 by_cases h1 : 32 ≤ x.s.length
 ·have h1' : (32 : Int) ≤ (x.s.length : Int) := by omega
  simp only [h1', q3L, go_sem, u2, decide_true, if_true]
  simp [St.q4d, St.q83, h1]
 ·have h1' : ¬ (32 : Int) ≤ (x.s.length : Int) := by omega
  have h2 : x.s.length + 1 = (List.take x.s.length arr.elems ++ [C.int a]).length := by simp; omega
  have h3 : (x.s.length + 1) * 8 ≤ 140737488355328 ∧ x.s.length + 1 ≤ 9223372036854775807 := by omega
  have hx : x.push a = ⟨a :: x.s, x.e⟩ := if_neg h1
  have hA : x.q3D arr a = .agg (arr.elems.take x.s.length ++ [.int a]) := if_neg h1
  simp only [h1', go_sem, u2, e1, e2, List.getD_cons_zero, List.getD_cons_succ, ← h2, h3]
  by_cases h4 : 32 ≤ x.s.length + 1
  ·have h4' : (32 : Int) ≤ ((x.s.length + 1 : Nat) : Int) := by omega
   have := q3L (R := R) (N := M + 3) (x := x.push a) (arr := x.q3D arr a) 4
   rw [hx, hA] at this
   simp only [List.length_cons] at this
   simp only [h4', go_sem, u2, this]
   simp [St.q4d, St.q83, h1, hx, hA, St.push, St.q3D, h4]
  ·have h4' : ¬ (32 : Int) ≤ ((x.s.length + 1 : Nat) : Int) := by omega
   have h5 : (x.s.length + 1 + 1) * 8 ≤ 140737488355328 ∧ x.s.length + 1 + 1 ≤ 9223372036854775807 := by omega
   have h6 : List.take (x.s.length + 1) (List.take x.s.length arr.elems ++ [C.int a]) = List.take x.s.length arr.elems ++ [C.int a] := List.take_of_length_le (by omega)
   have h7 : x.s.length + 1 + 1 = (List.take x.s.length arr.elems ++ [C.int a] ++ [C.int b]).length := by simp; omega
   simp only [h4', go_sem, u2, z8q, h5, h6, ← h7]
   simp [St.q4d, St.q83, h1, hx, hA, St.push, St.q3D, h4]
   rw [z8q, h6, List.append_assoc]
   rfl
theorem q5B (h : OkA x arr) (c : C) (hN : 4 < N) (k : KD R) : b7 N c (.int x.s.length) (.int x.e) arr k = k [.int (x.push (q4L c.toBool)).s.length, .int (x.push (q4L c.toBool)).e, .int arr.elems.length, x.q3D arr (q4L c.toBool)] [] := by
 rw [q6w]
 unfold q1A
 cases hc : c.toBool <;> simp only [go_sem, u2, Int.toNat_natCast, if_true, cond_true, cond_false, q5o h _ hN] <;> first | done | rfl
end
def St.put (x : St) (r : Int × Int) : St := if r.2 = 0 then x.push r.1 else x.fail r.2
def hiM (a b : Int) : Int :=
  (IntKind.wrap IntKind.u64
   (IntKind.wrap IntKind.u64
     (IntKind.wrap IntKind.u64
       (Int.fdiv (a) (2 ^ min (Int.toNat 32) 64) * Int.fdiv (b) (2 ^ min (Int.toNat 32) 64)) +
      Int.fdiv
       (IntKind.wrap IntKind.u64
        (IntKind.wrap IntKind.u64
          (Int.fdiv (a) (2 ^ min (Int.toNat 32) 64) *
           q0A BinOp.and IntKind.u64 (b) 4294967295) +
         Int.fdiv
          (IntKind.wrap IntKind.u64
           (q0A BinOp.and IntKind.u64 (a) 4294967295 *
            q0A BinOp.and IntKind.u64 (b) 4294967295))
          (2 ^ min (Int.toNat 32) 64)))
       (2 ^ min (Int.toNat 32) 64)) +
    Int.fdiv
     (IntKind.wrap IntKind.u64
      (q0A BinOp.and IntKind.u64
        (IntKind.wrap IntKind.u64
         (IntKind.wrap IntKind.u64
           (Int.fdiv (a) (2 ^ min (Int.toNat 32) 64) *
            q0A BinOp.and IntKind.u64 (b) 4294967295) +
          Int.fdiv
           (IntKind.wrap IntKind.u64
            (q0A BinOp.and IntKind.u64 (a) 4294967295 *
             q0A BinOp.and IntKind.u64 (b) 4294967295))
           (2 ^ min (Int.toNat 32) 64)))
        4294967295 +
       IntKind.wrap IntKind.u64
        (q0A BinOp.and IntKind.u64 (a) 4294967295 *
         Int.fdiv (b) (2 ^ min (Int.toNat 32) 64))))
     (2 ^ min (Int.toNat 32) 64)))
def mulR (a b : Int) : Int × Int := if hiM a b = 0 then (IntKind.u64.wrap (a * b), 0) else (0, 11)
def St.q7w (x : St) (f : Int → Int → Int × Int) : St := if x.pop.2.pop.2.e = 0 then x.pop.2.pop.2.put (f x.pop.2.pop.1 x.pop.1) else x.pop.2.pop.2
def X5 (w : C) (op : Nat) (arg : Int) (x : St) : St := match op with
 | 1 => x.push arg
 | 2 => if arg < ((w.get 0).elems.length : Int) then x.push ((w.get 0).elems.getD arg.toNat .nil).toInt else x.fail 1
 | 3 => x.q7w z6G
 | 4 => x.q7w z5J
 | 5 => x.q7w mulR
 | 6 => x.pop.2.pop.2.push (q4L (decide (x.pop.2.pop.1 < x.pop.1)))
 | 7 => x.pop.2.pop.2.push (q4L (decide (x.pop.2.pop.1 = x.pop.1)))
 | 8 => x.pop.2.push (q4L (decide (x.pop.1 = 0)))
 | 9 => x.pop.2.pop.2.push (q4L (!decide (x.pop.2.pop.1 = 0) && !decide (x.pop.1 = 0)))
 | 10 => x.pop.2.pop.2.push (q4L (!decide (x.pop.2.pop.1 = 0) || !decide (x.pop.1 = 0)))
 | 13 => x.pop.2.q4d x.pop.1 x.pop.1
 | 14 => x.pop.2.pop.2.q4d x.pop.1 x.pop.2.pop.1
 | 15 => x.pop.2
 | 16 => if arg < ((w.get 1).elems.length : Int) then x.push (q4L ((w.get 1).elems.getD arg.toNat .nil).toBool) else x.fail 1
 | 17 => x.push (w.get 2).toInt
 | _ => x
structure WOk (w : C) : Prop where
 f : ∀ c ∈ (w.get 0).elems, c = .int c.toInt
 l0 : (w.get 0).elems.length < 4611686018427387904
 l1 : (w.get 1).elems.length < 4611686018427387904
 h : w.get 2 = .int (w.get 2).toInt
theorem mul_eq (a b : Int) (k : KD R) : q2H N (.int a) (.int b) k = k [.int (mulR a b).1, .int (mulR a b).2] [] := by
 have h1 : ∀ k : KD R, q0a N (.int a) (.int b) k = k [.int (hiM a b), .int (IntKind.u64.wrap (a * b))] [] := fun k => by
  rw [q6c]; rfl
 rw [z1l]
 unfold q4R mulR
 rw [h1]
 simp only [go_sem, u2]
 by_cases h : hiM a b = 0 <;> simp [h]
theorem y5n {w : C} (hw : WOk w) {x : St} {arr : C} (h : OkA x arr) (hN : 4 < N) (op : Nat) (hop : op ≤ 17) (arg : Int) (ha : 0 ≤ arg) : ∃ arr', OkA (X5 w op arg x) arr' ∧ ∀ {R : Type} (k : KD R),
  W0 N w (.int op) (.int arg) (.int x.s.length) (.int x.e) arr k = k [.int (X5 w op arg x).s.length, .int (X5 w op arg x).e, .int arr.elems.length, arr'] [] := by
 have c : op = 0 ∨ op = 1 ∨ op = 2 ∨ op = 3 ∨ op = 4 ∨ op = 5 ∨ op = 6 ∨ op = 7 ∨ op = 8 ∨ op = 9 ∨ op = 10 ∨ op = 11 ∨ op = 12 ∨ op = 13 ∨ op = 14 ∨ op = 15 ∨ op = 16 ∨ op = 17 := by omega
 have hp := h.pop
 have hpp := hp.pop
 have red : ∀ b : Prop, [Decidable b] → (if b then true else false) = decide b := fun b _ => by by_cases h : b <;> simp [h]
 have m1 : IntKind.u64.min = 0 := by decide
 have m2 : IntKind.u64.max = 18446744073709551615 := by decide
 have ofl : ∀ n : Nat, n < 4611686018427387904 → IntKind.u64.wrap (n : Int) = n := fun n hn => q2y (by omega) (by omega)
 have go : ∀ (x' : St) (arr' : C), OkA x' arr' → (∀ {R : Type} (k : KD R), u1 N w (.int op) (.int arg) (.int x.s.length) (.int x.e) arr k = k [.int x'.s.length, .int x'.e, .int arr.elems.length, arr'] []) → x' = X5 w op arg x → ∃ arr', OkA (X5 w op arg x) arr' ∧ ∀ {R : Type} (k : KD R),
  W0 N w (.int op) (.int arg) (.int x.s.length) (.int x.e) arr k = k [.int (X5 w op arg x).s.length, .int (X5 w op arg x).e, .int arr.elems.length, arr'] [] := by
  rintro x' arr' h1 h2 rfl
  exact ⟨arr', h1, fun k => by rw [q5d]; exact h2 k⟩
 have q7w : ∀ (f : Int → Int → Int × Int), X5 w op arg x = x.q7w f → (∀ {R : Type} (k : KD R), u1 N w (.int op) (.int arg) (.int x.s.length) (.int x.e) arr k =
   if x.pop.2.pop.2.e = 0 then (if (f x.pop.2.pop.1 x.pop.1).2 = 0 then k [.int (x.pop.2.pop.2.push (f x.pop.2.pop.1 x.pop.1).1).s.length, .int (x.pop.2.pop.2.push (f x.pop.2.pop.1 x.pop.1).1).e, .int arr.elems.length, x.pop.2.pop.2.q3D arr (f x.pop.2.pop.1 x.pop.1).1] []
    else k [.int (x.pop.2.pop.2.fail (f x.pop.2.pop.1 x.pop.1).2).s.length, .int (x.pop.2.pop.2.fail (f x.pop.2.pop.1 x.pop.1).2).e, .int arr.elems.length, arr] [])
   else k [.int x.pop.2.pop.2.s.length, .int x.pop.2.pop.2.e, .int arr.elems.length, arr] []) → ∃ arr', OkA (X5 w op arg x) arr' ∧ ∀ {R : Type} (k : KD R),
  W0 N w (.int op) (.int arg) (.int x.s.length) (.int x.e) arr k = k [.int (X5 w op arg x).s.length, .int (X5 w op arg x).e, .int arr.elems.length, arr'] [] := by
  intro f hf hk
  by_cases h1 : x.pop.2.pop.2.e = 0
  ·by_cases h2 : (f x.pop.2.pop.1 x.pop.1).2 = 0
   ·refine go _ _ (hpp.push (f x.pop.2.pop.1 x.pop.1).1) (fun k => ?_) ?_
    ·rw [hk, if_pos h1, if_pos h2]
    ·rw [hf]; simp [St.q7w, St.put, h1, h2]
   ·refine go _ _ (hpp.fail (f x.pop.2.pop.1 x.pop.1).2) (fun k => ?_) ?_
    ·rw [hk, if_pos h1, if_neg h2]
    ·rw [hf]; simp [St.q7w, St.put, h1, h2]
  ·refine go _ _ hpp (fun k => ?_) ?_
   ·rw [hk, if_neg h1]
   ·rw [hf]; simp [St.q7w, h1]
 rcases c with rfl | rfl | rfl | rfl | rfl | rfl | rfl | rfl | rfl | rfl | rfl | rfl | rfl | rfl | rfl | rfl | rfl | rfl
 case inr.inl =>   -- push
  refine go _ _ (h.push arg) (fun k => ?_) rfl
  unfold u1
  simp only [go_sem, u2, Int.toNat_natCast, if_true, q5o h _ hN, Int.reduceEq, reduceIte]
 case inr.inr.inl =>   -- load
  by_cases hlt : arg < ((w.get 0).elems.length : Int)
  ·have hlt' : ¬ ((w.get 0).elems.length : Int) ≤ arg := by omega
   have hget : (w.get 0).elems.getD arg.toNat .nil = .int ((w.get 0).elems.getD arg.toNat .nil).toInt := by
    refine hw.f _ ?_
    rw [List.getD_eq_getElem?_getD, List.getElem?_eq_getElem (by omega)]
    exact List.getElem_mem _
   refine go _ _ (h.push ((w.get 0).elems.getD arg.toNat .nil).toInt) (fun k => ?_) (by simp only [X5, hlt, if_true])
   unfold u1
   simp only [go_sem, u2, Int.toNat_natCast, if_true, ofl _ hw.l0, hlt', hlt, ha, and_self, Int.reduceEq, reduceIte]
   rw [hget, q5o h _ hN]
   simp only [go_sem, u2, Int.toNat_natCast, if_true]
  ·have hlt' : ((w.get 0).elems.length : Int) ≤ arg := by omega
   refine go _ _ (h.fail 1) (fun k => ?_) (by simp only [X5, hlt, if_false])
   unfold u1
   simp only [go_sem, u2, Int.toNat_natCast, if_true, ofl _ hw.l0, hlt', q3L, Int.reduceEq, reduceIte]
 case inr.inr.inr.inl =>   -- add
  refine q7w z6G rfl fun k => ?_
  unfold u1
  simp only [go_sem, u2, Int.toNat_natCast, if_true, U2 h, U2 hp, add_eq, q5o hpp _ hN, q3L, Int.reduceEq, reduceIte]
  by_cases h1 : x.pop.2.pop.2.e = 0 <;> by_cases h2 : (z6G x.pop.2.pop.1 x.pop.1).2 = 0 <;> simp [h1, h2]
 case inr.inr.inr.inr.inl =>   -- sub
  refine q7w z5J rfl fun k => ?_
  unfold u1
  simp only [go_sem, u2, Int.toNat_natCast, if_true, U2 h, U2 hp, sub_eq, q5o hpp _ hN, q3L, Int.reduceEq, reduceIte]
  by_cases h1 : x.pop.2.pop.2.e = 0 <;> by_cases h2 : (z5J x.pop.2.pop.1 x.pop.1).2 = 0 <;> simp [h1, h2]
 case inr.inr.inr.inr.inr.inl =>   -- mul
  refine q7w mulR rfl fun k => ?_
  unfold u1
  simp only [go_sem, u2, Int.toNat_natCast, if_true, U2 h, U2 hp, mul_eq, q5o hpp _ hN, q3L, Int.reduceEq, reduceIte]
  by_cases h1 : x.pop.2.pop.2.e = 0 <;> by_cases h2 : (mulR x.pop.2.pop.1 x.pop.1).2 = 0 <;> simp [h1, h2]
 all_goals try (   -- those that can't fail of themselves
  first
  | (refine go _ _ (hpp.push _) (fun k => ?_) rfl
     unfold u1
     simp only [go_sem, u2, Z4, Int.toNat_natCast, if_true, U2 h, U2 hp, q5B hpp _ hN, Int.reduceEq, reduceIte]
     first | done | rfl)
  | (refine go _ _ (hp.push _) (fun k => ?_) rfl
     unfold u1
     simp only [go_sem, u2, Z4, Int.toNat_natCast, if_true, U2 h, q5B hp _ hN, Int.reduceEq, reduceIte]
     first | done | rfl)
  | (refine go _ _ (hp.q4d _ _) (fun k => ?_) rfl
     unfold u1
     simp only [go_sem, u2, Int.toNat_natCast, if_true, U2 h, z8W hp _ _ hN, Int.reduceEq, reduceIte]
     first | done | rfl)
  | (refine go _ _ (hpp.q4d _ _) (fun k => ?_) rfl
     unfold u1
     simp only [go_sem, u2, Int.toNat_natCast, if_true, U2 h, U2 hp, z8W hpp _ _ hN, Int.reduceEq, reduceIte]
     first | done | rfl)
  | (refine go _ _ hp (fun k => ?_) rfl
     unfold u1
     simp only [go_sem, u2, Int.toNat_natCast, if_true, U2 h, Int.reduceEq, reduceIte]
     first | done | rfl)
  | (refine go _ _ h (fun k => ?_) rfl
     unfold u1
     simp only [go_sem, u2, Int.toNat_natCast, if_true, Int.reduceEq, reduceIte]
     first | done | rfl))
 ·by_cases h1 : x.pop.2.pop.1 = 0
  ·refine go _ _ (hpp.push (q4L false)) (fun k => ?_) (by simp [X5, h1])
   unfold u1
   simp only [go_sem, u2, Z4, Int.toNat_natCast, if_true, U2 h, U2 hp, h1, decide_true, Bool.not_true, cond_false, q5B hpp _ hN, Int.reduceEq, reduceIte]
   first | done | rfl
  ·refine go _ _ (hpp.push (q4L (!decide (x.pop.1 = 0)))) (fun k => ?_) (by simp [X5, h1])
   unfold u1
   simp only [go_sem, u2, Z4, Int.toNat_natCast, if_true, U2 h, U2 hp, h1, decide_false, Bool.not_false, cond_true, q5B hpp _ hN, Int.reduceEq, reduceIte]
   first | done | rfl
 ·by_cases h1 : x.pop.2.pop.1 = 0
  ·refine go _ _ (hpp.push (q4L (!decide (x.pop.1 = 0)))) (fun k => ?_) (by simp [X5, h1])
   unfold u1
   simp only [go_sem, u2, Z4, Int.toNat_natCast, if_true, U2 h, U2 hp, h1, decide_true, Bool.not_true, cond_false, q5B hpp _ hN, Int.reduceEq, reduceIte]
   first | done | rfl
  ·refine go _ _ (hpp.push (q4L true)) (fun k => ?_) (by simp [X5, h1])
   unfold u1
   simp only [go_sem, u2, Z4, Int.toNat_natCast, if_true, U2 h, U2 hp, h1, decide_false, Bool.not_false, cond_true, q5B hpp _ hN, Int.reduceEq, reduceIte]
   first | done | rfl
 ·by_cases hlt : arg < ((w.get 1).elems.length : Int)
  ·have hlt' : ¬ ((w.get 1).elems.length : Int) ≤ arg := by omega
   refine go _ _ (h.push (q4L ((w.get 1).elems.getD arg.toNat .nil).toBool)) (fun k => ?_) (by simp only [X5, hlt, if_true])
   unfold u1
   simp only [go_sem, u2, Int.toNat_natCast, if_true, ofl _ hw.l1, hlt', hlt, ha, and_self, q5B h _ hN, Int.reduceEq, reduceIte]
   first | done | rfl
  ·have hlt' : ((w.get 1).elems.length : Int) ≤ arg := by omega
   refine go _ _ (h.fail 1) (fun k => ?_) (by simp only [X5, hlt, if_false])
   unfold u1
   simp only [go_sem, u2, Int.toNat_natCast, if_true, ofl _ hw.l1, hlt', q3L, Int.reduceEq, reduceIte]
 ·refine go _ _ (h.push (w.get 2).toInt) (fun k => ?_) rfl
  unfold u1
  simp only [go_sem, u2, Int.toNat_natCast, if_true, Int.reduceEq, reduceIte]
  rw [hw.h, q5o h _ hN]
  simp only [go_sem, u2, Int.toNat_natCast, if_true]
end Go.Proofs.YtdoajkacibicoaaDoor
namespace Go.Proofs.YtdoajkacibicoaaDoor
open Go Go.E
set_option maxRecDepth 100000
set_option maxHeartbeats 4000000
set_option linter.unusedSimpArgs false
variable {R : Type} {N : Nat}
def H7 (o : Int) : Int := if o = 5 then 3 else if o = 16 then 10 else 1
theorem z1V (o : Int) : 1 ≤ H7 o ∧ H7 o ≤ 10 := by unfold H7; (repeat' split) <;> omega
theorem y2X : ∀ (o : Nat), o < 18 → (X1.getD o .nil).get 2 = .int (H7 o) := by
 intro o h
 have c : o = 0 ∨ o = 1 ∨ o = 2 ∨ o = 3 ∨ o = 4 ∨ o = 5 ∨ o = 6 ∨ o = 7 ∨ o = 8 ∨ o = 9 ∨ o = 10 ∨ o = 11 ∨ o = 12 ∨ o = 13 ∨ o = 14 ∨ o = 15 ∨ o = 16 ∨ o = 17 := by omega
 rcases c with rfl | rfl | rfl | rfl | rfl | rfl | rfl | rfl | rfl | rfl | rfl | rfl | rfl | rfl | rfl | rfl | rfl | rfl <;> rfl
def q1m (p : List C) (i : Nat) : Int := Q3 p (i + 1) (x8 (bN p i))
def z03 (p : List C) (gas : Int) (w : C) : Nat → Nat → Int → St → Int × Int × Int
 | 0, _, _, _ => (0, 0, 0)
 | f + 1, i, sp, x =>
  if u9 p i ≠ 0 then (0, sp, u9 p i)
  else if gas - sp < H7 (bN p i) then (0, sp, 24)
  else if bN p i = 0 then (x.pop.1, sp + H7 (bN p i), x.pop.2.e)
  else if bN p i = 11 then (if x.e ≠ 0 then (0, sp + H7 (bN p i), x.e) else z03 p gas w f (q1m p i).toNat (sp + H7 (bN p i)) x)
  else if bN p i = 12 then (if x.pop.2.e ≠ 0 then (0, sp + H7 (bN p i), x.pop.2.e) else z03 p gas w f (if x.pop.1 = 0 then i + 1 + x8 (bN p i) else (q1m p i).toNat) (sp + H7 (bN p i)) x.pop.2)
  else (if (X5 w (bN p i).toNat (q1m p i) x).e ≠ 0 then (0, sp + H7 (bN p i), (X5 w (bN p i).toNat (q1m p i) x).e)
   else z03 p gas w f (i + 1 + x8 (bN p i)) (sp + H7 (bN p i)) (X5 w (bN p i).toNat (q1m p i) x))
theorem q4q {p : List C} {gas : Int} {w : C} : ∀ (f g i : Nat) (sp : Int) (x : St), (gas - sp).toNat < f → (gas - sp).toNat < g → z03 p gas w f i sp x = z03 p gas w g i sp x
 | 0, _, _, _, _, h, _ => by omega
 | _ + 1, 0, _, _, _, _, h => by omega
 | f + 1, g + 1, i, sp, x, h1, h2 => by
  have hc := z1V (bN p i)
  simp only [z03]
  split
  ·rfl
  split
  ·rfl
  split
  ·rfl
  split
  ·split
   ·rfl
   ·exact q4q f g _ _ _ (by omega) (by omega)
  split
  ·split
   ·rfl
   ·exact q4q f g _ _ _ (by omega) (by omega)
  split
  ·rfl
  ·exact q4q f g _ _ _ (by omega) (by omega)
def q6F (p : List C) (gas : Int) (w : C) (i : Nat) (sp : Int) (x : St) : Int × Int × Int := z03 p gas w ((gas - sp).toNat + 1) i sp x
theorem y66 {p : List C} {gas : Int} {w : C} {i : Nat} {sp : Int} {x : St} : q6F p gas w i sp x =
  if u9 p i ≠ 0 then (0, sp, u9 p i)
  else if gas - sp < H7 (bN p i) then (0, sp, 24)
  else if bN p i = 0 then (x.pop.1, sp + H7 (bN p i), x.pop.2.e)
  else if bN p i = 11 then (if x.e ≠ 0 then (0, sp + H7 (bN p i), x.e) else q6F p gas w (q1m p i).toNat (sp + H7 (bN p i)) x)
  else if bN p i = 12 then (if x.pop.2.e ≠ 0 then (0, sp + H7 (bN p i), x.pop.2.e) else q6F p gas w (if x.pop.1 = 0 then i + 1 + x8 (bN p i) else (q1m p i).toNat) (sp + H7 (bN p i)) x.pop.2)
  else (if (X5 w (bN p i).toNat (q1m p i) x).e ≠ 0 then (0, sp + H7 (bN p i), (X5 w (bN p i).toNat (q1m p i) x).e)
   else q6F p gas w (i + 1 + x8 (bN p i)) (sp + H7 (bN p i)) (X5 w (bN p i).toNat (q1m p i) x)) := by
 have hc := z1V (bN p i)
 unfold q6F
 rw [z03]
 split
 ·rfl
 split
 ·rfl
 split
 ·rfl
 split
 ·split
  ·rfl
  ·exact q4q _ _ _ _ _ (by omega) (by omega)
 split
 ·split
  ·rfl
  ·exact q4q _ _ _ _ _ (by omega) (by omega)
 split
 ·rfl
 ·exact q4q _ _ _ _ _ (by omega) (by omega)
theorem y6M {p : List C} (hp : C.wf (.slice 1 (.int .u8)) (.slice p)) {i : Nat} (h : i + 1 + x8 (bN p i) ≤ p.length) (h2 : bN p i = 11 ∨ bN p i = 12) : 0 ≤ q1m p i ∧ q1m p i < 65536 := by
 have hm : x8 (bN p i) = 2 := by rcases h2 with h2 | h2 <;> rw [h2] <;> rfl
 have h16 := z2H hp (i := i + 1) (k := x8 (bN p i)) (by omega)
 unfold q1m
 rw [hm] at h16 ⊢
 exact ⟨h16.1, by have := h16.2; omega⟩
structure x0a where
 i : Nat
 sp : Int
 x : St
 arr : C
theorem y8j {p : List C} (hp : C.wf (.slice 1 (.int .u8)) (.slice p)) (hl : p.length ≤ 256) {gas : Int} (hg : 0 ≤ gas ∧ gas ≤ 4096) {w : C} (hw : WOk w) (hN : 5000 < N) (k : KD R) :
  q1B N (.slice p) w (.int gas) k = k [.int (q6F p gas w 0 0 ⟨[], 0⟩).1, .int (q6F p gas w 0 0 ⟨[], 0⟩).2.1, .int (q6F p gas w 0 0 ⟨[], 0⟩).2.2] [] := by
 rw [q8H]
 unfold q35
 have a1 : ¬ (256 : Int) < (p.length : Int) := by omega
 have a2 : ¬ gas < 0 := by omega
 have a3 : ¬ (4096 : Int) < gas := by omega
 simp only [go_sem, u2, p9, Z4, a1, a2, a3, decide_false, cond_false]
 refine q8b (F := q8I N k) (fun i : x0a => [.slice p, .int gas, w, .int i.i, .int i.sp, .int i.x.s.length, .int i.x.e, i.arr]) (fun _ => []) (fun i => (gas - i.sp).toNat)
  (fun i => OkA i.x i.arr ∧ i.x.e = 0 ∧ 0 ≤ i.sp ∧ i.sp ≤ gas ∧ i.i ≤ 100000) (fun i => k [.int (q6F p gas w i.i i.sp i.x).1, .int (q6F p gas w i.i i.sp i.x).2.1, .int (q6F p gas w i.i i.sp i.x).2.2] [])
  ?_ N ⟨0, 0, ⟨[], 0⟩, .agg []⟩ ⟨⟨by simp, by simp [C.elems]⟩, rfl, by dsimp only; omega, by dsimp only; omega, by dsimp only; omega⟩ (by dsimp only; omega)
 rintro ⟨i, sp, x, arr⟩ ⟨hA, he, h0, h1, hi⟩ rec hrec
 dsimp only at hA he h0 h1 hi hrec ⊢
 rw [y66]
 unfold q8I
 have b1 : List.length p ≤ 256 ∧ (0 : Int) ≤ (i : Int) ∧ (i : Int) ≤ 100000 := ⟨hl, by omega, by omega⟩
 simp only [go_sem, u2, p9, Z4, b1, if_true, and_self, Int.toNat_natCast]
 by_cases e1 : u9 p i = 0
 case neg => simp [e1]
 have hb : i < p.length ∧ bN p i < 18 ∧ i + 1 + x8 (bN p i) ≤ p.length := by
  unfold u9 at e1
  split at e1
  ·cases e1
  split at e1
  ·cases e1
  split at e1
  ·cases e1
  omega
 have hbw := q47 hp hb.1
 have hop : 0 ≤ bN p i ∧ bN p i < 18 := by omega
 simp only [e1, hop, if_true, and_self, decide_true, Bool.not_true, cond_false, ne_eq, not_true, if_false]
 have hco : (X1.getD (bN p i).toNat .nil).get 2 = .int (H7 (bN p i)) := by
  have := y2X (bN p i).toNat (by omega)
  rwa [Int.toNat_of_nonneg hop.1] at this
 have hcp := z1V (bN p i)
 have w1 : IntKind.i64.wrap (gas - sp) = gas - sp := IntWalk.i64_in _ (by omega)
 have w2 : IntKind.i64.wrap (sp + H7 (bN p i)) = sp + H7 (bN p i) := IntWalk.i64_in _ (by omega)
 have hmo := q3d (bN p i)
 obtain ⟨g1, g2, g3⟩ := q7j hp (i := i + 1) (k := x8 (bN p i)) (by omega) hmo
 have hpl := y5n hw hA (N := N) (by omega) (bN p i).toNat (by omega) (Q3 p (i + 1) (x8 (bN p i))) g1
 rw [Int.toNat_of_nonneg hop.1] at hpl
 simp only [hco, go_sem, u2, w1, w2]
 generalize hc : H7 (bN p i) = c at *
 by_cases e2 : gas - sp < c
 ·simp [e2]
 by_cases e3 : bN p i = 0
 ·simp [e2, e3, U2 hA, go_sem]
 have hw3 : 0 ≤ q1m p i → q1m p i < 65536 → IntKind.i64.wrap (Q3 p (i + 1) (x8 (bN p i))) = ((q1m p i).toNat : Int) := fun h1 h2 => by
  rw [Int.toNat_of_nonneg h1]
  exact IntWalk.i64_in _ (by unfold q1m at *; omega)
 by_cases e4 : bN p i = 11
 ·obtain ⟨q1, q2⟩ := y6M hp hb.2.2 (.inl e4)
  have := hrec ⟨(q1m p i).toNat, sp + c, x, arr⟩ ⟨hA, he, by dsimp only; omega, by dsimp only; omega, by dsimp only; omega⟩ (by dsimp only; omega)
  simp only [hw3 q1 q2]
  simp only [e2, e3, e4, he, decide_true, decide_false, cond_true, cond_false, Bool.not_true, if_true, if_false, not_true, not_false_iff, Int.reduceEq]
  simpa only [he] using this
 by_cases e5 : bN p i = 12
 ·obtain ⟨q1, q2⟩ := y6M hp hb.2.2 (.inr e5)
  simp only [hw3 q1 q2, U2 hA]
  simp only [e2, e3, e4, e5, go_sem, u2, decide_true, decide_false, cond_true, cond_false, Bool.not_true, if_true, if_false, not_true, not_false_iff, Int.reduceEq, Int.toNat_natCast]
  by_cases e6 : x.pop.2.e = 0
  ·by_cases e7 : x.pop.1 = 0
   ·have := hrec ⟨i + 1 + x8 (bN p i), sp + c, x.pop.2, arr⟩ ⟨hA.pop, e6, by dsimp only; omega, by dsimp only; omega, by dsimp only; omega⟩ (by dsimp only; omega)
    simp only [e5] at this
    simpa [e6, e7] using this
   ·have := hrec ⟨(q1m p i).toNat, sp + c, x.pop.2, arr⟩ ⟨hA.pop, e6, by dsimp only; omega, by dsimp only; omega, by dsimp only; omega⟩ (by dsimp only; omega)
    simpa [e6, e7] using this
  ·by_cases e7 : x.pop.1 = 0 <;> simp [e6, e7]
 ·obtain ⟨arr', hA', hk⟩ := hpl
  simp only [hk]
  simp only [e2, e3, e4, e5, go_sem, u2, decide_true, decide_false, cond_true, cond_false, Bool.not_true, if_true, if_false, not_true, not_false_iff, Int.reduceEq, Int.toNat_natCast]
  have hq : Q3 p (i + 1) (x8 (bN p i)) = q1m p i := rfl
  rw [hq] at hA' ⊢
  by_cases e6 : (X5 w (bN p i).toNat (q1m p i) x).e = 0
  ·have := hrec ⟨i + 1 + x8 (bN p i), sp + c, X5 w (bN p i).toNat (q1m p i) x, arr'⟩ ⟨hA', e6, by dsimp only; omega, by dsimp only; omega, by dsimp only; omega⟩ (by dsimp only; omega)
   simpa [e6] using this
  ·simp [e6]
end Go.Proofs.YtdoajkacibicoaaDoor
namespace Go.Proofs.YtdoajkacibicoaaDoor
open Go Go.E
set_option maxRecDepth 100000
set_option maxHeartbeats 4000000
set_option linter.unusedVariables false
noncomputable def z6f : Hints := [([0, 1, 1, 1, 1], ⟨[], [(0, .d .bool)], [], [], [], []⟩),
  ([9], ⟨[], [(0, .d .bool)], [], [], [], []⟩)]
noncomputable def q9b (N : Nat) : OvS (X0 gl0) where
 g R := [(10, q1Z N), (19, q5O N), (23, z1J N), (64, q4V N), (29, q2e N), (22, q97 N)]
 ok := fun R => List.forall_mem_cons.2 ⟨q4f N, List.forall_mem_cons.2 ⟨z1x N, List.forall_mem_cons.2 ⟨z6k N, List.forall_mem_cons.2 ⟨z0n N, List.forall_mem_cons.2 ⟨q6T N, List.forall_mem_cons.2 ⟨y1i N, fun _ h => nomatch h⟩⟩⟩⟩⟩⟩
noncomputable def q3I {R : Type} (N : Nat) (k1 : KD R) : Option R := (q1B N (C.slice [C.int (IntKind.wrap IntKind.u8 (Int.ofNat 1)), C.int (IntKind.wrap IntKind.u8 (Int.ofNat 0)), C.int (IntKind.wrap IntKind.u8 (Int.ofNat 0)), C.int (IntKind.wrap IntKind.u8 (Int.ofNat 0)), C.int (IntKind.wrap IntKind.u8 (Int.ofNat 0)), C.int (IntKind.wrap IntKind.u8 (Int.ofNat 0)), C.int (IntKind.wrap IntKind.u8 (Int.ofNat 0)), C.int (IntKind.wrap IntKind.u8 (Int.ofNat 0)), C.int (IntKind.wrap IntKind.u8 (Int.ofNat 2)), C.int (IntKind.wrap IntKind.u8 (Int.ofNat 1)), C.int (IntKind.wrap IntKind.u8 (Int.ofNat 0)), C.int (IntKind.wrap IntKind.u8 (Int.ofNat 0)), C.int (IntKind.wrap IntKind.u8 (Int.ofNat 0)), C.int (IntKind.wrap IntKind.u8 (Int.ofNat 0)), C.int (IntKind.wrap IntKind.u8 (Int.ofNat 0)), C.int (IntKind.wrap IntKind.u8 (Int.ofNat 0)), C.int (IntKind.wrap IntKind.u8 (Int.ofNat 0)), C.int (IntKind.wrap IntKind.u8 (Int.ofNat 3)), C.int (IntKind.wrap IntKind.u8 (Int.ofNat 6)), C.int (IntKind.wrap IntKind.u8 0)]) (C.agg [C.slice [], C.slice [], Y6 (Ty.int IntKind.u64)]) (C.int 100) (fun d1 m1 => (q1B N (C.slice [C.int 11, C.int 0, C.int 0]) (C.agg [C.slice [], C.slice [], Y6 (Ty.int IntKind.u64)]) (C.int 50) (fun d2 m2 => (jn (fun d3 m3 => (k1 [C.bool (C.toBool (dk d3 0))] [])) (fun k2 => (bif decide (C.toInt (dk d1 2) = 0) then (bif decide (C.toInt (dk d1 0) = 1) then (bif decide (C.toInt (dk d1 1) = 4) then (k2 [C.bool (decide (C.toInt (dk d2 2) = 24))] []) else (k2 [C.bool false] [])) else (k2 [C.bool false] [])) else (k2 [C.bool false] []))))))))
noncomputable def q0H {R : Type} (N : Nat) : KD R → Option R := lid "" (q3I N)
theorem q9a {R : Type} (N : Nat)  (k : KD R) : q0H N  k = q3I N  k := by unfold q0H; rw [Z8]
theorem z4L {R : Type} (N : Nat)  (K : V → List (Key × O) → Option R) : exF (X0 gl0) ((q9b N).ov R) H9 (fun f r => bif Nat.beq f 20 then (bif Nat.beq r 8 then [(35, 4)] else bif Nat.beq r 14 then [(58, 1)] else []) else bif Nat.beq f 30 then (bif Nat.beq r 4 then [(15, 1)] else []) else []) (fun f => bif Nat.beq f 9 then z6f else []) N 3000 20 9 [] A0 K =
  q0H N  (fun d1 m1 => K (V.d Ty.bool (C.bool (C.toBool (dk d1 0)))) []) := by
 rw [q9a]
 exact (show _ = jn (fun d1 m1 => (K (V.d Ty.bool (C.bool (C.toBool (dk d1 0)))) [])) (q3I N ) by kernel_rfl).trans (o5 _ _)
noncomputable def q6M (N : Nat) {R : Type} : OvG R := fun xs _ K => match xs with
 | [] => q0H N  (fun d1 m1 => K (V.d Ty.bool (C.bool (C.toBool (dk d1 0)))) [])
 | _ => none
theorem z6e (N : Nat) {R : Type} : GOk (X0 gl0) 9 (q6M N (R := R)) := by
 intro xs A Kr r hr
 unfold q6M at hr
 split at hr
 ·skip
  rw [← z4L] at hr
  exact okA (q9b N) hr
 ·cases hr
end Go.Proofs.YtdoajkacibicoaaDoor
namespace Go.Proofs.YtdoajkacibicoaaDoor
open Go Go.E
set_option maxRecDepth 100000
set_option maxHeartbeats 4000000
set_option linter.unusedSimpArgs false
variable {R : Type} {N : Nat}
def z5P (p : List C) (w : C) (gas : Int) : Int × Int × Int := if 256 < p.length ∨ gas < 0 ∨ 4096 < gas then (0, 0, 1) else q6F p gas w 0 0 ⟨[], 0⟩
theorem run_eq {p : List C} (hp : C.wf (.slice 1 (.int .u8)) (.slice p)) {gas : Int} {w : C} (hw : WOk w) (hN : 5000 < N) (k : KD R) :
  q1B N (.slice p) w (.int gas) k = k [.int (z5P p w gas).1, .int (z5P p w gas).2.1, .int (z5P p w gas).2.2] [] := by
 unfold z5P
 by_cases h : 256 < p.length ∨ gas < 0 ∨ 4096 < gas
 ·rw [if_pos h, q8H]
  unfold q35
  simp only [go_sem, u2, p9, Z4]
  by_cases a1 : (256 : Int) < (p.length : Int)
  ·simp [a1]
  by_cases a2 : gas < 0
  ·simp [a1, a2]
  have a3 : (4096 : Int) < gas := by omega
  simp [a1, a2, a3]
 ·rw [if_neg h]
  exact y8j hp (by omega) (by omega) hw hN k
theorem y4U {l : List C} (h : ∀ c ∈ l, c = .int c.toInt ∧ 0 ≤ c.toInt ∧ c.toInt ≤ 255) (hl : l.length ≤ 100000) : C.wf (.slice 1 (.int .u8)) (.slice l) := by
 have m1 : IntKind.u8.min = 0 := by decide
 have m2 : IntKind.u8.max = 255 := by decide
 simp only [C.wf, C.elems]
 refine ⟨trivial, by omega, by omega, fun c hc => ?_⟩
 obtain ⟨h1, h2, h3⟩ := h c hc
 exact ⟨h1, by omega, by omega⟩
def w0 : C := .agg [.slice [], .slice [], .int 0]
theorem y6n : WOk w0 := ⟨by simp [w0, C.get, C.elems], by simp [w0, C.get, C.elems], by simp [w0, C.get, C.elems], rfl⟩
theorem y6g (hN : 5000 < N) (k : KD R) : q0H N k = k [.bool true] [] := by
 rw [q9a]
 unfold q3I
 have hz : (C.agg [C.slice [], C.slice [], Y6 (Ty.int IntKind.u64)]) = w0 := rfl
 have hp : ∀ (a b : Int), C.slice [C.int (IntKind.wrap IntKind.u8 (Int.ofNat 1)), C.int (IntKind.wrap IntKind.u8 (Int.ofNat 0)),
  C.int (IntKind.wrap IntKind.u8 (Int.ofNat 0)), C.int (IntKind.wrap IntKind.u8 (Int.ofNat 0)),
  C.int (IntKind.wrap IntKind.u8 (Int.ofNat 0)), C.int (IntKind.wrap IntKind.u8 (Int.ofNat 0)),
  C.int (IntKind.wrap IntKind.u8 (Int.ofNat 0)), C.int (IntKind.wrap IntKind.u8 (Int.ofNat 0)),
  C.int (IntKind.wrap IntKind.u8 (Int.ofNat 2)), C.int (IntKind.wrap IntKind.u8 (Int.ofNat 1)),
  C.int (IntKind.wrap IntKind.u8 (Int.ofNat 0)), C.int (IntKind.wrap IntKind.u8 (Int.ofNat 0)),
  C.int (IntKind.wrap IntKind.u8 (Int.ofNat 0)), C.int (IntKind.wrap IntKind.u8 (Int.ofNat 0)),
  C.int (IntKind.wrap IntKind.u8 (Int.ofNat 0)), C.int (IntKind.wrap IntKind.u8 (Int.ofNat 0)),
  C.int (IntKind.wrap IntKind.u8 (Int.ofNat 0)), C.int (IntKind.wrap IntKind.u8 (Int.ofNat 3)),
  C.int (IntKind.wrap IntKind.u8 (Int.ofNat 6)), C.int (IntKind.wrap IntKind.u8 0)] = C.slice ([1, 0, 0, 0, 0, 0, 0, 0, 2, 1, 0, 0, 0, 0, 0, 0, 0, 3, 6, 0].map C.int) := fun _ _ => rfl
 have hq : C.slice [C.int 11, C.int 0, C.int 0] = C.slice ([11, 0, 0].map C.int) := rfl
 have wfm : ∀ l : List Int, l.all (fun x => decide (0 ≤ x) && decide (x ≤ 255)) = true → l.length ≤ 100 → C.wf (.slice 1 (.int .u8)) (.slice (l.map C.int)) := fun l h hl => y4U (fun c hc => by
  obtain ⟨x, hx, rfl⟩ := List.mem_map.1 hc
  have := List.all_eq_true.1 h x hx
  simp at this
  exact ⟨rfl, this.1, this.2⟩) (by simp; omega)
 have r1 : z5P ([1, 0, 0, 0, 0, 0, 0, 0, 2, 1, 0, 0, 0, 0, 0, 0, 0, 3, 6, 0].map C.int) w0 100 = (1, 4, 0) := by kernel_rfl
 have r2 : z5P ([11, 0, 0].map C.int) w0 50 = (0, 50, 24) := by kernel_rfl
 have q1 := fun k : KD R => run_eq (gas := 100) (wfm [1, 0, 0, 0, 0, 0, 0, 0, 2, 1, 0, 0, 0, 0, 0, 0, 0, 3, 6, 0] (by decide) (by decide)) y6n hN k
 have q2 := fun k : KD R => run_eq (gas := 50) (wfm [11, 0, 0] (by decide) (by decide)) y6n hN k
 rw [hp 0 0, hq, hz]
 simp only [q1, q2, r1, r2, o5, W6, q0V, q1W, u2, Z4, decide_true, cond_true]
end Go.Proofs.YtdoajkacibicoaaDoor
namespace Go.Proofs.YtdoajkacibicoaaDoor
open Go Go.E
set_option maxRecDepth 100000
set_option maxHeartbeats 4000000
set_option linter.unusedVariables false
noncomputable def z1A : Hints := [([0, 1, 1, 1, 1, 1], ⟨[], [(4, .d .bool)], [], [], [], []⟩),
  ([9], ⟨[], [(4, .d .bool)], [], [], [], []⟩)]
noncomputable def q6i (N : Nat) : OvS (X0 gl0) where
 g R := [(5, q8G N), (6, q7s N), (7, q7T N), (8, q6G N), (9, q6M N), (10, q1Z N), (11, q2q N)]
 ok := fun R => List.forall_mem_cons.2 ⟨y0t N, List.forall_mem_cons.2 ⟨z7J N, List.forall_mem_cons.2 ⟨z8a N, List.forall_mem_cons.2 ⟨z5T N, List.forall_mem_cons.2 ⟨z6e N, List.forall_mem_cons.2 ⟨q4f N, List.forall_mem_cons.2 ⟨q5n N, fun _ h => nomatch h⟩⟩⟩⟩⟩⟩⟩
noncomputable def q1y {R : Type} (N : Nat) (a0 a1 : C) (k1 : KD R) : Option R := (q1F N a0 (fun d1 m1 => (q03 N a0 (fun d2 m2 => (q1d N a1 (fun d3 m3 => (q0F N a1 (fun d4 m4 => (jn (fun d5 m5 => (k1 [C.bool (C.toBool (dk d5 0))] [])) (fun k2 => (q0H N (fun d5 m5 => (bif C.toBool (dk d5 0) then (bif decide (Q7 (C.elems a0) = Q7 (C.elems a0)) then (bif C.toStr (dk d1 0) == C.toStr (dk d2 0) then (bif decide (C.toInt (dk d1 1) = C.toInt (dk d2 1)) then (bif List.map (fun c => UInt8.ofNat (Int.toNat (C.toInt c))) (C.elems (dk d3 0)) == List.map (fun c => UInt8.ofNat (Int.toNat (C.toInt c))) (C.elems (dk d4 0)) then (k2 [C.bool (decide (C.toInt (dk d3 1) = C.toInt (dk d4 1)))] []) else (k2 [C.bool false] [])) else (k2 [C.bool false] [])) else (k2 [C.bool false] [])) else (k2 [C.bool false] [])) else (k2 [C.bool false] []))))))))))))))
noncomputable def q0L {R : Type} (N : Nat) : C → C → KD R → Option R := lid "" (q1y N)
theorem q6h {R : Type} (N : Nat) (a0 a1 : C) (k : KD R) : q0L N a0 a1 k = q1y N a0 a1 k := by unfold q0L; rw [Z8]
theorem z0D {R : Type} (N : Nat) (a0 a1 : C) (K : V → List (Key × O) → Option R) : exF (X0 gl0) ((q6i N).ov R) H9 noX (fun f => bif Nat.beq f 3 then z1A else []) N 400 8 3 [.d (.slice 1 (.int .u8)) a0, .d .str a1] A0 K =
  q0L N a0 a1 (fun d1 m1 => K (V.d Ty.bool (C.bool (C.toBool (dk d1 0)))) []) := by
 rw [q6h]
 exact (show _ = jn (fun d1 m1 => (K (V.d Ty.bool (C.bool (C.toBool (dk d1 0)))) [])) (q1y N a0 a1) by kernel_rfl).trans (o5 _ _)
noncomputable def q1J (N : Nat) {R : Type} : OvG R := fun xs _ K => match xs with
 | [.d t0 a0, .d t1 a1] => if t0 = (.slice 1 (.int .u8)) ∧ t1 = .str then q0L N a0 a1 (fun d1 m1 => K (V.d Ty.bool (C.bool (C.toBool (dk d1 0)))) []) else none
 | _ => none
theorem z1z (N : Nat) {R : Type} : GOk (X0 gl0) 3 (q1J N (R := R)) := by
 intro xs A Kr r hr
 unfold q1J at hr
 split at hr
 ·simp only [Option.ite_none_right_eq_some] at hr
  obtain ⟨hty, hr⟩ := hr
  obtain ⟨rfl, rfl⟩ := hty
  rw [← z0D] at hr
  exact okA (q6i N) hr
 ·cases hr
end Go.Proofs.YtdoajkacibicoaaDoor
namespace Go.Proofs.YtdoajkacibicoaaDoor
open Go Go.E
set_option maxRecDepth 100000
set_option maxHeartbeats 4000000
set_option linter.unusedSimpArgs false
variable {R : Type} {N : Nat}
theorem y6A {p : List C} (h : Q7 p = 0) : p.length ≤ 256 ∧ z3Z p 0 := by
 unfold Q7 at h
 split at h
 ·cases h
 ·rename_i h1
  split at h
  ·rename_i h2; exact absurd h h2
  ·rename_i h2
   exact ⟨by omega, Nat.zero_le _, [], by simpa using h2⟩
theorem y7h (l : List (List UInt8)) : (l.map C.str).map C.toStr = l := by
 rw [List.map_map]; simp [Function.comp_def, J0]
theorem z7k (sep : List UInt8) (hs : sep.length ≤ 1) : ∀ l : List (List UInt8), (∀ x ∈ l, x.length ≤ 31) → (q0U sep l).length ≤ 32 * l.length
 | [], _ => by simp [q0U]
 | [x], h => by have := h x (by simp); show x.length ≤ _; simp; omega
 | x :: y :: l, h => by
  have h1 := h x (by simp)
  have h2 := z7k sep hs (y :: l) (fun z hz => h z (by simp [hz]))
  show (x ++ sep ++ q0U sep (y :: l)).length ≤ _
  simp only [List.length_append, List.length_cons] at h2 ⊢
  omega
theorem z6P {p : List C} (hp : C.wf (.slice 1 (.int .u8)) (.slice p)) : ∀ (f i : Nat), z3Z p i → (∀ x ∈ q0m p f i, x.length ≤ 31) ∧ (q0m p f i).length ≤ f
 | 0, _, _ => ⟨fun x hx => (by cases hx), Nat.le_refl _⟩
 | f + 1, i, h => by
  unfold q0m
  split
  ·exact ⟨fun x hx => (by cases hx), Nat.zero_le _⟩
  ·rename_i hi
   obtain ⟨h1, h2⟩ := h.at_ hp (by omega)
   obtain ⟨h3, h4⟩ := z6P hp f _ h2
   refine ⟨fun x hx => ?_, by simp only [List.length_cons]; omega⟩
   rcases List.mem_cons.1 hx with rfl | hx
   ·exact z1w h1
   ·exact h3 x hx
def z5F (p : List C) : List UInt8 × Int := if Q7 p = 0 then (q0U [UInt8.ofNat 10] (q0m p p.length 0), 0) else ([], Q7 p)
theorem y6e {p : List C} (hp : C.wf (.slice 1 (.int .u8)) (.slice p)) (hN : 140737488355329 < N) (k : KD R) : q1F N (.slice p) k = k [.str (z5F p).1, .int (z5F p).2] [] := by
 rw [z11]
 unfold q44 z5F
 simp only [o5, p9]
 by_cases h : Q7 p = 0
 ·obtain ⟨hl, hok⟩ := y6A h
  simp only [h, decide_true, Bool.not_true, cond_false, if_true]
  obtain ⟨M, hM⟩ : ∃ M, N = M + p.length + 1 := ⟨N - p.length - 1, by omega⟩
  have key := z5r (R := R) hp hl N (fun d1 m1 => if (q0U [UInt8.ofNat 10] ((C.elems (dk d1 0)).map C.toStr)).length ≤ 140737488355328 then k [C.str (q0U [UInt8.ofNat 10] ((C.elems (dk d1 0)).map C.toStr)), C.int 0] [] else none) p.length 0 [] M (by omega) hok (by simp; omega)
  rw [← hM] at key
  refine Eq.trans ?_ (key.trans ?_)
  ·rfl
  ·obtain ⟨t1, t2⟩ := z6P hp p.length 0 hok
   have t3 := z7k [UInt8.ofNat 10] (Nat.le_refl _) _ t1
   simp only [W6, p9, List.nil_append, y7h]
   exact if_pos (by omega)
 ·simp only [h, decide_false, Bool.not_false, cond_true, if_false]
theorem y2m {p : List C} (hp : C.wf (.slice 1 (.int .u8)) (.slice p)) (hN : 140737488355329 < N) (k : KD R) : q03 N (.slice p) k = k [.str (z5F p).1, .int (z5F p).2] [] := by
 rw [z0i]
 unfold q4b z5F
 simp only [o5, p9]
 by_cases h : Q7 p = 0
 ·obtain ⟨hl, hok⟩ := y6A h
  simp only [h, decide_true, Bool.not_true, cond_false, if_true]
  obtain ⟨M, hM⟩ : ∃ M, N = M + p.length + 1 := ⟨N - p.length - 1, by omega⟩
  have key := z4i (R := R) hp hl N (by omega) (fun d1 m1 => k [dk d1 0, C.int 0] []) p.length 0 [] M (by omega) hok (by simp; omega)
  rw [← hM] at key
  refine Eq.trans ?_ (key.trans ?_)
  ·rfl
  ·simp only [W6, List.nil_append, y2h]
 ·simp only [h, decide_false, Bool.not_false, cond_true, if_false]
theorem y0I {p : List C} (hp : C.wf (.slice 1 (.int .u8)) (.slice p)) (t : List UInt8) (hN : 140737488355329 < N) (k : KD R) : q0L N (.slice p) (.str t) k = k [.bool true] [] := by
 rw [q6h]
 unfold q1y
 have f1 : ∀ k : KD R, q1F N (.slice p) k = _ := y6e hp hN
 have f2 : ∀ k : KD R, q03 N (.slice p) k = _ := y2m hp hN
 have f3 : ∀ k : KD R, q1d N (.str t) k = _ := y4K t hN
 have f4 : ∀ k : KD R, q0F N (.str t) k = _ := y0S t hN
 have f5 : ∀ k : KD R, q0H N k = _ := y6g (by omega)
 simp only [f1, f2, f3, f4, f5, o5, W6, q0V, J0, u2, Z4, p9, beq_self_eq_true, decide_true, cond_true]
theorem z7G (A : Key → Option O) (p t : C) : p8 (X0 gl0) 3 [.d (.slice 1 (.int .u8)) p, .d .str t] A (.d .bool (.bool true)) [] := by
 refine y4C (ts := [.slice 1 (.int .u8), .str]) (cs := [p, t]) fun W => ?_
 have h0 := W 0 _ _ rfl rfl
 have h1 := W 1 _ _ rfl rfl
 have e0 : p = .slice p.elems := by simp only [C.wf] at h0; exact h0.1
 simp only [C.wf] at h1
 refine y8o (z1z 140737488355330) ?_
 show q1J 140737488355330 [.d (.slice 1 (.int .u8)) p, .d .str t] A kR = _
 simp only [q1J, and_self, if_true]
 rw [e0] at h0 ⊢
 rw [h1.1, y0I h0 t.toStr (by omega)]
 rfl
end Go.Proofs.YtdoajkacibicoaaDoor
