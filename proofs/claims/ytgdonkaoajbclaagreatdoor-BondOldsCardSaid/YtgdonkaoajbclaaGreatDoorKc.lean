/-
 What the functions on the way compute, part 3.
 Conditions: none.
-/
import Derived.Test.YtgdonkaoajbclaaGreatDoorKb
set_option linter.all false
namespace Go.Proofs.YtgdonkaoajbclaaGreatDoor
open Go Go.E
set_option maxRecDepth 100000
set_option maxHeartbeats 4000000
set_option linter.unusedSimpArgs false
variable {R : Type} {N : Nat}
theorem x2M {l : List C} {i : Nat} (hi : i < l.length) : l.take (i + 1) = l.take i ++ [l.getD i .nil] := by
 rw [List.take_add_one, List.getElem?_eq_getElem hi, List.getD_eq_getElem?_getD, List.getElem?_eq_getElem hi]; rfl
def x2G (c : C) : Prop := c = .agg [c.get 0, c.get 1, c.get 2, c.get 3, c.get 4]
theorem y7n (c : C) (h : x2G c) (k : KD R) : q5i N c k = k [c] [] := by
 rw [z8u]
 unfold q8x
 simp only [q4v, q6o, z1x, y2u, z5z]
 rw [← h]
theorem y34 (c : C) (h : x2G c) (k : KD R) : q23 N c k = k [c] [] := by
 rw [z4U]
 unfold q57
 simp only [q4v, q6o, z1x, y2u, z5z]
 rw [← h]
structure StE (s : C) : Prop where
 eta : SOk s
 cs : ∀ c ∈ j9 s, x2G c
 ln : (j9 s).length ≤ 12
theorem y7k (s : C) (h : StE s) (hN : 2000 < N) (k : KD R) : q5h N s k = k [s] [] := by
 have he := h.eta
 have hc := h.cs
 have hl := h.ln
 unfold SOk at he
 rw [z8s]
 unfold q8v
 rw [y4]
 unfold j9 at he hc hl
 generalize hcs : C.elems (C.get s 4) = cs at *
 generalize (C.agg [z0 (Ty.int IntKind.u32), z0 (Ty.int IntKind.u64), z0 (Ty.arr 2 (Ty.int IntKind.u64)), z0 (Ty.arr 2 (Ty.int IntKind.u64)), C.slice []]) = Z
 have key := q2v (F := q8w N fun d1 m1 => k [C.agg [dk d1 0, dk d1 1, dk d1 2, dk d1 3, C.slice (C.elems (dk d1 4))]] []) (fun i => [s.get 4, .int cs.length, .int i, s.get 0, s.get 1, s.get 2, s.get 3, .slice (cs.take i), Z]) (fun _ => []) cs.length (k [s] []) ?_ ?_ (N := N) (by omega)
 ·simpa using key
 ·intro i hi rec
  have h1 : (i : Int) < (cs.length : Int) := by omega
  have h2 := hc _ (q3s hi)
  have h3 : (cs.take i).length ≤ 12 := by simp; omega
  have g1 : ((cs.take i).length + 1) * 64 ≤ 140737488355328 ∧ (cs.take i).length + 1 ≤ 9223372036854775807 := by omega
  unfold q8w
  simp only [x9, w7, w9, u6, j3, F3, q2x, z6S, y2e, y8, y7, hcs, h1, g1, decide_true, cond_true, Int.natCast_nonneg, and_self, if_true, Nat.beq_refl, Int.toNat_natCast, y7n _ h2, List.length_append, List.length_cons, List.length_nil, Nat.zero_add, u5 (show i < 4611686018427387904 by omega), x2M hi]
 ·intro rec
  unfold q8w
  simp only [x9, w7, w9, u6, j3, F3, q2x, z6S, y2e, y8, y7, Int.lt_irrefl, decide_false, cond_false, List.take_length]
  rw [← he]
theorem z4T (s : C) (h : StE s) (hN : 2000 < N) (k : KD R) : q0O N s k = k [s] [] := by
 have he := h.eta
 have hc := h.cs
 have hl := h.ln
 unfold SOk at he
 rw [z4R]
 unfold q55
 rw [y4]
 unfold j9 at he hc hl
 generalize hcs : C.elems (C.get s 4) = cs at *
 generalize (C.agg [z0 (Ty.int IntKind.u32), z0 (Ty.int IntKind.u64), z0 (Ty.arr 2 (Ty.int IntKind.u64)), z0 (Ty.arr 2 (Ty.int IntKind.u64)), C.slice []]) = Z
 have key := q2v (F := q56 N fun d1 m1 => k [C.agg [dk d1 0, dk d1 1, dk d1 2, dk d1 3, C.slice (C.elems (dk d1 4))]] []) (fun i => [s.get 4, .int cs.length, .int i, s.get 0, s.get 1, s.get 2, s.get 3, .slice (cs.take i), Z]) (fun _ => []) cs.length (k [s] []) ?_ ?_ (N := N) (by omega)
 ·simpa using key
 ·intro i hi rec
  have h1 : (i : Int) < (cs.length : Int) := by omega
  have h2 := hc _ (q3s hi)
  have h3 : (cs.take i).length ≤ 12 := by simp; omega
  have g1 : ((cs.take i).length + 1) * 64 ≤ 140737488355328 ∧ (cs.take i).length + 1 ≤ 9223372036854775807 := by omega
  unfold q56
  simp only [x9, w7, w9, u6, j3, F3, q2x, z6S, y2e, y8, y7, hcs, h1, g1, decide_true, cond_true, Int.natCast_nonneg, and_self, if_true, Nat.beq_refl, Int.toNat_natCast, y34 _ h2, List.length_append, List.length_cons, List.length_nil, Nat.zero_add, u5 (show i < 4611686018427387904 by omega), x2M hi]
 ·intro rec
  unfold q56
  simp only [x9, w7, w9, u6, j3, F3, q2x, z6S, y2e, y8, y7, Int.lt_irrefl, decide_false, cond_false, List.take_length]
  rw [← he]
theorem x0t (a : C) (hN : 100 < N) : ∃ y : C, ∀ k : KD R, q5j N a k = k [y] [] := by
 obtain ⟨d, ⟨x, y, rfl⟩, h⟩ := j6 (R := R) (F := fun k2 => q8B N k2) 32 (fun i st => ∃ x y : C, st = [a, .int i, x, y]) (fun d => ∃ x y : C, d = [x, y])
  (fun i st hi hst => by
   obtain ⟨x, y, rfl⟩ := hst
   have e1 : (i : Int) < 32 := by omega
   refine ⟨_, ⟨x, ?y1, rfl⟩, fun k rec => ?eq1⟩
   case eq1 =>
    unfold q8B
    simp only [x9, w7, w9, u6, y8, e1, decide_true, cond_true, Int.natCast_nonneg, and_self, if_true, u5 (show i < 4611686018427387904 by omega)]
    rfl)
  (fun st hst => by
   obtain ⟨x, y, rfl⟩ := hst
   refine ⟨_, ⟨x, y, rfl⟩, fun k rec => ?_⟩
   unfold q8B
   have e : ¬ ((32 : Nat) : Int) < 32 := by decide
   simp only [x9, w7, w9, u6, y8, e, decide_false, cond_false])
  (N := N) (by omega) (st := [a, .int (0 : Nat), C.agg
  [C.agg (List.replicate 32 (C.agg (List.replicate 16 (C.int 0)))),
   C.agg (List.replicate 32 (C.agg (List.replicate 16 (C.int 0))))], C.agg
  [C.agg (List.replicate 32 (C.agg (List.replicate 16 (C.int 0)))),
   C.agg (List.replicate 32 (C.agg (List.replicate 16 (C.int 0))))]]) ⟨_, _, rfl⟩
 refine ⟨y, fun k => ?_⟩
 rw [z8y]
 unfold q8A
 simp only [y4]
 exact (h _).trans rfl
theorem y2M (a : C) (ha : z9C a) (hN : 100 < N) : ∃ y : C, ∀ k : KD R, q3n N a k = k [y] [] := by
 obtain ⟨s, e, p, rfl, hp⟩ := ha
 obtain ⟨s', hs⟩ := x0t (R := R) (N := N) s hN
 generalize hZ : (C.agg
  [C.agg
    [C.agg (List.replicate 32 (C.agg (List.replicate 16 (C.int 0)))),
     C.agg (List.replicate 32 (C.agg (List.replicate 16 (C.int 0))))],
   z0 (Ty.int IntKind.u32), C.slice []]) = Z
 obtain ⟨d, ⟨q, rfl⟩, h⟩ := j6 (R := R) (F := fun k2 => q8z N k2) p.length (fun i st => ∃ q : List C, q.length = i ∧ st = [.slice p, .int p.length, .int i, s', e, .slice q, Z]) (fun d => ∃ q : List C, d = [s', e, .slice q, Z])
  (fun i st hi hst => by
   obtain ⟨q, hq, rfl⟩ := hst
   have e1 : (i : Int) < (p.length : Int) := by omega
   have g1 : (i + 1) * 32 ≤ 140737488355328 ∧ i + 1 ≤ 9223372036854775807 := by omega
   refine ⟨_, ⟨q ++ [p.getD i .nil], by simp [hq], rfl⟩, fun k rec => ?_⟩
   unfold q8z
   simp only [x9, w7, w9, u6, j3, F3, q2x, y8, y7, e1, hq, g1, decide_true, cond_true, Int.natCast_nonneg, and_self, if_true, Nat.beq_refl, Int.toNat_natCast, List.length_append, List.length_cons, List.length_nil, Nat.zero_add, u5 (show i < 4611686018427387904 by omega)])
  (fun st hst => by
   obtain ⟨q, hq, rfl⟩ := hst
   refine ⟨_, ⟨q, rfl⟩, fun k rec => ?_⟩
   unfold q8z
   simp only [x9, w7, w9, u6, j3, F3, q2x, y8, y7, Int.lt_irrefl, decide_false, cond_false])
  (N := N) (by omega) (st := [.slice p, .int p.length, .int (0 : Nat), s', e, .slice [], Z]) ⟨[], rfl, rfl⟩
 refine ⟨.agg [s', e, .slice q], fun k => ?_⟩
 rw [z8w]
 unfold q8y
 simp only [y4, q1n, q29, q6u, hs, x9, y7, hZ]
 exact (h _).trans rfl
theorem y2L (s x y : C) (h : StE s) (hx : z9C x) (hy : z9C y) (hN : 2000 < N) : ∃ x' y' : C, ∀ k : KD R, q3m N (.agg [s, .agg [x, y]]) k = k [.agg [s, .agg [x', y']]] [] := by
 obtain ⟨x', h1⟩ := y2M (R := R) (N := N) x hx (by omega)
 obtain ⟨y', h2⟩ := y2M (R := R) (N := N) y hy (by omega)
 refine ⟨x', y', fun k => ?_⟩
 have t0 : Int.toNat 0 = 0 := rfl
 have t1 : Int.toNat 1 = 1 := rfl
 rw [z8q]
 unfold q8u
 simp only [q1n, q29, y7k s h hN, x9, t0, t1, h1, h2]
 rfl
def stZ (id : Int) : C := .agg [.int id, .int 0, zz, zz, .slice []]
def q7L : C := .agg [.int 0, .int 1]
theorem z9L (id : Int) : SOk (stZ id) := rfl
theorem z8i (a : Int) (k : KD R) : q3f N (.int a) k = k [stZ a] [] := by
 rw [z8f]
 rfl
def z7e (s : C) (id : Int) : Bool := decide ((s.get 0).toInt = id ∧ (s.get 1).toInt = 0 ∧ C.beq (s.get 2) zz = true ∧ C.beq (s.get 3) zz = true ∧ (s.get 4).elems.length = 0)
theorem y9J (s : C) (id : Int) (hN : 10 < N) (k : KD R) : q32 N s (stZ id) k = k [.bool (z7e s id)] [] := by
 have he : ∀ k : KD R, Q5 N (s.get 4) (.slice []) k = k [.bool (decide ((s.get 4).elems.length = 0))] [] := fun k => by
  obtain ⟨M, rfl⟩ : ∃ M, N = M + 1 := ⟨N - 1, by omega⟩
  rw [q1j]
  unfold W3
  by_cases z : (s.get 4).elems.length = 0
  ·have z' : ((s.get 4).elems.length : Int) = (([] : List C).length : Int) := by simp [z]
   simp only [y7, z, z', y4, Z5, decide_true, Bool.not_true, cond_false]
   unfold q1l
   simp [y8, w9, u6]
  ·have z' : ¬ ((s.get 4).elems.length : Int) = (([] : List C).length : Int) := by simpa using z
   simp only [y7, z, z', decide_false, Bool.not_false, cond_true]
 have g0 : (stZ id).get 0 = .int id := rfl
 have g1 : (stZ id).get 1 = .int 0 := rfl
 have g2 : (stZ id).get 2 = zz := rfl
 have g3 : (stZ id).get 3 = zz := rfl
 have g4 : (stZ id).get 4 = .slice [] := rfl
 rw [z5V]
 unfold q6T z7e
 simp only [y4, g0, g1, g2, g3, g4, he, y8, x9, p9]
 by_cases a0 : (s.get 0).toInt = id
 case neg => simp [a0, p9, x9]
 by_cases a1 : (s.get 1).toInt = 0
 case neg => simp [a1, p9, x9]
 cases a2 : C.beq (s.get 2) zz
 ·simp [a0, a1, p9, x9]
 cases a3 : C.beq (s.get 3) zz
 ·simp [a0, a1, p9, x9]
 simp [a0, a1, p9, x9]
theorem y2o (roots s x y : C) (h : StW s) (hd : (roots.get 1).toInt ≤ 1000) (hN : 4000 < N) (hN2 : N < 4611686018427387904) :
  ∃ w : Bool, (∀ k : KD R, Y8 N roots (.agg [s, .agg [x, y]]) (.int 7) k = k [.bool w] []) ∧ ((s.get 1).toInt = 0 → w = true → z7e s 7 = true) := by
 by_cases c0 : (s.get 0).toInt = 7
 case neg =>
  refine ⟨false, fun k => ?_, fun _ h => by simp at h⟩
  rw [q1X]
  unfold H6
  simp only [q1n, y8, c0, decide_false, Bool.not_false, cond_true]
 by_cases c1 : (s.get 1).toInt = 0
 ·refine ⟨z7e s 7, fun k => ?_, fun _ h => h⟩
  rw [q1X]
  unfold H6
  simp only [q1n, y8, c0, c1, decide_true, Bool.not_true, cond_false, cond_true, z8i, x9, y9J s 7 (show 10 < N by omega), p9]
 ·obtain ⟨b, h1⟩ := z2G (R := R) (N := N) roots s x 0 (.inl rfl) h hd hN hN2
  obtain ⟨b', h2⟩ := z2G (R := R) (N := N) roots s y 1 (.inr rfl) h hd hN hN2
  refine ⟨b && b', fun k => ?_, fun h => absurd h c1⟩
  have t0 : Int.toNat 0 = 0 := rfl
  have t1 : Int.toNat 1 = 1 := rfl
  rw [q1X]
  unfold H6
  simp only [q1n, q29, t0, t1, y8, c0, c1, decide_true, decide_false, Bool.not_true, cond_false, y4, h1, h2, x9, p9]
  cases b <;> rfl
end Go.Proofs.YtgdonkaoajbclaaGreatDoor
namespace Go.Proofs.YtgdonkaoajbclaaGreatDoor
open Go Go.E
set_option maxRecDepth 100000
set_option maxHeartbeats 4000000
set_option linter.unusedSimpArgs false
variable {R : Type} {N : Nat}
theorem x3C (roots : C) (h0 : 0 ≤ (roots.get 1).toInt) (h8 : (roots.get 1).toInt ≤ 8) (k : KD R) : q6r N (.int 7) (C.set (C.set (z0 (Ty.arr 2 (Ty.int IntKind.i64))) 0 (C.int 0)) 1 (C.int 1)) roots (.slice []) k =
  k [.int 0, mkB (.int 7) q7L roots [] zz zz (.int 0) (.int 0) (stZ 7)] [] := by
 have hw : C.set (C.set (z0 (Ty.arr 2 (Ty.int IntKind.i64))) 0 (C.int 0)) 1 (C.int 1) = q7L := rfl
 have e1 : (q7L.get (Int.toNat 0)).toInt = 0 := rfl
 have e2 : (q7L.get (Int.toNat 1)).toInt = 1 := rfl
 have d1 : ((0 : Int) = 1) = False := by simp
 have d2 : ¬ (roots.get 1).toInt < 0 := by omega
 have d3 : ¬ 8 < (roots.get 1).toInt := by omega
 rw [hw, y0j]
 unfold q90
 rw [z69]
 simp only [e1, e2, d1, d2, d3, y4, decide_false, cond_false, x9, w7, w9, u6, j3, p9, z8i, y7, Nat.beq_refl, Bool.and_true, cond_true]
 rfl
def q2s : C := .agg [.int 100, .int 100]
theorem x3G (roots : C) : y0n (.int 7) q7L roots [] zz zz (.int 0) (.int 0) (stZ 7) 0 100 = (0, mkB (.int 7) q7L roots [] (.agg [.int 100, .int 0]) zz (.int 0) (.int 0) (stZ 7)) := rfl
theorem x3F (roots : C) : y0n (.int 7) q7L roots [] (.agg [.int 100, .int 0]) zz (.int 0) (.int 0) (stZ 7) 1 100 = (0, mkB (.int 7) q7L roots [] q2s zz (.int 0) (.int 0) (stZ 7)) := rfl
section
variable {id who roots : C} {rule : List C} {put paid un best : C}
theorem x1l (k : KD R) : q3h N (mkB id who roots [] put paid (.int 0) un best) k = k [.int 5] [] := by
 rw [z8k]
 unfold q8m
 exact if_pos rfl
theorem x0Q {d : C} {w : Bool} (hW : ∀ k : KD R, Y8 N roots d id k = k [.bool w] []) (h : SOk best) (hd : SOk (d.get 0)) (hN : 2199023255552 < N) (k : KD R) :
  q36 N (mkB id who roots [] put paid (.int 0) un best) d (.int 5) k = k [.int (q93 (.int 0) put paid best d w), if q93 (.int 0) put paid best d w = 0 then mkB id who roots [] put paid (.int 1) (.int 10) (q7t best d) else zB] [] := by
 rw [z6b]
 unfold q63
 rw [z69]
 have h6 : (mkB id who roots [] put paid (.int 0) un best).get 6 = .int 0 := rfl
 have wn : ∀ k : KD R, q3h N (mkB id who roots [] put paid (.int 0) un (q7t best d)) k = k [.int 5] [] := fun k => x1l k
 have a5 : q0s 5 5 = (10, 0) := rfl
 simp only [h6, look_eq hW hN, x09 h hd, x9, w7, y8, wn, add_eq, a5, show ¬ (0 : Int) = 1 by decide, decide_false, cond_false, decide_true, Bool.not_true]
 by_cases h2 : q93 (.int 0) put paid best d w = 0
 ·simp only [h2, decide_true, Bool.not_true, cond_false, if_true]
  rfl
 ·simp only [h2, decide_false, Bool.not_false, cond_true, if_false]
theorem x1D {d : C} {w : Bool} (hW : ∀ k : KD R, Y8 N roots d id k = k [.bool w] []) (hle : ((d.get 0).get 1).toInt ≤ (best.get 1).toInt) (hN : 2199023255552 < N) (height : C) :
  ∃ e : Int, e ≠ 0 ∧ ∀ k : KD R, q0G N (mkB id who roots rule put paid (.int 1) un best) d height k = k [.int e, zB] [] := by
 have h6 : (mkB id who roots rule put paid (.int 1) un best).get 6 = .int 1 := rfl
 have h7 : (mkB id who roots rule put paid (.int 1) un best).get 7 = un := rfl
 have h8 : (mkB id who roots rule put paid (.int 1) un best).get 8 = best := rfl
 by_cases h2 : q93 (.int 1) put paid best d w = 0
 case neg =>
  refine ⟨q93 (.int 1) put paid best d w, h2, fun k => ?_⟩
  rw [q2L]
  unfold q0v
  rw [z69]
  simp only [h6, y8, look_eq hW hN, x9, h2, show ¬ (1 : Int) = 0 by decide, decide_false, cond_false, Bool.not_false, cond_true]
 by_cases h3 : un.toInt ≤ height.toInt
 ·refine ⟨29, by decide, fun k => ?_⟩
  rw [q2L]
  unfold q0v
  rw [z69]
  simp only [h6, h7, y8, look_eq hW hN, x9, h2, h3, show ¬ (1 : Int) = 0 by decide, decide_false, decide_true, cond_false, Bool.not_true, cond_true]
 ·refine ⟨25, by decide, fun k => ?_⟩
  rw [q2L]
  unfold q0v
  rw [z69]
  simp only [h6, h7, h8, y8, look_eq hW hN, x9, h2, h3, hle, show ¬ (1 : Int) = 0 by decide, decide_false, decide_true, cond_false, Bool.not_true, cond_true]
end
theorem y8K (s : C) (hl : (s.get 4).elems.length ≤ 12) (hN : 2000 < N) (k : KD R) : q0L N s s k = k [.bool true] [] := by
 rw [q9q]
 unfold q3E
 simp only [y4, z62, decide_true, Bool.not_true, cond_false, x9, w7, w9, p9]
 generalize hcs : C.elems (C.get s 4) = cs at *
 refine q2v (F := q3F N k fun d2 m2 => k [C.bool true] []) (fun i => [s, s, .int i]) (fun _ => []) cs.length (k [.bool true] []) ?_ ?_ (N := N) (by omega)
 ·intro i hi rec
  have h1 : (i : Int) < (cs.length : Int) := by omega
  unfold q3F
  simp only [x9, w7, w9, y8, hcs, h1, decide_true, cond_true, Int.natCast_nonneg, and_self, if_true, z62, Bool.not_true, cond_false, u5 (show i < 4611686018427387904 by omega)]
 ·intro rec
  unfold q3F
  simp only [x9, w7, w9, y8, hcs, Int.lt_irrefl, decide_false, cond_false]
theorem y61 (s : C) (h : z7e s 7 = true) (hN : 2000 < N) (k : KD R) : q0L N (stZ 7) s k = k [.bool true] [] := by
 unfold z7e at h
 rw [decide_eq_true_eq] at h
 obtain ⟨a0, a1, a2, a3, a4⟩ := h
 have e2 : s.get 2 = zz := (C.beq_iff _ _).1 a2
 have e3 : s.get 3 = zz := (C.beq_iff _ _).1 a3
 have g0 : ((stZ 7).get 0).toInt = 7 := rfl
 have g1 : ((stZ 7).get 1).toInt = 0 := rfl
 have g2 : (stZ 7).get 2 = zz := rfl
 have g3 : (stZ 7).get 3 = zz := rfl
 have g4 : ((stZ 7).get 4).elems = [] := rfl
 obtain ⟨M, rfl⟩ : ∃ M, N = M + 1 := ⟨N - 1, by omega⟩
 rw [q9q]
 unfold q3E
 simp only [y4, a0, a1, a4, e2, e3, g0, g1, g2, g3, g4, z62, decide_true, Bool.not_true, cond_false, x9, w7, w9, p9, List.length_nil, Z5]
 unfold q3F
 simp only [x9, w9, y8, g4, List.length_nil, show ¬ (0 : Int) < ((0 : Nat) : Int) by decide, decide_false, cond_false]
theorem x1Z (a b : C) (hN : 300000 < N) : ∃ (t : C) (a0 a1 a2 b0 b1 b2 : List C), y9I t ∧ (a0.length = 4 ∧ a1.length = 2 ∧ a2.length = 1) ∧ (b0.length = 4 ∧ b1.length = 2 ∧ b2.length = 1) ∧
  ∀ k : KD R, q22 N a b k = k [.agg [t, .agg [a, b], .agg [.slice [.slice a0, .slice a1, .slice a2], .slice [.slice b0, .slice b1, .slice b2]]]] [] := by
 obtain ⟨t, h0, ht⟩ : ∃ t, (∀ k : KD R, q2V N k = k [t] []) ∧ y9I t := by
  refine ⟨?t, fun k => ?eq, ?ok⟩
  case eq =>
   rw [z4D]
   unfold q5Y
   rfl
  case ok => exact ⟨rfl, rfl⟩
 have hOf := fun p hp => x1f (R := R) (N := N) t ht p hp hN
 obtain ⟨a0, a1, a2, e0, e1, e2, h1⟩ := y2y hOf a (by omega)
 obtain ⟨b0, b1, b2, f0, f1, f2, h2⟩ := y2y hOf b (by omega)
 refine ⟨t, a0, a1, a2, b0, b1, b2, ht, ⟨e0, e1, e2⟩, ⟨f0, f1, f2⟩, fun k => ?_⟩
 rw [z4P]
 unfold q54
 simp only [h0, y4, x9, w7, h1, h2, y7, Nat.beq_refl, cond_true]
 rfl
theorem y94 (t a b : C) (a0 a1 a2 b0 b1 b2 : List C) (ha : a2.length = 1) (hb : b2.length = 1) : ∃ x y : C, ∀ k : KD R, q0a N (.agg [t, .agg [a, b], .agg [.slice [.slice a0, .slice a1, .slice a2], .slice [.slice b0, .slice b1, .slice b2]]]) k = k [.agg [.agg [x, y], .int 2]] [] := by
 obtain ⟨x, rfl⟩ : ∃ x, a2 = [x] := by
  match a2, ha with
  | [x], _ => exact ⟨x, rfl⟩
 obtain ⟨y, rfl⟩ : ∃ y, b2 = [y] := by
  match b2, hb with
  | [y], _ => exact ⟨y, rfl⟩
 refine ⟨x, y, fun k => ?_⟩
 rw [q7D]
 rfl
theorem q7v (k : KD R) : F0 N k = k [.bool true] [] := by
 rw [z24]
 unfold q5g
 simp only [y4, x9, p9]
theorem q9l {c : C} (h : C.wf (.int .u64) c) : W64 c.toInt := by
 simp only [C.wf] at h
 have m1 : IntKind.u64.min = 0 := by decide
 have m2 : IntKind.u64.max = 18446744073709551615 := by decide
 exact ⟨by omega, by omega⟩
theorem y4G {s : C} (h : C.wf w4 s) (hl : (s.get 4).elems.length ≤ 12) : ∃ s' : C, C.set s 0 (.int 7) = s' ∧ StW s' ∧ StE s' ∧ s'.get 1 = s.get 1 ∧ s.get 1 = .int (s.get 1).toInt := by
 have e : s = .agg [s.get 0, s.get 1, s.get 2, s.get 3, s.get 4] := (C.y9S h).symm
 have f1 : C.wf (.int .u64) (s.get 1) := C.q4u (i := 1) h rfl
 have f2 : C.wf (.arr 2 (.int .u64)) (s.get 2) := C.q4u (i := 2) h rfl
 have f3 : C.wf (.arr 2 (.int .u64)) (s.get 3) := C.q4u (i := 3) h rfl
 have f4 : C.wf (.slice 64 k9) (s.get 4) := C.q4u (i := 4) h rfl
 have hc : ∀ c ∈ (s.get 4).elems, C.wf k9 c := by simp only [C.wf] at f4; exact f4.2.2.2
 have e4 : s.get 4 = .slice (s.get 4).elems := by simp only [C.wf] at f4; exact f4.1
 have e1 : s.get 1 = .int (s.get 1).toInt := by simp only [C.wf] at f1; exact f1.1
 refine ⟨.agg [.int 7, s.get 1, s.get 2, s.get 3, s.get 4], by rw [e]; rfl, ?_, ?_, rfl, e1⟩
 ·exact ⟨⟨by show (0 : Int) ≤ 7; decide, by show (7 : Int) < 18446744073709551616; decide⟩, q9l f1, q9l (C.z7a f2 (by decide)), q9l (C.z7a f2 (by decide)), q9l (C.z7a f3 (by decide)), q9l (C.z7a f3 (by decide)),
   fun c hc' => by
    have w := hc c hc'
    have g := C.q4u (i := 3) (f := .arr 32 (.int .u8)) w rfl
    simp only [C.wf] at g
    exact ⟨q9l (C.q4u (i := 0) w rfl), q9l (C.q4u (i := 2) w rfl), g.2.1, q9l (C.q4u (i := 4) w rfl)⟩, hl⟩
 ·refine ⟨?_, fun c hc' => (C.y9S (hc c hc')).symm, hl⟩
  show C.agg [.int 7, s.get 1, s.get 2, s.get 3, s.get 4] = .agg [.int 7, s.get 1, s.get 2, s.get 3, .slice (s.get 4).elems]
  rw [← e4]
theorem y7N (a b s t : C) (hs : C.wf w4 s) (ht : C.wf w4 t) (hN : 2199023255552 < N) (hN2 : N < 4611686018427387904) (k : KD R) : q2Z N a b s t k = k [.bool true] [] := by
 rw [z1L]
 unfold q4n
 by_cases g1 : 12 < ((s.get 4).elems.length : Int)
 ·simp only [y4, g1, decide_true, cond_true, x9, w9, p9, q7v]
 by_cases g2 : 12 < ((t.get 4).elems.length : Int)
 ·simp only [y4, g1, g2, decide_true, decide_false, cond_true, cond_false, x9, w9, p9, q7v]
 obtain ⟨tab, a0, a1, a2, b0, b1, b2, htab, ⟨ea0, ea1, ea2⟩, ⟨eb0, eb1, eb2⟩, hmade⟩ := x1Z (R := R) (N := N) a b (by omega)
 obtain ⟨x, y, hroots⟩ := y94 (R := R) (N := N) tab a b a0 a1 a2 b0 b1 b2 ea2 eb2
 have hroots2 : ∀ k : KD R, q17 N (.agg [.agg [x, y], .int 2]) k = k [.agg [.agg [x, y], .int 2]] [] := fun k => by rw [z26]; rfl
 obtain ⟨s', hs', ws, es, rs, rsi⟩ := y4G hs (by omega)
 obtain ⟨t', ht', wt, et, rt, rti⟩ := y4G ht (by omega)
 have hOf := fun p hp => x1f (R := R) (N := N) tab htab p hp (by omega)
 obtain ⟨sx, sy, hsx, hsy, hds⟩ := y6T hOf s' a b a0 a1 a2 b0 b1 b2 ea0 ea1 ea2 eb0 eb1 eb2 ws (by omega)
 obtain ⟨tx, ty, htx, hty, hdt⟩ := y6T hOf t' a b a0 a1 a2 b0 b1 b2 ea0 ea1 ea2 eb0 eb1 eb2 wt (by omega)
 obtain ⟨sx', sy', hts⟩ := y2L (R := R) (N := N) s' sx sy es hsx hsy (by omega)
 obtain ⟨tx', ty', htt⟩ := y2L (R := R) (N := N) t' tx ty et htx hty (by omega)
 obtain ⟨w, hw, hwz⟩ := y2o (R := R) (N := N) (.agg [.agg [x, y], .int 2]) s' sx' sy' ws (by show (2 : Int) ≤ 1000; decide) (by omega) hN2
 obtain ⟨w2, hw2, _⟩ := y2o (R := R) (N := N) (.agg [.agg [x, y], .int 2]) t' tx' ty' wt (by show (2 : Int) ≤ 1000; decide) (by omega) hN2
 have hnew := fun k : KD R => x3C (N := N) (.agg [.agg [x, y], .int 2]) (by show (0 : Int) ≤ 2; decide) (by show (2 : Int) ≤ 8; decide) k
 have hm1 := fun k : KD R => y74 (N := N) (id := .int 7) (who := q7L) (roots := .agg [.agg [x, y], .int 2]) (rule := []) (put := zz) (paid := zz) (ph := .int 0) (un := .int 0) (z9L 7) (.int 0) (.int 100) k
 have hm2 := fun k : KD R => y74 (N := N) (id := .int 7) (who := q7L) (roots := .agg [.agg [x, y], .int 2]) (rule := []) (put := .agg [.int 100, .int 0]) (paid := zz) (ph := .int 0) (un := .int 0) (z9L 7) (.int 1) (.int 100) k
 simp only [y8, x3G] at hm1
 simp only [y8, x3F] at hm2
 have hf := fun k : KD R => x0Q (N := N) (id := .int 7) (who := q7L) (roots := .agg [.agg [x, y], .int 2]) (put := q2s) (paid := zz) (un := .int 0) (best := stZ 7) hw (z9L 7) es.eta hN k
 obtain ⟨F, hF⟩ : ∃ F, q93 (.int 0) q2s zz (stZ 7) (.agg [s', .agg [sx', sy']]) w = F := ⟨_, rfl⟩
 simp only [hF] at hf
 have n7 : ((7 : Int) = 7) = True := by simp
 simp only [y4, g1, g2, decide_true, decide_false, cond_true, cond_false, Bool.not_true, x9, w7, w9, u6, j3, p9, y8, hmade, hroots, hroots2, hnew, hm1, hm2, hs', ht', hds, hts, hf]
 by_cases hF0 : F = 0
 case neg => simp only [hF0, decide_false, Bool.not_false, cond_true, q7v, x9, p9]
 -- the dispute is on
 have hwt : w = true := by
  cases w with
  | true => rfl
  | false => exact absurd (show q93 (.int 0) q2s zz (stZ 7) (.agg [s', .agg [sx', sy']]) false = 20 from rfl) (fun e => by rw [hF, hF0] at e; exact absurd e (by decide))
 by_cases hr : (s'.get 1).toInt < (t'.get 1).toInt
 ·simp only [hF0, hr, decide_true, Bool.not_true, cond_false, cond_true, q7v, x9, p9]
 have hbest : (q7t (stZ 7) (.agg [s', .agg [sx', sy']])).get 1 = s'.get 1 ∨ ((q7t (stZ 7) (.agg [s', .agg [sx', sy']])) = stZ 7 ∧ (s'.get 1).toInt = 0) ∨ False := by
  unfold q7t
  split
  ·exact .inl rfl
  ·rename_i h
   refine .inr (.inl ⟨rfl, ?_⟩)
   have h' : ¬ (0 : Int) < (s'.get 1).toInt := h
   have := ws.rd.1
   omega
 have hround : ((q7t (stZ 7) (.agg [s', .agg [sx', sy']])).get 1).toInt = (s'.get 1).toInt := by
  rcases hbest with e | ⟨e, e2⟩ | e
  ·rw [e]
  ·rw [e, e2]; rfl
  ·exact e.elim
 obtain ⟨e, he, hsh⟩ := x1D (R := R) (N := N) (id := .int 7) (who := q7L) (roots := .agg [.agg [x, y], .int 2]) (rule := []) (put := q2s) (paid := zz) (un := .int 10) (best := q7t (stZ 7) (.agg [s', .agg [sx', sy']])) hw2 (by rw [hround]; show (t'.get 1).toInt ≤ _; omega) hN (.int 6)
 have hz : (zB.get 0).toInt = 0 := rfl
 have hfin : ∀ K : KD R, (q0O N (q7t (stZ 7) (.agg [s', .agg [sx', sy']])) fun d16 m16 => q0L N (dk d16 0) s' K) = K [.bool true] [] := fun K => by
  unfold q7t
  split
  ·show q0O N s' _ = _
   rw [z4T s' es (by omega)]
   exact y8K s' es.ln (by omega) K
  ·rename_i h
   have h' : ¬ (0 : Int) < (s'.get 1).toInt := h
   have := ws.rd.1
   rw [z4T (stZ 7) ⟨z9L 7, fun c hc => by simp [j9, stZ, C.get, C.elems] at hc, by decide⟩ (by omega)]
   exact y61 s' (hwz (by omega) hwt) (by omega) K
 have h8 : ∀ b : C, (mkB (.int 7) q7L (.agg [.agg [x, y], .int 2]) [] q2s zz (.int 1) (.int 10) b).get 8 = b := fun _ => rfl
 simp only [hF0, if_true, hr, decide_true, decide_false, Bool.not_true, Bool.not_false, cond_false, cond_true, hdt, htt, hsh, q7v, x9, w7, p9, y8, he, hz, h8, hfin]
theorem y4M (A : Key → Option O) (a b s t : C) : Q0 (X0 gl0) 3 [.d (.arr 32 (.int .u8)) a, .d (.arr 32 (.int .u8)) b, .d w4 s, .d w4 t] A (.d .bool (.bool true)) [] := by
 refine z6U (ts := [.arr 32 (.int .u8), .arr 32 (.int .u8), w4, w4]) (cs := [a, b, s, t]) fun W => ?_
 have h2 := W 2 _ _ rfl rfl
 have h3 := W 3 _ _ rfl rfl
 refine x5y (y0l 2199023255553) ?_
 show q49 2199023255553 [.d (.arr 32 (.int .u8)) a, .d (.arr 32 (.int .u8)) b, .d w4 s, .d w4 t] A kR = _
 simp only [q49, and_self, if_true]
 rw [y7N a b s t h2 h3 (by omega) (by omega)]
 rfl
end Go.Proofs.YtgdonkaoajbclaaGreatDoor
