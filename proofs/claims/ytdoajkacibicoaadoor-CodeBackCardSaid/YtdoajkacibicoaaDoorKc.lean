/-
 What the functions on the way compute, part 3.
 Conditions: none.
-/
import Derived.Test.YtdoajkacibicoaaDoorKb
set_option linter.all false
namespace Go.Proofs.YtdoajkacibicoaaDoor
open Go Go.E
set_option maxRecDepth 100000
set_option maxHeartbeats 4000000
set_option linter.unusedSimpArgs false
variable {R : Type} {N : Nat}
theorem z8I (pre suf : List C) (x : Int) : bN (pre ++ C.int x :: suf) pre.length = x := by
 unfold bN
 rw [List.getD_eq_getElem?_getD, List.getElem?_append_right (Nat.le_refl _), Nat.sub_self]; rfl
theorem z5R : ∀ (m : Nat) (u : Int) (pre suf : List C), 0 ≤ u → u < 256 ^ m → b6 (pre ++ (Y8 m u ++ suf)) pre.length m = u
 | 0, u, pre, suf, h0, h1 => by simp at h1; show (0 : Int) = u; omega
 | m + 1, u, pre, suf, h0, h1 => by
  have h2 : u / 256 < 256 ^ m := by rw [Int.pow_succ] at h1; omega
  have ih := z5R m (u / 256) pre (C.int (u % 256) :: suf) (by omega) h2
  have e : pre ++ (Y8 (m + 1) u ++ suf) = pre ++ (Y8 m (u / 256) ++ C.int (u % 256) :: suf) := by
   show pre ++ ((Y8 m (u / 256) ++ [C.int (u % 256)]) ++ suf) = _
   rw [List.append_assoc]; rfl
  rw [e]
  show b6 (pre ++ (Y8 m (u / 256) ++ C.int (u % 256) :: suf)) pre.length m * 256 + bN (pre ++ (Y8 m (u / 256) ++ C.int (u % 256) :: suf)) (pre.length + m) = u
  rw [ih]
  have hb := z8I (pre ++ Y8 m (u / 256)) suf (u % 256)
  rw [List.length_append, q1g, List.append_assoc] at hb
  rw [hb]; omega
theorem z3b : ∀ (m : Nat) (u : Int), ∀ c ∈ Y8 m u, c = C.int c.toInt ∧ 0 ≤ c.toInt ∧ c.toInt ≤ 255
 | 0, u => fun c hc => by cases hc
 | m + 1, u => fun c hc => by
  rcases List.mem_append.1 hc with hc | hc
  ·exact z3b m _ c hc
  ·rw [List.mem_singleton.1 hc]
   simp only [s8]
   exact ⟨trivial, by omega, by omega⟩
theorem y6r {m : Nat} (hm : m = 1 ∨ m = 2 ∨ m = 8) {u : Nat} (h : u ≤ 2 ^ (8 * m) - 1) : (u : Int) < 256 ^ m := by
 rcases hm with rfl | rfl | rfl
 ·have e1 : 2 ^ (8 * 1) - 1 = 255 := by decide
  have e2 : (256 : Int) ^ 1 = 256 := by decide
  omega
 ·have e1 : 2 ^ (8 * 2) - 1 = 65535 := by decide
  have e2 : (256 : Int) ^ 2 = 65536 := by decide
  omega
 ·have e1 : 2 ^ (8 * 8) - 1 = 18446744073709551615 := by decide
  have e2 : (256 : Int) ^ 8 = 18446744073709551616 := by decide
  omega
theorem z23 : ∀ (ls : List (List UInt8)) (j : Nat) (out0 out : List C), q1f (fun _ out s => q5H out s) j out0 ls = .inl out →
  ∃ bs, out = out0 ++ bs ∧ (∀ c ∈ bs, c = C.int c.toInt ∧ 0 ≤ c.toInt ∧ c.toInt ≤ 255) ∧ ∀ (pre : List C) (f : Nat), bs.length ≤ f → Q0 (pre ++ bs) f pre.length = ls
 | [], j, out0, out, h => by
  simp only [q1f] at h
  cases h
  refine ⟨[], by simp, fun c hc => (by cases hc), fun pre f _ => ?_⟩
  cases f with
  | zero => rfl
  | succ f => rw [Q0, if_pos (by simp)]
 | w :: ls, j, out0, out, h => by
  simp only [q1f] at h
  unfold q5H at h
  by_cases h0 : (q1F w).2 = 0
  ·rw [if_pos h0] at h
   simp only at h
   obtain ⟨bs, e, hb, ht⟩ := z23 ls (j + 1) _ out h
   obtain ⟨o, ho, hcase⟩ := y3z h0
   have hob : C.int (o : Int) = C.int (C.int (o : Int)).toInt ∧ 0 ≤ (C.int (o : Int)).toInt ∧ (C.int (o : Int)).toInt ≤ 255 := ⟨rfl, by simp only [s8]; omega, by simp only [s8]; omega⟩
   rcases hcase with ⟨hm, hw, hB⟩ | ⟨u, hm, hu, hw, hB⟩
   ·refine ⟨C.int (o : Int) :: bs, by rw [e, hB]; simp, fun c hc => ?_, fun pre f hf => ?_⟩
    ·rcases List.mem_cons.1 hc with rfl | hc
     ·exact hob
     ·exact hb c hc
    ·cases f with
     | zero => simp at hf
     | succ f =>
      have h1 := z8I pre bs (o : Int)
      rw [Q0, if_neg (by simp)]
      unfold q0S
      rw [h1, hm, if_neg (Nat.lt_irrefl 0), List.append_nil, Int.toNat_natCast, ← hw]
      have := ht (pre ++ [C.int (o : Int)]) f (by simp at hf; omega)
      rw [List.append_assoc, List.length_append] at this
      congr 1
   ·have hmc := q3U ho
    refine ⟨C.int (o : Int) :: (Y8 (y5 (o : Int)) (u : Int) ++ bs), by rw [e, hB]; simp, fun c hc => ?_, fun pre f hf => ?_⟩
    ·rcases List.mem_cons.1 hc with rfl | hc
     ·exact hob
     ·rcases List.mem_append.1 hc with hc | hc
      ·exact z3b _ _ c hc
      ·exact hb c hc
    ·cases f with
     | zero => simp at hf
     | succ f =>
      have h1 := z8I pre (Y8 (y5 (o : Int)) (u : Int) ++ bs) (o : Int)
      have h2 := z5R (y5 (o : Int)) (u : Int) (pre ++ [C.int (o : Int)]) bs (by omega) (y6r (by omega) hu)
      rw [List.append_assoc, List.length_append] at h2
      have h2 : b6 (pre ++ C.int (o : Int) :: (Y8 (y5 (o : Int)) (u : Int) ++ bs)) (pre.length + 1) (y5 (o : Int)) = (u : Int) := h2
      rw [Q0, if_neg (by simp)]
      unfold q0S
      rw [h1, if_pos hm, h2, Int.toNat_natCast, Int.toNat_natCast, List.singleton_append, ← hw]
      have := ht (pre ++ C.int (o : Int) :: Y8 (y5 (o : Int)) (u : Int)) f (by simp [q1g] at hf; omega)
      rw [List.append_assoc, List.length_append, List.length_cons, q1g] at this
      rw [show pre.length + 1 + y5 (o : Int) = pre.length + (y5 (o : Int) + 1) by omega]
      congr 1
  ·rw [if_neg h0] at h
   cases h
end Go.Proofs.YtdoajkacibicoaaDoor
namespace Go.Proofs.YtdoajkacibicoaaDoor
open Go Go.E
set_option maxRecDepth 100000
set_option maxHeartbeats 4000000
set_option linter.unusedVariables false
noncomputable def z1s : Hints := [([0, 1, 0, 1], ⟨[0, 1, 5], [(24, .d .bool)], [], [], [], []⟩),
  ([1, 1, 0, 1], ⟨[1], [], [], [], [], []⟩),
  ([0, 1, 2, 1, 1, 0, 1], ⟨[1], [(38, .d .bool)], [], [], [], []⟩),
  ([1, 1, 0, 1, 1], ⟨[], [], [], [], [], []⟩),
  ([0, 1, 2, 1, 1, 0, 1, 1], ⟨[], [(57, .d .bool)], [], [], [], []⟩),
  ([9], ⟨[], [(4, .d .bool)], [], [], [], []⟩)]
noncomputable def q5U (N : Nat) : OvS (X0 gl0) where
 g R := [(5, q7D N), (7, q6R N), (9, q5I N)]
 ok := fun R => List.forall_mem_cons.2 ⟨z8B N, List.forall_mem_cons.2 ⟨z6o N, List.forall_mem_cons.2 ⟨z4u N, fun _ h => nomatch h⟩⟩⟩
noncomputable def q1m {R : Type} (N : Nat) (a0 a1 : C) (k1 : KD R) : Option R := (F8 N a0 (fun d1 m1 => (jn (fun d2 m2 => (jn (fun d3 m3 => (J8 N (dk d3 0) (fun d4 m4 => (jn (fun d5 m5 => (H4 N (fun d6 m6 => (k1 [C.bool (C.toBool (dk d6 0))] [])))) (fun k2 => (bif decide (C.toInt (dk d4 1) = 0) then (F8 N (C.slice (C.elems (dk d4 0))) (fun d5 m5 => (jn (fun d6 m6 => (bif C.toBool (dk d6 0) then (k1 [C.bool false] []) else (k2 [] []))) (fun k3 => (bif !decide (C.toInt (dk d5 1) = 0) then (k3 [C.bool true] []) else (k3 [C.bool !C.toStr (dk d5 0) == C.toStr (dk d3 0)] [])))))) else (k2 [] []))))))) (fun k2 => (bif C.toBool (dk d2 3) then (J8 N (dk d2 2) (fun d3 m3 => (jn (fun d4 m4 => (bif C.toBool (dk d4 1) then (k1 [C.bool false] []) else (k2 [dk d4 0] []))) (fun k3 => (bif !decide (C.toInt (dk d3 1) = 0) then (k3 [dk d2 1, C.bool true] []) else (k3 [dk d2 1, C.bool !List.map (fun c => UInt8.ofNat (Int.toNat (C.toInt c))) (C.elems (dk d3 0)) == List.map (fun c => UInt8.ofNat (Int.toNat (C.toInt c))) (C.elems (dk d2 0))] [])))))) else (k2 [dk d2 1] []))))) (fun k2 => (bif decide (C.toInt (dk d1 1) = 0) then (k2 [a0, a1, dk d1 0, C.bool (decide ((↑(List.length (C.toStr (dk d1 0))) : Int) ≤ 4096))] []) else (k2 [a0, a1, dk d1 0, C.bool false] []))))))
noncomputable def q0M {R : Type} (N : Nat) : C → C → KD R → Option R := lid "" (q1m N)
theorem q5T {R : Type} (N : Nat) (a0 a1 : C) (k : KD R) : q0M N a0 a1 k = q1m N a0 a1 k := by unfold q0M; rw [W7]
theorem z0h {R : Type} (N : Nat) (a0 a1 : C) (K : V → List (Key × O) → Option R) : exF (X0 gl0) ((q5U N).ov R) q0X noX (fun f => bif Nat.beq f 4 then z1s else []) N 400 8 4 [.d (.slice 1 (.int .u8)) a0, .d .str a1] A0 K =
  q0M N a0 a1 (fun d1 m1 => K (V.d Ty.bool (C.bool (C.toBool (dk d1 0)))) []) := by
 rw [q5T]
 exact (show _ = jn (fun d1 m1 => (K (V.d Ty.bool (C.bool (C.toBool (dk d1 0)))) [])) (q1m N a0 a1) by kernel_rfl).trans (Y2 _ _)
noncomputable def q1I (N : Nat) {R : Type} : OvG R := fun xs _ K => match xs with
 | [.d t0 a0, .d t1 a1] => if t0 = (.slice 1 (.int .u8)) ∧ t1 = .str then q0M N a0 a1 (fun d1 m1 => K (V.d Ty.bool (C.bool (C.toBool (dk d1 0)))) []) else none
 | _ => none
theorem z1r (N : Nat) {R : Type} : GOk (X0 gl0) 4 (q1I N (R := R)) := by
 intro xs A Kr r hr
 unfold q1I at hr
 split at hr
 ·simp only [Option.ite_none_right_eq_some] at hr
  obtain ⟨hty, hr⟩ := hr
  obtain ⟨rfl, rfl⟩ := hty
  rw [← z0h] at hr
  exact okA (q5U N) hr
 ·cases hr
end Go.Proofs.YtdoajkacibicoaaDoor
namespace Go.Proofs.YtdoajkacibicoaaDoor
open Go Go.E
set_option maxRecDepth 100000
set_option maxHeartbeats 4000000
set_option linter.unusedSimpArgs false
variable {R : Type} {N : Nat}
theorem y2U (t : List UInt8) (h : (q7s t).2 = 0) : C.wf (.slice 1 (.int .u8)) (.slice (q7s t).1) ∧ q5B (q7s t).1 = (t, 0) := by
 unfold q7s at h ⊢
 by_cases h0 : 4096 < t.length
 ·rw [if_pos h0] at h; exact absurd h (by decide)
 rw [if_neg h0] at h ⊢
 by_cases h1 : t = []
 ·subst h1
  refine ⟨z1Y (fun c hc => by cases hc) (by simp), rfl⟩
 rw [if_neg h1] at h ⊢
 cases hL : q8F (j5 (UInt8.ofNat 10) t) with
 | inr e =>
  rw [hL] at h
  have hne : ∀ (ls : List (List UInt8)) (j : Nat) (out : List C) (e : Int), q1f (fun _ out s => q5H out s) j out ls = .inr e → e ≠ 0 := by
   intro ls
   induction ls with
   | nil => intro j out e h; simp only [q1f] at h; cases h
   | cons w ls ih =>
    intro j out e h
    simp only [q1f] at h
    unfold q5H at h
    by_cases hw : (q1F w).2 = 0
    ·rw [if_pos hw] at h; exact ih _ _ _ h
    ·rw [if_neg hw] at h; cases h; exact hw
  exact absurd h (hne _ _ _ _ hL)
 | inl out =>
  rw [hL] at h
  simp only at h ⊢
  by_cases hc : W1 out = 0
  ·rw [if_pos hc]
   obtain ⟨bs, e, hb, ht⟩ := z23 _ 0 [] out hL
   rw [List.nil_append] at e
   subst e
   have hlen := (y0C hc).1
   refine ⟨z1Y (l := out) hb (Nat.le_trans hlen (by decide)), ?_⟩
   unfold q5B
   rw [if_pos hc]
   have := ht [] out.length (Nat.le_refl _)
   have this : Q0 out out.length 0 = j5 (UInt8.ofNat 10) t := this
   rw [this, z1L]
  ·rw [if_neg hc] at h; exact absurd h hc
theorem z9t {p : List C} (hp : C.wf (.slice 1 (.int .u8)) (.slice p)) (t : List UInt8) (hN : 140737488355329 < N) (k : KD R) : q0M N (.slice p) (.str t) k = k [.bool true] [] := by
 rw [q5T]
 unfold q1m
 have f1 : ∀ k : KD R, F8 N (.slice p) k = _ := z8G hp hN
 have f3 : ∀ (t : List UInt8) (k : KD R), J8 N (.str t) k = _ := fun t => y2T t hN
 have f5 : ∀ k : KD R, H4 N k = _ := y4s (by omega)
 have fin : ∀ k : KD R, (J8 N (.str t) (fun d4 m4 =>
     (jn (fun d5 m5 => (H4 N (fun d6 m6 => (k [C.bool (C.toBool (dk d6 0))] [])))) (fun k2 =>
      (bif decide (C.toInt (dk d4 1) = 0) then
       (F8 N (C.slice (C.elems (dk d4 0))) (fun d5 m5 =>
        (jn (fun d6 m6 => (bif C.toBool (dk d6 0) then (k [C.bool false] []) else (k2 [] []))) (fun k3 =>
         (bif !decide (C.toInt (dk d5 1) = 0) then (k3 [C.bool true] []) else (k3 [C.bool !C.toStr (dk d5 0) == t] []))))))
      else (k2 [] [])))))) = k [.bool true] [] := by
  intro k
  rw [f3]
  simp only [Y2, q2i, q5O, s8, b8]
  by_cases h : (q7s t).2 = 0
  ·obtain ⟨hw, ht⟩ := y2U t h
   simp only [h, decide_true, cond_true]
   rw [z8G hw hN, ht]
   simp only [q2i, q5O, s8, q4Y, Y0, decide_true, Bool.not_true, cond_false, beq_self_eq_true, f5]
  ·simp only [h, decide_false, cond_false, f5, q2i, Y0]
 simp only [f1, Y2, q2i, q5O, q8W, z8o, s8, q4Y, Y0, b8] at fin ⊢
 by_cases h : (q5B p).2 = 0
 ·have hck : W1 p = 0 := by
   unfold q5B at h
   split at h
   ·assumption
   ·exact h
  simp only [h, decide_true, cond_true]
  by_cases hl : (((q5B p).1.length : Nat) : Int) ≤ 4096
  ·have hb := y1G hp hck (by omega)
   simp only [hl, decide_true, cond_true, f3 (q5B p).1, hb, q2i, q5O, s8, b8, Bool.not_true, cond_false, beq_self_eq_true, Y0]
   exact fin k
  ·simp only [hl, decide_false, cond_false]
   exact fin k
 ·simp only [h, decide_false, cond_false]
  exact fin k
theorem z6V (A : Key → Option O) (p t : C) : r9 (X0 gl0) 4 [.d (.slice 1 (.int .u8)) p, .d .str t] A (.d .bool (.bool true)) [] := by
 refine y2L (ts := [.slice 1 (.int .u8), .str]) (cs := [p, t]) fun W => ?_
 have h0 := W 0 _ _ rfl rfl
 have h1 := W 1 _ _ rfl rfl
 have e0 : p = .slice p.elems := by simp only [C.wf] at h0; exact h0.1
 simp only [C.wf] at h1
 refine y6u (z1r 140737488355330) ?_
 show q1I 140737488355330 [.d (.slice 1 (.int .u8)) p, .d .str t] A kR = _
 simp only [q1I, and_self, if_true]
 rw [e0] at h0 ⊢
 rw [h1.1, z9t h0 t.toStr (by omega)]
 rfl
end Go.Proofs.YtdoajkacibicoaaDoor
