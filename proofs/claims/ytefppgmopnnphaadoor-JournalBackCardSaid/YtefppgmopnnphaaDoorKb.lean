/-
 What the functions on the way compute, part 2.
 Conditions: none.
-/
import Derived.Test.YtefppgmopnnphaaDoorKa
set_option linter.all false
namespace Go.Proofs.YtefppgmopnnphaaDoor
open Go Go.E
set_option maxRecDepth 100000
set_option maxHeartbeats 4000000
set_option linter.unusedVariables false
noncomputable def z9s : Hints := [([9], ⟨[], [(4, .d (.int .u64)), (5, .d (.int .i64))], [], [], [], []⟩)]
noncomputable def z1k (N : Nat) : OvS (X0 gl0) where
 g R := []
 ok := fun R => fun _ h => nomatch h
noncomputable def q4K {R : Type} (N : Nat) (a0 a1 : C) (k1 : KD R) : Option R := (bif decide (IntKind.wrap IntKind.u64 (18446744073709551615 - C.toInt a0) < C.toInt a1) then (k1 [C.int 0, C.int 11] []) else (k1 [C.int (IntKind.wrap IntKind.u64 (C.toInt a0 + C.toInt a1)), C.int 0] []))
noncomputable def q2F {R : Type} (N : Nat) : C → C → KD R → Option R := lid "" (q4K N)
theorem z1j {R : Type} (N : Nat) (a0 a1 : C) (k : KD R) : q2F N a0 a1 k = q4K N a0 a1 k := by unfold q2F; rw [Q9]
theorem z8e {R : Type} (N : Nat) (a0 a1 : C) (K : V → List (Key × O) → Option R) : exF (X0 gl0) ((z1k N).ov R) J9 noX (fun f => bif Nat.beq f 27 then z9s else []) N 400 8 27 [.d (.int .u64) a0, .d (.int .u64) a1] A0 K =
  q2F N a0 a1 (fun d1 m1 => K (V.tup [V.d (Ty.int IntKind.u64) (dk d1 0), V.d (Ty.int IntKind.i64) (dk d1 1)]) []) := by
 rw [z1j]
 exact (show _ = jn (fun d1 m1 => (K (V.tup [V.d (Ty.int IntKind.u64) (dk d1 0), V.d (Ty.int IntKind.i64) (dk d1 1)]) [])) (q4K N a0 a1) by kernel_rfl).trans (s5 _ _)
noncomputable def q8B (N : Nat) {R : Type} : OvG R := fun xs _ K => match xs with
 | [.d t0 a0, .d t1 a1] => if t0 = (.int .u64) ∧ t1 = (.int .u64) then q2F N a0 a1 (fun d1 m1 => K (V.tup [V.d (Ty.int IntKind.u64) (dk d1 0), V.d (Ty.int IntKind.i64) (dk d1 1)]) []) else none
 | _ => none
theorem z9r (N : Nat) {R : Type} : GOk (X0 gl0) 27 (q8B N (R := R)) := by
 intro xs A Kr r hr
 unfold q8B at hr
 split at hr
 ·simp only [Option.ite_none_right_eq_some] at hr
  obtain ⟨hty, hr⟩ := hr
  obtain ⟨rfl, rfl⟩ := hty
  rw [← z8e] at hr
  exact okA (z1k N) hr
 ·cases hr
noncomputable def z8c : Hints := [([1, 0, 1, 1], ⟨[], [], [], [], [], []⟩),
  ([4, 1, 0, 1, 1], ⟨[0, 1], [(5, .d (.int .i64))], [], [], [], []⟩),
  ([0, 0, 4, 0, 1, 5, 4, 1, 0, 1, 1], ⟨[0, 1, 5], [(43, .d .bool)], [], [], [], []⟩),
  ([1, 1, 4, 0, 1, 5, 4, 1, 0, 1, 1], ⟨[0, 1, 5], [], [], [], [], []⟩),
  ([4, 1, 1, 4, 0, 1, 5, 4, 1, 0, 1, 1], ⟨[0, 1, 5], [(6, .d (.int .i64))], [], [], [], []⟩),
  ([9], ⟨[], [(4, .d .bool)], [], [], [], []⟩)]
noncomputable def z0C (N : Nat) : OvS (X0 gl0) where
 g R := []
 ok := fun R => fun _ h => nomatch h
noncomputable def q6t {R : Type} (N : Nat) (k1 : KD R) (k4 : KD R) : KD R → List C → List Es → Option R := (fun k5 d3 m3 => (if 0 ≤ C.toInt (dk d3 2) ∧ C.toInt (dk d3 2) < (↑(List.length (C.elems (dk d3 0))) : Int) then (bif decide (C.toInt (dk d3 3) < (↑(List.length (C.elems (C.get (List.getD (C.elems (dk d3 0)) (Int.toNat (C.toInt (dk d3 2))) C.nil) 1))) : Int)) then (if 0 ≤ C.toInt (dk d3 2) ∧ C.toInt (dk d3 2) < (↑(List.length (C.elems (dk d3 0))) : Int) then (if 0 ≤ C.toInt (dk d3 3) ∧ C.toInt (dk d3 3) < (↑(List.length (C.elems (C.get (List.getD (C.elems (dk d3 0)) (Int.toNat (C.toInt (dk d3 2))) C.nil) 1))) : Int) then (if 0 ≤ C.toInt (dk d3 2) ∧ C.toInt (dk d3 2) < (↑(List.length (C.elems (dk d3 1))) : Int) then (if 0 ≤ C.toInt (dk d3 3) ∧ C.toInt (dk d3 3) < (↑(List.length (C.elems (C.get (List.getD (C.elems (dk d3 1)) (Int.toNat (C.toInt (dk d3 2))) C.nil) 1))) : Int) then (bif !C.beq (List.getD (C.elems (C.get (List.getD (C.elems (dk d3 0)) (Int.toNat (C.toInt (dk d3 2))) C.nil) 1)) (Int.toNat (C.toInt (dk d3 3))) C.nil) (List.getD (C.elems (C.get (List.getD (C.elems (dk d3 1)) (Int.toNat (C.toInt (dk d3 2))) C.nil) 1)) (Int.toNat (C.toInt (dk d3 3))) C.nil) then (k1 [C.bool false] []) else (k5 [dk d3 0, dk d3 1, dk d3 2, C.int (IntKind.wrap IntKind.i64 (C.toInt (dk d3 3) + 1))] [])) else none) else none) else none) else none) else (k4 [dk d3 0, dk d3 1, dk d3 2] [])) else none))
noncomputable def q6s {R : Type} (N : Nat) (k1 : KD R) (k2 : KD R) : KD R → List C → List Es → Option R := (fun k3 d1 m1 => (bif decide (C.toInt (dk d1 2) < (↑(List.length (C.elems (dk d1 0))) : Int)) then (jn (fun d2 m2 => (bif C.toBool (dk d2 3) then (k1 [C.bool false] []) else (jn (fun d3 m3 => (k3 [dk d3 0, dk d3 1, C.int (IntKind.wrap IntKind.i64 (C.toInt (dk d3 2) + 1))] [])) (fun k4 => (c4 N (q6t N k1 k4) [dk d2 0, dk d2 1, dk d2 2, C.int 0] []))))) (fun k4 => (if 0 ≤ C.toInt (dk d1 2) ∧ C.toInt (dk d1 2) < (↑(List.length (C.elems (dk d1 0))) : Int) then (if 0 ≤ C.toInt (dk d1 2) ∧ C.toInt (dk d1 2) < (↑(List.length (C.elems (dk d1 1))) : Int) then (bif !decide (C.toInt (C.get (List.getD (C.elems (dk d1 0)) (Int.toNat (C.toInt (dk d1 2))) C.nil) 0) = C.toInt (C.get (List.getD (C.elems (dk d1 1)) (Int.toNat (C.toInt (dk d1 2))) C.nil) 0)) then (k4 [dk d1 0, dk d1 1, dk d1 2, C.bool true] []) else (if 0 ≤ C.toInt (dk d1 2) ∧ C.toInt (dk d1 2) < (↑(List.length (C.elems (dk d1 0))) : Int) then (if 0 ≤ C.toInt (dk d1 2) ∧ C.toInt (dk d1 2) < (↑(List.length (C.elems (dk d1 1))) : Int) then (k4 [dk d1 0, dk d1 1, dk d1 2, C.bool !decide ((↑(List.length (C.elems (C.get (List.getD (C.elems (dk d1 0)) (Int.toNat (C.toInt (dk d1 2))) C.nil) 1))) : Int) = (↑(List.length (C.elems (C.get (List.getD (C.elems (dk d1 1)) (Int.toNat (C.toInt (dk d1 2))) C.nil) 1))) : Int))] []) else none) else none)) else none) else none))) else (k2 [] [])))
noncomputable def q36 {R : Type} (N : Nat) (a0 a1 : C) (k1 : KD R) : Option R := (bif !decide ((↑(List.length (C.elems a0)) : Int) = (↑(List.length (C.elems a1)) : Int)) then (k1 [C.bool false] []) else (jn (fun d1 m1 => (k1 [C.bool true] [])) (fun k2 => (c4 N (q6s N k1 k2) [a0, a1, C.int 0] []))))
noncomputable def q1c {R : Type} (N : Nat) : C → C → KD R → Option R := lid "" (q36 N)
theorem z0B {R : Type} (N : Nat) (a0 a1 : C) (k : KD R) : q1c N a0 a1 k = q36 N a0 a1 k := by unfold q1c; rw [Q9]
theorem z6h {R : Type} (N : Nat) (a0 a1 : C) (K : V → List (Key × O) → Option R) : exF (X0 gl0) ((z0C N).ov R) J9 noX (fun f => bif Nat.beq f 14 then z8c else []) N 400 8 14 [.d (.slice 32 y5) a0, .d (.slice 32 y5) a1] A0 K =
  q1c N a0 a1 (fun d1 m1 => K (V.d Ty.bool (C.bool (C.toBool (dk d1 0)))) []) := by
 rw [z0B]
 exact (show _ = jn (fun d1 m1 => (K (V.d Ty.bool (C.bool (C.toBool (dk d1 0)))) [])) (q36 N a0 a1) by kernel_rfl).trans (s5 _ _)
noncomputable def q7l (N : Nat) {R : Type} : OvG R := fun xs _ K => match xs with
 | [.d t0 a0, .d t1 a1] => if t0 = (.slice 32 y5) ∧ t1 = (.slice 32 y5) then q1c N a0 a1 (fun d1 m1 => K (V.d Ty.bool (C.bool (C.toBool (dk d1 0)))) []) else none
 | _ => none
theorem z8b (N : Nat) {R : Type} : GOk (X0 gl0) 14 (q7l N (R := R)) := by
 intro xs A Kr r hr
 unfold q7l at hr
 split at hr
 ·simp only [Option.ite_none_right_eq_some] at hr
  obtain ⟨hty, hr⟩ := hr
  obtain ⟨rfl, rfl⟩ := hty
  rw [← z6h] at hr
  exact okA (z0C N) hr
 ·cases hr
def W64 (a : Int) : Prop := 0 ≤ a ∧ a < 18446744073709551616
theorem q7K {l : List C} {i : Nat} (h : i < l.length) : l.getD i .nil ∈ l := by
 rw [List.getD_eq_getElem?_getD, List.getElem?_eq_getElem h]; exact List.getElem_mem h
end Go.Proofs.YtefppgmopnnphaaDoor
namespace Go.Proofs.YtefppgmopnnphaaDoor
open Go Go.E
set_option maxRecDepth 100000
set_option maxHeartbeats 4000000
set_option linter.unusedSimpArgs false
variable {R : Type} {N : Nat}
theorem q3G {x : C} (h : C.wf y5 x) : x.get 1 = .slice (x.get 1).elems ∧ (x.get 1).elems.length * 32 ≤ 140737488355328 ∧ ∀ p ∈ (x.get 1).elems, C.wf r9 p := by
 have t := C.q0d (i := 1) (f := .slice 32 r9) h rfl
 simp only [C.wf] at t
 exact ⟨t.1, t.2.1, t.2.2.2⟩
theorem y1C (ps acc : List C) (a b c h : C) (hp : ∀ p ∈ ps, C.wf r9 p) (hl : ps.length * 32 ≤ 140737488355328) (hN : 4398046511105 < N) (k : KD R) :
  c4 N (q5T N k) [a, b, c, .slice ps, .int (ps.length : Int), .slice acc, .int 0, h, .slice []] [] = k [a, b, c, .slice acc, h, .slice ps] [] := by
 refine q1K (fun i => [a, b, c, .slice ps, .int (ps.length : Int), .slice acc, .int (i : Int), h, .slice (ps.take i)]) (fun _ => []) ps.length (k [a, b, c, .slice acc, h, .slice ps] []) ?_ ?_ (by omega)
 ·intro i hi rec
  have h1 : (i : Int) < (ps.length : Int) := by omega
  have h2 : (ps.take i).length = i := by simp; omega
  have h3 : IntKind.i64.wrap ((i : Int) + 1) = ((i + 1 : Nat) : Int) := c9 (by omega)
  have h4 : ps.take (i + 1) = ps.take i ++ [ps.getD i .nil] := by
   rw [List.take_add_one, List.getElem?_eq_getElem hi, List.getD_eq_getElem?_getD, List.getElem?_eq_getElem hi]; rfl
  have h5 : C.agg [(ps.getD i .nil).get 0, (ps.getD i .nil).get 1, (ps.getD i .nil).get 2] = ps.getD i .nil := C.q7b (hp _ (q7K hi))
  unfold q5T
  simp only [go_sem, y7, y8, x9, h1, h2, h3, h4, h5, List.length_append, List.length_cons, List.length_nil, Nat.zero_add, decide_true, cond_true, Int.natCast_nonneg, and_self, if_true, Int.toNat_natCast]
  rw [if_pos (by omega)]
 ·intro rec
  unfold q5T
  simp only [go_sem, y7, y8, x9, List.take_length, Int.lt_irrefl, decide_false, cond_false]
theorem y1E (l : List C) (hw : ∀ x ∈ l, C.wf y5 x) (hl : l.length * 32 ≤ 140737488355328) (hN : 4398046511105 < N) (k : KD R) : q3s N (.slice l) k = k [.slice l] [] := by
 rw [z3c]
 unfold q3O
 simp only [s5, y8]
 refine q1K (fun i => [.slice l, .int (l.length : Int), .slice (l.take i), .int (i : Int)]) (fun _ => []) l.length (k [.slice l] []) ?_ ?_ (by omega)
 ·intro i hi rec
  have h1 : (i : Int) < (l.length : Int) := by omega
  have h2 : (l.take i).length = i := by simp; omega
  have h3 : IntKind.i64.wrap ((i : Int) + 1) = ((i + 1 : Nat) : Int) := c9 (by omega)
  have h4 : l.take (i + 1) = l.take i ++ [l.getD i .nil] := by
   rw [List.take_add_one, List.getElem?_eq_getElem hi, List.getD_eq_getElem?_getD, List.getElem?_eq_getElem hi]; rfl
  have hx := hw _ (q7K hi)
  have h5 : C.agg [(l.getD i .nil).get 0, (l.getD i .nil).get 1] = l.getD i .nil := C.q7b hx
  obtain ⟨p1, p2, p3⟩ := q3G hx
  unfold q8D
  simp only [go_sem, y7, y8, x9, h1, h2, h3, h4, List.length_append, List.length_cons, List.length_nil, Nat.zero_add, decide_true, cond_true, Int.natCast_nonneg, and_self, if_true, Int.toNat_natCast]
  rw [p1, y8, y1C _ _ _ _ _ _ p3 p2 hN]
  simp only [go_sem, y7, y8, x9, h2, h3, List.length_append, List.length_cons, List.length_nil, Nat.zero_add, if_true]
  rw [if_pos (by omega), ← p1, h5]
 ·intro rec
  unfold q8D
  simp only [go_sem, y7, y8, x9, List.take_length, Int.lt_irrefl, decide_false, cond_false]
theorem z8n (ps acc : List C) (a b c h : C) (hp : ∀ p ∈ ps, C.wf r9 p) (hl : ps.length * 32 ≤ 140737488355328) (hN : 4398046511105 < N) (k : KD R) :
  c4 N (q39 N k) [a, b, c, .slice ps, .int (ps.length : Int), .slice acc, .int 0, h, .slice []] [] = k [a, b, c, .slice acc, h, .slice ps] [] := by
 refine q1K (fun i => [a, b, c, .slice ps, .int (ps.length : Int), .slice acc, .int (i : Int), h, .slice (ps.take i)]) (fun _ => []) ps.length (k [a, b, c, .slice acc, h, .slice ps] []) ?_ ?_ (by omega)
 ·intro i hi rec
  have h1 : (i : Int) < (ps.length : Int) := by omega
  have h2 : (ps.take i).length = i := by simp; omega
  have h3 : IntKind.i64.wrap ((i : Int) + 1) = ((i + 1 : Nat) : Int) := c9 (by omega)
  have h4 : ps.take (i + 1) = ps.take i ++ [ps.getD i .nil] := by
   rw [List.take_add_one, List.getElem?_eq_getElem hi, List.getD_eq_getElem?_getD, List.getElem?_eq_getElem hi]; rfl
  have h5 : C.agg [(ps.getD i .nil).get 0, (ps.getD i .nil).get 1, (ps.getD i .nil).get 2] = ps.getD i .nil := C.q7b (hp _ (q7K hi))
  unfold q39
  simp only [go_sem, y7, y8, x9, h1, h2, h3, h4, h5, List.length_append, List.length_cons, List.length_nil, Nat.zero_add, decide_true, cond_true, Int.natCast_nonneg, and_self, if_true, Int.toNat_natCast]
  rw [if_pos (by omega)]
 ·intro rec
  unfold q39
  simp only [go_sem, y7, y8, x9, List.take_length, Int.lt_irrefl, decide_false, cond_false]
theorem z8p (l : List C) (hw : ∀ x ∈ l, C.wf y5 x) (hl : l.length * 32 ≤ 140737488355328) (hN : 4398046511105 < N) (k : KD R) : q0w N (.slice l) k = k [.slice l] [] := by
 rw [z0G]
 unfold q2w
 simp only [s5, y8]
 refine q1K (fun i => [.slice l, .int (l.length : Int), .slice (l.take i), .int (i : Int)]) (fun _ => []) l.length (k [.slice l] []) ?_ ?_ (by omega)
 ·intro i hi rec
  have h1 : (i : Int) < (l.length : Int) := by omega
  have h2 : (l.take i).length = i := by simp; omega
  have h3 : IntKind.i64.wrap ((i : Int) + 1) = ((i + 1 : Nat) : Int) := c9 (by omega)
  have h4 : l.take (i + 1) = l.take i ++ [l.getD i .nil] := by
   rw [List.take_add_one, List.getElem?_eq_getElem hi, List.getD_eq_getElem?_getD, List.getElem?_eq_getElem hi]; rfl
  have hx := hw _ (q7K hi)
  have h5 : C.agg [(l.getD i .nil).get 0, (l.getD i .nil).get 1] = l.getD i .nil := C.q7b hx
  obtain ⟨p1, p2, p3⟩ := q3G hx
  unfold q6w
  simp only [go_sem, y7, y8, x9, h1, h2, h3, h4, List.length_append, List.length_cons, List.length_nil, Nat.zero_add, decide_true, cond_true, Int.natCast_nonneg, and_self, if_true, Int.toNat_natCast]
  rw [p1, y8, z8n _ _ _ _ _ _ p3 p2 hN]
  simp only [go_sem, y7, y8, x9, h2, h3, List.length_append, List.length_cons, List.length_nil, Nat.zero_add, if_true]
  rw [if_pos (by omega), ← p1, h5]
 ·intro rec
  unfold q6w
  simp only [go_sem, y7, y8, x9, List.take_length, Int.lt_irrefl, decide_false, cond_false]
theorem q4F {α σ ε : Type} (g : σ → α → σ) : ∀ (l : List α) (i : Nat) (s : σ), o7 (ε := ε) (fun _ s c => .inl (g s c)) i s l = .inl (l.foldl g s)
 | [], _, _ => rfl
 | c :: l, i, s => by simp only [o7, List.foldl_cons]; exact q4F g l (i + 1) (g s c)
def z4q (s : Int) (p : C) : Int := IntKind.wrap IntKind.i64 (s + IntKind.wrap IntKind.i64 (1 + ((p.get 0).toStr.length : Int)))
def x03 (l : List C) : Int := l.foldl (fun n x => (x.get 1).elems.foldl z4q n) 0
def y0b (l : List C) : Bool := decide (x03 l ≤ 5000) && decide ((l.length : Int) ≤ 200)
theorem z6t (ps : List C) (a b c d : C) (n : Int) (hl : ps.length * 32 ≤ 140737488355328) (hN : 4398046511105 < N) (k : KD R) :
  c4 N (q17 N k) [a, b, c, d, .slice ps, .int (ps.length : Int), .int n, .int 0] [] = k [a, b, c, d, .int (ps.foldl z4q n)] [] := by
 have key := q9Z (ε := Unit) (N := N) (F := q17 N k) (fun i (s : Int) => [a, b, c, d, .slice ps, .int (ps.length : Int), .int s, .int (i : Int)]) (fun _ _ => []) ps
   (fun _ s p => .inl (z4q s p)) (fun s => k [a, b, c, d, .int s] []) (fun _ => none) (s0 := n)
   (fun i s p hp hi rec => by
    have h1 : (i : Int) < (ps.length : Int) := by omega
    unfold q17 z4q
    simp only [go_sem, y7, y8, x9, h1, q2b hp, decide_true, cond_true, Int.natCast_nonneg, and_self, if_true, Int.toNat_natCast, c9 (show i < 4611686018427387904 by omega)])
   (fun s rec => by
    unfold q17
    simp only [go_sem, y7, y8, x9, Int.lt_irrefl, decide_false, cond_false]) (by omega)
 rw [q4F] at key
 exact key
theorem z6v (l : List C) (hw : ∀ x ∈ l, C.wf y5 x) (hl : l.length * 32 ≤ 140737488355328) (hN : 4398046511105 < N) (k : KD R) : q1C N (.slice l) k = k [.bool (y0b l)] [] := by
 rw [q9c]
 unfold q3t
 simp only [s5, y8]
 have key := q9Z (ε := Unit) (N := N) (F := q3u N (fun d1 m1 => (fun k2 : KD R => (bif decide (C.toInt (dk d1 1) ≤ 5000) then (k2 [C.bool (decide ((↑(List.length (C.elems (dk d1 0))) : Int) ≤ 200))] []) else (k2 [C.bool false] []))) (fun d2 m2 => k [C.bool (C.toBool (dk d2 0))] [])))
   (fun i (s : Int) => [.slice l, .slice l, .int (l.length : Int), .int s, .int (i : Int)]) (fun _ _ => []) l
   (fun _ s x => .inl ((x.get 1).elems.foldl z4q s)) (fun s => k [.bool (decide (s ≤ 5000) && decide ((l.length : Int) ≤ 200))] []) (fun _ => none) (s0 := 0)
   (fun i s x hx hi rec => by
    have h1 : (i : Int) < (l.length : Int) := by omega
    obtain ⟨p1, p2, p3⟩ := q3G (hw x (List.mem_of_getElem? hx))
    unfold q3u
    simp only [go_sem, y7, y8, x9, h1, q2b hx, decide_true, cond_true, Int.natCast_nonneg, and_self, if_true, Int.toNat_natCast]
    rw [p1, y8, z6t _ _ _ _ _ _ p2 hN]
    simp only [go_sem, y7, c9 (show i < 4611686018427387904 by omega)])
   (fun s rec => by
    unfold q3u
    simp only [go_sem, y7, y8, x9, Int.lt_irrefl, decide_false, cond_false]
    by_cases h : s ≤ 5000 <;> simp [h, x9] <;> rfl) (by omega)
 rw [q4F] at key
 exact key
theorem z9i {α : Type} (p : α → Bool) : ∀ (l : List α) (i : Nat), o7 (σ := Unit) (ε := Unit) (fun _ _ c => bif p c then .inl () else .inr ()) i () l = bif l.all p then .inl () else .inr ()
 | [], _ => rfl
 | c :: l, i => by
  simp only [o7, List.all_cons]
  cases p c with
  | true => simpa using z9i p l (i + 1)
  | false => rfl
def q5e (s : Int × Int) (p : C) : (Int × Int) ⊕ Unit :=
 bif (p.get 2).toBool then (if s.2 + (p.get 1).toInt < 18446744073709551616 then .inl (s.1, s.2 + (p.get 1).toInt) else .inr ())
 else (if s.1 + (p.get 1).toInt < 18446744073709551616 then .inl (s.1 + (p.get 1).toInt, s.2) else .inr ())
theorem z8B {p : C} (h : C.wf r9 p) : W64 (p.get 1).toInt := by
 have t := C.q0d (i := 1) (f := .int .u64) h rfl
 simp only [C.wf] at t
 have m1 : IntKind.u64.min = 0 := by decide
 have m2 : IntKind.u64.max = 18446744073709551615 := by decide
 exact ⟨by omega, by omega⟩
theorem q4k (a b : C) (ha : W64 a.toInt) (hb : W64 b.toInt) (k : KD R) : q0p N a b k = if a.toInt + b.toInt < 18446744073709551616 then k [.int (a.toInt + b.toInt), .int 0] [] else k [.int 0, .int 11] [] := by
 obtain ⟨a1, a2⟩ := ha
 obtain ⟨b1, b2⟩ := hb
 rw [z1r]
 unfold q4Q
 by_cases h : a.toInt + b.toInt < 18446744073709551616
 ·rw [if_pos h, show (a.toInt + b.toInt) / 18446744073709551616 = 0 from by omega, show (a.toInt + b.toInt) % 18446744073709551616 = a.toInt + b.toInt from by omega]
  rfl
 ·rw [if_neg h, show decide ((a.toInt + b.toInt) / 18446744073709551616 = 0) = false from by rw [decide_eq_false_iff_not]; omega]
  rfl
theorem y4E (a b : C) (ha : W64 a.toInt) (hb : W64 b.toInt) (k : KD R) : q2F N a b k = if a.toInt + b.toInt < 18446744073709551616 then k [.int (a.toInt + b.toInt), .int 0] [] else k [.int 0, .int 11] [] := by
 obtain ⟨a1, a2⟩ := ha
 obtain ⟨b1, b2⟩ := hb
 rw [z1j]
 unfold q4K
 rw [wrap_u64 (by omega) (by omega)]
 by_cases h : a.toInt + b.toInt < 18446744073709551616
 ·rw [if_pos h, show decide (18446744073709551615 - a.toInt < b.toInt) = false from by rw [decide_eq_false_iff_not]; omega, wrap_u64 (by omega) h]
  rfl
 ·rw [if_neg h, show decide (18446744073709551615 - a.toInt < b.toInt) = true from by rw [decide_eq_true_iff]; omega]
  rfl
def q82 (ps : List C) : (Int × Int) ⊕ Unit := o7 (fun _ s p => q5e s p) 0 (0, 0) ps
def q9z (s : Int × Int) : Prop := W64 s.1 ∧ W64 s.2
theorem y2J {s s' : Int × Int} {p : C} (h : q9z s) (hp : W64 (p.get 1).toInt) (e : q5e s p = .inl s') : q9z s' := by
 obtain ⟨⟨a1, a2⟩, b1, b2⟩ := h
 obtain ⟨c1, c2⟩ := hp
 unfold q5e at e
 cases hb : (p.get 2).toBool with
 | true =>
  rw [hb, cond_true] at e
  split at e
  ·cases e; exact ⟨⟨a1, a2⟩, by dsimp only; omega, by dsimp only; omega⟩
  ·cases e
 | false =>
  rw [hb, cond_false] at e
  split at e
  ·cases e; exact ⟨⟨by dsimp only; omega, by dsimp only; omega⟩, b1, b2⟩
  ·cases e
theorem y6j (x : C) (hx : C.wf y5 x) (hN : 4398046511105 < N) (k : KD R) : Y3 N x k = (match q82 (x.get 1).elems with | .inl s => k [.int 0, .int s.1, .int s.2] [] | .inr _ => k [.int 11, .int 0, .int 0] []) := by
 obtain ⟨p1, p2, p3⟩ := q3G hx
 rw [q3R]
 unfold q0r
 simp only [s5]
 generalize (x.get 1).elems = ps at p1 p2 p3 ⊢
 rw [p1]
 have key := q1F (N := N) (F := q0s N k (fun d1 m1 => k [C.int 0, dk d1 0, dk d1 1] [])) (fun i (s : Int × Int) => [.slice ps, .int (ps.length : Int), .int (i : Int), .int s.1, .int s.2]) (fun _ _ => []) ps
   (fun _ s p => q5e s p) (fun s => k [.int 0, .int s.1, .int s.2] []) (fun _ => k [.int 11, .int 0, .int 0] []) (fun i s => i ≤ ps.length ∧ q9z s) (s0 := (0, 0)) ⟨Nat.zero_le _, by unfold W64; decide, by unfold W64; decide⟩
   (fun i s p hp hi => ⟨fun rec => by
    have hi2 := (List.getElem?_eq_some_iff.1 hp).1
    have h1 : (i : Int) < (ps.length : Int) := by omega
    have hw := z8B (p3 p (List.mem_of_getElem? hp))
    obtain ⟨_, ⟨a1, a2⟩, b1, b2⟩ := hi
    unfold q0s q5e
    simp only [go_sem, y7, y8, x9, h1, q2b hp, decide_true, cond_true, Int.natCast_nonneg, and_self, if_true, Int.toNat_natCast, c9 (show i < 4611686018427387904 by omega)]
    rw [q4k _ _ (by simpa [y7] using ⟨b1, b2⟩) hw, q4k _ _ (by simpa [y7] using ⟨a1, a2⟩) hw]
    simp only [y7]
    cases hb : (p.get 2).toBool with
    | true =>
     simp only [cond_true]
     by_cases h : s.2 + (p.get 1).toInt < 18446744073709551616 <;> simp [h, y7, Z4, Y5]
    | false =>
     simp only [cond_false]
     by_cases h : s.1 + (p.get 1).toInt < 18446744073709551616 <;> simp [h, y7, Z4, Y5], fun s' e => ⟨(List.getElem?_eq_some_iff.1 hp).1, y2J hi.2 (z8B (p3 p (List.mem_of_getElem? hp))) e⟩⟩)
   (fun s hs rec => by
    unfold q0s
    simp only [go_sem, y7, y8, x9, Int.lt_irrefl, decide_false, cond_false]) (by omega)
 refine Eq.trans ?_ (key.trans ?_)
 ·rfl
 ·unfold q82
  cases o7 (fun _ s p => q5e s p) 0 (0, 0) ps <;> rfl
def q2v (p : C) : Bool := q0P (p.get 0).toStr && !decide ((p.get 1).toInt = 0)
def H3 (ps : List C) : Int :=
 if ps.length < 2 ∨ 8 < ps.length then 1
 else bif ps.all q2v then (match q82 ps with | .inl s => if s.1 = s.2 then 0 else 12 | .inr _ => 11) else 10
theorem z4g (x : C) (hx : C.wf y5 x) (hN : 4398046511105 < N) (k : KD R) : Q8 N x k = k [.int (H3 (x.get 1).elems)] [] := by
 obtain ⟨p1, p2, p3⟩ := q3G hx
 rw [q3T]
 unfold q0t H3
 simp only [s5]
 by_cases h2 : (x.get 1).elems.length < 2
 ·have h2' : ((x.get 1).elems.length : Int) < 2 := by omega
  simp [h2, h2', x9, Z4, Y5]
 ·have h2' : ¬ ((x.get 1).elems.length : Int) < 2 := by omega
  by_cases h8 : 8 < (x.get 1).elems.length
  ·have h8' : (8 : Int) < ((x.get 1).elems.length : Int) := by omega
   simp [h2, h2', h8, h8', x9, Z4, Y5]
  ·have h8' : ¬ (8 : Int) < ((x.get 1).elems.length : Int) := by omega
   rw [if_neg (by omega)]
   simp only [h2', h8', decide_false, cond_false, Z4, Y5, x9]
   have e1 : x.get 1 = .slice (x.get 1).elems := p1
   have es := y6j (R := R) x hx hN
   generalize hps : (x.get 1).elems = ps at *
   rw [e1]
   have key := q9Z (σ := Unit) (ε := Unit) (N := N) (F := q0u N k (fun d2 m2 => Y3 N (dk d2 0) (fun d3 m3 => (bif !decide (C.toInt (dk d3 0) = 0) then (k [dk d3 0] []) else (bif !decide (C.toInt (dk d3 1) = C.toInt (dk d3 2)) then (k [C.int 12] []) else (k [C.int 0] []))))))
    (fun i _ => [x, .slice ps, .int (ps.length : Int), .int (i : Int)]) (fun _ _ => []) ps (fun _ _ p => bif q2v p then .inl () else .inr ())
    (fun _ => k [.int (match q82 ps with | .inl s => if s.1 = s.2 then 0 else 12 | .inr _ => 11)] []) (fun _ => k [.int 10] []) (s0 := ())
    (fun i _ p hp hi rec => by
     have h1 : (i : Int) < (ps.length : Int) := by omega
     unfold q0u q2v
     simp only [go_sem, s5, y7, y8, x9, h1, q2b hp, decide_true, cond_true, Int.natCast_nonneg, and_self, if_true, Int.toNat_natCast, c9 (show i < 4611686018427387904 by omega)]
     cases q0P (p.get 0).toStr with
     | false => rfl
     | true =>
      by_cases h : (p.get 1).toInt = 0 <;> simp [h, x9, Z4, Y5, q3H, q5z, q7O])
    (fun _ rec => by
     unfold q0u
     simp only [go_sem, y7, y8, x9, Int.lt_irrefl, decide_false, cond_false, es]
     cases q82 ps with
     | inr _ => simp [y7, Z4]
     | inl s => by_cases h : s.1 = s.2 <;> simp [h, y7, Z4, Y5, q3H]) (by omega)
   rw [z9i q2v] at key
   refine key.trans ?_
   cases ps.all q2v <;> rfl
theorem y5R (l : List C) (hw : ∀ x ∈ l, C.wf y5 x) (hl : l.length * 32 ≤ 140737488355328) (hN : 4398046511105 < N) (k : KD R) : q1c N (.slice l) (.slice l) k = k [.bool true] [] := by
 rw [z0B]
 unfold q36
 simp only [s5, y8, decide_true, Bool.not_true, cond_false]
 refine q1K (fun i => [.slice l, .slice l, .int (i : Int)]) (fun _ => []) l.length (k [.bool true] []) ?_ ?_ (by omega)
 ·intro i hi rec
  have h1 : (i : Int) < (l.length : Int) := by omega
  obtain ⟨p1, p2, p3⟩ := q3G (hw _ (q7K hi))
  unfold q6s
  simp only [go_sem, s5, y7, y8, x9, h1, decide_true, cond_true, Int.natCast_nonneg, and_self, if_true, Int.toNat_natCast, Bool.not_true, cond_false]
  refine (q1K (fun j => [.slice l, .slice l, .int (i : Int), .int (j : Int)]) (fun _ => []) ((l.getD i .nil).get 1).elems.length (rec [.slice l, .slice l, .int ((i + 1 : Nat) : Int)] []) ?_ ?_ (by omega))
  ·intro j hj rec2
   have h2 : (j : Int) < (((l.getD i .nil).get 1).elems.length : Int) := by omega
   unfold q6t
   simp only [go_sem, s5, y7, y8, x9, h1, h2, decide_true, cond_true, Int.natCast_nonneg, and_self, if_true, Int.toNat_natCast, Bool.not_true, cond_false, c9 (show j < 4611686018427387904 by omega)]
  ·intro rec2
   unfold q6t
   simp only [go_sem, s5, y7, y8, x9, h1, Int.lt_irrefl, decide_false, decide_true, cond_true, Int.natCast_nonneg, and_self, if_true, Int.toNat_natCast, Bool.not_true, cond_false, c9 (show i < 4611686018427387904 by omega)]
 ·intro rec
  unfold q6s
  simp only [go_sem, y7, y8, x9, Int.lt_irrefl, decide_false, cond_false]
end Go.Proofs.YtefppgmopnnphaaDoor
namespace Go.Proofs.YtefppgmopnnphaaDoor
open Go Go.E
set_option maxRecDepth 100000
set_option maxHeartbeats 4000000
set_option linter.unusedVariables false
noncomputable def z2P : Hints := [([0, 0, 1, 1], ⟨[4], [(18, .d .bool)], [], [], [], []⟩),
  ([9], ⟨[], [(2, .d (.int .u64)), (3, .d (.int .i64))], [], [], [], []⟩)]
noncomputable def q6H (N : Nat) : OvS (X0 gl0) where
 g R := [(50, z1R N), (74, q4T N)]
 ok := fun R => List.forall_mem_cons.2 ⟨z6D N, List.forall_mem_cons.2 ⟨z3K N, fun _ h => nomatch h⟩⟩
noncomputable def q1Y {R : Type} (N : Nat) (a0 : C) (k1 : KD R) : Option R := (jn (fun d1 m1 => (bif C.toBool (dk d1 1) then (k1 [C.int 0, C.int 10] []) else (k1 [dk d1 0, C.int 0] []))) (fun k2 => (bif !C.isNil (q8C (C.toStr a0)) then (k2 [C.int (q28 (C.toStr a0)), C.bool true] []) else (k2 [C.int (q28 (C.toStr a0)), C.bool !H2 (Int.toNat (q28 (C.toStr a0))) == C.toStr a0] []))))
noncomputable def U8 {R : Type} (N : Nat) : C → KD R → Option R := lid "" (q1Y N)
theorem q6G {R : Type} (N : Nat) (a0 : C) (k : KD R) : U8 N a0 k = q1Y N a0 k := by unfold U8; rw [Q9]
theorem z1H {R : Type} (N : Nat) (a0 : C) (K : V → List (Key × O) → Option R) : exF (X0 gl0) ((q6H N).ov R) J9 noX (fun f => bif Nat.beq f 53 then z2P else []) N 400 8 53 [.d .str a0] A0 K =
  U8 N a0 (fun d1 m1 => K (V.tup [V.d (Ty.int IntKind.u64) (dk d1 0), V.d (Ty.int IntKind.i64) (dk d1 1)]) []) := by
 rw [q6G]
 exact (show _ = jn (fun d1 m1 => (K (V.tup [V.d (Ty.int IntKind.u64) (dk d1 0), V.d (Ty.int IntKind.i64) (dk d1 1)]) [])) (q1Y N a0) by kernel_rfl).trans (s5 _ _)
noncomputable def q4f (N : Nat) {R : Type} : OvG R := fun xs _ K => match xs with
 | [.d t0 a0] => if t0 = .str then U8 N a0 (fun d1 m1 => K (V.tup [V.d (Ty.int IntKind.u64) (dk d1 0), V.d (Ty.int IntKind.i64) (dk d1 1)]) []) else none
 | _ => none
theorem z2O (N : Nat) {R : Type} : GOk (X0 gl0) 53 (q4f N (R := R)) := by
 intro xs A Kr r hr
 unfold q4f at hr
 split at hr
 ·simp only [Option.ite_none_right_eq_some] at hr
  obtain ⟨hty, hr⟩ := hr
  subst hty
  rw [← z1H] at hr
  exact okA (q6H N) hr
 ·cases hr
end Go.Proofs.YtefppgmopnnphaaDoor
namespace Go.Proofs.YtefppgmopnnphaaDoor
open Go Go.E
set_option maxRecDepth 100000
set_option maxHeartbeats 4000000
set_option linter.unusedSimpArgs false
variable {R : Type} {N : Nat}
def q4e (s : List UInt8) : Option Nat := match Lib.parseUintB 64 s with
 | .ok u => if H2 u = s then some u else none
 | _ => none
theorem z6o {s : List UInt8} {u : Nat} (h : q4e s = some u) : u < 18446744073709551616 := by
 unfold q4e at h
 split at h
 ·rename_i v hv
  split at h
  ·cases h; have := Lib.parseUintB_le hv; omega
  ·cases h
 ·cases h
theorem z1o (s : List UInt8) (k : KD R) : U8 N (.str s) k = (match q4e s with | some u => k [.int (u : Int), .int 0] [] | none => k [.int 0, .int 10] []) := by
 rw [q6G]
 unfold q1Y
 simp only [s5, J7]
 unfold q8C q28 q4e
 cases h : Lib.parseUintB 64 s with
 | ok u =>
  simp only [go_sem, C.isNil, Bool.not_true, cond_false, y7, Int.toNat_natCast]
  by_cases hd : H2 u = s
  ·rw [if_pos hd, hd]; simp [x9]
  ·have : (H2 u == s) = false := by simpa using hd
   rw [if_neg hd, this]; simp [x9]
 | range => simp [C.isNil, go_sem, x9]
 | _ => simp [C.isNil, go_sem, x9]
end Go.Proofs.YtefppgmopnnphaaDoor
namespace Go.Proofs.YtefppgmopnnphaaDoor
open Go Go.E
set_option maxRecDepth 100000
set_option maxHeartbeats 4000000
set_option linter.unusedSimpArgs false
variable {R : Type} {N : Nat}
theorem q56 (b : UInt8) : ∀ s, ∃ x l, u9 b s = x :: l
 | [] => ⟨_, _, rfl⟩
 | c :: s => by
  obtain ⟨x, l, h⟩ := q56 b s
  unfold u9
  split
  ·exact ⟨_, _, rfl⟩
  ·rw [h]; exact ⟨_, _, rfl⟩
end Go.Proofs.YtefppgmopnnphaaDoor
namespace Go.Proofs.YtefppgmopnnphaaDoor
open Go Go.E
set_option maxRecDepth 100000
set_option maxHeartbeats 4000000
set_option linter.unusedVariables false
noncomputable def q7X : Hints := [([1, 0, 1, 1], ⟨[4], [], [], [], [], []⟩),
  ([4, 1, 0, 1, 1], ⟨[4, 11, 12], [(13, .d (.int .i64))], [], [], [], []⟩),
  ([1, 0, 1, 1, 1, 4, 0, 1, 1, 5, 4, 1, 0, 1, 1], ⟨[4, 11, 12, 13], [], [], [], [], []⟩),
  ([4, 1, 0, 1, 1, 1, 4, 0, 1, 1, 5, 4, 1, 0, 1, 1], ⟨[4, 11, 12, 13, 27, 28], [(29, .d (.int .i64))], [], [], [], []⟩),
  ([1, 0, 1, 1, 4, 0, 1, 1, 5, 4, 1, 0, 1, 1, 1, 4, 0, 1, 1, 5, 4, 1, 0, 1, 1], ⟨[4, 9, 11, 12, 13, 27, 28, 29], [(10, .d .str)], [], [], [], []⟩),
  ([9], ⟨[], [(2, .d .str), (3, .d (.int .i64))], [], [], [], []⟩)]
noncomputable def q3B (N : Nat) : OvS (X0 gl0) where
 g R := [(13, J3 N), (36, q11 N), (50, z1R N), (38, q5a N)]
 ok := fun R => List.forall_mem_cons.2 ⟨q1N N, List.forall_mem_cons.2 ⟨q6o N, List.forall_mem_cons.2 ⟨z6D N, List.forall_mem_cons.2 ⟨z0O N, fun _ h => nomatch h⟩⟩⟩⟩
noncomputable def U0 {R : Type} (N : Nat) (k4 : KD R) : KD R → List C → List Es → Option R := (fun k5 d3 m3 => (bif decide (C.toInt (dk d3 5) < C.toInt (dk d3 4)) then (if 0 ≤ C.toInt (dk d3 5) ∧ C.toInt (dk d3 5) < (↑(List.length (C.elems (dk d3 3))) : Int) then (jn (fun d4 m4 => (if 1 + List.length (C.toStr (C.get (dk d4 9) 0)) ≤ 140737488355328 then (if List.length ([UInt8.ofNat 32] ++ C.toStr (C.get (dk d4 9) 0)) + List.length (C.toStr (dk d4 6)) ≤ 140737488355328 then (if List.length ([UInt8.ofNat 32] ++ C.toStr (C.get (dk d4 9) 0) ++ C.toStr (dk d4 6)) + List.length (H2 (Int.toNat (C.toInt (C.get (dk d4 9) 1)))) ≤ 140737488355328 then (if true = true ∧ Int.toNat (C.toInt (dk d4 8)) = 90 ∧ List.length (C.toStr (dk d4 7) ++ ([UInt8.ofNat 32] ++ C.toStr (C.get (dk d4 9) 0) ++ C.toStr (dk d4 6) ++ H2 (Int.toNat (C.toInt (C.get (dk d4 9) 1))))) ≤ 140737488355328 then (k5 [dk d4 0, dk d4 1, dk d4 2, dk d4 3, dk d4 4, C.int (IntKind.wrap IntKind.i64 (C.toInt (dk d4 5) + 1)), C.str (C.toStr (dk d4 7) ++ ([UInt8.ofNat 32] ++ C.toStr (C.get (dk d4 9) 0) ++ C.toStr (dk d4 6) ++ H2 (Int.toNat (C.toInt (C.get (dk d4 9) 1))))), C.int 90] []) else none) else none) else none) else none)) (fun k6 => (bif C.toBool (C.get (List.getD (C.elems (dk d3 3)) (Int.toNat (C.toInt (dk d3 5))) C.nil) 2) then (k6 [dk d3 0, dk d3 1, dk d3 2, dk d3 3, dk d3 4, dk d3 5, C.str [UInt8.ofNat 32, UInt8.ofNat 45], C.str (C.toStr (dk d3 6)), C.int (↑(Int.toNat (C.toInt (dk d3 7))) : Int), List.getD (C.elems (dk d3 3)) (Int.toNat (C.toInt (dk d3 5))) C.nil] []) else (k6 [dk d3 0, dk d3 1, dk d3 2, dk d3 3, dk d3 4, dk d3 5, C.str [UInt8.ofNat 32, UInt8.ofNat 43], C.str (C.toStr (dk d3 6)), C.int (↑(Int.toNat (C.toInt (dk d3 7))) : Int), List.getD (C.elems (dk d3 3)) (Int.toNat (C.toInt (dk d3 5))) C.nil] [])))) else none) else (k4 [dk d3 0, dk d3 1, dk d3 2, C.str (C.toStr (dk d3 6)), C.int (↑(Int.toNat (C.toInt (dk d3 7))) : Int)] [])))
noncomputable def W9 {R : Type} (N : Nat) (k1 : KD R) (k2 : KD R) : KD R → List C → List Es → Option R := (fun k3 d1 m1 => (bif decide (C.toInt (dk d1 2) < C.toInt (dk d1 1)) then (if 0 ≤ C.toInt (dk d1 2) ∧ C.toInt (dk d1 2) < (↑(List.length (C.elems (dk d1 0))) : Int) then (Q8 N (List.getD (C.elems (dk d1 0)) (Int.toNat (C.toInt (dk d1 2))) C.nil) (fun d2 m2 => (bif !decide (C.toInt (dk d2 0) = 0) then (k1 [C.str [], dk d2 0] []) else (if true = true ∧ Int.toNat (C.toInt (dk d1 4)) = 90 ∧ List.length (C.toStr (dk d1 3) ++ H2 (Int.toNat (C.toInt (C.get (List.getD (C.elems (dk d1 0)) (Int.toNat (C.toInt (dk d1 2))) C.nil) 0)))) ≤ 140737488355328 then (jn (fun d3 m3 => (if true = true ∧ Int.toNat (C.toInt (dk d3 4)) = 90 ∧ List.length (C.toStr (dk d3 3) ++ [UInt8.ofNat 10]) ≤ 140737488355328 then (k3 [dk d3 0, dk d3 1, C.int (IntKind.wrap IntKind.i64 (C.toInt (dk d3 2) + 1)), C.str (C.toStr (dk d3 3) ++ [UInt8.ofNat 10]), C.int 90] []) else none)) (fun k4 => (c4 N (U0 N k4) [dk d1 0, dk d1 1, dk d1 2, C.get (List.getD (C.elems (dk d1 0)) (Int.toNat (C.toInt (dk d1 2))) C.nil) 1, C.int (↑(List.length (C.elems (C.get (List.getD (C.elems (dk d1 0)) (Int.toNat (C.toInt (dk d1 2))) C.nil) 1))) : Int), C.int 0, C.str (C.toStr (dk d1 3) ++ H2 (Int.toNat (C.toInt (C.get (List.getD (C.elems (dk d1 0)) (Int.toNat (C.toInt (dk d1 2))) C.nil) 0)))), C.int 90] []))) else none)))) else none) else (k2 [C.str (C.toStr (dk d1 3)), C.int (↑(Int.toNat (C.toInt (dk d1 4))) : Int)] [])))
noncomputable def q0a {R : Type} (N : Nat) (a0 : C) (k1 : KD R) : Option R := (jn (fun d1 m1 => (if true = true ∧ Int.toNat (C.toInt (dk d1 1)) = 90 then (k1 [C.str (C.toStr (dk d1 0)), C.int 0] []) else none)) (fun k2 => (c4 N (W9 N k1 k2) [a0, C.int (↑(List.length (C.elems a0)) : Int), C.int 0, C.str [], C.int 90] [])))
noncomputable def b8 {R : Type} (N : Nat) : C → KD R → Option R := lid "" (q0a N)
theorem q3A {R : Type} (N : Nat) (a0 : C) (k : KD R) : b8 N a0 k = q0a N a0 k := by unfold b8; rw [Q9]
theorem q7F {R : Type} (N : Nat) (a0 : C) (K : V → List (Key × O) → Option R) : exF (X0 gl0) ((q3B N).ov R) J9 (fun f r => bif Nat.beq f 19 then (bif Nat.beq r 15 then [(9, 6)] else []) else []) (fun f => bif Nat.beq f 19 then q7X else []) N 400 8 19 [.d (.slice 32 y5) a0] A0 K =
  b8 N a0 (fun d1 m1 => K (V.tup [V.d Ty.str (dk d1 0), V.d (Ty.int IntKind.i64) (dk d1 1)]) []) := by
 rw [q3A]
 exact (show _ = jn (fun d1 m1 => (K (V.tup [V.d Ty.str (dk d1 0), V.d (Ty.int IntKind.i64) (dk d1 1)]) [])) (q0a N a0) by kernel_rfl).trans (s5 _ _)
noncomputable def q1M (N : Nat) {R : Type} : OvG R := fun xs _ K => match xs with
 | [.d t0 a0] => if t0 = (.slice 32 y5) then b8 N a0 (fun d1 m1 => K (V.tup [V.d Ty.str (dk d1 0), V.d (Ty.int IntKind.i64) (dk d1 1)]) []) else none
 | _ => none
theorem q7W (N : Nat) {R : Type} : GOk (X0 gl0) 19 (q1M N (R := R)) := by
 intro xs A Kr r hr
 unfold q1M at hr
 split at hr
 ·simp only [Option.ite_none_right_eq_some] at hr
  obtain ⟨hty, hr⟩ := hr
  subst hty
  rw [← q7F] at hr
  exact okA (q3B N) hr
 ·cases hr
end Go.Proofs.YtefppgmopnnphaaDoor
namespace Go.Proofs.YtefppgmopnnphaaDoor
open Go Go.E
set_option maxRecDepth 100000
set_option maxHeartbeats 4000000
set_option linter.unusedSimpArgs false
variable {R : Type} {N : Nat}
theorem z00 {y : C} (t : C.wf (.int .u64) y) : ∃ n : Nat, y = .int (n : Int) ∧ n < 18446744073709551616 := by
 simp only [C.wf] at t
 have m1 : IntKind.u64.min = 0 := by decide
 have m2 : IntKind.u64.max = 18446744073709551615 := by decide
 refine ⟨y.toInt.toNat, ?_, by omega⟩
 have : ((y.toInt.toNat : Nat) : Int) = y.toInt := by omega
 rw [this]; exact t.1
theorem x0p {p : C} (h : C.wf r9 p) : p.get 2 = .bool (p.get 2).toBool := by
 have t := C.q0d (i := 2) (f := .bool) h rfl
 simp only [C.wf] at t
 exact t
theorem z2I (n : Nat) (h : n < 18446744073709551616) : (H2 n).length ≤ 20 := by rw [q9t n h]; exact z15 n h
def q6Q (p : C) : List UInt8 := [UInt8.ofNat 32] ++ (p.get 0).toStr ++ (bif (p.get 2).toBool then [UInt8.ofNat 32, UInt8.ofNat 45] else [UInt8.ofNat 32, UInt8.ofNat 43]) ++ H2 (p.get 1).toInt.toNat
def q7o (t : List UInt8) (ps : List C) : List UInt8 := ps.foldl (fun t p => t ++ q6Q p) t
def y38 (p : C) : Prop := C.wf r9 p ∧ (p.get 0).toStr.length ≤ 20
theorem z7k {p : C} (h : y38 p) : (q6Q p).length ≤ 43 := by
 have h1 := h.2
 obtain ⟨n, e, h2⟩ := z00 (C.q0d (i := 1) (f := .int .u64) h.1 rfl)
 have h3 := z2I n h2
 unfold q6Q
 rw [e]
 cases (p.get 2).toBool <;> simp only [cond_true, cond_false, y7, Int.toNat_natCast, List.length_append, List.length_cons, List.length_nil] <;> omega
theorem q9U : ∀ (ps : List C) (t : List UInt8), (∀ p ∈ ps, y38 p) → (q7o t ps).length ≤ t.length + 43 * ps.length
 | [], t, _ => Nat.le_refl _
 | p :: ps, t, h => by
  have h1 := z7k (h p (by simp))
  have h2 := q9U ps (t ++ q6Q p) (fun q hq => h q (by simp [hq]))
  unfold q7o at h2 ⊢
  simp only [List.foldl_cons, List.length_append, List.length_cons] at h2 ⊢
  omega
theorem q8y {ps : List C} (h : H3 ps = 0) : ps.length ≤ 8 ∧ ∀ p ∈ ps, (p.get 0).toStr.length ≤ 20 := by
 unfold H3 at h
 split at h
 ·cases h
 ·rename_i h1
  refine ⟨by omega, fun p hp => ?_⟩
  cases ha : ps.all q2v with
  | false => rw [ha] at h; cases h
  | true =>
   have := List.all_eq_true.1 ha p hp
   unfold q2v q0P at this
   simp only [Bool.and_eq_true, decide_eq_true_eq] at this
   exact this.1.1.2
theorem y6M (ps : List C) (a b c : C) (t : List UInt8) (hp : ∀ p ∈ ps, y38 p) (hl : ps.length ≤ 8) (ht : t.length ≤ 30000000) (hN : 4398046511105 < N) (k : KD R) :
  c4 N (U0 N k) [a, b, c, .slice ps, .int (ps.length : Int), .int 0, .str t, .int 90] [] = k [a, b, c, .str (q7o t ps), .int 90] [] := by
 have key := q1F (ε := Unit) (N := N) (F := U0 N k) (fun i (t : List UInt8) => [a, b, c, .slice ps, .int (ps.length : Int), .int (i : Int), .str t, .int 90]) (fun _ _ => []) ps
   (fun _ t p => .inl (t ++ q6Q p)) (fun t => k [a, b, c, .str t, .int 90] []) (fun _ => none) (fun i t => t.length ≤ 30000000 + 43 * i) (s0 := t) (by omega)
   (fun i t p hc ht => by
    have hi := (List.getElem?_eq_some_iff.1 hc).1
    have hK := hp p (List.mem_of_getElem? hc)
    have hT := z7k hK
    have h20 := hK.2
    refine ⟨fun rec => ?_, fun s' h => by cases h; simp only [List.length_append]; omega⟩
    have h1 : (i : Int) < (ps.length : Int) := by omega
    obtain ⟨n, e, h2⟩ := z00 (C.q0d (i := 1) (f := .int .u64) hK.1 rfl)
    have h3 := z2I n h2
    have h90 : (90 : Int).toNat = 90 := rfl
    unfold U0
    simp only [go_sem, y7, y8, J7, x9, h1, q2b hc, decide_true, cond_true, Int.natCast_nonneg, and_self, if_true, Int.toNat_natCast, c9 (show i < 4611686018427387904 by omega), h90]
    unfold q6Q at hT ⊢
    rw [e] at hT ⊢
    cases hb : (p.get 2).toBool with
    | true =>
     rw [hb] at hT
     simp only [cond_true, cond_false, y7, J7, Int.toNat_natCast, List.length_append, List.length_cons, List.length_nil] at hT ⊢
     rw [if_pos (by omega), if_pos (by omega), if_pos (by omega), if_pos (by omega)]
     rfl
    | false =>
     rw [hb] at hT
     simp only [cond_true, cond_false, y7, J7, Int.toNat_natCast, List.length_append, List.length_cons, List.length_nil] at hT ⊢
     rw [if_pos (by omega), if_pos (by omega), if_pos (by omega), if_pos (by omega)]
     rfl)
   (fun t ht rec => by
    unfold U0
    have h90 : (90 : Int).toNat = 90 := rfl
    simp only [go_sem, y7, y8, J7, x9, Int.lt_irrefl, decide_false, cond_false, h90]) (by omega)
 rw [q4F] at key
 exact key
def z6I (t : List UInt8) (x : C) : List UInt8 := q7o (t ++ H2 (x.get 0).toInt.toNat) (x.get 1).elems ++ [UInt8.ofNat 10]
def z3t (t : List UInt8) (x : C) : List UInt8 ⊕ Int := if H3 (x.get 1).elems = 0 then .inl (z6I t x) else .inr (H3 (x.get 1).elems)
def z5X (l : List C) : List UInt8 ⊕ Int := o7 (fun _ t x => z3t t x) 0 [] l
theorem y55 {t t' : List UInt8} {x : C} (hx : C.wf y5 x) (h : z3t t x = .inl t') : t'.length ≤ t.length + 400 := by
 unfold z3t at h
 split at h
 ·rename_i h0
  cases h
  obtain ⟨r1, r2⟩ := q8y h0
  obtain ⟨p1, p2, p3⟩ := q3G hx
  obtain ⟨n, e, h2⟩ := z00 (C.q0d (i := 0) (f := .int .u64) hx rfl)
  have h3 := z2I n h2
  have h4 := q9U (x.get 1).elems (t ++ H2 (x.get 0).toInt.toNat) (fun p hp => ⟨p3 p hp, r2 p hp⟩)
  unfold z6I
  rw [e] at h4 ⊢
  simp only [List.length_append, List.length_cons, List.length_nil, y7, Int.toNat_natCast] at h4 ⊢
  omega
 ·cases h
theorem y0l (l : List C) (hw : ∀ x ∈ l, C.wf y5 x) (hl : l.length ≤ 70000) (hN : 140737488355329 < N) (k : KD R) :
  b8 N (.slice l) k = (match z5X l with | .inl t => k [.str t, .int 0] [] | .inr e => k [.str [], .int e] []) := by
 rw [q3A]
 unfold q0a
 simp only [s5, y8]
 generalize hk2 : (fun d1 m1 => _ : KD R) = k2
 have h90 : (90 : Int).toNat = 90 := rfl
 have key := q1F (ε := Int) (N := N) (F := W9 N k k2) (fun i (t : List UInt8) => [.slice l, .int (l.length : Int), .int (i : Int), .str t, .int 90]) (fun _ _ => []) l
   (fun _ t x => z3t t x) (fun t => k2 [.str t, .int 90] []) (fun e => k [.str [], .int e] []) (fun i t => t.length ≤ 400 * i) (s0 := []) (Nat.le_refl _)
   (fun i t x hc ht => by
    have hi := (List.getElem?_eq_some_iff.1 hc).1
    have hx := hw x (List.mem_of_getElem? hc)
    refine ⟨fun rec => ?_, fun s' h => by have := y55 hx h; omega⟩
    have h1 : (i : Int) < (l.length : Int) := by omega
    obtain ⟨p1, p2, p3⟩ := q3G hx
    unfold W9
    simp only [go_sem, y7, y8, J7, x9, h1, q2b hc, decide_true, cond_true, Int.natCast_nonneg, and_self, if_true, Int.toNat_natCast, c9 (show i < 4611686018427387904 by omega), h90]
    rw [z4g x hx (by omega)]
    simp only [go_sem, y7]
    unfold z3t
    by_cases h0 : H3 (x.get 1).elems = 0
    ·obtain ⟨r1, r2⟩ := q8y h0
     obtain ⟨n, e, h2⟩ := z00 (C.q0d (i := 0) (f := .int .u64) hx rfl)
     have h3 := z2I n h2
     have h4 := q9U (x.get 1).elems (t ++ H2 (x.get 0).toInt.toNat) (fun p hp => ⟨p3 p hp, r2 p hp⟩)
     unfold z6I
     rw [if_pos h0, h0]
     rw [e] at h4 ⊢
     simp only [List.length_append, y7, Int.toNat_natCast] at h4
     simp only [decide_true, Bool.not_true, cond_false, y7, Int.toNat_natCast, List.length_append]
     rw [if_pos (by omega), p1, y8, y6M _ _ _ _ _ (fun p hp => ⟨p3 p hp, r2 p hp⟩) r1 (by simp only [List.length_append]; omega) (by omega)]
     simp only [go_sem, y7, y8, J7, h90, c9 (show i < 4611686018427387904 by omega), List.length_append, List.length_cons, List.length_nil]
     rw [if_pos (by omega)]
    ·rw [if_neg h0]
     simp only [h0, decide_false, Bool.not_false, cond_true])
   (fun t ht rec => by
    unfold W9
    simp only [go_sem, y7, y8, J7, x9, Int.lt_irrefl, decide_false, cond_false, h90]) (by omega)
 have key : c4 N (W9 N k k2) [.slice l, .int (l.length : Int), .int 0, .str [], .int 90] [] = _ := key
 rw [key]
 show z6J _ _ (z5X l) = _
 cases z5X l with
 | inl t =>
  subst hk2
  simp only [z6J, go_sem, y7, J7, h90, and_self, if_true]
 | inr e => rfl
end Go.Proofs.YtefppgmopnnphaaDoor
namespace Go.Proofs.YtefppgmopnnphaaDoor
open Go Go.E
set_option maxRecDepth 100000
set_option maxHeartbeats 4000000
set_option linter.unusedVariables false
noncomputable def q3Y : Hints := [([0, 1], ⟨[], [(4, .d .bool)], [], [], [], []⟩),
  ([9], ⟨[], [(4, .d .bool)], [], [], [], []⟩)]
noncomputable def q06 (N : Nat) : OvS (X0 gl0) where
 g R := []
 ok := fun R => fun _ h => nomatch h
noncomputable def Y7 {R : Type} (N : Nat) (a0 a1 : C) (k1 : KD R) : Option R := (jn (fun d1 m1 => (k1 [C.bool (C.toBool (dk d1 0))] [])) (fun k2 => (bif decide ((↑(List.length (C.toStr a1)) : Int) ≤ (↑(List.length (C.toStr a0)) : Int)) then (if Int.ofNat 0 ≤ 0 ∧ 0 ≤ (↑(List.length (C.toStr a1)) : Int) ∧ (↑(List.length (C.toStr a1)) : Int) ≤ (↑(List.length (C.toStr a0)) : Int) then (k2 [C.bool (List.drop 0 (List.take (Int.toNat (↑(List.length (C.toStr a1)) : Int)) (C.toStr a0)) == C.toStr a1)] []) else none) else (k2 [C.bool false] []))))
noncomputable def Q4 {R : Type} (N : Nat) : C → C → KD R → Option R := lid "" (Y7 N)
theorem q05 {R : Type} (N : Nat) (a0 a1 : C) (k : KD R) : Q4 N a0 a1 k = Y7 N a0 a1 k := by unfold Q4; rw [Q9]
theorem q3E {R : Type} (N : Nat) (a0 a1 : C) (K : V → List (Key × O) → Option R) : exF (X0 gl0) ((q06 N).ov R) J9 noX (fun f => bif Nat.beq f 75 then q3Y else []) N 400 8 75 [.d .str a0, .d .str a1] A0 K =
  Q4 N a0 a1 (fun d1 m1 => K (V.d Ty.bool (C.bool (C.toBool (dk d1 0)))) []) := by
 rw [q05]
 exact (show _ = jn (fun d1 m1 => (K (V.d Ty.bool (C.bool (C.toBool (dk d1 0)))) [])) (Y7 N a0 a1) by kernel_rfl).trans (s5 _ _)
noncomputable def J0 (N : Nat) {R : Type} : OvG R := fun xs _ K => match xs with
 | [.d t0 a0, .d t1 a1] => if t0 = .str ∧ t1 = .str then Q4 N a0 a1 (fun d1 m1 => K (V.d Ty.bool (C.bool (C.toBool (dk d1 0)))) []) else none
 | _ => none
theorem q3X (N : Nat) {R : Type} : GOk (X0 gl0) 75 (J0 N (R := R)) := by
 intro xs A Kr r hr
 unfold J0 at hr
 split at hr
 ·simp only [Option.ite_none_right_eq_some] at hr
  obtain ⟨hty, hr⟩ := hr
  obtain ⟨rfl, rfl⟩ := hty
  rw [← q3E] at hr
  exact okA (q06 N) hr
 ·cases hr
noncomputable def q9F : Hints := [([9], ⟨[], [(4, .d .bool)], [], [], [], []⟩)]
noncomputable def q4y (N : Nat) : OvS (X0 gl0) where
 g R := [(75, J0 N)]
 ok := fun R => List.forall_mem_cons.2 ⟨q3X N, fun _ h => nomatch h⟩
noncomputable def q0T {R : Type} (N : Nat) (a0 a1 : C) (k1 : KD R) : Option R := (Q4 N a0 a1 (fun d1 m1 => (k1 [C.bool (C.toBool (dk d1 0))] [])))
noncomputable def X4 {R : Type} (N : Nat) : C → C → KD R → Option R := lid "" (q0T N)
theorem q4x {R : Type} (N : Nat) (a0 a1 : C) (k : KD R) : X4 N a0 a1 k = q0T N a0 a1 k := by unfold X4; rw [Q9]
theorem q8Y {R : Type} (N : Nat) (a0 a1 : C) (K : V → List (Key × O) → Option R) : exF (X0 gl0) ((q4y N).ov R) J9 noX (fun f => bif Nat.beq f 54 then q9F else []) N 400 8 54 [.d .str a0, .d .str a1] A0 K =
  X4 N a0 a1 (fun d1 m1 => K (V.d Ty.bool (C.bool (C.toBool (dk d1 0)))) []) := by
 rw [q4x]
 exact (show _ = jn (fun d1 m1 => (K (V.d Ty.bool (C.bool (C.toBool (dk d1 0)))) [])) (q0T N a0 a1) by kernel_rfl).trans (s5 _ _)
noncomputable def q2P (N : Nat) {R : Type} : OvG R := fun xs _ K => match xs with
 | [.d t0 a0, .d t1 a1] => if t0 = .str ∧ t1 = .str then X4 N a0 a1 (fun d1 m1 => K (V.d Ty.bool (C.bool (C.toBool (dk d1 0)))) []) else none
 | _ => none
theorem q9E (N : Nat) {R : Type} : GOk (X0 gl0) 54 (q2P N (R := R)) := by
 intro xs A Kr r hr
 unfold q2P at hr
 split at hr
 ·simp only [Option.ite_none_right_eq_some] at hr
  obtain ⟨hty, hr⟩ := hr
  obtain ⟨rfl, rfl⟩ := hty
  rw [← q8Y] at hr
  exact okA (q4y N) hr
 ·cases hr
noncomputable def z3R : Hints := [([1, 0, 1, 1, 1, 1, 1, 1], ⟨[2, 7], [], [], [(.l 7, .box (.agg y5 [.d (.int .u64), (.ts 32 r9)]))], [], []⟩),
  ([4, 1, 0, 1, 1, 1, 1, 1, 1], ⟨[2, 4, 7], [(8, .d (.int .i64))], [], [(.l 7, .box (.agg y5 [.d (.int .u64), (.ts 32 r9)]))], [], []⟩),
  ([1, 4, 0, 1, 4, 0, 1, 5, 4, 1, 0, 1, 1, 1, 1, 1, 1], ⟨[2, 4, 7, 8, 9], [], [], [(.l 7, .box (.agg y5 [.d (.int .u64), (.ts 32 r9)]))], [], []⟩),
  ([9], ⟨[], [(2, .as (.ptr (.l 2) [] y5)), (3, .d (.int .i64))], [], [(.l 2, .box (.d y5))], [], []⟩)]
noncomputable def q7C (N : Nat) : OvS (X0 gl0) where
 g R := [(13, J3 N), (41, q5S N), (53, q4f N), (54, q2P N)]
 ok := fun R => List.forall_mem_cons.2 ⟨q1N N, List.forall_mem_cons.2 ⟨z1F N, List.forall_mem_cons.2 ⟨z2O N, List.forall_mem_cons.2 ⟨q9E N, fun _ h => nomatch h⟩⟩⟩⟩
noncomputable def q0h {R : Type} (N : Nat) (k1 : KD R) (k2 : KD R) : KD R → List C → List Es → Option R := (fun k3 d2 m2 => (bif decide (C.toInt (dk d2 1) < (↑(List.length (C.elems (dk d2 0))) : Int)) then (if 0 ≤ C.toInt (dk d2 1) ∧ C.toInt (dk d2 1) < (↑(List.length (C.elems (dk d2 0))) : Int) then (if 0 ≤ IntKind.wrap IntKind.i64 (C.toInt (dk d2 1) + 1) ∧ IntKind.wrap IntKind.i64 (C.toInt (dk d2 1) + 1) < (↑(List.length (C.elems (dk d2 0))) : Int) then (X4 N (List.getD (C.elems (dk d2 0)) (Int.toNat (IntKind.wrap IntKind.i64 (C.toInt (dk d2 1) + 1))) C.nil) (C.str [UInt8.ofNat 43]) (fun d3 m3 => (jn (fun d4 m4 => (if 0 ≤ IntKind.wrap IntKind.i64 (C.toInt (dk d4 1) + 1) ∧ IntKind.wrap IntKind.i64 (C.toInt (dk d4 1) + 1) < (↑(List.length (C.elems (dk d4 0))) : Int) then (if Int.ofNat 0 ≤ 1 ∧ 1 ≤ (↑(List.length (C.toStr (List.getD (C.elems (dk d4 0)) (Int.toNat (IntKind.wrap IntKind.i64 (C.toInt (dk d4 1) + 1))) C.nil))) : Int) ∧ (↑(List.length (C.toStr (List.getD (C.elems (dk d4 0)) (Int.toNat (IntKind.wrap IntKind.i64 (C.toInt (dk d4 1) + 1))) C.nil))) : Int) ≤ (↑(List.length (C.toStr (List.getD (C.elems (dk d4 0)) (Int.toNat (IntKind.wrap IntKind.i64 (C.toInt (dk d4 1) + 1))) C.nil))) : Int) then (U8 N (C.str (List.drop 1 (List.take (Int.toNat (↑(List.length (C.toStr (List.getD (C.elems (dk d4 0)) (Int.toNat (IntKind.wrap IntKind.i64 (C.toInt (dk d4 1) + 1))) C.nil))) : Int)) (C.toStr (List.getD (C.elems (dk d4 0)) (Int.toNat (IntKind.wrap IntKind.i64 (C.toInt (dk d4 1) + 1))) C.nil))))) (fun d5 m5 => (bif !decide (C.toInt (dk d5 1) = 0) then (k1 [dk d5 1, C.agg [Q1 (Ty.int IntKind.u64), C.slice []]] []) else (bif Nat.beq (List.length (C.elems (dk d4 3))) (List.length (C.elems (dk d4 3))) then (if (List.length (C.elems (dk d4 3)) + 1) * 32 ≤ 140737488355328 ∧ List.length (C.elems (dk d4 3)) + 1 ≤ 9223372036854775807 then (bif Nat.beq (List.length (C.elems (dk d4 3)) + 1) (List.length (C.elems (dk d4 3) ++ [C.set (dk d4 5) 1 (dk d5 0)])) then (k3 [dk d4 0, C.int (IntKind.wrap IntKind.i64 (C.toInt (dk d4 1) + 2)), dk d4 2, C.slice (C.elems (dk d4 3) ++ [C.set (dk d4 5) 1 (dk d5 0)]), dk d4 4] []) else none) else none) else none)))) else none) else none)) (fun k4 => (bif C.toBool (dk d3 0) then (k4 [dk d2 0, dk d2 1, dk d2 2, C.slice (C.elems (dk d2 3)), dk d2 4, C.set (C.agg [C.str [], C.int 0, C.bool false]) 0 (List.getD (C.elems (dk d2 0)) (Int.toNat (C.toInt (dk d2 1))) C.nil)] []) else (if 0 ≤ IntKind.wrap IntKind.i64 (C.toInt (dk d2 1) + 1) ∧ IntKind.wrap IntKind.i64 (C.toInt (dk d2 1) + 1) < (↑(List.length (C.elems (dk d2 0))) : Int) then (X4 N (List.getD (C.elems (dk d2 0)) (Int.toNat (IntKind.wrap IntKind.i64 (C.toInt (dk d2 1) + 1))) C.nil) (C.str [UInt8.ofNat 45]) (fun d4 m4 => (bif C.toBool (dk d4 0) then (k4 [dk d2 0, dk d2 1, dk d2 2, C.slice (C.elems (dk d2 3)), dk d2 4, C.set (C.set (C.agg [C.str [], C.int 0, C.bool false]) 0 (List.getD (C.elems (dk d2 0)) (Int.toNat (C.toInt (dk d2 1))) C.nil)) 2 (C.bool true)] []) else (k1 [C.int 10, C.agg [Q1 (Ty.int IntKind.u64), C.slice []]] [])))) else none)))))) else none) else none) else (k2 [dk d2 2, C.slice (C.elems (dk d2 3)), dk d2 4] [])))
noncomputable def q2n {R : Type} (N : Nat) (a0 : C) (k1 : KD R) : Option R := (if 1 = 1 ∧ List.length (C.toStr a0) < 4294967281 then (bif decide (Int.tmod (↑(List.length (List.map C.str (u9 (UInt8.ofNat 32) (C.toStr a0)))) : Int) 2 = 0) then (k1 [C.int 9, C.agg [Q1 (Ty.int IntKind.u64), C.slice []]] []) else (if Int.ofNat 0 ≤ 0 ∧ 0 < (↑(List.length (List.map C.str (u9 (UInt8.ofNat 32) (C.toStr a0)))) : Int) then (U8 N (List.getD (List.map C.str (u9 (UInt8.ofNat 32) (C.toStr a0))) (Int.toNat 0) C.nil) (fun d1 m1 => (bif !decide (C.toInt (dk d1 1) = 0) then (k1 [dk d1 1, C.agg [Q1 (Ty.int IntKind.u64), C.slice []]] []) else (jn (fun d2 m2 => (Q8 N (C.agg [dk d2 0, C.slice (C.elems (dk d2 1))]) (fun d3 m3 => (k1 [dk d3 0, C.agg [dk d2 0, C.slice (C.elems (dk d2 1))]] [])))) (fun k2 => (c4 N (q0h N k1 k2) [C.slice (List.map C.str (u9 (UInt8.ofNat 32) (C.toStr a0))), C.int 1, dk d1 0, C.slice [], C.agg [Q1 (Ty.int IntKind.u64), C.slice []]] [])))))) else none)) else none)
noncomputable def q0C {R : Type} (N : Nat) : C → KD R → Option R := lid "" (q2n N)
theorem q7B {R : Type} (N : Nat) (a0 : C) (k : KD R) : q0C N a0 k = q2n N a0 k := by unfold q0C; rw [Q9]
theorem z2Q {R : Type} (N : Nat) (a0 : C) (K : V → List (Key × O) → Option R) : exF (X0 gl0) ((q7C N).ov R) J9 (fun f r => bif Nat.beq f 42 then (bif Nat.beq r 20 then [(80, 7), (7, 6)] else bif Nat.beq r 16 then [(64, 8)] else []) else []) (fun f => bif Nat.beq f 42 then z3R else []) N 400 8 42 [.d .str a0] A0 K =
  q0C N a0 (fun d1 m1 => K (V.tup [V.d y5 (dk d1 1), V.d (Ty.int IntKind.i64) (dk d1 0)]) []) := by
 rw [q7B]
 exact (show _ = jn (fun d1 m1 => (K (V.tup [V.d y5 (dk d1 1), V.d (Ty.int IntKind.i64) (dk d1 0)]) [])) (q2n N a0) by kernel_rfl).trans (s5 _ _)
noncomputable def q4Y (N : Nat) {R : Type} : OvG R := fun xs _ K => match xs with
 | [.d t0 a0] => if t0 = .str then q0C N a0 (fun d1 m1 => K (V.tup [V.d y5 (dk d1 1), V.d (Ty.int IntKind.i64) (dk d1 0)]) []) else none
 | _ => none
theorem z3Q (N : Nat) {R : Type} : GOk (X0 gl0) 42 (q4Y N (R := R)) := by
 intro xs A Kr r hr
 unfold q4Y at hr
 split at hr
 ·simp only [Option.ite_none_right_eq_some] at hr
  obtain ⟨hty, hr⟩ := hr
  subst hty
  rw [← z2Q] at hr
  exact okA (q7C N) hr
 ·cases hr
end Go.Proofs.YtefppgmopnnphaaDoor
namespace Go.Proofs.YtefppgmopnnphaaDoor
open Go Go.E
set_option maxRecDepth 100000
set_option maxHeartbeats 4000000
set_option linter.unusedSimpArgs false
variable {R : Type} {N : Nat}
theorem q7V (v : List UInt8) (c : UInt8) (k : KD R) : X4 N (.str v) (.str [c]) k = k [.bool (match v with | [] => false | x :: _ => decide (x = c))] [] := by
 rw [q4x]
 unfold q0T
 rw [q05]
 unfold Y7
 simp only [s5, J7]
 cases v with
 | nil => simp [go_sem, x9]
 | cons x v =>
  have h1 : ((0 + 1 : Nat) : Int) ≤ ((v.length + 1 : Nat) : Int) := by omega
  have h2 : (List.drop 0 (List.take 1 (x :: v)) == [c]) = decide (x = c) := by
   by_cases e : x = c
   ·simp [e]
   ·simp [e]
  simp only [List.length_cons, List.length_nil, h1, decide_true, cond_true, go_sem, x9, Int.toNat_natCast]
  refine Eq.trans (if_pos ?_) ?_
  ·first | omega | (simp; done) | (simp; omega)
  ·rw [← h2]
def q3o (a v : List UInt8) : Option C := match v with
 | [] => none
 | c :: r => if c = UInt8.ofNat 43 ∨ c = UInt8.ofNat 45 then (match q4e r with
  | some u => some (.agg [.str a, .int (u : Int), .bool (decide (c = UInt8.ofNat 45))])
  | none => none) else none
def psF (ws : List (List UInt8)) (j : Nat) (ps : List C) : List C ⊕ Unit := match q3o (ws.getD (1 + 2 * j) []) (ws.getD (1 + 2 * j + 1) []) with
 | some p => .inl (ps ++ [p])
 | none => .inr ()
def psR (ws : List (List UInt8)) : List C ⊕ Unit := o7 (fun j ps (_ : Nat) => psF ws j ps) 0 [] (List.range ((ws.length - 1) / 2))
theorem y6t {a v : List UInt8} {p : C} (ha : a.length ≤ 140737488355328) (h : q3o a v = some p) : C.wf r9 p := by
 unfold q3o at h
 split at h
 ·cases h
 ·split at h
  ·split at h
   ·rename_i u hu
    cases h
    have := z6o hu
    have m1 : IntKind.u64.min = 0 := by decide
    have m2 : IntKind.u64.max = 18446744073709551615 := by decide
    unfold r9
    simp only [C.wf, C.wfs]
    exact ⟨rfl, _, _, rfl, ⟨rfl, ha⟩, _, _, rfl, ⟨rfl, by simp only [y7]; omega, by simp only [y7]; omega⟩, _, _, rfl, rfl, rfl⟩
   ·cases h
  ·cases h
theorem z0e {ws : List (List UInt8)} {i : Nat} (h : i < ws.length) : (ws.map C.str).getD i .nil = .str (ws.getD i []) := by
 rw [List.getD_eq_getElem?_getD, List.getElem?_map, List.getElem?_eq_getElem h, List.getD_eq_getElem?_getD, List.getElem?_eq_getElem h]; rfl
theorem y6S {ws : List (List UInt8)} {i n : Nat} (h : ∀ w ∈ ws, w.length ≤ n) : (ws.getD i []).length ≤ n := by
 rw [List.getD_eq_getElem?_getD]
 cases hi : ws[i]? with
 | none => exact Nat.zero_le _
 | some w => exact h w (List.mem_of_getElem? hi)
def PsW (n : Nat) (ps : List C) : Prop := ps.length ≤ n ∧ ∀ p ∈ ps, C.wf r9 p
theorem y4J {ws : List (List UInt8)} {j : Nat} {ps ps' : List C} (hw : ∀ w ∈ ws, w.length ≤ 65536) (hp : PsW j ps) (h : psF ws j ps = .inl ps') : PsW (j + 1) ps' := by
 unfold psF at h
 split at h
 ·rename_i p hs
  cases h
  have := y6t (Nat.le_trans (y6S hw) (by decide)) hs
  refine ⟨by simp only [List.length_append, List.length_cons, List.length_nil]; have := hp.1; omega, fun q hq => ?_⟩
  rcases List.mem_append.1 hq with h | h
  ·exact hp.2 q h
  ·rw [List.mem_singleton.1 h]; exact this
 ·cases h
theorem y4I (ws : List (List UInt8)) (hw : ∀ w ∈ ws, w.length ≤ 65536) : ∀ (l : List Nat) (j : Nat) (ps ps' : List C), PsW j ps → o7 (fun j ps (_ : Nat) => psF ws j ps) j ps l = .inl ps' → PsW (j + l.length) ps'
 | [], j, ps, ps', hp, h => by simp only [o7] at h; cases h; exact hp
 | _ :: l, j, ps, ps', hp, h => by
  simp only [o7] at h
  split at h
  ·rename_i q hq
   have := y4I ws hw l (j + 1) q ps' (y4J hw hp hq) h
   simp only [List.length_cons]
   rw [show j + (l.length + 1) = j + 1 + l.length by omega]; exact this
  ·cases h
theorem y94 {n : Nat} (h : n < 4611686018427387904) : IntKind.i64.wrap ((n : Int) + 2) = ((n + 2 : Nat) : Int) := by rw [IntWalk.i64_in _ (by omega)]; omega
theorem y47 (ws : List (List UInt8)) (h e0 : C) (m : Nat) (hm : ws.length = 2 * m + 1) (hl : m ≤ 65536) (hw : ∀ w ∈ ws, w.length ≤ 65536) (hN : 140737488355329 < N) (k1 k2 : KD R) :
  c4 N (q0h N k1 k2) [.slice (ws.map C.str), .int 1, h, .slice [], e0] [] = (match psR ws with | .inl ps => k2 [h, .slice ps, e0] [] | .inr _ => k1 [.int 10, .agg [Q1 (.int .u64), .slice []]] []) := by
 have key := q1F (ε := Unit) (N := N) (F := q0h N k1 k2) (fun j (ps : List C) => [.slice (ws.map C.str), .int ((1 + 2 * j : Nat) : Int), h, .slice ps, e0]) (fun _ _ => []) (List.range m)
   (fun j ps _ => psF ws j ps) (fun ps => k2 [h, .slice ps, e0] []) (fun _ => k1 [.int 10, .agg [Q1 (.int .u64), .slice []]] []) PsW (s0 := []) ⟨Nat.le_refl _, fun p hp => by cases hp⟩
   (fun j ps c hc hp => by
    have hj : j < m := by have := (List.getElem?_eq_some_iff.1 hc).1; simpa using this
    refine ⟨fun rec => ?_, fun ps' h => y4J hw hp h⟩
    have hpl := hp.1
    have h1 : ((1 + 2 * j : Nat) : Int) < ((2 * m + 1 : Nat) : Int) := by omega
    have h2 : ((1 + 2 * j + 1 : Nat) : Int) < ((2 * m + 1 : Nat) : Int) := by omega
    have g1 : (ws.map C.str).getD (1 + 2 * j) .nil = .str (ws.getD (1 + 2 * j) []) := z0e (by omega)
    have g2 : (ws.map C.str).getD (1 + 2 * j + 1) .nil = .str (ws.getD (1 + 2 * j + 1) []) := z0e (by omega)
    unfold q0h
    simp only [s5, go_sem, y7, y8, J7, x9, List.length_map, hm, h1, h2, decide_true, cond_true, Int.natCast_nonneg, and_self, if_true, Int.toNat_natCast, c9 (show 1 + 2 * j < 4611686018427387904 by omega), y94 (show 1 + 2 * j < 4611686018427387904 by omega), g1, g2]
    unfold psF
    generalize ws.getD (1 + 2 * j) [] = a
    generalize ws.getD (1 + 2 * j + 1) [] = v
    rw [q7V]
    cases v with
    | nil =>
     simp only [go_sem, x9, cond_false]
     rw [q7V]
     rfl
    | cons x v =>
     have hv : (1 : Int) ≤ ((v.length + 1 : Nat) : Int) := by omega
     have hd : List.drop 1 (List.take (v.length + 1) (x :: v)) = v := by rw [show v.length + 1 = (x :: v).length from rfl, List.take_length]; rfl
     have h01 : (0 : Int) ≤ 1 := by decide
     have hg1 : (ps.length + 1) * 32 ≤ 140737488355328 ∧ ps.length + 1 ≤ 9223372036854775807 := by omega
     have hb : ∀ (p : C), (ps.length + 1).beq (ps ++ [p]).length = true := fun p => by simp
     have e2 : 1 + 2 * (j + 1) = 1 + 2 * j + 2 := by omega
     unfold q3o
     by_cases e : x = UInt8.ofNat 43
     ·subst e
      simp only [go_sem, x9, J7, y7, y8, decide_true, cond_true, List.length_cons, hv, h01, Int.le_refl, and_self, Int.toNat_natCast, if_true, hd, true_or, eq_self]
      rw [z1o]
      cases q4e v with
      | none => rfl
      | some u =>
       simp only [go_sem, y7, y8, decide_true, Bool.not_true, cond_false, Nat.beq_refl, cond_true]
       refine (if_pos hg1).trans ?_
       simp only [hb, cond_true, e2]
       rfl
     ·simp only [go_sem, x9, e, decide_false, cond_false, false_or]
      rw [q7V]
      by_cases e' : x = UInt8.ofNat 45
      ·subst e'
       simp only [go_sem, x9, J7, y7, y8, decide_true, cond_true, List.length_cons, hv, h01, Int.le_refl, and_self, Int.toNat_natCast, if_true, hd, or_true, eq_self]
       rw [z1o]
       cases q4e v with
       | none => rfl
       | some u =>
        simp only [go_sem, y7, y8, decide_true, Bool.not_true, cond_false, Nat.beq_refl, cond_true]
        refine (if_pos hg1).trans ?_
        simp only [hb, cond_true, e2]
      ·simp only [go_sem, x9, e', decide_false, cond_false, if_false])
   (fun ps hp rec => by
    have e2 : ((1 + 2 * (List.range m).length : Nat) : Int) = ((2 * m + 1 : Nat) : Int) := by rw [List.length_range]; omega
    unfold q0h
    simp only [go_sem, y7, y8, J7, x9, List.length_map, hm, e2, Int.lt_irrefl, decide_false, cond_false]) (by rw [List.length_range]; omega)
 have key : c4 N (q0h N k1 k2) [.slice (ws.map C.str), .int 1, h, .slice [], e0] [] = _ := key
 rw [key]
 unfold psR
 rw [hm, show (2 * m + 1 - 1) / 2 = m by omega]
 cases o7 (fun j ps (_ : Nat) => psF ws j ps) 0 [] (List.range m) <;> rfl
end Go.Proofs.YtefppgmopnnphaaDoor
namespace Go.Proofs.YtefppgmopnnphaaDoor
open Go Go.E
set_option maxRecDepth 100000
set_option maxHeartbeats 4000000
set_option linter.unusedVariables false
noncomputable def q8F : Hints := [([0, 1, 0, 1, 1, 1], ⟨[0, 8], [(33, .d .bool)], [], [], [], []⟩),
  ([9], ⟨[], [(6, .sl 32 y5 5006), (7, .d (.int .i64))], [], [], [], []⟩)]
noncomputable def q3Q (N : Nat) : OvS (X0 gl0) where
 g R := [(13, J3 N), (24, z18 N), (25, q8R N)]
 ok := fun R => List.forall_mem_cons.2 ⟨q1N N, List.forall_mem_cons.2 ⟨z5I N, List.forall_mem_cons.2 ⟨z19 N, fun _ h => nomatch h⟩⟩⟩
noncomputable def U7 {R : Type} (N : Nat) (a0 a1 a2 : C) (k1 : KD R) : Option R := (bif Nat.beq (List.length (C.elems a2)) (List.length (C.elems a2)) && true then (Q8 N (C.agg [a1, C.slice (C.elems a2)]) (fun d1 m1 => (bif !decide (C.toInt (dk d1 0) = 0) then (k1 [C.slice [], dk d1 0] []) else (jn (fun d2 m2 => (bif C.toBool (dk d2 1) then (k1 [C.slice [], C.int 29] []) else (bif Nat.beq (List.length (C.elems (dk d2 0))) (List.length (C.elems (dk d2 0))) then (if (List.length (C.elems (dk d2 0)) + 1) * 32 ≤ 140737488355328 ∧ List.length (C.elems (dk d2 0)) + 1 ≤ 9223372036854775807 then (bif Nat.beq (List.length (C.elems (dk d2 0)) + 1) (List.length (C.elems (dk d2 0) ++ [dk d2 2])) then (k1 [C.slice (C.elems (dk d2 0) ++ [dk d2 2]), C.int 0] []) else none) else none) else none))) (fun k2 => (bif decide (0 < (↑(List.length (C.elems a0)) : Int)) then (if 0 ≤ IntKind.wrap IntKind.i64 ((↑(List.length (C.elems a0)) : Int) - 1) ∧ IntKind.wrap IntKind.i64 ((↑(List.length (C.elems a0)) : Int) - 1) < (↑(List.length (C.elems a0)) : Int) then (k2 [a0, C.bool (decide (C.toInt a1 < C.toInt (C.get (List.getD (C.elems a0) (Int.toNat (IntKind.wrap IntKind.i64 ((↑(List.length (C.elems a0)) : Int) - 1))) C.nil) 0))), C.agg [a1, C.slice (C.elems a2)]] []) else none) else (k2 [a0, C.bool false, C.agg [a1, C.slice (C.elems a2)]] []))))))) else none)
noncomputable def W2 {R : Type} (N : Nat) : C → C → C → KD R → Option R := lid "" (U7 N)
theorem q3P {R : Type} (N : Nat) (a0 a1 a2 : C) (k : KD R) : W2 N a0 a1 a2 k = U7 N a0 a1 a2 k := by unfold W2; rw [Q9]
theorem q7Y {R : Type} (N : Nat) (a0 a1 a2 : C) (K : V → List (Key × O) → Option R) : exF (X0 gl0) ((q3Q N).ov R) J9 (fun f r => bif Nat.beq f 11 then (bif Nat.beq r 8 then [(8, 6)] else []) else []) (fun f => bif Nat.beq f 11 then q8F else []) N 400 8 11 [.d (.slice 32 y5) a0, .d (.int .u64) a1, .d (.slice 32 r9) a2] A0 K =
  W2 N a0 a1 a2 (fun d1 m1 => K (V.tup [V.ts 32 y5 (C.elems (dk d1 0)), V.d (Ty.int IntKind.i64) (dk d1 1)]) []) := by
 rw [q3P]
 exact (show _ = jn (fun d1 m1 => (bif Nat.beq (List.length (C.elems (dk d1 0))) (List.length (C.elems (dk d1 0))) then
  (K (V.tup [V.ts 32 y5 (C.elems (dk d1 0)), V.d (Ty.int IntKind.i64) (dk d1 1)]) [])
 else
  none)) (U7 N a0 a1 a2) by kernel_rfl).trans ((s5 _ _).trans (congrArg (U7 N a0 a1 a2) (funext fun _ => funext fun _ => by simp only [Nat.beq_refl, cond_true])))
noncomputable def q18 (N : Nat) {R : Type} : OvG R := fun xs _ K => match xs with
 | [.d t0 a0, .d t1 a1, .d t2 a2] => if t0 = (.slice 32 y5) ∧ t1 = (.int .u64) ∧ t2 = (.slice 32 r9) then W2 N a0 a1 a2 (fun d1 m1 => K (V.tup [V.ts 32 y5 (C.elems (dk d1 0)), V.d (Ty.int IntKind.i64) (dk d1 1)]) []) else none
 | _ => none
theorem q8E (N : Nat) {R : Type} : GOk (X0 gl0) 11 (q18 N (R := R)) := by
 intro xs A Kr r hr
 unfold q18 at hr
 split at hr
 ·simp only [Option.ite_none_right_eq_some] at hr
  obtain ⟨hty, hr⟩ := hr
  obtain ⟨rfl, rfl, rfl⟩ := hty
  rw [← q7Y] at hr
  exact okA (q3Q N) hr
 ·cases hr
noncomputable def z6y : Hints := [([0, 1, 1, 1], ⟨[], [(0, .d .bool)], [], [], [], []⟩),
  ([9], ⟨[], [(0, .d .bool)], [], [], [], []⟩)]
noncomputable def q9f (N : Nat) : OvS (X0 gl0) where
 g R := [(28, q2V N), (24, z18 N), (25, q8R N), (36, q11 N), (50, z1R N), (38, q5a N)]
 ok := fun R => List.forall_mem_cons.2 ⟨q7A N, List.forall_mem_cons.2 ⟨z5I N, List.forall_mem_cons.2 ⟨z19 N, List.forall_mem_cons.2 ⟨q6o N, List.forall_mem_cons.2 ⟨z6D N, List.forall_mem_cons.2 ⟨z0O N, fun _ h => nomatch h⟩⟩⟩⟩⟩⟩
noncomputable def q3v {R : Type} (N : Nat) (k1 : KD R) : Option R := (jn (fun d1 m1 => (k1 [C.bool (C.toBool (dk d1 0))] [])) (fun k2 => (k2 [C.bool true] [])))
noncomputable def q0L {R : Type} (N : Nat) : KD R → Option R := lid "" (q3v N)
theorem q9e {R : Type} (N : Nat)  (k : KD R) : q0L N  k = q3v N  k := by unfold q0L; rw [Q9]
theorem z42 {R : Type} (N : Nat)  (K : V → List (Key × O) → Option R) : exF (X0 gl0) ((q9f N).ov R) J9 (fun f r => bif Nat.beq f 11 then (bif Nat.beq r 8 then [(8, 6)] else []) else bif Nat.beq f 13 then (bif Nat.beq r 0 then [(1, 5)] else []) else bif Nat.beq f 29 then (bif Nat.beq r 0 then [(1, 5)] else bif Nat.beq r 7 then [(6, 6)] else []) else bif Nat.beq f 19 then (bif Nat.beq r 15 then [(9, 6)] else []) else []) (fun f => bif Nat.beq f 9 then z6y else []) N 3000 20 9 [] A0 K =
  q0L N  (fun d1 m1 => K (V.d Ty.bool (C.bool (C.toBool (dk d1 0)))) []) := by
 rw [q9e]
 exact (show _ = jn (fun d1 m1 => (K (V.d Ty.bool (C.bool (C.toBool (dk d1 0)))) [])) (q3v N ) by kernel_rfl).trans (s5 _ _)
noncomputable def q6x (N : Nat) {R : Type} : OvG R := fun xs _ K => match xs with
 | [] => q0L N  (fun d1 m1 => K (V.d Ty.bool (C.bool (C.toBool (dk d1 0)))) [])
 | _ => none
theorem z6x (N : Nat) {R : Type} : GOk (X0 gl0) 9 (q6x N (R := R)) := by
 intro xs A Kr r hr
 unfold q6x at hr
 split at hr
 ·skip
  rw [← z42] at hr
  exact okA (q9f N) hr
 ·cases hr
end Go.Proofs.YtefppgmopnnphaaDoor
namespace Go.Proofs.YtefppgmopnnphaaDoor
open Go Go.E
set_option maxRecDepth 100000
set_option maxHeartbeats 4000000
set_option linter.unusedSimpArgs false
variable {R : Type} {N : Nat}
theorem z5O (k : KD R) : q0L N k = k [.bool true] [] := by
 rw [q9e]
 unfold q3v
 simp only [s5, Z4, x9]
def q4W (l : List C) (h : Int) : Bool := decide (0 < l.length) && decide (h < ((l.getD (l.length - 1) .nil).get 0).toInt)
def z4e (l : List C) (x : C) : Int := if H3 (x.get 1).elems = 0 then (bif q4W l (x.get 0).toInt then 29 else 0) else H3 (x.get 1).elems
theorem z68 {n : Nat} (h0 : 0 < n) (h : n < 4611686018427387904) : IntKind.i64.wrap ((n : Int) - 1) = ((n - 1 : Nat) : Int) := by rw [IntWalk.i64_in _ (by omega)]; omega
theorem y9R (l : List C) (x : C) (hx : C.wf y5 x) (hl : l.length ≤ 200) (hN : 4398046511105 < N) (k : KD R) :
  W2 N (.slice l) (x.get 0) (x.get 1) k = k [if z4e l x = 0 then .slice (l ++ [x]) else .slice [], .int (z4e l x)] [] := by
 obtain ⟨p1, p2, p3⟩ := q3G hx
 have e : C.agg [x.get 0, .slice (x.get 1).elems] = x := by rw [← p1]; exact C.q7b hx
 rw [q3P]
 unfold U7
 simp only [go_sem, s5, y8, y7, x9, Bool.and_true, cond_true, e]
 rw [z4g x hx hN]
 simp only [go_sem, y7, x9]
 unfold z4e
 by_cases h : H3 (x.get 1).elems = 0
 ·simp only [h, decide_true, Bool.not_true, cond_false, if_true]
  unfold q4W
  by_cases h0 : 0 < l.length
  ·have h0' : (0 : Int) < (l.length : Int) := by omega
   simp only [h0, h0', decide_true, cond_true, Bool.true_and, z68 h0 (show l.length < 4611686018427387904 by omega), Int.natCast_nonneg, true_and, Int.toNat_natCast]
   rw [if_pos (by omega)]
   cases hb : decide ((x.get 0).toInt < ((l.getD (l.length - 1) .nil).get 0).toInt) with
   | true => simp
   | false =>
    simp only [cond_false, if_true, List.length_append, List.length_cons, List.length_nil, Nat.zero_add, go_sem]
    rw [if_pos (by omega)]
  ·have h0' : ¬ (0 : Int) < (l.length : Int) := by omega
   simp only [h0, h0', decide_false, cond_false, Bool.false_and, if_true, List.length_append, List.length_cons, List.length_nil, Nat.zero_add, go_sem]
   rw [if_pos (by omega)]
 ·simp [h, y7]
end Go.Proofs.YtefppgmopnnphaaDoor
namespace Go.Proofs.YtefppgmopnnphaaDoor
open Go Go.E
set_option maxRecDepth 100000
set_option maxHeartbeats 4000000
set_option linter.unusedVariables false
noncomputable def q3W : Hints := [([0, 1], ⟨[], [(4, .d .bool)], [], [], [], []⟩),
  ([9], ⟨[], [(4, .d .bool)], [], [], [], []⟩)]
noncomputable def q04 (N : Nat) : OvS (X0 gl0) where
 g R := []
 ok := fun R => fun _ h => nomatch h
noncomputable def Y6 {R : Type} (N : Nat) (a0 a1 : C) (k1 : KD R) : Option R := (jn (fun d1 m1 => (k1 [C.bool (C.toBool (dk d1 0))] [])) (fun k2 => (bif decide ((↑(List.length (C.toStr a1)) : Int) ≤ (↑(List.length (C.toStr a0)) : Int)) then (if 0 ≤ IntKind.wrap IntKind.i64 ((↑(List.length (C.toStr a0)) : Int) - (↑(List.length (C.toStr a1)) : Int)) ∧ IntKind.wrap IntKind.i64 ((↑(List.length (C.toStr a0)) : Int) - (↑(List.length (C.toStr a1)) : Int)) ≤ (↑(List.length (C.toStr a0)) : Int) ∧ (↑(List.length (C.toStr a0)) : Int) ≤ (↑(List.length (C.toStr a0)) : Int) then (k2 [C.bool (List.drop (Int.toNat (IntKind.wrap IntKind.i64 ((↑(List.length (C.toStr a0)) : Int) - (↑(List.length (C.toStr a1)) : Int)))) (List.take (Int.toNat (↑(List.length (C.toStr a0)) : Int)) (C.toStr a0)) == C.toStr a1)] []) else none) else (k2 [C.bool false] []))))
noncomputable def Q3 {R : Type} (N : Nat) : C → C → KD R → Option R := lid "" (Y6 N)
theorem q03 {R : Type} (N : Nat) (a0 a1 : C) (k : KD R) : Q3 N a0 a1 k = Y6 N a0 a1 k := by unfold Q3; rw [Q9]
theorem q3D {R : Type} (N : Nat) (a0 a1 : C) (K : V → List (Key × O) → Option R) : exF (X0 gl0) ((q04 N).ov R) J9 noX (fun f => bif Nat.beq f 70 then q3W else []) N 400 8 70 [.d .str a0, .d .str a1] A0 K =
  Q3 N a0 a1 (fun d1 m1 => K (V.d Ty.bool (C.bool (C.toBool (dk d1 0)))) []) := by
 rw [q03]
 exact (show _ = jn (fun d1 m1 => (K (V.d Ty.bool (C.bool (C.toBool (dk d1 0)))) [])) (Y6 N a0 a1) by kernel_rfl).trans (s5 _ _)
noncomputable def U9 (N : Nat) {R : Type} : OvG R := fun xs _ K => match xs with
 | [.d t0 a0, .d t1 a1] => if t0 = .str ∧ t1 = .str then Q3 N a0 a1 (fun d1 m1 => K (V.d Ty.bool (C.bool (C.toBool (dk d1 0)))) []) else none
 | _ => none
theorem q3V (N : Nat) {R : Type} : GOk (X0 gl0) 70 (U9 N (R := R)) := by
 intro xs A Kr r hr
 unfold U9 at hr
 split at hr
 ·simp only [Option.ite_none_right_eq_some] at hr
  obtain ⟨hty, hr⟩ := hr
  obtain ⟨rfl, rfl⟩ := hty
  rw [← q3D] at hr
  exact okA (q04 N) hr
 ·cases hr
noncomputable def q30 : Hints := [([9], ⟨[], [(4, .d .str), (5, .d .bool)], [], [], [], []⟩)]
noncomputable def q08 (N : Nat) : OvS (X0 gl0) where
 g R := [(70, U9 N)]
 ok := fun R => List.forall_mem_cons.2 ⟨q3V N, fun _ h => nomatch h⟩
noncomputable def Y8 {R : Type} (N : Nat) (a0 a1 : C) (k1 : KD R) : Option R := (Q3 N a0 a1 (fun d1 m1 => (bif !C.toBool (dk d1 0) then (k1 [a0, C.bool false] []) else (if Int.ofNat 0 ≤ 0 ∧ 0 ≤ IntKind.wrap IntKind.i64 ((↑(List.length (C.toStr a0)) : Int) - (↑(List.length (C.toStr a1)) : Int)) ∧ IntKind.wrap IntKind.i64 ((↑(List.length (C.toStr a0)) : Int) - (↑(List.length (C.toStr a1)) : Int)) ≤ (↑(List.length (C.toStr a0)) : Int) then (k1 [C.str (List.drop 0 (List.take (Int.toNat (IntKind.wrap IntKind.i64 ((↑(List.length (C.toStr a0)) : Int) - (↑(List.length (C.toStr a1)) : Int)))) (C.toStr a0))), C.bool true] []) else none))))
noncomputable def Q5 {R : Type} (N : Nat) : C → C → KD R → Option R := lid "" (Y8 N)
theorem q07 {R : Type} (N : Nat) (a0 a1 : C) (k : KD R) : Q5 N a0 a1 k = Y8 N a0 a1 k := by unfold Q5; rw [Q9]
theorem q3F {R : Type} (N : Nat) (a0 a1 : C) (K : V → List (Key × O) → Option R) : exF (X0 gl0) ((q08 N).ov R) J9 noX (fun f => bif Nat.beq f 51 then q30 else []) N 400 8 51 [.d .str a0, .d .str a1] A0 K =
  Q5 N a0 a1 (fun d1 m1 => K (V.tup [V.d Ty.str (dk d1 0), V.d Ty.bool (C.bool (C.toBool (dk d1 1)))]) []) := by
 rw [q07]
 exact (show _ = jn (fun d1 m1 => (K (V.tup [V.d Ty.str (dk d1 0), V.d Ty.bool (C.bool (C.toBool (dk d1 1)))]) [])) (Y8 N a0 a1) by kernel_rfl).trans (s5 _ _)
noncomputable def J1 (N : Nat) {R : Type} : OvG R := fun xs _ K => match xs with
 | [.d t0 a0, .d t1 a1] => if t0 = .str ∧ t1 = .str then Q5 N a0 a1 (fun d1 m1 => K (V.tup [V.d Ty.str (dk d1 0), V.d Ty.bool (C.bool (C.toBool (dk d1 1)))]) []) else none
 | _ => none
theorem q3Z (N : Nat) {R : Type} : GOk (X0 gl0) 51 (J1 N (R := R)) := by
 intro xs A Kr r hr
 unfold J1 at hr
 split at hr
 ·simp only [Option.ite_none_right_eq_some] at hr
  obtain ⟨hty, hr⟩ := hr
  obtain ⟨rfl, rfl⟩ := hty
  rw [← q3F] at hr
  exact okA (q08 N) hr
 ·cases hr
noncomputable def q9H : Hints := [([9], ⟨[], [(4, .d .str), (5, .d .bool)], [], [], [], []⟩)]
noncomputable def q4A (N : Nat) : OvS (X0 gl0) where
 g R := [(51, J1 N)]
 ok := fun R => List.forall_mem_cons.2 ⟨q3Z N, fun _ h => nomatch h⟩
noncomputable def q0U {R : Type} (N : Nat) (a0 a1 : C) (k1 : KD R) : Option R := (Q5 N a0 a1 (fun d1 m1 => (k1 [dk d1 0, C.bool (C.toBool (dk d1 1))] [])))
noncomputable def U5 {R : Type} (N : Nat) : C → C → KD R → Option R := lid "" (q0U N)
theorem q4z {R : Type} (N : Nat) (a0 a1 : C) (k : KD R) : U5 N a0 a1 k = q0U N a0 a1 k := by unfold U5; rw [Q9]
theorem q8Z {R : Type} (N : Nat) (a0 a1 : C) (K : V → List (Key × O) → Option R) : exF (X0 gl0) ((q4A N).ov R) J9 noX (fun f => bif Nat.beq f 40 then q9H else []) N 400 8 40 [.d .str a0, .d .str a1] A0 K =
  U5 N a0 a1 (fun d1 m1 => K (V.tup [V.d Ty.str (dk d1 0), V.d Ty.bool (C.bool (C.toBool (dk d1 1)))]) []) := by
 rw [q4z]
 exact (show _ = jn (fun d1 m1 => (K (V.tup [V.d Ty.str (dk d1 0), V.d Ty.bool (C.bool (C.toBool (dk d1 1)))]) [])) (q0U N a0 a1) by kernel_rfl).trans (s5 _ _)
noncomputable def q2Q (N : Nat) {R : Type} : OvG R := fun xs _ K => match xs with
 | [.d t0 a0, .d t1 a1] => if t0 = .str ∧ t1 = .str then U5 N a0 a1 (fun d1 m1 => K (V.tup [V.d Ty.str (dk d1 0), V.d Ty.bool (C.bool (C.toBool (dk d1 1)))]) []) else none
 | _ => none
theorem q9G (N : Nat) {R : Type} : GOk (X0 gl0) 40 (q2Q N (R := R)) := by
 intro xs A Kr r hr
 unfold q2Q at hr
 split at hr
 ·simp only [Option.ite_none_right_eq_some] at hr
  obtain ⟨hty, hr⟩ := hr
  obtain ⟨rfl, rfl⟩ := hty
  rw [← q8Z] at hr
  exact okA (q4A N) hr
 ·cases hr
noncomputable def z3T : Hints := [([1, 0, 1, 1, 1, 1, 1, 1], ⟨[], [(6, .sl 32 y5 5006)], [], [], [], []⟩),
  ([4, 1, 0, 1, 1, 1, 1, 1, 1], ⟨[27, 28], [(6, .sl 32 y5 5006), (29, .d (.int .i64))], [], [], [], []⟩),
  ([0, 1, 0, 1, 1, 1, 4, 0, 1, 1, 5, 4, 1, 0, 1, 1, 1, 1, 1, 1], ⟨[9, 27, 28, 29], [(6, .sl 32 y5 5006), (55, .d .bool)], [], [], [], []⟩),
  ([9], ⟨[], [(2, .sl 32 y5 5002), (3, .d (.int .i64))], [], [], [], []⟩)]
noncomputable def q7E (N : Nat) : OvS (X0 gl0) where
 g R := [(40, q2Q N), (41, q5S N), (42, q4Y N)]
 ok := fun R => List.forall_mem_cons.2 ⟨q9G N, List.forall_mem_cons.2 ⟨z1F N, List.forall_mem_cons.2 ⟨z3Q N, fun _ h => nomatch h⟩⟩⟩
noncomputable def q0i {R : Type} (N : Nat) (k1 : KD R) (k2 : KD R) : KD R → List C → List Es → Option R := (fun k3 d2 m2 => (bif decide (C.toInt (dk d2 3) < C.toInt (dk d2 1)) then (if 0 ≤ C.toInt (dk d2 3) ∧ C.toInt (dk d2 3) < (↑(List.length (C.elems (dk d2 0))) : Int) then (q0C N (List.getD (C.elems (dk d2 0)) (Int.toNat (C.toInt (dk d2 3))) C.nil) (fun d3 m3 => (bif !decide (C.toInt (dk d3 0) = 0) then (k1 [C.slice [], dk d3 0] []) else (jn (fun d4 m4 => (bif C.toBool (dk d4 5) then (k1 [C.slice [], C.int 29] []) else (bif Nat.beq (List.length (C.elems (dk d4 4))) (List.length (C.elems (dk d4 4))) then (if (List.length (C.elems (dk d4 4)) + 1) * 32 ≤ 140737488355328 ∧ List.length (C.elems (dk d4 4)) + 1 ≤ 9223372036854775807 then (bif Nat.beq (List.length (C.elems (dk d4 4)) + 1) (List.length (C.elems (dk d4 4) ++ [dk d4 0])) then (k3 [dk d4 1, dk d4 2, C.slice (C.elems (dk d4 4) ++ [dk d4 0]), C.int (IntKind.wrap IntKind.i64 (C.toInt (dk d4 3) + 1))] []) else none) else none) else none))) (fun k4 => (bif decide (0 < (↑(List.length (C.elems (dk d2 2))) : Int)) then (if 0 ≤ IntKind.wrap IntKind.i64 ((↑(List.length (C.elems (dk d2 2))) : Int) - 1) ∧ IntKind.wrap IntKind.i64 ((↑(List.length (C.elems (dk d2 2))) : Int) - 1) < (↑(List.length (C.elems (dk d2 2))) : Int) then (bif Nat.beq (List.length (C.elems (dk d2 2))) (List.length (C.elems (dk d2 2))) then (k4 [dk d3 1, dk d2 0, dk d2 1, dk d2 3, C.slice (C.elems (dk d2 2)), C.bool (decide (C.toInt (C.get (dk d3 1) 0) < C.toInt (C.get (List.getD (C.elems (dk d2 2)) (Int.toNat (IntKind.wrap IntKind.i64 ((↑(List.length (C.elems (dk d2 2))) : Int) - 1))) C.nil) 0)))] []) else none) else none) else (bif Nat.beq (List.length (C.elems (dk d2 2))) (List.length (C.elems (dk d2 2))) then (k4 [dk d3 1, dk d2 0, dk d2 1, dk d2 3, C.slice (C.elems (dk d2 2)), C.bool false] []) else none))))))) else none) else (bif Nat.beq (List.length (C.elems (dk d2 2))) (List.length (C.elems (dk d2 2))) then (k2 [C.slice (C.elems (dk d2 2))] []) else none)))
noncomputable def q1j {R : Type} (N : Nat) (a0 : C) (k1 : KD R) : Option R := (bif decide (65536 < (↑(List.length (C.toStr a0)) : Int)) then (k1 [C.slice [], C.int 8] []) else (bif C.toStr a0 == [] then (k1 [C.slice [], C.int 0] []) else (U5 N a0 (C.str [UInt8.ofNat 10]) (fun d1 m1 => (bif !C.toBool (dk d1 1) then (k1 [C.slice [], C.int 9] []) else (if 1 = 1 ∧ List.length (C.toStr (dk d1 0)) < 4294967281 then (jn (fun d2 m2 => (bif Nat.beq (List.length (C.elems (dk d2 0))) (List.length (C.elems (dk d2 0))) then (k1 [C.slice (C.elems (dk d2 0)), C.int 0] []) else none)) (fun k2 => (c4 N (q0i N k1 k2) [C.slice (List.map C.str (u9 (UInt8.ofNat 10) (C.toStr (dk d1 0)))), C.int (↑(List.length (List.map C.str (u9 (UInt8.ofNat 10) (C.toStr (dk d1 0))))) : Int), C.slice [], C.int 0] []))) else none))))))
noncomputable def F1 {R : Type} (N : Nat) : C → KD R → Option R := lid "" (q1j N)
theorem q7D {R : Type} (N : Nat) (a0 : C) (k : KD R) : F1 N a0 k = q1j N a0 k := by unfold F1; rw [Q9]
theorem z2R {R : Type} (N : Nat) (a0 : C) (K : V → List (Key × O) → Option R) : exF (X0 gl0) ((q7E N).ov R) J9 (fun f r => bif Nat.beq f 21 then (bif Nat.beq r 16 then [(9, 6)] else []) else []) (fun f => bif Nat.beq f 21 then z3T else []) N 400 8 21 [.d .str a0] A0 K =
  F1 N a0 (fun d1 m1 => K (V.tup [V.ts 32 y5 (C.elems (dk d1 0)), V.d (Ty.int IntKind.i64) (dk d1 1)]) []) := by
 rw [q7D]
 exact (show _ = jn (fun d1 m1 => (bif Nat.beq (List.length (C.elems (dk d1 0))) (List.length (C.elems (dk d1 0))) then
  (K (V.tup [V.ts 32 y5 (C.elems (dk d1 0)), V.d (Ty.int IntKind.i64) (dk d1 1)]) [])
 else
  none)) (q1j N a0) by kernel_rfl).trans ((s5 _ _).trans (congrArg (q1j N a0) (funext fun _ => funext fun _ => by simp only [Nat.beq_refl, cond_true])))
noncomputable def q4Z (N : Nat) {R : Type} : OvG R := fun xs _ K => match xs with
 | [.d t0 a0] => if t0 = .str then F1 N a0 (fun d1 m1 => K (V.tup [V.ts 32 y5 (C.elems (dk d1 0)), V.d (Ty.int IntKind.i64) (dk d1 1)]) []) else none
 | _ => none
theorem z3S (N : Nat) {R : Type} : GOk (X0 gl0) 21 (q4Z N (R := R)) := by
 intro xs A Kr r hr
 unfold q4Z at hr
 split at hr
 ·simp only [Option.ite_none_right_eq_some] at hr
  obtain ⟨hty, hr⟩ := hr
  subst hty
  rw [← z2R] at hr
  exact okA (q7E N) hr
 ·cases hr
end Go.Proofs.YtefppgmopnnphaaDoor
namespace Go.Proofs.YtefppgmopnnphaaDoor
open Go Go.E
set_option maxRecDepth 100000
set_option maxHeartbeats 4000000
set_option linter.unusedSimpArgs false
variable {R : Type} {N : Nat}
theorem y0G {u : Nat} {ps : List C} {n : Nat} (hu : u < 18446744073709551616) (hp : PsW n ps) (hn : n ≤ 65536) : C.wf y5 (.agg [.int (u : Int), .slice ps]) := by
 have m1 : IntKind.u64.min = 0 := by decide
 have m2 : IntKind.u64.max = 18446744073709551615 := by decide
 have h1 := hp.1
 unfold y5
 simp only [C.wf, C.wfs]
 exact ⟨rfl, _, _, rfl, ⟨rfl, by simp only [y7]; omega, by simp only [y7]; omega⟩, _, _, rfl, ⟨rfl, by simp only [y8]; omega, by simp only [y8]; omega, hp.2⟩, rfl⟩
def F7 (s : List UInt8) : Int × C :=
 if (u9 (UInt8.ofNat 32) s).length % 2 = 0 then (9, .agg [.int 0, .slice []]) else match q4e ((u9 (UInt8.ofNat 32) s).getD 0 []) with
  | none => (10, .agg [.int 0, .slice []])
  | some h => match psR (u9 (UInt8.ofNat 32) s) with
   | .inr _ => (10, .agg [.int 0, .slice []])
   | .inl ps => (H3 ps, .agg [.int (h : Int), .slice ps])
theorem y7C {ws : List (List UInt8)} {ps : List C} (hl : ws.length ≤ 65537) (hw : ∀ w ∈ ws, w.length ≤ 65536) (h : psR ws = .inl ps) : PsW 65536 ps := by
 have := y4I ws hw _ 0 [] ps ⟨Nat.le_refl _, fun p hp => by cases hp⟩ h
 rw [List.length_range] at this
 exact ⟨by have := this.1; omega, this.2⟩
theorem words (s : List UInt8) (hl : s.length ≤ 65536) (b : UInt8) : (u9 b s).length ≤ 65537 ∧ 0 < (u9 b s).length ∧ ∀ w ∈ u9 b s, w.length ≤ 65536 := by
 have h1 := q9K b s
 obtain ⟨x, l, h2⟩ := q56 b s
 exact ⟨by omega, by rw [h2]; simp, fun w hw => Nat.le_trans (q9J b s w hw) hl⟩
theorem y99 (n : Nat) : decide (Int.tmod (n : Int) 2 = 0) = decide (n % 2 = 0) := by
 rw [Int.tmod_eq_emod_of_nonneg (by omega)]
 by_cases h : n % 2 = 0
 ·rw [decide_eq_true h, decide_eq_true (by omega)]
 ·rw [decide_eq_false h, decide_eq_false (by omega)]
theorem y48 (s : List UInt8) (hl : s.length ≤ 65536) (hN : 140737488355329 < N) (k : KD R) : q0C N (.str s) k = k [.int (F7 s).1, (F7 s).2] [] := by
 rw [q7B]
 unfold q2n F7
 obtain ⟨w1, w2, w3⟩ := words s hl (UInt8.ofNat 32)
 simp only [s5, J7, List.length_map]
 generalize u9 (UInt8.ofNat 32) s = ws at w1 w2 w3
 refine (if_pos ⟨trivial, by omega⟩).trans ?_
 rw [y99]
 by_cases hpar : ws.length % 2 = 0
 ·rw [decide_eq_true hpar, if_pos hpar]; rfl
 ·rw [decide_eq_false hpar, if_neg hpar, cond_false]
  refine (if_pos ⟨by decide, by omega⟩).trans ?_
  have g0 : (ws.map C.str).getD (Int.toNat 0) .nil = .str (ws.getD 0 []) := z0e w2
  rw [g0, z1o]
  cases hh : q4e (ws.getD 0 []) with
  | none => rfl
  | some h =>
   have hlt := z6o hh
   simp only [go_sem, y7, decide_true, Bool.not_true, cond_false]
   refine (y47 ws _ _ ((ws.length - 1) / 2) (by omega) (by omega) w3 hN _ _).trans ?_
   cases hp : psR ws with
   | inr _ => rfl
   | inl ps =>
    have hW := y7C w1 w3 hp
    simp only [go_sem, y8]
    rw [z4g _ (y0G hlt hW (Nat.le_refl _)) (by omega)]
    rfl
theorem y8F (s : List UInt8) (hl : s.length ≤ 65536) (h0 : (F7 s).1 = 0) : C.wf y5 (F7 s).2 := by
 unfold F7 at h0 ⊢
 obtain ⟨w1, w2, w3⟩ := words s hl (UInt8.ofNat 32)
 generalize u9 (UInt8.ofNat 32) s = ws at w1 w2 w3 h0 ⊢
 by_cases hpar : ws.length % 2 = 0
 ·rw [if_pos hpar] at h0; cases h0
 ·rw [if_neg hpar] at h0 ⊢
  cases hh : q4e (ws.getD 0 []) with
  | none => rw [hh] at h0; cases h0
  | some h =>
   cases hp : psR ws with
   | inr _ => rw [hh, hp] at h0; cases h0
   | inl ps => exact y0G (z6o hh) (y7C w1 w3 hp) (Nat.le_refl _)
def q1h (out : List C) (s : List UInt8) : List C ⊕ Int := if (F7 s).1 = 0 then (bif q4W out ((F7 s).2.get 0).toInt then .inr 29 else .inl (out ++ [(F7 s).2])) else .inr (F7 s).1
def EsW (n : Nat) (out : List C) : Prop := out.length ≤ n ∧ ∀ x ∈ out, C.wf y5 x
theorem y2g {n : Nat} {out out' : List C} {s : List UInt8} (hl : s.length ≤ 65536) (ho : EsW n out) (h : q1h out s = .inl out') : EsW (n + 1) out' := by
 unfold q1h at h
 split at h
 ·rename_i h0
  cases hb : q4W out ((F7 s).2.get 0).toInt with
  | true => rw [hb] at h; cases h
  | false =>
   rw [hb] at h
   cases h
   refine ⟨by simp only [List.length_append, List.length_cons, List.length_nil]; have := ho.1; omega, fun q hq => ?_⟩
   rcases List.mem_append.1 hq with h | h
   ·exact ho.2 q h
   ·rw [List.mem_singleton.1 h]; exact y8F s hl h0
 ·cases h
def z1E (ls : List (List UInt8)) : List C ⊕ Int := o7 (fun _ out s => q1h out s) 0 [] ls
theorem z97 : ∀ (ls : List (List UInt8)) (i : Nat) (out out' : List C), (∀ w ∈ ls, w.length ≤ 65536) → EsW i out → o7 (fun _ out s => q1h out s) i out ls = .inl out' → EsW (i + ls.length) out'
 | [], i, out, out', _, ho, h => by simp only [o7] at h; cases h; exact ho
 | w :: ls, i, out, out', hw, ho, h => by
  simp only [o7] at h
  split at h
  ·rename_i q hq
   have := z97 ls (i + 1) q out' (fun w hw' => hw w (by simp [hw'])) (y2g (hw w (by simp)) ho hq) h
   simp only [List.length_cons]
   rw [show i + (ls.length + 1) = i + 1 + ls.length by omega]; exact this
  ·cases h
theorem y9D (ls : List (List UInt8)) (hl : ls.length ≤ 65537) (hw : ∀ w ∈ ls, w.length ≤ 65536) (hN : 140737488355329 < N) (k1 k2 : KD R) :
  c4 N (q0i N k1 k2) [.slice (ls.map C.str), .int (ls.length : Int), .slice [], .int 0] [] = (match z1E ls with | .inl out => k2 [.slice out] [] | .inr e => k1 [.slice [], .int e] []) := by
 have key := q1F (ε := Int) (N := N) (F := q0i N k1 k2) (fun i (out : List C) => [.slice (ls.map C.str), .int (ls.length : Int), .slice out, .int (i : Int)]) (fun _ _ => []) ls
   (fun _ out s => q1h out s) (fun out => k2 [.slice out] []) (fun e => k1 [.slice [], .int e] []) EsW (s0 := []) ⟨Nat.le_refl _, fun p hp => by cases hp⟩
   (fun i out s hc ho => by
    have hi := (List.getElem?_eq_some_iff.1 hc).1
    have hs := hw s (List.mem_of_getElem? hc)
    refine ⟨fun rec => ?_, fun out' h => y2g hs ho h⟩
    have h1 : (i : Int) < (ls.length : Int) := by omega
    have hol := ho.1
    have g1 : (ls.map C.str).getD i .nil = .str s := by rw [z0e hi, List.getD_eq_getElem?_getD, hc]; rfl
    have hb : ∀ (p : C), (out.length + 1).beq (out ++ [p]).length = true := fun p => by simp
    have hg1 : (out.length + 1) * 32 ≤ 140737488355328 ∧ out.length + 1 ≤ 9223372036854775807 := by omega
    unfold q0i
    simp only [s5, go_sem, y7, y8, J7, x9, List.length_map, h1, decide_true, cond_true, Int.natCast_nonneg, and_self, if_true, Int.toNat_natCast, g1, Nat.beq_refl]
    rw [y48 s hs hN]
    simp only [go_sem, y7]
    unfold q1h
    by_cases h0 : (F7 s).1 = 0
    ·rw [if_pos h0]
     simp only [h0, decide_true, Bool.not_true, cond_false]
     unfold q4W
     by_cases hz : 0 < out.length
     ·have hz' : (0 : Int) < (out.length : Int) := by omega
      have hz2 : ((out.length - 1 : Nat) : Int) < (out.length : Int) := by omega
      simp only [hz, hz', hz2, decide_true, cond_true, Bool.true_and, z68 hz (show out.length < 4611686018427387904 by omega), Int.natCast_nonneg, and_self, if_true, Int.toNat_natCast]
      cases hbb : decide (((F7 s).2.get 0).toInt < ((out.getD (out.length - 1) .nil).get 0).toInt) with
      | true => rfl
      | false =>
       simp only [go_sem, x9, y8, y7, cond_false, Nat.beq_refl, cond_true, hb, c9 (show i < 4611686018427387904 by omega)]
       exact if_pos hg1
     ·have hz' : ¬ (0 : Int) < (out.length : Int) := by omega
      simp only [hz, hz', decide_false, cond_false, Bool.false_and]
      simp only [go_sem, x9, y8, y7, cond_false, Nat.beq_refl, cond_true, hb, c9 (show i < 4611686018427387904 by omega)]
      exact if_pos hg1
    ·rw [if_neg h0]
     simp only [h0, decide_false, Bool.not_false, cond_true])
   (fun out ho rec => by
    unfold q0i
    simp only [go_sem, y7, y8, J7, x9, Int.lt_irrefl, decide_false, cond_false, Nat.beq_refl, cond_true]) (by omega)
 have key : c4 N (q0i N k1 k2) [.slice (ls.map C.str), .int (ls.length : Int), .slice [], .int 0] [] = _ := key
 rw [key]
 show z6J _ _ (z1E ls) = _
 cases z1E ls <;> rfl
end Go.Proofs.YtefppgmopnnphaaDoor
namespace Go.Proofs.YtefppgmopnnphaaDoor
open Go Go.E
set_option maxRecDepth 100000
set_option maxHeartbeats 4000000
set_option linter.unusedSimpArgs false
variable {R : Type} {N : Nat}
theorem y8i (c d : UInt8) : (([c] : List UInt8) == [d]) = decide (c = d) := by
 by_cases e : c = d
 ·simp [e]
 ·simp [e]
theorem y1j (u : List UInt8) (c : UInt8) (hl : u.length ≤ 65536) (k : KD R) :
  U5 N (.str (u ++ [c])) (.str [UInt8.ofNat 10]) k = k [.str (if c = UInt8.ofNat 10 then u else u ++ [c]), .bool (decide (c = UInt8.ofNat 10))] [] := by
 rw [q4z]
 unfold q0U
 rw [q07]
 unfold Y8
 rw [q03]
 unfold Y6
 have el : (u ++ [c]).length = u.length + 1 := by simp
 have e1 : ([UInt8.ofNat 10] : List UInt8).length = 1 := rfl
 have hw : IntKind.i64.wrap (((u.length + 1 : Nat) : Int) - ((1 : Nat) : Int)) = (u.length : Int) := by rw [IntWalk.i64_in _ (by omega)]; omega
 have h1 : ((1 : Nat) : Int) ≤ ((u.length + 1 : Nat) : Int) := by omega
 have h2 : (u.length : Int) ≤ ((u.length + 1 : Nat) : Int) := by omega
 have hd : List.drop u.length (List.take (u.length + 1) (u ++ [c])) = [c] := by rw [← el, List.take_length, List.drop_left]
 have ht : List.drop 0 (List.take u.length (u ++ [c])) = u := by rw [List.drop_zero, List.take_left]
 have hb : (([c] : List UInt8) == [UInt8.ofNat 10]) = decide (c = UInt8.ofNat 10) := y8i _ _
 have hz : (Int.ofNat 0 : Int) ≤ 0 := by decide
 simp only [s5, J7, el, e1, hw, h1, h2, hz, decide_true, cond_true, Int.natCast_nonneg, Int.le_refl, and_self, if_true, Int.toNat_natCast, hd, ht, hb, Z4, Y5, x9]
 by_cases e : c = UInt8.ofNat 10
 ·simp only [e, decide_true, Bool.not_true, cond_false, if_true]
 ·simp only [e, decide_false, Bool.not_false, cond_true, if_false]
def y9B : List C ⊕ Int → C × Int
 | .inl out => (.slice out, 0)
 | .inr e => (.slice [], e)
def q7p (t : List UInt8) : C × Int := if 65536 < t.length then (.slice [], 8) else if t = [] then (.slice [], 0) else if t.getLast? = some (UInt8.ofNat 10) then y9B (z1E (u9 (UInt8.ofNat 10) t.dropLast)) else (.slice [], 9)
theorem y2i {t : List UInt8} (h : t ≠ []) : ∃ u c, t = u ++ [c] := ⟨t.dropLast, t.getLast h, (List.dropLast_concat_getLast h).symm⟩
theorem z7E (t : List UInt8) (hN : 140737488355329 < N) (k : KD R) : F1 N (.str t) k = k [(q7p t).1, .int (q7p t).2] [] := by
 rw [q7D]
 unfold q1j q7p
 simp only [s5, J7]
 by_cases h0 : 65536 < t.length
 ·have h0' : (65536 : Int) < (t.length : Int) := by omega
  simp only [h0, h0', decide_true, cond_true, if_true]
 ·have h0' : ¬ (65536 : Int) < (t.length : Int) := by omega
  simp only [h0, h0', decide_false, cond_false, if_false]
  by_cases h1 : t = []
  ·subst h1; rfl
  ·have h1' : (t == []) = false := by simpa using h1
   simp only [h1, h1', cond_false, if_false]
   obtain ⟨u, c, rfl⟩ := y2i h1
   have el : (u ++ [c]).length = u.length + 1 := by simp
   have hu : u.length ≤ 65536 := by omega
   have e1 : (u ++ [c]).getLast? = some c := by simp
   have e2 : (u ++ [c]).dropLast = u := by simp
   rw [y1j u c hu, e1, e2]
   by_cases e : c = UInt8.ofNat 10
   ·simp only [e, decide_true, if_true, Z4, Y5, x9, J7, Bool.not_true, cond_false]
    refine (if_pos ⟨trivial, by omega⟩).trans ?_
    obtain ⟨w1, w2, w3⟩ := words u hu (UInt8.ofNat 10)
    rw [List.length_map]
    refine (y9D _ w1 w3 hN _ _).trans ?_
    cases z1E (u9 (UInt8.ofNat 10) u) with
    | inl out => simp only [Z4, y8, Nat.beq_refl, cond_true, y9B]
    | inr e => rfl
   ·have e' : ¬ (some c = some (UInt8.ofNat 10)) := fun h => e (by cases h; rfl)
    simp only [e, e', decide_false, if_false, Z4, Y5, x9, Bool.not_false, cond_true]
theorem y8g (t : List UInt8) : ∃ out, (q7p t).1 = .slice out ∧ EsW 65537 out := by
 unfold q7p
 split
 ·exact ⟨[], rfl, Nat.zero_le _, fun p hp => by cases hp⟩
 ·split
  ·exact ⟨[], rfl, Nat.zero_le _, fun p hp => by cases hp⟩
  ·split
   ·rename_i h0 _ _
    have hd : t.dropLast.length ≤ 65536 := by simp; omega
    obtain ⟨w1, w2, w3⟩ := words t.dropLast hd (UInt8.ofNat 10)
    cases h : z1E (u9 (UInt8.ofNat 10) t.dropLast) with
    | inl out =>
     have := z97 _ 0 [] out w3 ⟨Nat.le_refl _, fun p hp => by cases hp⟩ h
     exact ⟨out, rfl, by have := this.1; omega, this.2⟩
    | inr e => exact ⟨[], rfl, Nat.zero_le _, fun p hp => by cases hp⟩
   ·exact ⟨[], rfl, Nat.zero_le _, fun p hp => by cases hp⟩
end Go.Proofs.YtefppgmopnnphaaDoor
namespace Go.Proofs.YtefppgmopnnphaaDoor
open Go Go.E
set_option maxRecDepth 100000
set_option maxHeartbeats 4000000
set_option linter.unusedSimpArgs false
variable {R : Type} {N : Nat}
def J5 (b : UInt8) : List (List UInt8) → List UInt8
 | [] => []
 | x :: l => (b :: x) ++ J5 b l
theorem z7e (b : UInt8) : ∀ l m, J5 b (l ++ m) = J5 b l ++ J5 b m
 | [], _ => rfl
 | x :: l, m => by rw [List.cons_append, J5, J5, z7e b l m, List.append_assoc]
theorem z4s (b : UInt8) : ∀ l : List UInt8, (∀ c ∈ l, c ≠ b) → u9 b l = [l]
 | [], _ => rfl
 | c :: l, h => by
  rw [u9, if_neg (h c (by simp)), z4s b l (fun d hd => h d (by simp [hd]))]
theorem z4t (b : UInt8) : ∀ (l r : List UInt8), (∀ c ∈ l, c ≠ b) → u9 b (l ++ b :: r) = l :: u9 b r
 | [], r, _ => by rw [List.nil_append, u9, if_pos rfl]
 | c :: l, r, h => by
  rw [List.cons_append, u9, if_neg (h c (by simp)), z4t b l r (fun d hd => h d (by simp [hd]))]
def NoB (b : UInt8) (l : List UInt8) : Prop := ∀ c ∈ l, c ≠ b
theorem q8w (b : UInt8) : ∀ (l : List (List UInt8)) (x : List UInt8), NoB b x → (∀ y ∈ l, NoB b y) → u9 b (x ++ J5 b l) = x :: l
 | [], x, hx, _ => by rw [J5, List.append_nil, z4s b x hx]
 | y :: l, x, hx, h => by
  rw [J5, List.cons_append, z4t b x _ hx, q8w b l y (h y (by simp)) (fun z hz => h z (by simp [hz]))]
theorem q8u (b : UInt8) : ∀ (t x : List UInt8) (l : List (List UInt8)), u9 b t = x :: l → t = x ++ J5 b l
 | [], x, l, h => by simp [u9] at h; obtain ⟨rfl, rfl⟩ := h; rfl
 | c :: t, x, l, h => by
  obtain ⟨y, m, hy⟩ := q56 b t
  have ih := q8u b t y m hy
  unfold u9 at h
  by_cases e : c = b
  ·rw [if_pos e, hy] at h
   injection h with h1 h2
   subst h1 h2
   rw [List.nil_append, J5, List.cons_append, ← ih, e]
  ·rw [if_neg e, hy] at h
   injection h with h1 h2
   subst h1 h2
   rw [List.cons_append, ← ih]
def q42 (b : UInt8) (L : List (List UInt8)) : List UInt8 := L.flatMap fun x => x ++ [b]
theorem z1X (b : UInt8) (x : List UInt8) (L : List (List UInt8)) : q42 b (x :: L) = x ++ [b] ++ q42 b L := by unfold q42; rw [List.flatMap_cons]
theorem z1W (b : UInt8) : ∀ (l : List (List UInt8)) (x : List UInt8), q42 b (x :: l) = x ++ J5 b l ++ [b]
 | [], x => by rw [z1X]; simp [q42, J5]
 | y :: l, x => by rw [z1X, z1W b l y, J5]; simp
theorem z4M (c : UInt8) : ∀ (l : List UInt8) (acc m : Nat), Lib.parseUint10 acc l = .ok m → Lib.parseUint10 acc (l ++ [c]) = Lib.parseUint10 m [c]
 | [], acc, m, h => by simp only [Lib.parseUint10] at h; cases h; rfl
 | d :: l, acc, m, h => by
  rw [List.cons_append]
  rw [Lib.parseUint10] at h ⊢
  split at h
  ·rename_i h1
   rw [if_pos h1]
   split at h
   ·cases h
   ·rename_i h2
    rw [if_neg h2]
    split at h
    ·cases h
    ·rename_i h3
     rw [if_neg h3]
     exact z4M c l _ m h
  ·cases h
theorem y4K (n : Nat) : n < 18446744073709551616 → Lib.parseUint10 0 (Lib.decDigits n) = .ok n := by
 induction n using Nat.strongRecOn with
 | _ n ih =>
  intro h
  by_cases h10 : n < 10
  ·rw [Lib.decDigits_one h10]
   have e : (UInt8.ofNat (48 + n)).toNat = 48 + n := by rw [UInt8.toNat_ofNat']; omega
   simp only [Lib.parseUint10, e]
   rw [if_pos (by omega), if_neg (by omega), if_neg (by omega)]
   congr 1; omega
  ·rw [Lib.decDigits, dif_neg h10, z4M _ _ _ _ (ih (n / 10) (by omega) (by omega))]
   have e : (UInt8.ofNat (48 + n % 10)).toNat = 48 + n % 10 := by rw [UInt8.toNat_ofNat']; omega
   simp only [Lib.parseUint10, e]
   rw [if_pos (by omega), if_neg (by omega), if_neg (by omega)]
   congr 1; omega
theorem y8R (n : Nat) (h : n < 18446744073709551616) : H2 n ≠ [] := by
 rw [q9t n h, Lib.decDigits]
 split <;> simp
theorem y3S (n : Nat) : ∀ c ∈ Lib.decDigits n, 48 ≤ c.toNat ∧ c.toNat ≤ 57 := by
 induction n using Nat.strongRecOn with
 | _ n ih =>
  rw [Lib.decDigits]
  by_cases h : n < 10
  ·rw [dif_pos h]
   intro c hc
   rw [List.mem_singleton.1 hc, UInt8.toNat_ofNat']; omega
  ·rw [dif_neg h]
   intro c hc
   rcases List.mem_append.1 hc with hc | hc
   ·exact ih (n / 10) (by omega) c hc
   ·rw [List.mem_singleton.1 hc, UInt8.toNat_ofNat']; omega
theorem z6R {n : Nat} (h : n < 18446744073709551616) {b : UInt8} (hb : b.toNat < 48) : NoB b (H2 n) := by
 intro c hc e
 rw [q9t n h] at hc
 have := y3S n c hc
 rw [e] at this
 omega
theorem z9R {n : Nat} (h : n < 18446744073709551616) : q4e (H2 n) = some n := by
 have hp := y4K n h
 rw [← q9t n h] at hp
 have e64 := Lib.parseUintB_64 (H2 n)
 unfold Lib.parseMag at e64
 rw [if_neg (y8R n h), hp] at e64
 unfold q4e
 rw [e64]
 exact if_pos rfl
theorem z7o {s : List UInt8} {u : Nat} (h : q4e s = some u) : H2 u = s := by
 unfold q4e at h
 split at h
 ·rename_i v hv
  split at h
  ·cases h; assumption
  ·cases h
 ·cases h
def q6O (f : Bool) : UInt8 := bif f then UInt8.ofNat 45 else UInt8.ofNat 43
def q7a (p : C) : List (List UInt8) := [(p.get 0).toStr, q6O (p.get 2).toBool :: H2 (p.get 1).toInt.toNat]
def F5 (ps : List C) : List (List UInt8) := ps.flatMap q7a
def F9 (x : C) : List UInt8 := H2 (x.get 0).toInt.toNat ++ J5 (UInt8.ofNat 32) (F5 (x.get 1).elems)
theorem y1u (p : C) : q6Q p = J5 (UInt8.ofNat 32) (q7a p) := by
 unfold q6Q q7a q6O
 cases (p.get 2).toBool <;> simp [J5]
theorem z1l : ∀ (ps : List C) (t : List UInt8), q7o t ps = t ++ J5 (UInt8.ofNat 32) (F5 ps)
 | [], t => by simp [q7o, F5, J5]
 | p :: ps, t => by
  have ih := z1l ps (t ++ q6Q p)
  unfold q7o at ih ⊢
  have e : F5 (p :: ps) = q7a p ++ F5 ps := by unfold F5; rw [List.flatMap_cons]
  rw [List.foldl_cons, ih, y1u, e, z7e, List.append_assoc]
theorem y5o (t : List UInt8) (x : C) : z6I t x = t ++ (F9 x ++ [UInt8.ofNat 10]) := by
 unfold z6I F9
 rw [z1l]; simp
def q1G (x : C) : Prop := H3 (x.get 1).elems = 0
theorem z8Z : ∀ (l : List C) (i : Nat) (t : List UInt8), (∀ x ∈ l, q1G x) → o7 (fun _ t x => z3t t x) i t l = .inl (t ++ q42 (UInt8.ofNat 10) (l.map F9))
 | [], i, t, _ => by simp [o7, q42]
 | x :: l, i, t, h => by
  have h1 : z3t t x = .inl (z6I t x) := if_pos (h x (by simp))
  rw [o7, h1]
  dsimp only
  rw [z8Z l (i + 1) _ fun y hy => h y (by simp [hy]), y5o, List.map_cons, z1X]; simp
theorem y1W {l : List C} (h : ∀ x ∈ l, q1G x) : z5X l = .inl (q42 (UInt8.ofNat 10) (l.map F9)) := by
 unfold z5X
 rw [z8Z l 0 [] h, List.nil_append]
end Go.Proofs.YtefppgmopnnphaaDoor
namespace Go.Proofs.YtefppgmopnnphaaDoor
open Go Go.E
set_option maxRecDepth 100000
set_option maxHeartbeats 4000000
set_option linter.unusedSimpArgs false
variable {R : Type} {N : Nat}
def psW : List (List UInt8) → Option (List C)
 | [] => some []
 | [_] => none
 | a :: v :: l => match q3o a v, psW l with
  | some p, some ps => some (p :: ps)
  | _, _ => none
theorem z7H {ws rest : List (List UInt8)} {k i : Nat} (h : ws.drop k = rest) : ws.getD (k + i) [] = rest.getD i [] := by
 rw [← h, List.getD_eq_getElem?_getD, List.getD_eq_getElem?_getD, List.getElem?_drop]
theorem y2c (ws : List (List UInt8)) : ∀ (L : List Nat) (j : Nat) (acc : List C) (rest : List (List UInt8)), ws.drop (1 + 2 * j) = rest → rest.length = 2 * L.length →
  o7 (fun j ps (_ : Nat) => psF ws j ps) j acc L = match psW rest with | some qs => .inl (acc ++ qs) | none => .inr ()
 | [], j, acc, rest, _, hl => by
  cases rest with
  | nil => simp [o7, psW]
  | cons a r => simp at hl
 | _ :: L, j, acc, rest, hd, hl => by
  match rest, hd, hl with
  | [], _, hl => simp at hl
  | [_], _, hl => simp at hl; omega
  | a :: v :: r, hd, hl =>
   have hr : ws.drop (1 + 2 * (j + 1)) = r := by
    have : ws.drop (1 + 2 * j + 2) = r := by rw [← List.drop_drop, hd]; rfl
    rw [show 1 + 2 * (j + 1) = 1 + 2 * j + 2 by omega]; exact this
   have ih := fun acc => y2c ws L (j + 1) acc r hr (by simp only [List.length_cons] at hl; omega)
   have g1 : ws.getD (1 + 2 * j) [] = a := z7H (i := 0) hd
   have g2 : ws.getD (1 + 2 * j + 1) [] = v := z7H (i := 1) hd
   have hF : psF ws j acc = match q3o a v with | some p => .inl (acc ++ [p]) | none => .inr () := by unfold psF; (rw [g1, g2]) <;> rfl
   have hW : psW (a :: v :: r) = match q3o a v, psW r with | some p, some ps => some (p :: ps) | _, _ => none := by rw [psW]
   rw [o7, hF, hW]
   cases hp : q3o a v with
   | none => rfl
   | some p =>
    dsimp only
    rw [ih]
    cases psW r with
    | none => rfl
    | some qs => simp
theorem z6l (w : List UInt8) (l : List (List UInt8)) (h : l.length % 2 = 0) : psR (w :: l) = match psW l with | some qs => .inl qs | none => .inr () := by
 unfold psR
 rw [y2c (w :: l) _ 0 [] l (by simp) (by rw [List.length_range, List.length_cons]; omega)]
 cases psW l <;> rfl
theorem y6u {p : C} (h : C.wf r9 p) : p = .agg [.str (p.get 0).toStr, .int (((p.get 1).toInt.toNat : Nat) : Int), .bool (p.get 2).toBool] := by
 have h0 := C.q0d (i := 0) (f := .str) h rfl
 have h2 := x0p h
 obtain ⟨n, e, _⟩ := z00 (C.q0d (i := 1) (f := .int .u64) h rfl)
 simp only [C.wf] at h0
 have e1 : (((p.get 1).toInt.toNat : Nat) : Int) = (n : Int) := by rw [e, y7, Int.toNat_natCast]
 rw [e1, ← h0.1, ← h2, ← e]
 exact (C.q7b h).symm
theorem y1t {p : C} (h : C.wf r9 p) : q3o (p.get 0).toStr (q6O (p.get 2).toBool :: H2 (p.get 1).toInt.toNat) = some p := by
 obtain ⟨n, e, hn⟩ := z00 (C.q0d (i := 1) (f := .int .u64) h rfl)
 have e1 : (p.get 1).toInt.toNat = n := by rw [e, y7, Int.toNat_natCast]
 have he := y6u h
 rw [e1] at he ⊢
 have hs : (q6O (p.get 2).toBool = UInt8.ofNat 43 ∨ q6O (p.get 2).toBool = UInt8.ofNat 45) := by cases (p.get 2).toBool <;> simp [q6O]
 have hb : decide (q6O (p.get 2).toBool = UInt8.ofNat 45) = (p.get 2).toBool := by cases (p.get 2).toBool <;> rfl
 unfold q3o
 dsimp only
 rw [if_pos hs, z9R hn]
 dsimp only
 rw [hb, ← he]
theorem z7j : ∀ ps : List C, (∀ p ∈ ps, C.wf r9 p) → psW (F5 ps) = some ps
 | [], _ => rfl
 | p :: ps, h => by
  have ih := z7j ps fun q hq => h q (by simp [hq])
  show psW ((p.get 0).toStr :: (q6O (p.get 2).toBool :: H2 (p.get 1).toInt.toNat) :: F5 ps) = _
  rw [psW, y1t (h p (by simp)), ih]
theorem q8q : ∀ ps : List C, (F5 ps).length = 2 * ps.length
 | [] => rfl
 | p :: ps => by
  have ih := q8q ps
  show (F5 ps).length + 1 + 1 = _
  rw [ih, List.length_cons]; omega
theorem y4H {a v : List UInt8} {p : C} (h : q3o a v = some p) : q7a p = [a, v] := by
 unfold q3o at h
 split at h
 ·cases h
 ·rename_i c r
  split at h
  ·rename_i hc
   split at h
   ·rename_i u hu
    cases h
    have ht := z7o hu
    show [a, q6O (decide (c = UInt8.ofNat 45)) :: H2 (Int.toNat (u : Int))] = _
    rw [Int.toNat_natCast, ht]
    rcases hc with rfl | rfl <;> rfl
   ·cases h
  ·cases h
theorem y2b : ∀ (l : List (List UInt8)) (ps : List C), psW l = some ps → F5 ps = l
 | [], ps, h => by cases h; rfl
 | [_], ps, h => by cases h
 | a :: v :: l, ps, h => by
  rw [psW] at h
  cases hp : q3o a v with
  | none => rw [hp] at h; cases h
  | some p =>
   cases hq : psW l with
   | none => rw [hp, hq] at h; cases h
   | some qs =>
    rw [hp, hq] at h
    cases h
    have ih := y2b l qs hq
    show q7a p ++ F5 qs = _
    rw [ih, y4H hp]; rfl
theorem y8m {p : C} (h : q2v p = true) {b : UInt8} (hb : b.toNat < 46) : NoB b (p.get 0).toStr := by
 unfold q2v q0P at h
 simp only [Bool.and_eq_true] at h
 have ha := List.all_eq_true.1 h.1.2
 intro c hc e
 have := ha c hc
 rw [e] at this
 unfold q38 at this
 simp at this
 omega
theorem z7q {b c : UInt8} : ∀ {l : List (List UInt8)}, c ∈ J5 b l → c = b ∨ ∃ x ∈ l, c ∈ x
 | [], h => by cases h
 | x :: l, h => by
  rw [J5, List.cons_append] at h
  rcases List.mem_cons.1 h with h | h
  ·exact .inl h
  ·rcases List.mem_append.1 h with h | h
   ·exact .inr ⟨x, by simp, h⟩
   ·rcases z7q h with h | ⟨y, hy, h⟩
    ·exact .inl h
    ·exact .inr ⟨y, by simp [hy], h⟩
theorem y4w {ps : List C} (h : H3 ps = 0) : ∀ p ∈ ps, q2v p = true := by
 unfold H3 at h
 split at h
 ·cases h
 ·cases ha : ps.all q2v with
  | false => rw [ha] at h; cases h
  | true => exact fun p hp => List.all_eq_true.1 ha p hp
theorem z8V {ps : List C} (hw : ∀ p ∈ ps, C.wf r9 p) (hr : H3 ps = 0) {b : UInt8} (hb : b.toNat < 43) : ∀ w ∈ F5 ps, NoB b w := by
 intro w hm
 obtain ⟨p, hp, hm⟩ := List.mem_flatMap.1 hm
 obtain ⟨n, e, hn⟩ := z00 (C.q0d (i := 1) (f := .int .u64) (hw p hp) rfl)
 have e1 : (p.get 1).toInt.toNat = n := by rw [e, y7, Int.toNat_natCast]
 unfold q7a at hm
 rw [e1] at hm
 rcases List.mem_cons.1 hm with rfl | hm
 ·exact y8m (y4w hr p hp) (by omega)
 ·rw [List.mem_singleton.1 hm]
  intro c hc
  rcases List.mem_cons.1 hc with rfl | hc
  ·intro e
   cases hf : (p.get 2).toBool <;> rw [hf] at e
   ·have : (UInt8.ofNat 43).toNat = b.toNat := by rw [← e]; rfl
    have h43 : (UInt8.ofNat 43).toNat = 43 := rfl
    omega
   ·have : (UInt8.ofNat 45).toNat = b.toNat := by rw [← e]; rfl
    have h45 : (UInt8.ofNat 45).toNat = 45 := rfl
    omega
  ·exact z6R hn (by omega) c hc
theorem z6A {x : C} (hx : C.wf y5 x) : (x.get 0).toInt.toNat < 18446744073709551616 ∧ x = .agg [.int (((x.get 0).toInt.toNat : Nat) : Int), .slice (x.get 1).elems] := by
 obtain ⟨n, e, hn⟩ := z00 (C.q0d (i := 0) (f := .int .u64) hx rfl)
 obtain ⟨p1, _, _⟩ := q3G hx
 have e1 : (x.get 0).toInt.toNat = n := by rw [e, y7, Int.toNat_natCast]
 rw [e1]
 refine ⟨hn, ?_⟩
 rw [← p1, ← e]
 exact (C.q7b hx).symm
theorem y2X {x : C} (hx : C.wf y5 x) (hr : q1G x) : u9 (UInt8.ofNat 32) (F9 x) = H2 (x.get 0).toInt.toNat :: F5 (x.get 1).elems :=
 q8w _ _ _ (z6R (z6A hx).1 (by decide)) (z8V (q3G hx).2.2 hr (by decide))
theorem y5p {x : C} (hx : C.wf y5 x) (hr : q1G x) : F7 (F9 x) = (0, x) := by
 obtain ⟨h1, h2⟩ := z6A hx
 have hl : (H2 (x.get 0).toInt.toNat :: F5 (x.get 1).elems).length % 2 ≠ 0 := by rw [List.length_cons, q8q]; omega
 unfold F7
 rw [y2X hx hr, if_neg hl, List.getD_cons_zero, z9R h1, z6l _ _ (by rw [q8q]; omega), z7j _ (q3G hx).2.2]
 dsimp only
 rw [hr, ← h2]
theorem z7z {x : C} (hx : C.wf y5 x) (hr : q1G x) : NoB (UInt8.ofNat 10) (F9 x) := by
 intro c hc
 unfold F9 at hc
 rcases List.mem_append.1 hc with hc | hc
 ·exact z6R (z6A hx).1 (by decide) c hc
 ·rcases z7q hc with rfl | ⟨w, hw, hc⟩
  ·decide
  ·exact z8V (q3G hx).2.2 hr (by decide) w hw c hc
theorem y64 {s : List UInt8} (h : (F7 s).1 = 0) : F9 (F7 s).2 = s ∧ q1G (F7 s).2 := by
 obtain ⟨w, l, hs⟩ := q56 (UInt8.ofNat 32) s
 have ht := q8u _ _ _ _ hs
 unfold F7 at h ⊢
 rw [hs] at h ⊢
 by_cases hp : (w :: l).length % 2 = 0
 ·rw [if_pos hp] at h; cases h
 ·rw [if_neg hp, List.getD_cons_zero] at h ⊢
  have hl : l.length % 2 = 0 := by rw [List.length_cons] at hp; omega
  cases hn : q4e w with
  | none => rw [hn] at h; cases h
  | some u =>
   rw [hn, z6l w l hl] at h
   rw [z6l w l hl]
   cases hq : psW l with
   | none => rw [hq] at h; cases h
   | some ps =>
    rw [hq] at h
    refine ⟨?_, h⟩
    show H2 (Int.toNat (u : Int)) ++ J5 (UInt8.ofNat 32) (F5 ps) = s
    rw [Int.toNat_natCast, z7o hn, y2b l ps hq, ht]
def z62 : List C → List C → Prop
 | _, [] => True
 | out, x :: l => q4W out (x.get 0).toInt = false ∧ z62 (out ++ [x]) l
theorem y1a {x : C} : ∀ (l out : List C), z62 out l → q4W (out ++ l) (x.get 0).toInt = false → z62 out (l ++ [x])
 | [], out, _, h => ⟨by rwa [List.append_nil] at h, trivial⟩
 | y :: l, out, h, h2 => ⟨h.1, y1a l (out ++ [y]) h.2 (by rw [List.append_assoc]; exact h2)⟩
theorem z98 : ∀ (l : List C) (i : Nat) (out : List C), (∀ x ∈ l, C.wf y5 x) → (∀ x ∈ l, q1G x) → z62 out l → o7 (fun _ out s => q1h out s) i out (l.map F9) = .inl (out ++ l)
 | [], i, out, _, _, _ => by simp [o7]
 | x :: l, i, out, hw, hr, ha => by
  have h1 : q1h out (F9 x) = .inl (out ++ [x]) := by
   unfold q1h
   rw [y5p (hw x (by simp)) (hr x (by simp)), if_pos rfl]
   dsimp only
   rw [ha.1, cond_false]
  rw [List.map_cons, o7, h1]
  dsimp only
  rw [z98 l (i + 1) _ (fun y hy => hw y (by simp [hy])) (fun y hy => hr y (by simp [hy])) ha.2]; simp
theorem z99 : ∀ (ls : List (List UInt8)) (i : Nat) (out out' : List C), o7 (fun _ out s => q1h out s) i out ls = .inl out' → ∃ l, out' = out ++ l ∧ l.map F9 = ls ∧ ∀ x ∈ l, q1G x
 | [], i, out, out', h => by
  simp only [o7] at h
  cases h
  exact ⟨[], by simp, rfl, fun x hx => by cases hx⟩
 | s :: ls, i, out, out', h => by
  rw [o7] at h
  by_cases h0 : (F7 s).1 = 0
  ·cases hb : q4W out ((F7 s).2.get 0).toInt with
   | true =>
    have h1 : q1h out s = .inr 29 := by unfold q1h; rw [if_pos h0, hb]; rfl
    rw [h1] at h; cases h
   | false =>
    have h1 : q1h out s = .inl (out ++ [(F7 s).2]) := by unfold q1h; rw [if_pos h0, hb]; rfl
    rw [h1] at h
    obtain ⟨l, e1, e2, e3⟩ := z99 ls (i + 1) _ out' h
    obtain ⟨f1, f2⟩ := y64 h0
    refine ⟨(F7 s).2 :: l, by rw [e1]; simp, by rw [List.map_cons, e2, f1], fun x hx => ?_⟩
    rcases List.mem_cons.1 hx with rfl | hx
    ·exact f2
    ·exact e3 x hx
  ·have h1 : q1h out s = .inr (F7 s).1 := by unfold q1h; rw [if_neg h0]
   rw [h1] at h; cases h
theorem y0a : ∀ (ls : List (List UInt8)) (i : Nat) (out : List C) (e : Int), o7 (fun _ out s => q1h out s) i out ls = .inr e → e ≠ 0
 | [], i, out, e, h => by simp only [o7] at h; cases h
 | s :: ls, i, out, e, h => by
  rw [o7] at h
  by_cases h0 : (F7 s).1 = 0
  ·cases hb : q4W out ((F7 s).2.get 0).toInt with
   | true =>
    have h1 : q1h out s = .inr 29 := by unfold q1h; rw [if_pos h0, hb]; rfl
    rw [h1] at h; cases h; decide
   | false =>
    have h1 : q1h out s = .inl (out ++ [(F7 s).2]) := by unfold q1h; rw [if_pos h0, hb]; rfl
    rw [h1] at h
    exact y0a ls (i + 1) _ e h
  ·have h1 : q1h out s = .inr (F7 s).1 := by unfold q1h; rw [if_neg h0]
   rw [h1] at h; cases h; exact h0
theorem y4L {j : List C} (hw : ∀ x ∈ j, C.wf y5 x) (hr : ∀ x ∈ j, q1G x) (ha : z62 [] j) (hl : (q42 (UInt8.ofNat 10) (j.map F9)).length ≤ 65536) :
  q7p (q42 (UInt8.ofNat 10) (j.map F9)) = (.slice j, 0) := by
 unfold q7p
 rw [if_neg (by omega)]
 cases j with
 | nil => rfl
 | cons x j =>
  rw [List.map_cons, z1W] at hl ⊢
  rw [if_neg (by simp), if_pos (by simp)]
  have e : (F9 x ++ J5 (UInt8.ofNat 10) (j.map F9) ++ [UInt8.ofNat 10]).dropLast = F9 x ++ J5 (UInt8.ofNat 10) (j.map F9) := by simp
  rw [e, q8w _ _ _ (z7z (hw x (by simp)) (hr x (by simp))) (fun y hy => by
   obtain ⟨z, hz, rfl⟩ := List.mem_map.1 hy
   exact z7z (hw z (by simp [hz])) (hr z (by simp [hz]))), ← List.map_cons]
  unfold z1E
  rw [z98 _ 0 [] hw hr ha]
  rfl
theorem y6x {t : List UInt8} (h : (q7p t).2 = 0) : ∃ k, (q7p t).1 = .slice k ∧ EsW 65537 k ∧ (∀ x ∈ k, q1G x) ∧ z5X k = .inl t := by
 obtain ⟨out, ho, hW⟩ := y8g t
 refine ⟨out, ho, hW, ?_⟩
 unfold q7p at h ho
 split at h
 ·cases h
 ·rename_i h0
  rw [if_neg h0] at ho
  split at h
  ·rename_i h1
   rw [if_pos h1] at ho
   cases ho
   subst h1
   exact ⟨fun x hx => (by cases hx), rfl⟩
  ·rename_i h1
   rw [if_neg h1] at ho
   split at h
   ·rename_i h2
    rw [if_pos h2] at ho
    cases hR : z1E (u9 (UInt8.ofNat 10) t.dropLast) with
    | inr e =>
     rw [hR] at h
     exact absurd h (y0a _ 0 [] e hR)
    | inl out' =>
     rw [hR] at ho
     cases ho
     obtain ⟨l, e1, e2, e3⟩ := z99 _ 0 [] _ hR
     rw [List.nil_append] at e1
     subst e1
     refine ⟨e3, ?_⟩
     rw [y1W e3, e2]
     obtain ⟨w, m, hs⟩ := q56 (UInt8.ofNat 10) t.dropLast
     rw [hs, z1W, ← q8u _ _ _ _ hs]
     obtain ⟨u, c, rfl⟩ := y2i h1
     have hc : c = UInt8.ofNat 10 := by simpa using h2
     rw [hc]; simp
   ·cases h
end Go.Proofs.YtefppgmopnnphaaDoor
namespace Go.Proofs.YtefppgmopnnphaaDoor
open Go Go.E
set_option maxRecDepth 100000
set_option maxHeartbeats 4000000
set_option linter.unusedVariables false
noncomputable def z1z : Hints := [([1, 0, 1], ⟨[], [(0, .d (.int .u32)), (2, .d (.int .i64))], [], [], [], []⟩),
  ([1, 0, 1, 1], ⟨[], [(0, .d (.int .u32)), (2, .d (.int .i64))], [], [], [], []⟩),
  ([9], ⟨[], [(2, .d (.int .i64))], [], [], [], []⟩)]
noncomputable def q6g (N : Nat) : OvS (X0 gl0) where
 g R := []
 ok := fun R => fun _ h => nomatch h
noncomputable def q3a {R : Type} (N : Nat) (a0 : C) (k1 : KD R) : Option R := (jn (fun d1 m1 => (jn (fun d2 m2 => (if 0 ≤ IntKind.wrap IntKind.u8 (C.toInt (dk d2 0)) ∧ IntKind.wrap IntKind.u8 (C.toInt (dk d2 0)) < (↑256 : Int) then (k1 [C.int (IntKind.wrap IntKind.i64 (C.toInt (dk d2 1) + IntKind.wrap IntKind.i64 (↑(UInt8.toNat (List.getD (UInt8.ofNat 0 :: UInt8.ofNat 1 :: UInt8.ofNat 2 :: UInt8.ofNat 2 :: UInt8.ofNat 3 :: UInt8.ofNat 3 :: UInt8.ofNat 3 :: UInt8.ofNat 3 :: UInt8.ofNat 4 :: UInt8.ofNat 4 :: UInt8.ofNat 4 :: UInt8.ofNat 4 :: UInt8.ofNat 4 :: UInt8.ofNat 4 :: UInt8.ofNat 4 :: UInt8.ofNat 4 :: UInt8.ofNat 5 :: UInt8.ofNat 5 :: UInt8.ofNat 5 :: UInt8.ofNat 5 :: UInt8.ofNat 5 :: UInt8.ofNat 5 :: UInt8.ofNat 5 :: UInt8.ofNat 5 :: UInt8.ofNat 5 :: UInt8.ofNat 5 :: UInt8.ofNat 5 :: UInt8.ofNat 5 :: UInt8.ofNat 5 :: UInt8.ofNat 5 :: UInt8.ofNat 5 :: UInt8.ofNat 5 :: UInt8.ofNat 6 :: UInt8.ofNat 6 :: UInt8.ofNat 6 :: UInt8.ofNat 6 :: UInt8.ofNat 6 :: UInt8.ofNat 6 :: UInt8.ofNat 6 :: UInt8.ofNat 6 :: UInt8.ofNat 6 :: UInt8.ofNat 6 :: UInt8.ofNat 6 :: UInt8.ofNat 6 :: UInt8.ofNat 6 :: UInt8.ofNat 6 :: UInt8.ofNat 6 :: UInt8.ofNat 6 :: UInt8.ofNat 6 :: UInt8.ofNat 6 :: UInt8.ofNat 6 :: UInt8.ofNat 6 :: UInt8.ofNat 6 :: UInt8.ofNat 6 :: UInt8.ofNat 6 :: UInt8.ofNat 6 :: UInt8.ofNat 6 :: UInt8.ofNat 6 :: UInt8.ofNat 6 :: UInt8.ofNat 6 :: UInt8.ofNat 6 :: UInt8.ofNat 6 :: UInt8.ofNat 6 :: UInt8.ofNat 6 :: UInt8.ofNat 7 :: UInt8.ofNat 7 :: UInt8.ofNat 7 :: UInt8.ofNat 7 :: UInt8.ofNat 7 :: UInt8.ofNat 7 :: UInt8.ofNat 7 :: UInt8.ofNat 7 :: UInt8.ofNat 7 :: UInt8.ofNat 7 :: UInt8.ofNat 7 :: UInt8.ofNat 7 :: UInt8.ofNat 7 :: UInt8.ofNat 7 :: UInt8.ofNat 7 :: UInt8.ofNat 7 :: UInt8.ofNat 7 :: UInt8.ofNat 7 :: UInt8.ofNat 7 :: UInt8.ofNat 7 :: UInt8.ofNat 7 :: UInt8.ofNat 7 :: UInt8.ofNat 7 :: UInt8.ofNat 7 :: UInt8.ofNat 7 :: UInt8.ofNat 7 :: UInt8.ofNat 7 :: UInt8.ofNat 7 :: UInt8.ofNat 7 :: UInt8.ofNat 7 :: UInt8.ofNat 7 :: UInt8.ofNat 7 :: UInt8.ofNat 7 :: UInt8.ofNat 7 :: UInt8.ofNat 7 :: UInt8.ofNat 7 :: UInt8.ofNat 7 :: UInt8.ofNat 7 :: UInt8.ofNat 7 :: UInt8.ofNat 7 :: UInt8.ofNat 7 :: UInt8.ofNat 7 :: UInt8.ofNat 7 :: UInt8.ofNat 7 :: UInt8.ofNat 7 :: UInt8.ofNat 7 :: UInt8.ofNat 7 :: UInt8.ofNat 7 :: UInt8.ofNat 7 :: UInt8.ofNat 7 :: UInt8.ofNat 7 :: UInt8.ofNat 7 :: UInt8.ofNat 7 :: UInt8.ofNat 7 :: UInt8.ofNat 7 :: UInt8.ofNat 7 :: UInt8.ofNat 7 :: UInt8.ofNat 7 :: UInt8.ofNat 7 :: UInt8.ofNat 7 :: UInt8.ofNat 7 :: UInt8.ofNat 7 :: UInt8.ofNat 7 :: UInt8.ofNat 7 :: List.replicate 128 (UInt8.ofNat 8)) (Int.toNat (IntKind.wrap IntKind.u8 (C.toInt (dk d2 0)))) (UInt8.ofNat 0))) : Int)))] []) else none)) (fun k2 => (bif decide (256 ≤ C.toInt (dk d1 0)) then (k2 [C.int (Int.fdiv (C.toInt (dk d1 0)) (2 ^ min (Int.toNat 8) 32)), C.int (IntKind.wrap IntKind.i64 (C.toInt (dk d1 1) + 8))] []) else (k2 [dk d1 0, dk d1 1] []))))) (fun k2 => (bif decide (65536 ≤ C.toInt a0) then (k2 [C.int (Int.fdiv (C.toInt a0) (2 ^ min (Int.toNat 16) 32)), C.int 16] []) else (k2 [a0, C.int 0] []))))
noncomputable def q1U {R : Type} (N : Nat) : C → KD R → Option R := lid "" (q3a N)
theorem z1y {R : Type} (N : Nat) (a0 : C) (k : KD R) : q1U N a0 k = q3a N a0 k := by unfold q1U; rw [Q9]
theorem z0R {R : Type} (N : Nat) (a0 : C) (K : V → List (Key × O) → Option R) : exF (X0 gl0) ((q6g N).ov R) J9 noX (fun f => bif Nat.beq f 63 then z1z else []) N 400 8 63 [.d (.int .u32) a0] A0 K =
  q1U N a0 (fun d1 m1 => K (V.d (Ty.int IntKind.i64) (dk d1 0)) []) := by
 rw [z1y]
 exact (show _ = jn (fun d1 m1 => (K (V.d (Ty.int IntKind.i64) (dk d1 0)) [])) (q3a N a0) by kernel_rfl).trans (s5 _ _)
noncomputable def q1V (N : Nat) {R : Type} : OvG R := fun xs _ K => match xs with
 | [.d t0 a0] => if t0 = (.int .u32) then q1U N a0 (fun d1 m1 => K (V.d (Ty.int IntKind.i64) (dk d1 0)) []) else none
 | _ => none
theorem q6h (N : Nat) {R : Type} : GOk (X0 gl0) 63 (q1V N (R := R)) := by
 intro xs A Kr r hr
 unfold q1V at hr
 split at hr
 ·simp only [Option.ite_none_right_eq_some] at hr
  obtain ⟨hty, hr⟩ := hr
  subst hty
  rw [← z0R] at hr
  exact okA (q6g N) hr
 ·cases hr
noncomputable def z1x : Hints := [([1, 0, 1], ⟨[], [(0, .d (.int .u64)), (2, .d (.int .i64))], [], [], [], []⟩),
  ([1, 0, 1, 1], ⟨[], [(0, .d (.int .u64)), (2, .d (.int .i64))], [], [], [], []⟩),
  ([1, 0, 1, 1, 1], ⟨[], [(0, .d (.int .u64)), (2, .d (.int .i64))], [], [], [], []⟩),
  ([9], ⟨[], [(2, .d (.int .i64))], [], [], [], []⟩)]
noncomputable def q6e (N : Nat) : OvS (X0 gl0) where
 g R := []
 ok := fun R => fun _ h => nomatch h
noncomputable def q29 {R : Type} (N : Nat) (a0 : C) (k1 : KD R) : Option R := (jn (fun d1 m1 => (jn (fun d2 m2 => (jn (fun d3 m3 => (if 0 ≤ IntKind.wrap IntKind.u8 (C.toInt (dk d3 0)) ∧ IntKind.wrap IntKind.u8 (C.toInt (dk d3 0)) < (↑256 : Int) then (k1 [C.int (IntKind.wrap IntKind.i64 (C.toInt (dk d3 1) + IntKind.wrap IntKind.i64 (↑(UInt8.toNat (List.getD (UInt8.ofNat 0 :: UInt8.ofNat 1 :: UInt8.ofNat 2 :: UInt8.ofNat 2 :: UInt8.ofNat 3 :: UInt8.ofNat 3 :: UInt8.ofNat 3 :: UInt8.ofNat 3 :: UInt8.ofNat 4 :: UInt8.ofNat 4 :: UInt8.ofNat 4 :: UInt8.ofNat 4 :: UInt8.ofNat 4 :: UInt8.ofNat 4 :: UInt8.ofNat 4 :: UInt8.ofNat 4 :: UInt8.ofNat 5 :: UInt8.ofNat 5 :: UInt8.ofNat 5 :: UInt8.ofNat 5 :: UInt8.ofNat 5 :: UInt8.ofNat 5 :: UInt8.ofNat 5 :: UInt8.ofNat 5 :: UInt8.ofNat 5 :: UInt8.ofNat 5 :: UInt8.ofNat 5 :: UInt8.ofNat 5 :: UInt8.ofNat 5 :: UInt8.ofNat 5 :: UInt8.ofNat 5 :: UInt8.ofNat 5 :: UInt8.ofNat 6 :: UInt8.ofNat 6 :: UInt8.ofNat 6 :: UInt8.ofNat 6 :: UInt8.ofNat 6 :: UInt8.ofNat 6 :: UInt8.ofNat 6 :: UInt8.ofNat 6 :: UInt8.ofNat 6 :: UInt8.ofNat 6 :: UInt8.ofNat 6 :: UInt8.ofNat 6 :: UInt8.ofNat 6 :: UInt8.ofNat 6 :: UInt8.ofNat 6 :: UInt8.ofNat 6 :: UInt8.ofNat 6 :: UInt8.ofNat 6 :: UInt8.ofNat 6 :: UInt8.ofNat 6 :: UInt8.ofNat 6 :: UInt8.ofNat 6 :: UInt8.ofNat 6 :: UInt8.ofNat 6 :: UInt8.ofNat 6 :: UInt8.ofNat 6 :: UInt8.ofNat 6 :: UInt8.ofNat 6 :: UInt8.ofNat 6 :: UInt8.ofNat 6 :: UInt8.ofNat 6 :: UInt8.ofNat 6 :: UInt8.ofNat 7 :: UInt8.ofNat 7 :: UInt8.ofNat 7 :: UInt8.ofNat 7 :: UInt8.ofNat 7 :: UInt8.ofNat 7 :: UInt8.ofNat 7 :: UInt8.ofNat 7 :: UInt8.ofNat 7 :: UInt8.ofNat 7 :: UInt8.ofNat 7 :: UInt8.ofNat 7 :: UInt8.ofNat 7 :: UInt8.ofNat 7 :: UInt8.ofNat 7 :: UInt8.ofNat 7 :: UInt8.ofNat 7 :: UInt8.ofNat 7 :: UInt8.ofNat 7 :: UInt8.ofNat 7 :: UInt8.ofNat 7 :: UInt8.ofNat 7 :: UInt8.ofNat 7 :: UInt8.ofNat 7 :: UInt8.ofNat 7 :: UInt8.ofNat 7 :: UInt8.ofNat 7 :: UInt8.ofNat 7 :: UInt8.ofNat 7 :: UInt8.ofNat 7 :: UInt8.ofNat 7 :: UInt8.ofNat 7 :: UInt8.ofNat 7 :: UInt8.ofNat 7 :: UInt8.ofNat 7 :: UInt8.ofNat 7 :: UInt8.ofNat 7 :: UInt8.ofNat 7 :: UInt8.ofNat 7 :: UInt8.ofNat 7 :: UInt8.ofNat 7 :: UInt8.ofNat 7 :: UInt8.ofNat 7 :: UInt8.ofNat 7 :: UInt8.ofNat 7 :: UInt8.ofNat 7 :: UInt8.ofNat 7 :: UInt8.ofNat 7 :: UInt8.ofNat 7 :: UInt8.ofNat 7 :: UInt8.ofNat 7 :: UInt8.ofNat 7 :: UInt8.ofNat 7 :: UInt8.ofNat 7 :: UInt8.ofNat 7 :: UInt8.ofNat 7 :: UInt8.ofNat 7 :: UInt8.ofNat 7 :: UInt8.ofNat 7 :: UInt8.ofNat 7 :: UInt8.ofNat 7 :: UInt8.ofNat 7 :: UInt8.ofNat 7 :: UInt8.ofNat 7 :: List.replicate 128 (UInt8.ofNat 8)) (Int.toNat (IntKind.wrap IntKind.u8 (C.toInt (dk d3 0)))) (UInt8.ofNat 0))) : Int)))] []) else none)) (fun k2 => (bif decide (256 ≤ C.toInt (dk d2 0)) then (k2 [C.int (Int.fdiv (C.toInt (dk d2 0)) (2 ^ min (Int.toNat 8) 64)), C.int (IntKind.wrap IntKind.i64 (C.toInt (dk d2 1) + 8))] []) else (k2 [dk d2 0, dk d2 1] []))))) (fun k2 => (bif decide (65536 ≤ C.toInt (dk d1 0)) then (k2 [C.int (Int.fdiv (C.toInt (dk d1 0)) (2 ^ min (Int.toNat 16) 64)), C.int (IntKind.wrap IntKind.i64 (C.toInt (dk d1 1) + 16))] []) else (k2 [dk d1 0, dk d1 1] []))))) (fun k2 => (bif decide (4294967296 ≤ C.toInt a0) then (k2 [C.int (Int.fdiv (C.toInt a0) (2 ^ min (Int.toNat 32) 64)), C.int 32] []) else (k2 [a0, C.int 0] []))))
noncomputable def q1S {R : Type} (N : Nat) : C → KD R → Option R := lid "" (q29 N)
theorem z1w {R : Type} (N : Nat) (a0 : C) (k : KD R) : q1S N a0 k = q29 N a0 k := by unfold q1S; rw [Q9]
theorem z0Q {R : Type} (N : Nat) (a0 : C) (K : V → List (Key × O) → Option R) : exF (X0 gl0) ((q6e N).ov R) J9 noX (fun f => bif Nat.beq f 64 then z1x else []) N 400 8 64 [.d (.int .u64) a0] A0 K =
  q1S N a0 (fun d1 m1 => K (V.d (Ty.int IntKind.i64) (dk d1 0)) []) := by
 rw [z1w]
 exact (show _ = jn (fun d1 m1 => (K (V.d (Ty.int IntKind.i64) (dk d1 0)) [])) (q29 N a0) by kernel_rfl).trans (s5 _ _)
noncomputable def q1T (N : Nat) {R : Type} : OvG R := fun xs _ K => match xs with
 | [.d t0 a0] => if t0 = (.int .u64) then q1S N a0 (fun d1 m1 => K (V.d (Ty.int IntKind.i64) (dk d1 0)) []) else none
 | _ => none
theorem q6f (N : Nat) {R : Type} : GOk (X0 gl0) 64 (q1T N (R := R)) := by
 intro xs A Kr r hr
 unfold q1T at hr
 split at hr
 ·simp only [Option.ite_none_right_eq_some] at hr
  obtain ⟨hty, hr⟩ := hr
  subst hty
  rw [← z0Q] at hr
  exact okA (q6e N) hr
 ·cases hr
noncomputable def q7g : Hints := [([9], ⟨[], [(2, .d (.int .u64))], [], [], [], []⟩)]
noncomputable def q2Z (N : Nat) : OvS (X0 gl0) where
 g R := [(63, q1V N), (64, q1T N)]
 ok := fun R => List.forall_mem_cons.2 ⟨q6h N, List.forall_mem_cons.2 ⟨q6f N, fun _ h => nomatch h⟩⟩
noncomputable def q1a {R : Type} (N : Nat) (a0 : C) (k1 : KD R) : Option R := (jn (fun d1 m1 => (if 0 ≤ C.toInt (dk d1 0) then (k1 [C.int (IntKind.wrap IntKind.u64 (1 * 2 ^ min (Int.toNat (C.toInt (dk d1 0))) 64))] []) else none)) (fun k2 => none))
noncomputable def F8 {R : Type} (N : Nat) : C → KD R → Option R := lid "" (q1a N)
theorem q7e {R : Type} (N : Nat) (a0 : C) (k : KD R) : F8 N a0 k = q1a N a0 k := by unfold F8; rw [Q9]
theorem q6N {R : Type} (N : Nat) (a0 : C) (K : V → List (Key × O) → Option R) : exF (X0 gl0) ((q2Z N).ov R) J9 noX (fun f => bif Nat.beq f 77 then q7g else bif Nat.beq f 47 then [([9], ⟨[], [(2, .d (.int .i64))], [], [], [], []⟩)] else []) N 400 8 77 [.d (.int .i64) a0] A0 K =
  F8 N a0 (fun d1 m1 => K (V.d (Ty.int IntKind.u64) (dk d1 0)) []) := by
 rw [q7e]
 exact (show _ = jn (fun d1 m1 => (K (V.d (Ty.int IntKind.u64) (dk d1 0)) [])) (q1a N a0) by kernel_rfl).trans (s5 _ _)
noncomputable def q1y (N : Nat) {R : Type} : OvG R := fun xs _ K => match xs with
 | [.d t0 a0] => if t0 = (.int .i64) then F8 N a0 (fun d1 m1 => K (V.d (Ty.int IntKind.u64) (dk d1 0)) []) else none
 | _ => none
theorem q7f (N : Nat) {R : Type} : GOk (X0 gl0) 77 (q1y N (R := R)) := by
 intro xs A Kr r hr
 unfold q1y at hr
 split at hr
 ·simp only [Option.ite_none_right_eq_some] at hr
  obtain ⟨hty, hr⟩ := hr
  subst hty
  rw [← q6N] at hr
  exact okA (q2Z N) hr
 ·cases hr
noncomputable def z0U : Hints := [([9], ⟨[], [(2, .d .bool)], [], [], [], []⟩)]
noncomputable def q5g (N : Nat) : OvS (X0 gl0) where
 g R := []
 ok := fun R => fun _ h => nomatch h
noncomputable def q2S {R : Type} (N : Nat) (a0 : C) (k1 : KD R) : Option R := (k1 [C.bool !C.toStr a0 == C.toStr a0] [])
noncomputable def J4 {R : Type} (N : Nat) : C → KD R → Option R := lid "" (q2S N)
theorem z0S {R : Type} (N : Nat) (a0 : C) (k : KD R) : J4 N a0 k = q2S N a0 k := by unfold J4; rw [Q9]
theorem z0o {R : Type} (N : Nat) (a0 : C) (K : V → List (Key × O) → Option R) : exF (X0 gl0) ((q5g N).ov R) J9 noX (fun f => bif Nat.beq f 48 then z0U else []) N 400 8 48 [.d .str a0] A0 K =
  J4 N a0 (fun d1 m1 => K (V.d Ty.bool (C.bool (C.toBool (dk d1 0)))) []) := by
 rw [z0S]
 exact (show _ = jn (fun d1 m1 => (K (V.d Ty.bool (C.bool (C.toBool (dk d1 0)))) [])) (q2S N a0) by kernel_rfl).trans (s5 _ _)
noncomputable def q3j (N : Nat) {R : Type} : OvG R := fun xs _ K => match xs with
 | [.d t0 a0] => if t0 = .str then J4 N a0 (fun d1 m1 => K (V.d Ty.bool (C.bool (C.toBool (dk d1 0)))) []) else none
 | _ => none
theorem z0T (N : Nat) {R : Type} : GOk (X0 gl0) 48 (q3j N (R := R)) := by
 intro xs A Kr r hr
 unfold q3j at hr
 split at hr
 ·simp only [Option.ite_none_right_eq_some] at hr
  obtain ⟨hty, hr⟩ := hr
  subst hty
  rw [← z0o] at hr
  exact okA (q5g N) hr
 ·cases hr
noncomputable def q9x : Hints := [([9], ⟨[], [(4, .d (.int .i64))], [], [], [], []⟩)]
noncomputable def q4p (N : Nat) : OvS (X0 gl0) where
 g R := [(48, q3j N)]
 ok := fun R => List.forall_mem_cons.2 ⟨z0T N, fun _ h => nomatch h⟩
noncomputable def q2d {R : Type} (N : Nat) (a0 a1 : C) (k1 : KD R) : Option R := (J4 N a0 (fun d1 m1 => (J4 N a1 (fun d2 m2 => (bif C.toBool (dk d1 0) then (bif C.toBool (dk d2 0) then (k1 [C.int 0] []) else (k1 [C.int (-1)] [])) else (bif C.toBool (dk d2 0) then (k1 [C.int 1] []) else (bif Op.bytesLess (C.toStr a0) (C.toStr a1) then (k1 [C.int (-1)] []) else (bif !(Op.bytesLess (C.toStr a0) (C.toStr a1) || C.toStr a0 == C.toStr a1) then (k1 [C.int 1] []) else (k1 [C.int 0] [])))))))))
noncomputable def q0Z {R : Type} (N : Nat) : C → C → KD R → Option R := lid "" (q2d N)
theorem q9v {R : Type} (N : Nat) (a0 a1 : C) (k : KD R) : q0Z N a0 a1 k = q2d N a0 a1 k := by unfold q0Z; rw [Q9]
theorem q8P {R : Type} (N : Nat) (a0 a1 : C) (K : V → List (Key × O) → Option R) : exF (X0 gl0) ((q4p N).ov R) J9 noX (fun f => bif Nat.beq f 33 then q9x else []) N 400 8 33 [.d .str a0, .d .str a1] A0 K =
  q0Z N a0 a1 (fun d1 m1 => K (V.d (Ty.int IntKind.i64) (dk d1 0)) []) := by
 rw [q9v]
 exact (show _ = jn (fun d1 m1 => (K (V.d (Ty.int IntKind.i64) (dk d1 0)) [])) (q2d N a0 a1) by kernel_rfl).trans (s5 _ _)
noncomputable def q2p (N : Nat) {R : Type} : OvG R := fun xs _ K => match xs with
 | [.d t0 a0, .d t1 a1] => if t0 = .str ∧ t1 = .str then q0Z N a0 a1 (fun d1 m1 => K (V.d (Ty.int IntKind.i64) (dk d1 0)) []) else none
 | _ => none
theorem q9w (N : Nat) {R : Type} : GOk (X0 gl0) 33 (q2p N (R := R)) := by
 intro xs A Kr r hr
 unfold q2p at hr
 split at hr
 ·simp only [Option.ite_none_right_eq_some] at hr
  obtain ⟨hty, hr⟩ := hr
  obtain ⟨rfl, rfl⟩ := hty
  rw [← q8P] at hr
  exact okA (q4p N) hr
 ·cases hr
end Go.Proofs.YtefppgmopnnphaaDoor
