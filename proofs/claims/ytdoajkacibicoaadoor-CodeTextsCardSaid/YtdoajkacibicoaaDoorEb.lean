/-
 A framework for runs of Go code over abstract data: what it needs, and that it is sound, part 2.
 Conditions: none.
-/
import Derived.Test.YtdoajkacibicoaaDoorEa
import Derived.MapKept
import Derived.WideKeyRuns
import Derived.Laws.IdiomStrings
set_option linter.all false
namespace Go.E
open Go
theorem z4X {sz : Nat} : ∀ (vs : List Value) (i : Nat) (v : Value), (∀ v ∈ vs, v.cells.size = sz) → vs[i]? = some v → chunk (vs.flatMap fun v => v.cells.toList) (i * sz) sz = v.cells.toList
 | [], _, _, _, h => by simp at h
 | u :: vs, 0, v, hs, h => by
  simp at h; subst h
  have := hs u (by simp)
  simp only [chunk, Nat.zero_mul, List.drop_zero, List.flatMap_cons]
  rw [List.take_append_of_le_length (by simp [this]), List.take_of_length_le (by simp [this])]
 | u :: vs, i + 1, v, hs, h => by
  have hu := hs u (by simp)
  have ih := z4X vs i v (fun v hv => hs v (by simp [hv])) (by simpa using h)
  simp only [chunk, List.flatMap_cons] at ih ⊢
  rw [List.drop_append, List.drop_eq_nil_of_le (by simp [hu, Nat.add_mul]), List.nil_append]
  rw [show (i + 1) * sz - u.cells.toList.length = i * sz by simp [hu, Nat.add_mul]]
  exact ih
theorem z9R (off : Nat) : ∀ (l : List Value) (k : Nat) (cells : Array Value), off + k + l.length ≤ cells.size →
  ((l.zipIdx k).foldl (fun cs (p : Value × Nat) => cs.setIfInBounds (off + p.2) p.1) cells).toList = cells.toList.take (off + k) ++ l ++ cells.toList.drop (off + k + l.length)
 | [], k, cells, _ => by simp
 | v :: l, k, cells, h => by
  simp only [List.length_cons] at h
  simp only [List.zipIdx_cons, List.foldl_cons]
  rw [z9R off l (k + 1) _ (by simp; omega)]
  have hlt : off + k < cells.toList.length := by simp; omega
  simp only [Array.toList_setIfInBounds, List.length_cons]
  rw [show off + (k + 1) = off + k + 1 by omega, List.take_add_one]
  simp only [List.getElem?_set, if_true, hlt]
  rw [List.take_set_of_le (Nat.le_refl _), List.drop_set_of_lt (by omega)]
  rw [show off + k + 1 + l.length = off + k + (l.length + 1) by omega]
  simp
theorem y5Q {place : Nat → Option (Nat × Nat)} {cells : Array Value} {i off size : Nat} {v : Value} {rest : List (Nat × Value)} (hp : place i = some (off, size)) (hv : v.cells.size = size) (hl : off + size ≤ cells.size) :
  ∃ cells', cells'.toList = s7 cells.toList off v.cells.toList ∧ Instr.fill place cells ((i, v) :: rest) = Instr.fill place cells' rest := by
 refine ⟨v.cells.zipIdx.foldl (fun cs (c, j) => cs.setIfInBounds (off + j) c) cells, ?_, ?_⟩
 ·rw [← Array.foldl_toList, Array.toList_zipIdx]
  have := z9R off v.cells.toList 0 cells (by simp; omega)
  simpa [s7] using this
 ·simp only [Instr.fill, hp]
  rw [if_neg]
  simp [hv]
  omega
def Q2 (τ : Ty) (y : V) : V :=
 match y, τ with
 | .nilc, .slice eb e => .emp eb e
 | y, _ => y
def q36 (τ : Ty) : V → List (Nat × V) → V
 | x, [] => x
 | x, (i, v) :: rest => q36 τ (x.setAt [i] (Q2 (τ.get i) v)) rest
def q5A (τ : Ty) : V → List (Nat × V) → Prop
 | _, [] => True
 | x, (i, v) :: rest => (τ.child i).isSome = true ∧ (Q2 (τ.get i) v).ty = τ.get i ∧ (Q2 (τ.get i) v).plain = true ∧ x.at [i] ≠ .any ∧ q5A τ (x.setAt [i] (Q2 (τ.get i) v)) rest
section
variable {P : Program} {Γ : G} {w w' : World} {s : S}
theorem z3W {τ : Ty} {y : V} {v : Value} (h : q9 Γ y v) : q9 Γ (Q2 τ y) v := by
 unfold Q2
 split
 ·rw [X7 h]; exact q2D
 ·exact h
theorem q5J {T : TypeId} {τ : Ty} (hP : u3 P = true) (ht : ty P T = τ) (hk : τ.known = true) {b off : Nat} {arr : Array Value} {E : TypeId} {fr : Nat × Nat} {w : World}
  (hb : w.heap[b]? = some (.cells arr E fr)) (hl : off + τ.size ≤ arr.size) (h1 : q0K (chunk arr.toList off τ.size)) :
  ∃ v, (loadVar T ⟨b, off, none⟩).run P w = .ok v w ∧ v.cells.toList = chunk arr.toList off τ.size ∧ u7 v = τ.isAgg := by
 have hno : ∀ s, τ ≠ .opq s := by intro s e; subst e; simp [Ty.known] at hk
 have hagg := y3C (w := w) ht hno
 have hsz := run_sizeOf (w := w) hP (T := T) (by intro s e; exact hno s (ht ▸ e))
 rw [ht] at hsz
 unfold loadVar
 cases ha : τ.isAgg with
 | true =>
  have hlen : (chunk arr.toList off τ.size).length = τ.size := k8 _ _ _ (by simpa using hl)
  have := run_loadCells_list (P := P) w ⟨b, off, none⟩ (chunk arr.toList off τ.size) (fun j v hv => by
   rw [addr_add]
   rw [s8] at hv
   split at hv
   ·simp [World.cell?, hb]; simpa using hv
   ·cases hv)
  rw [hlen] at this
  refine ⟨.agg (chunk arr.toList off τ.size).toArray, ?_, by simp [Value.cells], rfl⟩
  simp [hagg, ha, hsz, this]
 | false =>
  have h0 : τ.size = 1 := Ty.size_leaf hk ha
  have hlt : off < arr.size := by omega
  have hc : chunk arr.toList off τ.size = [arr[off]] := by
   rw [h0]; simp [chunk, List.drop_eq_getElem_cons (l := arr.toList) (i := off) (by simpa using hlt)]
  have hone : arr[off].oneCell' = true := h1 _ (by rw [hc]; simp)
  have hna : u7 arr[off] = false := by cases hv : arr[off] <;> simp_all [Value.oneCell', u7]
  refine ⟨arr[off], ?_, by rw [u4 hna, hc], hna⟩
  have hcell : w.cell? ⟨b, off, none⟩ = some arr[off] := by simp [World.cell?, hb, Array.getElem?_eq_getElem hlt]
  simp [hagg, ha, hcell]
theorem z3D (hP : u3 P = true) (c : y9 Γ w s) {T : TypeId} {k : Key} {q : List Nat} {τ : Ty} {x : V} {v : Value}
  (hr : q9 Γ (.ptr k q τ) v) (ho : s.obj k = some (.box x)) (hne : x.at q ≠ .any) (ht : τ = ty P T) (hk : τ.known = true) :
  ∃ u, (Instr.loadAt T v).run P w = .ok u w ∧ q9 Γ (view (x.at q)) u := by
 obtain ⟨b, τ0, o, h1, h2, rfl⟩ := q0e hr
 obtain ⟨b', cells, E, e1, _, _, hb, hsz, hrep, hxp, _⟩ := c.own (by assumption) ho
 rw [h1] at e1
 cases e1
 obtain ⟨g1, g2, g3⟩ := hrep.at_ h2 hne hxp
 have hcl : (chunk cells.toList 0 x.ty.size).length = x.ty.size := k8 _ _ _ (by simpa using hsz)
 rw [hcl] at g2
 have hch : chunk (chunk cells.toList 0 x.ty.size) o τ.size = chunk cells.toList o τ.size := by rw [c8 _ _ _ _ _ g2, Nat.zero_add]
 rw [hch] at g3
 have hpl := V.q28 g3 hne
 obtain ⟨u, r1, r2, r3⟩ := q5J (T := T) (E := E) (fr := (0, 0)) hP ht.symm hk hb (by omega) (g3.one hpl)
 refine ⟨u, ?_, (u0 (by rw [y11]; exact hpl)).2 ⟨?_, by rw [y1m, g1, r3]⟩⟩
 ·simp [Instr.loadAt, Instr.sureAddr, r1]
 ·rw [r2]; exact z8z _ g3
theorem z2R : ∀ {q : List Nat} {τ0 f : Ty} {o : Nat} {i : Nat}, τ0.walk (q ++ [i]) = some (o, f) → ∃ o1 τ o2, τ0.walk q = some (o1, τ) ∧ τ.child i = some (o2, f) ∧ o = o1 + o2
 | [], τ0, f, o, i, h => by
  simp only [List.nil_append, Ty.walk] at h
  cases hc : τ0.child i with
  | none => rw [hc] at h; cases h
  | some x =>
   obtain ⟨o2, f2⟩ := x
   rw [hc] at h
   simp only [Option.some.injEq, Prod.mk.injEq] at h
   obtain ⟨rfl, rfl⟩ := h
   exact ⟨0, τ0, o2, rfl, hc, by omega⟩
 | j :: q, τ0, f, o, i, h => by
  simp only [List.cons_append, Ty.walk] at h ⊢
  cases hc : τ0.child j with
  | none => rw [hc] at h; cases h
  | some x =>
   obtain ⟨o3, f3⟩ := x
   rw [hc] at h
   simp only at h ⊢
   cases hw : f3.walk (q ++ [i]) with
   | none => rw [hw] at h; cases h
   | some y =>
    obtain ⟨o4, f4⟩ := y
    rw [hw] at h
    simp only [Option.some.injEq, Prod.mk.injEq] at h
    obtain ⟨rfl, rfl⟩ := h
    obtain ⟨o1, τ, o2, h1, h2, rfl⟩ := z2R hw
    exact ⟨o3 + o1, τ, o2, by rw [h1], h2, by omega⟩
theorem y5A (hP : u3 P = true) (c : y9 Γ w s) {T : TypeId} {k : Key} {q : List Nat} {lo m M : Nat} {e : Ty} {x : V} {cc : C} {v : Value}
  (hr : q9 Γ (.ptr k (q ++ [lo]) e) v) (ho : s.obj k = some (.box x)) (hat : x.at q = .d (.arr M e) cc) (ht : ty P T = .arr m e) (hk : (Ty.arr m e).known = true) (hlo : lo + m ≤ M) :
  ∃ u, (Instr.loadAt T v).run P w = .ok u w ∧ q9 Γ (.d (.arr m e) (.agg ((cc.elems.drop lo).take m))) u := by
 obtain ⟨b, τ0, o, h1, h2, rfl⟩ := q0e hr
 obtain ⟨b', cells, E, e1, _, _, hb, hsz, hrep, hxp, _⟩ := c.own (by assumption) ho
 rw [h1] at e1
 cases e1
 obtain ⟨o1, τ, o2, w1, w2, rfl⟩ := z2R h2
 obtain ⟨g1, g2, g3⟩ := hrep.at_ w1 (by rw [hat]; simp) hxp
 have hcl : (chunk cells.toList 0 x.ty.size).length = x.ty.size := k8 _ _ _ (by simpa using hsz)
 rw [hcl] at g2
 have hch : chunk (chunk cells.toList 0 x.ty.size) o1 τ.size = chunk cells.toList o1 τ.size := by rw [c8 _ _ _ _ _ g2, Nat.zero_add]
 rw [hch, hat] at g3
 rw [hat] at g1
 simp only [V.ty] at g1
 subst g1
 simp only [q8, y4, Ty.size] at g3
 obtain ⟨cs, rfl, r1, r2, r3, r4⟩ := g3
 simp only [C.elems]
 simp only [Ty.child] at w2
 split at w2
 ·rename_i hlM
  simp only [Option.some.injEq, Prod.mk.injEq, and_true] at w2
  subst w2
  simp only [Ty.size] at g2
  have hlen : ((cs.drop lo).take m).length = m := by simp; omega
  have hms : (lo + m) * e.size ≤ M * e.size := Nat.mul_le_mul_right _ hlo
  rw [Nat.add_mul] at hms
  have hcl2 : (chunk cells.toList (o1 + lo * e.size) (m * e.size)).length = m * e.size := k8 _ _ _ (by simp; omega)
  have hel : ∀ i c, ((cs.drop lo).take m)[i]? = some c → y4 Γ.H e (chunk (chunk cells.toList (o1 + lo * e.size) (m * e.size)) (i * e.size) e.size) c := by
   intro i c hi
   rw [List.getElem?_take] at hi
   split at hi
   ·rename_i hin
    rw [List.getElem?_drop] at hi
    have h9 := r4 _ _ hi
    have hle : (i + 1) * e.size ≤ m * e.size := Nat.mul_le_mul_right _ hin
    rw [Nat.add_mul] at hle
    rw [Nat.add_mul] at h9
    rw [c8 _ _ _ _ _ (by omega)] at h9 ⊢
    rw [show o1 + lo * e.size + i * e.size = o1 + (lo * e.size + i * e.size) by omega]
    exact h9
   ·cases hi
  have h4 : y4 Γ.H (.arr m e) (chunk cells.toList (o1 + lo * e.size) (Ty.arr m e).size) (.agg ((cs.drop lo).take m)) := by
   simp only [y4, Ty.size]
   exact ⟨_, rfl, hlen, hcl2, z6X hlen hcl2 hel, hel⟩
  obtain ⟨u, q1, q2, q3⟩ := q5J (T := T) (E := E) (fr := (0, 0)) (off := o1 + lo * e.size) hP ht hk hb (by simp only [Ty.size]; omega) h4.one
  refine ⟨u, ?_, Q4.2 ⟨by rw [q2]; exact h4, q3⟩⟩
  simp [Instr.loadAt, Instr.sureAddr, q1]
 ·cases w2
theorem y3S (hP : u3 P = true) (c : y9 Γ w s) {T : TypeId} {τ : Ty} {cc : C} {v : Value}
  (hr : q9 Γ (.cptr τ cc) v) (ht : τ = ty P T) (hk : τ.known = true) :
  ∃ u, (Instr.loadAt T v).run P w = .ok u w ∧ q9 Γ (.d τ cc) u := by
 obtain ⟨b, off, l, rfl, h2, h3, h4⟩ := q54 hr
 obtain ⟨arr, E, fr, r, hb, hl⟩ := c.hH b l h2
 have hch : chunk arr.toList off τ.size = chunk l off τ.size := by rw [hl, q10 _ _ _ _ h3]
 have hsz : off + τ.size ≤ arr.size := by rw [← Array.length_toList, hl, List.length_append]; omega
 obtain ⟨u, r1, r2, r3⟩ := q5J (T := T) hP ht.symm hk hb hsz (by rw [hch]; exact h4.one)
 exact ⟨u, by simp [Instr.loadAt, Instr.sureAddr, r1], Q4.2 ⟨by rw [r2, hch]; exact h4, r3⟩⟩
theorem y10 {cells : Array Value} (h : U1 z0U cells.toList = true) : cells = #[.pointer none, .slice none 0 0] := by
 apply Array.ext'
 generalize cells.toList = l at h
 simp only [z0U, U1, q1O, Bool.and_eq_true, beq_iff_eq, decide_eq_true_eq, Ty.size, chunk] at h
 obtain ⟨⟨h1, _⟩, ⟨_, h2⟩, ⟨_, h3⟩, _⟩ := h
 match l, h1 with
 | [a, b], _ =>
  simp only [List.drop_zero, List.take_succ_cons, List.take_zero, List.drop_succ_cons] at h2 h3
  cases a <;> simp [q4h] at h2
  cases b <;> simp [q4h] at h3
  obtain ⟨⟨rfl, rfl⟩, rfl⟩ := h3
  subst h2
  rfl
def z58 (τ : Ty) (T : TypeId) : O := bif Ty.beq τ z0U then .it [] T else .box (j3 τ)
theorem y57 (c : y9 Γ w s) {o : Oper} {a : Act} {T : TypeId} {n : Nat} (ho : o.op = .alloc T) (hn : s.obj (.l n) = none) (hz : Q0 P T = true) :
  s9 P o a w (o9 Γ w { s with loc := (.l n, z58 (ty P T) T) :: s.loc } (.ptr (.l n) [] (ty P T))) := by
 obtain ⟨z, hrun, hzo, hag⟩ := z8H hz
 have hlen := q0C hzo
 cases hB : Ty.beq (ty P T) z0U with
 | true =>
  have e := (Ty.beq_iff _ _).1 hB
  rw [e] at hzo
  have hz2 : z.cells = #[.pointer none, .slice none 0 0] := y10 hzo
  obtain ⟨h1, h2, h3⟩ := c.j4 hn (Ext.alloc w (.cells z.cells T)) (τ := z0U) (o := .it [] T) fun Γ' hpr _ hι hH hZ => ⟨w.heap.size, .pointer none, .slice none 0 0, hι, hH, hZ, by rw [heap_alloc_new, hz2], .inl rfl, by simp, .inl ⟨rfl, rfl⟩⟩
  simp only [z58, hB, cond_true]
  rw [e]
  refine s9.val (v := .pointer (some ⟨w.heap.size, 0, none⟩)) (w' := w.alloc (.cells z.cells T)) ?_ ⟨_, h3, h2, h1, (u0 rfl).2 ⟨?_, by simp [V.ty, Ty.isAgg, u7]⟩⟩
  ·unfold execOp
   simp only [ho, Instr.alloc, Sem.run_bind, hrun, Result.andThen_ok]
   simp [newVar, newRow]
  ·simp only [q8]
   exact ⟨w.heap.size, z0U, 0, by simp [G.j4, q0P], rfl, by simp [Value.cells]⟩
 | false =>
 simp only [z58, hB, cond_false]
 have hX : q8 Γ none [] (j3 (ty P T)) z.cells.toList := q7X (ty P T) hzo
 have hb := z6c c hn (T := T) (x := j3 (ty P T)) (cells := z.cells) (Ext.alloc w _) (heap_alloc_new w (.cells z.cells T)) (by rw [q4g, ← hlen]; simp) (by rw [q4g, ← hlen, q4u]; exact hX) (q5G _) (z32 _)
 rw [q4g] at hb
 refine s9.val (v := .pointer (some ⟨w.heap.size, 0, none⟩)) (w' := w.alloc (.cells z.cells T)) ?_ hb
 unfold execOp
 simp only [ho, Instr.alloc, Sem.run_bind, hrun, Result.andThen_ok]
 simp [newVar, newRow]
theorem y8D (c : y9 Γ w s) {o : Oper} {a : Act} {T : TypeId} {x : Operand} {n : Nat} {y : V} (ho : o.op = .box T x) (hn : s.obj (.l n) = none) (hr : q9 Γ y (a.eval x)) (hpl : y.plain = true) (hns : y.r8 = true) :
  s9 P o a w (o9 Γ w { s with loc := (.l n, .box y) :: s.loc } (.ptr (.l n) [] y.ty)) := by
 obtain ⟨h1, _⟩ := (u0 hpl).1 hr
 have hlen := h1.length hpl
 have hb := z6c c hn (T := T) (x := y) (cells := (a.eval x).cells) (Ext.alloc w _) (heap_alloc_new w (.cells (a.eval x).cells T)) (by rw [← hlen]; simp) (by rw [← hlen, q4u]; exact h1) hpl hns
 refine s9.val (v := .pointer (some ⟨w.heap.size, 0, none⟩)) (w' := w.alloc (.cells (a.eval x).cells T)) ?_ hb
 unfold execOp
 simp only [ho, Instr.box]
 simp [newVar, newRow]
theorem y7N (c : y9 Γ w s) {o : Oper} {a : Act} {T : TypeId} {x : Operand} {y : V} {cc : C} (ho : o.op = .box T x) (hr : q9 Γ y (a.eval x)) (hpl : y.plain = true) (hc : b9 y = some cc) :
  s9 P o a w (o9 Γ w s (.cptr y.ty cc)) := by
 obtain ⟨h1, _⟩ := (u0 hpl).1 hr
 have hlen := h1.length hpl
 obtain ⟨c1, p1, g1⟩ := c.q0X (l := (a.eval x).cells.toList) (r := []) (Ext.alloc w _) (heap_alloc_new w (.cells (a.eval x).cells T)) (by simp)
 refine s9.val (v := .pointer (some ⟨w.heap.size, 0, none⟩)) (w' := w.alloc (.cells (a.eval x).cells T)) ?_ ⟨_, g1, p1, c1, q02 (l := (a.eval x).cells.toList) (k7 _ _ _) (by rw [hlen]; omega) ?_⟩
 ·unfold execOp
  simp only [ho, Instr.box]
  simp [newVar, newRow]
 ·have := (q2j _ h1 hc).mono p1.H
  rw [← hlen, q4u]
  exact this
theorem y9.write (c : y9 Γ w s) {k : Key} {x x' : V} {b : Nat} {τ : Ty} {cells' : Array Value} {T : TypeId}
  (ho : s.obj k = some (.box x)) (hι : Γ.ι k = some (b, τ)) (hnew : w'.heap[b]? = some (.cells cells' T (0, 0))) (hsame : ∀ b', b' ≠ b → w'.heap[b']? = w.heap[b']?) (hoo : oof w' = oof w)
  (hsz : x'.ty.size ≤ cells'.size) (hx : q8 Γ (some k) [] x' (chunk cells'.toList 0 x'.ty.size)) (ht : x'.ty = x.ty) (hp : x'.plain = true) (hns : x'.r8 = true)
  (hcs : ∀ arr T fr, w.heap[b]? = some (.cells arr T fr) → cells'.size = arr.size) :
  y9 Γ w' { s with loc := (k, .box x') :: s.loc } := by
 obtain ⟨hH, hZ, hlt, e2⟩ := c.q0u hι ho rfl
 simp only [O.ty] at e2
 refine c.change (.refl Γ) rfl rfl rfl hoo (fun b' l h => ?_) (fun b' h => hsame b' (fun e => by subst e; exact h hZ)) (fun b' o sz h => ?_) (fun j o h => ?_) (fun _ h _ => h) (fun j h => ?_) (fun b' sz h => ?_) (c.z1C (q93 fun h => by rw [Y5 ho] at h; cases h)) c.tok c.tdom (z0X hnew hsame)
 ·rw [hsame b' (fun e => by subst e; rw [hH] at h; cases h)]; exact c.hH b' l h
 ·obtain ⟨a1, a2, a3⟩ := c.hκ b' o sz h
  rw [hsame b' (fun e => by subst e; exact a2 hH)]; exact ⟨a1, a2, a3⟩
 ·rw [Q6] at h
  split at h
  ·rename_i e
   subst e; cases h
   exact .inr ⟨b, cells', T, by rw [hι, e2, ht], hH, hZ, hnew, hsz, hx, hp, hns⟩
  ·rename_i e
   refine .inl ⟨h, fun hd => ⟨fun _ _ _ _ => ⟨rfl, rfl⟩, fun b' τ' hb => ?_⟩⟩
   obtain ⟨a1, a2, a3, _⟩ := c.q0u hb h hd
   refine ⟨hsame b' (fun e' => ?_), a1⟩
   subst e'
   exact e (c.y5F hι hb (by rw [Y5 ho]; rfl) (by rw [Y5 h]; exact hd))
 ·rw [Q6]
  split
  ·simp
  ·exact c.dom j h
 ·obtain ⟨arr, T1, fr, a1, a2⟩ := c.hσ b' sz h
  by_cases e : b' = b
  ·subst e
   exact ⟨cells', T, (0, 0), hnew, by rw [hcs _ _ _ a1]; exact a2⟩
  ·exact ⟨arr, T1, fr, by rw [hsame b' e]; exact a1, a2⟩
theorem z8I {T : TypeId} {τ : Ty} (hP : u3 P = true) (ht : ty P T = τ) (hk : τ.known = true) {b off : Nat} {arr : Array Value} {E : TypeId} {v : Value}
  (hb : w.heap[b]? = some (.cells arr E (0, 0))) (hl : off + τ.size ≤ arr.size) (hv : v.cells.toList.length = τ.size) (h1 : q0K v.cells.toList) :
  (storeVar T ⟨b, off, none⟩ v).run P w = .ok () (w.setRow b (s7 arr.toList off v.cells.toList).toArray) := by
 have hsz := run_sizeOf (w := w) hP (T := T) (by intro s e; rw [ht] at e; subst e; simp [Ty.known] at hk)
 rw [ht] at hsz
 have hv' : v.cells.size = τ.size := by simpa using hv
 have hst := run_storeCells_at P b off E v.cells.toList 0 arr w hb (by simp; omega) h1
 simp only [Nat.add_zero] at hst
 simp [storeVar, hsz, hv', hst, s7]
theorem z0d (vs ws : List Value) {o n : Nat} (h : o + ws.length ≤ n) (hn : n ≤ vs.length) : chunk (s7 vs o ws) 0 n = s7 (chunk vs 0 n) o ws := by
 apply List.ext_getElem?
 intro i
 have hl : (chunk vs 0 n).length = n := k8 _ _ _ (by omega)
 rw [s8, X2 (by omega), X2 (by omega), s8]
 simp only [Nat.zero_add]
 by_cases hi : i < n
 ·rw [if_pos hi, if_pos hi]
 ·rw [if_neg hi, if_neg (by omega), if_neg hi]
theorem y0g (hP : u3 P = true) (c : y9 Γ w s) {o : Oper} {a : Act} {t : TypeId} {l cp : Operand} {L Cp : V} {k1 k2 : IntKind} {nl nc : Nat} {n : Nat} {eb : Nat} {e : Ty}
  (ho : o.op = .makeSlice t l cp) (ht : ty P t = .slice eb e) (hz : Q0 P (v7 P t) = true) (hn : s.obj (.l n) = none)
  (hl : a.eval l = .int k1 nl) (hc : a.eval cp = .int k2 nc) (h1 : nl ≤ nc) (h2 : nc ≤ maxLen) (hb : nc * eb ≤ 140737488355328) (hes : e.size ≠ 0) {cpv : Option Nat} (hcpv : ∀ c, cpv = some c → nc = c) :
  s9 P o a w (o9 Γ w { s with loc := (.l n, .box (.d (.arr nl e) (.agg (List.replicate nl (Y6 e))))) :: s.loc } (.sr (.l n) [] 0 nl cpv eb e)) := by
 obtain ⟨hu, he, heb, hE⟩ := q11 hP ht
 obtain ⟨i, z, hi, hzz, hzo, hzo2⟩ := q4p hz
 have hcz := q0C hzo
 have hsz : i.size = e.size := by
  have := b8 hP 11 (v7 P t)
  rw [he, this]; simp [Program.cellsOf, hi]
 have hby : i.bytes = eb := by rw [heb]; simp [Program.bytesOf, hi]
 have hzc : z.cells.size = e.size := by
  have h1 := b8 hP 11 (v7 P t)
  have h2 := q5h hP (v7 P t)
  rw [he, h1, ← h2, ← hcz]; simp
 have w1 : IntKind.i64.wrap (nl : Int) = nl := IntWalk.i64_in _ (by unfold maxLen at h2; omega)
 have w2 : IntKind.i64.wrap (nc : Int) = nc := IntWalk.i64_in _ (by unfold maxLen at h2; omega)
 have hb' : ¬ (281474976710656 : Int) < (eb : Int) * (nc : Int) := by
  have : (eb : Int) * (nc : Int) = ((nc * eb : Nat) : Int) := by rw [Int.mul_comm]; push_cast; rfl
  rw [this]; omega
 have hrun : (Instr.makeSlice t (a.eval l) (a.eval cp)).run P w = .ok (.slice (some ⟨w.heap.size, 0, none⟩) nl nc) (w.alloc (.cells ((Array.range (nc * e.size)).map (z.cells[· % z.cells.size]!)) (v7 P t))) := by
  by_cases h0 : nc = 0
  ·subst h0
   have : nl = 0 := by omega
   subst this
   have h00 : (Array.map (fun _ => (default : Value)) (Array.range 0)) = #[] := by apply Array.eq_empty_of_size_eq_zero; simp
   have h01 : (Array.map (fun x => z.cells[x % z.cells.size]!) (Array.range 0)) = #[] := by apply Array.eq_empty_of_size_eq_zero; simp
   have w0 : IntKind.i64.wrap 0 = 0 := by decide
   simp [Instr.makeSlice, hl, hc, run_underlying hu, asInt, asIntOf, typeInfo, hi, w0, sizeOf, hsz, newRow, h00, h01]
  ·have h3 : ¬ (nc * e.size = 0) := Nat.mul_ne_zero h0 hes
   have h4 : ¬ ((nc : Int) < (nl : Int)) := by omega
   have h5 : ¬ ((nc : Int) < 0) := by omega
   have h6 : ¬ ((nl : Int) < 0) := by omega
   simp [Instr.makeSlice, hl, hc, run_underlying hu, asInt, asIntOf, typeInfo, hi, w1, w2, sizeOf, hsz, newRow, h3, hby, hb', h4, h5, h6, zeroValue, hzz]
 have hsize : ((Array.range (nc * e.size)).map (z.cells[· % z.cells.size]!)).size = nc * e.size := by rw [Array.size_map, Array.size_range]
 have hnl : nl * e.size ≤ nc * e.size := Nat.mul_le_mul_right _ h1
 have hX : ∀ j, j < nl → chunk ((Array.range (nc * e.size)).map (z.cells[· % z.cells.size]!)).toList (j * e.size) e.size = z.cells.toList := by
  intro j hlt
  apply List.ext_getElem?
  intro q
  rw [s8]
  have hb2 : (j + 1) * e.size ≤ nc * e.size := Nat.mul_le_mul_right _ (by omega)
  rw [Nat.add_mul] at hb2
  split
  ·rename_i hq
   have e1 : (j * e.size + q) % z.cells.size = q := by rw [hzc, Nat.add_comm, Nat.add_mul_mod_self_right, Nat.mod_eq_of_lt hq]
   rw [Array.toList_map, List.getElem?_map, Array.toList_range, List.getElem?_range (by omega)]
   simp only [Option.map_some, e1]
   have : q < z.cells.size := by omega
   simp [getElem!_pos z.cells q this]
  ·rw [List.getElem?_eq_none (by simp; omega)]
 have hrep : q8 Γ none [] (.d (.arr nl e) (.agg (List.replicate nl (Y6 e)))) (chunk ((Array.range (nc * e.size)).map (z.cells[· % z.cells.size]!)).toList 0 (V.d (.arr nl e) (.agg (List.replicate nl (Y6 e)))).ty.size) := by
  simp only [q8, V.ty, Ty.size]
  have hlen : (chunk ((Array.range (nc * e.size)).map (z.cells[· % z.cells.size]!)).toList 0 (nl * e.size)).length = nl * e.size := k8 _ _ _ (by simp only [Array.length_toList, hsize]; omega)
  have hel : ∀ i c', (List.replicate nl (Y6 e))[i]? = some c' → y4 Γ.H e (chunk (chunk ((Array.range (nc * e.size)).map (z.cells[· % z.cells.size]!)).toList 0 (nl * e.size)) (i * e.size) e.size) c' := by
   intro i c' hi
   rw [List.getElem?_replicate] at hi
   split at hi
   ·rename_i hlt
    cases hi
    have hb2 : (i + 1) * e.size ≤ nl * e.size := Nat.mul_le_mul_right _ hlt
    rw [Nat.add_mul] at hb2
    rw [c8 _ _ _ _ _ (by omega), Nat.zero_add, hX i hlt, he]
    exact W8 hzo2
   ·cases hi
  simp only [y4]
  exact ⟨_, rfl, by simp, hlen, q1T (by simp) hlen hel, hel⟩
 obtain ⟨Γ', q1, q2, q3, q4⟩ := z6c c hn (T := v7 P t) (Ext.alloc w _) (heap_alloc_new w (.cells ((Array.range (nc * e.size)).map (z.cells[· % z.cells.size]!)) (v7 P t))) (by rw [hsize]; exact hnl) hrep rfl rfl
 obtain ⟨y1, y2, y3⟩ := q3.q6S (heap_alloc_new w (.cells ((Array.range (nc * e.size)).map (z.cells[· % z.cells.size]!)) (v7 P t)))
 refine s9.val (v := .slice (some ⟨w.heap.size, 0, none⟩) nl nc) (w' := w.alloc (.cells ((Array.range (nc * e.size)).map (z.cells[· % z.cells.size]!)) (v7 P t))) ?_ ⟨_, q1.trans y3, q2.trans y2, y1, ?_⟩
 ·unfold execOp
  simp only [ho, Sem.run_bind, hrun, Result.andThen_ok, Sem.run_pure]
 ·obtain ⟨b, τ0, o', r1, r2, r3⟩ := q0e q4
  simp at r3
  obtain ⟨rfl, rfl⟩ := r3
  exact q9E (show (G.q6S Γ' _ _).ι (.l n) = _ from r1) r2 (by omega) (.inr (by simp)) h1 h2 (Nat.le_trans (Nat.mul_le_mul_right _ h1) hb) hcpv (fun _ => .inr ⟨_, k7 _ _ _, by rw [hsize, Nat.zero_add, Nat.zero_add]; exact Nat.le_refl _⟩)
theorem q9m (hP : u3 P = true) (c : y9 Γ w s) {o : Oper} {a : Act} {t : TypeId} {len : Nat} {parts : Array (Nat × Operand)} {cs : List C} {eb : Nat} {e : Ty}
  (ho : o.op = .buildSlice t len parts) (ht : ty P t = .slice eb e) (hz : Q0 P (v7 P t) = true) (hlen : 0 < len) (hes : e.size ≠ 0) (hsmall : len * e.size ≤ 16777216) (hb : len * eb ≤ 140737488355328)
  (hidx : parts.toList.map (·.1) = List.range len) (hcs : cs.length = len)
  (hx : ∀ (i : Nat) (x : Nat × Operand) (cc : C), parts.toList[i]? = some x → cs[i]? = some cc → q9 Γ (.d e cc) (a.eval x.2)) :
  s9 P o a w (fun v w' => (∃ ad, v = .slice ad len len) ∧ o9 Γ w s (.d (.slice eb e) (.slice cs)) v w') := by
 obtain ⟨hu, he, heb, hE⟩ := q11 hP ht
 obtain ⟨i, z, hi, hzz, hzo, hzo2⟩ := q4p hz
 have hcz := q0C hzo
 have hsz : i.size = e.size := by
  have := b8 hP 11 (v7 P t)
  rw [he, this]; simp [Program.cellsOf, hi]
 have hzc : z.cells.size = e.size := by
  have h1 := b8 hP 11 (v7 P t)
  have h2 := q5h hP (v7 P t)
  rw [he, h1, ← h2, ← hcz]; simp
 have hpl : parts.toList.length = len := by have := congrArg List.length hidx; simpa using this
 -- the values
 have hvs : (parts.map fun (i, x) => (i, a.eval x)).toList = ((parts.toList.map fun x => a.eval x.2).zipIdx 0).map fun x => (x.2, x.1) := by
  apply List.ext_getElem?
  intro j
  simp only [Array.toList_map, List.getElem?_map, List.getElem?_zipIdx]
  cases hj : parts.toList[j]? with
  | none => simp
  | some x =>
   have : (parts.toList.map (·.1))[j]? = some x.1 := by simp [hj]
   rw [hidx] at this
   have hlt : j < len := by rw [← hpl]; exact (List.getElem?_eq_some_iff.1 hj).1
   simp [List.getElem?_range hlt] at this
   simp [this]
 have hrep : ∀ (j : Nat) (v : Value), (parts.toList.map fun x => a.eval x.2)[j]? = some v → ∃ cc, cs[j]? = some cc ∧ q9 Γ (.d e cc) v := by
  intro j v hj
  simp only [List.getElem?_map] at hj
  cases hx' : parts.toList[j]? with
  | none => simp [hx'] at hj
  | some x =>
   simp [hx'] at hj
   have hlt : j < len := by rw [← hpl]; exact (List.getElem?_eq_some_iff.1 hx').1
   have hcj : cs[j]? = some cs[j] := List.getElem?_eq_getElem (by omega)
   exact ⟨_, hcj, hj ▸ hx j x _ hx' hcj⟩
 have hsizes : ∀ v ∈ (parts.toList.map fun x => a.eval x.2), v.cells.size = e.size := by
  intro v hv
  obtain ⟨j, hj⟩ := List.mem_iff_getElem?.1 hv
  obtain ⟨cc, _, hr⟩ := hrep j v hj
  have := (Q4.1 hr).1.length
  simpa using this
 have hf := Great.fill_whole (s := e.size) (by omega) (parts.toList.map fun x => a.eval x.2) ((Array.range (len * e.size)).map (z.cells[· % z.cells.size]!)) hsizes (by simp [hpl])
 have run := run_buildSlice (P := P) w t (v7 P t) len (parts.map fun (i, x) => (i, a.eval x)) _ i z hu hi hzz (by rw [hsz]; omega) (by rw [hsz]; exact Nat.mul_ne_zero (by omega) hes) (by rw [hsz, hvs]; exact hf)
 have hflen : ((parts.toList.map fun x => a.eval x.2).flatMap fun v => v.cells.toList).length = len * e.size := by
  simp only [List.length_flatMap]
  have : (List.map (fun v => v.cells.toList.length) (parts.toList.map fun x => a.eval x.2)) = List.replicate len e.size := by
   apply List.eq_replicate_iff.2
   refine ⟨by simp [hpl], fun b hb => ?_⟩
   obtain ⟨v, hv, rfl⟩ := List.mem_map.1 hb
   simpa using hsizes v hv
  rw [this]; simp
 obtain ⟨c1, p1, g1⟩ := c.q0X (Ext.alloc w _) (l := (parts.toList.map fun x => a.eval x.2).flatMap fun v => v.cells.toList) (r := []) (heap_alloc_new w (.cells ((parts.toList.map fun x => a.eval x.2).flatMap fun v => v.cells.toList).toArray (v7 P t))) (by simp)
 refine s9.val (v := .slice (some ⟨w.heap.size, 0, none⟩) len len) (w' := w.alloc (.cells ((parts.toList.map fun x => a.eval x.2).flatMap fun v => v.cells.toList).toArray (v7 P t))) ?_ ⟨⟨_, rfl⟩, _, g1, p1, c1, q1o (r6 hcs (Nat.le_refl _) (by have := Nat.le_mul_of_pos_right len (Nat.pos_of_ne_zero hes); unfold maxLen; omega) hb (.inr ⟨w.heap.size, 0, _, rfl, k7 _ _ _, by rw [hflen]; omega, fun j c' hj => ?_⟩))⟩
 ·unfold execOp
  simp only [ho, Sem.run_bind, run, Result.andThen_ok, Sem.run_pure]
 ·have hlt : j < len := by rw [← hcs]; exact (List.getElem?_eq_some_iff.1 hj).1
  have hv : (parts.toList.map fun x => a.eval x.2)[j]? = some ((parts.toList.map fun x => a.eval x.2)[j]'(by simp [hpl]; omega)) := List.getElem?_eq_getElem _
  obtain ⟨cc, hcc, hr⟩ := hrep j _ hv
  rw [hj] at hcc; cases hcc
  have := z4X _ j _ hsizes hv
  rw [Nat.zero_add, this]
  exact (Q4.1 hr).1.mono p1.H
theorem z71 (hP : u3 P = true) (c : y9 Γ w s) {o : Oper} {a : Act} {t : TypeId} {len : Nat} {parts : Array (Nat × Operand)} {cs : List C} {eb : Nat} {e : Ty}
  (ho : o.op = .buildSlice t len parts) (ht : ty P t = .slice eb e) (hz : Q0 P (v7 P t) = true) (hlen : 0 < len) (hes : e.size ≠ 0) (hsmall : len * e.size ≤ 16777216) (hb : len * eb ≤ 140737488355328)
  (hidx : parts.toList.map (·.1) = List.range len) (hcs : cs.length = len)
  (hx : ∀ (i : Nat) (x : Nat × Operand) (cc : C), parts.toList[i]? = some x → cs[i]? = some cc → q9 Γ (.d e cc) (a.eval x.2)) :
  s9 P o a w (o9 Γ w s (.d (.slice eb e) (.slice cs))) :=
 (q9m hP c ho ht hz hlen hes hsmall hb hidx hcs hx).mono fun _ _ h => h.2
theorem z6v (hP : u3 P = true) (c : y9 Γ w s) {o : Oper} {a : Act} {t : TypeId} {len : Nat} {parts : Array (Nat × Operand)} {cs : List C} {eb : Nat} {e : Ty} {n : Nat} (hn : s.known n = false)
  (ho : o.op = .buildSlice t len parts) (ht : ty P t = .slice eb e) (hz : Q0 P (v7 P t) = true) (hlen : 0 < len) (hes : e.size ≠ 0) (hsmall : len * e.size ≤ 16777216) (hb : len * eb ≤ 140737488355328)
  (hidx : parts.toList.map (·.1) = List.range len) (hcs : cs.length = len)
  (hx : ∀ (i : Nat) (x : Nat × Operand) (cc : C), parts.toList[i]? = some x → cs[i]? = some cc → q9 Γ (.d e cc) (a.eval x.2)) :
  s9 P o a w (o9 Γ w { s with tk := (n, some cs.length) :: s.tk } (.sl eb e cs n)) := by
 refine (q9m hP c ho ht hz hlen hes hsmall hb hidx hcs hx).mono ?_
 rintro v w' ⟨⟨ad, rfl⟩, Γ', g1, p1, c1, hr⟩
 obtain ⟨c2, p2, g2⟩ := c1.W4 hn (x := none) (L := cs.length) (fun _ _ _ h => by cases h)
 refine ⟨_, g1.trans g2, p1.trans p2, c2, (s5 rfl rfl).2 ⟨?_, rfl⟩⟩
 obtain ⟨h1, _⟩ := (s5 rfl rfl).1 (hr.b5 p2)
 simp only [q8] at h1 ⊢
 exact ⟨ad, len, len, rfl, h1, none, cs.length, by simp [G.W4, Q8], Nat.le_refl _, fun _ => rfl⟩
theorem z6w (hP : u3 P = true) (c : y9 Γ w s) {o : Oper} {a : Act} {t : TypeId} {eb : Nat} {e : Ty} (ho : o.op = .buildSlice t 0 #[]) (ht : ty P t = .slice eb e) :
  s9 P o a w (o9 Γ w s (.emp eb e)) := by
 obtain ⟨hu, he, heb, hE⟩ := q11 hP ht
 have hz := q0n (f := 11) hP (w := w) hE
 refine s9.val (v := .slice (some ⟨w.heap.size, 0, none⟩) 0 0) (w' := w.alloc (.cells #[] (v7 P t))) ?_ (.ext c (Ext.alloc _ _) q2D)
 have h0 : (Array.map (fun _ => (default : Value)) (Array.range 0)) = #[] := by apply Array.eq_empty_of_size_eq_zero; simp
 unfold execOp
 simp [ho, Instr.buildSlice, run_underlying hu, hz, Instr.fill, newRow, h0]
theorem z3P {place : Nat → Option (Nat × Nat)} {τ : Ty} (hd : τ.J4 = true) (hpl : ∀ i o f, τ.child i = some (o, f) → place i = some (o, f.size)) {ρ : Operand → V} {ev : Operand → Value} :
  ∀ (L : List (Nat × Operand)) (x : V) (cells : Array Value), q8 Γ none [] x cells.toList → x.ty = τ → x.plain = true → (∀ p ∈ L, q9 Γ (ρ p.2) (ev p.2)) → q5A τ x (L.map fun p => (p.1, ρ p.2)) →
  ∃ cells', Instr.fill place cells (L.map fun p => (p.1, ev p.2)) = some cells' ∧ q8 Γ none [] (q36 τ x (L.map fun p => (p.1, ρ p.2))) cells'.toList ∧ (q36 τ x (L.map fun p => (p.1, ρ p.2))).ty = τ ∧ (q36 τ x (L.map fun p => (p.1, ρ p.2))).plain = true
 | [], x, cells, hx, ht, hp, _, _ => ⟨cells, rfl, hx, ht, hp⟩
 | (i, y) :: L, x, cells, hx, ht, hp, hr, hok => by
  simp only [List.map_cons, q5A] at hok
  obtain ⟨h1, h2, h3, h4, h6⟩ := hok
  obtain ⟨⟨o, f⟩, hc⟩ := Option.isSome_iff_exists.1 h1
  have hf := q6z hc
  rw [hf] at h2 h3 h6
  have hy := z3W (τ := f) (hr (i, y) (by simp))
  obtain ⟨q1, q2⟩ := (u0 h3).1 hy
  have hwalk : x.ty.walk [i] = some (o, (Q2 f (ρ y)).ty) := by rw [ht, h2]; simp [Ty.walk, hc]
  obtain ⟨g1, g2, _⟩ := hx.at_ hwalk h4 hp
  have hlen := q1.length h3
  rw [h2] at hlen g2
  have q3 : q8 Γ none ([] ++ [i]) (Q2 f (ρ y)) (ev y).cells.toList := q1.Y2
  obtain ⟨r1, r2, r3⟩ := q8.setAt hx hp (by rw [ht]; exact hd) hwalk h4 q3 h3
  obtain ⟨cells', e1, e2⟩ := y5Q (rest := L.map fun p => (p.1, ev p.2)) (hpl i o f hc) (by simpa using hlen) (by simpa using g2)
  simp only [List.map_cons, e2, q36, hf]
  exact z3P hd hpl L _ cells' (by rw [e1]; exact r1) (by rw [r2, ht]) r3 (fun p hp' => hr p (by simp [hp'])) h6
theorem y0Z {gs : List Field} : ∀ {places : List (Nat × Nat)} {j : Nat} {g : Field}, gs.mapM (fun f => (P.info? f.type).map fun i => (f.offset, i.size)) = some places → gs[j]? = some g → places[j]? = some (g.offset, P.cellsOf g.type) := by
 induction gs with
 | nil => intro places j g _ hj; simp at hj
 | cons g0 gs ih =>
  intro places j g h hj
  simp only [List.mapM_cons, Option.bind_eq_bind, Option.pure_def] at h
  cases hi : P.info? g0.type with
  | none => simp [hi] at h
  | some it =>
   cases hr : gs.mapM (fun f => (P.info? f.type).map fun i => (f.offset, i.size)) with
   | none => simp [hi, hr] at h
   | some rest =>
    simp [hi, hr] at h
    subst h
    cases j with
    | zero => simp at hj; subst hj; simp [Program.cellsOf, hi]
    | succ j => simpa using ih hr (by simpa using hj)
theorem mapM_some {gs : List Field} (h : ∀ g ∈ gs, g.type < P.types.size) : ∃ places, gs.mapM (fun f => (P.info? f.type).map fun i => (f.offset, i.size)) = some places := by
 induction gs with
 | nil => exact ⟨[], rfl⟩
 | cons g gs ih =>
  obtain ⟨rest, hr⟩ := ih fun g' hg' => h g' (by simp [hg'])
  have hlt := h g (by simp)
  cases hi : P.info? g.type with
  | none => simp [Tables.info?, hlt] at hi
  | some it => exact ⟨(g.offset, it.size) :: rest, by simp [List.mapM_cons, hi, hr]⟩
theorem y56 (hP : u3 P = true) {T : TypeId} {parts : Array (Nat × Operand)} {ρ : Operand → V} {ev : Operand → Value} (hz : Q0 P T = true) (hd : (ty P T).J4 = true) (hs : (ty P T).isAgg = true)
  (hr : ∀ p ∈ parts.toList, q9 Γ (ρ p.2) (ev p.2)) (hok : q5A (ty P T) (j3 (ty P T)) (parts.toList.map fun p => (p.1, ρ p.2))) :
  ∃ v, (Instr.build T (parts.map fun p => (p.1, ev p.2))).run P w = .ok v w ∧ q9 Γ (q36 (ty P T) (j3 (ty P T)) (parts.toList.map fun p => (p.1, ρ p.2))) v := by
 obtain ⟨it, z, hi, hzz, hzo, _⟩ := q4p hz
 have hX : q8 Γ none [] (j3 (ty P T)) z.cells.toList := q7X (ty P T) hzo
 have hXp := q5G (ty P T)
 cases hτ : ty P T with
 | struct sz os fs =>
  obtain ⟨gs, hu, rfl, rfl, hsz, hgs⟩ := z0P hP hτ
  obtain ⟨places, hpm⟩ := mapM_some (P := P) (gs := gs.toList) fun g hg => (hgs g hg).1
  have hpl : ∀ i o f, (ty P T).child i = some (o, f) → (places.toArray[i]?) = some (o, f.size) := by
   intro i o f hc
   rw [hτ] at hc
   simp only [Ty.child, List.getElem?_map] at hc
   cases hg : gs.toList[i]? with
   | none => rw [hg] at hc; simp at hc
   | some g =>
    rw [hg] at hc
    simp at hc
    obtain ⟨rfl, rfl⟩ := hc
    rw [b8 hP 11 g.type]
    simpa using y0Z hpm hg
  obtain ⟨cells', e1, e2, e3, e4⟩ := z3P (Γ := Γ) hd hpl parts.toList (j3 (ty P T)) z.cells hX (q4g _) hXp hr hok
  refine ⟨.agg cells', run_build w T _ cells' ?_, ?_⟩
  ·simp only [Program.built, hi, hu, hzz, hpm, Array.toList_map]
   exact e1
  ·rw [← hτ]
   refine (u0 e4).2 ⟨by simpa [Value.cells] using e2, ?_⟩
   rw [e3, hτ]; simp [u7, Ty.isAgg]
 | arr n e =>
  obtain ⟨E, hu, he⟩ := q8N hτ
  have hT : T < P.types.size := by
   rcases Nat.lt_or_ge T P.types.size with hh | hh
   ·exact hh
   ·unfold ty tyF at hτ; rw [if_neg (Nat.not_lt.2 hh)] at hτ; cases hτ
  have hok' := q3a hP hT
  unfold okT at hok'
  simp only [hu] at hok'
  simp at hok'
  obtain ⟨ie, hie⟩ : ∃ i, P.info? E = some i := by
   cases hi : P.info? E with
   | none => simp [Tables.info?, hok'.2] at hi
   | some i => exact ⟨i, rfl⟩
  have hes : ie.size = e.size := by
   have := b8 hP 11 E
   rw [he, this]; simp [Program.cellsOf, hie]
  have hpl : ∀ i o f, (ty P T).child i = some (o, f) → (fun i => some (i * ie.size, ie.size) : Nat → Option (Nat × Nat)) i = some (o, f.size) := by
   intro i o f hc
   rw [hτ] at hc
   simp only [Ty.child] at hc
   split at hc
   ·simp at hc; obtain ⟨rfl, rfl⟩ := hc; simp [hes]
   ·cases hc
  obtain ⟨cells', e1, e2, e3, e4⟩ := z3P (Γ := Γ) hd hpl parts.toList (j3 (ty P T)) z.cells hX (q4g _) hXp hr hok
  refine ⟨.agg cells', run_build w T _ cells' ?_, ?_⟩
  ·simp only [Program.built, hi, hu, hzz, hie, Array.toList_map]
   exact e1
  ·rw [← hτ]
   refine (u0 e4).2 ⟨by simpa [Value.cells] using e2, ?_⟩
   rw [e3, hτ]; simp [u7, Ty.isAgg]
 | int | bool | str | slice | ptr | map | func | iface | opq => rw [hτ] at hs; simp [Ty.isAgg] at hs
end
end Go.E
namespace Go.E
open Go
mutual
def V.sites (lv : Nat → Option Nat) : List Nat → V → List (Nat × List Nat)
 | p, .sl _ _ cs t => if lv t = some cs.length then [(t, p)] else []
 | p, .agg _ vs => V.z0Y lv p 0 vs
 | _, _ => []
def V.z0Y (lv : Nat → Option Nat) : List Nat → Nat → List V → List (Nat × List Nat)
 | _, _, [] => []
 | p, i, x :: xs => V.sites lv (p ++ [i]) x ++ V.z0Y lv p (i + 1) xs
end
mutual
def V.j9 (σ : List (Nat × List Nat)) (lv : Nat → Option Nat) : List Nat → V → V
 | p, .sl eb e cs t => if look σ t = some p ∧ lv t = some cs.length then .ts eb e cs else .d (.slice eb e) (.slice cs)
 | p, .agg τ vs => .agg τ (V.q2s σ lv p 0 vs)
 | _, x => x
def V.q2s (σ : List (Nat × List Nat)) (lv : Nat → Option Nat) : List Nat → Nat → List V → List V
 | _, _, [] => []
 | p, i, x :: xs => V.j9 σ lv (p ++ [i]) x :: V.q2s σ lv p (i + 1) xs
end
theorem V.z0q (σ : List (Nat × List Nat)) (lv : Nat → Option Nat) : ∀ (p : List Nat) (i : Nat) (xs : List V), (V.q2s σ lv p i xs).length = xs.length
 | _, _, [] => rfl
 | p, i, x :: xs => by simp [V.q2s, V.z0q σ lv p (i + 1) xs]
theorem V.q7J (σ : List (Nat × List Nat)) (lv : Nat → Option Nat) (p : List Nat) (x : V) : (x.j9 σ lv p).ty = x.ty := by
 cases x <;> simp only [V.j9] <;> (try split) <;> simp [V.ty]
theorem V.z3c (σ : List (Nat × List Nat)) (lv : Nat → Option Nat) (p : List Nat) (x : V) : (x.j9 σ lv p).plain = x.plain := by
 cases x <;> simp only [V.j9] <;> (try split) <;> simp [V.plain]
mutual
def V.okH : V → Bool
 | .fn _ vs => V.Y8 vs
 | .agg _ vs => V.z9g vs
 | .tup _ => false
 | _ => true
def V.z9g : List V → Bool
 | [] => true
 | x :: xs => x.okH && V.z9g xs
end
mutual
theorem V.q9T (σ : List (Nat × List Nat)) (lv : Nat → Option Nat) : ∀ (x : V) (p : List Nat), x.okH = true → (x.j9 σ lv p).r8 = true
 | .sl eb e cs t, p, _ => by simp only [V.j9]; split <;> rfl
 | .agg τ vs, p, h => by simp only [V.j9, V.r8]; exact V.z3b σ lv vs p 0 (by simpa [V.okH] using h)
 | .fn f vs, p, h => by simpa [V.j9, V.r8, V.okH] using h
 | .tup _, p, h => by simp [V.okH] at h
 | .d _ _, _, _ | .ts _ _ _, _, _ | .emp _ _, _, _ | .nilc, _, _ | .ptr _ _ _, _, _ | .cptr _ _, _, _ | .sr _ _ _ _ _ _ _, _, _ | .mp _, _, _ | .top _, _, _ | .any, _, _ => by simp [V.j9, V.r8]
theorem V.z3b (σ : List (Nat × List Nat)) (lv : Nat → Option Nat) : ∀ (xs : List V) (p : List Nat) (i : Nat), V.z9g xs = true → V.Y8 (V.q2s σ lv p i xs) = true
 | [], _, _, _ => rfl
 | x :: xs, p, i, h => by
  simp only [V.z9g, Bool.and_eq_true] at h
  simp only [V.q2s, V.Y8, Bool.and_eq_true]
  exact ⟨V.q9T σ lv x _ h.1, V.z3b σ lv xs _ _ h.2⟩
end
def G.home (Γ : G) (k : Key) (σ : List (Nat × List Nat)) : G :=
 { Γ with κ := fun b => match Γ.κ b with
   | some (.tok t, sz) => match look σ t with
    | some p => some (.home k p, sz)
    | none => some (.tok t, sz)
   | x => x }
def q41 (σ : List (Nat × List Nat)) : List (Nat × Option Nat) := σ.map fun x => (x.1, none)
theorem q5N (σ : List (Nat × List Nat)) (tk : List (Nat × Option Nat)) (t : Nat) : look (q41 σ ++ tk) t = match look σ t with | some _ => some none | none => look tk t := by
 induction σ with
 | nil => rfl
 | cons x σ ih =>
  obtain ⟨u, p⟩ := x
  simp only [q41, List.map_cons, List.cons_append, look] at ih ⊢
  split
  ·rfl
  ·exact ih
section
variable {P : Program} {Γ : G} {w w' : World} {s : S}
theorem j7.home (Γ : G) (k : Key) (σ : List (Nat × List Nat)) : j7 Γ (Γ.home k σ) := ⟨Hp.le_refl _, fun _ _ h => h, fun t x L h => ⟨x, L, h, Nat.le_refl _, fun _ => rfl⟩, fun _ _ h => h⟩
mutual
theorem q8.j9 (c : y9 Γ w s) (k : Key) (σ : List (Nat × List Nat)) : ∀ (x : V) {p : List Nat} {vs : List Value}, q8 Γ none p x vs → q8 (Γ.home k σ) (some k) p (x.j9 σ s.live p) vs
 | .sl eb e cs t, p, vs, h => by
  simp only [q8] at h
  obtain ⟨a, n, cap, rfl, h2, x, L, h3, h4, h5⟩ := h
  simp only [V.j9]
  split
  ·rename_i hc
   obtain ⟨hσ, hl⟩ := hc
   obtain ⟨x', h6, h7⟩ := c.tok t _ hl
   rw [h3] at h6; cases h6
   have h5 := h5 rfl
   simp only [q8]
   refine ⟨a, n, cap, k, rfl, rfl, h2, ?_⟩
   cases x with
   | none => exact .inl h5
   | some y =>
    obtain ⟨b, pos, sz⟩ := y
    simp only at h5
    obtain ⟨⟨l, a1, a2⟩, a3⟩ := h7 b pos sz rfl
    exact .inr ⟨b, l, sz, h5.1, a1, by rw [a2]; exact h5.2.1, by simp [G.home, a3, hσ], h5.2.2⟩
  ·simp only [q8]; exact h2
 | .agg τ xs, p, vs, h => by
  simp only [q8] at h
  simp only [V.j9, q8]
  exact ⟨h.1, h.2.1, by rw [V.z0q]; exact h.2.2.1, h.2.2.2.1, x9.j9 c k σ xs h.2.2.2.2⟩
 | .ts _ _ _, _, _, h => by
  simp only [q8] at h
  obtain ⟨_, _, _, _, h0, _⟩ := h
  cases h0
 | .tup _, _, _, h => by simp only [q8] at h
 | .d τ cc, _, _, h => by simp only [V.j9]; exact (q8.b5 (j7.home Γ k σ) (hm := none) trivial _ h).Y2
 | .emp _ _, _, _, h => by simp only [V.j9]; exact (q8.b5 (j7.home Γ k σ) (hm := none) trivial _ h).Y2
 | .nilc, _, _, h => by simp only [V.j9]; exact (q8.b5 (j7.home Γ k σ) (hm := none) trivial _ h).Y2
 | .ptr _ _ _, _, _, h => by simp only [V.j9]; exact (q8.b5 (j7.home Γ k σ) (hm := none) trivial _ h).Y2
 | .cptr _ _, _, _, h => by simp only [V.j9]; exact (q8.b5 (j7.home Γ k σ) (hm := none) trivial _ h).Y2
 | .sr _ _ _ _ _ _ _, _, _, h => by simp only [V.j9]; exact (q8.b5 (j7.home Γ k σ) (hm := none) trivial _ h).Y2
 | .mp _, _, _, h => by simp only [V.j9]; exact (q8.b5 (j7.home Γ k σ) (hm := none) trivial _ h).Y2
 | .fn _ _, _, _, h => by simp only [V.j9]; exact (q8.b5 (j7.home Γ k σ) (hm := none) trivial _ h).Y2
 | .top _, _, _, h => by simp only [V.j9]; exact (q8.b5 (j7.home Γ k σ) (hm := none) trivial _ h).Y2
 | .any, _, _, _ => by simp only [V.j9, q8]
theorem x9.j9 (c : y9 Γ w s) (k : Key) (σ : List (Nat × List Nat)) : ∀ (xs : List V) {p : List Nat} {i : Nat} {τ : Ty} {vs : List Value}, x9 Γ none p i τ xs vs → x9 (Γ.home k σ) (some k) p i τ (V.q2s σ s.live p i xs) vs
 | [], _, _, _, _, _ => by simp only [V.q2s, x9]
 | x :: xs, _, _, _, _, h => by
  simp only [x9] at h
  simp only [V.q2s, x9, V.q7J]
  obtain ⟨⟨o, f, h1, h2, h3, h4⟩, h5⟩ := h
  exact ⟨⟨o, f, h1, h2, h3, q8.j9 c k σ x h4⟩, x9.j9 c k σ xs h5⟩
end
theorem y9.home (c : y9 Γ w s) (k : Key) (σ : List (Nat × List Nat)) : y9 (Γ.home k σ) w { s with tk := q41 σ ++ s.tk } ∧ GLe Γ (Γ.home k σ) := by
 refine ⟨?_, ⟨Hp.le_refl _, rfl, fun _ _ => rfl, fun _ _ h => h, rfl, rfl, fun _ _ h => h, fun _ h => h⟩⟩
 have hlive : ∀ t L, S.live { s with tk := q41 σ ++ s.tk } t = some L → look σ t = none ∧ s.live t = some L := by
  intro t L h
  unfold S.live F4 at h
  simp only [q5N] at h
  cases hs : look σ t with
  | some p => simp [hs] at h
  | none => rw [hs] at h; exact ⟨rfl, h⟩
 refine c.change (j7.home Γ k σ) rfl rfl rfl rfl c.hH (fun _ _ => rfl) (fun b o sz h => ?_) (fun j o h => ?_) (fun _ h _ => h) c.dom c.hσ c.inj (fun t L h => ?_) (fun t h => ?_) (Nat.le_refl _)
 ·simp only [G.home] at h
  cases hk : Γ.κ b with
  | none => simp [hk] at h
  | some y =>
   obtain ⟨o', sz'⟩ := y
   have : sz' = sz := by
    cases o' with
    | home => simp [hk] at h; exact h.2
    | tok t => simp only [hk] at h; split at h <;> simp at h <;> exact h.2
   subst this
   obtain ⟨a1, a2, arr, T, a3, a4, a5⟩ := c.hκ b o' sz' hk
   refine ⟨a1, a2, arr, T, a3, a4, ?_⟩
   cases o' with
   | home => simp [hk] at h; rw [← h]; exact a5
   | tok t => simp only [hk] at h; split at h <;> simp at h <;> rw [← h] <;> trivial
 ·refine .inl ⟨h, fun hd => ⟨fun b p sz hb => ⟨by simp [G.home, hb], rfl⟩, fun b τ hb => ?_⟩⟩
  obtain ⟨a1, _⟩ := c.q0u hb h hd
  exact ⟨rfl, a1⟩
 ·obtain ⟨h1, h2⟩ := hlive t L h
  obtain ⟨x, h3, h4⟩ := c.tok t L h2
  refine ⟨x, h3, fun b pos sz hx => ?_⟩
  obtain ⟨a1, a2⟩ := h4 b pos sz hx
  exact ⟨a1, by simp [G.home, a2, h1]⟩
 ·have := c.tdom t h
  unfold S.known at this ⊢
  rw [q5N]
  split
  ·rfl
  ·exact this
theorem y5x (c : y9 Γ w s) {n : Nat} (hn : s.obj (.l n) = none) {x : V} {cells : Array Value} {T : TypeId} (he : Ext w w') (hw : w'.heap[w.heap.size]? = some (.cells cells T (0, 0))) (hsz : x.ty.size ≤ cells.size)
  (hx : q8 Γ none [] x (chunk cells.toList 0 x.ty.size)) (hp : x.plain = true) (hok : x.okH = true) :
  o9 Γ w { s with loc := (.l n, .box (x.j9 (x.sites s.live []) s.live [])) :: s.loc, tk := q41 (x.sites s.live []) ++ s.tk } (.ptr (.l n) [] x.ty) (.pointer (some ⟨w.heap.size, 0, none⟩)) w' := by
 obtain ⟨c0, g0⟩ := c.home (.l n) (x.sites s.live [])
 have p0 := j7.home Γ (.l n) (x.sites s.live [])
 have hx' := hx.j9 c (.l n) (x.sites s.live [])
 obtain ⟨h1, h2, h3⟩ := c0.j4 (k := .l n) hn he (τ := x.ty) (o := .box (x.j9 (x.sites s.live []) s.live [])) fun Γ' hpr hkh hι hH hZ =>
  ⟨_, cells, T, by rw [V.q7J]; exact hι, hH, hZ, hw, by rw [V.q7J]; exact hsz, by rw [V.q7J]; exact hx'.b5 hpr hkh, by rw [V.z3c]; exact hp, V.q9T _ _ _ _ hok⟩
 exact ⟨_, g0.trans h3, p0.trans h2, h1, q2C (τ0 := x.ty) (by simp [G.j4, q0P]) rfl⟩
theorem y7M (c : y9 Γ w s) {o : Oper} {a : Act} {T : TypeId} {x : Operand} {n : Nat} {y : V} (ho : o.op = .box T x) (hn : s.obj (.l n) = none) (hr : q9 Γ y (a.eval x)) (hpl : y.plain = true) (hok : y.okH = true) :
  s9 P o a w (o9 Γ w { s with loc := (.l n, .box (y.j9 (y.sites s.live []) s.live [])) :: s.loc, tk := q41 (y.sites s.live []) ++ s.tk } (.ptr (.l n) [] y.ty)) := by
 obtain ⟨h1, _⟩ := (u0 hpl).1 hr
 have hlen := h1.length hpl
 have hb := y5x c hn (T := T) (x := y) (cells := (a.eval x).cells) (Ext.alloc w _) (heap_alloc_new w (.cells (a.eval x).cells T)) (by rw [← hlen]; simp) (by rw [← hlen, q4u]; exact h1) hpl hok
 refine s9.val (v := .pointer (some ⟨w.heap.size, 0, none⟩)) (w' := w.alloc (.cells (a.eval x).cells T)) ?_ hb
 unfold execOp
 simp only [ho, Instr.box]
 simp [newVar, newRow]
theorem z1h : ∀ {xs : List V} {i : Nat} {y : V}, V.Y8 xs = true → y.r8 = true → V.Y8 (xs.set i y) = true
 | [], _, _, _, _ => rfl
 | x :: xs, 0, y, h, hy => by simp [V.Y8] at h ⊢; exact ⟨hy, h.2⟩
 | x :: xs, i + 1, y, h, hy => by simp [V.Y8] at h ⊢; exact ⟨h.1, z1h h.2 hy⟩
theorem z1i (c : C) : ∀ (j : Nat) (fs : List Ty), V.Y8 (U8 c j fs) = true
 | _, [] => rfl
 | j, f :: fs => by simp [U8, V.Y8, V.r8, z1i c (j + 1) fs]
theorem V.y5v : ∀ (x : V) (i : Nat) (y : V), x.r8 = true → y.r8 = true → (x.set i y).r8 = true
 | .d τ c, i, y, _, hy => by
  cases y <;> simp only [V.set] <;> first | rfl | (simp only [V.r8]; exact z1h (z1i _ _ _) hy)
 | .agg τ vs, i, y, hx, hy => by simp only [V.set, V.r8]; exact z1h (by simpa [V.r8] using hx) hy
 | .sl _ _ _ _, _, _, h, _ => by simp [V.r8] at h
 | .ts _ _ _, _, _, _, _ | .emp _ _, _, _, _, _ | .nilc, _, _, _, _ | .ptr _ _ _, _, _, _, _ | .cptr _ _, _, _, _, _ | .sr _ _ _ _ _ _ _, _, _, _, _ | .mp _, _, _, _, _ | .fn _ _, _, _, _, _ | .tup _, _, _, _, _ | .top _, _, _, _, _ | .any, _, _, _, _ => by simp [V.set, V.r8]
theorem z64 : ∀ {xs : List V} {i : Nat} {x : V}, V.Y8 xs = true → xs[i]? = some x → x.r8 = true
 | [], _, _, _, h => by simp at h
 | y :: ys, 0, x, h, hx => by simp [V.Y8] at h; simp at hx; subst hx; exact h.1
 | y :: ys, i + 1, x, h, hx => by simp [V.Y8] at h; exact z64 h.2 (by simpa using hx)
theorem V.y5w {x : V} (h : x.r8 = true) (i : Nat) : (x.get i).r8 = true := by
 cases x <;> simp only [V.get] <;> (try rfl)
 case agg τ vs =>
  cases hi : vs[i]? with
  | none => simp [List.getD, hi, V.r8]
  | some y => simp [List.getD, hi]; exact z64 (by simpa [V.r8] using h) hi
theorem V.q61 : ∀ (q : List Nat) (x y : V), x.r8 = true → y.r8 = true → (x.setAt q y).r8 = true
 | [], _, _, _, hy => hy
 | i :: q, x, y, hx, hy => by simp only [V.setAt]; exact V.y5v x i _ hx (V.q61 q _ y (V.y5w hx i) hy)
theorem y9.r8 (c : y9 Γ w s) {k : Key} {x : V} {y : Nat × Ty} (hι : Γ.ι k = some y) (h : s.obj k = some (.box x)) : x.r8 = true := by
 obtain ⟨_, _, _, _, _, _, _, _, _, _, h⟩ := c.own hι h
 exact h
theorem y4z (hP : u3 P = true) (c : y9 Γ w s) {o : Oper} {a : Act} {T : TypeId} {p y : Operand} {k : Key} {q : List Nat} {τ : Ty} {x Y : V}
  (ho : o.op = .store T p y) (hr : q9 Γ (.ptr k q τ) (a.eval p)) (hy : q9 Γ Y (a.eval y)) (hobj : s.obj k = some (.box x))
  (ht : τ = ty P T) (hk : τ.known = true) (hY : (Q2 τ Y).ty = τ) (hYp : (Q2 τ Y).plain = true) (hne : x.at q ≠ .any) (hd : x.ty.J4 = true) (hok : (Q2 τ Y).okH = true) :
  s9 P o a w (o9 Γ w { s with loc := (k, .box (x.setAt q ((Q2 τ Y).j9 ((Q2 τ Y).sites s.live q) s.live q))) :: s.loc, tk := q41 ((Q2 τ Y).sites s.live q) ++ s.tk } .any) := by
 obtain ⟨c0, g0⟩ := c.home k ((Q2 τ Y).sites s.live q)
 have p0 := j7.home Γ k ((Q2 τ Y).sites s.live q)
 obtain ⟨b, τ0, off, h1, h2, hpv⟩ := q0e (hr.b5 p0)
 obtain ⟨b2, cells, E, e1, e2, e3, e4, e5, e6, e7, e8⟩ := c0.own h1 hobj
 rw [h1] at e1
 cases e1
 obtain ⟨g1, g2, _⟩ := e6.at_ h2 hne e7
 have hcl : (chunk cells.toList 0 x.ty.size).length = x.ty.size := k8 _ _ _ (by simpa using e5)
 rw [hcl] at g2
 have hy' := z3W (τ := τ) hy
 obtain ⟨q1, q2⟩ := (u0 hYp).1 hy'
 have hlen := q1.length hYp
 rw [hY] at hlen
 have q3 := (q1.Y2 (hm := none) (p' := q)).j9 c k ((Q2 τ Y).sites s.live q)
 obtain ⟨r1, r2, r3⟩ := q8.setAt (q := q) (p := []) (y := (Q2 τ Y).j9 ((Q2 τ Y).sites s.live q) s.live q) e6 e7 hd (by rw [V.q7J, hY]; exact h2) hne q3 (by rw [V.z3c]; exact hYp)
 have hrun := z8I (w := w) (T := T) (τ := τ) (v := a.eval y) (off := off) hP ht.symm hk e4 (by omega) hlen (q1.one hYp)
 have hlc : off + (a.eval y).cells.toList.length ≤ cells.toList.length := by rw [hlen]; simp; omega
 have hs2 : (s7 cells.toList off (a.eval y).cells.toList).toArray.size = cells.size := by simp only [List.size_toArray, X4 hlc]; simp
 have c' := c0.write (x' := x.setAt q ((Q2 τ Y).j9 ((Q2 τ Y).sites s.live q) s.live q)) (cells' := (s7 cells.toList off (a.eval y).cells.toList).toArray) (w' := w.setRow b (s7 cells.toList off (a.eval y).cells.toList).toArray) hobj h1
  (setRow_heap w b cells _ E (0, 0) e4) (fun b' hb' => setRow_other w b b' _ hb') rfl (by rw [r2, hs2]; exact e5)
  (by rw [r2, List.toList_toArray, z0d _ _ (by rw [hlen]; exact g2) (by simpa using e5)]; exact r1) r2 r3 (V.q61 q x _ (c0.r8 h1 hobj) (V.q9T _ _ _ _ hok)) (fun arr T fr h => by rw [e4] at h; cases h; exact hs2)
 refine s9.skip (w' := w.setRow b (s7 cells.toList off (a.eval y).cells.toList).toArray) ?_ ⟨_, g0, p0, c', by simp [q9]⟩
 unfold execOp
 simp [ho, Instr.storeAt, hpv, Instr.sureAddr, hrun]
def V.q77 : V → Bool
 | .ts _ _ _ => false
 | _ => true
mutual
theorem q8.q84 {Γ Γ' : G} (hp : j7 Γ Γ') {k : Key} {q : List Nat} (hk : ∀ b p sz, Γ.κ b = some (.home k p, sz) → p ≠ q → Γ'.κ b = Γ.κ b ∧ Γ'.H b = Γ.H b) :
  ∀ (x : V) {p : List Nat} {vs : List Value}, (∀ r, p ++ r = q → (x.at r).q77 = true) → q8 Γ (some k) p x vs → q8 Γ' (some k) p x vs
 | .ts eb e cs, p, _, hn, h => by
  simp only [q8] at h ⊢
  obtain ⟨a, n, cap, k', h0, h1, h2, h3⟩ := h
  cases h0
  refine ⟨a, n, cap, k, rfl, h1, h2.mono hp.H, ?_⟩
  have hpq : p ≠ q := by
   intro e
   have := hn [] (by simpa using e)
   simp [V.at, V.q77] at this
  rcases h3 with h3 | ⟨b, l, sz, a1, a2, a3, a4, a5⟩
  ·exact .inl h3
  ·obtain ⟨e1, e2⟩ := hk b p sz a4 (fun e => hpq (by injection e))
   exact .inr ⟨b, l, sz, a1, by rw [e2, a2], a3, by rw [e1, a4], a5⟩
 | .agg τ xs, p, vs, hn, h => by
  simp only [q8] at h ⊢
  refine ⟨h.1, h.2.1, h.2.2.1, h.2.2.2.1, x9.q84 hp hk xs (fun i r hr => ?_) h.2.2.2.2⟩
  have := hn (i :: r) (by simpa using hr)
  simp only [V.at, V.get] at this
  simpa using this
 | .d _ _, _, _, _, h => by simp only [q8] at h ⊢; exact h.mono hp.H
 | .sl eb e cs t, _, _, _, h => by
  simp only [q8] at h ⊢
  obtain ⟨a, n, cap, h1, h2, h3⟩ := h
  exact ⟨a, n, cap, h1, h2.mono hp.H, h3.b5 hp⟩
 | .emp _ _, _, _, _, h => by simpa only [q8] using h
 | .nilc, _, _, _, h => by simpa only [q8] using h
 | .ptr k q τ, _, _, _, h => by
  simp only [q8] at h ⊢
  obtain ⟨b, τ0, o, h1, h2⟩ := h
  exact ⟨b, τ0, o, hp.ι _ _ h1, h2⟩
 | .cptr τ c, _, _, _, h => by
  simp only [q8] at h ⊢
  obtain ⟨b, off, l, h1, h2, h3, h4⟩ := h
  obtain ⟨l', a1, a2, a3⟩ := z1U hp.H h2 h3 h4
  exact ⟨b, off, l', h1, a1, a2, a3⟩
 | .sr _ _ _ _ _ _ _, _, _, _, h => by
  simp only [q8] at h ⊢
  rcases h with h | ⟨b, τ0, o, m, cap, h1, h2, h3, h4, h5, h6, h7, h8, h9⟩
  ·exact .inl h
  exact .inr ⟨b, τ0, o, m, cap, hp.ι _ _ h1, h2, h3, h4, h5, h6, h7, h8, fun e => (h9 e).imp id fun ⟨sz, a1, a2⟩ => ⟨sz, hp.σ _ _ a1, a2⟩⟩
 | .mp _, _, _, _, h => by
  simp only [q8] at h ⊢
  obtain ⟨b, h1, h2⟩ := h
  exact ⟨b, hp.ι _ _ h1, h2⟩
 | .fn f caps, _, _, _, h => by
  simp only [q8] at h ⊢
  obtain ⟨cv, h1, h2⟩ := h
  exact ⟨cv, h1, v8.b5 hp caps h2⟩
 | .tup _, _, _, _, h => by simp only [q8] at h
 | .top _, _, _, _, h => by simpa only [q8] using h
 | .any, _, _, _, _ => by simp only [q8]
theorem x9.q84 {Γ Γ' : G} (hp : j7 Γ Γ') {k : Key} {q : List Nat} (hk : ∀ b p sz, Γ.κ b = some (.home k p, sz) → p ≠ q → Γ'.κ b = Γ.κ b ∧ Γ'.H b = Γ.H b) :
  ∀ (xs : List V) {p : List Nat} {i : Nat} {τ : Ty} {vs : List Value}, (∀ j r, p ++ [i + j] ++ r = q → ((xs.getD j .any).at r).q77 = true) → x9 Γ (some k) p i τ xs vs → x9 Γ' (some k) p i τ xs vs
 | [], _, _, _, _, _, _ => by simp only [x9]
 | x :: xs, p, i, τ, vs, hn, h => by
  simp only [x9] at h ⊢
  obtain ⟨⟨o, f, h1, h2, h3, h4⟩, h5⟩ := h
  refine ⟨⟨o, f, h1, h2, h3, q8.q84 hp hk x (fun r hr => ?_) h4⟩, x9.q84 hp hk xs (fun j r hr => ?_) h5⟩
  ·have := hn 0 r (by simpa using hr)
   simpa using this
  ·have := hn (j + 1) r (by rw [show i + (j + 1) = i + 1 + j by omega]; exact hr)
   simpa using this
end
theorem V.z5y : ∀ (q : List Nat) (x : V) {τ : Ty} {c : C}, (∃ eb e cs, x.at q = .ts eb e cs) → (x.setAt q (.d τ c)).at q = .d τ c
 | [], _, _, _, _ => rfl
 | i :: q, x, τ, c, hx => by
  obtain ⟨eb, e, cs, hx⟩ := hx
  simp only [V.at] at hx
  have ih := V.z5y q (x.get i) (τ := τ) (c := c) ⟨eb, e, cs, hx⟩
  cases x <;> (try (simp only [V.get, V.z15] at hx; cases hx; done))
  case d τ' c' =>
   exfalso
   have : ∀ (q : List Nat) (τ : Ty) (c : C), ∃ τ' c', (V.d τ c).at q = .d τ' c' := by
    intro q
    induction q with
    | nil => intro τ c; exact ⟨τ, c, rfl⟩
    | cons j q ih => intro τ c; simp only [V.at, V.get]; exact ih _ _
   obtain ⟨_, _, h⟩ := this q (τ'.get i) (c'.get i)
   simp only [V.get] at hx
   rw [h] at hx; cases hx
  case agg τ' vs =>
   have hlt : i < vs.length := by
    rcases Nat.lt_or_ge i vs.length with h | h
    ·exact h
    ·simp [V.get, List.getD, List.getElem?_eq_none h, V.z15] at hx
   simp only [V.setAt, V.set, V.at]
   have : (V.agg τ' (vs.set i ((V.agg τ' vs).get i |>.setAt q (.d τ c)))).get i = ((V.agg τ' vs).get i).setAt q (.d τ c) := by
    simp [V.get, List.getD, hlt]
   rw [this]; exact ih
theorem y9.take (c : y9 Γ w s) {k : Key} {q : List Nat} {x : V} {eb : Nat} {e : Ty} {cs : List C} {t b : Nat} {τ0 : Ty} {o0 : Nat} (ho : s.obj k = some (.box x)) (hx : x.at q = .ts eb e cs) (hd : x.ty.J4 = true) (ht : s.known t = false)
  (hι : Γ.ι k = some (b, τ0)) (hw : τ0.walk q = some (o0, .slice eb e)) {a : Option Addr} {n cap : Nat} (hcell : w.cell? ⟨b, o0, none⟩ = some (.slice a n cap)) :
  ∃ Γ', GLe Γ Γ' ∧ j7 Γ Γ' ∧ y9 Γ' w { s with loc := (k, .box (x.setAt q (.d (.slice eb e) (.slice cs)))) :: s.loc, tk := (t, some cs.length) :: s.tk } ∧ q9 Γ' (.sl eb e cs t) (.slice a n cap) := by
 obtain ⟨b2, cells, E, e1, e2, e3, e4, e5, e6, e7, e8⟩ := c.own hι ho
 rw [hι] at e1
 cases e1
 obtain ⟨g1, g2, g3⟩ := e6.at_ hw (by rw [hx]; simp) e7
 have hcl : (chunk cells.toList 0 x.ty.size).length = x.ty.size := k8 _ _ _ (by simpa using e5)
 rw [hcl] at g2
 simp only [Ty.size] at g2 g3
 have hch : chunk (chunk cells.toList 0 x.ty.size) o0 1 = chunk cells.toList o0 1 := by rw [c8 _ _ _ _ _ (by omega), Nat.zero_add]
 have hce : chunk cells.toList o0 1 = [.slice a n cap] := by
  apply List.ext_getElem?
  intro j
  rw [s8]
  by_cases hj : j < 1
  ·have : j = 0 := by omega
   subst this
   simp [World.cell?, e4] at hcell
   simpa using hcell
  ·simp [hj]
 rw [hch, hce, hx] at g3
 simp only [q8] at g3
 obtain ⟨a', n', cap', k', hk', hv, hrc, htip⟩ := g3
 simp at hk' hv
 subst hk'
 obtain ⟨rfl, rfl, rfl⟩ := hv
 have hself : s7 (chunk cells.toList 0 x.ty.size) o0 [.slice a n cap] = chunk cells.toList 0 x.ty.size := by
  apply List.ext_getElem?
  intro j
  rw [X2 (by simp; omega)]
  split
  ·rename_i hj
   simp at hj
   have : j = o0 := by omega
   subst this
   have h0 : (chunk (chunk cells.toList 0 x.ty.size) j 1)[0]? = some (.slice a n cap) := by rw [hch, hce]; rfl
   rw [s8] at h0
   simp at h0 ⊢
   exact h0.symm
  ·rfl
 have hw' : x.ty.walk q = some (o0, (V.d (.slice eb e) (.slice cs)).ty) := hw
 obtain ⟨r1, r2, r3⟩ := q8.setAt (p := []) (ws := [.slice a n cap]) (y := .d (.slice eb e) (.slice cs)) e6 e7 hd hw' (by rw [hx]; simp) (by simpa only [q8] using hrc) rfl
 rw [hself] at r1
 have hns : (x.setAt q (.d (.slice eb e) (.slice cs))).r8 = true := V.q61 q x _ e8 rfl
 -- the object as it is then, first under the old ghost
 have c1 : y9 Γ w { s with loc := (k, .box (x.setAt q (.d (.slice eb e) (.slice cs)))) :: s.loc } :=
  c.write ho hι e4 (fun _ _ => rfl) rfl (by rw [r2]; exact e5) (by rw [r2]; exact r1) r2 r3 hns (fun arr T fr h => by rw [e4] at h; cases h; rfl)
 obtain ⟨_, n1, cap1, f1, _, f2, f3, f4, f5, f6⟩ := J9 hrc
 simp at f1
 obtain ⟨rfl, rfl, rfl⟩ := f1
 simp only [C.elems] at f2
 rcases htip with htip | ⟨b1, l, sz, rfl, h1, h2, h3, h4⟩
 ·obtain ⟨c2, p2, g2'⟩ := c1.W4 (t := t) (x := none) (L := cs.length) ht (fun _ _ _ h => by cases h)
  refine ⟨_, g2', p2, c2, (s5 rfl rfl).2 ⟨?_, rfl⟩⟩
  simp only [q8]
  exact ⟨a, n, cap, rfl, hrc, none, cs.length, k7 _ _ _, Nat.le_refl _, fun _ => htip⟩
 ·have hτ : Γ.τ t = none := c.y3p ht
  obtain ⟨z1, z2, arr, T, z3, z4, _⟩ := c.hκ b1 _ _ h3
  have hp : j7 Γ { Γ with τ := Q8 Γ.τ t (some (b1, l.length, sz), cs.length), κ := Q8 Γ.κ b1 (.tok t, sz) } :=
   ⟨Hp.le_refl _, fun _ _ h => h, fun u y M h => by
    have : u ≠ t := by intro e; subst e; rw [hτ] at h; cases h
    exact ⟨y, M, (U5 _ _ this).trans h, Nat.le_refl _, fun _ => rfl⟩, fun _ _ h => h⟩
  have hne : ∀ b' o', Γ.κ b' = some o' → b' ≠ b1 → Q8 Γ.κ b1 (.tok t, sz) b' = some o' := fun b' o' h hb => (U5 _ _ hb).trans h
  refine ⟨{ Γ with τ := Q8 Γ.τ t (some (b1, l.length, sz), cs.length), κ := Q8 Γ.κ b1 (.tok t, sz) }, ⟨Hp.le_refl _, rfl, fun _ _ => rfl, fun _ _ h => h, rfl, rfl, fun _ _ h => h, fun _ h => h⟩, hp, ?_, (s5 rfl rfl).2 ⟨?_, rfl⟩⟩
  ·refine c1.change hp rfl rfl rfl rfl c.hH (fun _ _ => rfl) (fun b' o' sz' h => ?_) (fun j o' h => ?_) (fun _ h _ => h) c1.dom c.hσ c1.inj (fun u M h => ?_) (fun u h => ?_) (Nat.le_refl _)
   ·by_cases e : b' = b1
    ·subst e
     have h' : sz = sz' := by have := h; simp [Q8] at this; exact this.2
     subst h'
     exact ⟨z1, z2, arr, T, z3, z4, by have := h; simp [Q8] at this; rw [← this]; trivial⟩
    ·exact c.hκ b' o' sz' ((U5 _ _ e).symm.trans h)
   ·have h' : S.obj { s with loc := (k, .box (x.setAt q (.d (.slice eb e) (.slice cs)))) :: s.loc } j = some o' := h
    by_cases hj : k = j
    ·subst hj
     rw [Q6, if_pos rfl] at h'
     cases h'
     refine .inr ⟨b, cells, E, by rw [r2]; exact hι, e2, e3, e4, by rw [r2]; exact e5, ?_, r3, hns⟩
     rw [r2]
     refine q8.q84 (q := q) hp (fun b' p sz' hb hpq => ?_) _ (fun r hr => ?_) r1
     ·have : b' ≠ b1 := by
       intro e; subst e; rw [h3] at hb; simp at hb; exact hpq hb.1.symm
      exact ⟨(hne b' _ hb this).trans hb.symm, rfl⟩
     ·rw [List.nil_append] at hr
      subst hr
      have : (x.setAt r (.d (.slice eb e) (.slice cs))).at r = .d (.slice eb e) (.slice cs) := V.z5y r x ⟨_, _, _, hx⟩
      rw [this]; rfl
    ·refine .inl ⟨h', fun hd => ⟨fun b' p sz' hb => ?_, fun b' τ hb => ?_⟩⟩
     ·have : b' ≠ b1 := by
       intro e; subst e; rw [h3] at hb; simp at hb; exact hj hb.1.1
      exact ⟨(hne b' _ hb this).trans hb.symm, rfl⟩
     ·obtain ⟨a1, _⟩ := c1.q0u hb h' hd
      exact ⟨rfl, a1⟩
   ·have h9 : (if t = u then some cs.length else s.live u) = some M := (q3h { s with loc := (k, .box (x.setAt q (.d (.slice eb e) (.slice cs)))) :: s.loc } t u (some cs.length)).symm.trans h
    clear h
    split at h9
    ·rename_i e
     subst e; cases h9
     refine ⟨_, k7 _ _ _, fun b' pos sz' e => ?_⟩
     cases e
     exact ⟨⟨l, h1, rfl⟩, k7 _ _ _⟩
    ·rename_i e
     have e' : u ≠ t := fun h' => e h'.symm
     obtain ⟨y, a1, a2⟩ := c.tok u M h9
     refine ⟨y, (U5 _ _ e').trans a1, fun b' pos sz' hy => ?_⟩
     obtain ⟨a3, a4⟩ := a2 b' pos sz' hy
     exact ⟨a3, hne b' _ a4 (fun e => by subst e; rw [h3] at a4; cases a4)⟩
   ·refine (q2g { s with loc := (k, .box (x.setAt q (.d (.slice eb e) (.slice cs)))) :: s.loc } t u (some cs.length)).trans ?_
    by_cases e : t = u
    ·simp [e]
    ·have e' : u ≠ t := fun h' => e h'.symm
     simp only [e, decide_false, Bool.false_or]
     refine c.tdom u ?_
     simpa [Q8, e'] using h
  ·simp only [q8]
   exact ⟨_, n, cap, rfl, hrc, _, _, k7 _ _ _, Nat.le_refl _, fun _ => ⟨rfl, h2, h4⟩⟩
end
end Go.E
namespace Go.E
open Go
mutual
def V.ren (ρ : Key → Key) (θ : Nat → Nat) : V → V
 | .sl eb e cs t => .sl eb e cs (θ t)
 | .ptr k q τ => .ptr (ρ k) q τ
 | .sr k q lo n cp eb e => .sr (ρ k) q lo n cp eb e
 | .mp k => .mp (ρ k)
 | .agg τ vs => .agg τ (V.q0f ρ θ vs)
 | .fn f vs => .fn f (V.q0f ρ θ vs)
 | .tup vs => .tup (V.q0f ρ θ vs)
 | .d τ c => .d τ c
 | .ts eb e cs => .ts eb e cs
 | .emp eb e => .emp eb e
 | .nilc => .nilc
 | .cptr τ c => .cptr τ c
 | .top τ => .top τ
 | .any => .any
def V.q0f (ρ : Key → Key) (θ : Nat → Nat) : List V → List V
 | [] => []
 | x :: xs => V.ren ρ θ x :: V.q0f ρ θ xs
end
def O.ren (ρ : Key → Key) : O → O
 | .box x => .box (x.ren ρ id)
 | .map kτ vτ es => .map kτ vτ (es.map fun c => (c.1, c.2.ren ρ id))
 | .it l pos => .it l pos
 | .dead τ => .dead τ
theorem O.q4G (ρ : Key → Key) (o : O) : (o.ren ρ).H4 = o.H4 := by cases o <;> rfl
theorem V.q23 (ρ : Key → Key) (θ : Nat → Nat) (x : V) : (x.ren ρ θ).ty = x.ty := by cases x <;> simp [V.ren, V.ty]
theorem V.z06 (ρ : Key → Key) (θ : Nat → Nat) (x : V) : (x.ren ρ θ).plain = x.plain := by cases x <;> simp [V.ren, V.plain]
theorem V.z2Y (ρ : Key → Key) (θ : Nat → Nat) : ∀ xs : List V, (V.q0f ρ θ xs).length = xs.length
 | [] => rfl
 | x :: xs => by simp [V.q0f, V.z2Y ρ θ xs]
mutual
theorem V.q9F (ρ : Key → Key) (θ : Nat → Nat) : ∀ x : V, (x.ren ρ θ).r8 = x.r8
 | .agg τ vs => by simp only [V.ren, V.r8]; exact V.q75 ρ θ vs
 | .fn f vs => by simp only [V.ren, V.r8]; exact V.q75 ρ θ vs
 | .tup vs => by simp only [V.ren, V.r8]; exact V.q75 ρ θ vs
 | .sl _ _ _ _ | .ptr _ _ _ | .sr _ _ _ _ _ _ _ | .mp _ | .d _ _ | .ts _ _ _ | .emp _ _ | .nilc | .cptr _ _ | .top _ | .any => by simp [V.ren, V.r8]
theorem V.q75 (ρ : Key → Key) (θ : Nat → Nat) : ∀ xs : List V, V.Y8 (V.q0f ρ θ xs) = V.Y8 xs
 | [] => rfl
 | x :: xs => by simp only [V.q0f, V.Y8, V.q9F ρ θ x, V.q75 ρ θ xs]
end
mutual
theorem V.q3A (ρ ρ' : Key → Key) (h : ∀ k, ρ' (ρ k) = k) : ∀ x : V, (x.ren ρ id).ren ρ' id = x
 | .agg τ vs => by simp only [V.ren, V.q74 ρ ρ' h vs]
 | .fn f vs => by simp only [V.ren, V.q74 ρ ρ' h vs]
 | .tup vs => by simp only [V.ren, V.q74 ρ ρ' h vs]
 | .ptr _ _ _ | .sr _ _ _ _ _ _ _ | .mp _ => by simp [V.ren, h]
 | .sl _ _ _ _ | .d _ _ | .ts _ _ _ | .emp _ _ | .nilc | .cptr _ _ | .top _ | .any => by simp [V.ren]
theorem V.q74 (ρ ρ' : Key → Key) (h : ∀ k, ρ' (ρ k) = k) : ∀ xs : List V, V.q0f ρ' id (V.q0f ρ id xs) = xs
 | [] => rfl
 | x :: xs => by simp only [V.q0f, V.q3A ρ ρ' h x, V.q74 ρ ρ' h xs]
end
theorem O.q3A (ρ ρ' : Key → Key) (h : ∀ k, ρ' (ρ k) = k) (o : O) : (o.ren ρ).ren ρ' = o := by
 cases o with
 | box x => simp [O.ren, V.q3A ρ ρ' h]
 | map kτ vτ es =>
  simp only [O.ren, List.map_map]
  congr 1
  refine (List.map_congr_left (g := id) fun c _ => ?_).trans (List.map_id _)
  simp [V.q3A ρ ρ' h]
 | it => rfl
 | dead => rfl
structure q20 (Γ Γ' : G) (ρ : Key → Key) (hm : Option Key) : Prop where
 H : Γ.H.le Γ'.H
 ι : ∀ k x, Γ.ι k = some x → Γ'.ι (ρ k) = some x
 σ : ∀ b sz, Γ.σ b = some sz → Γ'.σ b = some sz
 κ : ∀ k b p sz, hm = some k → Γ.κ b = some (.home k p, sz) → Γ'.κ b = some (.home (ρ k) p, sz) ∧ Γ'.H b = Γ.H b
section
variable {Γ Γ' : G} {ρ : Key → Key} {θ : Nat → Nat}
mutual
theorem q8.ren {hm : Option Key} (hp : q20 Γ Γ' ρ hm) (hτ : ∀ t x, Γ.τ t = some x → Γ'.τ (θ t) = some x) : ∀ (x : V) {p : List Nat} {vs : List Value}, q8 Γ hm p x vs → q8 Γ' (hm.map ρ) p (x.ren ρ θ) vs
 | .d τ c, _, _, h => by simp only [q8, V.ren] at h ⊢; exact h.mono hp.H
 | .sl eb e cs t, _, _, h => by
  simp only [q8, V.ren] at h ⊢
  obtain ⟨a, n, cap, h1, h2, x, L, h3, h4⟩ := h
  exact ⟨a, n, cap, h1, h2.mono hp.H, x, L, hτ t _ h3, h4⟩
 | .ts eb e cs, _, _, h => by
  simp only [q8, V.ren] at h ⊢
  obtain ⟨a, n, cap, k, h0, h1, h2, h3⟩ := h
  refine ⟨a, n, cap, ρ k, by rw [h0]; rfl, h1, h2.mono hp.H, ?_⟩
  rcases h3 with h3 | ⟨b, l, sz, a1, a2, a3, a4, a5⟩
  ·exact .inl h3
  ·obtain ⟨e1, e2⟩ := hp.κ k b _ sz h0 a4
   exact .inr ⟨b, l, sz, a1, by rw [e2, a2], a3, e1, a5⟩
 | .emp _ _, _, _, h => by simpa only [q8, V.ren] using h
 | .nilc, _, _, h => by simpa only [q8, V.ren] using h
 | .ptr k q τ, _, _, h => by
  simp only [q8, V.ren] at h ⊢
  obtain ⟨b, τ0, o, h1, h2⟩ := h
  exact ⟨b, τ0, o, hp.ι _ _ h1, h2⟩
 | .cptr τ c, _, _, h => by
  simp only [q8, V.ren] at h ⊢
  obtain ⟨b, off, l, h1, h2, h3, h4⟩ := h
  obtain ⟨l', a1, a2, a3⟩ := z1U hp.H h2 h3 h4
  exact ⟨b, off, l', h1, a1, a2, a3⟩
 | .sr k q lo n cp eb e, _, _, h => by
  simp only [q8, V.ren] at h ⊢
  rcases h with h | ⟨b, τ0, o, m, cap, h1, h2, h3, h4, h5, h6, h7, h8, h9⟩
  ·exact .inl h
  exact .inr ⟨b, τ0, o, m, cap, hp.ι _ _ h1, h2, h3, h4, h5, h6, h7, h8, fun e => (h9 e).imp id fun ⟨sz, a1, a2⟩ => ⟨sz, hp.σ _ _ a1, a2⟩⟩
 | .mp k, _, _, h => by
  simp only [q8, V.ren] at h ⊢
  obtain ⟨b, h1, h2⟩ := h
  exact ⟨b, hp.ι _ _ h1, h2⟩
 | .agg τ xs, _, _, h => by
  simp only [q8, V.ren] at h ⊢
  exact ⟨h.1, h.2.1, by rw [V.z2Y]; exact h.2.2.1, h.2.2.2.1, x9.ren hp hτ xs h.2.2.2.2⟩
 | .fn f caps, _, _, h => by
  simp only [q8, V.ren] at h ⊢
  obtain ⟨cv, h1, h2⟩ := h
  exact ⟨cv, h1, v8.ren ⟨hp.H, hp.ι, hp.σ, fun _ _ _ _ h => by cases h⟩ hτ caps h2⟩
 | .tup _, _, _, h => by simp only [q8] at h
 | .top _, _, _, h => by simpa only [q8, V.ren] using h
 | .any, _, _, _ => by simp only [q8, V.ren]
theorem x9.ren {hm : Option Key} (hp : q20 Γ Γ' ρ hm) (hτ : ∀ t x, Γ.τ t = some x → Γ'.τ (θ t) = some x) : ∀ (xs : List V) {p : List Nat} {i : Nat} {τ : Ty} {vs : List Value}, x9 Γ hm p i τ xs vs → x9 Γ' (hm.map ρ) p i τ (V.q0f ρ θ xs) vs
 | [], _, _, _, _, _ => by simp only [V.q0f, x9]
 | x :: xs, _, _, _, _, h => by
  simp only [x9, V.q0f, V.q23] at h ⊢
  obtain ⟨⟨o, f, h1, h2, h3, h4⟩, h5⟩ := h
  exact ⟨⟨o, f, h1, h2, h3, q8.ren hp hτ x h4⟩, x9.ren hp hτ xs h5⟩
theorem v8.ren (hp : q20 Γ Γ' ρ none) (hτ : ∀ t x, Γ.τ t = some x → Γ'.τ (θ t) = some x) : ∀ (xs : List V) {vs : List Value}, v8 Γ xs vs → v8 Γ' (V.q0f ρ θ xs) vs
 | [], _, h => by simpa only [v8, V.q0f] using h
 | x :: xs, _, h => by
  simp only [v8, V.q0f, V.q23] at h ⊢
  obtain ⟨v, vs', h1, h2, h3, h4⟩ := h
  exact ⟨v, vs', h1, by simpa using q8.ren hp hτ x h2, h3, v8.ren hp hτ xs h4⟩
end
mutual
theorem q8.q5M {hm : Option Key} : ∀ (x : V) {p : List Nat} {vs : List Value}, x.r8 = true → q8 Γ hm p x vs → q8 { Γ with τ := fun _ => none } hm p x vs
 | .sl _ _ _ _, _, _, h, _ => by simp [V.r8] at h
 | .agg τ xs, _, _, hn, h => by
  simp only [q8] at h ⊢
  exact ⟨h.1, h.2.1, h.2.2.1, h.2.2.2.1, x9.q5M xs (by simpa [V.r8] using hn) h.2.2.2.2⟩
 | .fn f caps, _, _, hn, h => by
  simp only [q8] at h ⊢
  obtain ⟨cv, h1, h2⟩ := h
  exact ⟨cv, h1, v8.q5M caps (by simpa [V.r8] using hn) h2⟩
 | .tup _, _, _, _, h => by simp only [q8] at h
 | .ts _ _ _, _, _, _, h => by simp only [q8] at h ⊢; exact h
 | .d _ _, _, _, _, h | .emp _ _, _, _, _, h | .nilc, _, _, _, h | .ptr _ _ _, _, _, _, h | .cptr _ _, _, _, _, h | .sr _ _ _ _ _ _ _, _, _, _, h | .mp _, _, _, _, h | .top _, _, _, _, h => by simpa only [q8] using h
 | .any, _, _, _, _ => by simp only [q8]
theorem x9.q5M {hm : Option Key} : ∀ (xs : List V) {p : List Nat} {i : Nat} {τ : Ty} {vs : List Value}, V.Y8 xs = true → x9 Γ hm p i τ xs vs → x9 { Γ with τ := fun _ => none } hm p i τ xs vs
 | [], _, _, _, _, _, _ => by simp only [x9]
 | x :: xs, _, _, _, _, hn, h => by
  simp only [x9] at h ⊢
  simp only [V.Y8, Bool.and_eq_true] at hn
  obtain ⟨⟨o, f, h1, h2, h3, h4⟩, h5⟩ := h
  exact ⟨⟨o, f, h1, h2, h3, q8.q5M x hn.1 h4⟩, x9.q5M xs hn.2 h5⟩
theorem v8.q5M : ∀ (xs : List V) {vs : List Value}, V.Y8 xs = true → v8 Γ xs vs → v8 { Γ with τ := fun _ => none } xs vs
 | [], _, _, h => by simpa only [v8] using h
 | x :: xs, _, hn, h => by
  simp only [v8] at h ⊢
  simp only [V.Y8, Bool.and_eq_true] at hn
  obtain ⟨v, vs', h1, h2, h3, h4⟩ := h
  exact ⟨v, vs', h1, q8.q5M x hn.1 h2, h3, v8.q5M xs hn.2 h4⟩
end
theorem q8.Z5 {hm : Option Key} (hp : q20 Γ Γ' ρ hm) {x : V} (hn : x.r8 = true) {p : List Nat} {vs : List Value} (h : q8 Γ hm p x vs) : q8 Γ' (hm.map ρ) p (x.ren ρ θ) vs := by
 have h1 := q8.q5M x hn h
 refine q8.ren (Γ := { Γ with τ := fun _ => none }) (θ := θ) ⟨hp.H, hp.ι, hp.σ, hp.κ⟩ (fun t x h => by cases h) x h1
theorem O.q9s {ρ : Key → Key} {o : O} (h : o.q8n) : (o.ren ρ).q8n := by
 cases o <;> simp only [O.q8n, O.ren] at h ⊢
 obtain ⟨e, rfl⟩ := h
 exact ⟨e, rfl⟩
theorem Own.ren {w w' : World} {k : Key} {o : O} (hp : q20 Γ Γ' ρ (some k)) (hb : o.H4 = false → ∀ b τ, Γ.ι k = some (b, τ) → w'.heap[b]? = w.heap[b]? ∧ Γ'.H b = none ∧ Γ'.Z b = none) (hsz : w.heap.size ≤ w'.heap.size)
  (h : Own Γ w k o) : Own Γ' w' (ρ k) (o.ren ρ) := by
 cases o with
 | box x =>
  obtain ⟨b, cells, T, h1, h2, h3, h4, h5, h6, h7, h8⟩ := h
  obtain ⟨e1, e2, e3⟩ := hb rfl _ _ h1
  exact ⟨b, cells, T, by rw [V.q23]; exact hp.ι _ _ h1, e2, e3, by rw [e1, h4], by rw [V.q23]; exact h5, by rw [V.q23]; exact h6.Z5 hp h8, by rw [V.z06]; exact h7, by rw [V.q9F]; exact h8⟩
 | map kτ vτ es =>
  obtain ⟨b, ms, clock, h1, h2, h3, h4, h5, h6, h7⟩ := h
  obtain ⟨e1, e2, e3⟩ := hb rfl _ _ h1
  refine ⟨b, ms, clock, hp.ι _ _ h1, e2, e3, by rw [e1, h4], by simpa using h5, fun i m c hm hc => ?_, h7⟩
  simp only [List.getElem?_map] at hc
  cases hi : es[i]? with
  | none => simp [hi] at hc
  | some c0 =>
   simp [hi] at hc
   subst hc
   obtain ⟨a1, a2, a3, a4, a5, a6, a7⟩ := h6 i m c0 hm hi
   exact ⟨a1.mono hp.H, a2, by simpa using q8.Z5 (hm := none) ⟨hp.H, hp.ι, hp.σ, fun _ _ _ _ h => by cases h⟩ a7 a3, a4, by simp only [V.q23]; exact a5, by simp only [V.z06]; exact a6, by simp only [V.q9F]; exact a7⟩
 | it l pos =>
  obtain ⟨b, adr, v, h1, h2, h3, h4, h5, h6, h7⟩ := h
  obtain ⟨e1, e2, e3⟩ := hb rfl _ _ h1
  refine ⟨b, adr, v, hp.ι _ _ h1, e2, e3, by rw [e1, h4], h5, h6, ?_⟩
  rcases h7 with h7 | ⟨g, cap, g1, g2, g3, g4⟩
  ·exact .inl h7
  ·obtain ⟨q1, q2⟩ := hp.κ _ g _ _ rfl g3
   exact .inr ⟨g, cap, g1, by rw [q2]; exact g2, q1, g4⟩
 | dead τ =>
  obtain ⟨b, h1, h4⟩ := h
  exact ⟨b, hp.ι _ _ h1, by omega⟩
mutual
def V.j5 : V → V
 | .sl eb e cs _ => .d (.slice eb e) (.slice cs)
 | .agg τ vs => .agg τ (V.q0M vs)
 | .fn f vs => .fn f (V.q0M vs)
 | .tup vs => .tup (V.q0M vs)
 | x => x
def V.q0M : List V → List V
 | [] => []
 | x :: xs => V.j5 x :: V.q0M xs
end
theorem V.y0i (x : V) : x.j5.ty = x.ty := by cases x <;> simp [V.j5, V.ty]
theorem V.z0t : ∀ xs : List V, (V.q0M xs).length = xs.length
 | [] => rfl
 | x :: xs => by simp [V.q0M, V.z0t xs]
mutual
theorem V.z5o : ∀ x : V, x.j5.r8 = true
 | .agg τ vs => by simp only [V.j5, V.r8]; exact V.q5U vs
 | .fn f vs => by simp only [V.j5, V.r8]; exact V.q5U vs
 | .tup vs => by simp only [V.j5, V.r8]; exact V.q5U vs
 | .sl _ _ _ _ | .ptr _ _ _ | .sr _ _ _ _ _ _ _ | .mp _ | .d _ _ | .ts _ _ _ | .emp _ _ | .nilc | .cptr _ _ | .top _ | .any => by simp [V.j5, V.r8]
theorem V.q5U : ∀ xs : List V, V.Y8 (V.q0M xs) = true
 | [] => rfl
 | x :: xs => by simp only [V.q0M, V.Y8, V.z5o x, V.q5U xs, Bool.and_self]
end
mutual
theorem q8.j5 {hm : Option Key} : ∀ (x : V) {p : List Nat} {vs : List Value}, q8 Γ hm p x vs → q8 Γ hm p x.j5 vs
 | .sl _ _ _ _, _, _, h => by
  simp only [q8, V.j5] at h ⊢
  obtain ⟨a, n, cap, rfl, h2, _⟩ := h
  exact h2
 | .agg τ xs, _, _, h => by
  simp only [q8, V.j5] at h ⊢
  exact ⟨h.1, h.2.1, by rw [V.z0t]; exact h.2.2.1, h.2.2.2.1, x9.j5 xs h.2.2.2.2⟩
 | .fn f caps, _, _, h => by
  simp only [q8, V.j5] at h ⊢
  obtain ⟨cv, h1, h2⟩ := h
  exact ⟨cv, h1, v8.j5 caps h2⟩
 | .tup _, _, _, h => by simp only [q8] at h
 | .d _ _, _, _, h | .ts _ _ _, _, _, h | .emp _ _, _, _, h | .nilc, _, _, h | .ptr _ _ _, _, _, h | .cptr _ _, _, _, h | .sr _ _ _ _ _ _ _, _, _, h | .mp _, _, _, h | .top _, _, _, h => by simpa only [q8, V.j5] using h
 | .any, _, _, _ => by simp only [q8, V.j5]
theorem x9.j5 {hm : Option Key} : ∀ (xs : List V) {p : List Nat} {i : Nat} {τ : Ty} {vs : List Value}, x9 Γ hm p i τ xs vs → x9 Γ hm p i τ (V.q0M xs) vs
 | [], _, _, _, _, _ => by simp only [V.q0M, x9]
 | x :: xs, _, _, _, _, h => by
  simp only [x9, V.q0M, V.y0i] at h ⊢
  obtain ⟨⟨o, f, h1, h2, h3, h4⟩, h5⟩ := h
  exact ⟨⟨o, f, h1, h2, h3, q8.j5 x h4⟩, x9.j5 xs h5⟩
theorem v8.j5 : ∀ (xs : List V) {vs : List Value}, v8 Γ xs vs → v8 Γ (V.q0M xs) vs
 | [], _, h => by simpa only [v8, V.q0M] using h
 | x :: xs, _, h => by
  simp only [v8, V.q0M, V.y0i] at h ⊢
  obtain ⟨v, vs', h1, h2, h3, h4⟩ := h
  exact ⟨v, vs', h1, q8.j5 x h2, h3, v8.j5 xs h4⟩
end
theorem q9.j5 {x : V} {v : Value} (h : q9 Γ x v) : q9 Γ x.j5 v := by
 cases x <;> (try exact h)
 case sl => obtain ⟨h1, h2⟩ := h; exact ⟨q8.j5 _ h1, h2⟩
 case agg => obtain ⟨h1, h2⟩ := h; exact ⟨q8.j5 _ h1, h2⟩
 case fn => obtain ⟨h1, h2⟩ := h; exact ⟨q8.j5 _ h1, h2⟩
 case tup => obtain ⟨vs, h1, h2⟩ := h; exact ⟨vs, h1, v8.j5 _ h2⟩
theorem q9.ren {x : V} {v : Value} (hp : q20 Γ Γ' ρ none) (hτ : ∀ t x, Γ.τ t = some x → Γ'.τ (θ t) = some x) (h : q9 Γ x v) : q9 Γ' (x.ren ρ θ) v := by
 cases x
 case any => trivial
 case tup vs => obtain ⟨us, h1, h2⟩ := h; exact ⟨us, h1, v8.ren hp hτ _ h2⟩
 all_goals
  obtain ⟨h1, h2⟩ := h
  have := q8.ren hp hτ _ h1
  exact (u0 (by simp [V.ren, V.plain])).2 ⟨this, by simpa [V.q23] using h2⟩
theorem q9.Z5 {x : V} {v : Value} (hp : q20 Γ Γ' ρ none) (hn : x.r8 = true) (h : q9 Γ x v) : q9 Γ' (x.ren ρ θ) v := by
 cases x
 case any => trivial
 case tup vs =>
  obtain ⟨us, h1, h2⟩ := h
  refine ⟨us, h1, ?_⟩
  exact v8.ren (Γ := { Γ with τ := fun _ => none }) (θ := θ) ⟨hp.H, hp.ι, hp.σ, hp.κ⟩ (fun t x h => by cases h) _ (v8.q5M _ (by simpa [V.r8] using hn) h2)
 all_goals
  obtain ⟨h1, h2⟩ := h
  have := q8.Z5 (θ := θ) hp hn h1
  exact (u0 (by simp [V.ren, V.plain])).2 ⟨this, by simpa [V.q23] using h2⟩
end
end Go.E
namespace Go.E
open Go
structure Cx where
 P : Program
 gl : Nat → Option (Ty × C)
def V.slot (n : Nat) : V → V
 | .ts eb e cs => .sl eb e cs n
 | x => x
def W5 : Nat → List V → List V
 | _, [] => []
 | n, x :: xs => x.slot n :: W5 (n + 1) xs
def V.q0D (n : Nat) : V → List (Nat × Option Nat)
 | .ts _ _ cs => [(n, some cs.length)]
 | _ => []
def q1G : Nat → List V → List (Nat × Option Nat)
 | _, [] => []
 | n, x :: xs => x.q0D n ++ q1G (n + 1) xs
def V.X3 (n : Nat) : V → V
 | .tup vs => .tup (W5 n vs)
 | x => x.slot n
def V.tkR (n : Nat) : V → List (Nat × Option Nat)
 | .tup vs => q1G n vs
 | x => x.q0D n
def q5q : Nat → List V → List (Nat × V)
 | _, [] => []
 | i, x :: xs => (i, x) :: q5q (i + 1) xs
def S.start (xs : List V) (A : Key → Option O) : S := ⟨q5q 0 (W5 1000 xs), [], A, q1G 1000 xs⟩
def S.fin (v : V) (L : List (Key × O)) (A : Key → Option O) : S := ⟨[], L, A, v.tkR 2000⟩
mutual
def V.ok (f g : Nat → Bool) : V → Bool
 | .ptr (.l k) _ _ | .mp (.l k) | .sr (.l k) _ _ _ _ _ _ => f k
 | .sl _ _ _ t => g t
 | .agg _ vs | .fn _ vs | .tup vs => V.oks f g vs
 | _ => true
def V.oks (f g : Nat → Bool) : List V → Bool
 | [] => true
 | x :: xs => x.ok f g && V.oks f g xs
end
def V.q0S (f g : Nat → Bool) : List (C × V) → Bool
 | [] => true
 | x :: xs => x.2.ok f g && V.q0S f g xs
def O.ok (f g : Nat → Bool) : O → Bool
 | .box x => x.ok f g
 | .map _ _ es => V.q0S f g es
 | .it _ _ | .dead _ => true
def j8 : Nat → Bool := fun _ => false
def AOk (A : Key → Option O) : Prop := ∀ k o, A k = some o → o.ok j8 j8 = true
def p8 (X : Cx) (f : FuncId) (xs : List V) (A : Key → Option O) (v : V) (L : List (Key × O)) : Prop :=
 ∀ (A' : Key → Option O) (Γ : G) (w : World) (args : Array Value), (∀ k o, A k = some o → A' k = some o) → Γ.gl = X.gl → y9 Γ w (S.start xs A') ∧ AOk A' → xs.length = args.size → (∀ (i : Nat) x u, (W5 1000 xs)[i]? = some x → args[i]? = some u → q9 Γ x u) →
  Calls X.P f args w fun e w' => ∃ u Γ', e = .returned u ∧ GLe Γ Γ' ∧ y9 Γ' w' (S.fin v L A') ∧ q9 Γ' (v.X3 2000) u
theorem q7m : ∀ (n : Nat) (xs : List V), (W5 n xs).length = xs.length
 | _, [] => rfl
 | n, x :: xs => by simp [W5, q7m (n + 1) xs]
theorem q51 : ∀ (n : Nat) (xs : List V) (i : Nat), (W5 n xs)[i]? = (xs[i]?).map (V.slot (n + i))
 | _, [], i => by simp [W5]
 | n, x :: xs, 0 => by simp [W5]
 | n, x :: xs, i + 1 => by simp only [W5, List.getElem?_cons_succ, q51 (n + 1) xs i]; rw [show n + 1 + i = n + (i + 1) by omega]
theorem q1E {α : Type} : ∀ (l m : List (Nat × α)) (n : Nat), look (l ++ m) n = match look l n with | some x => some x | none => look m n
 | [], _, _ => rfl
 | (j, x) :: l, m, n => by
  simp only [List.cons_append, look]
  split
  ·rfl
  ·exact q1E l m n
theorem z6O (n : Nat) (x : V) (t : Nat) : look (x.q0D n) t = if n = t then (match x with | .ts _ _ cs => some (some cs.length) | _ => none) else none := by
 cases x <;> simp [V.q0D, look]
theorem q4z : ∀ (n : Nat) (xs : List V) (t : Nat), look (q1G n xs) t = if n ≤ t then (match xs[t - n]? with | some (.ts _ _ cs) => some (some cs.length) | _ => none) else none
 | n, [], t => by simp [q1G, look]
 | n, x :: xs, t => by
  simp only [q1G, q1E, z6O, q4z (n + 1) xs t]
  by_cases h1 : n = t
  ·subst h1
   simp only [if_true, Nat.le_refl, Nat.sub_self, List.getElem?_cons_zero]
   cases x <;> simp
   all_goals (intro h; omega)
  ·rw [if_neg h1]
   by_cases h2 : n ≤ t
   ·rw [if_pos h2, if_pos (by omega), show t - n = (t - (n + 1)) + 1 by omega, List.getElem?_cons_succ]
   ·rw [if_neg h2, if_neg (by omega)]
def V.z6a : V → Bool
 | .ts _ _ _ => false
 | _ => true
def H8 (P : Program) (tip : Bool) (s : S) (T : TypeId) (x : V) : V :=
 match x with
 | .sl eb e cs t => if tip = true ∧ s.live t = some cs.length then .ts eb e cs else .d (.slice eb e) (.slice cs)
 | .emp eb e => if tip = true then .ts eb e [] else .d (.slice eb e) (.slice [])
 | .nilc => match ty P T with
  | .slice eb e => if tip = true then .ts eb e [] else .d (.slice eb e) (.slice [])
  | _ => if tip = true then .ts 0 (.opq 0) [] else .nilc
 | .agg τ vs => match b9 (.agg τ vs) with
  | some c => .d τ c
  | none => (V.agg τ vs).j5.ren .g id
 | x => x.j5.ren .g id
def Z2 (P : Program) (tip : Bool) (s : S) : List TypeId → List V → List V
 | T :: Ts, x :: xs => H8 P tip s T x :: Z2 P tip s Ts xs
 | _, _ => []
def Y0 (tip : Bool) (s : S) (x : V) : Option (Option Nat) :=
 match x with
 | .sl _ _ cs t => if tip = true ∧ s.live t = some cs.length then some (some t) else none
 | .emp _ _ | .nilc => if tip = true then some none else none
 | _ => none
def Q5 (tip : Bool) (s : S) : List V → List Nat
 | [] => []
 | x :: xs => (match Y0 tip s x with | some (some t) => [t] | _ => []) ++ Q5 tip s xs
def q0q : List Nat → Bool
 | [] => true
 | x :: xs => !(xs.contains x) && q0q xs
theorem y6j {P : Program} {tip : Bool} {s : S} {T : TypeId} {x : V} {eb : Nat} {e : Ty} {cs : List C} (h : H8 P tip s T x = .ts eb e cs) (hx : x.z6a = true) :
  (∃ t, x = .sl eb e cs t ∧ Y0 tip s x = some (some t) ∧ s.live t = some cs.length) ∨ (cs = [] ∧ Y0 tip s x = some none) := by
 cases x <;> simp only [H8] at h
 case sl eb' e' cs' t =>
  split at h
  ·rename_i hc; cases h; exact .inl ⟨t, rfl, by simp [Y0, hc], hc.2⟩
  ·cases h
 case emp eb' e' =>
  split at h
  ·rename_i hc; cases h; exact .inr ⟨rfl, by simp [Y0, hc]⟩
  ·cases h
 case nilc =>
  split at h
  ·split at h
   ·rename_i hc; cases h; exact .inr ⟨rfl, by simp [Y0, hc]⟩
   ·cases h
  ·split at h
   ·rename_i hc; cases h; exact .inr ⟨rfl, by simp [Y0, hc]⟩
   ·cases h
 case agg => split at h <;> simp [V.j5, V.ren] at h
 case ts => simp [V.z6a] at hx
 all_goals (simp [V.j5, V.ren] at h)
theorem q4T {tip : Bool} {s : S} : ∀ {xs : List V} {i : Nat} {x : V} {t : Nat}, xs[i]? = some x → Y0 tip s x = some (some t) → t ∈ Q5 tip s xs
 | [], _, _, _, h, _ => by simp at h
 | y :: ys, 0, x, t, h, hx => by simp at h; subst h; simp [Q5, hx]
 | y :: ys, i + 1, x, t, h, hx => by simp only [Q5, List.mem_append]; exact .inr (q4T (by simpa using h) hx)
theorem z4v {tip : Bool} {s : S} : ∀ {xs : List V} {i j : Nat} {x y : V} {t : Nat}, q0q (Q5 tip s xs) = true → xs[i]? = some x → xs[j]? = some y → Y0 tip s x = some (some t) → Y0 tip s y = some (some t) → i = j
 | [], _, _, _, _, _, _, h, _, _, _ => by simp at h
 | z :: zs, i, j, x, y, t, hn, hi, hj, hx, hy => by
  have key : ∀ {k : Nat} {u : V}, zs[k]? = some u → Y0 tip s u = some (some t) → Y0 tip s z = some (some t) → False := by
   intro k u hk hu hz
   have := q4T hk hu
   simp [Q5, hz, q0q] at hn
   exact hn.1 this
  cases i with
  | zero =>
   simp at hi; subst hi
   cases j with
   | zero => rfl
   | succ j => exact (key (by simpa using hj) hy hx).elim
  | succ i =>
   cases j with
   | zero => simp at hj; subst hj; exact (key (by simpa using hi) hx hy).elim
   | succ j =>
    have hn' : q0q (Q5 tip s zs) = true := by
     simp only [Q5] at hn
     split at hn
     ·simp [q0q] at hn; exact hn.2
     ·simpa using hn
    have := z4v (i := i) (j := j) hn' (by simpa using hi) (by simpa using hj) hx hy
    omega
theorem q7a {P : Program} {tip : Bool} {s : S} : ∀ {Ts : List TypeId} {xs : List V} {i : Nat} {z : V}, (Z2 P tip s Ts xs)[i]? = some z → ∃ (T : TypeId) (x : V), Ts[i]? = some T ∧ xs[i]? = some x ∧ z = H8 P tip s T x
 | [], _, _, _, h => by simp [Z2] at h
 | _ :: _, [], _, _, h => by simp [Z2] at h
 | T :: Ts, x :: xs, 0, z, h => by simp [Z2] at h; exact ⟨T, x, rfl, rfl, h.symm⟩
 | T :: Ts, x :: xs, i + 1, z, h => by
  simp only [Z2, List.getElem?_cons_succ] at h
  obtain ⟨T', x', h1, h2, h3⟩ := q7a h
  exact ⟨T', x', by simpa using h1, by simpa using h2, h3⟩
theorem q6R {P : Program} {tip : Bool} {s : S} : ∀ {Ts : List TypeId} {xs : List V}, Ts.length = xs.length → (Z2 P tip s Ts xs).length = xs.length
 | [], [], _ => rfl
 | T :: Ts, x :: xs, h => by simp [Z2, q6R (Ts := Ts) (xs := xs) (by simpa using h)]
 | [], _ :: _, h => by simp at h
 | _ :: _, [], h => by simp at h
def F8 (tip : Bool) (s : S) (t : Nat) : Nat → List V → Option Nat
 | _, [] => none
 | i, x :: xs => if Y0 tip s x = some (some t) then some i else F8 tip s t (i + 1) xs
theorem q7b {tip : Bool} {s : S} {t : Nat} : ∀ {xs : List V} {i j : Nat}, F8 tip s t i xs = some j → ∃ (k : Nat) (x : V), j = i + k ∧ xs[k]? = some x ∧ Y0 tip s x = some (some t)
 | [], _, _, h => by simp [F8] at h
 | x :: xs, i, j, h => by
  simp only [F8] at h
  split at h
  ·rename_i hx; cases h; exact ⟨0, x, rfl, rfl, hx⟩
  ·obtain ⟨k, y, h1, h2, h3⟩ := q7b h
   exact ⟨k + 1, y, by omega, by simpa using h2, h3⟩
theorem z5z {tip : Bool} {s : S} {t : Nat} : ∀ {xs : List V} {i : Nat}, F8 tip s t i xs = none → t ∉ Q5 tip s xs
 | [], _, _ => by simp [Q5]
 | x :: xs, i, h => by
  simp only [F8] at h
  split at h
  ·cases h
  ·rename_i hx
   have := z5z h
   simp only [Q5, List.mem_append, not_or]
   refine ⟨?_, this⟩
   cases ha : Y0 tip s x with
   | none => simp
   | some o => cases o with
    | none => simp
    | some u => simp; intro e; subst e; exact hx ha
end Go.E
namespace Go.E
open Go
def G.call (Γ : G) (w : World) (tip : Bool) (s : S) (ys : List V) : G :=
 { H := Γ.H
   Z := fun b => match Γ.Z b with
    | some o => some o
    | none => match Γ.κ b with
     | some (.tok t, _) => match F8 tip s t 0 ys with
      | some _ => none
      | none => w.heap[b]?
     | _ => none
   ι := fun k => match k with
    | .l _ => none
    | .g k => Γ.ι k
   τ := fun m => if 1000 ≤ m then (match ys[m - 1000]? with
    | some y => (match Y0 tip s y with
     | some (some t) => Γ.τ t
     | some none => some (none, 0)
     | none => none)
    | none => none) else none
   κ := fun b => match Γ.κ b with
    | some (.home k p, sz) => some (.home (.g k) p, sz)
    | some (.tok t, sz) => match F8 tip s t 0 ys with
     | some i => some (.tok (1000 + i), sz)
     | none => none
    | none => none
   gl := Γ.gl
   oo := Γ.oo
   σ := Γ.σ }
def S.up (s : S) : Key → Option O := fun k => (s.obj k).map (O.ren .g)
section
variable {P : Program} {Γ : G} {w : World} {s : S} {tip : Bool} {ys : List V} {Ts : List TypeId}
theorem y4I (Γ : G) (w : World) (tip : Bool) (s : S) (ys : List V) {b : Nat} (hz : Γ.Z b = none) (h : ∀ t sz, Γ.κ b = some (.tok t, sz) → F8 tip s t 0 ys ≠ none) : (Γ.call w tip s ys).Z b = none := by
 simp only [G.call, hz]
 cases hk : Γ.κ b with
 | none => rfl
 | some x =>
  obtain ⟨o, sz⟩ := x
  cases o with
  | home => rfl
  | tok t =>
   simp only
   cases ha : F8 tip s t 0 ys with
   | some _ => rfl
   | none => exact absurd ha (h t sz hk)
theorem z5w (Γ : G) (w : World) (tip : Bool) (s : S) (ys : List V) (hm : Option Key) : q20 Γ (Γ.call w tip s ys) .g hm :=
 ⟨Hp.le_refl _, fun k x h => h, fun _ _ h => h, fun k b p sz _ h => ⟨by simp [G.call, h], rfl⟩⟩
theorem y3j {y : V} {u : Value} (c : y9 Γ w s) (hr : q9 Γ y u) {m : Option Nat} (h : Y0 tip s y = some m) :
  ∀ T, ∃ eb e cs, H8 P tip s T y = .ts eb e cs := by
 intro T
 cases y <;> simp only [Y0, reduceCtorEq] at h
 case sl eb e cs t =>
  split at h
  ·rename_i hc; exact ⟨eb, e, cs, by simp [H8, hc]⟩
  ·cases h
 case emp eb e =>
  split at h
  ·rename_i hc; exact ⟨eb, e, [], by simp [H8, hc]⟩
  ·cases h
 case nilc =>
  split at h
  ·rename_i hc
   simp only [H8, hc, if_true]
   split
   ·exact ⟨_, _, _, rfl⟩
   ·exact ⟨_, _, _, rfl⟩
  ·cases h
structure z6J (P : Program) (Γ : G) (tip : Bool) (s : S) (Ts : List TypeId) (ys : List V) (us : List Value) : Prop where
 len : Ts.length = ys.length
 len2 : ys.length = us.length
 rep : ∀ (i : Nat) (y : V) (u : Value), ys[i]? = some y → us[i]? = some u → q9 Γ y u
 nd : q0q (Q5 tip s ys) = true
theorem z6J.ix {us : List Value} (a : z6J P Γ tip s Ts ys us) {t i : Nat} {y : V} (hy : ys[i]? = some y) (ht : Y0 tip s y = some (some t)) : F8 tip s t 0 ys = some i := by
 cases h : F8 tip s t 0 ys with
 | none => exact absurd (q4T hy ht) (z5z h)
 | some j =>
  obtain ⟨k, x, h1, h2, h3⟩ := q7b h
  have := z4v a.nd hy h2 ht h3
  rw [h1, this]; simp
theorem y9.call (c : y9 Γ w s) {us : List Value} (a : z6J P Γ tip s Ts ys us) : y9 (Γ.call w tip s ys) w (S.start (Z2 P tip s Ts ys) s.up) := by
 have hobj : ∀ k o, (S.start (Z2 P tip s Ts ys) s.up).obj k = some o → ∃ k' o', k = .g k' ∧ s.obj k' = some o' ∧ o = o'.ren .g := by
  intro k o h
  cases k with
  | l n => simp [S.start, S.obj, Z3, z7] at h
  | g k =>
   have h : s.up k = some o := by simpa [S.start, S.obj, Z3, z7] using h
   simp only [S.up] at h
   cases ho : s.obj k with
   | none => simp [ho] at h
   | some o' => simp [ho] at h; exact ⟨k, o', rfl, ho, h.symm⟩
 have hdead : ∀ k, s.c6 k = true → (S.start (Z2 P tip s Ts ys) s.up).c6 (.g k) = true := by
  intro k h
  cases ho : s.obj k with
  | none => simp [S.c6, z2E, ho] at h
  | some o =>
   have e : (S.start (Z2 P tip s Ts ys) s.up).obj (.g k) = some (o.ren .g) := by simp [S.start, S.obj, Z3, z7, S.up] at ho ⊢; exact ⟨o, ho, rfl⟩
   rw [Y5 e, O.q4G]; rw [Y5 ho] at h; exact h
 refine ⟨c.hH, fun b o h => ?_, fun b o sz h => ?_, fun k o h => ?_, fun k h => ?_, fun k k' b τ τ' h1 h2 => ?_, fun m L h => ?_, fun m h => ?_, c.hgl, c.hoo, c.hσ⟩
 ·simp only [G.call] at h
  cases hz : Γ.Z b with
  | some o' => simp [hz] at h; subst h; exact c.hZ b _ hz
  | none =>
   simp only [hz] at h
   cases hk : Γ.κ b with
   | none => simp [hk] at h
   | some x =>
    obtain ⟨t, sz⟩ := x
    cases t with
    | home => simp [hk] at h
    | tok t =>
     simp only [hk] at h
     split at h
     ·cases h
     ·exact h
 ·cases hk : Γ.κ b with
  | none => simp [G.call, hk] at h
  | some x =>
   obtain ⟨o', sz'⟩ := x
   obtain ⟨a1, a2, arr, T, a3, a4, a5⟩ := c.hκ b o' sz' hk
   have hT : z3Y o T := by
    cases o' with
    | home _ p => simp [G.call, hk] at h; rw [← h.1]; cases p <;> exact a5
    | tok t =>
     simp only [G.call, hk] at h
     cases hi : F8 tip s t 0 ys with
     | none => simp [hi] at h
     | some i => simp [hi] at h; rw [← h.1]; trivial
   have hsz : sz' = sz ∧ ∀ t, o' = .tok t → F8 tip s t 0 ys ≠ none := by
    cases o' with
    | home => simp [G.call, hk] at h; exact ⟨h.2, fun t e => by cases e⟩
    | tok t =>
     simp only [G.call, hk] at h
     cases hi : F8 tip s t 0 ys with
     | none => simp [hi] at h
     | some i => simp [hi] at h; exact ⟨h.2, fun t' e => by cases e; rw [hi]; simp⟩
   obtain ⟨rfl, hix⟩ := hsz
   exact ⟨y4I Γ w tip s ys a1 (fun t sz h => by rw [hk] at h; cases h; exact hix t rfl), a2, arr, T, a3, a4, hT⟩
 ·obtain ⟨k', o', rfl, ho, rfl⟩ := hobj k o h
  refine (c.obj k' o' ho).imp (fun h => ⟨h.1, O.q9s h.2⟩) fun hown => hown.ren (z5w Γ w tip s ys _) (fun hd b τ hb => ?_) (Nat.le_refl _)
  obtain ⟨a1, a2, _⟩ := c.q0u hb ho hd
  refine ⟨rfl, a1, y4I Γ w tip s ys a2 fun t sz hk => ?_⟩
  exact absurd a1 (c.hκ b _ _ hk).2.1
 ·cases k with
  | l n => simp [G.call] at h
  | g k =>
   have h' : Γ.ι k ≠ none := h
   have := c.dom k h'
   cases ho : s.obj k with
   | none => exact absurd ho this
   | some o =>
    have : (S.start (Z2 P tip s Ts ys) s.up).obj (.g k) = s.up k := by simp [S.start, S.obj, Z3, z7]
    rw [this, S.up, ho]; simp
 ·cases k with
  | l n => simp [G.call] at h1
  | g k => cases k' with
   | l n => simp [G.call] at h2
   | g k' => exact (c.inj k k' b τ τ' h1 h2).imp (congrArg Key.g) (And.imp (Or.imp (hdead k) (hdead k')) id)
 ·-- live tokens are those of arguments
  simp only [S.start, S.live, F4, q4z] at h
  by_cases hm : 1000 ≤ m
  ·rw [if_pos hm] at h
   cases hx : (Z2 P tip s Ts ys)[m - 1000]? with
   | none => simp [hx] at h
   | some z =>
    obtain ⟨T, y, _, hy, hz⟩ := q7a hx
    have hlt : m - 1000 < us.length := by rw [← a.len2]; exact (List.getElem?_eq_some_iff.1 hy).1
    have hr := a.rep _ y _ hy (List.getElem?_eq_getElem hlt)
    have hnt : y.z6a = true := by
     cases y <;> (try rfl)
     obtain ⟨h1, _⟩ := hr
     simp only [q8] at h1
     obtain ⟨_, _, _, _, h0, _⟩ := h1
     cases h0
    cases z <;> simp [hx] at h
    rename_i eb e cs
    subst h
    rcases y6j hz.symm hnt with ⟨t, rfl, h2, h3⟩ | ⟨rfl, h2⟩
    ·obtain ⟨x, h4, h5⟩ := c.tok t _ h3
     refine ⟨x, by simp [G.call, hm, hy, h2, h4], fun b pos sz hxx => ?_⟩
     obtain ⟨a1, a2⟩ := h5 b pos sz hxx
     refine ⟨a1, ?_⟩
     simp only [G.call, a2, a.ix hy h2]
     rw [show 1000 + (m - 1000) = m by omega]
    ·exact ⟨none, by simp [G.call, hm, hy, h2], fun b pos sz h => by cases h⟩
  ·rw [if_neg hm] at h; cases h
 ·simp only [G.call] at h
  by_cases hm : 1000 ≤ m
  ·rw [if_pos hm] at h
   cases hy : ys[m - 1000]? with
   | none => simp [hy] at h
   | some y =>
    simp only [hy] at h
    cases ht : Y0 tip s y with
    | none => simp [ht] at h
    | some o =>
     have hlt : m - 1000 < us.length := by rw [← a.len2]; exact (List.getElem?_eq_some_iff.1 hy).1
     have hr := a.rep _ y _ hy (List.getElem?_eq_getElem hlt)
     have hlT : m - 1000 < Ts.length := by rw [a.len]; exact (List.getElem?_eq_some_iff.1 hy).1
     obtain ⟨eb, e, cs, hget⟩ : ∃ eb e cs, (Z2 P tip s Ts ys)[m - 1000]? = some (.ts eb e cs) := by
      have hl : m - 1000 < (Z2 P tip s Ts ys).length := by rw [q6R a.len]; exact (List.getElem?_eq_some_iff.1 hy).1
      cases hz : (Z2 P tip s Ts ys)[m - 1000]? with
      | none => rw [List.getElem?_eq_none_iff] at hz; omega
      | some z =>
       obtain ⟨T, y', _, hy', hz'⟩ := q7a hz
       rw [hy] at hy'; cases hy'
       obtain ⟨eb, e, cs, h2⟩ := y3j (P := P) c hr ht T
       exact ⟨eb, e, cs, by rw [hz', h2]⟩
     simp [S.start, S.known, q4z, hm, hget]
  ·rw [if_neg hm] at h; exact absurd rfl h
theorem y4N (c : y9 Γ w s) {us : List Value} (a : z6J P Γ tip s Ts ys us) {i : Nat} {T : TypeId} {y : V} {u : Value} (hy : ys[i]? = some y) (hr : q9 Γ y u) :
  q9 (Γ.call w tip s ys) ((H8 P tip s T y).slot (1000 + i)) u := by
 have pr := z5w Γ w tip s ys none
 have hd : ∀ {eb : Nat} {e : Ty} {cs : List C} {vs : List Value}, y4 Γ.H (.slice eb e) vs (.slice cs) → y4 (Γ.call w tip s ys).H (.slice eb e) vs (.slice cs) := fun h => h
 have gen : q9 (Γ.call w tip s ys) (y.j5.ren .g id) u := q9.Z5 pr (V.z5o y) hr.j5
 cases y
 case sl eb e cs t =>
  obtain ⟨h1, h2⟩ := (s5 rfl rfl).1 hr
  simp only [q8] at h1
  obtain ⟨aa, n, cap, hv, hrc, htk⟩ := h1
  simp at hv; subst hv
  by_cases hc : tip = true ∧ s.live t = some cs.length
  ·have ha : Y0 tip s (.sl eb e cs t) = some (some t) := by simp [Y0, hc]
   simp only [H8, if_pos hc, V.slot]
   refine (s5 rfl rfl).2 ⟨?_, rfl⟩
   simp only [q8]
   obtain ⟨x, L, q1, q2, q3⟩ := htk
   exact ⟨aa, n, cap, rfl, hrc, x, L, by simp [G.call, hy, ha, q1], q2, q3⟩
  ·simp only [H8, if_neg hc, V.slot]
   exact q1o hrc
 case emp eb e =>
  obtain ⟨h1, h2⟩ := (s5 rfl rfl).1 hr
  simp only [q8] at h1
  obtain ⟨aa, hv⟩ := h1
  simp at hv; subst hv
  have hrc : y4 (Γ.call w tip s ys).H (.slice eb e) [.slice aa 0 0] (.slice []) := r6 rfl (Nat.le_refl _) (Nat.zero_le _) (by rw [Nat.zero_mul]; exact Nat.zero_le _) (.inl rfl)
  by_cases hc : tip = true
  ·have ha : Y0 tip s (.emp eb e) = some none := by simp [Y0, hc]
   simp only [H8, if_pos hc, V.slot]
   refine (s5 rfl rfl).2 ⟨?_, rfl⟩
   simp only [q8]
   exact ⟨aa, 0, 0, rfl, hrc, none, 0, by simp [G.call, hy, ha], Nat.le_refl _, fun _ => rfl⟩
  ·simp only [H8, if_neg hc, V.slot]
   exact q1o hrc
 case nilc =>
  have hts : ∀ (eb : Nat) (e : Ty), tip = true → q9 (Γ.call w tip s ys) (V.slot (1000 + i) (.ts eb e [])) (.slice none 0 0) := by
   intro eb e hc
   have ha : Y0 tip s .nilc = some none := by simp [Y0, hc]
   simp only [V.slot]
   refine (s5 rfl rfl).2 ⟨?_, rfl⟩
   simp only [q8]
   exact ⟨none, 0, 0, rfl, r6 rfl (Nat.le_refl _) (Nat.zero_le _) (by rw [Nat.zero_mul]; exact Nat.zero_le _) (.inl rfl), none, 0, by simp [G.call, hy, ha], Nat.le_refl _, fun _ => rfl⟩
  rw [X7 hr]
  simp only [H8]
  split
  ·split
   ·rename_i hc; exact hts _ _ hc
   ·simp only [V.slot]
    exact q1o (r6 rfl (Nat.le_refl _) (Nat.zero_le _) (by rw [Nat.zero_mul]; exact Nat.zero_le _) (.inl rfl))
  ·split
   ·rename_i hc; exact hts _ _ hc
   ·rw [← X7 hr]; exact gen
 case agg τ vs =>
  simp only [H8]
  split
  ·rename_i cc hcc
   obtain ⟨h1, h2⟩ := hr
   simp only [V.slot]
   exact Q4.2 ⟨q2j _ h1 hcc, h2⟩
  ·exact gen
 case ts =>
  obtain ⟨h1, _⟩ := hr
  simp only [q8] at h1
  obtain ⟨_, _, _, _, h0, _⟩ := h1
  cases h0
 all_goals exact gen
end
end Go.E
namespace Go.E
open Go
def rk (d : Nat) (j : Nat) : Nat := 1000 * (d + 1) + j
def q3z (d : Nat) (n : Nat) : Option Nat := if 1000 * (d + 1) ≤ n then some (n - 1000 * (d + 1)) else none
theorem q5l (d j : Nat) : q3z d (rk d j) = some j := by simp [q3z, rk]
theorem q22 {d n j : Nat} (h : q3z d n = some j) : rk d j = n := by
 unfold q3z at h
 split at h
 ·have := Option.some.inj h; unfold rk; omega
 ·cases h
def dn (d : Nat) : Key → Key
 | .g k => k
 | .l j => .l (rk d j)
def dnL (d : Nat) : List (Key × O) → List (Key × O)
 | [] => []
 | (k, o) :: l => (dn d k, o.ren (dn d)) :: dnL d l
def dnT (d : Nat) : List (Nat × Option Nat) → List (Nat × Option Nat)
 | [] => []
 | (m, x) :: l => (rk d m, x) :: dnT d l
def q3M : List Nat → List (Nat × Option Nat)
 | [] => []
 | t :: l => (t, none) :: q3M l
theorem q9L : ∀ (l : List Nat) (t : Nat), look (q3M l) t = if t ∈ l then some none else none
 | [], t => by simp [q3M, look]
 | u :: l, t => by
  simp only [q3M, look, q9L l t, List.mem_cons]
  by_cases h : u = t
  ·subst h; simp
  ·have h' : t ≠ u := fun e => h e.symm
   simp [h, h']
theorem q9K (d : Nat) : ∀ (l : List (Nat × Option Nat)) (t : Nat), look (dnT d l) t = match q3z d t with | some m => look l m | none => none
 | [], t => by simp only [dnT, look]; split <;> rfl
 | (m, x) :: l, t => by
  simp only [dnT, look, q9K d l t]
  cases h : q3z d t with
  | none =>
   have : rk d m ≠ t := by intro e; subst e; rw [q5l] at h; cases h
   simp [this]
  | some j =>
   have ht := q22 h
   by_cases hm : m = j
   ·subst hm; simp [ht]
   ·have : rk d m ≠ t := by intro e; apply hm; have : q3z d (rk d m) = some j := by rw [e]; exact h
                            rw [q5l] at this; exact Option.some.inj this
    simp [this, hm]
def upL (d : Nat) (L : List (Key × O)) (k : Key) : Option O :=
 match z7 L (.g k) with
 | some o => some o
 | none => match k with
  | .l n => match q3z d n with
   | some j => z7 L (.l j)
   | none => none
  | .g _ => none
def bk (d : Nat) : Option (Tip × Nat) → Option (Tip × Nat)
 | some (.home k p, sz) => some (.home (dn d k) p, sz)
 | some (.tok m, sz) => some (.tok (rk d m), sz)
 | none => none
def G.back (Γ Γ' : G) (tip : Bool) (s : S) (ys : List V) (d : Nat) (v : V) (L : List (Key × O)) : G :=
 { H := Γ'.H
   Z := Γ.Z
   ι := fun k => match k with
    | .l n => match q3z d n with
     | some j => match z7 L (.l j) with
      | some _ => Γ'.ι (.l j)
      | none => Γ.ι (.l n)
     | none => Γ.ι (.l n)
    | .g k => Γ.ι (.g k)
   τ := fun t => match q3z d t with
    | some m => match look (v.tkR 2000) m with
     | some _ => Γ'.τ m
     | none => Γ.τ t
    | none => Γ.τ t
   κ := fun b => match Γ.κ b with
    | some (.tok u, sz) => match F8 tip s u 0 ys with
     | some _ => bk d (Γ'.κ b)
     | none => some (.tok u, sz)
    | _ => bk d (Γ'.κ b)
   gl := Γ.gl
   oo := Γ.oo
   σ := Γ'.σ }
def S.back (s : S) (tip : Bool) (ys : List V) (d : Nat) (v : V) (L : List (Key × O)) : S :=
 { s with loc := dnL d L ++ s.loc, tk := dnT d (v.tkR 2000) ++ (q3M (Q5 tip s ys) ++ s.tk) }
theorem q08 {α : Type} : ∀ (l m : List (Key × α)) (n : Key), z7 (l ++ m) n = match z7 l n with | some x => some x | none => z7 m n
 | [], _, _ => rfl
 | (j, x) :: l, m, n => by
  simp only [List.cons_append, z7]
  split
  ·rfl
  ·exact q08 l m n
theorem q6L (d : Nat) : ∀ {L : List (Key × O)} {k : Key} {o : O}, z7 (dnL d L) k = some o → (∃ j o', dn d j = k ∧ z7 L j ≠ none ∧ o = O.ren (dn d) o')
 | [], _, _, h => by simp [dnL, z7] at h
 | (j, o') :: L, k, o, h => by
  simp only [dnL, z7] at h
  split at h
  ·rename_i e; cases h; exact ⟨j, o', e, by simp [z7], rfl⟩
  ·obtain ⟨j2, o2, a1, a2, a3⟩ := q6L d h
   refine ⟨j2, o2, a1, ?_, a3⟩
   simp only [z7]; split <;> simp [a2]
theorem q7F (d : Nat) {s : S} : ∀ {L : List (Key × O)} {k : Key}, (∀ k o, z7 L (.g k) = some o → s.obj k ≠ none) → (∀ j o, z7 L (.l j) = some o → s.obj (.l (rk d j)) = none) →
  (∀ j o, z7 L j = some o → dn d j = k → z7 (dnL d L) k = some (o.ren (dn d)))
 | [], k, _, _, j, o, h, _ => by simp [z7] at h
 | (i, oi) :: L, k, hg, hl, j, o, h, hj => by
  simp only [z7] at h
  simp only [dnL, z7]
  by_cases hij : i = j
  ·subst hij; simp at h; subst h; simp [hj]
  ·rw [if_neg hij] at h
   have hne : dn d i ≠ k := by
    intro e
    have hi0 : ∃ oi', z7 ((i, oi) :: L) i = some oi' := ⟨oi, by simp [z7]⟩
    obtain ⟨oi', hi1⟩ := hi0
    have hj1 : z7 ((i, oi) :: L) j = some o := by simp only [z7]; rw [if_neg hij]; exact h
    cases i with
    | g ki =>
     cases j with
     | g kj => simp only [dn] at e hj; subst e; subst hj; exact hij rfl
     | l nj =>
      simp only [dn] at e hj
      have h1 := hg ki _ hi1
      have h2 := hl nj _ hj1
      rw [← e] at hj; rw [hj] at h2; exact h1 h2
    | l ni =>
     cases j with
     | g kj =>
      simp only [dn] at e hj
      have h1 := hg kj _ hj1
      have h2 := hl ni _ hi1
      rw [← hj] at e; rw [e] at h2; exact h1 h2
     | l nj =>
      simp only [dn] at e hj
      rw [← hj] at e
      simp [rk] at e
      exact hij (by rw [e])
   rw [if_neg hne]
   exact q7F d (L := L) (fun k0 o0 h0 => by
    by_cases e : i = .g k0
    ·subst e; exact hg k0 oi (by simp [z7])
    ·exact hg k0 o0 (by simp [z7, e, h0])) (fun j0 o0 h0 => by
    by_cases e : i = .l j0
    ·subst e; exact hl j0 oi (by simp [z7])
    ·exact hl j0 o0 (by simp [z7, e, h0])) j o h hj
section
variable {P : Program} {Γ Γ' : G} {w w' : World} {s : S} {tip : Bool} {ys : List V} {Ts : List TypeId} {v : V} {L : List (Key × O)} {d : Nat}
theorem y9.back (c : y9 Γ w s) {us : List Value} (a : z6J P Γ tip s Ts ys us) (gle : GLe (Γ.call w tip s ys) Γ') (c' : y9 Γ' w' (S.fin v L s.up))
  (hg : ∀ k o, z7 L (.g k) = some o → s.obj k ≠ none) (hl : ∀ j o, z7 L (.l j) = some o → s.obj (.l (rk d j)) = none) (ht : ∀ m x, look (v.tkR 2000) m = some x → s.known (rk d m) = false)
  {u : Value} (hv : q9 Γ' (v.X3 2000) u) : o9 Γ w (s.back tip ys d v L) ((v.X3 2000).ren (dn d) (rk d)) u w' := by
 -- facts on the ghosts
 have hZu : ∀ b t sz, Γ.κ b = some (.tok t, sz) → F8 tip s t 0 ys = none → (Γ.call w tip s ys).Z b ≠ none := by
  intro b t sz hk hi
  obtain ⟨a1, _, arr, T, a3, _⟩ := c.hκ b _ _ hk
  simp only [G.call, a1, hk, hi, a3]; simp
 have hZ0 : ∀ b, Γ.Z b ≠ none → (Γ.call w tip s ys).Z b ≠ none := by
  intro b h
  cases hz : Γ.Z b with
  | none => exact absurd hz h
  | some o => simp [G.call, hz]
 have hιg : ∀ k x, Γ.ι k = some x → Γ'.ι (.g k) = some x := fun k x h => gle.g k x h
 have hιnew : ∀ j, z7 L (.l j) ≠ none → Γ.ι (.l (rk d j)) = none := by
  intro j h
  cases ho : z7 L (.l j) with
  | none => exact absurd ho h
  | some o => exact c.z0J (hl j o ho)
 have hfin : ∀ k, (S.fin v L s.up).obj k = match z7 L k with | some o => some o | none => match k with | .g k => s.up k | .l _ => none := fun k => rfl
 have hκn : ∀ b x, Γ'.κ b = some x → (Γ.back Γ' tip s ys d v L).κ b = bk d (some x) := by
  intro b x h
  have hz := (c'.hκ b x.1 x.2 (by rw [h])).1
  rw [gle.Z] at hz
  simp only [G.back]
  cases hk : Γ.κ b with
  | none => simp [h]
  | some y =>
   obtain ⟨o, sz⟩ := y
   cases o with
   | home => simp [h]
   | tok t =>
    simp only
    cases hi : F8 tip s t 0 ys with
    | some i => simp [h]
    | none => exact absurd hz (hZu b t sz hk hi)
 have hτn : ∀ m x, Γ'.τ m = some x → (Γ.back Γ' tip s ys d v L).τ (rk d m) = some x := by
  intro m x h
  have hk := c'.tdom m (by rw [h]; simp)
  have hk' : (look (v.tkR 2000) m).isSome = true := hk
  obtain ⟨y, hy⟩ := Option.isSome_iff_exists.1 hk'
  simp [G.back, q5l, hy, h]
 have hιn : ∀ k x, Γ'.ι k = some x → (Γ.back Γ' tip s ys d v L).ι (dn d k) = some x := by
  intro k x h
  cases k with
  | l j =>
   have hd := c'.dom (.l j) (by rw [h]; simp)
   rw [hfin] at hd
   cases ho : z7 L (.l j) with
   | none => simp [ho] at hd
   | some o => simp [G.back, dn, q5l, ho, h]
  | g k =>
   have hd := c'.dom (.g k) (by rw [h]; simp)
   rw [hfin] at hd
   have hsk : s.obj k ≠ none := by
    cases ho : z7 L (.g k) with
    | none =>
     simp only [ho, S.up] at hd
     intro e; rw [e] at hd; simp at hd
    | some o => exact hg k o ho
   cases hso : s.obj k with
   | none => exact absurd hso hsk
   | some o =>
    rcases c.obj k o hso with hn | hown
    ·rw [gle.gn k hn.1] at h; cases h
    obtain ⟨b, τ, e1, _⟩ := hown.block
    have e2 := hιg k _ e1
    rw [h] at e2; cases e2
    simp only [dn]
    cases k with
    | g k => exact e1
    | l n =>
     simp only [G.back]
     split
     ·rename_i j hj
      split
      ·rename_i o' ho'
       have := hl j o' ho'
       rw [q22 hj] at this
       exact absurd this hsk
      ·exact e1
     ·exact e1
 have pr : ∀ hm, q20 Γ' (Γ.back Γ' tip s ys d v L) (dn d) hm := fun hm =>
  ⟨Hp.le_refl _, hιn, fun _ _ h => h, fun k b p sz _ h => ⟨by rw [hκn b _ h]; rfl, rfl⟩⟩
 have hp : j7 Γ (Γ.back Γ' tip s ys d v L) := by
  refine ⟨gle.H, fun k x h => ?_, fun t x M h => ⟨x, M, ?_, Nat.le_refl _, fun _ => rfl⟩, fun b sz h => gle.σ b sz h⟩
  ·cases k with
   | g k => exact h
   | l n =>
    simp only [G.back]
    split
    ·rename_i j hj
     split
     ·rename_i o ho
      have := hιnew j (by rw [ho]; simp)
      rw [q22 hj, h] at this; cases this
     ·exact h
    ·exact h
  ·simp only [G.back]
   split
   ·rename_i m hm
    split
    ·rename_i y hy
     have := ht m y hy
     rw [q22 hm] at this
     have hk := c.tdom t (by rw [h]; simp)
     rw [this] at hk; cases hk
    ·exact h
   ·exact h
 have hobj' : ∀ k, (s.back tip ys d v L).obj k = match z7 (dnL d L) k with | some o => some o | none => s.obj k := by
  intro k
  unfold S.obj Z3 S.back
  simp only [q08]
  cases z7 (dnL d L) k <;> rfl
 have hZn : ∀ b, Γ'.Z b = none → Γ.Z b = none := by
  intro b h
  rw [gle.Z] at h
  cases hz : Γ.Z b with
  | none => rfl
  | some o => have := hZ0 b (by rw [hz]; simp); rw [h] at this; exact absurd rfl this
 have hιback : ∀ k, (S.fin v L s.up).obj k ≠ none → Γ'.ι k = none → (Γ.back Γ' tip s ys d v L).ι (dn d k) = none := by
  intro k h hn
  have hι0 : ∀ k', k = .g k' → Γ.ι k' = none := by
   intro k' e
   subst e
   cases hx : Γ.ι k' with
   | none => rfl
   | some x => rw [hιg k' x hx] at hn; cases hn
  rw [hfin] at h
  cases k with
  | l j =>
   cases ho : z7 L (.l j) with
   | none => simp [ho] at h
   | some o => simp [G.back, dn, q5l, ho, hn]
  | g k =>
   have hsk : s.obj k ≠ none := by
    cases ho : z7 L (.g k) with
    | none =>
     simp only [ho, S.up] at h
     intro e; rw [e] at h; simp at h
    | some o => exact hg k o ho
   have h0 := hι0 k rfl
   cases k with
   | g k => exact h0
   | l n =>
    show (match q3z d n with
     | some j => match z7 L (.l j) with
      | some _ => Γ'.ι (.l j)
      | none => Γ.ι (.l n)
     | none => Γ.ι (.l n)) = none
    split
    ·rename_i j hj
     split
     ·rename_i o' ho'
      exact absurd (q22 hj ▸ hl j o' ho') hsk
     ·exact h0
    ·exact h0
 have down : ∀ k o, (S.fin v L s.up).obj k = some o → ((Γ.back Γ' tip s ys d v L).ι (dn d k) = none ∧ (o.ren (dn d)).q8n) ∨ Own (Γ.back Γ' tip s ys d v L) w' (dn d k) (o.ren (dn d)) := by
  intro k o h
  refine (c'.obj k o h).imp (fun h1 => ⟨hιback k (by rw [h]; simp) h1.1, O.q9s h1.2⟩) fun hown => hown.ren (pr _) (fun hd b τ hb => ?_) (Nat.le_refl _)
  obtain ⟨a1, a2, _⟩ := c'.q0u hb h hd
  exact ⟨rfl, a1, hZn b a2⟩
 have hdead : ∀ k, (S.fin v L s.up).c6 k = true → (s.back tip ys d v L).c6 (dn d k) = true := by
  intro k h
  unfold S.c6 at h ⊢
  rw [hfin] at h
  rw [hobj']
  cases ho : z7 L k with
  | some o =>
   rw [ho] at h
   rw [q7F d hg hl k o ho rfl]
   show (o.ren _).H4 = true
   rw [O.q4G]; exact h
  | none =>
   rw [ho] at h
   cases k with
   | l n => cases h
   | g k =>
    simp only [dn]
    cases hs : s.obj k with
    | none => simp [S.up, hs, z2E] at h
    | some o =>
     have : z7 (dnL d L) k = none := by
      cases hk : z7 (dnL d L) k with
      | none => rfl
      | some o1 =>
       obtain ⟨j, _, e1, e2, _⟩ := q6L d hk
       cases j with
       | g j => simp only [dn] at e1; subst e1; exact absurd ho e2
       | l j =>
        cases hj : z7 L (.l j) with
        | none => exact absurd hj e2
        | some oj =>
         have := hl j oj hj
         simp only [dn] at e1
         rw [e1, hs] at this; cases this
     rw [this]
     simp only [S.up, hs, Option.map_some, z2E] at h ⊢
     rw [O.q4G] at h; exact h
 refine ⟨Γ.back Γ' tip s ys d v L, ⟨gle.H, rfl, fun b h => gle.ZH b (hZ0 b h), fun _ _ h => h, rfl, rfl, fun b sz h => gle.σ b sz h, fun _ h => h⟩, hp, ?_, hv.ren (pr none) hτn⟩
 refine ⟨c'.hH, fun b o h => ?_, fun b o sz h => ?_, fun k o h => ?_, fun k h => ?_, fun k k' b τ τ' h1 h2 => ?_, fun t M h => ?_, fun t h => ?_, fun g τ cc h => ?_, by rw [c'.hoo, gle.oo]; rfl, c'.hσ⟩
 ·exact c'.hZ b o (by rw [gle.Z]; simp [G.call, show Γ.Z b = some o from h])
 ·-- rooms
  have other : ∀ x, Γ'.κ b = some x → x.2 = sz → Γ.Z b = none ∧ Γ'.H b ≠ none ∧ ∃ arr T, w'.heap[b]? = some (.cells arr T (0, 0)) ∧ arr.size = sz ∧ z3Y x.1 T := by
   intro x hx e
   obtain ⟨a1, a2, a3⟩ := c'.hκ b x.1 x.2 hx
   rw [e] at a3
   exact ⟨hZn b a1, a2, a3⟩
  have bkc : ∀ {x}, bk d (Γ'.κ b) = some x → x.2 = sz → Γ.Z b = none ∧ Γ'.H b ≠ none ∧ ∃ arr T, w'.heap[b]? = some (.cells arr T (0, 0)) ∧ arr.size = sz ∧ z3Y x.1 T := by
   intro x hx e
   cases hk' : Γ'.κ b with
   | none => rw [hk'] at hx; simp [bk] at hx
   | some y =>
    have hz : y.2 = sz := by
     obtain ⟨o', sz'⟩ := y
     rw [hk'] at hx
     cases o' <;> simp [bk] at hx <;> subst hx <;> exact e
    obtain ⟨q1, q2, arr, T, q3, q4, q5⟩ := other y hk' hz
    refine ⟨q1, q2, arr, T, q3, q4, ?_⟩
    obtain ⟨o', sz'⟩ := y
    rw [hk'] at hx
    cases o' with
    | home _ p => simp [bk] at hx; subst hx; cases p <;> exact q5
    | tok => simp [bk] at hx; subst hx; trivial
  simp only [G.back] at h
  cases hk : Γ.κ b with
  | none => simp only [hk] at h; exact bkc h rfl
  | some y =>
   obtain ⟨o0, sz0⟩ := y
   cases o0 with
   | home => simp only [hk] at h; exact bkc h rfl
   | tok t =>
    simp only [hk] at h
    cases hi : F8 tip s t 0 ys with
    | some i => simp only [hi] at h; exact bkc h rfl
    | none =>
     simp [hi] at h
     obtain ⟨rfl, rfl⟩ := h
     obtain ⟨a1, a2, arr, T, a3, a4⟩ := c.hκ b _ _ hk
     have hz := hZu b t sz0 hk hi
     have hH : Γ'.H b = Γ.H b := gle.ZH b hz
     have hw : w'.heap[b]? = w.heap[b]? := by
      have : Γ'.Z b = w.heap[b]? := by rw [gle.Z]; simp [G.call, a1, hk, hi]
      rw [a3] at this ⊢
      exact c'.hZ b _ this
     exact ⟨a1, by show Γ'.H b ≠ none; rw [hH]; exact a2, arr, T, by rw [hw]; exact a3, a4⟩
 ·-- objects
  rw [hobj'] at h
  cases hk : z7 (dnL d L) k with
  | some o1 =>
   rw [hk] at h; cases h
   obtain ⟨j, _, e1, e2, _⟩ := q6L d hk
   cases hj : z7 L j with
   | none => exact absurd hj e2
   | some oj =>
    have := q7F d hg hl j oj hj e1
    rw [hk] at this; cases this
    rw [← e1]
    exact down j oj (by rw [hfin, hj])
  | none =>
   rw [hk] at h
   have hLg : z7 L (.g k) = none := by
    cases ho : z7 L (.g k) with
    | none => rfl
    | some o0 =>
     have this : z7 (dnL d L) k = _ := q7F d hg hl (.g k) o0 ho rfl
     rw [hk] at this; cases this
   have := down (.g k) (o.ren .g) (by rw [hfin, hLg]; simp only [S.up, h]; rfl)
   rwa [O.q3A .g (dn d) (fun _ => rfl)] at this
 ·-- every handle's object is there
  rw [hobj']
  cases hk : z7 (dnL d L) k with
  | some o => simp
  | none =>
   simp only
   cases k with
   | g k => exact c.dom _ h
   | l n =>
    simp only [G.back] at h
    split at h
    ·rename_i j hj
     split at h
     ·rename_i o ho
      have := q7F d hg hl (.l j) o ho (by simp only [dn]; rw [q22 hj])
      rw [hk] at this; cases this
     ·exact c.dom _ h
    ·exact c.dom _ h
 ·-- blocks stay apart
  have key : ∀ k b τ, (Γ.back Γ' tip s ys d v L).ι k = some (b, τ) → (Γ.ι k = some (b, τ) ∧ Γ'.ι (.g k) = some (b, τ)) ∨ ∃ j, k = .l (rk d j) ∧ Γ'.ι (.l j) = some (b, τ) := by
   intro k b τ h
   cases k with
   | g k => exact .inl ⟨h, hιg _ _ h⟩
   | l n =>
    simp only [G.back] at h
    split at h
    ·rename_i j hj
     split at h
     ·exact .inr ⟨j, by rw [q22 hj], h⟩
     ·exact .inl ⟨h, hιg _ _ h⟩
    ·exact .inl ⟨h, hιg _ _ h⟩
  rcases key k b τ h1 with ⟨e1, e2⟩ | ⟨j, e1, e2⟩ <;> rcases key k' b τ' h2 with ⟨f1, f2⟩ | ⟨j', f1, f2⟩
  ·exact (c'.inj _ _ _ _ _ e2 f2).imp (fun e => by cases e; rfl) (And.imp (Or.imp (hdead _) (hdead _)) id)
  ·subst f1; exact (c'.inj _ _ _ _ _ e2 f2).imp (fun e => by cases e) (And.imp (Or.imp (hdead _) (hdead _)) id)
  ·subst e1; exact (c'.inj _ _ _ _ _ e2 f2).imp (fun e => by cases e) (And.imp (Or.imp (hdead _) (hdead _)) id)
  ·subst e1; subst f1; exact (c'.inj _ _ _ _ _ e2 f2).imp (fun e => by cases e; rfl) (And.imp (Or.imp (hdead _) (hdead _)) id)
 ·-- live tokens
  simp only [S.back, S.live, F4, q1E, q9K] at h
  cases hr : q3z d t with
  | some m =>
   simp only [hr] at h
   cases hm : look (v.tkR 2000) m with
   | some y =>
    simp only [hm] at h
    cases y with
    | none => simp at h
    | some M' =>
     simp at h; subst h
     obtain ⟨x, a1, a2⟩ := c'.tok m M' (by unfold S.live F4; rw [show (S.fin v L s.up).tk = v.tkR 2000 from rfl, hm])
     refine ⟨x, by simp [G.back, hr, hm, a1], fun b pos sz hx => ?_⟩
     obtain ⟨a3, a4⟩ := a2 b pos sz hx
     refine ⟨a3, ?_⟩
     rw [hκn b _ a4]
     simp only [bk, q22 hr]
   | none =>
    simp only [hm] at h
    rw [q9L] at h
    by_cases hp' : t ∈ Q5 tip s ys
    ·simp [hp'] at h
    ·simp only [hp', if_false] at h
     obtain ⟨x, a1, a2⟩ := c.tok t M h
     refine ⟨x, by simp [G.back, hr, hm, a1], fun b pos sz hx => ?_⟩
     obtain ⟨⟨l, a3, a5⟩, a4⟩ := a2 b pos sz hx
     have hi : F8 tip s t 0 ys = none := by
      cases hi : F8 tip s t 0 ys with
      | none => rfl
      | some i => obtain ⟨k, y, _, h2, h3⟩ := q7b hi; exact absurd (q4T h2 h3) hp'
     have hH : Γ'.H b = Γ.H b := gle.ZH b (hZu b t sz a4 hi)
     exact ⟨⟨l, by show Γ'.H b = some l; rw [hH]; exact a3, a5⟩, by simp [G.back, a4, hi]⟩
  | none =>
   simp only [hr] at h
   rw [q9L] at h
   by_cases hp' : t ∈ Q5 tip s ys
   ·simp [hp'] at h
   ·simp only [hp', if_false] at h
    obtain ⟨x, a1, a2⟩ := c.tok t M h
    refine ⟨x, by simp [G.back, hr, a1], fun b pos sz hx => ?_⟩
    obtain ⟨⟨l, a3, a5⟩, a4⟩ := a2 b pos sz hx
    have hi : F8 tip s t 0 ys = none := by
     cases hi : F8 tip s t 0 ys with
     | none => rfl
     | some i => obtain ⟨k, y, _, h2, h3⟩ := q7b hi; exact absurd (q4T h2 h3) hp'
    have hH : Γ'.H b = Γ.H b := gle.ZH b (hZu b t sz a4 hi)
    exact ⟨⟨l, by show Γ'.H b = some l; rw [hH]; exact a3, a5⟩, by simp [G.back, a4, hi]⟩
 ·-- known tokens
  simp only [S.back, S.known, q1E, q9K]
  have old : Γ.τ t ≠ none → (look s.tk t).isSome = true := fun h => c.tdom t h
  have oldk : Γ.τ t ≠ none → (match look (q3M (Q5 tip s ys)) t with | some x => some x | none => look s.tk t).isSome = true := by
   intro h
   cases hd : look (q3M (Q5 tip s ys)) t with
   | some y => rfl
   | none => exact old h
  simp only [G.back] at h
  cases hr : q3z d t with
  | some m =>
   simp only [hr] at h
   simp only
   cases hm : look (v.tkR 2000) m with
   | some y => rfl
   | none => simp only [hm] at h; have := oldk h; revert this; cases look (q3M (Q5 tip s ys)) t <;> simp
  | none => simp only [hr] at h; have := oldk h; revert this; cases look (q3M (Q5 tip s ys)) t <;> simp
 ·have h' : (Γ.call w tip s ys).gl g = some (τ, cc) := h
  rw [← gle.gl] at h'
  exact c'.hgl g τ cc h'
end
end Go.E
namespace Go.E
open Go
def W7 (P : Program) (f : FuncId) : Bool :=
 match P.funcs[f]? with
 | some fn => fn.name != "runtime.NumGoroutine" && fn.body.isSome
 | none => false
section
variable {P : Program} {Γ : G} {w : World} {s : S}
theorem z02 {f : FuncId} (h : W7 P f = true) (args : Array Value) (w : World) : (callFunc f args).run P w = .ok (.enter f args) w := by
 unfold W7 at h
 cases hf : P.funcs[f]? with
 | none => simp [hf] at h
 | some fn =>
  simp [hf] at h
  obtain ⟨h1, h2⟩ := h
  cases hb : fn.body with
  | none => simp [hb] at h2
  | some b => simp [callFunc, hf, h1, hb]
theorem z8K {x : V} {v : Value} (h1 : q8 Γ none [] x v.cells.toList) (h2 : u7 v = x.ty.isAgg) : q9 Γ x v := by
 cases x <;> first | exact ⟨h1, h2⟩ | trivial | (simp only [q8] at h1)
theorem y0w : ∀ {xs : List V} {vs : List Value}, v8 Γ xs vs → xs.length = vs.length ∧ ∀ (i : Nat) x v, xs[i]? = some x → vs[i]? = some v → q9 Γ x v
 | [], vs, h => by simp only [v8] at h; subst h; simp
 | x :: xs, vs, h => by
  simp only [v8] at h
  obtain ⟨v, vs', rfl, h2, h3, h4⟩ := h
  obtain ⟨e1, e2⟩ := y0w h4
  refine ⟨by simp [e1], fun i y u hy hu => ?_⟩
  cases i with
  | zero => simp at hy hu; subst hy; subst hu; exact z8K h2 h3
  | succ i => exact e2 i y u (by simpa using hy) (by simpa using hu)
theorem z2f {f : FuncId} {caps : List V} {v : Value} (h : q9 Γ (.fn f caps) v) : ∃ cv : Array Value, v = .func (.func f) #[] cv ∧ caps.length = cv.toList.length ∧ ∀ (i : Nat) x u, caps[i]? = some x → cv.toList[i]? = some u → q9 Γ x u := by
 obtain ⟨h1, _⟩ := (s5 rfl rfl).1 h
 simp only [q8] at h1
 obtain ⟨cv, hv, hc⟩ := h1
 simp at hv
 obtain ⟨e1, e2⟩ := y0w hc
 exact ⟨cv, hv, e1, e2⟩
def Q9 (as : List V) (caps : List V) : List V := as ++ caps
def q3v (ts : List TypeId) (caps : List V) : List TypeId := ts ++ List.replicate caps.length 0
mutual
theorem V.y2x : ∀ (x : V), x.r8 = true → (x.ren .g id).ok j8 j8 = true
 | .sl _ _ _ _, h => by simp [V.r8] at h
 | .agg _ vs, h | .fn _ vs, h | .tup vs, h => by simp only [V.ren, V.ok]; exact V.y3P vs (by simpa [V.r8] using h)
 | .ptr _ _ _, _ | .mp _, _ | .sr _ _ _ _ _ _ _, _ | .d _ _, _ | .ts _ _ _, _ | .emp _ _, _ | .nilc, _ | .cptr _ _, _ | .top _, _ | .any, _ => by simp [V.ren, V.ok]
theorem V.y3P : ∀ (xs : List V), V.Y8 xs = true → V.oks j8 j8 (V.q0f .g id xs) = true
 | [], _ => rfl
 | x :: xs, h => by
  simp only [V.Y8, Bool.and_eq_true] at h
  simp only [V.q0f, V.oks, Bool.and_eq_true]
  exact ⟨V.y2x x h.1, V.y3P xs h.2⟩
end
theorem y1y : ∀ (es : List (C × V)), (∀ (i : Nat) (c : C × V), es[i]? = some c → c.2.r8 = true) → V.q0S j8 j8 (es.map fun c => (c.1, c.2.ren .g id)) = true
 | [], _ => rfl
 | x :: xs, h => by
  simp only [List.map_cons, V.q0S, Bool.and_eq_true]
  exact ⟨V.y2x _ (h 0 x rfl), y1y xs fun i c hc => h (i + 1) c (by simpa using hc)⟩
theorem y9.y8I (c : y9 Γ w s) : AOk s.up := by
 intro k o h
 unfold S.up at h
 cases ho : s.obj k with
 | none => simp [ho] at h
 | some o0 =>
  simp only [ho, Option.map_some, Option.some.injEq] at h
  subst h
  rcases c.obj k o0 ho with ⟨_, hv⟩ | hown
  ·cases o0 with
   | box x => obtain ⟨e, rfl⟩ := hv; rfl
   | dead => rfl
   | _ => exact hv.elim
  ·cases o0 with
   | box x =>
    obtain ⟨b, cells, T, _, _, _, _, _, _, _, h8⟩ := hown
    exact V.y2x x h8
   | map kτ vτ es =>
    obtain ⟨b, ms, clock, _, _, _, _, h5, h6, _⟩ := hown
    refine y1y es fun i cc hcc => ?_
    have hlt : i < ms.size := by rw [h5]; exact (List.getElem?_eq_some_iff.1 hcc).1
    exact (h6 i ms[i] cc (Array.getElem?_eq_getElem hlt) hcc).2.2.2.2.2.2
   | it => rfl
   | dead => rfl
theorem y1P {X : Cx} (hX : X.P = P) (hgl : Γ.gl = X.gl) (c : y9 Γ w s) {o : Oper} {a : Act} {fo : Operand} {f : FuncId} {caps : List V} {as : Array Operand} {ts : Array TypeId} {ρa : Operand → V} {tip : Bool} {A : Key → Option O} {v : V} {L : List (Key × O)} {d : Nat}
  (ho : o.op = .call { callee := .value fo, args := as, argTypes := ts }) (hcal : W7 P f = true) (hts : ts.toList.length = as.toList.length)
  (hf : q9 Γ (.fn f caps) (a.eval fo)) (hr : ∀ y ∈ as.toList, q9 Γ (ρa y) (a.eval y)) (hnd : q0q (Q5 tip s (Q9 (as.toList.map ρa) caps)) = true)
  (D : p8 X f (Z2 P tip s (q3v ts.toList caps) (Q9 (as.toList.map ρa) caps)) A v L) (hA : ∀ k o, A k = some o → s.up k = some o)
  (hg : ∀ k o, z7 L (.g k) = some o → s.obj k ≠ none) (hl : ∀ j o, z7 L (.l j) = some o → s.obj (.l (rk d j)) = none) (ht : ∀ m x, look (v.tkR 2000) m = some x → s.known (rk d m) = false) :
  s9 P o a w (o9 Γ w (s.back tip (Q9 (as.toList.map ρa) caps) d v L) ((v.X3 2000).ren (dn d) (rk d))) := by
 subst hX
 obtain ⟨cv, hfv, hcl, hcr⟩ := z2f hf
 have run : (execOp a.eval o).run X.P w = .ok (.enter f (as.map a.eval ++ cv)) w := by
  unfold execOp
  simp [ho, resolve, hfv, Deferred.ofValue, invoke, z02 hcal]
 have ha : z6J X.P Γ tip s (q3v ts.toList caps) (Q9 (as.toList.map ρa) caps) (as.map a.eval ++ cv).toList := by
  refine ⟨by simp [q3v, Q9] at hts ⊢; omega, by simp [Q9] at hcl ⊢; omega, fun i y u hy hu => ?_, hnd⟩
  simp only [Q9] at hy
  simp only [Array.toList_append, Array.toList_map] at hu
  by_cases hi : i < as.toList.length
  ·rw [List.getElem?_append_left (by simpa using hi)] at hy
   rw [List.getElem?_append_left (by simpa using hi)] at hu
   simp only [List.getElem?_map] at hy hu
   cases he : as.toList[i]? with
   | none => simp [he] at hy
   | some z =>
    simp [he] at hy hu
    subst hy; subst hu
    exact hr z (List.mem_of_getElem? he)
  ·rw [List.getElem?_append_right (by simpa using hi)] at hy
   rw [List.getElem?_append_right (by simpa using hi)] at hu
   simp only [List.length_map] at hy hu
   exact hcr _ y u hy hu
 refine s9.enter run ?_
 have cc := c.call ha
 refine (D s.up (Γ.call w tip s _) w (as.map a.eval ++ cv) hA hgl ⟨cc, c.y8I⟩ ?_ fun i x u hx hu => ?_).mono ?_
 ·rw [q6R ha.len, ha.len2]; simp
 ·rw [q51] at hx
  cases hz : (Z2 X.P tip s (q3v ts.toList caps) (Q9 (as.toList.map ρa) caps))[i]? with
  | none => simp [hz] at hx
  | some z =>
   simp [hz] at hx
   subst hx
   obtain ⟨T, y, _, hy, rfl⟩ := q7a hz
   have hu' : (as.map a.eval ++ cv).toList[i]? = some u := by rw [Array.getElem?_toList]; exact hu
   exact y4N c ha hy (ha.rep i y u hy hu')
 ·rintro e w' ⟨u, Γ', rfl, gle, c', hv⟩
  exact ⟨u, rfl, c.back ha gle c' hg hl ht hv⟩
end
end Go.E
namespace Go.E
open Go
noncomputable def q1f {α : Type} : List (C × α) → C → Option α
 | [], _ => none
 | (k, v) :: es, c => if C.eqb c k = true then some v else q1f es c
noncomputable def q0G {α : Type} : List (C × α) → C → α → List (C × α)
 | [], c, v => [(c, v)]
 | (k, u) :: es, c, v => if C.eqb c k = true then (k, v) :: es else (k, u) :: q0G es c v
noncomputable def J1 {α : Type} : List (C × α) → C → Nat → Option Nat
 | [], _, _ => none
 | (k, _) :: es, c, i => if C.eqb c k = true then some i else J1 es c (i + 1)
def q2c (P : Program) (T : TypeId) : Option (TypeId × TypeId) := match P.underlying T with
 | some (.map k e) => some (k, e)
 | _ => none
section
variable {P : Program}
theorem q4i (hP : u3 P = true) (em : Bool) : ∀ (f d : Nat) (T : TypeId), q1M P f T = true → f ≤ d → ∀ (H : Hp) (a : Value) (c : C) (w : World), y4 H (tyF P f T) a.cells.toList c → u7 a = (tyF P f T).isAgg → (Instr.checkKey em d T a).run P w = .ok () w
 | 0, _, _, h, _ => by simp [q1M] at h
 | f + 1, 0, _, _, hd => by omega
 | f + 1, d + 1, T, h, hd => by
  intro H a c w ra ha
  simp only [q1M, Bool.and_eq_true, decide_eq_true_eq] at h
  obtain ⟨hT, h⟩ := h
  have ho := q3a hP hT
  unfold okT at ho
  unfold tyF at ra ha
  rw [if_pos hT] at ra ha
  cases hu : P.underlying T with
  | none => simp [hu] at h
  | some kd =>
   cases kd <;> simp only [hu, Bool.false_eq_true] at h ra ha ho
   case bool => simp [Instr.checkKey, run_underlying hu]
   case int k => simp [Instr.checkKey, run_underlying hu]
   case string => simp [Instr.checkKey, run_underlying hu]
   case array n E =>
    simp [Ty.isAgg] at ha
    cases a <;> simp [u7] at ha
    rename_i xs
    simp only [Value.cells] at ra
    simp at ho
    obtain ⟨i, hi⟩ : ∃ i, P.info? E = some i := by
     cases hi : P.info? E with
     | none => simp [Tables.info?, ho.2] at hi
     | some i => exact ⟨i, rfl⟩
    rw [Instr.checkKey]
    simp only [Sem.run_bind, run_underlying hu, Result.andThen_ok]
    simp only [Std.Legacy.Range.forIn_eq_forIn_range', Std.Legacy.Range.size, Nat.sub_zero, Nat.add_one_sub_one, Nat.div_one]
    have each : ∀ j ∈ List.range' 0 n, j < n := fun j hj => by simp [List.mem_range'] at hj; omega
    generalize List.range' 0 n = is at each
    induction is with
    | nil => simp
    | cons j is ih =>
     obtain ⟨g, rfl, hE, hk⟩ := q5S h
     have hin := each j (by simp)
     have hch : (Ty.arr n (tyF P (g + 1) E)).child j = some (j * (tyF P (g + 1) E).size, tyF P (g + 1) E) := by simp only [Ty.child]; rw [if_pos hin]
     obtain ⟨_, b1, r1⟩ := ra.get hch
     obtain ⟨u, p1, p2, p3⟩ := q21 (f := g) hP hE rfl hk (by simpa using b1) ra.one w
     have q := q4i hP em (g + 1) d E h (by omega) H u _ w (p2 ▸ r1) p3
     rw [b8 hP] at p1
     have hsz : (sizeOf E).run P w = .ok (P.cellsOf E) w := by
      have := q0n (f := g + 1) hP (w := w) hE
      rwa [b8 hP] at this
     simp only [List.forIn_cons, Sem.run_bind, hsz, Result.andThen_ok, p1, q, Sem.run_pure]
     exact ih (fun y hy => each y (by simp [hy]))
   case struct fs =>
    simp [Ty.isAgg] at ha
    cases a <;> simp [u7] at ha
    rename_i xs
    simp only [Value.cells] at ra
    simp only [y4] at ra
    obtain ⟨cs, rfl, _, o1, f1⟩ := ra
    simp only [Bool.and_eq_true, Bool.not_eq_true', List.all_eq_true, bne_iff_ne, ne_eq] at h
    rw [Instr.checkKey]
    simp only [Sem.run_bind, run_underlying hu, Result.andThen_ok]
    rw [← Array.forIn_toList]
    have hall := h.2
    generalize fs.toList = L at f1 hall
    induction L generalizing cs with
    | nil => simp
    | cons g L ih =>
     simp only [List.map_cons, k9] at f1
     obtain ⟨c, cs, rfl, b1, r1, f1⟩ := f1
     obtain ⟨hn, hok⟩ := hall g (by simp)
     obtain ⟨f', rfl, hE, hk⟩ := q5S hok
     obtain ⟨u, p1, p2, p3⟩ := q21 (f := f') hP hE rfl hk (by simpa using b1) o1 w
     have q := q4i hP em (f' + 1) d g.type hok (by omega) H u _ w (p2 ▸ r1) p3
     simp only [List.forIn_cons, Sem.run_bind, hn, ne_eq, not_false_eq_true, if_true, Result.andThen_ok, p1, q, Sem.run_pure]
     exact ih cs f1 (fun y hy => hall y (by simp [hy]))
def q5b (H : Hp) (kτ : Ty) {α : Type} : List MapEntry → List (C × α) → Prop
 | [], [] => True
 | m :: ms, c :: cs => y4 H kτ m.key.cells.toList c.1 ∧ u7 m.key = kτ.isAgg ∧ q5b H kτ ms cs
 | _, _ => False
theorem q52 (hP : u3 P = true) {kt : TypeId} (hok : H3 P kt = true) {H : Hp} {k : Value} {c : C} (rk : y4 H (ty P kt) k.cells.toList c) (hk : u7 k = (ty P kt).isAgg) (w : World) {α : Type} :
  ∀ (ms : List MapEntry) (cs : List (C × α)) (i : Nat), q5b H (ty P kt) ms cs → (Instr.findAsking kt k ms i).run P w = .ok ((J1 cs c i).bind fun j => (ms[j - i]?).map fun m => (j, m.val)) w
 | [], [], i, _ => by simp [Instr.findAsking, J1]
 | m :: ms, (c1, v1) :: cs, i, h => by
  simp only [q5b] at h
  have he := z0e hP hok w rk hk h.1 h.2.1
  have ih := q52 hP hok rk hk w ms cs (i + 1) h.2.2
  simp only [Instr.findAsking, Sem.run_bind, he, Result.andThen_ok, J1]
  cases hc : C.eqb c c1 with
  | true => simp
  | false =>
   simp only [Bool.false_eq_true, if_false, ih]
   cases hf : J1 cs c (i + 1) with
   | none => rfl
   | some j =>
    have hj : i + 1 ≤ j := by
     have : ∀ (cs : List (C × α)) (i j : Nat), J1 cs c i = some j → i ≤ j := by
      intro cs
      induction cs with
      | nil => intro i j h; simp [J1] at h
      | cons x cs ih =>
       intro i j h
       obtain ⟨a, b⟩ := x
       simp only [J1] at h
       split at h
       ·cases h; exact Nat.le_refl _
       ·have := ih _ _ h; omega
     exact this cs _ _ hf
    simp only [Option.bind_some]
    rw [show j - i = (j - (i + 1)) + 1 by omega, List.getElem?_cons_succ]
 | [], _ :: _, _, h => by simp [q5b] at h
 | _ :: _, [], _, h => by simp [q5b] at h
theorem y0N (hP : u3 P = true) {kt : TypeId} (hok : H3 P kt = true) {H : Hp} {d : TypeDesc} (hd : P.underlying kt = some d) {k k' : Value} {c c' : C} (rk : y4 H (ty P kt) k.cells.toList c) (hk : u7 k = (ty P kt).isAgg)
  (rk' : y4 H (ty P kt) k'.cells.toList c') (hk' : u7 k' = (ty P kt).isAgg) : Instr.sameNow d k k' = none ∨ Instr.sameNow d k k' = some (C.eqb c c') := by
 unfold H3 at hok
 simp only [Bool.and_eq_true] at hok
 have h := hok.1
 simp only [q1M, Bool.and_eq_true, decide_eq_true_eq] at h
 obtain ⟨hT, h⟩ := h
 unfold ty tyF at rk hk rk' hk'
 rw [if_pos hT] at rk hk rk' hk'
 cases d <;> simp only [hd, Bool.false_eq_true] at h rk hk rk' hk'
 case bool =>
  rw [u4 (by simpa [Ty.isAgg] using hk)] at rk
  rw [u4 (by simpa [Ty.isAgg] using hk')] at rk'
  simp only [y4] at rk rk'
  obtain ⟨x, rfl, e1⟩ := rk
  obtain ⟨y, rfl, e2⟩ := rk'
  simp at e1 e2; subst e1; subst e2
  right; simp [Instr.sameNow, C.z9Y]
 case int kk =>
  rw [u4 (by simpa [Ty.isAgg] using hk)] at rk
  rw [u4 (by simpa [Ty.isAgg] using hk')] at rk'
  simp only [y4] at rk rk'
  obtain ⟨x, rfl, e1, _⟩ := rk
  obtain ⟨y, rfl, e2, _⟩ := rk'
  simp at e1 e2; subst e1; subst e2
  right; simp [Instr.sameNow, C.y1K]
 case string =>
  rw [u4 (by simpa [Ty.isAgg] using hk)] at rk
  rw [u4 (by simpa [Ty.isAgg] using hk')] at rk'
  simp only [y4] at rk rk'
  obtain ⟨x, rfl, e1, _⟩ := rk
  obtain ⟨y, rfl, e2, _⟩ := rk'
  simp at e1 e2; subst e1; subst e2
  right; simp [Instr.sameNow, C.y1J, beq_toListBytes, ByteArray.toList_eq]
 all_goals (left; rfl)
theorem z3g (hP : u3 P = true) {kt : TypeId} (hok : H3 P kt = true) {H : Hp} {d : TypeDesc} (hd : P.underlying kt = some d) {k : Value} {c : C} (rk : y4 H (ty P kt) k.cells.toList c) (hk : u7 k = (ty P kt).isAgg) {α : Type} :
  ∀ (ms : List MapEntry) (cs : List (C × α)) (i : Nat), q5b H (ty P kt) ms cs → Instr.findNow d k ms i = none ∨ Instr.findNow d k ms i = some ((J1 cs c i).bind fun j => (ms[j - i]?).map fun m => (j, m.val))
 | [], [], i, _ => by right; simp [Instr.findNow, J1]
 | m :: ms, (c1, v1) :: cs, i, h => by
  simp only [q5b] at h
  simp only [Instr.findNow]
  rcases y0N hP hok hd rk hk h.1 h.2.1 with he | he
  ·rw [he]; exact .inl rfl
  ·rw [he]
   simp only [J1]
   cases hc : C.eqb c c1 with
   | true => right; simp
   | false =>
    simp only [Bool.false_eq_true, if_false]
    rcases z3g hP hok hd rk hk ms cs (i + 1) h.2.2 with ih | ih
    ·exact .inl ih
    ·right
     rw [ih]
     cases hf : J1 cs c (i + 1) with
     | none => rfl
     | some j =>
      have hj : i + 1 ≤ j := by
       have : ∀ (cs : List (C × α)) (i j : Nat), J1 cs c i = some j → i ≤ j := by
        intro cs
        induction cs with
        | nil => intro i j h; simp [J1] at h
        | cons x cs ih =>
         intro i j h
         obtain ⟨a, b⟩ := x
         simp only [J1] at h
         split at h
         ·cases h; exact Nat.le_refl _
         ·have := ih _ _ h; omega
       exact this cs _ _ hf
      simp only [Option.bind_some]
      rw [show j - i = (j - (i + 1)) + 1 by omega, List.getElem?_cons_succ]
 | [], _ :: _, _, h => by simp [q5b] at h
 | _ :: _, [], _, h => by simp [q5b] at h
theorem z4g (hP : u3 P = true) {kt : TypeId} (hok : H3 P kt = true) {H : Hp} {k : Value} {c : C} (rk : y4 H (ty P kt) k.cells.toList c) (hk : u7 k = (ty P kt).isAgg) (w : World) {α : Type} {ms : List MapEntry} {cs : List (C × α)} (h : q5b H (ty P kt) ms cs) :
  (Instr.findKey kt k ms).run P w = .ok ((J1 cs c 0).bind fun j => (ms[j]?).map fun m => (j, m.val)) w := by
 obtain ⟨d, hd⟩ : ∃ d, P.underlying kt = some d := by
  cases hu : P.underlying kt with
  | some d => exact ⟨d, rfl⟩
  | none => unfold H3 at hok; simp [q1M, hu] at hok
 simp only [Instr.findKey, Sem.run_bind, run_underlying hd, Result.andThen_ok]
 rcases z3g hP hok hd rk hk ms cs 0 h with e | e
 ·rw [e]
  simp only
  exact q52 hP hok rk hk w ms cs 0 h
 ·rw [e]
  simp only [Sem.run_pure, Nat.sub_zero]
end
end Go.E
namespace Go.E
open Go
def Ty.flat : Ty → Bool
 | .int _ | .bool | .str => true
 | .arr _ e => e.flat
 | _ => false
def q8T : Value → Bool
 | .int _ _ | .bool _ | .string _ => true
 | _ => false
theorem z8L {H H' : Hp} : ∀ {τ : Ty} {vs vs' : List Value} {c : C}, τ.flat = true → y4 H τ vs c → y4 H' τ vs' c → vs = vs'
 | .int k, vs, vs', c, _, h, h' => by
  simp only [y4] at h h'
  obtain ⟨n, rfl, rfl, _⟩ := h
  obtain ⟨m, e, rfl, _⟩ := h'
  cases e; rfl
 | .bool, vs, vs', c, _, h, h' => by
  simp only [y4] at h h'
  obtain ⟨n, rfl, rfl⟩ := h
  obtain ⟨m, e, rfl⟩ := h'
  cases e; rfl
 | .str, vs, vs', c, _, h, h' => by
  simp only [y4] at h h'
  obtain ⟨n, rfl, rfl, _⟩ := h
  obtain ⟨m, e, rfl, _⟩ := h'
  cases e; rfl
 | .arr n e, vs, vs', c, hf, h, h' => by
  simp only [y4] at h h'
  obtain ⟨cs, rfl, h1, h2, _, h3⟩ := h
  obtain ⟨cs', e', h1', h2', _, h3'⟩ := h'
  cases e'
  refine List.ext_getElem? fun j => ?_
  by_cases hj : j < n * e.size
  ·have hs : 0 < e.size := by
    rcases Nat.eq_zero_or_pos e.size with h | h
    ·rw [h, Nat.mul_zero] at hj; omega
    ·exact h
   have hi : j / e.size < cs.length := by rw [h1]; exact (Nat.div_lt_iff_lt_mul hs).2 hj
   have hdm := Nat.div_add_mod j e.size
   have hmod := Nat.mod_lt j hs
   have heq := z8L (τ := e) hf (h3 _ _ (List.getElem?_eq_getElem hi)) (h3' _ _ (List.getElem?_eq_getElem hi))
   have := congrArg (fun l : List Value => l[j % e.size]?) heq
   simp only [s8, if_pos hmod] at this
   rw [Nat.mul_comm, hdm] at this
   exact this
  ·rw [List.getElem?_eq_none (by omega), List.getElem?_eq_none (by omega)]
 | .slice _ _, _, _, _, hf, _, _ | .struct _ _ _, _, _, _, hf, _, _ | .ptr, _, _, _, hf, _, _ | .map, _, _, _, hf, _, _ | .func, _, _, _, hf, _, _ | .iface, _, _, _, hf, _, _ | .opq _, _, _, _, hf, _, _ => by simp [Ty.flat] at hf
theorem q8q {H : Hp} : ∀ {τ : Ty} {vs : List Value} {c : C}, τ.flat = true → y4 H τ vs c → ∀ v ∈ vs, q8T v = true
 | .int k, vs, c, _, h => by
  simp only [y4] at h
  obtain ⟨n, rfl, rfl, _⟩ := h
  intro v hv; simp at hv; subst hv; rfl
 | .bool, vs, c, _, h => by
  simp only [y4] at h
  obtain ⟨n, rfl, rfl⟩ := h
  intro v hv; simp at hv; subst hv; rfl
 | .str, vs, c, _, h => by
  simp only [y4] at h
  obtain ⟨n, rfl, rfl, _⟩ := h
  intro v hv; simp at hv; subst hv; rfl
 | .arr n e, vs, c, hf, h => by
  simp only [y4] at h
  obtain ⟨cs, rfl, h1, h2, _, h3⟩ := h
  intro v hv
  obtain ⟨j, hj⟩ := List.getElem?_of_mem hv
  have hjl : j < n * e.size := by rw [← h2]; exact (List.getElem?_eq_some_iff.1 hj).1
  have hs : 0 < e.size := by
   rcases Nat.eq_zero_or_pos e.size with h | h
   ·rw [h, Nat.mul_zero] at hjl; omega
   ·exact h
  have hi : j / e.size < cs.length := by rw [h1]; exact (Nat.div_lt_iff_lt_mul hs).2 hjl
  have hdm := Nat.div_add_mod j e.size
  have hmod := Nat.mod_lt j hs
  refine q8q (τ := e) hf (h3 _ _ (List.getElem?_eq_getElem hi)) v (List.mem_of_getElem? (i := j % e.size) ?_)
  rw [s8, if_pos hmod, Nat.mul_comm, hdm]; exact hj
 | .slice _ _, _, _, hf, _ | .struct _ _ _, _, _, hf, _ | .ptr, _, _, hf, _ | .map, _, _, hf, _ | .func, _, _, hf, _ | .iface, _, _, hf, _ | .opq _, _, _, hf, _ => by simp [Ty.flat] at hf
theorem q7Z {n : Nat} {v : Value} (h : q8T v = true) : Instr.sameBits n v v = true := by
 cases v <;> simp [q8T] at h <;> cases n <;> simp [Instr.sameBits, beq_toListBytes]
theorem y4T (l : List Value) : l.zip l = l.map fun x => (x, x) := by
 induction l with
 | nil => rfl
 | cons x l ih => simp [ih]
theorem sameBits_self {n : Nat} {v : Value} (h : ∀ u ∈ v.cells.toList, q8T u = true) (hv : u7 v = false → q8T v = true) : Instr.sameBits (n + 1) v v = true := by
 cases v
 case agg a =>
  simp only [Value.cells] at h
  simp only [Instr.sameBits, beq_self_eq_true, Bool.true_and, y4T, List.all_map, List.all_eq_true, Function.comp]
  exact fun u hu => q7Z (h u hu)
 all_goals exact q7Z (hv rfl)
theorem z8B {u v : Value} (h : u.cells.toList = v.cells.toList) (h' : u7 u = u7 v) : u = v := by
 cases hu : u7 u with
 | false =>
  rw [u4 hu, u4 (h' ▸ hu)] at h
  simpa using h
 | true =>
  rw [hu] at h'
  cases u <;> simp [u7] at hu
  cases v <;> simp [u7] at h'
  simp only [Value.cells] at h
  rw [Array.toList_inj.1 h]
section
variable {P : Program} {Γ : G} {w : World} {s : S}
theorem q5b.of {H : Hp} {kτ : Ty} {α : Type} : ∀ {ms : List MapEntry} {cs : List (C × α)}, ms.length = cs.length → (∀ (i : Nat) (m : MapEntry) (c : C × α), ms[i]? = some m → cs[i]? = some c → y4 H kτ m.key.cells.toList c.1 ∧ u7 m.key = kτ.isAgg) → q5b H kτ ms cs
 | [], [], _, _ => trivial
 | m :: ms, c :: cs, hl, h => by
  obtain ⟨h1, h2⟩ := h 0 m c rfl rfl
  exact ⟨h1, h2, q5b.of (by simpa using hl) fun i m c hm hc => h (i + 1) m c (by simpa using hm) (by simpa using hc)⟩
 | [], _ :: _, hl, _ => by simp at hl
 | _ :: _, [], hl, _ => by simp at hl
theorem q8B {α : Type} : ∀ (cs : List (C × α)) (c : C) (i : Nat), match J1 cs c i with
  | some j => i ≤ j ∧ ∃ v, cs[j - i]? = some (c, v) ∧ q1f cs c = some v ∧ ∀ v', q0G cs c v' = cs.set (j - i) (c, v')
  | none => q1f cs c = none ∧ ∀ v', q0G cs c v' = cs ++ [(c, v')]
 | [], _, _ => by simp [J1, q1f, q0G]
 | (k, v) :: cs, c, i => by
  simp only [J1, q1f, q0G]
  by_cases h : C.eqb c k = true
  ·rw [if_pos h]
   have := C.q0b.1 h
   subst this
   simp [h]
  ·rw [if_neg h]
   have ih := q8B cs c (i + 1)
   split at ih
   ·rename_i j hj
    obtain ⟨h1, v', h2, h3, h4⟩ := ih
    rw [if_neg h]
    refine ⟨by omega, v', ?_, h3, fun u => ?_⟩
    ·rw [show j - i = (j - (i + 1)) + 1 by omega, List.getElem?_cons_succ]; exact h2
    ·rw [if_neg h, h4 u, show j - i = (j - (i + 1)) + 1 by omega, List.set_cons_succ]
   ·rename_i hj
    rw [if_neg h]
    exact ⟨ih.1, fun u => by rw [if_neg h, ih.2 u]; rfl⟩
theorem q6e {T kt et : TypeId} (h : q2c P T = some (kt, et)) : P.underlying T = some (.map kt et) := by
 unfold q2c at h
 split at h
 ·rename_i hu; cases h; exact hu
 ·cases h
theorem q8V {k : Key} {v : Value} (h : q9 Γ (.mp k) v) : ∃ b, Γ.ι k = some (b, .map) ∧ v = .map (some b) := by
 obtain ⟨h1, h2⟩ := (u0 rfl).1 h
 rw [u4 (by simpa [V.ty, Ty.isAgg] using h2)] at h1
 simp only [q8] at h1
 obtain ⟨b, h1, h3⟩ := h1
 exact ⟨b, h1, by simpa using h3⟩
theorem z8J (hP : u3 P = true) (c : y9 Γ w s) {k : Key} {kt : TypeId} {vτ : Ty} {es : List (C × V)} {key : Value} {cc : C} (hobj : s.obj k = some (.map (ty P kt) vτ es)) (hok : H3 P kt = true)
  (hk : q9 Γ (.d (ty P kt) cc) key) {b : Nat} (hι : Γ.ι k = some (b, .map)) : ∃ ms clock, w.heap[b]? = some (.map ms clock) ∧ (∀ em, (Instr.checkKey em 10000 kt key).run P w = .ok () w) ∧
   (Instr.findKey kt key ms.toList).run P w = .ok ((J1 es cc 0).bind fun j => (ms.toList[j]?).map fun m => (j, m.val)) w := by
 obtain ⟨b', ms, clock, e1, _, _, e4, e5, e6, _⟩ := c.own (by assumption) hobj
 rw [hι] at e1; cases e1
 obtain ⟨r1, r2⟩ := Q4.1 hk
 have hok' := hok
 unfold H3 at hok'
 simp only [Bool.and_eq_true] at hok'
 refine ⟨ms, clock, e4, fun em => q4i hP em 12 10000 kt hok'.1 (by decide) Γ.H key cc w r1 r2, ?_⟩
 exact z4g hP hok r1 r2 w (q5b.of (by simpa using e5) fun i m c hm hc => ⟨(e6 i m c (by simpa using hm) hc).1, (e6 i m c (by simpa using hm) hc).2.1⟩)
theorem y3a (c : y9 Γ w s) {o : Oper} {a : Act} {T : TypeId} {n : Nat} {kτ vτ : Ty} (ho : o.op = .makeMap T none) (hn : s.obj (.l n) = none) :
  s9 P o a w (o9 Γ w { s with loc := (.l n, .map kτ vτ []) :: s.loc } (.mp (.l n))) := by
 obtain ⟨h1, h2, h3⟩ := c.j4 hn (Ext.alloc w (.map #[] 0)) (τ := .map) (o := .map kτ vτ []) fun Γ' hpr _ hι hH hZ => ⟨w.heap.size, #[], 0, hι, hH, hZ, heap_alloc_new w _, rfl, fun i m c hm => by simp at hm, fun i m hm => by simp at hm, fun i j m m' hm => by simp at hm⟩
 refine s9.val (v := .map (some w.heap.size)) (w' := w.alloc (.map #[] 0)) ?_ ⟨_, h3, h2, h1, ?_⟩
 ·unfold execOp
  have hr : (Instr.makeMap T none).run P w = .ok (.map (some w.heap.size)) (w.alloc (.map #[] 0)) := rfl
  simp [ho, hr]
 ·refine (u0 rfl).2 ⟨?_, by simp [V.ty, Ty.isAgg, u7]⟩
  simp only [q8]
  exact ⟨w.heap.size, by simp [G.j4, q0P], by simp [Value.cells]⟩
noncomputable def q2V (P : Program) (et : TypeId) (es : List (C × V)) (c : C) : V := (q1f es c).getD (j3 (ty P et))
theorem y4A (hP : u3 P = true) (c : y9 Γ w s) {o : Oper} {a : Act} {T kt et : TypeId} {x i : Operand} {commaOk : Bool} {k : Key} {vτ : Ty} {es : List (C × V)} {cc : C}
  (ho : o.op = .lookup T x i commaOk) (hT : q2c P T = some (kt, et)) (hx : q9 Γ (.mp k) (a.eval x)) (hi : q9 Γ (.d (ty P kt) cc) (a.eval i)) (hobj : s.obj k = some (.map (ty P kt) vτ es)) (hok : H3 P kt = true) (hz : Q0 P et = true) :
  s9 P o a w (o9 Γ w s (if commaOk then .tup [q2V P et es cc, .d .bool (.bool (q1f es cc).isSome)] else q2V P et es cc)) := by
 obtain ⟨b, hι, hxv⟩ := q8V hx
 obtain ⟨ms, clock, hb, hck, hfk⟩ := z8J hP c hobj hok hi hι
 obtain ⟨z, hzr, hzo, hza⟩ := z8H hz
 have hfl := q8B es cc 0
 obtain ⟨b', ms', clock', e1, _, _, e4, e5, e6, _⟩ := c.own (by assumption) hobj
 rw [hι] at e1; cases e1
 rw [hb] at e4; cases e4
 obtain ⟨v, ok, hrv, hok2, hrun⟩ : ∃ v ok, (q9 Γ (q2V P et es cc) v ∧ (q2V P et es cc).plain = true) ∧ ok = (q1f es cc).isSome ∧ (Instr.lookup T (a.eval x) (a.eval i) commaOk).run P w = .ok (if commaOk then .tuple #[v, .bool ok] else v) w := by
  cases hf : J1 es cc 0 with
  | none =>
   rw [hf] at hfl hfk
   simp only at hfl
   refine ⟨z, false, ⟨?_, ?_⟩, by rw [hfl.1]; rfl, ?_⟩
   ·simp only [q2V, hfl.1, Option.getD_none]
    exact (u0 (q5G _)).2 ⟨q7X (ty P et) hzo, by rw [q4g]; exact hza⟩
   ·simp only [q2V, hfl.1, Option.getD_none]; exact q5G _
   ·simp [Instr.lookup, hxv, run_underlying (q6e hT), MapKept.run_getObj_map hb, hck, hfk, hzr]
  | some j =>
   rw [hf] at hfl hfk
   simp only [Nat.sub_zero] at hfl
   obtain ⟨_, v0, h2, h3, _⟩ := hfl
   obtain ⟨m, hm⟩ : ∃ m, ms[j]? = some m := by
    have : j < ms.size := by rw [e5]; exact (List.getElem?_eq_some_iff.1 h2).1
    exact ⟨_, Array.getElem?_eq_getElem this⟩
   obtain ⟨_, _, q3, q4, q5, q6, q7⟩ := e6 j m _ hm h2
   simp only at q3 q4 q5 q6
   refine ⟨m.val, true, ⟨?_, ?_⟩, by rw [h3]; rfl, ?_⟩
   ·simp only [q2V, h3, Option.getD_some]
    exact (u0 q6).2 ⟨q3, by rw [q4, q5]⟩
   ·simp only [q2V, h3, Option.getD_some]; exact q6
   ·have hm' : ms.toList[j]? = some m := by simpa using hm
    rw [Option.bind_some, hm'] at hfk
    simp [Instr.lookup, hxv, run_underlying (q6e hT), MapKept.run_getObj_map hb, hck, hfk]
 refine s9.val (v := if commaOk then .tuple #[v, .bool ok] else v) (w' := w) (by unfold execOp; simp [ho, hrun]) (o9.same c ?_)
 cases commaOk with
 | false => exact hrv.1
 | true =>
  refine ⟨#[v, .bool ok], rfl, ?_⟩
  refine q4F (by simp) fun i x u hx hu => ?_
  match i with
  | 0 => simp at hx hu; subst hx; subst hu; exact ⟨hrv.2, hrv.1⟩
  | 1 => simp at hx hu; subst hx; subst hu; subst hok2; exact ⟨rfl, s6⟩
  | i + 2 => simp at hx
theorem y64 {w w' : World} {b : Nat} (hlt : b < w'.heap.size) (oth : ∀ b', b' ≠ b → w'.heap[b']? = w.heap[b']?) : w.heap.size ≤ w'.heap.size :=
 z0X (o := w'.heap[b]) (by simp [hlt]) oth
theorem y9.y3r (c : y9 Γ w s) {w' : World} {k : Key} {o0 o1 : O} {b : Nat} {τk : Ty}
  (ho : s.obj k = some o0) (hd0 : o0.H4 = false) (hι : Γ.ι k = some (b, τk)) (hnc : ∀ arr T fr, w.heap[b]? ≠ some (.cells arr T fr)) (hlt' : b < w'.heap.size) (hsame : ∀ b', b' ≠ b → w'.heap[b']? = w.heap[b']?) (hoo : oof w' = oof w) (hown : Γ.H b = none → Γ.Z b = none → Own Γ w' k o1) :
  y9 Γ w' { s with loc := (k, o1) :: s.loc } := by
 obtain ⟨hH, hZ, hlt, e2⟩ := c.q0u hι ho hd0
 refine c.change (.refl Γ) rfl rfl rfl hoo (fun b' l h => ?_) (fun b' h => hsame b' (fun e => by subst e; exact h hZ)) (fun b' o sz h => ?_) (fun j o h => ?_) (fun _ h _ => h) (fun j h => ?_) (fun b' sz h => ?_) (c.z1C (q93 fun h => by rw [Y5 ho, hd0] at h; cases h)) c.tok c.tdom (y64 hlt' hsame)
 ·rw [hsame b' (fun e => by subst e; rw [hH] at h; cases h)]; exact c.hH b' l h
 ·obtain ⟨a1, a2, a3⟩ := c.hκ b' o sz h
  rw [hsame b' (fun e => by subst e; exact a2 hH)]; exact ⟨a1, a2, a3⟩
 ·rw [Q6] at h
  split at h
  ·rename_i e
   subst e; cases h
   exact .inr (hown hH hZ)
  ·rename_i e
   refine .inl ⟨h, fun hd => ⟨fun _ _ _ _ => ⟨rfl, rfl⟩, fun b' τ' hb => ?_⟩⟩
   obtain ⟨a1, a2, a3, _⟩ := c.q0u hb h hd
   refine ⟨hsame b' (fun e' => ?_), a1⟩
   subst e'
   exact e (c.y5F hι hb (by rw [Y5 ho]; exact hd0) (by rw [Y5 h]; exact hd))
 ·rw [Q6]
  split
  ·simp
  ·exact c.dom j h
 ·obtain ⟨arr, T1, fr, a1, a2⟩ := c.hσ b' sz h
  by_cases e : b' = b
  ·subst e; exact absurd a1 (hnc _ _ _)
  ·exact ⟨arr, T1, fr, by rw [hsame b' e]; exact a1, a2⟩
theorem q9c (w : World) (b b' : Nat) (o : Obj) (h : b' ≠ b) : ({ w with heap := w.heap.setIfInBounds b o } : World).heap[b']? = w.heap[b']? := by
 simp only [Array.getElem?_setIfInBounds_ne (fun e => h e.symm)]
theorem q4e (w : World) {b : Nat} {o o' : Obj} (h : w.heap[b]? = some o') : ({ w with heap := w.heap.setIfInBounds b o } : World).heap[b]? = some o := by
 have := (Array.getElem?_eq_some_iff.1 h).1
 simp [this]
theorem y0f (hP : u3 P = true) (c : y9 Γ w s) {o : Oper} {a : Act} {T kt et : TypeId} {x i y : Operand} {k : Key} {es : List (C × V)} {cc : C} {Y : V}
  (ho : o.op = .mapUpdate T x i y) (hT : q2c P T = some (kt, et)) (hx : q9 Γ (.mp k) (a.eval x)) (hi : q9 Γ (.d (ty P kt) cc) (a.eval i)) (hy : q9 Γ Y (a.eval y)) (hobj : s.obj k = some (.map (ty P kt) (ty P et) es)) (hok : H3 P kt = true) (hfl : (ty P kt).flat = true)
  (h1 : Y.ty = ty P et) (h2 : Y.plain = true) (h3 : Y.r8 = true) :
  s9 P o a w (o9 Γ w { s with loc := (k, .map (ty P kt) (ty P et) (q0G es cc Y)) :: s.loc } .any) := by
 obtain ⟨b, hι, hxv⟩ := q8V hx
 obtain ⟨ms, clock, hb, hck, hfk⟩ := z8J hP c hobj hok hi hι
 have hix := q8B es cc 0
 obtain ⟨b', ms', clock', e1, _, _, e4, e5, e6, e7, e8⟩ := c.own (by assumption) hobj
 rw [hι] at e1; cases e1
 rw [hb] at e4; cases e4
 obtain ⟨k1, k2⟩ := Q4.1 hi
 obtain ⟨y1, y2⟩ := (u0 h2).1 hy
 cases hf : J1 es cc 0 with
 | none =>
  rw [hf] at hix hfk
  simp only at hix
  have hrun : (Instr.mapUpdate T (a.eval x) (a.eval i) (a.eval y)).run P w = .ok () { w with heap := w.heap.setIfInBounds b (.map (ms.push { key := a.eval i, val := a.eval y, born := clock }) (clock + 1)) } := by
   simp [Instr.mapUpdate, hxv, run_underlying (q6e hT), MapKept.run_getObj_map hb, hck, hfk, MapKept.run_setObj_map _ hb]
  refine s9.skip (w' := _) (by unfold execOp; simp [ho, hrun]; rfl) ⟨Γ, .refl Γ, .refl Γ, c.y3r (o1 := .map (ty P kt) (ty P et) (q0G es cc Y)) hobj rfl hι (fun arr T fr h => by rw [hb] at h; cases h) (lt_of_heap (q4e w hb)) (fun b' h => q9c w b b' _ h) rfl fun hH hZ => ?_, by simp [q9]⟩
  refine ⟨b, _, _, hι, hH, hZ, q4e w hb, by rw [hix.2]; simp [e5], fun j m c1 hm hc1 => ?_, fun j m hm => ?_, fun j j' m m' hm hm' hbb => ?_⟩
  ·rw [hix.2] at hc1
   rw [Array.getElem?_push] at hm
   by_cases hj : j = ms.size
   ·rw [if_pos hj] at hm; cases hm
    rw [List.getElem?_append_right (by omega), hj, e5] at hc1
    simp at hc1; subst hc1
    exact ⟨k1, k2, y1, by rw [y2, h1], h1, h2, h3⟩
   ·rw [if_neg hj] at hm
    have hjl : j < ms.size := (Array.getElem?_eq_some_iff.1 hm).1
    rw [List.getElem?_append_left (by omega)] at hc1
    exact e6 j m c1 hm hc1
  ·rw [Array.getElem?_push] at hm
   by_cases hj : j = ms.size
   ·rw [if_pos hj] at hm; cases hm; simp
   ·rw [if_neg hj] at hm; have := e7 j m hm; omega
  ·rw [Array.getElem?_push] at hm hm'
   by_cases hj : j = ms.size <;> by_cases hj' : j' = ms.size
   ·omega
   ·rw [if_pos hj] at hm; rw [if_neg hj'] at hm'; cases hm
    have := e7 j' m' hm'; simp at hbb; omega
   ·rw [if_neg hj] at hm; rw [if_pos hj'] at hm'; cases hm'
    have := e7 j m hm; simp at hbb; omega
   ·rw [if_neg hj] at hm; rw [if_neg hj'] at hm'
    exact e8 j j' m m' hm hm' hbb
 | some j =>
  rw [hf] at hix hfk
  simp only [Nat.sub_zero] at hix
  obtain ⟨_, v0, g2, g3, g4⟩ := hix
  obtain ⟨m, hm⟩ : ∃ m, ms[j]? = some m := by
   have : j < ms.size := by rw [e5]; exact (List.getElem?_eq_some_iff.1 g2).1
   exact ⟨_, Array.getElem?_eq_getElem this⟩
  obtain ⟨q1, q2, _⟩ := e6 j m _ hm g2
  simp only at q1
  have hkey : m.key = a.eval i := z8B (z8L hfl q1 k1) (by rw [q2, k2])
  have hsb : Instr.sameBits 10000 (((ms[j]?).map (·.key)).getD (a.eval i)) (a.eval i) = true := by
   rw [hm]; simp only [Option.map_some, Option.getD_some, hkey]
   refine sameBits_self (q8q hfl k1) fun hag => ?_
   have := q8q hfl k1
   rw [u4 hag] at this
   exact this _ (by simp)
  have hm' : ms.toList[j]? = some m := by simpa using hm
  rw [Option.bind_some, hm'] at hfk
  have hrun : (Instr.mapUpdate T (a.eval x) (a.eval i) (a.eval y)).run P w = .ok () { w with heap := w.heap.setIfInBounds b (.map (ms.modify j fun e => { e with key := a.eval i, val := a.eval y }) clock) } := by
   simp only [Option.map_some] at hfk
   simp [Instr.mapUpdate, hxv, run_underlying (q6e hT), MapKept.run_getObj_map hb, hck, hfk, Instr.keyThatStays, hsb, MapKept.run_setObj_map _ hb]
  refine s9.skip (w' := _) (by unfold execOp; simp [ho, hrun]; rfl) ⟨Γ, .refl Γ, .refl Γ, c.y3r (o1 := .map (ty P kt) (ty P et) (q0G es cc Y)) hobj rfl hι (fun arr T fr h => by rw [hb] at h; cases h) (lt_of_heap (q4e w hb)) (fun b' h => q9c w b b' _ h) rfl fun hH hZ => ?_, by simp [q9]⟩
  have born : ∀ (j' : Nat) (m' : MapEntry), (ms.modify j fun e => { e with key := a.eval i, val := a.eval y })[j']? = some m' → ∃ m0, ms[j']? = some m0 ∧ m'.born = m0.born ∧ (j' ≠ j → m' = m0) ∧ (j' = j → m' = { m0 with key := a.eval i, val := a.eval y }) := by
   intro j' m' h
   rw [Array.getElem?_modify] at h
   by_cases e : j = j'
   ·subst e
    rw [if_pos rfl, hm] at h
    simp at h; subst h
    exact ⟨m, hm, rfl, fun h => absurd rfl h, fun _ => rfl⟩
   ·rw [if_neg e] at h
    exact ⟨m', h, rfl, fun _ => rfl, fun h => absurd h.symm e⟩
  refine ⟨b, _, _, hι, hH, hZ, q4e w hb, by rw [g4]; simp [e5], fun j' m' c1 hm1 hc1 => ?_, fun j' m' hm1 => ?_, fun j1 j2 m1 m2 hm1 hm2 hbb => ?_⟩
  ·obtain ⟨m0, z1, _, z3, z4⟩ := born j' m' hm1
   rw [g4] at hc1
   by_cases e : j' = j
   ·rw [z4 e]
    subst e
    have hlt := (List.getElem?_eq_some_iff.1 g2).1
    simp [hlt] at hc1
    subst hc1
    exact ⟨k1, k2, y1, by rw [y2, h1], h1, h2, h3⟩
   ·rw [List.getElem?_set_ne (fun h => e h.symm)] at hc1
    rw [z3 e]
    exact e6 j' m0 c1 z1 hc1
  ·obtain ⟨m0, z1, z2, _⟩ := born j' m' hm1
   rw [z2]; exact e7 j' m0 z1
  ·obtain ⟨n1, z1, z2, _⟩ := born j1 m1 hm1
   obtain ⟨n2, z1', z2', _⟩ := born j2 m2 hm2
   exact e8 j1 j2 n1 n2 z1 z1' (by rw [← z2, ← z2', hbb])
end
end Go.E
namespace Go.E
open Go
section
variable {P : Program} {Γ : G} {w : World} {s : S}
theorem z0s (hP : u3 P = true) (c : y9 Γ w s) {o : Oper} {a : Act} {x y : Operand} {t t' : TypeId} {n : Nat} {X Y : V} {ys : List C} {eb : Nat} {e : Ty} (ho : q5D o x y t t')
  (ht : ty P t = .slice eb e) (hz : Q0 P (v7 P t) = true) (hn : s.obj (.l n) = none)
  (hx : q9 Γ X (a.eval x)) (hX : X = .nilc ∨ ∃ eb' e', X = .emp eb' e') (hy : q9 Γ Y (a.eval y)) (hel : q6Z P s t' eb e Y ys) (hne : ys ≠ []) :
  s9 P o a w (o9 Γ w { s with loc := (.l n, .box (.d (.arr ys.length e) (.agg ys))) :: s.loc } (.sr (.l n) [] 0 ys.length none eb e)) := by
 obtain ⟨hu, he, heb, hE⟩ := q11 hP ht
 obtain ⟨a0, hx0⟩ : ∃ a0, a.eval x = .slice a0 0 0 := by
  rcases hX with rfl | ⟨eb', e', rfl⟩
  ·exact ⟨none, X7 hx⟩
  ·obtain ⟨h1, _⟩ := (s5 rfl rfl).1 hx
   simp only [q8] at h1
   obtain ⟨a0, h1⟩ := h1
   exact ⟨a0, by simpa using h1⟩
 obtain ⟨m, news, hs, r1, r2, r3, r4⟩ := q8Q c hy hel
 obtain ⟨i, z, hi, hzz, hzo, hzo2⟩ := q4p hz
 have hcz := q0C hzo
 have hsz : i.size = e.size := by
  have := b8 hP 11 (v7 P t)
  rw [he, this]; simp [Program.cellsOf, hi]
 have hby : i.bytes = eb := by rw [heb]; simp [Program.bytesOf, hi]
 rw [← hsz] at hs
 have hm : m ≠ 0 := by
  intro h; subst h; exact hne (List.eq_nil_of_length_eq_zero r1)
 have hmx' : ((0 + m : Nat) : Int) ≤ 9223372036854775807 := by unfold maxLen at r2; omega
 have hge := grownCap_ge w (0 + m) 0 (v7 P t)
 have hcm := grownCap_le_maxLen w (0 + m) 0 (v7 P t) (by omega)
 have hold : (Builtin.firstCells i.size 0 (.slice a0 0 0)).run P w.drew = .ok ([] : List Value).toArray w.drew := by
  cases a0 with
  | none => exact run_firstCells_none w.drew i.size 0 0 0
  | some ad => exact run_firstCells_some w.drew i.size 0 ad 0 0 [] (by simp) (by simp)
 have run := run_append_grow_src (P := P) w t t' o.type _ i z hu hi hzz a0 0 0 [] hold (a.eval y) m news hs (by omega) hmx' (by
  rw [hby]; exact growslice_fits (by omega) (by rw [Nat.zero_add]; exact r3))
 rw [← hx0] at run
 have hext : Ext w (w.drew.alloc (.cells ((([] : List Value) ++ news).toArray ++ Builtin.zeroCells z.cells (grownCap w (0 + m) 0 (v7 P t) - (0 + m))) (v7 P t))) := (Ext.drew w).trans (Ext.alloc _ _)
 have hnew := heap_alloc_new w.drew (.cells ((([] : List Value) ++ news).toArray ++ Builtin.zeroCells z.cells (grownCap w (0 + m) 0 (v7 P t) - (0 + m))) (v7 P t))
 have hnl : news.length = m * e.size := by rw [hs.newsLen, hsz]
 have hone : q0K news := q1T r1 hnl r4
 have hrep : q8 Γ none [] (.d (.arr ys.length e) (.agg ys)) news := by
  simp only [q8, y4]
  exact ⟨ys, rfl, rfl, by rw [r1]; exact hnl, hone, r4⟩
 have hchunk : chunk ((([] : List Value) ++ news).toArray ++ Builtin.zeroCells z.cells (grownCap w (0 + m) 0 (v7 P t) - (0 + m))).toList 0 (ys.length * e.size) = news := by
  rw [r1, ← hnl]
  simp [chunk]
 obtain ⟨h1, h2, h3⟩ := c.j4 (k := .l n) hn hext (τ := .arr ys.length e) (o := .box (.d (.arr ys.length e) (.agg ys))) fun Γ' hpr _ hι hH hZ =>
  ⟨_, _, v7 P t, hι, hH, hZ, hnew, by simp only [V.ty, Ty.size, r1, ← hnl]; simp, by
   simp only [V.ty, Ty.size]
   rw [hchunk]
   exact (hrep.b5 hpr (by trivial)).Y2, rfl, rfl⟩
 obtain ⟨k1, k2, k3⟩ := h1.q6S (show _ = _ from hnew)
 refine s9.val (q1u ho run) ⟨_, h3.trans k3, h2.trans k2, k1, (s5 rfl rfl).2 ⟨?_, rfl⟩⟩
 simp only [q8]
 rw [show 0 + m = m by omega] at hge hcm ⊢
 refine .inr ⟨w.heap.size, .arr ys.length e, 0, ys.length, grownCap w m 0 (v7 P t), by simp [G.q6S, G.j4, q0P], rfl, by omega, ⟨some ⟨w.heap.size, 0, none⟩, by rw [r1], .inr (by simp)⟩, by rw [r1]; exact hge, hcm, by rw [r1]; exact r3, (fun c h => by cases h), fun _ => .inr ⟨_, k7 _ _ _, ?_⟩⟩
 have hzc : z.cells.size = e.size := by
  have h1 := b8 hP 11 (v7 P t)
  have h2 := q5h hP (v7 P t)
  rw [he, h1, ← h2, ← hcz]; simp
 simp only [List.nil_append, Array.size_append, List.size_toArray, size_zeroCells, hzc, hnl, ← Nat.add_mul]
 rw [Nat.zero_add, Nat.zero_add]
 exact Nat.mul_le_mul_right _ (by omega)
theorem y4B (c : y9 Γ w s) {o : Oper} {a : Act} {x : Operand} {T : TypeId} {k : Key} {kτ vτ : Ty} {es : List (C × V)} (ho : o.op = .call { callee := .builtin .len, args := #[x], argTypes := #[T] })
  {kt et : TypeId} (hT : q2c P T = some (kt, et)) (hx : q9 Γ (.mp k) (a.eval x)) (hobj : s.obj k = some (.map kτ vτ es)) (hl : es.length ≤ 9223372036854775807) : s9 P o a w (o9 Γ w s (.d (.int .i64) (.int es.length))) := by
 obtain ⟨b, hι, hxv⟩ := q8V hx
 obtain ⟨b', ms, clock, e1, _, _, e4, e5, _⟩ := c.own (by assumption) hobj
 rw [hι] at e1; cases e1
 refine s9.val (v := .int .i64 es.length) (w' := w) ?_ (o9.same c (r9 ?_ ?_))
 ·unfold execOp
  have hw : IntKind.i64.wrap (es.length : Int) = es.length := IntWalk.i64_in _ (by omega)
  simp [ho, resolve, invoke, builtin, hxv, Builtin.len_, Builtin.lenOf, run_underlying (q6e hT), MapKept.run_getObj_map e4, e5, goInt, hw]
 ·have : IntKind.i64.min = -9223372036854775808 := by decide
  omega
 ·have : IntKind.i64.max = 9223372036854775807 := by decide
  omega
end
end Go.E
namespace Go.E
open Go
def q69 (c : C) : UInt8 := UInt8.ofNat c.toInt.toNat
def Ty.z9I : Ty → Bool
 | .int .u8 => true
 | _ => false
theorem Ty.z6g : ∀ {τ : Ty}, τ.z9I = true → τ = .int .u8
 | .int .u8, _ => rfl
def strOf (P : Program) (s : S) (src dst : TypeId) (x : V) : Option (List C) :=
 match ty P src, ty P dst with
 | .slice eb e, .str => if e.z9I = true ∧ eb = 1 then (match x with
  | .nilc => some []
  | _ => (match Y3 s x with
   | some (eb', e', ys) => if e'.z9I = true ∧ eb' = 1 then some ys else none
   | none => none)) else none
 | _, _ => none
section
variable {P : Program} {Γ : G} {w : World} {s : S}
theorem z6N {f : Nat} {T : TypeId} {k : IntKind} (h : tyF P (f + 1) T = .int k) : P.underlying T = some (.int k) := by
 unfold tyF at h
 split at h
 ·cases hu : P.underlying T with
  | none => simp [hu] at h
  | some d => cases d <;> simp [hu] at h ⊢ <;> exact h
 ·cases h
theorem q8R {Y : V} {v : Value} {r : Nat × Ty × List C} (hr : q9 Γ Y v) (he : Y3 s Y = some r) : ∃ a n cap, v = .slice a n cap := by
 obtain ⟨eb, e, ys⟩ := r
 have frozen : Y.q1l = some (eb, e, ys) → ∃ a n cap, v = .slice a n cap := fun h => by
  obtain ⟨a, n, cap, hv, _⟩ := q00 hr h
  exact ⟨a, n, cap, hv⟩
 cases Y <;> (try exact frozen he)
 case sr k q lo n cp eb' e' =>
  obtain ⟨cap, a, rfl, _⟩ := z2W hr
  exact ⟨_, _, _, rfl⟩
theorem byte_back {c : C} {H : Hp} {vs : List Value} (h : y4 H (.int .u8) vs c) : vs = [.int .u8 ((q69 c).toNat : Int)] := by
 simp only [y4] at h
 obtain ⟨n, rfl, rfl, h1, h2⟩ := h
 have m1 : IntKind.u8.min = 0 := by decide
 have m2 : IntKind.u8.max = 255 := by decide
 have : ((q69 (.int n)).toNat : Int) = n := by
  simp only [q69, C.toInt, UInt8.toNat_ofNat']
  omega
 rw [this]
theorem y55 (hP : u3 P = true) (c : y9 Γ w s) {o : Oper} {a : Act} {src dst : TypeId} {x : Operand} (ho : o.op = .convert src dst x) {Y : V} {ys : List C} (h : strOf P s src dst Y = some ys)
  (hr : q9 Γ Y (a.eval x)) : s9 P o a w (o9 Γ w s (.d .str (.str (ys.map q69)))) := by
 unfold strOf at h
 split at h
 ·rename_i eb e ht hd
  obtain ⟨E, hu, hE, _, _⟩ := q01 hP ht
  have hd' := q5Y hd
  split at h
  ·rename_i hc0
   obtain ⟨h0, rfl⟩ := hc0
   obtain rfl := Ty.z6g h0
   have hEu : P.underlying E = some (.int .u8) := z6N hE.symm
   split at h
   ·cases h
    have hv : a.eval x = .slice none 0 0 := X7 hr
    refine s9.val (v := .string ⟨#[]⟩) (w' := w) ?_ (o9.same c (q0Z (by simp)))
    unfold execOp
    simp only [ho, hv, Sem.run_bind]
    rw [run_convert_bytes_string w src dst E none 0 0 hu hEu hd']
    simp [Conv.bytesToString, Sem.run_pure, Result.andThen]
    rfl
   ·split at h
    ·rename_i eb' e' ys' he
     split at h
     ·rename_i hc
      obtain ⟨h0', rfl⟩ := hc
      obtain rfl := Ty.z6g h0'
      cases h
      obtain ⟨ad, n', cap, hv⟩ := q8R hr he
      obtain ⟨n, news, hs, h1, h2, h3, h4⟩ := z4d c hr he hu
      rw [hv] at hs
      have hn : n' = n := by
       have := hs.len w
       simp [Builtin.lenOf, Sem.run_pure] at this
       exact this
      subst hn
      have hsz : (Ty.int IntKind.u8).size = 1 := rfl
      have hnl := hs.newsLen
      rw [hsz, Nat.mul_one] at hnl
      have hnews : news = ((ys.map q69).map (fun b => (b.toNat : Int))).map (Value.int .u8) := by
       apply List.ext_getElem?
       intro i
       by_cases hi : i < ys.length
       ·have hy := h4 i _ (List.getElem?_eq_getElem hi)
        rw [hsz, Nat.mul_one] at hy
        have hb := byte_back hy
        have hi' : i < news.length := by omega
        have hcell : (chunk news i 1)[0]? = news[i]? := by rw [s8]; simp
        rw [hb] at hcell
        rw [← hcell]
        simp [List.getElem?_eq_getElem hi]
       ·rw [List.getElem?_eq_none (by omega), List.getElem?_eq_none (by simp; omega)]
      refine s9.val (v := .string ⟨(ys.map q69).toArray⟩) (w' := w) ?_ (o9.same c (q0Z (by simp; omega)))
      unfold execOp
      simp only [ho, hv, Sem.run_bind]
      rw [run_convert_bytes_string w src dst E ad n' cap hu hEu hd']
      cases ad with
      | none =>
       have hc := hs.cells
       simp [Builtin.firstCells, Sem.run_pure] at hc
       have hn0 : ys = [] := by
        rw [hc] at hnl
        simp at hnl
        exact List.eq_nil_of_length_eq_zero (by omega)
       subst hn0
       simp [Conv.bytesToString, Sem.run_pure, Result.andThen]
       rfl
      | some ad =>
       have hc := hs.cells
       simp only [Builtin.firstCells, hsz, Nat.mul_one] at hc
       rw [hnews] at hc
       rw [run_bytesToString w ad n' cap _ hc, foldl_push_byteCells]
       simp [Result.andThen, Sem.run_pure]
     ·cases h
    ·cases h
  ·cases h
 ·cases h
end
end Go.E
namespace Go.E
open Go
section
variable {P : Program} {Γ : G} {w w' : World} {s : S}
theorem y9.kill (c : y9 Γ w s) {k : Key} {o : O} (ho : s.obj k = some o) : y9 Γ w { s with loc := (k, .dead o.ty) :: s.loc } := by
 refine ⟨c.hH, c.hZ, c.hκ, fun j o' h => ?_, fun j h => ?_, c.z1C (q93 fun _ => rfl), c.tok, c.tdom, c.hgl, c.hoo, c.hσ⟩
 ·rw [Q6] at h
  split at h
  ·rename_i e
   subst e; cases h
   refine (c.obj _ _ ho).imp (fun h => ⟨h.1, trivial⟩) fun hown => ?_
   obtain ⟨b, τ, h1, _, h4, h5⟩ := hown.block
   exact ⟨b, by rw [← h5]; exact h1, h4⟩
  ·exact c.obj j o' h
 ·rw [Q6]
  split
  ·simp
  ·exact c.dom j h
theorem y9.y3K (c : y9 Γ w s) {k j : Key} {x x' : V} {b m m' : Nat} {e : Ty} {cells' : Array Value} {T : TypeId}
  (ho : s.obj k = some (.box x)) (hxt : x.ty = .arr m e) (hι : Γ.ι k = some (b, .arr m e)) (hj : s.obj j = none) (hnew : w'.heap[b]? = some (.cells cells' T (0, 0))) (hsame : ∀ b', b' ≠ b → w'.heap[b']? = w.heap[b']?) (hoo : oof w' = oof w)
  (ht : x'.ty = .arr m' e) (hsz : x'.ty.size ≤ cells'.size) (hx : q8 Γ none [] x' (chunk cells'.toList 0 x'.ty.size)) (hp : x'.plain = true) (hns : x'.r8 = true)
  (hcs : ∀ arr T fr, w.heap[b]? = some (.cells arr T fr) → cells'.size = arr.size) (hkl : ∀ i, j ≠ .g i := by intro i h; cases h) :
  y9 (Γ.j4 j b (.arr m' e)) w' { s with loc := (j, .box x') :: (k, .dead (.arr m e)) :: s.loc } ∧ j7 Γ (Γ.j4 j b (.arr m' e)) ∧ GLe Γ (Γ.j4 j b (.arr m' e)) := by
 obtain ⟨hH, hZ, hlt, _⟩ := c.q0u hι ho rfl
 have hkj : k ≠ j := fun e => by subst e; rw [ho] at hj; cases hj
 have hk0 := c.z0J hj
 have hιk : ∀ i y, Γ.ι i = some y → (Γ.j4 j b (.arr m' e)).ι i = some y := by
  intro i y hi
  have : i ≠ j := by intro e; subst e; rw [hk0] at hi; cases hi
  simp [G.j4, q0P, this, hi]
 have hpr : j7 Γ (Γ.j4 j b (.arr m' e)) := ⟨Hp.le_refl _, hιk, fun t x L h => ⟨x, L, h, Nat.le_refl _, fun _ => rfl⟩, fun _ _ h => h⟩
 have hmono : w.heap.size ≤ w'.heap.size := by
  cases Nat.lt_or_ge w'.heap.size w.heap.size with
  | inr h => exact h
  | inl hlt2 =>
   have h1 := lt_of_heap hnew
   have h3 := hsame w'.heap.size (by omega)
   rw [Array.getElem?_eq_none (Nat.le_refl _), Array.getElem?_eq_getElem hlt2] at h3
   cases h3
 have hdk : s.c6 k = false := by rw [Y5 ho]; rfl
 have hobj : ∀ i, S.obj { s with loc := (j, .box x') :: (k, .dead (.arr m e)) :: s.loc } i = if j = i then some (.box x') else if k = i then some (.dead (.arr m e)) else s.obj i := by
  intro i
  rw [show S.obj { s with loc := (j, .box x') :: (k, .dead (.arr m e)) :: s.loc } i = S.obj { ({ s with loc := (k, .dead (.arr m e)) :: s.loc } : S) with loc := (j, .box x') :: (k, .dead (.arr m e)) :: s.loc } i from rfl, Q6 ({ s with loc := (k, .dead (.arr m e)) :: s.loc } : S), Q6 s]
 have hdead : ∀ i, s.c6 i = true → S.c6 { s with loc := (j, .box x') :: (k, .dead (.arr m e)) :: s.loc } i = true := by
  intro i hi
  unfold S.c6
  rw [hobj]
  by_cases h1 : j = i
  ·subst h1; unfold S.c6 at hi; rw [hj] at hi; cases hi
  ·rw [if_neg h1]
   by_cases h2 : k = i
   ·rw [if_pos h2]; rfl
   ·rw [if_neg h2]; exact hi
 have hdk' : S.c6 { s with loc := (j, .box x') :: (k, .dead (.arr m e)) :: s.loc } k = true := by
  unfold S.c6; rw [hobj, if_neg (fun h => hkj h.symm), if_pos rfl]; rfl
 refine ⟨?_, hpr, ⟨Hp.le_refl _, rfl, fun _ _ => rfl, fun i y h => hιk _ _ h, rfl, rfl, fun _ _ h => h, fun i h => by
  have : Key.g i ≠ j := fun e => hkl i e.symm
  simpa [G.j4, q0P, this] using h⟩⟩
 refine c.change hpr rfl rfl rfl hoo (fun b' l h => ?_) (fun b' h => hsame b' (fun e => by subst e; exact h hZ)) (fun b' o sz h => ?_) (fun i o h => ?_) (fun i h h' => by
  have : i ≠ j := fun e => by subst e; exact h' hj
  simpa [G.j4, q0P, this] using h) (fun i h => ?_) (fun b' sz h => ?_) (fun i i' b' τ1 τ2 h1 h2 => ?_) c.tok c.tdom hmono
 ·have h' : Γ.H b' = some l := h
  rw [hsame b' (fun e => by subst e; rw [hH] at h'; cases h')]; exact c.hH b' l h'
 ·obtain ⟨a1, a2, a3⟩ := c.hκ b' o sz h
  rw [hsame b' (fun e => by subst e; exact a2 hH)]; exact ⟨a1, a2, a3⟩
 ·rw [hobj] at h
  by_cases e1 : j = i
  ·rw [if_pos e1] at h; subst e1; cases h
   exact .inr ⟨b, cells', T, by rw [ht]; simp [G.j4, q0P], hH, hZ, hnew, hsz, (q8.b5 (hm := none) hpr trivial _ hx).Y2, hp, hns⟩
  ·rw [if_neg e1] at h
   by_cases e2 : k = i
   ·rw [if_pos e2] at h; subst e2; cases h
    exact .inr ⟨b, hιk _ _ hι, by omega⟩
   ·rw [if_neg e2] at h
    refine .inl ⟨h, fun hd => ⟨fun _ _ _ _ => ⟨rfl, rfl⟩, fun b' τ' hb => ?_⟩⟩
    obtain ⟨a1, a2, a3, _⟩ := c.q0u hb h hd
    refine ⟨hsame b' (fun e' => ?_), a1⟩
    subst e'
    exact e2 (c.y5F hι hb hdk (by rw [Y5 h]; exact hd))
 ·rw [hobj]
  by_cases e1 : j = i
  ·rw [if_pos e1]; simp
  ·rw [if_neg e1]
   by_cases e2 : k = i
   ·rw [if_pos e2]; simp
   ·rw [if_neg e2]
    refine c.dom i ?_
    have : i ≠ j := fun h => e1 h.symm
    simpa [G.j4, q0P, this] using h
 ·obtain ⟨arr, T1, fr, a1, a2⟩ := c.hσ b' sz h
  by_cases e : b' = b
  ·subst e
   exact ⟨cells', T, (0, 0), hnew, by rw [hcs _ _ _ a1]; exact a2⟩
  ·exact ⟨arr, T1, fr, by rw [hsame b' e]; exact a1, a2⟩
 ·have key : ∀ i b' τ', (Γ.j4 j b (.arr m' e)).ι i = some (b', τ') → (i = j ∧ b' = b ∧ τ' = .arr m' e) ∨ (i ≠ j ∧ Γ.ι i = some (b', τ')) := by
   intro i b' τ' h
   by_cases hij : i = j
   ·left; simp [G.j4, q0P, hij] at h; exact ⟨hij, h.1.symm, h.2.symm⟩
   ·right; exact ⟨hij, by simpa [G.j4, q0P, hij] using h⟩
  have old : ∀ i τ', Γ.ι i = some (b, τ') → S.c6 { s with loc := (j, .box x') :: (k, .dead (.arr m e)) :: s.loc } i = true ∧ τ'.q9Q = true := by
   intro i τ' h
   rcases c.inj i k b _ _ h hι with rfl | ⟨h1 | h1, h2, _⟩
   ·rw [hι] at h; cases h; exact ⟨hdk', rfl⟩
   ·exact ⟨hdead i h1, h2⟩
   ·rw [hdk] at h1; cases h1
  rcases key i b' τ1 h1 with ⟨e1, e2, e3⟩ | ⟨e1, e2⟩ <;> rcases key i' b' τ2 h2 with ⟨f1, f2, f3⟩ | ⟨f1, f2⟩
  ·exact .inl (by rw [e1, f1])
  ·subst e2; obtain ⟨g1, g2⟩ := old i' τ2 f2; exact .inr ⟨.inr g1, by rw [e3]; rfl, g2⟩
  ·subst f2; obtain ⟨g1, g2⟩ := old i τ1 e2; exact .inr ⟨.inl g1, g2, by rw [f3]; rfl⟩
  ·exact (c.inj _ _ _ _ _ e2 f2).imp id (And.imp (Or.imp (hdead _) (hdead _)) id)
end
end Go.E
namespace Go.E
open Go
section
variable {P : Program} {Γ : G} {w w' : World} {s : S}
theorem z73 (hP : u3 P = true) (c : y9 Γ w s) {o : Oper} {a : Act} {x y : Operand} {t t' : TypeId} {d : Nat} {k : Key} {n M : Nat} {cc : C} {Y : V} {ys : List C} {eb : Nat} {e : Ty} (ho : q5D o x y t t')
  (ht : ty P t = .slice eb e) (hz : Q0 P (v7 P t) = true) (hd : s.obj (.l d) = none) (hobj : s.obj k = some (.box (.d (.arr M e) cc)))
  (hx : q9 Γ (.sr k [] 0 n none eb e) (a.eval x)) (hy : q9 Γ Y (a.eval y)) (hel : q6Z P s t' eb e Y ys) (hne : ys ≠ []) (hlen : (n + ys.length) * eb ≤ 140737488355328) (hlen2 : n + ys.length ≤ maxLen) :
  s9 P o a w (o9 Γ w { s with loc := (.l d, .box (.d (.arr (n + ys.length) e) (.agg (cc.elems.take n ++ ys)))) :: (k, .dead (.arr M e)) :: s.loc } (.sr (.l d) [] 0 (n + ys.length) none eb e)) := by
 obtain ⟨hu, he, heb, hE⟩ := q11 hP ht
 obtain ⟨m, news, hs, r1, r2, r3, r4⟩ := q8Q c hy hel
 have hcs0 : Y3 s (.sr k [] 0 n none eb e) = some (eb, e, cc.elems.take n) := by simp [Y3, hobj, V.at]
 obtain ⟨n', olds, hso, o1, o2, o3, o4⟩ := z4d (P := P) (tx := t) c hx hcs0 hu
 have hlc : (cc.elems.take n).length = n := by
  rcases q0x hx with ⟨_, rfl, _⟩ | ⟨b, τ0, o0, M', cap, aa, a1, a2, a3, _⟩
  ·simp
  ·obtain ⟨b', cells, T, g1, g2, g3, g4, g5, g6, g7, _⟩ := c.own a1 hobj
   rw [a1] at g1; cases g1
   simp only [V.ty, Ty.walk, Option.some.injEq, Prod.mk.injEq, Ty.arr.injEq] at a2
   obtain ⟨rfl, rfl, _⟩ := a2
   simp only [V.ty, q8, y4] at g6
   obtain ⟨cs, rfl, q1, _⟩ := g6
   simp only [C.elems, List.length_take]; omega
 have hn : n' = n := by rw [← o1]; exact hlc
 subst hn
 obtain ⟨i, z, hi, hzz, hzo, hzo2⟩ := q4p hz
 have hcz := q0C hzo
 have hsz : i.size = e.size := by
  have := b8 hP 11 (v7 P t)
  rw [he, this]; simp [Program.cellsOf, hi]
 have hby : i.bytes = eb := by rw [heb]; simp [Program.bytesOf, hi]
 have hzc : z.cells.size = e.size := by
  have h1 := b8 hP 11 (v7 P t)
  have h2 := q5h hP (v7 P t)
  rw [he, h1, ← h2, ← hcz]; simp
 rw [← hsz] at hs hso
 have hnl : news.length = m * e.size := by rw [hs.newsLen, hsz]
 have hol : olds.length = n' * e.size := by rw [hso.newsLen, hsz]
 have hm0 : m ≠ 0 := by intro h; subst h; exact hne (List.eq_nil_of_length_eq_zero r1)
 have hmx' : ((n' + m : Nat) : Int) ≤ 9223372036854775807 := by unfold maxLen at hlen2; omega
 have hbb : (n' + m) * eb ≤ 140737488355328 := by rw [← r1]; exact hlen
 have hl12 : (cc.elems.take n' ++ ys).length = n' + ys.length := by simp [o1]
 have hrepOf : ∀ {Γ' : G}, j7 Γ Γ' → ∀ olds : List Value, olds.length = n' * e.size → (∀ i c', (cc.elems.take n')[i]? = some c' → y4 Γ.H e (chunk olds (i * e.size) e.size) c') → ∀ vs : List Value, vs.length = (n' + ys.length) * e.size → vs = olds ++ news → q8 Γ' none [] (.d (.arr (n' + ys.length) e) (.agg (cc.elems.take n' ++ ys))) vs := by
  intro Γ' hp olds hol o4 vs hvl hvs
  subst hvs
  have hall : ∀ j c', (cc.elems.take n' ++ ys)[j]? = some c' → y4 Γ'.H e (chunk (olds ++ news) (j * e.size) e.size) c' := by
   intro j c' hj
   have := q8z (H := Γ'.H) (rest := []) o1 r1 hol hnl (fun i c' hi => (o4 i c' hi).mono hp.H) (fun i c' hi => (r4 i c' hi).mono hp.H) j c' hj
   simpa using this
  simp only [q8, y4]
  exact ⟨_, rfl, hl12, hvl, q1T hl12 hvl hall, hall⟩
 have hkd : k ≠ .l d := fun h => by rw [h, hd] at hobj; cases hobj
 have newb : ∀ (aa : Option Addr) (cap : Nat), a.eval x = .slice aa n' cap → cap ≤ maxLen → ¬ n' + m ≤ cap → s9 P o a w (o9 Γ w { s with loc := (.l d, .box (.d (.arr (n' + ys.length) e) (.agg (cc.elems.take n' ++ ys)))) :: (k, .dead (.arr M e)) :: s.loc } (.sr (.l d) [] 0 (n' + ys.length) none eb e)) := by
  intro aa cap hv a6 hroom
  have hge := grownCap_ge w (n' + m) cap (v7 P t)
  have hcm := grownCap_le_maxLen w (n' + m) cap (v7 P t) (by omega)
  have hold' : (Builtin.firstCells i.size n' (.slice aa n' cap)).run P w.drew = .ok olds.toArray w.drew := by rw [← hv]; exact hso.cellsD
  have run := run_append_grow_src (P := P) w t t' o.type _ i z hu hi hzz aa n' cap olds hold' (a.eval y) m news hs (by omega) hmx' (by
   rw [hby]; exact growslice_fits (by omega) hbb)
  rw [← hv] at run
  have hext : Ext w (w.drew.alloc (.cells ((olds ++ news).toArray ++ Builtin.zeroCells z.cells (grownCap w (n' + m) cap (v7 P t) - (n' + m))) (v7 P t))) := (Ext.drew w).trans (Ext.alloc _ _)
  have hnew := heap_alloc_new w.drew (.cells ((olds ++ news).toArray ++ Builtin.zeroCells z.cells (grownCap w (n' + m) cap (v7 P t) - (n' + m))) (v7 P t))
  have hsize : ((olds ++ news).toArray ++ Builtin.zeroCells z.cells (grownCap w (n' + m) cap (v7 P t) - (n' + m))).size = grownCap w (n' + m) cap (v7 P t) * e.size := by
   simp only [Array.size_append, List.size_toArray, List.length_append, size_zeroCells, hzc, hnl, hol, ← Nat.add_mul]
   congr 1; omega
  have hll : (olds ++ news).length = (n' + ys.length) * e.size := by rw [List.length_append, hol, hnl, Nat.add_mul, r1]
  have hchunk : chunk ((olds ++ news).toArray ++ Builtin.zeroCells z.cells (grownCap w (n' + m) cap (v7 P t) - (n' + m))).toList 0 ((n' + ys.length) * e.size) = olds ++ news := by
   unfold chunk
   rw [List.drop_zero, Array.toList_append, List.toList_toArray]
   exact List.take_left' hll
  have ck := c.kill hobj
  obtain ⟨h1, h2, h3⟩ := ck.j4 (k := .l d) (by rw [Q6, if_neg hkd]; exact hd) hext (τ := .arr (n' + ys.length) e) (o := .box (.d (.arr (n' + ys.length) e) (.agg (cc.elems.take n' ++ ys)))) fun Γ' hpr _ hι hH hZ =>
   ⟨_, _, v7 P t, hι, hH, hZ, hnew, by simp only [V.ty, Ty.size]; rw [hsize, r1]; exact Nat.mul_le_mul_right _ hge, by
    simp only [V.ty, Ty.size]
    rw [hchunk]
    exact (hrepOf hpr _ hol o4 _ hll rfl).Y2, rfl, rfl⟩
  obtain ⟨k1, k2, k3⟩ := h1.q6S (show _ = _ from hnew)
  refine s9.val (q1u ho run) ⟨_, h3.trans k3, h2.trans k2, k1, (s5 rfl rfl).2 ⟨?_, rfl⟩⟩
  simp only [q8]
  refine .inr ⟨w.heap.size, .arr (n' + ys.length) e, 0, n' + ys.length, grownCap w (n' + m) cap (v7 P t), by simp [G.q6S, G.j4, q0P], rfl, by omega, ⟨some ⟨w.heap.size, 0, none⟩, by rw [r1], .inr (by simp)⟩, by rw [r1]; exact hge, hcm, hlen, (fun c h => by cases h), fun _ => .inr ⟨_, k7 _ _ _, ?_⟩⟩
  rw [hsize, Nat.zero_add, Nat.zero_add]; exact Nat.le_refl _
 rcases q0x hx with ⟨_, h0, aa, hv⟩ | ⟨b, τ0, o0, M', cap, aa, a1, a2, a3, hv, a4, a5, a6, a7, _, a9⟩
 ·subst h0; exact newb aa 0 hv (Nat.zero_le _) (by omega)
 obtain ⟨b', cells, T, g1, g2, g3, g4, g5, g6, g7, _⟩ := c.own a1 hobj
 rw [a1] at g1; cases g1
 simp only [V.ty, Ty.walk, Option.some.injEq, Prod.mk.injEq, Ty.arr.injEq] at a2
 obtain ⟨rfl, rfl, _⟩ := a2
 simp only [V.ty, q8, y4] at g6
 obtain ⟨cs, rfl, q1, q2, q3, q4⟩ := g6
 simp only [C.elems] at *
 by_cases hroom : n' + m ≤ cap
 ·-- in the room behind
  have haa : aa = some ⟨b, 0, none⟩ := by
   rcases a4 with a4 | a4
   ·omega
   ·rw [a4]; simp
  subst haa
  obtain ⟨sz, s1, s2⟩ : ∃ sz, Γ.σ b = some sz ∧ 0 + (0 + cap) * e.size ≤ sz := by
   rcases a9 trivial with a9 | a9
   ·omega
   ·exact a9
  obtain ⟨arr, T', fr, s3, s4⟩ := c.hσ b sz s1
  rw [g4] at s3; cases s3
  have hfit : n' * e.size + m * e.size ≤ cells.size := by
   rw [s4, ← Nat.add_mul]
   rw [Nat.zero_add, Nat.zero_add] at s2
   exact Nat.le_trans (Nat.mul_le_mul_right _ hroom) s2
  have run := run_append_room_src (P := P) w t t' o.type _ i hu hi b 0 n' cap (a.eval y) m news hs hroom
   (fun j hj => by
    rw [hnl] at hj
    simp [World.cell?, g4]
    rw [hsz]; omega)
   (fun j hj => by simp [World.frozen?, g4])
  rw [← hv] at run
  rw [Nat.zero_add, hsz] at run
  obtain ⟨arr', hw', harr'⟩ := q6E b news (n' * e.size) w cells T (0, 0) g4 (by rw [hnl]; exact hfit)
  have hsz' : arr'.size = cells.size := by rw [← Array.length_toList, ← Array.length_toList, harr', X4 (by rw [hnl]; simpa using hfit)]
  have hMl : n' * e.size ≤ M * e.size := Nat.mul_le_mul_right _ (by omega)
  have hMc : M * e.size ≤ cells.size := g5
  have hol2 : (chunk cells.toList 0 (n' * e.size)).length = n' * e.size := k8 _ _ _ (by simp; omega)
  have o42 : ∀ i c', (cs.take n')[i]? = some c' → y4 Γ.H e (chunk (chunk cells.toList 0 (n' * e.size)) (i * e.size) e.size) c' := by
   intro i c' hi
   rw [List.getElem?_take] at hi
   split at hi
   ·rename_i hin
    have := q4 i c' hi
    have hle : (i + 1) * e.size ≤ n' * e.size := Nat.mul_le_mul_right _ hin
    rw [Nat.add_mul] at hle
    simp only [Ty.size] at this
    rw [c8 _ _ _ _ _ (by omega)] at this
    rw [c8 _ _ _ _ _ (by omega)]
    exact this
   ·cases hi
  have hll : (chunk cells.toList 0 (n' * e.size) ++ news).length = (n' + ys.length) * e.size := by rw [List.length_append, hol2, hnl, Nat.add_mul, r1]
  have hchunk : chunk arr'.toList 0 ((n' + ys.length) * e.size) = chunk cells.toList 0 (n' * e.size) ++ news := by
   rw [harr']
   unfold chunk s7
   rw [List.drop_zero, List.drop_zero]
   refine List.take_left' ?_
   rw [List.length_append, hnl, List.length_take, Nat.add_mul, r1]
   simp; omega
  obtain ⟨h1, h2, h3⟩ := c.y3K (w' := w.setCells b (n' * e.size) news) (j := .l d) (x' := .d (.arr (n' + ys.length) e) (.agg (cs.take n' ++ ys))) hobj rfl a1 hd hw'
   (fun b' hb' => q5k b news _ w b' hb') (by unfold oof; rw [World.os_setCells, World.output_setCells]) rfl
   (by simp only [V.ty, Ty.size]; rw [hsz', Nat.add_mul, r1]; exact hfit) (by
    simp only [V.ty, Ty.size]; rw [hchunk]; exact hrepOf (j7.refl Γ) _ hol2 o42 _ hll rfl) rfl rfl (fun arr T fr h => by rw [g4] at h; cases h; exact hsz')
  refine s9.val (q1u ho run) ⟨_, h3, h2, h1, (s5 rfl rfl).2 ⟨?_, rfl⟩⟩
  simp only [q8]
  refine .inr ⟨b, .arr (n' + ys.length) e, 0, n' + ys.length, cap, by simp [G.j4, q0P], rfl, by omega, ⟨some ⟨b, 0, none⟩, by rw [r1], .inr (by simp)⟩, by rw [r1]; exact hroom, a6, hlen, (fun c h => by cases h), fun _ => .inr ⟨sz, s1, ?_⟩⟩
  exact s2
 ·exact newb aa cap hv a6 hroom
end
end Go.E
namespace Go.E
open Go
section
variable {P : Program} {Γ : G} {w w' : World} {s : S}
theorem q3g (a : Addr) : ∀ (n i : Nat) (acc arr : Array Value) (w' : World), (loadCellsFrom a i n acc).run P w = .ok arr w' → ∀ k, k ≤ n →
  ∃ l r : List Value, arr = acc ++ (l ++ r).toArray ∧ l.length = k ∧ (loadCellsFrom a i k acc).run P w = .ok (acc ++ l.toArray) w
 | 0, i, acc, arr, w', h, k, hk => by
  have : k = 0 := by omega
  subst this
  simp [loadCellsFrom] at h
  exact ⟨[], [], by simp [h.1], rfl, by simp [loadCellsFrom]⟩
 | n + 1, i, acc, arr, w', h, k, hk => by
  have step : ∀ (m : Nat), (loadCellsFrom a i (m + 1) acc).run P w = ((load (a.add i)).run P w).andThen fun v w1 => (loadCellsFrom a (i + 1) m (acc.push v)).run P w1 := by
   intro m
   conv => lhs; unfold loadCellsFrom
   rw [Sem.run_bind]
  rw [step] at h
  have hl : ∃ v, (load (a.add i)).run P w = .ok v w := by
   rw [run_load] at h ⊢
   cases hc : w.cell? (a.add i) with
   | some v => exact ⟨v, rfl⟩
   | none =>
    rw [hc] at h
    dsimp only at h ⊢
    cases hf : w.farLoad P (a.add i) (Mode.plain == .atomic) with
    | ok x => obtain ⟨v, y⟩ := x; exact ⟨v, rfl⟩
    | error e => rw [hf] at h; cases h
  obtain ⟨v, hv⟩ := hl
  rw [hv] at h
  simp only [Result.andThen_ok] at h
  cases k with
  | zero =>
   obtain ⟨l, r, h1, h2, _⟩ := q3g a n (i + 1) (acc.push v) arr w' h 0 (Nat.zero_le _)
   have : l = [] := List.eq_nil_of_length_eq_zero h2
   subst this
   exact ⟨[], v :: r, by simp [h1], rfl, by simp [loadCellsFrom]⟩
  | succ k =>
   obtain ⟨l, r, h1, h2, h3⟩ := q3g a n (i + 1) (acc.push v) arr w' h k (by omega)
   refine ⟨v :: l, r, by simp [h1], by simp [h2], ?_⟩
   rw [step, hv]
   simp only [Result.andThen_ok, h3]
   simp
theorem z4Y {sz n k : Nat} {x : Value} {news : List Value} (h : (Builtin.firstCells sz n x).run P w = .ok news.toArray w) (hl : news.length = n * sz) (hk : k ≤ n) (hlen : ∀ s, x = .string s → n ≤ s.size ∧ sz = 1) : (Builtin.firstCells sz k x).run P w = .ok (news.take (k * sz)).toArray w := by
 cases x <;> (try (simp [Builtin.firstCells] at h; done))
 case slice a len cap =>
  cases a with
  | none =>
   simp only [Builtin.firstCells, Sem.run_pure, Result.ok.injEq] at h ⊢
   have : news = [] := by have := h.1; cases news <;> simp at this ⊢
   subst this
   simp
  | some ad =>
   simp only [Builtin.firstCells, loadCells] at h ⊢
   obtain ⟨l, r, h1, h2, h3⟩ := q3g ad (n * sz) 0 #[] _ _ h (k * sz) (Nat.mul_le_mul_right _ hk)
   rw [h3]
   have h1' : news = l ++ r := by simpa using h1
   simp [h1', ← h2]
 case string s =>
  obtain ⟨h1, rfl⟩ := hlen s rfl
  simp only [Builtin.firstCells, Sem.run_pure, Result.ok.injEq, and_true] at h ⊢
  have e : news = (s.extract 0 n).data.toList.map fun b => Value.int .u8 b.toNat := by
   have := congrArg Array.toList h
   simpa using this.symm
  subst e
  apply Array.toList_inj.1
  simp only [Array.toList_map, List.toList_toArray, Nat.mul_one, ← List.map_take]
  congr 1
  rw [ByteArray.data_extract, ByteArray.data_extract]
  simp [Array.toList_extract, List.extract_eq_take_drop, List.take_take, Nat.min_eq_left hk]
def q42 (cs : List C) (lo n : Nat) (ys : List C) : List C := cs.take lo ++ ys.take n ++ cs.drop (lo + min ys.length n)
theorem y0q {cs : List C} {lo n : Nat} {ys : List C} (h : lo + n ≤ cs.length) : (q42 cs lo n ys).length = cs.length := by
 simp [q42]; omega
theorem y7K (hP : u3 P = true) (c : y9 Γ w s) {o : Oper} {a : Act} {x y : Operand} {t t' : TypeId} {k : Key} {q : List Nat} {lo n cp m : Nat} {X Y : V} {cc : C} {ys : List C} {eb : Nat} {e : Ty}
  (ho : o.op = .call { callee := .builtin .copy, args := #[x, y], argTypes := #[t, t'] }) (ht : ty P t = .slice eb e)
  (hobj : s.obj k = some (.box X)) (hX : X.at q = .d (.arr m e) cc) (hd : X.ty.J4 = true) (h0 : 0 < n) (hz : Q0 P (v7 P t) = true) 
  (hx : q9 Γ (.sr k q lo n (some cp) eb e) (a.eval x)) (hy : q9 Γ Y (a.eval y)) (hel : q6Z P s t' eb e Y ys) :
  s9 P o a w (o9 Γ w { s with loc := (k, .box (X.setAt q (.d (.arr m e) (.agg (q42 cc.elems lo n ys))))) :: s.loc } (.d (.int .i64) (.int (min ys.length n : Nat)))) := by
 obtain ⟨hu, he, heb, hE⟩ := q11 hP ht
 obtain ⟨m', news, hs, r1, r2, r3, r4⟩ := q8Q c hy hel
 rcases q0x hx with ⟨h1, _⟩ | ⟨b, τ0, o0, M, cap, aa, a1, a2, a3, hv, a4, a5, a6, a7, a8, _⟩
 ·cases h1
 obtain ⟨b2, cells, E, e1, e2, e3, e4, e5, e6, e7, e8⟩ := c.own a1 hobj
 rw [a1] at e1
 cases e1
 obtain ⟨g1, g2, g3⟩ := e6.at_ a2 (by rw [hX]; simp) e7
 have hcl : (chunk cells.toList 0 X.ty.size).length = X.ty.size := k8 _ _ _ (by simpa using e5)
 rw [hcl] at g2
 rw [hX] at g1 g3
 simp only [V.ty, Ty.arr.injEq] at g1
 obtain ⟨rfl, _⟩ := g1
 rw [c8 _ _ _ _ _ g2, Nat.zero_add] at g3
 simp only [q8, y4] at g3
 obtain ⟨cs, rfl, q1, q2, q3, q4⟩ := g3
 simp only [C.elems, Ty.size] at *
 obtain ⟨i, z, hi, hzz, hzo, hzo2⟩ := q4p hz
 have hsz : i.size = e.size := by
  have := b8 hP 11 (v7 P t)
  rw [he, this]; simp [Program.cellsOf, hi]
 have haa : aa = some ⟨b, o0 + lo * e.size, none⟩ := by
  rcases a4 with a4 | a4
  ·omega
  ·exact a4
 subst haa
 have hnl : news.length = m' * e.size := hs.newsLen
 have hk1 : min m' n ≤ m' := Nat.min_le_left _ _
 have hk2 : min m' n ≤ n := Nat.min_le_right _ _
 have hft := z4Y (k := min m' n) hs.cells hnl hk1 (fun st hst => by
  rcases hel with ⟨_, h2 | ⟨rfl, _⟩⟩ | ⟨_, hYs, h3, h4, h5⟩
  ·-- a slice is no string
   exfalso
   obtain ⟨_, _, _, h6⟩ := q8R hy h2
   rw [hst] at h6; cases h6
  ·rw [X7 hy] at hst; cases hst
  ·obtain ⟨c0, rfl⟩ := V.q4k hYs
   obtain ⟨h6, _, h7⟩ := W1 hy
   rw [h6] at hst; cases hst
   have : m' = c0.toStr.length := by rw [← r1, h5]; simp [V.toStr]
   refine ⟨by rw [this]; simp [ByteArray.size], by rw [h3]; rfl⟩)
 have htl : (news.take (min m' n * e.size)).length = min m' n * e.size := by
  have := Nat.mul_le_mul_right e.size hk1
  simp; omega
 have hMs : (lo + n) * e.size ≤ m * e.size := Nat.mul_le_mul_right _ a3
 have hks : min m' n * e.size ≤ n * e.size := Nat.mul_le_mul_right _ hk2
 rw [Nat.add_mul] at hMs
 have hfit : o0 + lo * e.size + 0 + (news.take (min m' n * e.size)).length ≤ cells.size := by rw [htl]; omega
 have hst := run_storeCells_at (P := P) b (o0 + lo * e.size) E (news.take (min m' n * e.size)) 0 cells w e4 hfit (fun v hv => hs.one v (List.mem_of_mem_take hv))
 have hrun : (Builtin.copy_ #[t, t'] o.type #[.slice (some ⟨b, o0 + lo * e.size, none⟩) n cap, a.eval y]).run P w = .ok (goInt ((min m' n : Nat) : Int)) (w.setRow b (s7 cells.toList (o0 + lo * e.size) (news.take (min m' n * e.size))).toArray) := by
  simp only [Nat.add_zero] at hst
  simp [Builtin.copy_, run_underlying hu, hs.len, sizeOf, typeInfo, hi, hsz, hft, hst, s7]
  try (exact congrArg goInt (by rw [show m'.min n = min m' n from rfl]; omega))
 -- the array anew
 have hl0 : o0 + lo * e.size + (news.take (min m' n * e.size)).length ≤ cells.toList.length := by rw [htl]; simp; omega
 have hs2 : (s7 cells.toList (o0 + lo * e.size) (news.take (min m' n * e.size))).toArray.size = cells.size := by simp only [List.size_toArray, X4 hl0]; simp
 have hnew : chunk (s7 cells.toList (o0 + lo * e.size) (news.take (min m' n * e.size))) o0 (m * e.size) = s7 (chunk cells.toList o0 (m * e.size)) (lo * e.size) (news.take (min m' n * e.size)) :=
  z5u (by simp; omega) (by rw [htl]; omega) rfl
 have hsl : (s7 (chunk cells.toList o0 (m * e.size)) (lo * e.size) (news.take (min m' n * e.size))).length = m * e.size := by
  rw [X4 (by rw [q2, htl]; omega), q2]
 have hcs : (q42 cs lo n ys).length = m := by rw [y0q (by omega), q1]
 have helem : ∀ j c', (q42 cs lo n ys)[j]? = some c' → y4 Γ.H e (chunk (s7 (chunk cells.toList o0 (m * e.size)) (lo * e.size) (news.take (min m' n * e.size))) (j * e.size) e.size) c' := by
  intro j c' hj
  have hjl : j < m := by rw [← hcs]; exact (List.getElem?_eq_some_iff.1 hj).1
  have hjm : (j + 1) * e.size ≤ m * e.size := Nat.mul_le_mul_right _ hjl
  rw [Nat.add_mul] at hjm
  have hlo : lo ≤ cs.length := by omega
  unfold q42 at hj
  by_cases h1 : j < lo
  ·rw [List.append_assoc, List.getElem?_append_left (by simp; omega), List.getElem?_take, if_pos h1] at hj
   have hjlo : (j + 1) * e.size ≤ lo * e.size := Nat.mul_le_mul_right _ h1
   rw [Nat.add_mul] at hjlo
   rw [q0s (by rw [q2, htl]; omega) (.inl (by omega))]
   exact q4 j c' hj
  ·by_cases h2 : j < lo + min ys.length n
   ·rw [List.append_assoc, List.getElem?_append_right (by simp; omega), List.getElem?_append_left (by simp; omega)] at hj
    simp only [List.length_take, Nat.min_eq_left hlo] at hj
    rw [List.getElem?_take] at hj
    split at hj
    ·rename_i hjn
     have h3 := r4 _ _ hj
     have hjk : j - lo < min m' n := by rw [r1] at h2; omega
     have hjk2 : (j - lo + 1) * e.size ≤ min m' n * e.size := Nat.mul_le_mul_right _ hjk
     rw [Nat.add_mul] at hjk2
     have e9 : j * e.size = lo * e.size + (j - lo) * e.size := by rw [← Nat.add_mul]; congr 1; omega
     have e10 : chunk (s7 (chunk cells.toList o0 (m * e.size)) (lo * e.size) (news.take (min m' n * e.size))) (j * e.size) e.size = chunk news ((j - lo) * e.size) e.size := by
      apply List.ext_getElem?
      intro u
      rw [s8, s8]
      split
      ·rename_i hu2
       rw [X2 (by rw [q2, htl]; omega), if_pos (by rw [htl]; omega), List.getElem?_take, if_pos (by omega)]
       congr 1; omega
      ·rfl
     rw [e10]; exact h3
    ·cases hj
   ·rw [List.getElem?_append_right (by simp; omega), List.getElem?_drop] at hj
    simp only [List.length_append, List.length_take, Nat.min_eq_left hlo] at hj
    have hj2 : cs[j]? = some c' := by
     rw [← hj]; congr 1
     have : min n ys.length = min ys.length n := Nat.min_comm _ _
     omega
    have h5 : min m' n * e.size + lo * e.size ≤ j * e.size := by
     rw [← Nat.add_mul]
     refine Nat.mul_le_mul_right _ ?_
     rw [r1] at h2; omega
    rw [q0s (by rw [q2, htl]; omega) (.inr (by rw [htl]; omega))]
    exact q4 j c' hj2
 have hY : q8 Γ (some k) q (.d (.arr m e) (.agg (q42 cs lo n ys))) (s7 (chunk cells.toList o0 (m * e.size)) (lo * e.size) (news.take (min m' n * e.size))) := by
  simp only [q8, y4]
  exact ⟨_, rfl, hcs, hsl, q1T hcs hsl helem, helem⟩
 obtain ⟨s1, s2, s3⟩ := q8.setAt (q := q) (p := []) (y := .d (.arr m e) (.agg (q42 cs lo n ys))) e6 e7 hd a2 (by rw [hX]; simp) (by simpa using hY) rfl
 have hsp : s7 cells.toList (o0 + lo * e.size) (news.take (min m' n * e.size)) = s7 cells.toList o0 (s7 (chunk cells.toList o0 (m * e.size)) (lo * e.size) (news.take (min m' n * e.size))) := by
  apply List.ext_getElem?
  intro u
  rw [X2 hl0, X2 (by rw [hsl]; simp; omega), hsl, htl]
  by_cases hu1 : o0 ≤ u ∧ u < o0 + m * e.size
  ·rw [if_pos hu1, X2 (by rw [q2, htl]; omega), htl]
   by_cases hu2 : o0 + lo * e.size ≤ u ∧ u < o0 + lo * e.size + min m' n * e.size
   ·rw [if_pos hu2, if_pos (by omega)]; congr 1; omega
   ·rw [if_neg hu2, if_neg (by omega), s8, if_pos (by omega)]; congr 1; omega
  ·rw [if_neg hu1, if_neg (by omega)]
 have c' := c.write (x' := X.setAt q (.d (.arr m e) (.agg (q42 cs lo n ys)))) (cells' := (s7 cells.toList (o0 + lo * e.size) (news.take (min m' n * e.size))).toArray) (w' := w.setRow b (s7 cells.toList (o0 + lo * e.size) (news.take (min m' n * e.size))).toArray) hobj a1
  (setRow_heap w b cells _ E (0, 0) e4) (fun b' hb' => setRow_other w b b' _ hb') rfl (by rw [s2, hs2]; exact e5)
  (by rw [s2, List.toList_toArray, hsp, z0d _ _ (by rw [hsl]; exact g2) (by simpa using e5)]; exact s1) s2 s3 (V.q61 q X _ e8 rfl) (fun arr T fr h => by rw [e4] at h; cases h; exact hs2)
 refine s9.val (v := goInt ((min m' n : Nat) : Int)) (w' := w.setRow b (s7 cells.toList (o0 + lo * e.size) (news.take (min m' n * e.size))).toArray) ?_ ⟨_, GLe.refl _, j7.refl _, c', ?_⟩
 ·unfold execOp
  simp [ho, resolve, invoke, builtin, hv, hrun]
 ·rw [r1]
  show q9 _ _ (.int .i64 ((min m' n : Nat) : Int))
  exact r9 (by have e1 : IntKind.i64.min = -9223372036854775808 := by decide
               omega) (by have e1 : IntKind.i64.max = 9223372036854775807 := by decide
                          unfold maxLen at r2; omega)
end
end Go.E
namespace Go.E
open Go
section
variable {Γ : G} {w : World} {s : S}
theorem y9.freeze (c : y9 Γ w s) {b : Nat} {cells : Array Value} {T : TypeId} {fr : Nat × Nat} (hw : w.heap[b]? = some (.cells cells T fr)) (hH : Γ.H b = none) (hι : ∀ k τ o, Γ.ι k = some (b, τ) → s.obj k = some o → o.H4 = true) :
  y9 (Γ.q0X b cells.toList) w s ∧ j7 Γ (Γ.q0X b cells.toList) ∧ Γ.H.le (Γ.q0X b cells.toList).H := by
 have oH : ∀ b', b' ≠ b → (Γ.q0X b cells.toList).H b' = Γ.H b' := fun b' hb => U5 _ _ hb
 have nb : ∀ b', Γ.H b' ≠ none → b' ≠ b := fun b' h e => h (e ▸ hH)
 have hle : Γ.H.le (Γ.q0X b cells.toList).H := fun b' l' h => ⟨[], by rw [oH b' (nb b' (by rw [h]; simp)), h]; simp⟩
 have hp : j7 Γ (Γ.q0X b cells.toList) := ⟨hle, fun _ _ h => h, fun t x L h => ⟨x, L, h, Nat.le_refl _, fun _ => rfl⟩, fun _ _ h => h⟩
 refine ⟨?_, hp, hle⟩
 refine c.change hp rfl rfl rfl rfl (fun b' l' h => ?_) (fun _ _ => rfl) (fun b' o sz h => ?_) (fun k o h => ?_) (fun _ h _ => h) c.dom c.hσ c.inj (fun t L h => ?_) c.tdom (Nat.le_refl _)
 ·by_cases hb : b' = b
  ·subst hb
   simp [G.q0X, Q8] at h; subst h
   exact ⟨cells, T, fr, [], hw, by simp⟩
  ·rw [oH b' hb] at h
   exact c.hH b' l' h
 ·have h' : Γ.κ b' = some (o, sz) := h
  obtain ⟨a1, a2, a3⟩ := c.hκ b' o sz h'
  exact ⟨a1, by rw [oH b' (nb b' a2)]; exact a2, a3⟩
 ·refine .inl ⟨h, fun hd => ⟨fun b' p sz hb => ⟨rfl, ?_⟩, fun b' τ hb => ⟨rfl, ?_⟩⟩⟩
  ·exact oH b' (nb b' (c.hκ b' _ sz hb).2.1)
  ·obtain ⟨a1, _⟩ := c.q0u hb h hd
   rw [oH b' (fun e => by have := hι k τ o (e ▸ hb) h; rw [this] at hd; cases hd)]; exact a1
 ·obtain ⟨x, h1, h2⟩ := c.tok t L h
  refine ⟨x, h1, fun b' pos sz hx => ?_⟩
  obtain ⟨⟨l, a1, a2⟩, a3⟩ := h2 b' pos sz hx
  exact ⟨⟨l, by rw [oH b' (nb b' (by rw [a1]; simp))]; exact a1, a2⟩, a3⟩
theorem y9.y8s (c : y9 Γ w s) {k : Key} {M : Nat} {e : Ty} {cc : C} (ho : s.obj k = some (.box (.d (.arr M e) cc))) :
  ∃ Γ', GLe Γ Γ' ∧ j7 Γ Γ' ∧ y9 Γ' w { s with loc := (k, .dead (.arr M e)) :: s.loc } ∧
   ∀ {lo n : Nat} {cp : Option Nat} {eb : Nat} {v : Value}, q9 Γ (.sr k [] lo n cp eb e) v → q9 Γ' (.d (.slice eb e) (.slice ((cc.elems.drop lo).take n))) v := by
 have ck := c.kill ho
 have nul : ∀ {Γ' : G} {lo n : Nat} {cp : Option Nat} {eb : Nat} {v : Value}, (cp = none ∧ n = 0 ∧ ∃ a, v = .slice a 0 0) → q9 Γ' (.d (.slice eb e) (.slice ((cc.elems.drop lo).take n))) v := by
  intro Γ' lo n cp eb v h
  obtain ⟨_, rfl, a, rfl⟩ := h
  refine (s5 rfl rfl).2 ⟨?_, rfl⟩
  simp only [q8]
  exact r6 (by simp) (Nat.le_refl _) (Nat.zero_le _) (by rw [Nat.zero_mul]; exact Nat.zero_le _) (.inl rfl)
 rcases c.obj k _ ho with ⟨hn, _⟩ | hown
 ·refine ⟨Γ, .refl Γ, .refl Γ, ck, fun hr => ?_⟩
  rcases q0x hr with h | ⟨b, τ0, o, m, cap, a, h1, _⟩
  ·exact nul h
  ·rw [hn] at h1; cases h1
 ·obtain ⟨b, cells, T, h1, h2, h3, h4, h5, h6, h7, h8⟩ := hown
  have hdk : s.c6 k = false := by rw [Y5 ho]; rfl
  obtain ⟨q1, q2, q3⟩ := ck.freeze h4 h2 (fun k' τ o hk' ho' => by
   rcases c.inj k' k b _ _ hk' h1 with e1 | ⟨e1 | e1, _⟩
   ·subst e1
    rw [Q6, if_pos rfl] at ho'; cases ho'; rfl
   ·rw [Q6] at ho'
    split at ho'
    ·cases ho'; rfl
    ·rw [Y5 ho'] at e1; exact e1
   ·rw [hdk] at e1; cases e1)
  refine ⟨_, ⟨q3, rfl, fun b' hb' => U5 _ _ fun e => (by subst e; exact hb' h3), fun _ _ h => h, rfl, rfl, fun _ _ h => h, fun _ h => h⟩, q2, q1, fun {lo n cp eb v} hr => ?_⟩
  rcases q0x hr with h | ⟨b', τ0, o, m, cap, a, a1, a2, a3, hv, a4, a5, a6, a7, _, _⟩
  ·exact nul h
  rw [h1] at a1; cases a1
  simp only [V.ty, Ty.walk, Option.some.injEq, Prod.mk.injEq, Ty.arr.injEq] at a2
  obtain ⟨rfl, rfl, _⟩ := a2
  simp only [V.ty, q8, y4] at h6
  obtain ⟨cs, rfl, r1, r2, r3, r4⟩ := h6
  simp only [C.elems, Ty.size] at *
  have hl : ((cs.drop lo).take n).length = n := by simp; omega
  have hmul : (lo + n) * e.size ≤ M * e.size := Nat.mul_le_mul_right _ a3
  rw [Nat.add_mul] at hmul
  subst hv
  refine (s5 rfl rfl).2 ⟨?_, rfl⟩
  simp only [q8]
  refine r6 hl a5 a6 a7 ?_
  by_cases hn : n = 0
  ·exact .inl hn
  ·refine .inr ⟨b, lo * e.size, cells.toList, ?_, k7 _ _ _, by simp; simp [V.ty, Ty.size] at h5; omega, fun i c' hi => ?_⟩
   ·rcases a4 with a4 | a4
    ·omega
    ·rw [a4, Nat.zero_add]
   ·rw [List.getElem?_take] at hi
    split at hi
    ·rename_i hin
     rw [List.getElem?_drop] at hi
     have h9 := r4 _ _ hi
     have hle : (lo + i + 1) * e.size ≤ M * e.size := Nat.mul_le_mul_right _ (by omega)
     rw [Nat.add_mul, Nat.add_mul] at hle
     rw [Nat.add_mul] at h9
     rw [c8 _ _ _ _ _ (by omega), Nat.zero_add] at h9
     exact h9.mono q3
    ·cases hi
def W9 (s : S) (x : V) : V :=
 match x with
 | .sr (.l j) q lo n cp eb e => (match q with
  | [] => (match s.obj (.l j) with
   | some (.box (.d τ cc)) => (match τ with
    | .arr M e' => if e' = e then .d (.slice eb e) (.slice ((cc.elems.drop lo).take n)) else x
    | _ => x)
   | _ => x)
  | _ => x)
 | x => x
def q1I : V → List Nat
 | .sr (.l j) [] _ _ _ _ _ => [j]
 | _ => []
def q09 : List V → List Nat
 | [] => []
 | x :: xs => q1I x ++ q09 xs
def F5 : List Nat → S → S
 | [], s => s
 | j :: l, s => F5 l (match s.obj (.l j) with
  | some (.box (.d τ _)) => (match τ with
   | .arr M e => { s with loc := (.l j, .dead (.arr M e)) :: s.loc }
   | _ => s)
  | _ => s)
theorem z4J {s : S} {x : V} (h : ∀ j, j ∈ q1I x → False) : W9 s x = x := by
 unfold W9
 split
 ·split
  ·rename_i j _ _ _ _ _ _
   exact (h j (List.mem_singleton.2 rfl)).elim
  ·rfl
 ·rfl
theorem q9O : ∀ (js : List Nat) (s : S) {Γ : G}, y9 Γ w s → ∃ Γ', GLe Γ Γ' ∧ j7 Γ Γ' ∧ y9 Γ' w (F5 js s) ∧ ∀ (x : V) (v : Value), q9 Γ x v → (∀ j ∈ q1I x, j ∈ js) → q9 Γ' (W9 s x) v
 | [], s, Γ, c => ⟨Γ, .refl Γ, .refl Γ, c, fun x v hr hx => by rw [z4J (fun j hj => by simpa using hx j hj)]; exact hr⟩
 | j :: l, s, Γ, c => by
  have skip : (∀ x : V, q1I x = [j] → W9 s x = x) → ∃ Γ', GLe Γ Γ' ∧ j7 Γ Γ' ∧ y9 Γ' w (F5 l s) ∧ ∀ (x : V) (v : Value), q9 Γ x v → (∀ i ∈ q1I x, i ∈ j :: l) → q9 Γ' (W9 s x) v := by
   intro hs
   obtain ⟨Γ', g, p, c', h⟩ := q9O l s c
   refine ⟨Γ', g, p, c', fun x v hr hx => ?_⟩
   by_cases hj : q1I x = [j]
   ·rw [hs x hj]; exact hr.b5 p
   ·refine h x v hr fun i hi => ?_
    have := hx i hi
    simp only [List.mem_cons] at this
    rcases this with rfl | h2
    ·exfalso
     apply hj
     unfold q1I at hi ⊢
     split at hi
     ·simp at hi; subst hi; rfl
     ·simp at hi
    ·exact h2
  have inv : ∀ x : V, q1I x = [j] → ∃ lo n cp eb e, x = .sr (.l j) [] lo n cp eb e := by
   intro x hx
   unfold q1I at hx
   split at hx
   ·simp at hx; subst hx; exact ⟨_, _, _, _, _, rfl⟩
   ·cases hx
  simp only [F5]
  split
  ·rename_i τ cc ho
   split
   ·rename_i M e
    obtain ⟨Γ1, g1, p1, c1, h1⟩ := c.y8s ho
    obtain ⟨Γ', g, p, c', h⟩ := q9O l _ c1
    refine ⟨Γ', g1.trans g, p1.trans p, c', fun x v hr hx => ?_⟩
    by_cases hj : q1I x = [j]
    ·obtain ⟨lo, n, cp, eb, e', rfl⟩ := inv x hj
     simp only [W9, ho]
     by_cases he : e = e'
     ·rw [if_pos he]; subst he
      exact (h1 hr).b5 p
     ·rw [if_neg he]
      exact hr.b5 (p1.trans p)
    ·have h2 := h x v (hr.b5 p1) fun i hi => by
      have := hx i hi
      simp only [List.mem_cons] at this
      rcases this with rfl | h2
      ·exfalso
       apply hj
       unfold q1I at hi ⊢
       split at hi
       ·simp at hi; subst hi; rfl
       ·simp at hi
      ·exact h2
     have : W9 { s with loc := (Key.l j, O.dead (.arr M e)) :: s.loc } x = W9 s x := by
      cases x <;> (try rfl)
      rename_i k q lo n cp eb e2
      cases k with
      | g k => rfl
      | l i =>
       cases q with
       | cons a q => rfl
       | nil =>
        have hij : j ≠ i := fun e => hj (by subst e; rfl)
        simp only [W9]
        rw [Q6, if_neg (by intro e; cases e; exact hij rfl)]
     rw [← this]; exact h2
   ·exact skip fun x hx => by
     obtain ⟨lo, n, cp, eb, e, rfl⟩ := inv x hx
     simp only [W9, ho]
  ·exact skip fun x hx => by
    obtain ⟨lo, n, cp, eb, e, rfl⟩ := inv x hx
    simp only [W9]
end
end Go.E
namespace Go.E
open Go
mutual
def Ty.H6 : Ty → Bool
 | .int _ | .bool | .str => true
 | .arr _ e => e.H6
 | .struct _ _ fs => Ty.z4B fs
 | _ => false
def Ty.z4B : List Ty → Bool
 | [] => true
 | t :: ts => t.H6 && Ty.z4B ts
end
mutual
theorem y4.H6 {H H' : Hp} : ∀ {τ : Ty} {vs : List Value} {c : C}, τ.H6 = true → y4 H τ vs c → y4 H' τ vs c
 | .int _, _, _, _, r => by simpa [y4] using r
 | .bool, _, _, _, r => by simpa [y4] using r
 | .str, _, _, _, r => by simpa [y4] using r
 | .arr n e, vs, c, h, r => by
  simp only [y4] at r ⊢
  obtain ⟨cs, rfl, h1, h2, h4, h3⟩ := r
  exact ⟨cs, rfl, h1, h2, h4, fun i c hi => y4.H6 (by simpa [Ty.H6] using h) (h3 i c hi)⟩
 | .struct sz os fs, vs, c, h, r => by
  simp only [y4] at r ⊢
  obtain ⟨cs, rfl, h1, h4, h2⟩ := r
  exact ⟨cs, rfl, h1, h4, k9.H6 (by simpa [Ty.H6] using h) h2⟩
 | .slice _ _, _, _, h, _ | .ptr, _, _, h, _ | .map, _, _, h, _ | .func, _, _, h, _ | .iface, _, _, h, _ | .opq _, _, _, h, _ => by simp [Ty.H6] at h
theorem k9.H6 {H H' : Hp} : ∀ {fs : List Ty} {os : List Nat} {vs : List Value} {cs : List C}, Ty.z4B fs = true → k9 H fs os vs cs → k9 H' fs os vs cs
 | [], _, _, _, _, r => by simpa [k9] using r
 | f :: fs, o :: os, vs, cs, h, r => by
  simp only [Ty.z4B, Bool.and_eq_true] at h
  simp only [k9] at r ⊢
  obtain ⟨c, cs', rfl, h1, h2, h3⟩ := r
  exact ⟨c, cs', rfl, h1, y4.H6 h.1 h2, k9.H6 h.2 h3⟩
 | _ :: _, [], _, _, _, r => by simp [k9] at r
end
def V.q88 : List V → Bool
 | [] => true
 | x :: xs => (match x with | .d τ _ => τ.H6 | _ => false) && V.q88 xs
def V.H6 : V → Bool
 | .d τ _ => τ.H6
 | .tup vs => V.q88 vs
 | _ => false
theorem z0f {Γ Γ' : G} : ∀ {xs : List V} {vs : List Value}, V.q88 xs = true → v8 Γ xs vs → v8 Γ' xs vs
 | [], vs, _, h => by simpa [v8] using h
 | x :: xs, vs, hx, h => by
  simp only [V.q88, Bool.and_eq_true] at hx
  simp only [v8] at h ⊢
  obtain ⟨v, vs', rfl, h1, h2, h3⟩ := h
  refine ⟨v, vs', rfl, ?_, h2, z0f hx.2 h3⟩
  cases x <;> simp at hx
  simp only [q8] at h1 ⊢
  exact h1.H6 hx.1
theorem y2k {Γ Γ' : G} {x : V} {v : Value} (hx : x.H6 = true) (h : q9 Γ x v) : q9 Γ' x v := by
 cases x <;> simp [V.H6] at hx
 ·rw [Q4] at h ⊢
  exact ⟨h.1.H6 hx, h.2⟩
 ·simp only [q9] at h ⊢
  obtain ⟨vs, rfl, h⟩ := h
  exact ⟨vs, rfl, z0f hx h⟩
theorem y0M {x : V} (hx : x.H6 = true) (n : Nat) : x.X3 n = x := by
 cases x <;> simp [V.H6] at hx
 ·rfl
 ·rename_i vs
  simp only [V.X3]
  congr 1
  have : ∀ (l : List V) (n : Nat), V.q88 l = true → W5 n l = l := by
   intro l
   induction l with
   | nil => intros; rfl
   | cons x xs ih =>
    intro n h
    simp only [V.q88, Bool.and_eq_true] at h
    simp only [W5]
    rw [ih _ h.2]
    cases x <;> simp at h <;> rfl
  exact this vs n hx
def G.q5v (w : World) (gl : Nat → Option (Ty × C)) : G where
 H b := match w.heap[b]? with
  | some (.cells arr _ _) => some arr.toList
  | _ => none
 Z b := w.heap[b]?
 ι _ := none
 τ _ := none
 κ _ := none
 gl := gl
 oo := oof w
 σ _ := none
def q0Q (s : S) : V → V
 | .sr k q lo n cp eb e => (match Y3 s (.sr k q lo n cp eb e) with
  | some (eb', e', cs) => .d (.slice eb' e') (.slice cs)
  | none => .any)
 | x => bif x.plain then (match b9 x with
  | some c => .d x.ty c
  | none => .any) else .any
def q2k : List V → Bool
 | [] => true
 | x :: xs => (match x with | .d _ _ => true | _ => false) && q2k xs
section
variable {P : Program} {Γ : G} {w : World} {s : S}
theorem z2t (c : y9 Γ w s) (gl : Nat → Option (Ty × C)) : Γ.H.le (G.q5v w gl).H := by
 intro b l h
 obtain ⟨arr, T, fr, r, h1, h2⟩ := c.hH b l h
 exact ⟨r, by simp only [G.q5v, h1, h2]⟩
theorem z5e (c : y9 Γ w s) (gl : Nat → Option (Ty × C)) {Y : V} {v : Value} {eb : Nat} {e : Ty} {ys : List C} (hr : q9 Γ Y v) (he : Y3 s Y = some (eb, e, ys)) :
  q9 (G.q5v w gl) (.d (.slice eb e) (.slice ys)) v := by
 have hle := z2t c gl
 have frozen : ∀ {eb : Nat} {e : Ty} {ys : List C}, Y.q1l = some (eb, e, ys) → q9 (G.q5v w gl) (.d (.slice eb e) (.slice ys)) v := by
  intro eb e ys he
  obtain ⟨a, n, cap, rfl, h1, h2, h3, h4, h5⟩ := q00 hr he
  exact Q4.2 ⟨h5.mono hle, rfl⟩
 cases Y <;> (try exact frozen he)
 case sr k q lo n cp eb' e' =>
  simp only [Y3] at he
  cases ho : s.obj k with
  | none => simp [ho] at he
  | some o =>
   cases o with
   | map => simp [ho] at he
   | it => simp [ho] at he
   | dead => simp [ho] at he
   | box x =>
    simp only [ho] at he
    cases hx : x.at q with
    | d τ cc =>
     simp only [hx, Option.some.injEq, Prod.mk.injEq] at he
     obtain ⟨rfl, rfl, rfl⟩ := he
     rcases q0x hr with ⟨_, rfl, a, rfl⟩ | ⟨b, τ0, o0, m, cap, a, a1, a2, a3, rfl, a4, a5, a6, a7, _⟩
     ·exact Q4.2 ⟨r6 (by simp) (Nat.le_refl _) (Nat.zero_le _) (by rw [Nat.zero_mul]; exact Nat.zero_le _) (.inl rfl), rfl⟩
     obtain ⟨b', cells, T, g1, g2, g3, g4, g5, g6, g7, _⟩ := c.own a1 ho
     rw [a1] at g1; cases g1
     obtain ⟨q1, q2, q3⟩ := g6.at_ a2 (by rw [hx]; simp) g7
     rw [hx] at q1 q3
     simp only [V.ty] at q1
     subst q1
     simp only [q8, y4] at q3
     obtain ⟨cs, rfl, r1, r2, r3, r4⟩ := q3
     simp only [C.elems]
     rw [k8 _ _ _ (by simpa using g5)] at q2
     have hlen : ((cs.drop lo).take n).length = n := by simp; omega
     have hmul : (lo + n) * e'.size ≤ m * e'.size := Nat.mul_le_mul_right _ a3
     rw [Nat.add_mul] at hmul
     simp only [Ty.size] at q2 r2 r4
     have hall : o0 + lo * e'.size + n * e'.size ≤ cells.toList.length := by simp; omega
     refine Q4.2 ⟨r6 hlen a5 a6 a7 ?_, rfl⟩
     rcases Nat.eq_zero_or_pos n with h0 | h0
     ·exact .inl h0
     ·have ha : a = some ⟨b, o0 + lo * e'.size, none⟩ := by rcases a4 with h | h; · omega
                                                            ·exact h
      refine .inr ⟨b, o0 + lo * e'.size, cells.toList, ha, by simp only [G.q5v, g4], hall, fun i c' hi => ?_⟩
      rw [List.getElem?_take] at hi
      split at hi
      ·rename_i hin
       rw [List.getElem?_drop] at hi
       have := r4 _ _ hi
       have hle2 : (lo + i + 1) * e'.size ≤ m * e'.size := Nat.mul_le_mul_right _ (by omega)
       rw [Nat.add_mul, Nat.add_mul] at hle2
       rw [Nat.add_mul] at this
       rw [c8 _ _ _ _ _ (by omega), c8 _ _ _ _ _ (by omega)] at this
       rw [show 0 + (o0 + (lo * e'.size + i * e'.size)) = o0 + lo * e'.size + i * e'.size by omega] at this
       exact this.mono hle
      ·cases hi
    | _ => simp [hx] at he
theorem y5b (c : y9 Γ w s) (gl : Nat → Option (Ty × C)) {x : V} {v : Value} {τ : Ty} {cc : C} (hr : q9 Γ x v) (h : q0Q s x = .d τ cc) : q9 (G.q5v w gl) (.d τ cc) v := by
 have other : ∀ {τ : Ty} {cc : C}, (bif x.plain then (match b9 x with
  | some c => V.d x.ty c
  | none => .any) else .any) = .d τ cc → q9 (G.q5v w gl) (.d τ cc) v := by
  intro τ cc h
  cases hp : x.plain with
  | false => rw [hp] at h; cases h
  | true =>
   rw [hp] at h
   simp only [cond_true] at h
   split at h
   ·rename_i c0 hc0
    cases h
    obtain ⟨h1, h2⟩ := (u0 hp).1 hr
    exact Q4.2 ⟨(q2j x h1 hc0).mono (z2t c gl), h2⟩
   ·cases h
 cases x <;> first
  | exact other h
  | (simp only [q0Q] at h
     split at h
     ·rename_i he
      cases h
      exact z5e c gl hr he
     ·cases h)
theorem y4f (hgl : ∃ gl0, Γ.gl = gl0) (c : y9 Γ w s) {xs : List V} (hx : q2k xs = true) : y9 (G.q5v w Γ.gl) w (S.start xs fun _ => none) := by
 have htk : ∀ (l : List V) (n : Nat), q2k l = true → q1G n l = [] := by
  intro l
  induction l with
  | nil => intros; rfl
  | cons x xs ih =>
   intro n h
   simp only [q2k, Bool.and_eq_true] at h
   simp only [q1G]
   rw [ih _ h.2]
   cases x <;> simp at h <;> rfl
 refine ⟨fun b l h => ?_, fun b o h => h, fun b o sz h => (by cases h), fun k o h => ?_, fun k h => absurd rfl h, fun k k' b τ τ' h _ => (by cases h), fun t L h => ?_, fun t h => absurd rfl h, fun g τ cc h => ?_, rfl, fun b sz h => (by cases h)⟩
 ·simp only [G.q5v] at h
  split at h
  ·rename_i arr T fr hw
   cases h
   exact ⟨arr, T, fr, [], hw, by simp⟩
  ·cases h
 ·exfalso
  cases k <;> simp [S.start, S.obj, Z3, z7] at h
 ·exfalso
  simp [S.start, S.live, F4, htk xs 1000 hx, look] at h
 ·obtain ⟨l, h1, h2, h3⟩ := c.hgl g τ cc h
  obtain ⟨r, hr⟩ := z2t c Γ.gl g l h1
  refine ⟨l ++ r, hr, by simp; omega, ?_⟩
  rw [q10 _ _ _ _ (by omega)]
  exact h3.mono (z2t c Γ.gl)
theorem y6l : AOk fun _ => none := fun _ _ h => by cases h
theorem y5M {w' : World} {gl : Nat → Option (Ty × C)} {Γ' : G} {s' : S} (gle : GLe (G.q5v w gl) Γ') (c' : y9 Γ' w' s') : Ext w w' := by
 have old : ∀ b, b < w.heap.size → w'.heap[b]? = w.heap[b]? := fun b hb => by
  have h1 : w.heap[b]? = some w.heap[b] := Array.getElem?_eq_getElem hb
  rw [h1]
  exact c'.hZ b _ (by rw [gle.Z]; exact h1)
 refine ⟨?_, old, ?_⟩
 ·rcases Nat.eq_zero_or_pos w.heap.size with h | h
  ·omega
  ·have h1 := old (w.heap.size - 1) (by omega)
   rw [Array.getElem?_eq_getElem (show w.heap.size - 1 < w.heap.size by omega)] at h1
   have := lt_of_heap h1
   omega
 ·rw [c'.hoo, gle.oo]; rfl
theorem y7J {X : Cx} (hgl : Γ.gl = X.gl) (c : y9 Γ w s) {o : Oper} {a : Act} {fo : Operand} {f : FuncId} {as : Array Operand} {ts : Array TypeId} {xs : List V} {v : V}
  (ho : o.op = .call { callee := .value fo, args := as, argTypes := ts }) (hcal : W7 X.P f = true) (hf : q9 Γ (.fn f []) (a.eval fo))
  (hlen : xs.length = as.toList.length) (hr : ∀ (i : Nat) x y, xs[i]? = some x → as.toList[i]? = some y → q9 (G.q5v w Γ.gl) x (a.eval y)) (hx : q2k xs = true) (D : p8 X f xs (fun _ => none) v []) (hv : v.H6 = true) :
  s9 X.P o a w (o9 Γ w s v) := by
 obtain ⟨cv, hfv, hcl, _⟩ := z2f hf
 have hcv : cv = #[] := by
  apply Array.eq_empty_of_size_eq_zero
  simpa using hcl.symm
 subst hcv
 have run : (execOp a.eval o).run X.P w = .ok (.enter f (as.map a.eval)) w := by
  unfold execOp
  simp [ho, resolve, hfv, Deferred.ofValue, invoke, z02 hcal]
 have hsl : ∀ (l : List V) (n : Nat), q2k l = true → W5 n l = l := by
  intro l
  induction l with
  | nil => intros; rfl
  | cons x xs ih =>
   intro n h
   simp only [q2k, Bool.and_eq_true] at h
   simp only [W5]
   rw [ih _ h.2]
   cases x <;> simp at h <;> rfl
 refine s9.enter run ?_
 refine (D (fun _ => none) (G.q5v w Γ.gl) w (as.map a.eval) (fun _ _ h => h) hgl ⟨y4f ⟨_, rfl⟩ c hx, y6l⟩ (by simpa using hlen) fun i x u hx' hu => ?_).mono ?_
 ·rw [hsl xs 1000 hx] at hx'
  rw [Array.getElem?_map] at hu
  cases hy : as[i]? with
  | none => rw [hy] at hu; cases hu
  | some y =>
   rw [hy] at hu
   cases hu
   exact hr i x y hx' (by simpa using hy)
 ·rintro e w' ⟨u, Γ', rfl, gle, c', hv'⟩
  rw [y0M hv] at hv'
  exact ⟨u, rfl, o9.ext c (y5M gle c') (y2k hv hv')⟩
end
end Go.E
namespace Go.E
open Go
def y0r : Value → V
 | .int k n => .d (.int k) (.int n)
 | .bool b => .d .bool (.bool b)
 | .string s => .d .str (.str s.data.toList)
 | .pointer none => .d .ptr .nil
 | .slice none 0 0 => .nilc
 | .map none => .d .map .nil
 | .nilFunc => .d .func .nil
 | .nilIface => .d .iface .nil
 | _ => .any
def z6z : Value → Bool
 | .int k n => decide (k.min ≤ n ∧ n ≤ k.max)
 | .string s => decide (s.data.toList.length ≤ 140737488355328)
 | _ => true
def q76 : Operand → Bool
 | .const v => z6z v
 | _ => true
def q6K (n : Nat) (o : Oper) : Bool :=
 o.op.operands.all q76 && (match o.dst with | some d => decide (d < n) | none => true)
def w8 (gl : Nat → Option (Ty × C)) (s : S) : Operand → V
 | .tmp t => s.get t
 | .const v => y0r v
 | .global g => match gl g with
  | some (τ, c) => .cptr τ c
  | none => .any
 | .func f => .fn f []
def c5 (md : List (Nat × Nat)) (d : Nat) : Nat := (look md d).getD 0
def S.add (s : S) (lo : List (Key × O)) (tn : List (Nat × Option Nat)) : S := { s with loc := lo ++ s.loc, tk := tn ++ s.tk }
def q3E : List (Key × O) → Bool
 | [] => true
 | (.l _, _) :: l => q3E l
 | (.g _, _) :: _ => false
def q6D (P : Program) (s : S) (t' : TypeId) (eb : Nat) (e : Ty) (Y : V) (K : List C → Prop) : Prop :=
 match ty P t' with
 | .slice _ _ => (match Y with
  | .nilc => K []
  | Y => match Y3 s Y with
   | some (eb', e', ys) => eb' = eb ∧ e' = e ∧ K ys
   | none => False)
 | .str => e = .int .u8 ∧ eb = 1 ∧ Y.isStr ∧ K (Y.toStr.map fun b => C.int b.toNat)
 | _ => False
theorem q50 {P : Program} (hP : u3 P = true) {s : S} {t' : TypeId} {eb : Nat} {e : Ty} {Y : V} {K : List C → Prop} (h : q6D P s t' eb e Y K) : ∃ ys, K ys ∧ q6Z P s t' eb e Y ys := by
 unfold q6D at h
 split at h
 ·rename_i eb0 e0 ht
  obtain ⟨E, hu, _⟩ := q01 hP ht
  split at h
  ·exact ⟨[], h, .inl ⟨⟨E, hu⟩, .inr ⟨rfl, rfl⟩⟩⟩
  ·split at h
   ·rename_i eb' e' ys he
    obtain ⟨rfl, rfl, hK⟩ := h
    exact ⟨ys, hK, .inl ⟨⟨E, hu⟩, .inl he⟩⟩
   ·exact h.elim
 ·rename_i ht
  obtain ⟨h1, h2, h3, hK⟩ := h
  exact ⟨_, hK, .inr ⟨q5Y ht, h3, h1, h2, rfl⟩⟩
 ·exact h.elim
def q8m (X : Cx) (f : FuncId) (xs : List V) (v : V) : Prop :=
 ∀ (Γ : G) (w : World) (args : Array Value), xs.length = args.size → (∀ (i : Nat) x u, xs[i]? = some x → args[i]? = some u → q9 Γ x u) → ∃ u, (callFunc f args).run X.P w = .ok (.value u) w ∧ q9 Γ v u
mutual
def V.pks : V → List Key
 | .ptr k _ _ | .mp k => [k]
 | .sr k _ _ _ (some _) _ _ => [k]
 | .agg _ vs => V.q4I vs
 | _ => []
def V.q4I : List V → List Key
 | [] => []
 | x :: xs => x.pks ++ V.q4I xs
end
def q31 : Nat → List (Key × O) → List Key → List (Key × O)
 | 0, _, _ => []
 | n + 1, loc, ks => ks.flatMap fun k => match z7 loc k with
  | some o => (k, o) :: (match o with | .box x => q31 n loc x.pks | _ => [])
  | none => []
def S.see (base s : S) (xs : List V) : S := { base with loc := q31 3 s.loc (V.q4I xs) ++ base.loc }
def y48 (y : V) (q : List Nat) (t τ : Ty) (K : V → Prop) : Prop :=
 match y, t with
 | .d (.arr M e) c, .arr m e' => q ≠ [] ∧ e' = e ∧ τ = e ∧ (Ty.arr m e).known = true ∧ q.getLastD 0 + m ≤ M ∧ K (.d (.arr m e) (.agg ((c.elems.drop (q.getLastD 0)).take m)))
 | _, _ => False
noncomputable def iop (X : Cx) (md : List (Nat × Nat)) (base : S) (dst : Nat) (o : Oper) (ρ : Operand → V) (s : S) (K : V → List (Key × O) → List (Nat × Option Nat) → Prop) : Prop :=
 match o.op with
 | .load T x => if c5 md dst = 18 then (match ρ x with
   | .ptr k q τ => (match s.obj k with
     | some (.box y) => y48 (y.at q.dropLast) q (ty X.P T) τ fun v => K v [] []
     | _ => False)
   | _ => False)
  else (match ρ x with
   | .ptr k q τ => (match s.obj k with
     | some (.box y) => y.at q ≠ .any ∧ τ = ty X.P T ∧ τ.known = true ∧ K (view (y.at q)) [] []
     | _ => False)
   | .cptr τ c => τ = ty X.P T ∧ τ.known = true ∧ K (.d τ c) [] []
   | _ => False)
 | .alloc T => Q0 X.P T = true ∧ K (.ptr (.l dst) [] (ty X.P T)) [(.l dst, z58 (ty X.P T) T)] []
 | .box _ x => if c5 md dst = 5 then (ρ x).plain = true ∧ (match b9 (ρ x) with
    | some cc => K (.cptr (ρ x).ty cc) [] []
    | none => False)
   else (ρ x).plain = true ∧ (ρ x).r8 = true ∧ K (.ptr (.l dst) [] (ρ x).ty) [(.l dst, .box (ρ x))] []
 | .buildSlice t len parts => (match ty X.P t with
   | .slice eb e => (match len with
    | 0 => parts.toList.length = 0 ∧ K (.emp eb e) [] []
    | len + 1 => Q0 X.P (v7 X.P t) = true ∧ e.size ≠ 0 ∧ (len + 1) * e.size ≤ 16777216 ∧ (len + 1) * eb ≤ 140737488355328 ∧ parts.toList.map (·.1) = List.range (len + 1) ∧
      (match q0i (parts.toList.map fun x => ρ x.2) with
       | some cs => (∀ x ∈ parts.toList.map (fun x => ρ x.2), x.ty = e ∧ x.plain = true) ∧ (if c5 md dst = 4 then K (.sl eb e cs dst) [] [(dst, some cs.length)] else K (.d (.slice eb e) (.slice cs)) [] [])
       | none => False))
   | _ => False)
 | .build T parts => Q0 X.P T = true ∧ (ty X.P T).J4 = true ∧ (ty X.P T).isAgg = true ∧ q5A (ty X.P T) (j3 (ty X.P T)) (parts.toList.map fun p => (p.1, ρ p.2)) ∧
   K (q36 (ty X.P T) (j3 (ty X.P T)) (parts.toList.map fun p => (p.1, ρ p.2))) [] []
 | .makeSlice t l c => (match ty X.P t with
   | .slice eb e => Q0 X.P (v7 X.P t) = true ∧ (ρ l).Z7 ∧ (ρ c).Z7 ∧ 0 ≤ (ρ l).toInt ∧ (ρ l).toInt ≤ (ρ c).toInt ∧ (ρ c).toInt ≤ 9223372036854775807 ∧ (ρ c).toInt.toNat * eb ≤ 140737488355328 ∧ e.size ≠ 0 ∧
     K (.sr (.l dst) [] 0 (ρ l).toInt.toNat (if c5 md dst = 9 then none else some (ρ c).toInt.toNat) eb e) [(.l dst, .box (.d (.arr (ρ l).toInt.toNat e) (.agg (List.replicate (ρ l).toInt.toNat (Y6 e)))))] []
   | _ => False)
 | .makeMap T r => (match r, q2c X.P T with
   | none, some (kt, et) => K (.mp (.l dst)) [(.l dst, .map (ty X.P kt) (ty X.P et) [])] []
   | _, _ => False)
 | .lookup T x i ok => (match q2c X.P T, ρ x with
   | some (kt, et), .mp k => (match s.obj k with
     | some (.map kτ _ es) => kτ = ty X.P kt ∧ H3 X.P kt = true ∧ Q0 X.P et = true ∧ (ρ i).Z1 kτ ∧
       K (if ok then .tup [q2V X.P et es (ρ i).toC, .d .bool (.bool (q1f es (ρ i).toC).isSome)] else q2V X.P et es (ρ i).toC) [] []
     | _ => False)
   | _, _ => False)
 | .call c => (match c.callee with
   | .value fo => (match ρ fo with
     | .fn f caps => (W7 X.P f = true ∧ c.argTypes.toList.length = c.args.toList.length ∧
      ∃ b v L, (b = base ∨ b = base.see s (Q9 (c.args.toList.map ρ) caps)) ∧ p8 X f (Z2 X.P false s (q3v c.argTypes.toList caps) (Q9 (c.args.toList.map ρ) caps)) b.up v L ∧ q3E L = true ∧
       K ((v.X3 2000).ren (dn dst) (rk dst)) (dnL dst L) (dnT dst (v.tkR 2000))) ∨
      (caps = [] ∧ ∃ v, q8m X f (c.args.toList.map ρ) v ∧ K v [] []) ∨
      (caps = [] ∧ W7 X.P f = true ∧ ∃ v, q2k (c.args.toList.map fun y => q0Q s (ρ y)) = true ∧ p8 X f (c.args.toList.map fun y => q0Q s (ρ y)) (fun _ => none) v [] ∧ v.H6 = true ∧ K v [] [])
     | _ => False)
   | .builtin .append => (match c.args.toList, c.argTypes.toList with
     | [x, y], [t, t'] => Q0 X.P (v7 X.P t) = true ∧ (match ty X.P t, ρ x with
       | .slice eb e, .emp _ _ => q6D X.P s t' eb e (ρ y) fun ys => if c5 md dst = 3 then ys ≠ [] ∧ K (.sr (.l dst) [] 0 ys.length none eb e) [(.l dst, .box (.d (.arr ys.length e) (.agg ys)))] [] else K (.sl eb e ys dst) [] [(dst, some ys.length)]
       | .slice eb e, .nilc => q6D X.P s t' eb e (ρ y) fun ys => if c5 md dst = 3 then ys ≠ [] ∧ K (.sr (.l dst) [] 0 ys.length none eb e) [(.l dst, .box (.d (.arr ys.length e) (.agg ys)))] [] else K (.sl eb e ys dst) [] [(dst, some ys.length)]
       | _, _ => False)
     | _, _ => False)
   | .builtin .len => (match c.args.toList, c.argTypes.toList with
     | [x], [T] => (match ρ x with
       | .mp k => (match q2c X.P T, s.obj k with
         | some _, some (.map _ _ es) => es.length ≤ 9223372036854775807 ∧ K (.d (.int .i64) (.int es.length)) [] []
         | _, _ => False)
       | _ => pv X.P o.op ρ fun y => K y [] [])
     | _, _ => pv X.P o.op ρ fun y => K y [] [])
   | _ => pv X.P o.op ρ fun y => K y [] [])
 | .convert src dst' x => (match strOf X.P s src dst' (ρ x) with
   | some ys => K (.d .str (.str (ys.map q69))) [] []
   | none => pv X.P o.op ρ fun y => K y [] [])
 | _ => pv X.P o.op ρ fun y => K y [] []
structure Compat (s' s base : S) : Prop where
 obj : ∀ k o, s.obj k = some o → s'.obj k ≠ none → s'.obj k = some o
 base : ∀ k o, base.obj k = some o → s'.obj k = some o
structure z8w (s : S) (lo : List (Key × O)) (tn : List (Nat × Option Nat)) : Prop where
 l : ∀ k o, z7 lo k = some o → s.obj k = none
 t : ∀ t x, look tn t = some x → s.known t = false
section
variable {X : Cx} {Γ : G} {w : World} {s : S}
theorem Compat.getObj {s' base : S} (h : Compat s' s base) (c : y9 Γ w s') {k : Key} {o : O} (hι : Γ.ι k ≠ none) (ho : s.obj k = some o) : s'.obj k = some o := h.obj k o ho (c.dom k hι)
theorem q5w {s' base : S} (h : Compat s' s base) (c : y9 Γ w s') {x : V} {v : Value} {r : Nat × Ty × List C} (hr : q9 Γ x v) (he : Y3 s x = some r) : ∃ x', q9 Γ x' v ∧ (x' = .nilc → x = .nilc) ∧ Y3 s' x' = some r := by
 cases x <;> (try exact ⟨_, hr, id, he⟩)
 case sr k q lo n cp eb e =>
  rcases q0x hr with ⟨_, rfl, a, rfl⟩ | ⟨b, τ0, o, m, cap, a, hι, _⟩
  ·refine ⟨.emp eb e, q2D, (fun h => by cases h), ?_⟩
   simp only [Y3] at he
   split at he
   ·split at he
    ·rw [← he]; simp [Y3, V.q1l]
    ·cases he
   ·cases he
  ·refine ⟨_, hr, id, ?_⟩
   simp only [Y3] at he ⊢
   cases ho : s.obj k with
   | none => simp [ho] at he
   | some o =>
    rw [h.getObj c (by rw [hι]; simp) ho]
    rw [ho] at he; exact he
theorem z8E {P : Program} {s' base : S} (h : Compat s' s base) (c : y9 Γ w s') {src dst : TypeId} {Y : V} {v : Value} {ys : List C} (hr : q9 Γ Y v) (he : strOf P s src dst Y = some ys) : ∃ Y', q9 Γ Y' v ∧ strOf P s' src dst Y' = some ys := by
 cases hel : Y3 s Y with
 | some r =>
  obtain ⟨Y', h1, h2, h3⟩ := q5w h c hr hel
  by_cases hY : Y = .nilc
  ·subst hY; exact ⟨_, hr, he⟩
  refine ⟨Y', h1, ?_⟩
  rw [← he]
  unfold strOf
  have hY' : Y' ≠ .nilc := fun e => hY (h2 e)
  rw [hel, h3]
  cases Y <;> first | exact absurd rfl hY | (cases Y' <;> first | exact absurd rfl hY' | rfl)
 | none =>
  refine ⟨_, hr, ?_⟩
  unfold strOf at he ⊢
  rw [hel] at he
  split at he
  ·split at he
   ·rename_i h0
    rw [if_pos h0]
    split at he
    ·exact he
    ·cases he
   ·cases he
  ·cases he
theorem q4A {P : Program} {s' base : S} (h : Compat s' s base) (c : y9 Γ w s') {t' : TypeId} {eb : Nat} {e : Ty} {Y : V} {v : Value} {ys : List C} (hr : q9 Γ Y v) (he : q6Z P s t' eb e Y ys) : ∃ Y', q9 Γ Y' v ∧ q6Z P s' t' eb e Y' ys := by
 rcases he with ⟨h1, h2 | h2⟩ | h1
 ·obtain ⟨Y', a, _, b⟩ := q5w h c hr h2
  exact ⟨Y', a, .inl ⟨h1, .inl b⟩⟩
 ·exact ⟨_, hr, .inl ⟨h1, .inr h2⟩⟩
 ·exact ⟨_, hr, .inr h1⟩
theorem y1l {P : Program} (s s' : S) (T : TypeId) (x : V) : H8 P false s T x = H8 P false s' T x := by
 cases x <;> simp [H8]
theorem q48 {P : Program} (s s' : S) : ∀ (Ts : List TypeId) (xs : List V), Z2 P false s Ts xs = Z2 P false s' Ts xs
 | [], _ => rfl
 | _ :: _, [] => rfl
 | T :: Ts, x :: xs => by simp only [Z2, y1l s s', q48 s s' Ts xs]
theorem q4J (s : S) : ∀ (xs : List V), Q5 false s xs = []
 | [] => rfl
 | x :: xs => by
  have : Y0 false s x = none := by cases x <;> simp [Y0]
  simp [Q5, this, q4J s xs]
theorem z4y : ∀ {L : List (Key × O)} {k : Key} {o : O}, q3E L = true → z7 L (.g k) = some o → False
 | [], _, _, _, h => by simp [z7] at h
 | (.l n, _) :: L, k, o, hl, h => by simp [z7] at h; exact z4y (L := L) (by simpa [q3E] using hl) h
 | (.g _, _) :: _, _, _, hl, _ => by simp [q3E] at hl
theorem z88 (d : Nat) : ∀ {L : List (Key × O)} {j : Nat} {o : O}, q3E L = true → z7 L (.l j) = some o → z7 (dnL d L) (.l (rk d j)) = some (o.ren (dn d))
 | [], _, _, _, h => by simp [z7] at h
 | (.l n, o') :: L, j, o, hl, h => by
  simp only [z7] at h
  simp only [dnL, z7, dn]
  by_cases e : n = j
  ·subst e; simp at h; subst h; simp
  ·have e1 : Key.l n ≠ .l j := by intro h; cases h; exact e rfl
   have e2 : Key.l (rk d n) ≠ .l (rk d j) := by intro h; simp [rk] at h; exact e h
   rw [if_neg e1] at h
   rw [if_neg e2]
   exact z88 d (L := L) (by simpa [q3E] using hl) h
 | (.g _, _) :: _, _, _, hl, _ => by simp [q3E] at hl
theorem y00 (d : Nat) (l : List (Nat × Option Nat)) (m : Nat) : look (dnT d l) (rk d m) = look l m := by rw [q9K, q5l]
def y3m (X : Cx) (base : S) (o : Oper) (ρ : Operand → V) (s : S) (v : V) (lo : List (Key × O)) (tn : List (Nat × Option Nat)) : Prop :=
 ∀ (Γ : G) (w : World) (a : Act) (s' : S), Γ.gl = X.gl → y9 Γ w s' → Compat s' s base → z8w s' lo tn → (∀ y ∈ o.op.operands, q9 Γ (ρ y) (a.eval y)) → s9 X.P o a w (o9 Γ w (s'.add lo tn) v)
theorem y7I (hP : u3 X.P = true) {o : Oper} {ρa : Operand → V} {K : V → Prop} (h : pv X.P o.op ρa K) :
  ∃ v, K v ∧ ∀ (Γ : G) (w : World) (a : Act) (s' : S), y9 Γ w s' → (∀ y ∈ o.op.operands, q9 Γ (ρa y) (a.eval y)) → s9 X.P o a w (o9 Γ w s' v) := by
 obtain ⟨v, hK, hs⟩ := y5k hP h
 refine ⟨v, hK, fun Γ w a s' c hr => ?_⟩
 obtain ⟨u, h1, h2⟩ := hs Γ w a.eval hr
 exact s9.val h1 (o9.same c h2)
mutual
theorem z54 {Γ : G} : ∀ {x : V} {hm : Option Key} {p : List Nat} {vs : List Value}, q8 Γ hm p x vs → ∀ k ∈ x.pks, Γ.ι k ≠ none
 | .ptr k0 q τ, _, _, _, h, k, hk => by
  simp only [V.pks, List.mem_singleton] at hk; subst hk
  simp only [q8] at h
  obtain ⟨b, τ0, o, h1, _⟩ := h
  rw [h1]; simp
 | .mp k0, _, _, _, h, k, hk => by
  simp only [V.pks, List.mem_singleton] at hk; subst hk
  simp only [q8] at h
  obtain ⟨b, h1, _⟩ := h
  rw [h1]; simp
 | .sr k0 q lo n (some c) eb e, _, _, _, h, k, hk => by
  simp only [V.pks, List.mem_singleton] at hk; subst hk
  simp only [q8] at h
  rcases h with ⟨h, _⟩ | ⟨b, τ0, o, m, cap, h1, _⟩
  ·cases h
  ·rw [h1]; simp
 | .agg τ xs, _, _, _, h, k, hk => by
  simp only [V.pks] at hk
  simp only [q8] at h
  exact z8Y h.2.2.2.2 k hk
 | .sr _ _ _ _ none _ _, _, _, _, _, k, hk | .d _ _, _, _, _, _, k, hk | .sl _ _ _ _, _, _, _, _, k, hk | .ts _ _ _, _, _, _, _, k, hk | .emp _ _, _, _, _, _, k, hk | .nilc, _, _, _, _, k, hk | .cptr _ _, _, _, _, _, k, hk | .fn _ _, _, _, _, _, k, hk | .tup _, _, _, _, _, k, hk | .top _, _, _, _, _, k, hk | .any, _, _, _, _, k, hk => by simp [V.pks] at hk
theorem z8Y {Γ : G} : ∀ {xs : List V} {hm : Option Key} {p : List Nat} {i : Nat} {τ : Ty} {vs : List Value}, x9 Γ hm p i τ xs vs → ∀ k ∈ V.q4I xs, Γ.ι k ≠ none
 | [], _, _, _, _, _, _, k, hk => by simp [V.q4I] at hk
 | x :: xs, _, _, _, _, _, h, k, hk => by
  simp only [V.q4I, List.mem_append] at hk
  simp only [x9] at h
  obtain ⟨⟨o, f, _, _, _, h1⟩, h2⟩ := h
  rcases hk with hk | hk
  ·exact z54 h1 k hk
  ·exact z8Y h2 k hk
end
theorem y5o {Γ : G} {x : V} {v : Value} (h : q9 Γ x v) : ∀ k ∈ x.pks, Γ.ι k ≠ none := by
 cases x with
 | any => intro k hk; simp [V.pks] at hk
 | tup => intro k hk; simp [V.pks] at hk
 | _ => exact z54 h.1
theorem z8Z : ∀ {xs : List V} {k : Key}, k ∈ V.q4I xs → ∃ x ∈ xs, k ∈ x.pks
 | [], _, h => by simp [V.q4I] at h
 | x :: xs, k, h => by
  simp only [V.q4I, List.mem_append] at h
  rcases h with h | h
  ·exact ⟨x, by simp, h⟩
  ·obtain ⟨y, h1, h2⟩ := z8Z h
   exact ⟨y, by simp [h1], h2⟩
theorem z7d {s : S} {k : Key} {o : O} (h : z7 s.loc k = some o) : s.obj k = some o := by
 unfold S.obj Z3; rw [h]
theorem q9M : ∀ {l : List (Key × O)} {k : Key} {o : O}, z7 l k = some o → (k, o) ∈ l
 | [], _, _, h => by simp [z7] at h
 | (j, x) :: l, k, o, h => by
  simp only [z7] at h
  split at h
  ·rename_i e; subst e; cases h; exact List.mem_cons_self ..
  ·exact List.mem_cons_of_mem _ (q9M h)
theorem z6V {s' base : S} (hc : Compat s' s base) (c : y9 Γ w s') : ∀ (n : Nat) (ks : List Key), (∀ k ∈ ks, Γ.ι k ≠ none) → ∀ p ∈ q31 n s.loc ks, s'.obj p.1 = some p.2
 | 0, _, _, p, hp => by simp [q31] at hp
 | n + 1, ks, hk, p, hp => by
  simp only [q31, List.mem_flatMap] at hp
  obtain ⟨k, h1, hp⟩ := hp
  split at hp
  ·rename_i o ho
   have hs : s'.obj k = some o := hc.getObj c (hk k h1) (z7d ho)
   rcases List.mem_cons.1 hp with rfl | hp
   ·exact hs
   ·cases o with
    | box x =>
     have hks : ∀ k ∈ x.pks, Γ.ι k ≠ none := by
      rcases c.obj k _ hs with ⟨_, e, hv⟩ | ⟨b, cells, T, _, _, _, _, _, hr, _⟩
      ·subst hv; intro k hk; simp [V.pks] at hk
      ·exact z54 hr
     exact z6V hc c n x.pks hks p hp
    | _ => simp at hp
  ·simp at hp
theorem y8i {s' base : S} (hc : Compat s' s base) (c : y9 Γ w s') {xs : List V} (hx : ∀ x ∈ xs, ∃ v, q9 Γ x v) {k : Key} {o : O} (h : (base.see s xs).obj k = some o) : s'.obj k = some o := by
 unfold S.obj S.see Z3 at h
 simp only [q08] at h
 cases hl : z7 (q31 3 s.loc (V.q4I xs)) k with
 | some o' =>
  rw [hl] at h
  cases h
  refine z6V hc c 3 (V.q4I xs) (fun k hk => ?_) (k, o) (q9M hl)
  obtain ⟨x, h1, h2⟩ := z8Z hk
  obtain ⟨v, hv⟩ := hx x h1
  exact y5o hv k h2
 | none =>
  rw [hl] at h
  exact hc.base k o h
theorem z7z : ∀ {l : List V} {i : Nat} {x : V}, q2k l = true → l[i]? = some x → ∃ τ c, x = .d τ c
 | [], i, x, _, h => by simp at h
 | y :: l, 0, x, hl, h => by
  simp only [q2k, Bool.and_eq_true] at hl
  simp at h; subst h
  cases y <;> simp at hl
  exact ⟨_, _, rfl⟩
 | y :: l, i + 1, x, hl, h => by
  simp only [q2k, Bool.and_eq_true] at hl
  exact z7z hl.2 (by simpa using h)
theorem y62 {s' base : S} (hc : Compat s' s base) (c : y9 Γ w s') {gl : Nat → Option (Ty × C)} {x : V} {v : Value} (hr : q9 Γ x v) (hd : ∃ τ cc, q0Q s x = .d τ cc) : q9 (G.q5v w gl) (q0Q s x) v := by
 obtain ⟨τ, cc, hd⟩ := hd
 rw [hd]
 cases x <;> first
  | exact y5b (s := s') c gl hr hd
  | (simp only [q0Q] at hd
     split at hd
     ·rename_i he
      cases hd
      obtain ⟨x', h1, _, h2⟩ := q5w hc c hr he
      exact z5e c gl h1 h2
     ·cases hd)
theorem q8i (hP : u3 X.P = true) {md : List (Nat × Nat)} {base : S} {dst : Nat} {o : Oper} {ρa : Operand → V} {K : V → List (Key × O) → List (Nat × Option Nat) → Prop} (h : iop X md base dst o ρa s K) :
  ∃ v lo tn, K v lo tn ∧ y3m X base o ρa s v lo tn := by
 have viaPv : (pv X.P o.op ρa fun y => K y [] []) → ∃ v lo tn, K v lo tn ∧ y3m X base o ρa s v lo tn := by
  intro h
  obtain ⟨v, hK, hd⟩ := y7I hP h
  exact ⟨v, [], [], hK, fun Γ w a s' _ c _ _ hr => hd Γ w a s' c hr⟩
 unfold iop at h
 split at h
 ·-- load
  rename_i T x ho
  split at h
  ·split at h
   ·rename_i k q τ hx
    split at h
    ·rename_i y hobj
     unfold y48 at h
     split at h
     ·rename_i y0 t0 M e cc m e' hat ht
      obtain ⟨hq, rfl, rfl, hk, hlo, hK⟩ := h
      refine ⟨_, _, _, hK, fun Γ w a s' _ c hc _ hr => ?_⟩
      have hxr := hr x (by rw [ho]; simp [Op.operands])
      rw [hx] at hxr
      obtain ⟨b, τ0, o0, hι, _⟩ := q0e hxr
      have hq2 : q = q.dropLast ++ [q.getLastD 0] := by
       rw [List.getLastD_eq_getLast?, List.getLast?_eq_some_getLast hq, Option.getD_some]
       exact (List.dropLast_concat_getLast hq).symm
      rw [hq2] at hxr
      obtain ⟨u, r1, r2⟩ := y5A (T := T) hP c hxr (hc.getObj c (by rw [hι]; simp) hobj) hat ht hk hlo
      exact s9.val (by unfold execOp; simp [ho, r1]) (o9.same c r2)
     ·exact h.elim
    ·exact h.elim
   ·exact h.elim
  split at h
  ·rename_i k q τ hx
   split at h
   ·rename_i y hobj
    obtain ⟨h1, h2, h3, hK⟩ := h
    refine ⟨_, _, _, hK, fun Γ w a s' _ c hc _ hr => ?_⟩
    have hxr := hr x (by rw [ho]; simp [Op.operands])
    rw [hx] at hxr
    obtain ⟨b, τ0, o0, hι, _⟩ := q0e hxr
    obtain ⟨u, r1, r2⟩ := z3D (T := T) hP c hxr (hc.getObj c (by rw [hι]; simp) hobj) h1 h2 h3
    exact s9.val (by unfold execOp; simp [ho, r1]) (o9.same c r2)
   ·exact h.elim
  ·rename_i τ cc hx
   obtain ⟨h2, h3, hK⟩ := h
   refine ⟨_, _, _, hK, fun Γ w a s' _ c hc _ hr => ?_⟩
   have hxr := hr x (by rw [ho]; simp [Op.operands])
   rw [hx] at hxr
   obtain ⟨u, r1, r2⟩ := y3S (T := T) hP c hxr h2 h3
   exact s9.val (by unfold execOp; simp [ho, r1]) (o9.same c r2)
  ·exact h.elim
 ·rename_i T ho
  obtain ⟨h1, hK⟩ := h
  exact ⟨_, _, _, hK, fun Γ w a s' _ c _ hf _ => y57 c ho (hf.l _ _ (q0z _ _ _)) h1⟩
 ·rename_i T x ho
  split at h
  ·obtain ⟨h1, h⟩ := h
   split at h
   ·rename_i cc hcc
    exact ⟨_, _, _, h, fun Γ w a s' _ c _ hf hr => y7N c ho (hr x (by rw [ho]; simp [Op.operands])) h1 hcc⟩
   ·exact h.elim
  ·obtain ⟨h1, h2, hK⟩ := h
   exact ⟨_, _, _, hK, fun Γ w a s' _ c _ hf hr => y8D c ho (hf.l _ _ (q0z _ _ _)) (hr x (by rw [ho]; simp [Op.operands])) h1 h2⟩
 ·-- buildSlice
  rename_i t len parts ho
  split at h
  ·rename_i eb e ht
   split at h
   ·obtain ⟨h1, hK⟩ := h
    have hp0 : parts = #[] := by apply Array.eq_empty_of_size_eq_zero; simpa using h1
    subst hp0
    exact ⟨_, _, _, hK, fun Γ w a s' _ c _ _ _ => z6w hP c ho ht⟩
   ·rename_i len
    obtain ⟨h1, h2, h3, h4, h5, h⟩ := h
    split at h
    ·rename_i cs hcs
     obtain ⟨h6, hK⟩ := h
     obtain ⟨l1, l2⟩ := q8J hcs
     have hl : cs.length = len + 1 := by rw [l1]; have := congrArg List.length h5; simpa using this
     have key : ∀ (Γ : G) (w : World) (a : Act) (s' : S), Γ.gl = X.gl → y9 Γ w s' → (∀ y ∈ o.op.operands, q9 Γ (ρa y) (a.eval y)) → ∀ (i : Nat) (x : Nat × Operand) (cc : C), parts.toList[i]? = some x → cs[i]? = some cc → q9 Γ (.d e cc) (a.eval x.2) := by
      intro Γ w a s' _ c hr i x cc hx hcc
      have hxm : (parts.toList.map fun x => ρa x.2)[i]? = some (ρa x.2) := by simp only [List.getElem?_map, hx]; rfl
      obtain ⟨t1, t2⟩ := h6 _ (List.mem_of_getElem? hxm)
      have hmem : x ∈ parts.toList := List.mem_of_getElem? hx
      have hrx := hr x.2 (by rw [ho]; simp only [Op.operands]; exact List.mem_toArray.2 (List.mem_map.2 ⟨x, hmem, rfl⟩))
      obtain ⟨q1, q2⟩ := (u0 t2).1 hrx
      have := q2j _ q1 (l2 i _ cc hxm hcc)
      rw [t1] at this q2
      exact Q4.2 ⟨this, q2⟩
     split at hK
     ·exact ⟨_, _, _, hK, fun Γ w a s' hg c _ hf hr => z6v hP c (hf.t _ _ (q3H _ _ _)) ho ht h1 (by omega) h2 h3 h4 h5 hl (key Γ w a s' hg c hr)⟩
     ·exact ⟨_, _, _, hK, fun Γ w a s' hg c _ _ hr => z71 hP c ho ht h1 (by omega) h2 h3 h4 h5 hl (key Γ w a s' hg c hr)⟩
    ·exact h.elim
  ·exact h.elim
 ·-- build
  rename_i T parts ho
  obtain ⟨h1, h2, h3, h4, hK⟩ := h
  refine ⟨_, _, _, hK, fun Γ w a s' _ c _ _ hr => ?_⟩
  obtain ⟨u, r1, r2⟩ := y56 (Γ := Γ) (w := w) (ev := a.eval) hP h1 h2 h3 (fun p hp => hr p.2 (by rw [ho]; simp only [Op.operands]; exact List.mem_toArray.2 (List.mem_map.2 ⟨p, hp, rfl⟩))) h4
  refine s9.val (v := u) (w' := w) ?_ (o9.same c r2)
  unfold execOp
  simp only [ho, Sem.run_bind, r1, Result.andThen_ok, Sem.run_pure]
 ·-- makeSlice
  rename_i t l cp ho
  split at h
  ·rename_i eb e ht
   obtain ⟨h1, h2, h3, h4, h5, h6, h7, h8, hK⟩ := h
   refine ⟨_, _, _, hK, fun Γ w a s' _ c _ hf hr => ?_⟩
   obtain ⟨k1, e1⟩ := z17 h2 (hr l (by rw [ho]; simp [Op.operands]))
   obtain ⟨k2, e2⟩ := z17 h3 (hr cp (by rw [ho]; simp [Op.operands]))
   exact y0g (L := ρa l) (Cp := ρa cp) (k1 := k1) (k2 := k2) (nl := (ρa l).toInt.toNat) (nc := (ρa cp).toInt.toNat) hP c ho ht h1 (hf.l _ _ (q0z _ _ _)) (by rw [e1, Int.toNat_of_nonneg h4]) (by rw [e2, Int.toNat_of_nonneg (by omega)]) (by omega) (by unfold maxLen; omega) h7 h8 (fun c h => by split at h <;> cases h; rfl)
  ·exact h.elim
 ·-- makeMap
  rename_i T r ho
  split at h
  ·rename_i kt et hT
   exact ⟨_, _, _, h, fun Γ w a s' _ c _ hf _ => y3a c ho (hf.l _ _ (q0z _ _ _))⟩
  ·exact h.elim
 ·-- lookup
  rename_i T x i ok ho
  split at h
  ·rename_i kt et k hT hx
   split at h
   ·rename_i kτ vτ es hobj
    obtain ⟨rfl, h1, h2, h3, hK⟩ := h
    refine ⟨_, _, _, hK, fun Γ w a s' _ c hc _ hr => ?_⟩
    have hxr := hr x (by rw [ho]; simp [Op.operands])
    rw [hx] at hxr
    obtain ⟨b, hι, _⟩ := q8V hxr
    have hir := hr i (by rw [ho]; simp [Op.operands])
    have hd : ρa i = .d (ty X.P kt) (ρa i).toC := by
     cases hi : ρa i <;> simp [hi, V.Z1] at h3
     subst h3; rfl
    rw [hd] at hir
    have := y4A hP c ho hT hxr hir (hc.getObj c (by rw [hι]; simp) hobj) h1 h2
    exact this
   ·exact h.elim
  ·exact h.elim
 ·-- calls
  rename_i cl ho
  obtain ⟨callee, args, ts⟩ := cl
  split at h
  ·rename_i fo hfo
   simp only at hfo h
   subst hfo
   split at h
   ·rename_i f caps hf
    rcases h with ⟨h1, h2, b, v, L, hB, D, hL, hK⟩ | ⟨rfl, v, E, hK⟩ | ⟨rfl, h1, v, hx, D, hv, hK⟩
    rotate_left
    ·refine ⟨_, _, _, hK, fun Γ w a s' hgl c hc hfr hr => ?_⟩
     have hrf := hr fo (by rw [ho]; simp [Op.operands, Call.operands])
     rw [hf] at hrf
     obtain ⟨cv, hfv, hcl, _⟩ := z2f hrf
     have hcv : cv = #[] := by apply Array.eq_empty_of_size_eq_zero; simpa using hcl.symm
     subst hcv
     obtain ⟨u, e1, e2⟩ := E Γ w (args.map a.eval) (by simp) fun i x u hx hu => by
      simp only [List.getElem?_map, Array.getElem?_map] at hx hu
      cases hy : args[i]? with
      | none => rw [hy] at hu; cases hu
      | some y =>
       have hy' : args.toList[i]? = some y := by simpa using hy
       rw [hy] at hu; rw [hy'] at hx
       cases hu; cases hx
       exact hr y (by rw [ho]; simp only [Op.operands, Call.operands]; exact Array.mem_append_right _ (Array.mem_of_getElem? hy))
     refine s9.val (v := u) (w' := w) ?_ (o9.same c e2)
     unfold execOp
     simp [ho, resolve, hfv, Deferred.ofValue, invoke, e1]
    ·refine ⟨_, _, _, hK, fun Γ w a s' hgl c hc hfr hr => ?_⟩
     have hrf := hr fo (by rw [ho]; simp [Op.operands, Call.operands])
     rw [hf] at hrf
     refine y7J hgl c ho h1 hrf (by simp) (fun i x y hx' hy => ?_) hx D hv
     simp only [List.getElem?_map] at hx'
     have hx2 := hx'
     rw [hy] at hx'
     cases hx'
     refine y62 hc c (hr y (by rw [ho]; simp only [Op.operands, Call.operands]; exact Array.mem_append_right _ (Array.mem_toList_iff.1 (List.mem_of_getElem? hy)))) (z7z hx (i := i) ?_)
     simp only [List.getElem?_map]
     exact hx2
    refine ⟨_, _, _, hK, fun Γ w a s' hgl c hc hfr hr => ?_⟩
    have hrf := hr fo (by rw [ho]; simp [Op.operands, Call.operands])
    rw [hf] at hrf
    rw [q48 s s'] at D
    have hbb : ∀ k o, b.obj k = some o → s'.obj k = some o := by
     intro k ob hk
     rcases hB with rfl | rfl
     ·exact hc.base k ob hk
     ·refine y8i hc c (fun x hx => ?_) hk
      simp only [Q9, List.mem_append, List.mem_map] at hx
      rcases hx with ⟨y, hy, rfl⟩ | hx
      ·exact ⟨_, hr y (by rw [ho]; simp only [Op.operands, Call.operands]; exact Array.mem_append_right _ (Array.mem_toList_iff.1 hy))⟩
      ·obtain ⟨cv, _, q1, q2⟩ := z2f hrf
       obtain ⟨i, hi⟩ := List.mem_iff_getElem?.1 hx
       have hlt : i < cv.toList.length := by rw [← q1]; exact (List.getElem?_eq_some_iff.1 hi).1
       exact ⟨_, q2 i x _ hi (List.getElem?_eq_getElem hlt)⟩
    have := y1P (tip := false) (A := b.up) (d := dst) rfl hgl c ho h1 h2 hrf (fun y hy => hr y (by rw [ho]; simp only [Op.operands, Call.operands]; exact Array.mem_append_right _ (Array.mem_toList_iff.1 hy))) (by rw [q4J]; rfl) D
     (fun k o hk => by
      simp only [S.up] at hk ⊢
      cases hb : b.obj k with
      | none => simp [hb] at hk
      | some ob => rw [hbb k ob hb]; rw [hb] at hk; exact hk)
     (fun k o hk => (z4y hL hk).elim) (fun j o hj => hfr.l _ _ (z88 dst hL hj)) (fun m x hm => hfr.t _ x (by rw [y00]; exact hm))
    have e : S.back s' false (Q9 (args.toList.map ρa) caps) dst v L = s'.add (dnL dst L) (dnT dst (v.tkR 2000)) := by
     simp [S.back, S.add, q4J, q3M]
    rw [← e]
    exact this
   ·exact h.elim
  ·rename_i hb
   simp only at hb h
   subst hb
   split at h
   ·rename_i x y t t' hargs hts
    have hargs' : args = #[x, y] := by cases args; simpa using hargs
    have hts' : ts = #[t, t'] := by cases ts; simpa using hts
    subst hargs'; subst hts'
    obtain ⟨h1, h⟩ := h
    split at h
    ·rename_i eb e eb0 e0 ht hx
     obtain ⟨ys, hK, hs⟩ := q50 hP h
     split at hK
     ·obtain ⟨hne, hK⟩ := hK
      refine ⟨_, _, _, hK, fun Γ w a s' _ c hc hf hr => ?_⟩
      have hyr := hr y (by rw [ho]; simp [Op.operands, Call.operands])
      have hxr := hr x (by rw [ho]; simp [Op.operands, Call.operands])
      obtain ⟨Y', hyr', hs'⟩ := q4A hc c hyr hs
      exact z0s hP c ho ht h1 (hf.l _ _ (q0z _ _ _)) hxr (.inr ⟨_, _, hx⟩) hyr' hs' hne
     ·refine ⟨_, _, _, hK, fun Γ w a s' _ c hc hf hr => ?_⟩
      have hyr := hr y (by rw [ho]; simp [Op.operands, Call.operands])
      have hxr := hr x (by rw [ho]; simp [Op.operands, Call.operands])
      obtain ⟨Y', hyr', hs'⟩ := q4A hc c hyr hs
      exact q8k hP c ho ht h1 (hf.t dst _ (q3H _ _ _)) hxr (.inr ⟨_, _, hx⟩) hyr' hs'
    ·rename_i eb e ht hx
     obtain ⟨ys, hK, hs⟩ := q50 hP h
     split at hK
     ·obtain ⟨hne, hK⟩ := hK
      refine ⟨_, _, _, hK, fun Γ w a s' _ c hc hf hr => ?_⟩
      have hyr := hr y (by rw [ho]; simp [Op.operands, Call.operands])
      have hxr := hr x (by rw [ho]; simp [Op.operands, Call.operands])
      obtain ⟨Y', hyr', hs'⟩ := q4A hc c hyr hs
      exact z0s hP c ho ht h1 (hf.l _ _ (q0z _ _ _)) hxr (.inl hx) hyr' hs' hne
     ·refine ⟨_, _, _, hK, fun Γ w a s' _ c hc hf hr => ?_⟩
      have hyr := hr y (by rw [ho]; simp [Op.operands, Call.operands])
      have hxr := hr x (by rw [ho]; simp [Op.operands, Call.operands])
      obtain ⟨Y', hyr', hs'⟩ := q4A hc c hyr hs
      exact q8k hP c ho ht h1 (hf.t dst _ (q3H _ _ _)) hxr (.inl hx) hyr' hs'
    ·exact h.elim
   ·exact h.elim
  ·rename_i hb
   simp only at hb h
   subst hb
   split at h
   ·rename_i x T hargs hts
    have hargs' : args = #[x] := by cases args; simpa using hargs
    have hts' : ts = #[T] := by cases ts; simpa using hts
    subst hargs'; subst hts'
    split at h
    ·rename_i k hx
     split at h
     ·rename_i pr kτ vτ es hT hobj
      obtain ⟨h1, hK⟩ := h
      refine ⟨_, _, _, hK, fun Γ w a s' _ c hc _ hr => ?_⟩
      have hxr := hr x (by rw [ho]; simp [Op.operands, Call.operands])
      rw [hx] at hxr
      obtain ⟨b, hι, _⟩ := q8V hxr
      exact y4B c ho (kt := pr.1) (et := pr.2) hT hxr (hc.getObj c (by rw [hι]; simp) hobj) h1
     ·exact h.elim
    ·exact viaPv h
   ·exact viaPv h
  ·exact viaPv h
 ·-- a string of bytes
  rename_i src dst' x ho
  split at h
  ·rename_i ys hys
   refine ⟨_, _, _, h, fun Γ w a s' _ c hc _ hr => ?_⟩
   have hxr := hr x (by rw [ho]; simp [Op.operands])
   obtain ⟨Y', hxr', hys'⟩ := z8E hc c hxr hys
   exact y55 hP c ho hys' hxr'
  ·exact viaPv h
 ·exact viaPv h
end
end Go.E
namespace Go.E
open Go
def C.isNil : C → Bool
 | .nil => true
 | _ => false
def q6j : Operand → Bool
 | .const .nilIface => true
 | _ => false
def y0y (P : Program) (src dst : TypeId) (x : V) : Option (List C) :=
 match ty P src, ty P dst with
 | .str, .slice eb e => if e.z9I = true ∧ eb = 1 then (match x with
  | .d .str c => some (c.toStr.map fun b => C.int b.toNat)
  | _ => none) else none
 | _, _ => none
def z5s (P : Program) (T : TypeId) : Bool :=
 match ty P T with
 | .iface | .opq _ => false
 | _ => true
noncomputable def fop (X : Cx) (o : Oper) (ρ : Operand → V) (K : V → Prop) : Prop :=
 match o.op with
 | .convert src dst x => (match y0y X.P src dst (ρ x) with
  | some ys => K (.d (.slice 1 (.int .u8)) (.slice ys))
  | none => False)
 | .makeInterface T _ => z5s X.P T = true ∧ K (.d .iface (.bool true))
 | .binOp op T x y _ => q6j y = true ∧ ty X.P T = .iface ∧ (match op, ρ x with
  | .eql, .d .iface c => K (.d .bool (.bool c.isNil))
  | .neq, .d .iface c => K (.d .bool (.bool (!c.isNil)))
  | _, _ => False)
 | _ => False
noncomputable def sl3 (X : Cx) (md : List (Nat × Nat)) (dst : Nat) (o : Oper) (ρ : Operand → V) (s : S) (K : V → S → Prop) : Prop :=
 match o.op with
 | .slice T x lo hi mx => c5 md dst = 4 ∧ s.known dst = false ∧ hi.isSome = true ∧ mx.isSome = true ∧ (match ty X.P T with
  | .slice eb e => (match (ρ x).q1l with
   | some (eb', e', cs) => eb' = eb ∧ e' = e ∧ (match o8 (lo.map ρ) 0, o8 (hi.map ρ) 0, o8 (mx.map ρ) 0 with
    | some l, some h, some m => l = 0 ∧ 0 ≤ h ∧ h = m ∧ m ≤ cs.length ∧ K (.sl eb e (cs.take h.toNat) dst) { s with tk := (dst, some (cs.take h.toNat).length) :: s.tk }
    | _, _, _ => False)
   | none => False)
  | _ => False)
 | _ => False
section
variable {X : Cx} {Γ : G} {w : World} {s : S}
theorem y0K {P : Program} {f : Nat} {T : TypeId} (h : tyF P (f + 1) T = .iface) : ∃ ms, P.underlying T = some (.interface ms) := by
 unfold tyF at h
 split at h
 ·cases hu : P.underlying T with
  | none => simp [hu] at h
  | some d => cases d <;> simp [hu] at h ⊢
 ·cases h
theorem y15 {P : Program} {T : TypeId} (h : z5s P T = true) : ∃ d, P.underlying T = some d ∧ ∀ ms, d ≠ .interface ms := by
 unfold z5s ty tyF at h
 split at h
 ·cases h
 ·cases h
 ·rename_i h1 h2
  split at h1
  ·cases hu : P.underlying T with
   | none => simp [hu] at h2
   | some d => exact ⟨d, rfl, fun ms e => by subst e; simp [hu] at h1⟩
  ·rename_i hn
   simp [hn] at h2
theorem z4m {c : C} {v : Value} (h : q9 Γ (.d .iface c) v) : (c = .nil ∧ v = .nilIface) ∨ (c = .bool true ∧ ∃ t u, v = .iface t u) := by
 obtain ⟨h1, h2⟩ := Q4.1 h
 rw [u4 (by simpa [Ty.isAgg] using h2)] at h1
 simp only [y4] at h1
 rcases h1 with ⟨rfl, h1⟩ | ⟨rfl, t, u, h1⟩
 ·simp at h1; exact .inl ⟨rfl, h1⟩
 ·simp at h1; exact .inr ⟨rfl, t, u, h1⟩
theorem z4h {P : Program} {T : TypeId} {ms : Array (String × TypeId)} (hu : P.underlying T = some (.interface ms)) {v : Value} (hv : v = .nilIface ∨ ∃ t u, v = .iface t u) (w : World) :
  (Op.equal T v .nilIface).run P w = .ok (match v with | .nilIface => true | _ => false) w := by
 unfold Op.equal Op.maxDepth
 rw [show (10000 : Nat) = 9999 + 1 from rfl, Op.equalIn, Sem.run_bind, run_underlying hu]
 rcases hv with rfl | ⟨t, u, rfl⟩ <;> rfl
theorem q5I {P : Program} {T : TypeId} {ms : Array (String × TypeId)} (hu : P.underlying T = some (.interface ms)) {x y : Operand} (hy : q6j y = true) {v : Value} (hv : v = .nilIface ∨ ∃ t u, v = .iface t u) (w : World) :
  ((do eqGuard .eql T x y v .nilIface; binOp .eql T v .nilIface) : Sem Value).run P w = .ok (.bool (match v with | .nilIface => true | _ => false)) w ∧
  ((do eqGuard .neq T x y v .nilIface; binOp .neq T v .nilIface) : Sem Value).run P w = .ok (.bool (!(match v with | .nilIface => true | _ => false))) w := by
 obtain ⟨z, rfl⟩ : ∃ z, y = .const z := by
  cases y with
  | const z => exact ⟨z, rfl⟩
  | _ => simp [q6j] at hy
 have he := z4h hu hv w
 rcases hv with rfl | ⟨t, u, rfl⟩
 ·constructor
  ·rw [eqGuard_nil_constR]
   show (do pure (.bool (← Op.equal T .nilIface .nilIface)) : Sem Value).run P w = _
   rw [Sem.run_bind, he]; rfl
  ·rw [eqGuard_nil_constR]
   show (do pure (.bool (!(← Op.equal T .nilIface .nilIface))) : Sem Value).run P w = _
   rw [Sem.run_bind, he]; rfl
 ·constructor
  ·show (do pure (.bool (← Op.equal T (.iface t u) .nilIface)) : Sem Value).run P w = _
   rw [Sem.run_bind, he]; rfl
  ·show (do pure (.bool (!(← Op.equal T (.iface t u) .nilIface))) : Sem Value).run P w = _
   rw [Sem.run_bind, he]; rfl
theorem y7L {P : Program} (hP : u3 P = true) (c : y9 Γ w s) {o : Oper} {a : Act} {src dst : TypeId} {x : Operand} (ho : o.op = .convert src dst x) {Y : V} {ys : List C} (h : y0y P src dst Y = some ys)
  (hr : q9 Γ Y (a.eval x)) : s9 P o a w (o9 Γ w s (.d (.slice 1 (.int .u8)) (.slice ys))) := by
 unfold y0y at h
 split at h
 ·rename_i eb e hs ht
  obtain ⟨E, hu, hE, _, _⟩ := q01 hP ht
  have hs' := q5Y hs
  split at h
  ·rename_i hc0
   obtain ⟨h0, rfl⟩ := hc0
   obtain rfl := Ty.z6g h0
   have hEu : P.underlying E = some (.int .u8) := z6N hE.symm
   split at h
   ·rename_i cc
    cases h
    obtain ⟨hv, _, hl⟩ := W1 hr
    have run := run_bytes_of_string (P := P) w src dst E ⟨cc.toStr.toArray⟩ hs' hu hEu
    have hsz : (⟨cc.toStr.toArray⟩ : ByteArray).size = cc.toStr.length := by simp [ByteArray.size]
    rw [hsz] at run
    have hge := grownCap_ge w cc.toStr.length 0 E
    have hcm := grownCap_le_maxLen w cc.toStr.length 0 E (by unfold maxLen; omega)
    generalize grownCap w cc.toStr.length 0 E = cap at run hge hcm
    have hrow : (bytesRow ⟨cc.toStr.toArray⟩ cap).toList = cc.toStr.map (fun b => Value.int .u8 b.toNat) ++ (List.replicate (cap - cc.toStr.length) (Value.int .u8 0)) := by
     simp [bytesRow, hsz]
    have hext : Ext w (w.drew.alloc (.cells (bytesRow ⟨cc.toStr.toArray⟩ cap) E ((bytesRow ⟨cc.toStr.toArray⟩ cap).size, (bytesRow ⟨cc.toStr.toArray⟩ cap).size + 1))) := (Ext.drew w).trans (Ext.alloc _ _)
    have hnew := heap_alloc_new w.drew (.cells (bytesRow ⟨cc.toStr.toArray⟩ cap) E ((bytesRow ⟨cc.toStr.toArray⟩ cap).size, (bytesRow ⟨cc.toStr.toArray⟩ cap).size + 1))
    obtain ⟨c1, p1, g1⟩ := c.q0X hext hnew hrow
    refine s9.val (v := .slice (some ⟨w.heap.size, 0, none⟩) cc.toStr.length cap) (w' := w.drew.alloc (.cells (bytesRow ⟨cc.toStr.toArray⟩ cap) E ((bytesRow ⟨cc.toStr.toArray⟩ cap).size, (bytesRow ⟨cc.toStr.toArray⟩ cap).size + 1))) ?_ ⟨_, g1, p1, c1, ?_⟩
    ·unfold execOp
     simp only [ho, hv, Sem.run_bind, run, Result.andThen_ok, Sem.run_pure]
    ·refine Q4.2 ⟨r6 (by simp) hge hcm (by omega) (.inr ⟨w.heap.size, 0, _, rfl, k7 _ _ _, by simp [Ty.size], fun i c' hi => ?_⟩), rfl⟩
     simp only [List.getElem?_map] at hi
     cases hb : cc.toStr[i]? with
     | none => rw [hb] at hi; cases hi
     | some b =>
      rw [hb] at hi
      cases hi
      have : chunk (cc.toStr.map (fun b => Value.int .u8 b.toNat)) (0 + i * (Ty.int IntKind.u8).size) (Ty.int IntKind.u8).size = [.int .u8 b.toNat] := by
       apply List.ext_getElem?
       intro j
       rw [s8]
       by_cases hj : j < 1
       ·have : j = 0 := by omega
        subst this
        simp [Ty.size, hb]
       ·simp [Ty.size, hj]
      rw [this]
      simp only [y4]
      refine ⟨_, rfl, rfl, ?_, ?_⟩
      ·have : IntKind.u8.min = 0 := by decide
       omega
      ·have : IntKind.u8.max = 255 := by decide
       have := b.toNat_lt
       omega
   ·cases h
  ·cases h
 ·cases h
theorem z7p (hP : u3 X.P = true) {o : Oper} {ρ : Operand → V} {K : V → Prop} (h : fop X o ρ K) :
  ∃ v, K v ∧ ∀ (Γ : G) (w : World) (a : Act) (s : S), y9 Γ w s → (∀ y ∈ o.op.operands, q9 Γ (ρ y) (a.eval y)) → s9 X.P o a w (o9 Γ w s v) := by
 unfold fop at h
 split at h
 ·rename_i src dst x ho
  split at h
  ·rename_i ys hys
   exact ⟨_, h, fun Γ w a s c hr => y7L hP c ho hys (hr x (by rw [ho]; simp [Op.operands]))⟩
  ·exact h.elim
 ·rename_i T x ho
  obtain ⟨h1, hK⟩ := h
  obtain ⟨d, hd, hni⟩ := y15 h1
  refine ⟨_, hK, fun Γ w a s c hr => s9.val (v := .iface T (a.eval x)) (w' := w) ?_ (o9.same c (Q4.2 ⟨?_, rfl⟩))⟩
  ·unfold execOp
   simp only [ho, Sem.run_bind, Instr.makeInterface, run_underlying hd]
   cases d <;> first
    | exact absurd rfl (hni _)
    | simp [Sem.run_pure, Result.andThen]
  ·simp only [Value.cells, y4]
   exact .inr ⟨trivial, _, _, rfl⟩
 ·rename_i op T x y yT ho
  obtain ⟨hy, hT, h⟩ := h
  obtain ⟨ms, hu⟩ := y0K (f := 11) hT
  have hyv : ∀ a : Act, a.eval y = .nilIface := fun a => by
   cases y with
   | const z => cases z <;> simp [q6j] at hy; rfl
   | _ => simp [q6j] at hy
  split at h
  ·rename_i cc hx
   refine ⟨_, h, fun Γ w a s c hr => ?_⟩
   have hxr := hr x (by rw [ho]; simp [Op.operands])
   rw [hx] at hxr
   rcases z4m hxr with ⟨rfl, hv⟩ | ⟨rfl, t, u, hv⟩
   ·refine s9.val (v := .bool true) (w' := w) ?_ (o9.same c (s6))
    unfold execOp
    simp only [ho, hyv, hv]
    have := (q5I (P := X.P) hu (x := x) hy (v := .nilIface) (.inl rfl) w).1
    simp only [Sem.run_bind] at this ⊢
    rw [this]
    rfl
   ·refine s9.val (v := .bool false) (w' := w) ?_ (o9.same c (s6))
    unfold execOp
    simp only [ho, hyv, hv]
    have := (q5I (P := X.P) hu (x := x) hy (v := .iface t u) (.inr ⟨_, _, rfl⟩) w).1
    simp only [Sem.run_bind] at this ⊢
    rw [this]
    rfl
  ·rename_i cc hx
   refine ⟨_, h, fun Γ w a s c hr => ?_⟩
   have hxr := hr x (by rw [ho]; simp [Op.operands])
   rw [hx] at hxr
   rcases z4m hxr with ⟨rfl, hv⟩ | ⟨rfl, t, u, hv⟩
   ·refine s9.val (v := .bool false) (w' := w) ?_ (o9.same c (s6))
    unfold execOp
    simp only [ho, hyv, hv]
    have := (q5I (P := X.P) hu (x := x) hy (v := .nilIface) (.inl rfl) w).2
    simp only [Sem.run_bind] at this ⊢
    rw [this]
    rfl
   ·refine s9.val (v := .bool true) (w' := w) ?_ (o9.same c (s6))
    unfold execOp
    simp only [ho, hyv, hv]
    have := (q5I (P := X.P) hu (x := x) hy (v := .iface t u) (.inr ⟨_, _, rfl⟩) w).2
    simp only [Sem.run_bind] at this ⊢
    rw [this]
    rfl
  ·exact h.elim
 ·exact h.elim
theorem y3A (hP : u3 X.P = true) {md : List (Nat × Nat)} {dst : Nat} {o : Oper} {ρa : Operand → V} {K : V → S → Prop} (h : sl3 X md dst o ρa s K) :
  ∃ v s1, K v s1 ∧ s1.A = s.A ∧ s1.env = s.env ∧ ∀ (Γ : G) (w : World) (a : Act), y9 Γ w s → (∀ y ∈ o.op.operands, q9 Γ (ρa y) (a.eval y)) → s9 X.P o a w (o9 Γ w s1 v) := by
 unfold sl3 at h
 split at h
 ·rename_i T x lo hi mx ho
  obtain ⟨_, hn, hhs, hms, h⟩ := h
  split at h
  ·rename_i eb e ht
   obtain ⟨E, hu, rfl, _, hE⟩ := q01 hP ht
   split at h
   ·rename_i eb' e' cs hx
    obtain ⟨rfl, rfl, h⟩ := h
    split at h
    ·rename_i l hh m hl hhi hm
     obtain ⟨rfl, h0, rfl, h2, hK⟩ := h
     refine ⟨_, _, hK, rfl, rfl, fun Γ w a c hr => ?_⟩
     rw [ho] at hr
     have r1 := hr x (by simp [Op.operands])
     have r2 : ∀ y, lo = some y → q9 Γ (ρa y) (a.eval y) := fun y e => hr y (by subst e; simp [Op.operands])
     have r3 : ∀ y, hi = some y → q9 Γ (ρa y) (a.eval y) := fun y e => hr y (by subst e; simp [Op.operands])
     have r4 : ∀ y, mx = some y → q9 Γ (ρa y) (a.eval y) := fun y e => hr y (by subst e; simp [Op.operands])
     obtain ⟨ad, n, cap, hv, hcs, hnc, hcap, hb, hrep⟩ := q00 r1 hx
     have hhn : hh.toNat ≤ n := by omega
     have b1 : lo.map a.eval = none ∧ (0 : Nat) = 0 ∨ ∃ k, lo.map a.eval = some (.int k ((0 : Nat) : Int)) := by
      rcases q2Q hl r2 with ⟨rfl, _⟩ | ⟨k, y, rfl, hy⟩
      ·exact .inl ⟨rfl, rfl⟩
      ·exact .inr ⟨k, hy⟩
     have b2 : ∃ k, hi.map a.eval = some (.int k (hh.toNat : Int)) := by
      rcases q2Q hhi r3 with ⟨rfl, _⟩ | ⟨k, y, rfl, hy⟩
      ·cases hhs
      ·exact ⟨k, by rw [hy, Int.toNat_of_nonneg h0]⟩
     have b3 : ∃ k, mx.map a.eval = some (.int k (hh.toNat : Int)) := by
      rcases q2Q hm r4 with ⟨rfl, _⟩ | ⟨k, y, rfl, hy⟩
      ·cases hms
      ·exact ⟨k, by rw [hy, Int.toNat_of_nonneg h0]⟩
     obtain ⟨km, b3⟩ := b3
     obtain ⟨c1, p1, g1⟩ := c.W4 hn (x := none) (L := (cs.take hh.toNat).length) (fun _ _ _ h => by cases h)
     have hlen : (cs.take hh.toNat).length = hh.toNat := by simp; omega
     have hcut := z3p hrep (Nat.zero_le hh.toNat) hhn
     have hrep' : y4 Γ.H (.slice eb' (tyF X.P 11 E)) [.slice (if hh.toNat = 0 then ad else ad.map (·.add (0 * (tyF X.P 11 E).size))) hh.toNat hh.toNat] (.slice (cs.take hh.toNat)) := by
      obtain ⟨a', n', cap', e1, _, e2, e3, e4, e5, e6⟩ := J9 hrep
      simp at e1
      obtain ⟨rfl, rfl, rfl⟩ := e1
      simp only [C.elems] at e2 e6
      refine r6 hlen (Nat.le_refl _) (by omega) (Nat.le_trans (Nat.mul_le_mul_right _ hhn) hb) ?_
      by_cases hz : hh.toNat = 0
      ·exact .inl hz
      ·rcases e6 with e6 | ⟨b, off, ll, rfl, hb', hs', hc⟩
       ·omega
       ·refine .inr ⟨b, off, ll, ?_, hb', ?_, fun i c' hi => ?_⟩
        ·rw [if_neg hz]
         simp [Addr.add]
        ·have : hh.toNat * (tyF X.P 11 E).size ≤ n * (tyF X.P 11 E).size := Nat.mul_le_mul_right _ hhn
         omega
        ·rw [List.getElem?_take] at hi
         split at hi
         ·exact hc _ _ hi
         ·cases hi
     refine s9.val (v := .slice (if hh.toNat = 0 then ad else ad.map (·.add (0 * (tyF X.P 11 E).size))) hh.toNat hh.toNat) (w' := w) ?_ ⟨_, g1, p1, c1, (s5 rfl rfl).2 ⟨?_, rfl⟩⟩
     ·unfold execOp
      simp only [ho, hv, Instr.sliceAt, Sem.run_bind, run_underlying hu, Result.andThen_ok, Instr.slice, b3]
      rw [q7n (n := n) (l := 0) (h := hh.toNat) (m := hh.toNat) b1 b2 (Nat.zero_le _) (Nat.le_refl _) (by omega)]
      simp [q0n (f := 11) hP (w := w) hE]
     ·simp only [q8]
      refine ⟨_, hh.toNat, hh.toNat, rfl, hrep'.mono p1.1, none, _, by simp [G.W4, Q8], Nat.le_refl _, fun _ => rfl⟩
    ·exact h.elim
   ·exact h.elim
  ·exact h.elim
 ·exact h.elim
end
end Go.E
