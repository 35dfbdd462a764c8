/-
 A framework for runs of Go code over abstract data: what it needs, and that it is sound, part 2.
 Conditions: none.
-/
import Derived.Test.YteaddgnjddjllaaEa
import Derived.Deep.AppendSrc
import Derived.Deep.Upon
import Derived.Great.FillDense
import Derived.Great.BuildSlice
set_option linter.all false
namespace Go.E
open Go
mutual
def Ty.y81 : Ty → Bool
 | .slice _ _ => false
 | .struct _ _ fs => Ty.z5l fs
 | .opq _ => false
 | _ => true
def Ty.z5l : List Ty → Bool
 | [] => true
 | f :: fs => f.y81 && Ty.z5l fs
end
mutual
def u7 : Ty → C
 | .int _ => .int 0
 | .bool => .bool false
 | .str => .str []
 | .slice _ _ => .slice []
 | .arr n e => .agg (List.replicate n (u7 e))
 | .struct _ _ fs => .agg (z0f fs)
 | _ => .nil
def z0f : List Ty → List C
 | [] => []
 | f :: fs => u7 f :: z0f fs
end
mutual
def Q5 : Ty → V
 | .slice eb e => .emp eb e
 | .struct sz os fs => if Ty.z5l fs then .d (.struct sz os fs) (.agg (z0f fs)) else .agg (.struct sz os fs) (q5L fs)
 | τ => .d τ (u7 τ)
def q5L : List Ty → List V
 | [] => []
 | f :: fs => Q5 f :: q5L fs
end
def q5i : Ty → Value → Bool
 | .int k, .int k' n => k == k' && n == 0
 | .bool, .bool b => !b
 | .str, .string s => s.data.toList.isEmpty
 | .slice _ _, .slice a n c => a.isNone && n == 0 && c == 0
 | .ptr, .pointer a => a.isNone
 | .map, .map r => r.isNone
 | .func, .nilFunc => true
 | .iface, .nilIface => true
 | _, _ => false
mutual
def F7 : Ty → List Value → Bool
 | .arr n e, vs => vs.length == n * e.size && vs.all (·.oneCell') && (List.range n).all fun i => F7 e (chunk vs (i * e.size) e.size)
 | .struct sz os fs, vs => vs.length == sz && vs.all (·.oneCell') && q2O fs os vs
 | τ, vs => match vs with | [v] => q5i τ v | _ => false
def q2O : List Ty → List Nat → List Value → Bool
 | [], _, _ => true
 | f :: fs, o :: os, vs => decide (o + f.size ≤ vs.length) && F7 f (chunk vs o f.size) && q2O fs os vs
 | _ :: _, [], _ => false
end
def U4 (P : Program) (T : TypeId) : Bool :=
 match (P.info? T).bind (·.zero) with
 | some z => F7 (ty P T) z.cells.toList && o9 z == (ty P T).isAgg && F7 (tyF P 11 T) z.cells.toList
 | none => false
theorem z8I (k : IntKind) : k.min ≤ 0 ∧ 0 ≤ k.max := by cases k <;> decide
theorem z9Z {H : Hp} {τ : Ty} {v : Value} (h : q5i τ v = true) : y8 H τ [v] (u7 τ) := by
 unfold q5i at h
 split at h <;> simp at h <;> simp only [y8, u7]
 ·obtain ⟨rfl, rfl⟩ := h
  exact ⟨0, rfl, rfl, (z8I _).1, (z8I _).2⟩
 ·subst h; exact ⟨false, rfl, rfl⟩
 ·rename_i s
  refine ⟨[], rfl, ?_, by simp⟩
  have : s = ⟨#[]⟩ := by
   apply ByteArray.ext; simpa using h
  rw [this]
 ·obtain ⟨⟨h1, rfl⟩, rfl⟩ := h
  exact ⟨_, 0, 0, [], rfl, rfl, rfl, Nat.le_refl _, by decide, by simp, .inl rfl⟩
 ·subst h; simp
 ·subst h; simp
 ·simp
 ·simp
mutual
theorem H6 {H : Hp} : ∀ {τ : Ty} {vs : List Value}, F7 τ vs = true → y8 H τ vs (u7 τ)
 | .arr n e, vs, h => by
  simp only [F7, Bool.and_eq_true, beq_iff_eq, List.all_eq_true, List.mem_range] at h
  simp only [y8, u7]
  refine ⟨_, rfl, by simp, h.1.1, h.1.2, fun i c hi => ?_⟩
  simp only [List.getElem?_replicate] at hi
  split at hi
  ·cases hi; exact H6 (h.2 i ‹_›)
  ·cases hi
 | .struct sz os fs, vs, h => by
  simp only [F7, Bool.and_eq_true, beq_iff_eq, List.all_eq_true] at h
  simp only [y8, u7]
  exact ⟨_, rfl, h.1.1, h.1.2, z4y h.2⟩
 | .int _, [v], h | .bool, [v], h | .str, [v], h | .slice _ _, [v], h | .ptr, [v], h | .map, [v], h | .func, [v], h | .iface, [v], h => by
  simp only [F7] at h
  exact z9Z h
 | .opq _, [v], h => by simp [F7, q5i] at h
 | .int _, [], h | .bool, [], h | .str, [], h | .slice _ _, [], h | .ptr, [], h | .map, [], h | .func, [], h | .iface, [], h | .opq _, [], h => by simp [F7] at h
 | .int _, _ :: _ :: _, h | .bool, _ :: _ :: _, h | .str, _ :: _ :: _, h | .slice _ _, _ :: _ :: _, h | .ptr, _ :: _ :: _, h | .map, _ :: _ :: _, h | .func, _ :: _ :: _, h | .iface, _ :: _ :: _, h | .opq _, _ :: _ :: _, h => by simp [F7] at h
theorem z4y {H : Hp} : ∀ {fs : List Ty} {os : List Nat} {vs : List Value}, q2O fs os vs = true → Q2 H fs os vs (z0f fs)
 | [], _, _, _ => by simp [Q2, z0f]
 | f :: fs, o :: os, vs, h => by
  simp only [q2O, Bool.and_eq_true, decide_eq_true_eq] at h
  simp only [Q2, z0f]
  exact ⟨_, _, rfl, h.1.1, H6 h.1.2, z4y h.2⟩
 | _ :: _, [], _, h => by simp [q2O] at h
end
theorem q5h : ∀ (τ : Ty), (Q5 τ).ty = τ
 | .struct sz os fs => by simp only [Q5]; split <;> simp [V.ty]
 | .slice _ _ => by simp [Q5, V.ty]
 | .int _ | .bool | .str | .ptr | .map | .func | .iface | .opq _ | .arr _ _ => by simp [Q5, V.ty]
theorem z1U : ∀ (fs : List Ty), (q5L fs).length = fs.length
 | [] => rfl
 | f :: fs => by simp [q5L, z1U fs]
theorem z4z : ∀ {fs : List Ty} {os : List Nat} {vs : List Value} {i : Nat} {f : Ty}, q2O fs os vs = true → fs[i]? = some f → ∃ o, os[i]? = some o ∧ o + f.size ≤ vs.length ∧ F7 f (chunk vs o f.size) = true
 | [], _, _, _, _, _, h => by simp at h
 | f :: fs, o :: os, vs, 0, g, h, hg => by
  simp only [q2O, Bool.and_eq_true, decide_eq_true_eq] at h
  simp at hg; subst hg
  exact ⟨o, rfl, h.1.1, h.1.2⟩
 | f :: fs, o :: os, vs, i + 1, g, h, hg => by
  simp only [q2O, Bool.and_eq_true, decide_eq_true_eq] at h
  obtain ⟨o', a, b, c⟩ := z4z h.2 (show fs[i]? = some g by simpa using hg)
  exact ⟨o', by simpa using a, b, c⟩
 | _ :: _, [], _, _, _, h, _ => by simp [q2O] at h
theorem q6Y (τ : Ty) : (Q5 τ).plain = true := by
 cases τ <;> simp only [Q5] <;> (try split) <;> rfl
mutual
theorem z5O : ∀ (τ : Ty), (Q5 τ).j8 = true
 | .struct sz os fs => by simp only [Q5]; split <;> simp [V.j8, z4x fs]
 | .slice _ _ => by simp [Q5, V.j8]
 | .int _ | .bool | .str | .ptr | .map | .func | .iface | .opq _ | .arr _ _ => by simp [Q5, V.j8]
theorem z4x : ∀ (fs : List Ty), V.U0 (q5L fs) = true
 | [] => rfl
 | f :: fs => by simp [q5L, V.U0, z5O f, z4x fs]
end
section
variable {Γ : G} {hm : Option Key}
mutual
theorem q9p : ∀ (τ : Ty) {p : List Nat} {vs : List Value}, F7 τ vs = true → z6 Γ hm p (Q5 τ) vs
 | .struct sz os fs, p, vs, h => by
  simp only [Q5]; split
  ·simp only [z6]; exact H6 (τ := .struct sz os fs) h
  ·simp only [F7, Bool.and_eq_true, beq_iff_eq, List.all_eq_true] at h
   simp only [z6]
   exact ⟨h.1.1, h.1.2, by simp [Ty.kids, z1U], rfl, z5N fs sz os fs 0 (fun i f hf => by simpa using hf) h.2⟩
 | .slice eb e, p, vs, h => by
  match vs, h with
  | [v], h =>
   simp only [F7] at h
   cases v <;> simp [q5i] at h
   obtain ⟨⟨rfl, rfl⟩, rfl⟩ := h
   simp only [Q5, z6]
   exact ⟨none, rfl⟩
  | [], h => simp [F7] at h
  | _ :: _ :: _, h => simp [F7] at h
 | .int k, p, vs, h => by simp only [Q5, z6]; exact H6 h
 | .bool, p, vs, h => by simp only [Q5, z6]; exact H6 h
 | .str, p, vs, h => by simp only [Q5, z6]; exact H6 h
 | .ptr, p, vs, h => by simp only [Q5, z6]; exact H6 h
 | .map, p, vs, h => by simp only [Q5, z6]; exact H6 h
 | .func, p, vs, h => by simp only [Q5, z6]; exact H6 h
 | .iface, p, vs, h => by simp only [Q5, z6]; exact H6 h
 | .opq s, p, vs, h => by simp only [Q5, z6]; exact H6 h
 | .arr n e, p, vs, h => by simp only [Q5, z6]; exact H6 h
theorem z5N : ∀ (gs : List Ty) (sz : Nat) (os : List Nat) (fs : List Ty) (i : Nat) {p : List Nat} {vs : List Value}, (∀ (j : Nat) (f : Ty), gs[j]? = some f → fs[i + j]? = some f) → q2O fs os vs = true →
  x9 Γ hm p i (.struct sz os fs) (q5L gs) vs
 | [], _, _, _, _, _, _, _, _ => by simp [q5L, x9]
 | f :: gs, sz, os, fs, i, p, vs, hg, h => by
  have hf := hg 0 f rfl
  obtain ⟨o, a, b, c⟩ := z4z h hf
  simp only [q5L, x9, q5h]
  refine ⟨⟨o, f, by simp [Ty.child, show os[i]? = some o by simpa using a, show fs[i]? = some f by simpa using hf], rfl, b, q9p f c⟩, z5N gs sz os fs (i + 1) (fun j g hj => ?_) h⟩
  rw [show i + 1 + j = i + (j + 1) by omega]
  exact hg (j + 1) g (by simpa using hj)
end
end
theorem y0e {P : Program} {T : TypeId} (h : U4 P T = true) : ∃ z, (∀ w, (zeroValue T).run P w = .ok z w) ∧ F7 (ty P T) z.cells.toList = true ∧ o9 z = (ty P T).isAgg := by
 unfold U4 at h
 cases hi : P.info? T with
 | none => simp [hi] at h
 | some i =>
  cases hz : i.zero with
  | none => simp [hi, hz] at h
  | some z =>
   simp [hi, hz] at h
   exact ⟨z, fun w => by simp [zeroValue, typeInfo, hi, hz], h.1.1, h.1.2⟩
mutual
def view : V → V
 | .ts eb e cs => .d (.slice eb e) (.slice cs)
 | .agg τ vs => .agg τ (views vs)
 | x => x
def views : List V → List V
 | [] => []
 | x :: xs => view x :: views xs
end
theorem z2r : ∀ xs : List V, (views xs).length = xs.length
 | [] => rfl
 | x :: xs => by simp [views, z2r xs]
theorem y2F (x : V) : (view x).ty = x.ty := by cases x <;> simp [view, V.ty]
theorem y3m (x : V) : (view x).plain = x.plain := by cases x <;> simp [view, V.plain]
section
variable {Γ : G} {hm : Option Key}
mutual
theorem z94 : ∀ (x : V) {p p' : List Nat} {vs : List Value}, z6 Γ hm p x vs → z6 Γ none p' (view x) vs
 | .ts eb e cs, _, _, _, h => by
  simp only [z6, view] at h ⊢
  obtain ⟨a, n, cap, k, _, rfl, h2, _⟩ := h
  exact h2
 | .agg τ xs, _, _, _, h => by
  simp only [z6, view] at h ⊢
  exact ⟨h.1, h.2.1, by rw [z2r]; exact h.2.2.1, h.2.2.2.1, z8l xs h.2.2.2.2⟩
 | .d _ _, _, _, _, h | .sl _ _ _ _, _, _, _, h | .emp _ _, _, _, _, h | .nilc, _, _, _, h | .ptr _ _ _, _, _, _, h | .cptr _ _, _, _, _, h
 | .sr _ _ _ _ _ _ _, _, _, _, h | .mp _, _, _, _, h | .fn _ _, _, _, _, h | .top _, _, _, _, h => by simpa only [z6, view] using h
 | .any, _, _, _, h => by simp only [z6, view]
 | .tup _, _, _, _, h => by simp only [z6] at h
theorem z8l : ∀ (xs : List V) {p p' : List Nat} {i : Nat} {τ : Ty} {vs : List Value}, x9 Γ hm p i τ xs vs → x9 Γ none p' i τ (views xs) vs
 | [], _, _, _, _, _, _ => by simp only [views, x9]
 | x :: xs, _, _, _, _, _, h => by
  simp only [x9, views, y2F] at h ⊢
  obtain ⟨⟨o, f, h1, h2, h3, h4⟩, h5⟩ := h
  exact ⟨⟨o, f, h1, h2, h3, z94 x h4⟩, z8l xs h5⟩
end
end
mutual
def Z7 : V → Option C
 | .d _ c => some c
 | .emp _ _ => some (.slice [])
 | .sl _ _ cs _ => some (.slice cs)
 | .ts _ _ cs => some (.slice cs)
 | .agg _ vs => (q1v vs).map .agg
 | _ => none
def q1v : List V → Option (List C)
 | [] => some []
 | x :: xs => match Z7 x, q1v xs with
  | some c, some cs => some (c :: cs)
  | _, _ => none
end
theorem z0c : ∀ {xs : List V} {cs : List C}, q1v xs = some cs → cs.length = xs.length ∧ ∀ (i : Nat) (x : V) (c : C), xs[i]? = some x → cs[i]? = some c → Z7 x = some c
 | [], cs, h => by simp [q1v] at h; subst h; simp
 | x :: xs, cs, h => by
  simp only [q1v] at h
  cases h1 : Z7 x with
  | none => simp [h1] at h
  | some c =>
   cases h2 : q1v xs with
   | none => simp [h1, h2] at h
   | some cs' =>
    simp [h1, h2] at h
    subst h
    obtain ⟨a, b⟩ := z0c h2
    refine ⟨by simp [a], fun i y d hy hd => ?_⟩
    cases i with
    | zero => simp at hy hd; subst hy; subst hd; exact h1
    | succ i => exact b i y d (by simpa using hy) (by simpa using hd)
section
variable {Γ : G} {hm : Option Key}
mutual
theorem q3n : ∀ (x : V) {p : List Nat} {vs : List Value} {c : C}, z6 Γ hm p x vs → Z7 x = some c → y8 Γ.H x.ty vs c
 | .d τ c, _, _, _, h, hc => by simp [Z7] at hc; subst hc; simpa only [z6, V.ty] using h
 | .emp eb e, _, _, _, h, hc => by
  simp [Z7] at hc; subst hc
  simp only [z6] at h
  obtain ⟨a, rfl⟩ := h
  exact j7 rfl (Nat.le_refl _) (Nat.zero_le _) (by rw [Nat.zero_mul]; exact Nat.zero_le _) (.inl rfl)
 | .sl eb e cs t, _, _, _, h, hc => by
  simp [Z7] at hc; subst hc
  simp only [z6] at h
  obtain ⟨a, n, cap, rfl, h2, _⟩ := h
  exact h2
 | .ts eb e cs, _, _, _, h, hc => by
  simp [Z7] at hc; subst hc
  simp only [z6] at h
  obtain ⟨a, n, cap, k, _, rfl, h2, _⟩ := h
  exact h2
 | .agg τ xs, _, vs, _, h, hc => by
  simp only [Z7] at hc
  cases h1 : q1v xs with
  | none => simp [h1] at hc
  | some cs =>
   simp [h1] at hc; subst hc
   simp only [z6] at h
   obtain ⟨a1, a2, a3, a4, a5⟩ := h
   obtain ⟨b1, b2⟩ := z0c h1
   have kid := z43 xs a5 h1
   simp only [V.ty]
   cases τ <;> simp [Ty.isAgg] at a4
   case arr n e =>
    simp only [y8]
    refine ⟨cs, rfl, by rw [b1, a3]; rfl, by simpa [Ty.size] using a1, a2, fun i c hi => ?_⟩
    obtain ⟨o, f, k1, _, k3⟩ := kid i c hi
    simp only [Nat.zero_add, Ty.child] at k1
    split at k1
    ·simp at k1; obtain ⟨rfl, rfl⟩ := k1; exact k3
    ·cases k1
   case struct sz os fs =>
    simp only [y8]
    refine ⟨cs, rfl, by simpa [Ty.size] using a1, a2, Q2.q7E (by rw [b1, a3]; rfl) fun i f c hf hi => ?_⟩
    obtain ⟨o, f', k1, k2, k3⟩ := kid i c hi
    simp only [Nat.zero_add, Ty.child] at k1
    cases ho : os[i]? with
    | none => simp [ho] at k1
    | some o' => simp [ho, hf] at k1; obtain ⟨rfl, rfl⟩ := k1; exact ⟨o', rfl, k2, k3⟩
 | .nilc, _, _, _, _, hc | .ptr _ _ _, _, _, _, _, hc | .cptr _ _, _, _, _, _, hc
 | .sr _ _ _ _ _ _ _, _, _, _, _, hc | .mp _, _, _, _, _, hc | .fn _ _, _, _, _, _, hc | .top _, _, _, _, _, hc | .any, _, _, _, _, hc | .tup _, _, _, _, _, hc => by simp [Z7] at hc
theorem z43 : ∀ (xs : List V) {p : List Nat} {i0 : Nat} {τ : Ty} {vs : List Value} {cs : List C}, x9 Γ hm p i0 τ xs vs → q1v xs = some cs →
  ∀ (i : Nat) (c : C), cs[i]? = some c → ∃ o f, τ.child (i0 + i) = some (o, f) ∧ o + f.size ≤ vs.length ∧ y8 Γ.H f (chunk vs o f.size) c
 | [], _, _, _, _, _, _, h, i, c, hc => by simp [q1v] at h; subst h; simp at hc
 | x :: xs, _, i0, τ, vs, cs, h, hcs, i, c, hc => by
  simp only [x9] at h
  simp only [q1v] at hcs
  cases h1 : Z7 x with
  | none => simp [h1] at hcs
  | some d =>
   cases h2 : q1v xs with
   | none => simp [h1, h2] at hcs
   | some ds =>
    simp [h1, h2] at hcs
    subst hcs
    cases i with
    | zero =>
     simp at hc; subst hc
     obtain ⟨⟨o, f, k1, k2, k3, k4⟩, _⟩ := h
     have := q3n x k4 h1
     rw [k2] at this
     exact ⟨o, f, k1, k3, this⟩
    | succ i =>
     have := z43 xs h.2 h2 i c (by simpa using hc)
     rw [show i0 + (i + 1) = i0 + 1 + i by omega]
     exact this
end
end
end Go.E
namespace Go.E
open Go
theorem j4 (vs : List Value) (o n i : Nat) : (chunk vs o n)[i]? = if i < n then vs[o + i]? else none := by
 simp [chunk, List.getElem?_take, List.getElem?_drop]
def j3 (vs : List Value) (o : Nat) (ws : List Value) : List Value := vs.take o ++ ws ++ vs.drop (o + ws.length)
theorem U6 {vs ws : List Value} {o : Nat} (h : o + ws.length ≤ vs.length) : (j3 vs o ws).length = vs.length := by
 simp [j3]; omega
theorem U5 {vs ws : List Value} {o : Nat} (h : o + ws.length ≤ vs.length) (i : Nat) :
  (j3 vs o ws)[i]? = if o ≤ i ∧ i < o + ws.length then ws[i - o]? else vs[i]? := by
 unfold j3
 by_cases h1 : i < o
 ·rw [if_neg (by omega), List.append_assoc, List.getElem?_append_left (by simp; omega), List.getElem?_take, if_pos h1]
 ·by_cases h2 : i < o + ws.length
  ·rw [if_pos (by omega), List.append_assoc, List.getElem?_append_right (by simp; omega), List.getElem?_append_left (by simp; omega)]
   simp only [List.length_take]
   congr 1; omega
  ·rw [if_neg (by omega), List.getElem?_append_right (by simp; omega), List.getElem?_drop]
   simp only [List.length_append, List.length_take]
   congr 1; omega
theorem q4U {vs ws : List Value} {o n : Nat} (h : o + ws.length ≤ vs.length) (hn : ws.length = n) : chunk (j3 vs o ws) o n = ws := by
 apply List.ext_getElem?
 intro i
 rw [j4, U5 h]
 split
 ·rw [if_pos (by omega)]; congr 1; omega
 ·rw [List.getElem?_eq_none (by omega)]
theorem q1l {vs ws : List Value} {o o' n : Nat} (h : o + ws.length ≤ vs.length) (hd : o' + n ≤ o ∨ o + ws.length ≤ o') : chunk (j3 vs o ws) o' n = chunk vs o' n := by
 apply List.ext_getElem?
 intro i
 rw [j4, j4, U5 h]
 split
 ·rw [if_neg (by omega)]
 ·rfl
theorem z7a {vs ws : List Value} {o o1 n1 o2 : Nat} (h : o1 + n1 ≤ vs.length) (hw : o2 + ws.length ≤ n1) (ho : o = o1 + o2) : chunk (j3 vs o ws) o1 n1 = j3 (chunk vs o1 n1) o2 ws := by
 subst ho
 apply List.ext_getElem?
 intro i
 have hl : (chunk vs o1 n1).length = n1 := b8 _ _ _ h
 rw [j4, U5 (by omega), U5 (by omega), j4]
 by_cases hi : i < n1
 ·rw [if_pos hi, if_pos hi]
  by_cases h2 : o2 ≤ i ∧ i < o2 + ws.length
  ·rw [if_pos (by omega), if_pos h2]; congr 1; omega
  ·rw [if_neg (by omega), if_neg h2]
 ·rw [if_neg hi, if_neg hi, if_neg (by omega)]
theorem q1D.j3 {vs ws : List Value} {o : Nat} (h1 : q1D vs) (h2 : q1D ws) : q1D (j3 vs o ws) := by
 intro v hv
 simp only [Go.E.j3, List.mem_append] at hv
 rcases hv with (hv | hv) | hv
 ·exact h1 v (List.mem_of_mem_take hv)
 ·exact h2 v hv
 ·exact h1 v (List.mem_of_mem_drop hv)
def q9e (o n : Nat) : List Nat → List Ty → Bool
 | o' :: os, f :: fs => decide (o' + f.size ≤ o ∨ o + n ≤ o') && q9e o n os fs
 | _, _ => true
def q8C : List Nat → List Ty → Bool
 | o :: os, f :: fs => q9e o f.size os fs && q8C os fs
 | _, _ => true
mutual
def Ty.q0i : Ty → Bool
 | .struct _ os fs => q8C os fs && Ty.z63 fs
 | .arr _ e => e.q0i
 | _ => true
def Ty.z63 : List Ty → Bool
 | [] => true
 | f :: fs => f.q0i && Ty.z63 fs
end
theorem z3F : ∀ {os : List Nat} {fs : List Ty} {o n j o' : Nat} {f : Ty}, q9e o n os fs = true → os[j]? = some o' → fs[j]? = some f → o' + f.size ≤ o ∨ o + n ≤ o'
 | [], _, _, _, _, _, _, _, h, _ => by simp at h
 | _ :: _, [], _, _, _, _, _, _, _, h => by simp at h
 | o1 :: os, f1 :: fs, o, n, 0, o', f, h, h1, h2 => by
  simp only [q9e, Bool.and_eq_true, decide_eq_true_eq] at h
  simp at h1 h2; subst h1; subst h2; exact h.1
 | o1 :: os, f1 :: fs, o, n, j + 1, o', f, h, h1, h2 => by
  simp only [q9e, Bool.and_eq_true] at h
  exact z3F h.2 (show os[j]? = some o' by simpa using h1) (show fs[j]? = some f by simpa using h2)
theorem z0a : ∀ {os : List Nat} {fs : List Ty} {i j o o' : Nat} {f f' : Ty}, q8C os fs = true → i < j → os[i]? = some o → fs[i]? = some f → os[j]? = some o' → fs[j]? = some f' → o' + f'.size ≤ o ∨ o + f.size ≤ o'
 | [], _, _, _, _, _, _, _, _, _, h, _, _, _ => by simp at h
 | _ :: _, [], _, _, _, _, _, _, _, _, _, h, _, _ => by simp at h
 | o1 :: os, f1 :: fs, 0, j + 1, o, o', f, f', h, _, h1, h2, h3, h4 => by
  simp only [q8C, Bool.and_eq_true] at h
  simp at h1 h2; subst h1; subst h2
  exact z3F h.1 (show os[j]? = some o' by simpa using h3) (show fs[j]? = some f' by simpa using h4)
 | o1 :: os, f1 :: fs, i + 1, j + 1, o, o', f, f', h, hij, h1, h2, h3, h4 => by
  simp only [q8C, Bool.and_eq_true] at h
  exact z0a h.2 (show i < j by omega) (show os[i]? = some o by simpa using h1) (show fs[i]? = some f by simpa using h2) (show os[j]? = some o' by simpa using h3) (show fs[j]? = some f' by simpa using h4)
 | _ :: _, _ :: _, _, 0, _, _, _, _, _, hij, _, _, _, _ => by omega
theorem y3c {os : List Nat} {fs : List Ty} {i j o o' : Nat} {f f' : Ty} (h : q8C os fs = true) (hij : i ≠ j) (h1 : os[i]? = some o) (h2 : fs[i]? = some f) (h3 : os[j]? = some o') (h4 : fs[j]? = some f') :
  o' + f'.size ≤ o ∨ o + f.size ≤ o' := by
 rcases Nat.lt_or_ge i j with h5 | h5
 ·exact z0a h h5 h1 h2 h3 h4
 ·have := z0a h (show j < i by omega) h3 h4 h1 h2
  omega
theorem z8Z : ∀ {fs : List Ty} {i : Nat} {f : Ty}, Ty.z63 fs = true → fs[i]? = some f → f.q0i = true
 | [], _, _, _, h => by simp at h
 | f1 :: fs, 0, f, h, h1 => by simp only [Ty.z63, Bool.and_eq_true] at h; simp at h1; subst h1; exact h.1
 | f1 :: fs, i + 1, f, h, h1 => by simp only [Ty.z63, Bool.and_eq_true] at h; exact z8Z h.2 (show fs[i]? = some f by simpa using h1)
def Ty.q1E : Ty → List Ty
 | .struct _ _ fs => fs
 | .arr n e => List.replicate n e
 | _ => []
def C.set : C → Nat → C → C
 | .agg cs, i, c => .agg (cs.set i c)
 | c, _, _ => c
def q0h (c : C) : Nat → List Ty → List V
 | _, [] => []
 | j, f :: fs => .d f (c.get j) :: q0h c (j + 1) fs
def V.set : V → Nat → V → V
 | .d τ c, i, .d _ c' => .d τ (c.set i c')
 | .d τ c, i, y => .agg τ ((q0h c 0 τ.q1E).set i y)
 | .agg τ vs, i, y => .agg τ (vs.set i y)
 | _, _, _ => .any
def V.setAt : V → List Nat → V → V
 | _, [], y => y
 | x, i :: q, y => x.set i ((x.get i).setAt q y)
theorem Ty.z9v (τ : Ty) : τ.q1E.length = τ.kids := by cases τ <;> simp [Ty.q1E, Ty.kids]
theorem y8.child {H : Hp} {τ f : Ty} {vs : List Value} {c : C} {i : Nat} (h : y8 H τ vs c) (hf : τ.q1E[i]? = some f) : ∃ o, τ.child i = some (o, f) := by
 cases τ <;> simp only [Ty.q1E, List.getElem?_nil, reduceCtorEq] at hf
 case arr n e =>
  rw [List.getElem?_replicate] at hf
  split at hf
  ·cases hf; rename_i hi; exact ⟨_, by simp only [Ty.child]; rw [if_pos hi]⟩
  ·cases hf
 case struct sz os fs =>
  simp only [y8] at h
  obtain ⟨cs, rfl, _, _, h3⟩ := h
  obtain ⟨o, c, a, _⟩ := h3.get hf
  exact ⟨o, by simp [Ty.child, a, hf]⟩
theorem y2A {τ f f' : Ty} {i j o o' : Nat} (hd : τ.q0i = true) (h1 : τ.child i = some (o, f)) (h2 : τ.child j = some (o', f')) (hij : i ≠ j) : o' + f'.size ≤ o ∨ o + f.size ≤ o' := by
 cases τ <;> simp only [Ty.child, reduceCtorEq] at h1 h2
 case arr n e =>
  split at h1 <;> simp at h1
  split at h2 <;> simp at h2
  obtain ⟨rfl, rfl⟩ := h1
  obtain ⟨rfl, rfl⟩ := h2
  rcases Nat.lt_or_ge j i with hlt | hge
  ·left
   have : (j + 1) * e.size ≤ i * e.size := Nat.mul_le_mul_right _ (by omega)
   rw [Nat.add_mul] at this; omega
  ·right
   have : (i + 1) * e.size ≤ j * e.size := Nat.mul_le_mul_right _ (by omega)
   rw [Nat.add_mul] at this; omega
 case struct sz os fs =>
  simp only [Ty.q0i, Bool.and_eq_true] at hd
  cases ho : os[i]? with
  | none => simp [ho] at h1
  | some a =>
   cases hf : fs[i]? with
   | none => simp [ho, hf] at h1
   | some g =>
    cases ho' : os[j]? with
    | none => simp [ho'] at h2
    | some a' =>
     cases hf' : fs[j]? with
     | none => simp [ho', hf'] at h2
     | some g' =>
      simp [ho, hf] at h1
      simp [ho', hf'] at h2
      obtain ⟨rfl, rfl⟩ := h1
      obtain ⟨rfl, rfl⟩ := h2
      exact y3c hd.1 hij ho hf ho' hf'
section
variable {Γ : G} {hm : Option Key}
theorem y8.set {H : Hp} {τ f : Ty} {vs ws : List Value} {c c' : C} {i o : Nat} (h : y8 H τ vs c) (hd : τ.q0i = true) (hc : τ.child i = some (o, f)) (hr : y8 H f ws c') :
  y8 H τ (j3 vs o ws) (c.set i c') := by
 have hwl := hr.length
 have hb := (h.get hc).2.1
 cases τ <;> simp only [Ty.child, reduceCtorEq] at hc
 case arr n e =>
  split at hc <;> simp at hc
  rename_i hi
  obtain ⟨rfl, rfl⟩ := hc
  simp only [y8] at h ⊢
  obtain ⟨cs, rfl, h1, h2, h3, h4⟩ := h
  refine ⟨cs.set i c', rfl, by simpa using h1, by rw [U6 (by omega)]; exact h2, h3.j3 hr.one, fun j cc hj => ?_⟩
  rw [List.getElem?_set] at hj
  split at hj
  ·rename_i hij
   subst hij
   split at hj
   ·cases hj
    rw [q4U (by omega) hwl]; exact hr
   ·cases hj
  ·rename_i hij
   have hjl : j < n := by rw [← h1]; exact (List.getElem?_eq_some_iff.1 hj).1
   rw [q1l (by omega)]
   ·exact h4 j cc hj
   ·rcases Nat.lt_or_ge j i with hlt | hge
    ·left
     have : (j + 1) * e.size ≤ i * e.size := Nat.mul_le_mul_right _ (by omega)
     rw [Nat.add_mul] at this; omega
    ·right
     have : (i + 1) * e.size ≤ j * e.size := Nat.mul_le_mul_right _ (by omega)
     rw [Nat.add_mul] at this; omega
 case struct sz os fs =>
  simp only [y8] at h ⊢
  simp only [Ty.q0i, Bool.and_eq_true] at hd
  obtain ⟨cs, rfl, h1, h2, h3⟩ := h
  cases ho : os[i]? with
  | none => simp [ho] at hc
  | some o' =>
   cases hf : fs[i]? with
   | none => simp [ho, hf] at hc
   | some f' =>
    simp [ho, hf] at hc
    obtain ⟨rfl, rfl⟩ := hc
    have hl := h3.y2U
    refine ⟨cs.set i c', rfl, by rw [U6 (by omega)]; exact h1, h2.j3 hr.one, Q2.q7E (by simpa using hl) fun j g cc hg hcc => ?_⟩
    rw [List.getElem?_set] at hcc
    obtain ⟨oj, cj, a, b, d, r⟩ := h3.get hg
    refine ⟨oj, a, by rw [U6 (by omega)]; exact d, ?_⟩
    split at hcc
    ·rename_i hij
     subst hij
     rw [hf] at hg; cases hg
     rw [ho] at a; cases a
     split at hcc
     ·cases hcc
      rw [q4U (by omega) hwl]; exact hr
     ·cases hcc
    ·rename_i hij
     rw [b] at hcc; cases hcc
     rw [q1l (by omega)]
     ·exact r
     ·have := y3c hd.1 (fun e => hij e) ho hf a hg
      omega
theorem x9.q7E {p : List Nat} {τ : Ty} : ∀ {xs : List V} {i0 : Nat} {vs : List Value},
  (∀ (i : Nat) (x : V), xs[i]? = some x → ∃ o f, τ.child (i0 + i) = some (o, f) ∧ x.ty = f ∧ o + f.size ≤ vs.length ∧ z6 Γ hm (p ++ [i0 + i]) x (chunk vs o f.size)) → x9 Γ hm p i0 τ xs vs
 | [], _, _, _ => by simp [x9]
 | x :: xs, i0, vs, h => by
  simp only [x9]
  refine ⟨h 0 x rfl, x9.q7E fun i y hy => ?_⟩
  have := h (i + 1) y (by simpa using hy)
  rw [show i0 + 1 + i = i0 + (i + 1) by omega]; exact this
theorem z0O (c : C) : ∀ (fs : List Ty) (j i : Nat), (q0h c j fs)[i]? = (fs[i]?).map fun f => .d f (c.get (j + i))
 | [], _, _ => by simp [q0h]
 | f :: fs, j, 0 => by simp [q0h]
 | f :: fs, j, i + 1 => by
  simp only [q0h, List.getElem?_cons_succ]
  rw [z0O c fs (j + 1) i, show j + (i + 1) = j + 1 + i by omega]
theorem q8c (c : C) : ∀ (fs : List Ty) (j : Nat), (q0h c j fs).length = fs.length
 | [], _ => rfl
 | f :: fs, j => by simp [q0h, q8c c fs]
theorem y4c {τ : Ty} {c : C} {p : List Nat} {vs : List Value} (h : y8 Γ.H τ vs c) (ha : τ.isAgg = true) : z6 Γ hm p (.agg τ (q0h c 0 τ.q1E)) vs := by
 simp only [z6]
 refine ⟨h.length, h.one, by rw [q8c, Ty.z9v], ha, x9.q7E fun i x hx => ?_⟩
 rw [z0O] at hx
 cases hf : τ.q1E[i]? with
 | none => simp [hf] at hx
 | some f =>
  simp [hf] at hx
  subst hx
  obtain ⟨o, ho⟩ := h.child hf
  obtain ⟨_, h2, h3⟩ := h.get ho
  refine ⟨o, f, by simpa using ho, rfl, h2, ?_⟩
  simpa only [z6] using h3
theorem y5U {τ f : Ty} {i o : Nat} (h : τ.child i = some (o, f)) : τ.isAgg = true := by
 cases τ <;> simp [Ty.child] at h <;> rfl
theorem z7n {p : List Nat} {τ : Ty} {xs : List V} {y : V} {vs ws : List Value} {i o : Nat} (h : z6 Γ hm p (.agg τ xs) vs) (hd : τ.q0i = true) (hc : τ.child i = some (o, y.ty))
  (hr : z6 Γ hm (p ++ [i]) y ws) (hy : y.plain = true) (hb : o + y.ty.size ≤ vs.length) : z6 Γ hm p (.agg τ (xs.set i y)) (j3 vs o ws) := by
 simp only [z6] at h ⊢
 obtain ⟨h1, h2, h3, h4, h5⟩ := h
 have hwl := hr.length hy
 refine ⟨by rw [U6 (by omega)]; exact h1, h2.j3 (hr.one hy), by simpa using h3, h4, x9.q7E fun j x hx => ?_⟩
 rw [List.getElem?_set] at hx
 split at hx
 ·rename_i hij
  subst hij
  split at hx
  ·cases hx
   refine ⟨o, _, by simpa using hc, rfl, by rw [U6 (by omega)]; exact hb, ?_⟩
   rw [q4U (by omega) hwl]; simpa using hr
  ·cases hx
 ·rename_i hij
  obtain ⟨o', f', a, b, d, r⟩ := h5.get hx
  refine ⟨o', f', a, b, by rw [U6 (by omega)]; exact d, ?_⟩
  rw [q1l (by omega)]
  ·exact r
  ·rw [Nat.zero_add] at a
   have := y2A hd hc a hij
   omega
theorem z6.set {p : List Nat} {x y : V} {vs ws : List Value} {i o : Nat} (h : z6 Γ hm p x vs) (hd : x.ty.q0i = true) (hc : x.ty.child i = some (o, y.ty)) (hg : x.get i ≠ .any)
  (hr : z6 Γ hm (p ++ [i]) y ws) (hy : y.plain = true) : z6 Γ hm p (x.set i y) (j3 vs o ws) ∧ (x.set i y).ty = x.ty ∧ (x.set i y).plain = true := by
 have hb := (h.get hc hg).2.1
 have gen : ∀ {τ : Ty} {c : C}, x = .d τ c → z6 Γ hm p (.agg τ ((q0h c 0 τ.q1E).set i y)) (j3 vs o ws) := by
  intro τ c e
  subst e
  simp only [z6] at h
  simp only [V.ty] at hc hd
  exact z7n (y4c h (y5U hc)) hd hc hr hy hb
 cases x <;> (try (simp only [V.get, ne_eq, not_true_eq_false] at hg; done))
 case d τ c =>
  have := gen rfl
  cases y
  case d τ' c' =>
   simp only [V.set]
   refine ⟨?_, rfl, rfl⟩
   simp only [z6] at h hr ⊢
   simp only [V.ty] at hc hd
   exact h.set hd hc hr
  all_goals (simp only [V.set]; exact ⟨this, rfl, rfl⟩)
 case agg τ xs =>
  simp only [V.set]
  exact ⟨z7n h hd hc hr hy hb, rfl, rfl⟩
theorem y4r {τ f : Ty} {i o : Nat} (h : τ.q0i = true) (hc : τ.child i = some (o, f)) : f.q0i = true := by
 cases τ <;> simp only [Ty.child, reduceCtorEq] at hc
 case arr n e => split at hc <;> simp at hc; rw [← hc.2]; simpa [Ty.q0i] using h
 case struct sz os fs =>
  simp only [Ty.q0i, Bool.and_eq_true] at h
  cases ho : os[i]? with
  | none => simp [ho] at hc
  | some o' =>
   cases hf : fs[i]? with
   | none => simp [ho, hf] at hc
   | some f' => simp [ho, hf] at hc; rw [← hc.2]; exact z8Z h.2 hf
theorem z6.setAt : ∀ {q : List Nat} {p : List Nat} {x y : V} {vs ws : List Value} {o : Nat}, z6 Γ hm p x vs → x.plain = true → x.ty.q0i = true → x.ty.walk q = some (o, y.ty) → x.at q ≠ .any →
  z6 Γ hm (p ++ q) y ws → y.plain = true →
  z6 Γ hm p (x.setAt q y) (j3 vs o ws) ∧ (x.setAt q y).ty = x.ty ∧ (x.setAt q y).plain = true
 | [], p, x, y, vs, ws, o, h, hp, hd, hw, hx, hr, hy => by
  simp [Ty.walk] at hw
  obtain ⟨rfl, ht⟩ := hw
  have h1 := h.length hp
  have h2 := hr.length hy
  have : j3 vs 0 ws = ws := by
   simp only [j3, List.take_zero, List.nil_append, Nat.zero_add]
   rw [List.drop_eq_nil_of_le (by rw [h1, h2, ht]; exact Nat.le_refl _)]; simp
  simp only [V.setAt, this]
  exact ⟨by simpa using hr, ht.symm, hy⟩
 | i :: q, p, x, y, vs, ws, o, h, hp, hd, hw, hx, hr, hy => by
  simp only [Ty.walk] at hw
  cases hc : x.ty.child i with
  | none => simp [hc] at hw
  | some of =>
   obtain ⟨o1, f⟩ := of
   simp only [hc] at hw
   cases hw2 : f.walk q with
   | none => simp [hw2] at hw
   | some ot =>
    obtain ⟨o2, t⟩ := ot
    simp only [hw2, Option.some.injEq, Prod.mk.injEq] at hw
    obtain ⟨rfl, rfl⟩ := hw
    have hne : x.get i ≠ .any := by
     intro e
     apply hx
     simp only [V.at, e]; exact V.z3J q
    obtain ⟨h1, h2, h3⟩ := h.get hc hne
    have hpl : (x.get i).plain = true := V.q4b h3 hne
    have _hget := q7S hc
    have ih := z6.setAt (q := q) h3 hpl (by rw [h1]; exact y4r hd hc) (by rw [h1]; exact hw2) (by simpa [V.at] using hx) (by simpa using hr) hy
    obtain ⟨i1, i2, i3⟩ := ih
    have hwl := hr.length hy
    have hb2 : o2 + y.ty.size ≤ f.size := by
     obtain ⟨_, hb, _⟩ := h3.at_ (by rw [h1]; exact hw2) (by simpa [V.at] using hx) hpl
     rwa [b8 _ _ _ h2] at hb
    have hset := z6.set (i := i) (o := o1) (y := (x.get i).setAt q y) h hd (by rw [i2, h1]; exact hc) hne i1 i3
    have e1 : j3 vs o1 (j3 (chunk vs o1 f.size) o2 ws) = j3 vs (o1 + o2) ws := by
     have hl1 : (chunk vs o1 f.size).length = f.size := b8 _ _ _ h2
     have hl2 : (j3 (chunk vs o1 f.size) o2 ws).length = f.size := by rw [U6 (by omega)]; exact hl1
     apply List.ext_getElem?
     intro j
     rw [U5 (vs := vs) (o := o1) (by omega), U5 (vs := vs) (o := o1 + o2) (ws := ws) (by omega), hl2]
     by_cases hj : o1 ≤ j ∧ j < o1 + f.size
     ·rw [if_pos hj, U5 (by omega), j4]
      by_cases hk : o1 + o2 ≤ j ∧ j < o1 + o2 + ws.length
      ·rw [if_pos (by omega), if_pos hk]; congr 1; omega
      ·rw [if_neg (by omega), if_neg hk, if_pos (by omega)]; congr 1; omega
     ·rw [if_neg hj, if_neg (by omega)]
    rw [e1] at hset
    simp only [V.setAt]
    exact hset
end
end Go.E
namespace Go.E
open Go
def j5 (P : Program) (o : Oper) (a : Act) (w : World) (b5 : Value → World → Prop) : Prop :=
 ∀ (next : Act → World → Prop) (Q : Exit → Act → World → Prop), (∀ v w', b5 v w' → next (a.put o.dst v) w') → o.wp P a w next Q
section
variable {P : Program} {o : Oper} {a : Act} {w w' : World} {b5 : Value → World → Prop}
theorem j5.val {v : Value} (h : (execOp a.eval o).run P w = .ok (.value v) w') (hp : b5 v w') : j5 P o a w b5 := by
 intro next Q hn
 unfold Oper.wp
 rw [h]
 exact hn v w' hp
theorem j5.skip (h : (execOp a.eval o).run P w = .ok .skip w') (hp : b5 undef w') : j5 P o a w b5 := by
 intro next Q hn
 unfold Oper.wp
 rw [h]
 exact hn _ w' hp
theorem j5.enter {f : FuncId} {args : Array Value} (h : (execOp a.eval o).run P w = .ok (.enter f args) w')
  (hc : Calls P f args w' fun e w'' => ∃ v, e = .returned v ∧ b5 v w'') : j5 P o a w b5 := by
 intro next Q hn
 unfold Oper.wp
 rw [h]
 refine Calls.mono hc ?_
 rintro e w'' ⟨v, rfl, hp⟩
 exact hn v w'' hp
theorem j5.mono {Post' : Value → World → Prop} (h : j5 P o a w b5) (hp : ∀ v w', b5 v w' → Post' v w') : j5 P o a w Post' :=
 fun next Q hn => h next Q fun v w' hv => hn v w' (hp v w' hv)
end
structure Ext (w w' : World) : Prop where
 size : w.heap.size ≤ w'.heap.size
 old : ∀ b, b < w.heap.size → w'.heap[b]? = w.heap[b]?
 oo : oof w' = oof w
theorem Ext.refl (w : World) : Ext w w := ⟨Nat.le_refl _, fun _ _ => rfl, rfl⟩
theorem Ext.trans {a b c : World} (h : Ext a b) (h' : Ext b c) : Ext a c :=
 ⟨Nat.le_trans h.size h'.size, fun x hx => (h'.old x (Nat.lt_of_lt_of_le hx h.size)).trans (h.old x hx), h'.oo.trans h.oo⟩
theorem Ext.alloc (w : World) (o : Obj) : Ext w (w.alloc o) := ⟨by simp, fun _ hb => heap_alloc_old w o hb, rfl⟩
theorem Ext.drew (w : World) : Ext w w.drew := ⟨Nat.le_refl _, fun _ _ => rfl, rfl⟩
def q1G {α : Type} (f : Key → Option α) (k : Key) (x : α) : Key → Option α := fun j => if j = k then some x else f j
def Y2 {α : Type} (f : Nat → Option α) (k : Nat) (x : α) : Nat → Option α := fun j => if j = k then some x else f j
theorem b6 {α : Type} (f : Nat → Option α) (k : Nat) (x : α) : Y2 f k x k = some x := by simp [Y2]
theorem q0e {α : Type} (f : Nat → Option α) {k j : Nat} (x : α) (h : j ≠ k) : Y2 f k x j = f j := by simp [Y2, h]
def b5 (Γ : G) (w : World) (s' : S) (x : V) (v : Value) (w' : World) : Prop :=
 ∃ Γ', GLe Γ Γ' ∧ Q4 Γ Γ' ∧ y9 Γ' w' s' ∧ z8 Γ' x v
section
variable {Γ : G} {w w' : World} {s : S}
theorem y9.Zlt (c : y9 Γ w s) {b : Nat} (h : Γ.Z b ≠ none) : b < w.heap.size := by
 cases hk : Γ.Z b with
 | none => exact absurd hk h
 | some o => exact Q1 (c.hZ b o hk)
theorem y9.congr (c : y9 Γ w s) {s' : S} (h1 : ∀ k, s'.obj k = s.obj k) (h2 : ∀ t, s'.live t = s.live t) (h3 : ∀ t, s.known t = true → s'.known t = true) : y9 Γ w s' :=
 ⟨c.hH, c.hZ, c.hκ, fun k o h => c.obj k o (by rw [← h1]; exact h), fun k h => by rw [h1]; exact c.dom k h, c.z1x (fun k h => by unfold S.Q6 at h ⊢; rw [h1]; exact h), fun t L h => c.tok t L (by rw [← h2]; exact h), fun t h => h3 t (c.tdom t h), c.hgl, c.hoo, c.hσ⟩
theorem y9.σlt (c : y9 Γ w s) {b : Nat} {sz : Nat} (h : Γ.σ b = some sz) : b < w.heap.size := by
 obtain ⟨arr, T, fr, h1, _⟩ := c.hσ b sz h
 exact Q1 h1
theorem y9.y56 (c : y9 Γ w s) (he : Ext w w') : ∀ b sz, Γ.σ b = some sz → ∃ arr T fr, w'.heap[b]? = some (.cells arr T fr) ∧ arr.size = sz := fun b sz h => by
 rw [he.old b (c.σlt h)]; exact c.hσ b sz h
theorem y9.env (c : y9 Γ w s) (e : List (Nat × V)) : y9 Γ w { s with env := e } := c.congr (fun _ => rfl) (fun _ => rfl) (fun _ h => h)
theorem y9.ext (c : y9 Γ w s) (he : Ext w w') : y9 Γ w' s := by
 refine c.change (Q4.refl Γ) rfl rfl rfl he.oo (fun b l h => ?_) (fun b h => he.old b (c.Zlt h)) (fun b o sz h => ?_) (fun k o h => ?_) (fun _ h _ => h) c.dom (c.y56 he) c.inj c.tok c.tdom he.size
 ·rw [he.old b (c.Hlt (by rw [h]; simp))]; exact c.hH b l h
 ·rw [he.old b (c.κlt (by rw [h]; simp))]; exact c.hκ b o sz h
 ·refine .inl ⟨h, fun hd => ⟨fun b p sz _ => ⟨rfl, rfl⟩, fun b τ hb => ?_⟩⟩
  obtain ⟨a1, a2, a3, _⟩ := c.q1n hb h hd
  exact ⟨he.old b a3, a1⟩
theorem b5.same (c : y9 Γ w s) {x : V} {v : Value} (h : z8 Γ x v) : b5 Γ w s x v w := ⟨Γ, .refl Γ, .refl Γ, c, h⟩
theorem b5.ext (c : y9 Γ w s) (he : Ext w w') {x : V} {v : Value} (h : z8 Γ x v) : b5 Γ w s x v w' := ⟨Γ, .refl Γ, .refl Γ, c.ext he, h⟩
theorem q1t {α : Type} (n : Key) (x : α) (l : List (Key × α)) : y7 ((n, x) :: l) n = some x := by simp [y7]
theorem q4C {α : Type} (n : Nat) (x : α) (l : List (Nat × α)) : look ((n, x) :: l) n = some x := by simp [look]
theorem Q7 (s : S) (k j : Key) (o : O) : S.obj { s with loc := (k, o) :: s.loc } j = if k = j then some o else s.obj j := by
 unfold S.obj X1
 by_cases h : k = j
 ·subst h; simp [y7]
 ·simp [y7, h]
theorem z1M {s : S} {k : Key} {o : O} (h : s.Q6 k = true → o.q0A = true) (j : Key) (hj : s.Q6 j = true) : S.Q6 { s with loc := (k, o) :: s.loc } j = true := by
 unfold S.Q6
 rw [Q7]
 split
 ·rename_i e; subst e; exact h hj
 ·exact hj
theorem q4n (s : S) (t u : Nat) (L : Option Nat) : S.live { s with tk := (t, L) :: s.tk } u = if t = u then L else s.live u := by
 unfold S.live q1u
 by_cases h : t = u
 ·subst h; simp only [q4C, if_true]; cases L <;> rfl
 ·simp [look, h]
theorem q3l (s : S) (t u : Nat) (L : Option Nat) : S.known { s with tk := (t, L) :: s.tk } u = (decide (t = u) || s.known u) := by
 unfold S.known
 by_cases h : t = u
 ·subst h; simp [look]
 ·simp [look, h]
theorem y9.z0e (c : y9 Γ w s) {k : Key} (h : s.obj k = none) : Γ.ι k = none := by
 cases hk : Γ.ι k with
 | none => rfl
 | some x => exact absurd h (c.dom k (by rw [hk]; simp))
theorem y9.y4D (c : y9 Γ w s) {t : Nat} (h : s.known t = false) : Γ.τ t = none := by
 cases hk : Γ.τ t with
 | none => rfl
 | some x => have := c.tdom t (by rw [hk]; simp); rw [h] at this; cases this
def G.addKey (Γ : G) (k : Key) (b : Nat) (τ : Ty) : G := { Γ with ι := q1G Γ.ι k (b, τ) }
theorem y9.addKey (c : y9 Γ w s) {k : Key} (hn : s.obj k = none) (he : Ext w w') {τ : Ty} {o : O} (ho : ∀ Γ' : G, Q4 Γ Γ' → q6X Γ Γ' (some k) → Γ'.ι k = some (w.heap.size, τ) → Γ'.H w.heap.size = none → Γ'.Z w.heap.size = none → Own Γ' w' k o) (hkl : ∀ i, k ≠ .g i := by intro i h; cases h) :
  y9 (Γ.addKey k w.heap.size τ) w' { s with loc := (k, o) :: s.loc } ∧ Q4 Γ (Γ.addKey k w.heap.size τ) ∧ GLe Γ (Γ.addKey k w.heap.size τ) := by
 have hk := c.z0e hn
 have hι : ∀ j x, Γ.ι j = some x → (Γ.addKey k w.heap.size τ).ι j = some x := by
  intro j x hj
  have : j ≠ k := by intro e; subst e; rw [hk] at hj; cases hj
  simp [G.addKey, q1G, this, hj]
 have hp : Q4 Γ (Γ.addKey k w.heap.size τ) := ⟨Hp.le_refl _, hι, fun t x L h => ⟨x, L, h, Nat.le_refl _, fun _ => rfl⟩, fun _ _ h => h⟩
 refine ⟨?_, hp, ⟨Hp.le_refl _, rfl, fun _ _ => rfl, fun j x h => hι _ _ h, rfl, rfl, fun _ _ h => h, fun i h => by
  have : Key.g i ≠ k := fun e => hkl i e.symm
  simpa [G.addKey, q1G, this] using h⟩⟩
 refine c.change hp rfl rfl rfl he.oo (fun b l h => ?_) (fun b h => he.old b (c.Zlt h)) (fun b o sz h => ?_) (fun j o' h => ?_) (fun j h h' => by
  have : j ≠ k := fun e => by subst e; exact h' hn
  simpa [G.addKey, q1G, this] using h) (fun j h => ?_) (c.y56 he) (fun j j' b τ1 τ2 h1 h2 => ?_) c.tok c.tdom he.size
 ·have h' : Γ.H b = some l := h
  rw [he.old b (c.Hlt (by rw [h']; simp))]; exact c.hH b l h
 ·have h' : Γ.κ b = some (o, sz) := h
  rw [he.old b (c.κlt (by rw [h']; simp))]; exact c.hκ b o sz h
 ·rw [Q7] at h
  split at h
  ·rename_i e
   cases h; subst e
   refine .inr (ho _ hp (fun _ _ _ _ => ⟨rfl, rfl⟩) (by simp [G.addKey, q1G]) ?_ ?_)
   ·cases hh : Γ.H w.heap.size with
    | none => exact hh
    | some l => exact absurd (c.Hlt (by rw [hh]; simp)) (Nat.lt_irrefl _)
   ·cases hh : Γ.Z w.heap.size with
    | none => exact hh
    | some l => exact absurd (c.Zlt (by rw [hh]; simp)) (Nat.lt_irrefl _)
  ·refine .inl ⟨h, fun hd => ⟨fun b p sz _ => ⟨rfl, rfl⟩, fun b τ hb => ?_⟩⟩
   obtain ⟨a1, a2, a3, _⟩ := c.q1n hb h hd
   exact ⟨he.old b a3, a1⟩
 ·rw [Q7]
  split
  ·simp
  ·rename_i e
   refine c.dom j ?_
   have : j ≠ k := fun h => e h.symm
   simpa [G.addKey, q1G, this] using h
 ·have key : ∀ j b τ', (Γ.addKey k w.heap.size τ).ι j = some (b, τ') → (j = k ∧ b = w.heap.size) ∨ (j ≠ k ∧ Γ.ι j = some (b, τ') ∧ b < w.heap.size) := by
   intro j b τ' h
   by_cases hjk : j = k
   ·left; simp [G.addKey, q1G, hjk] at h; exact ⟨hjk, h.1.symm⟩
   ·right
    have h' : Γ.ι j = some (b, τ') := by simpa [G.addKey, q1G, hjk] using h
    obtain ⟨_, _, _, hlt, _⟩ := c.y4E h'
    exact ⟨hjk, h', hlt⟩
  rcases key j b τ1 h1 with ⟨e1, e2⟩ | ⟨e1, e2, e3⟩ <;> rcases key j' b τ2 h2 with ⟨f1, f2⟩ | ⟨f1, f2, f3⟩
  ·exact .inl (by rw [e1, f1])
  ·omega
  ·omega
  ·refine (c.inj _ _ _ _ _ e2 f2).imp id (And.imp (Or.imp (fun h => ?_) (fun h => ?_)) id)
   ·unfold S.Q6 at h ⊢; rw [Q7, if_neg (fun e => e1 e.symm)]; exact h
   ·unfold S.Q6 at h ⊢; rw [Q7, if_neg (fun e => f1 e.symm)]; exact h
theorem z7I (c : y9 Γ w s) {n : Nat} (hn : s.obj (.l n) = none) {x : V} {cells : Array Value} {T : TypeId} (he : Ext w w') (hw : w'.heap[w.heap.size]? = some (.cells cells T (0, 0))) (hsz : x.ty.size ≤ cells.size)
  (hx : z6 Γ none [] x (chunk cells.toList 0 x.ty.size)) (hp : x.plain = true) (hns : x.j8 = true) :
  b5 Γ w { s with loc := (.l n, .box x) :: s.loc } (.ptr (.l n) [] x.ty) (.pointer (some ⟨w.heap.size, 0, none⟩)) w' := by
 obtain ⟨h1, h2, h3⟩ := c.addKey hn he (τ := x.ty) (o := .box x) fun Γ' hpr _ hι hH hZ => ⟨_, cells, T, hι, hH, hZ, hw, hsz, (hx.Z0 hpr (by trivial)).X7, hp, hns⟩
 exact ⟨_, h3, h2, h1, q3D (τ0 := x.ty) (by simp [G.addKey, q1G]) rfl⟩
def G.q1U (Γ : G) (b : Nat) (l : List Value) : G := { Γ with H := Y2 Γ.H b l }
theorem y9.q1U (c : y9 Γ w s) (he : Ext w w') {arr : Array Value} {T : TypeId} {fr : Nat × Nat} {l r : List Value} (hw : w'.heap[w.heap.size]? = some (.cells arr T fr)) (hl : arr.toList = l ++ r) :
  y9 (Γ.q1U w.heap.size l) w' s ∧ Q4 Γ (Γ.q1U w.heap.size l) ∧ GLe Γ (Γ.q1U w.heap.size l) := by
 have oH : ∀ b, b < w.heap.size → (Γ.q1U w.heap.size l).H b = Γ.H b := fun b hb => q0e _ _ (by omega)
 have hle : Γ.H.le (Γ.q1U w.heap.size l).H := fun b l' h => ⟨[], by rw [oH b (c.Hlt (by rw [h]; simp)), h]; simp⟩
 have hp : Q4 Γ (Γ.q1U w.heap.size l) := ⟨hle, fun _ _ h => h, fun t x L h => ⟨x, L, h, Nat.le_refl _, fun _ => rfl⟩, fun _ _ h => h⟩
 refine ⟨?_, hp, ⟨hle, rfl, fun b h => oH b (c.Zlt h), fun _ _ h => h, rfl, rfl, fun _ _ h => h, fun _ h => h⟩⟩
 refine c.change hp rfl rfl rfl he.oo (fun b l' h => ?_) (fun b h => he.old b (c.Zlt h)) (fun b o sz h => ?_) (fun k o h => ?_) (fun _ h _ => h) c.dom (c.y56 he) c.inj (fun t L h => ?_) c.tdom he.size
 ·by_cases hb : b = w.heap.size
  ·subst hb
   simp [G.q1U, Y2] at h; subst h
   exact ⟨arr, T, fr, r, hw, hl⟩
  ·have h' : Γ.H b = some l' := by simpa [G.q1U, Y2, hb] using h
   rw [he.old b (c.Hlt (by rw [h']; simp))]; exact c.hH b l' h'
 ·have h' : Γ.κ b = some (o, sz) := h
  have hlt := c.κlt (by rw [h']; simp)
  rw [he.old b hlt, oH b hlt]; exact c.hκ b o sz h
 ·refine .inl ⟨h, fun hd => ⟨fun b p sz hb => ⟨rfl, oH b (c.κlt (by rw [hb]; simp))⟩, fun b τ hb => ?_⟩⟩
  obtain ⟨a1, a2, a3, _⟩ := c.q1n hb h hd
  exact ⟨he.old b a3, by rw [oH b a3]; exact a1⟩
 ·obtain ⟨x, h1, h2⟩ := c.tok t L h
  refine ⟨x, h1, fun b pos sz hx => ?_⟩
  obtain ⟨a1, a2⟩ := h2 b pos sz hx
  rw [oH b (c.κlt (by rw [a2]; simp))]
  exact ⟨a1, a2⟩
def G.q8b (Γ : G) (b sz : Nat) : G := { Γ with σ := Y2 Γ.σ b sz }
theorem y9.q8b (c : y9 Γ w s) {b : Nat} {arr : Array Value} {T : TypeId} {fr : Nat × Nat} (hw : w.heap[b]? = some (.cells arr T fr)) :
  y9 (Γ.q8b b arr.size) w s ∧ Q4 Γ (Γ.q8b b arr.size) ∧ GLe Γ (Γ.q8b b arr.size) := by
 have hσ : ∀ b' sz, Γ.σ b' = some sz → (Γ.q8b b arr.size).σ b' = some sz := by
  intro b' sz h
  by_cases e : b' = b
  ·subst e
   obtain ⟨arr', T', fr', a1, a2⟩ := c.hσ b' sz h
   rw [hw] at a1; cases a1
   rw [← a2]; exact b6 _ _ _
  ·exact (q0e _ _ e).trans h
 have hp : Q4 Γ (Γ.q8b b arr.size) := ⟨Hp.le_refl _, fun _ _ h => h, fun t x L h => ⟨x, L, h, Nat.le_refl _, fun _ => rfl⟩, hσ⟩
 refine ⟨?_, hp, ⟨Hp.le_refl _, rfl, fun _ _ => rfl, fun _ _ h => h, rfl, rfl, hσ, fun _ h => h⟩⟩
 refine c.change hp rfl rfl rfl rfl c.hH (fun _ _ => rfl) c.hκ (fun k o h => ?_) (fun _ h _ => h) c.dom (fun b' sz h => ?_) c.inj c.tok c.tdom (Nat.le_refl _)
 ·refine .inl ⟨h, fun hd => ⟨fun b p sz _ => ⟨rfl, rfl⟩, fun b τ hb => ?_⟩⟩
  obtain ⟨a1, a2, a3, _⟩ := c.q1n hb h hd
  exact ⟨rfl, a1⟩
 ·by_cases e : b' = b
  ·subst e
   have : arr.size = sz := by
    have h' : Y2 Γ.σ b' arr.size b' = some sz := h
    rw [b6] at h'; exact Option.some.inj h'
   exact ⟨arr, T, fr, hw, this⟩
  ·exact c.hσ b' sz ((q0e _ _ e).symm.trans h)
def G.J9 (Γ : G) (t : Nat) (x : Option (Nat × Nat × Nat)) (L : Nat) : G :=
 { Γ with τ := Y2 Γ.τ t (x, L), κ := match x with | none => Γ.κ | some (b, _, sz) => Y2 Γ.κ b (.tok t, sz) }
theorem y9.J9 (c : y9 Γ w s) {t : Nat} (ht : s.known t = false) {x : Option (Nat × Nat × Nat)} {L : Nat}
  (hx : ∀ b pos sz, x = some (b, pos, sz) → Γ.κ b = none ∧ Γ.Z b = none ∧ (∃ l, Γ.H b = some l ∧ l.length = pos) ∧ ∃ arr T, w.heap[b]? = some (.cells arr T (0, 0)) ∧ arr.size = sz) :
  y9 (Γ.J9 t x L) w { s with tk := (t, some L) :: s.tk } ∧ Q4 Γ (Γ.J9 t x L) ∧ GLe Γ (Γ.J9 t x L) := by
 have hτ := c.y4D ht
 have oκ : ∀ b o, Γ.κ b = some o → (Γ.J9 t x L).κ b = some o := by
  intro b o h
  cases x with
  | none => exact h
  | some y =>
   obtain ⟨b', pos, sz⟩ := y
   have : b ≠ b' := by intro e; subst e; rw [(hx b pos sz rfl).1] at h; cases h
   simp [G.J9, Y2, this, h]
 have hp : Q4 Γ (Γ.J9 t x L) := ⟨Hp.le_refl _, fun _ _ h => h, fun u y M h => by
  have : u ≠ t := by intro e; subst e; rw [hτ] at h; cases h
  exact ⟨y, M, by simp [G.J9, Y2, this, h], Nat.le_refl _, fun _ => rfl⟩, fun _ _ h => h⟩
 refine ⟨?_, hp, ⟨Hp.le_refl _, rfl, fun _ _ => rfl, fun _ _ h => h, rfl, rfl, fun _ _ h => h, fun _ h => h⟩⟩
 refine c.change hp rfl rfl rfl rfl c.hH (fun b _ => rfl) (fun b o sz h => ?_) (fun k o h => ?_) (fun _ h _ => h) c.dom c.hσ c.inj (fun u M h => ?_) (fun u h => ?_) (Nat.le_refl _)
 ·cases hk : Γ.κ b with
  | some o' => rw [oκ b o' hk] at h; cases h; exact c.hκ b o sz hk
  | none =>
   cases x with
   | none => have h' : Γ.κ b = some (o, sz) := h; rw [hk] at h'; cases h'
   | some y =>
    obtain ⟨b', pos, sz'⟩ := y
    by_cases e : b = b'
    ·subst e
     simp [G.J9, Y2] at h
     obtain ⟨_, a2, ⟨l, a3, _⟩, a4⟩ := hx b pos sz' rfl
     rw [← h.2]
     obtain ⟨arr, T, q1, q2⟩ := a4
     exact ⟨a2, by show Γ.H b ≠ none; rw [a3]; simp, arr, T, q1, q2, by rw [← h.1]; trivial⟩
    ·simp [G.J9, Y2, e, hk] at h
 ·refine .inl ⟨h, fun hd => ⟨fun b p sz hb => ⟨by rw [oκ b _ hb, hb], rfl⟩, fun b τ hb => ?_⟩⟩
  obtain ⟨a1, a2, a3, _⟩ := c.q1n hb h hd
  exact ⟨rfl, a1⟩
 ·rw [q4n] at h
  split at h
  ·rename_i e
   subst e; cases h
   refine ⟨x, by simp [G.J9, Y2], fun b pos sz e => ?_⟩
   obtain ⟨a1, a2, a3, a4⟩ := hx b pos sz e
   subst e
   exact ⟨a3, by simp [G.J9, Y2]⟩
  ·rename_i e
   obtain ⟨y, h1, h2⟩ := c.tok u M h
   have e' : u ≠ t := fun h' => e h'.symm
   refine ⟨y, by simp [G.J9, Y2, e', h1], fun b pos sz hy => ?_⟩
   obtain ⟨a1, a2⟩ := h2 b pos sz hy
   exact ⟨a1, oκ b _ a2⟩
 ·rw [q3l]
  by_cases e : t = u
  ·simp [e]
  ·simp only [e, decide_false, Bool.false_or]
   have e' : u ≠ t := fun h' => e h'.symm
   refine c.tdom u ?_
   simpa [G.J9, Y2, e'] using h
end
end Go.E
namespace Go.E
open Go
def U2 (s : S) : V → Option (Nat × Ty × List C)
 | .sr k q lo n _ eb e => match s.obj k with
  | some (.box x) => match x.at q with
   | .d _ c => some (eb, e, (c.elems.drop lo).take n)
   | _ => none
  | _ => none
 | x => x.q3o
theorem q2V {H : Hp} {e : Ty} {ys : List C} {m : Nat} {news : List Value} (h1 : ys.length = m) (hl : news.length = m * e.size) (hr : ∀ i c', ys[i]? = some c' → y8 H e (chunk news (i * e.size) e.size) c') : q1D news := by
 intro v hv
 obtain ⟨j, hj⟩ := List.getElem?_of_mem hv
 have hjl : j < m * e.size := by rw [← hl]; exact (List.getElem?_eq_some_iff.1 hj).1
 have hs : 0 < e.size := by rcases Nat.eq_zero_or_pos e.size with h | h; · rw [h, Nat.mul_zero] at hjl; omega
                            ·exact h
 have hi : j / e.size < ys.length := by rw [h1]; exact (Nat.div_lt_iff_lt_mul hs).2 hjl
 have hdm := Nat.div_add_mod j e.size
 have hmod := Nat.mod_lt j hs
 refine (hr _ _ (List.getElem?_eq_getElem hi)).one v (List.mem_of_getElem? (i := j % e.size) ?_)
 rw [j4, if_pos hmod, Nat.mul_comm, hdm]; exact hj
section
variable {P : Program} {Γ : G} {w : World} {s : S}
theorem z2g {b off k : Nat} {arr : Array Value} {T : TypeId} {fr : Nat × Nat} {l r : List Value} (hb : w.heap[b]? = some (.cells arr T fr)) (hl : arr.toList = l ++ r) {j : Nat} {u : Value} (h : (chunk l off k)[j]? = some u) :
  w.cell? ⟨b, off + j, none⟩ = some u := by
 rw [j4] at h
 split at h
 ·have hlt := (List.getElem?_eq_some_iff.1 h).1
  have : arr[off + j]? = some u := by
   rw [← Array.getElem?_toList, hl, List.getElem?_append_left hlt]; exact h
  simp [World.cell?, hb, this]
 ·cases h
theorem z5U (c : y9 Γ w s) {Y : V} {v : Value} {eb : Nat} {e : Ty} {ys : List C} (hr : z8 Γ Y v) (he : U2 s Y = some (eb, e, ys)) {tx E' : TypeId} (hu : P.underlying tx = some (.slice E')) :
  ∃ n news, Src P e.size tx v n news w ∧ ys.length = n ∧ n ≤ maxLen ∧ n * eb ≤ 140737488355328 ∧ ∀ i c', ys[i]? = some c' → y8 Γ.H e (chunk news (i * e.size) e.size) c' := by
 -- a slice that is known as data
 have frozen : ∀ {eb : Nat} {e : Ty} {ys : List C}, Y.q3o = some (eb, e, ys) → ∃ n news, Src P e.size tx v n news w ∧ ys.length = n ∧ n ≤ maxLen ∧ n * eb ≤ 140737488355328 ∧ ∀ i c', ys[i]? = some c' → y8 Γ.H e (chunk news (i * e.size) e.size) c' := by
  intro eb e ys he
  obtain ⟨a, n, cap, rfl, h1, h2, h3, h4, h5⟩ := q1W hr he
  obtain ⟨a', n', cap', e1, _, e2, e3, e4, e5, e6⟩ := q0J h5
  simp at e1
  obtain ⟨rfl, rfl, rfl⟩ := e1
  simp only [C.elems] at e6
  have hz : ∀ {ad : Addr}, n = 0 → Src P e.size tx (.slice (some ad) n cap) n [] w := by
   intro ad h0
   subst h0
   exact Src.ofSlice w hu _ 0 cap [] (by simp) (by simp) (by simp)
  by_cases h0 : n = 0
  ·refine ⟨n, [], ?_, h1, by omega, h4, fun i c' hi => ?_⟩
   ·cases a with
    | none => subst h0; exact Src.ofNil w hu cap
    | some ad => exact hz h0
   ·have := (List.getElem?_eq_some_iff.1 hi).1; omega
  ·rcases e6 with e6 | ⟨b, off, l, rfl, hb, hs, hc⟩
   ·exact absurd e6 h0
   ·obtain ⟨arr, T, fr, r, hw, hl⟩ := c.hH b l hb
    have hnl : (chunk l off (n * e.size)).length = n * e.size := b8 _ _ _ hs
    have hrep : ∀ i c', ys[i]? = some c' → y8 Γ.H e (chunk (chunk l off (n * e.size)) (i * e.size) e.size) c' := by
     intro i c' hi
     have hil : i < n := by rw [← h1]; exact (List.getElem?_eq_some_iff.1 hi).1
     have hle : (i + 1) * e.size ≤ n * e.size := Nat.mul_le_mul_right _ hil
     rw [Nat.add_mul] at hle
     rw [Q9 _ _ _ _ _ (by omega)]; exact hc i c' hi
    exact ⟨n, chunk l off (n * e.size), Src.ofSlice w hu _ n cap _ hnl (fun j u hj => by rw [q2e]; exact z2g hw hl hj) (q2V h1 hnl hrep), h1, by omega, h4, hrep⟩
 cases Y <;> (try exact frozen he)
 case sr k q lo n cp eb' e' =>
  simp only [U2] at he
  cases ho : s.obj k with
  | none => simp [ho] at he
  | some o =>
   cases o with
   | map => simp [ho] at he
   | it => simp [ho] at he
   | dead => simp [ho] at he
   | box x =>
    simp only [ho] at he
    cases hx : x.at q with
    | d τ cc =>
     simp only [hx, Option.some.injEq, Prod.mk.injEq] at he
     obtain ⟨rfl, rfl, rfl⟩ := he
     rcases q1p hr with ⟨_, rfl, a, rfl⟩ | ⟨b, τ0, o0, m, cap, a, a1, a2, a3, rfl, a4, a5, a6, a7, _⟩
     ·refine ⟨0, [], ?_, by simp, by unfold maxLen; omega, by rw [Nat.zero_mul]; exact Nat.zero_le _, fun i c' hi => by simp at hi⟩
      cases a with
      | none => exact Src.ofNil w hu 0
      | some ad => exact Src.ofSlice w hu _ 0 0 [] (by simp) (by simp) (by simp)
     obtain ⟨b', cells, T, g1, g2, g3, g4, g5, g6, g7, _⟩ := c.own a1 ho
     rw [a1] at g1; cases g1
     obtain ⟨q1, q2, q3⟩ := g6.at_ a2 (by rw [hx]; simp) g7
     rw [hx] at q1 q3
     simp only [V.ty] at q1
     subst q1
     simp only [z6, y8] at q3
     obtain ⟨cs, rfl, r1, r2, r3, r4⟩ := q3
     simp only [C.elems]
     rw [b8 _ _ _ (by simpa using g5)] at q2
     have hlen : ((cs.drop lo).take n).length = n := by simp; omega
     have hmul : (lo + n) * e'.size ≤ m * e'.size := Nat.mul_le_mul_right _ a3
     rw [Nat.add_mul] at hmul
     simp only [Ty.size] at q2 r2 r4
     have hall : o0 + lo * e'.size + n * e'.size ≤ cells.toList.length := by simp; omega
     have hnl : (chunk cells.toList (o0 + lo * e'.size) (n * e'.size)).length = n * e'.size := b8 _ _ _ hall
     have hrep : ∀ i c', ((cs.drop lo).take n)[i]? = some c' → y8 Γ.H e' (chunk (chunk cells.toList (o0 + lo * e'.size) (n * e'.size)) (i * e'.size) e'.size) c' := by
      intro i c' hi
      rw [List.getElem?_take] at hi
      split at hi
      ·rename_i hin
       rw [List.getElem?_drop] at hi
       have := r4 _ _ hi
       have hle : (i + 1) * e'.size ≤ n * e'.size := Nat.mul_le_mul_right _ hin
       have hle2 : (lo + i + 1) * e'.size ≤ m * e'.size := Nat.mul_le_mul_right _ (by omega)
       rw [Nat.add_mul, Nat.add_mul] at hle2
       rw [Nat.add_mul] at hle this
       rw [Q9 _ _ _ _ _ (by omega), Q9 _ _ _ _ _ (by omega)] at this
       rw [Q9 _ _ _ _ _ (by omega)]
       rw [show 0 + (o0 + (lo * e'.size + i * e'.size)) = o0 + lo * e'.size + i * e'.size by omega] at this
       exact this
      ·cases hi
     rcases Nat.eq_zero_or_pos n with h0 | h0
     ·subst h0
      refine ⟨0, [], ?_, hlen, by omega, by rw [Nat.zero_mul]; exact Nat.zero_le _, fun i c' hi => by simp at hi⟩
      cases a with
      | none => exact Src.ofNil w hu cap
      | some ad => exact Src.ofSlice w hu _ 0 cap [] (by simp) (by simp) (by simp)
     ·have ha : a = some ⟨b, o0 + lo * e'.size, none⟩ := by rcases a4 with h | h; · omega
                                                            ·exact h
      subst ha
      exact ⟨n, _, Src.ofSlice w hu _ n cap _ hnl (fun j u hj => by rw [q2e]; exact z2g (r := []) g4 (by simp) hj) (q2V hlen hnl hrep), hlen, by omega, a7, hrep⟩
    | _ => simp [hx] at he
theorem y8M {Y : V} {v : Value} (hr : z8 Γ Y v) (hY : Y.isStr) {tx : TypeId} (hu : P.underlying tx = some .string) :
  ∃ n news, Src P 1 tx v n news w ∧ (Y.toStr.map fun b => C.int b.toNat).length = n ∧ n ≤ maxLen ∧ n * 1 ≤ 140737488355328 ∧
   ∀ i c', (Y.toStr.map fun b => C.int b.toNat)[i]? = some c' → y8 Γ.H (.int .u8) (chunk news (i * 1) 1) c' := by
 obtain ⟨cc, rfl⟩ := V.q5o hY
 obtain ⟨rfl, _, hl⟩ := q1Z hr
 have hsz : (⟨cc.toStr.toArray⟩ : ByteArray).size = cc.toStr.length := by simp [ByteArray.size]
 refine ⟨cc.toStr.length, byteCells ⟨cc.toStr.toArray⟩, ?_, by simp [V.toStr], by unfold maxLen; omega, by omega, fun i c' hi => ?_⟩
 ·have := Src.ofString w hu (⟨cc.toStr.toArray⟩ : ByteArray)
  rwa [hsz] at this
 ·simp only [V.toStr, List.getElem?_map] at hi
  cases hc : cc.toStr[i]? with
  | none => simp [hc] at hi
  | some b =>
   simp [hc] at hi
   subst hi
   have : chunk (byteCells ⟨cc.toStr.toArray⟩) (i * 1) 1 = [.int .u8 b.toNat] := by
    apply List.ext_getElem?
    intro j
    rw [j4]
    by_cases hj : j < 1
    ·have : j = 0 := by omega
     subst this
     simp [byteCells, hc]
    ·simp [hj]
   rw [this]
   simp only [y8]
   refine ⟨_, rfl, rfl, ?_, ?_⟩
   ·have : IntKind.u8.min = 0 := by decide
    omega
   ·have : IntKind.u8.max = 255 := by decide
    have := b.toNat_lt
    omega
end
theorem q96 {H : Hp} {e : Ty} {n m : Nat} {xs ys : List C} {olds news rest : List Value} (h1 : xs.length = n) (h2 : ys.length = m) (h3 : olds.length = n * e.size) (h4 : news.length = m * e.size)
  (hx : ∀ i c', xs[i]? = some c' → y8 H e (chunk olds (i * e.size) e.size) c') (hy : ∀ i c', ys[i]? = some c' → y8 H e (chunk news (i * e.size) e.size) c') :
  ∀ i c', (xs ++ ys)[i]? = some c' → y8 H e (chunk (olds ++ news ++ rest) (i * e.size) e.size) c' := by
 intro i c' hi
 by_cases hlt : i < n
 ·rw [List.getElem?_append_left (by omega)] at hi
  have := hx i c' hi
  have hb : (i + 1) * e.size ≤ n * e.size := Nat.mul_le_mul_right _ (by omega)
  rw [Nat.add_mul] at hb
  rw [List.append_assoc, q25 _ _ _ _ (by omega)]; exact this
 ·rw [List.getElem?_append_right (by omega), h1] at hi
  have hil : i - n < m := by rw [← h2]; exact (List.getElem?_eq_some_iff.1 hi).1
  have := hy _ c' hi
  have hb : (i - n + 1) * e.size ≤ m * e.size := Nat.mul_le_mul_right _ (by omega)
  rw [Nat.add_mul] at hb
  have hmul : i * e.size = n * e.size + (i - n) * e.size := by rw [← Nat.add_mul]; congr 1; omega
  have e1 : chunk (olds ++ news ++ rest) (i * e.size) e.size = chunk news ((i - n) * e.size) e.size := by
   simp only [chunk, List.append_assoc]
   rw [hmul, ← h3, List.drop_append, List.drop_eq_nil_of_le (by omega), List.nil_append, Nat.add_sub_cancel_left, List.drop_append_of_le_length (by omega), List.take_append_of_le_length (by simp; omega)]
  rw [e1]; exact this
end Go.E
namespace Go.E
open Go
def v8 (P : Program) (T : TypeId) : TypeId := match P.underlying T with
 | some (.slice e) => e
 | _ => 0
section
variable {P : Program} {Γ : G} {w w' : World} {s : S}
theorem q27 (hP : u6 P = true) {T : TypeId} {eb : Nat} {e : Ty} (h : ty P T = .slice eb e) :
  P.underlying T = some (.slice (v8 P T)) ∧ e = tyF P 11 (v8 P T) ∧ eb = P.bytesOf (v8 P T) ∧ v8 P T < P.types.size := by
 obtain ⟨E, h1, h2, h3, h4⟩ := q1Y hP h
 have : v8 P T = E := by simp [v8, h1]
 rw [this]; exact ⟨h1, h2, h3, h4⟩
theorem q5r {T : TypeId} (h : U4 P T = true) : ∃ i z, P.info? T = some i ∧ i.zero = some z ∧ F7 (ty P T) z.cells.toList = true ∧ F7 (tyF P 11 T) z.cells.toList = true := by
 unfold U4 at h
 cases hi : P.info? T with
 | none => simp [hi] at h
 | some i =>
  cases hz : i.zero with
  | none => simp [hi, hz] at h
  | some z => simp [hi, hz] at h; exact ⟨i, z, rfl, hz, h.1.1, h.2⟩
theorem q1w {τ : Ty} {vs : List Value} (h : F7 τ vs = true) : vs.length = τ.size := (H6 (H := fun _ => none) h).length
theorem z2F {w w' : World} {b : Nat} {o : Obj} (hw : w'.heap[b]? = some o) (oth : ∀ b', b' ≠ b → w'.heap[b']? = w.heap[b']?) : w.heap.size ≤ w'.heap.size := by
 cases Nat.lt_or_ge w'.heap.size w.heap.size with
 | inr h => exact h
 | inl hlt =>
  have h1 := Q1 hw
  have h3 := oth w'.heap.size (by omega)
  rw [Array.getElem?_eq_none (Nat.le_refl _), Array.getElem?_eq_getElem hlt] at h3
  cases h3
theorem y9.y9d (c : y9 Γ w s) {t L L' b pos sz : Nat} {l ws r : List Value} {arr' : Array Value} {T : TypeId} (hl : s.live t = some L) (hτ : Γ.τ t = some (some (b, pos, sz), L)) (hw : w'.heap[b]? = some (.cells arr' T (0, 0)))
  (hH : Γ.H b = some l) (hκ : Γ.κ b = some (.tok t, sz)) (harr : arr'.toList = l ++ ws ++ r) (hsz : arr'.size = sz) (oth : ∀ b', b' ≠ b → w'.heap[b']? = w.heap[b']?) (hLL : L < L') (hoo : oof w' = oof w) :
  ∃ Γ', Γ'.H b = some (l ++ ws) ∧ Γ'.τ t = some (some (b, (l ++ ws).length, sz), L') ∧ y9 Γ' w' { s with tk := (t, some L') :: s.tk } ∧ Q4 Γ Γ' ∧ GLe Γ Γ' := by
 have hz : Γ.Z b = none := (c.hκ b _ _ hκ).1
 refine ⟨{ Γ with H := Y2 Γ.H b (l ++ ws), τ := Y2 Γ.τ t (some (b, (l ++ ws).length, sz), L') }, b6 _ _ _, b6 _ _ _, ?_⟩
 have hle : Γ.H.le (Y2 Γ.H b (l ++ ws)) := by
  intro b' l' h
  by_cases e : b' = b
  ·subst e; rw [hH] at h; cases h; exact ⟨ws, b6 _ _ _⟩
  ·exact ⟨[], by rw [q0e _ _ e, h]; simp⟩
 have hp : Q4 Γ { Γ with H := Y2 Γ.H b (l ++ ws), τ := Y2 Γ.τ t (some (b, (l ++ ws).length, sz), L') } := by
  refine ⟨hle, fun _ _ h => h, fun u y M h => ?_, fun _ _ h => h⟩
  by_cases e : u = t
  ·subst e; rw [hτ] at h; cases h
   exact ⟨_, L', b6 _ _ _, by omega, fun e => by omega⟩
  ·exact ⟨y, M, (q0e _ _ e).trans h, Nat.le_refl _, fun _ => rfl⟩
 refine ⟨?_, hp, ⟨hle, rfl, fun b' h => q0e _ _ (fun e => by subst e; exact h hz), fun _ _ h => h, rfl, rfl, fun _ _ h => h, fun _ h => h⟩⟩
 refine c.change hp rfl rfl rfl hoo (fun b' l' h => ?_) (fun b' h => oth b' (fun e => by subst e; exact h hz)) (fun b' o sz' h => ?_) (fun k o h => ?_) (fun _ h _ => h) c.dom (fun b' sz' h => ?_) c.inj (fun u M h => ?_) (fun u h => ?_) (z2F hw oth)
 ·by_cases e : b' = b
  ·subst e
   have h' : l ++ ws = l' := by simpa [Y2] using h
   subst h'
   exact ⟨arr', T, (0, 0), r, hw, harr⟩
  ·have h' : Γ.H b' = some l' := by simpa [Y2, e] using h
   rw [oth b' e]; exact c.hH b' l' h'
 ·have h' : Γ.κ b' = some (o, sz') := h
  by_cases e : b' = b
  ·subst e
   rw [hκ] at h'; cases h'
   exact ⟨hz, by simp [Y2], arr', T, hw, hsz, trivial⟩
  ·obtain ⟨a1, a2, a3⟩ := c.hκ b' o sz' h'
   exact ⟨a1, by simpa [Y2, e] using a2, by rw [oth b' e]; exact a3⟩
 ·refine .inl ⟨h, fun hd => ⟨fun b' p sz' hb => ?_, fun b' τ hb => ?_⟩⟩
  ·have hb' : Γ.κ b' = some (.home k p, sz') := hb
   have e : b' ≠ b := by intro e; subst e; rw [hκ] at hb'; cases hb'
   exact ⟨rfl, q0e _ _ e⟩
  ·obtain ⟨a1, a2, a3, _⟩ := c.q1n hb h hd
   have e : b' ≠ b := by intro e; subst e; rw [hH] at a1; cases a1
   exact ⟨oth b' e, by simpa [Y2, e] using a1⟩
 ·obtain ⟨arr, T1, fr, a1, a2⟩ := c.hσ b' sz' h
  by_cases e : b' = b
  ·subst e
   obtain ⟨_, _, arr2, T2, a3, a4, _⟩ := c.hκ b' _ _ hκ
   rw [a1] at a3; cases a3
   exact ⟨arr', T, (0, 0), hw, by omega⟩
  ·exact ⟨arr, T1, fr, by rw [oth b' e]; exact a1, a2⟩
 ·rw [q4n] at h
  split at h
  ·rename_i e
   subst e; cases h
   refine ⟨_, b6 _ _ _, fun b' pos' sz' e => ?_⟩
   cases e
   exact ⟨⟨_, b6 _ _ _, rfl⟩, hκ⟩
  ·rename_i e
   have e' : u ≠ t := fun h' => e h'.symm
   obtain ⟨y, h1, h2⟩ := c.tok u M h
   refine ⟨y, (q0e _ _ e').trans h1, fun b' pos' sz' hy => ?_⟩
   obtain ⟨a1, a2⟩ := h2 b' pos' sz' hy
   have e2 : b' ≠ b := by intro e2; subst e2; rw [hκ] at a2; simp at a2; exact e a2.1
   exact ⟨by simpa [Y2, e2] using a1, a2⟩
 ·rw [q3l]
  by_cases e : t = u
  ·simp [e]
  ·have e' : u ≠ t := fun h' => e h'.symm
   simp only [e, decide_false, Bool.false_or]
   refine c.tdom u ?_
   simpa [Y2, e'] using h
theorem y9.y83 (c : y9 Γ w s) {t L L' b sz : Nat} {x : Option (Nat × Nat × Nat)} {l : List Value} {arr : Array Value} {T : TypeId} (hτ : Γ.τ t = some (x, L)) (hw : w.heap[b]? = some (.cells arr T (0, 0)))
  (hH : Γ.H b = some l) (hκ : Γ.κ b = none) (hz : Γ.Z b = none) (hsz : arr.size = sz) (hLL : L < L') :
  ∃ Γ', Γ'.H = Γ.H ∧ Γ'.τ t = some (some (b, l.length, sz), L') ∧ y9 Γ' w { s with tk := (t, some L') :: s.tk } ∧ Q4 Γ Γ' ∧ GLe Γ Γ' := by
 refine ⟨{ Γ with τ := Y2 Γ.τ t (some (b, l.length, sz), L'), κ := Y2 Γ.κ b (.tok t, sz) }, rfl, b6 _ _ _, ?_⟩
 have oκ : ∀ b' o, Γ.κ b' = some o → Y2 Γ.κ b (.tok t, sz) b' = some o := by
  intro b' o h
  have : b' ≠ b := by intro e; subst e; rw [hκ] at h; cases h
  rw [q0e _ _ this, h]
 have hp : Q4 Γ { Γ with τ := Y2 Γ.τ t (some (b, l.length, sz), L'), κ := Y2 Γ.κ b (.tok t, sz) } := by
  refine ⟨Hp.le_refl _, fun _ _ h => h, fun u y M h => ?_, fun _ _ h => h⟩
  by_cases e : u = t
  ·subst e; rw [hτ] at h; cases h
   exact ⟨_, L', b6 _ _ _, by omega, fun e => by omega⟩
  ·exact ⟨y, M, (q0e _ _ e).trans h, Nat.le_refl _, fun _ => rfl⟩
 refine ⟨?_, hp, ⟨Hp.le_refl _, rfl, fun _ _ => rfl, fun _ _ h => h, rfl, rfl, fun _ _ h => h, fun _ h => h⟩⟩
 refine c.change hp rfl rfl rfl rfl c.hH (fun b' _ => rfl) (fun b' o sz' h => ?_) (fun k o h => ?_) (fun _ h _ => h) c.dom c.hσ c.inj (fun u M h => ?_) (fun u h => ?_) (Nat.le_refl _)
 ·by_cases e : b' = b
  ·subst e
   have h' : sz = sz' := by have := h; simp [Y2] at this; exact this.2
   subst h'
   exact ⟨hz, by rw [hH]; simp, arr, T, hw, hsz, by have := h; simp [Y2] at this; rw [← this]; trivial⟩
  ·exact c.hκ b' o sz' ((q0e _ _ e).symm.trans h)
 ·refine .inl ⟨h, fun hd => ⟨fun b' p sz' hb => ⟨(oκ b' _ hb).trans hb.symm, rfl⟩, fun b' τ hb => ?_⟩⟩
  obtain ⟨a1, _⟩ := c.q1n hb h hd
  exact ⟨rfl, a1⟩
 ·rw [q4n] at h
  split at h
  ·rename_i e
   subst e; cases h
   refine ⟨_, b6 _ _ _, fun b' pos' sz' e => ?_⟩
   cases e
   exact ⟨⟨l, hH, rfl⟩, b6 _ _ _⟩
  ·rename_i e
   have e' : u ≠ t := fun h' => e h'.symm
   obtain ⟨y, h1, h2⟩ := c.tok u M h
   refine ⟨y, (q0e _ _ e').trans h1, fun b' pos' sz' hy => ?_⟩
   obtain ⟨a1, a2⟩ := h2 b' pos' sz' hy
   exact ⟨a1, oκ b' _ a2⟩
 ·rw [q3l]
  by_cases e : t = u
  ·simp [e]
  ·have e' : u ≠ t := fun h' => e h'.symm
   simp only [e, decide_false, Bool.false_or]
   refine c.tdom u ?_
   simpa [Y2, e'] using h
theorem y9.y8T (c : y9 Γ w s) {t L : Nat} (hl : s.live t = some L) : y9 Γ w { s with tk := (t, some L) :: s.tk } := by
 refine c.congr (fun _ => rfl) (fun u => ?_) (fun u h => ?_)
 ·rw [q4n]
  split
  ·rename_i e; rw [← e, hl]
  ·rfl
 ·rw [q3l, h]; simp
theorem q7X (b : Nat) : ∀ (vs : List Value) (o : Nat) (w : World) (arr : Array Value) (T : TypeId) (fr : Nat × Nat), w.heap[b]? = some (.cells arr T fr) → o + vs.length ≤ arr.size →
  ∃ arr', (w.setCells b o vs).heap[b]? = some (.cells arr' T fr) ∧ arr'.toList = j3 arr.toList o vs
 | [], o, w, arr, T, fr, h, _ => ⟨arr, h, by simp [j3]⟩
 | v :: vs, o, w, arr, T, fr, h, hl => by
  have h1 : (w.setCell ⟨b, o, none⟩ v).heap[b]? = some (.cells (arr.setIfInBounds o v) T fr) := by
   simp [World.setCell, Array.getElem?_modify, h]
  obtain ⟨arr', h2, h3⟩ := q7X b vs (o + 1) _ _ T fr h1 (by simp at hl ⊢; omega)
  refine ⟨arr', h2, ?_⟩
  rw [h3]
  apply List.ext_getElem?
  intro j
  simp only [List.length_cons] at hl
  rw [U5 (by simp; omega), U5 (by simp; omega)]
  simp only [List.length_cons, Array.toList_setIfInBounds, List.getElem?_set, Array.length_toList]
  by_cases h4 : o + 1 ≤ j ∧ j < o + 1 + vs.length
  ·rw [if_pos h4, if_pos (by omega), show j - o = (j - (o + 1)) + 1 by omega, List.getElem?_cons_succ]
  ·rw [if_neg h4]
   by_cases h5 : o = j
   ·subst h5; rw [if_pos rfl, if_pos (by omega), if_pos (by omega)]; simp
   ·rw [if_neg h5, if_neg (by omega)]
theorem q6E (b : Nat) : ∀ (vs : List Value) (o : Nat) (w : World) (b' : Nat), b' ≠ b → (w.setCells b o vs).heap[b']? = w.heap[b']?
 | [], _, _, _, _ => rfl
 | v :: vs, o, w, b', h => by
  rw [World.setCells, q6E b vs _ _ b' h]
  have hb : b ≠ b' := fun e => h e.symm
  simp [World.setCell, Array.getElem?_modify, hb]
def q6V (o : Oper) (x y : Operand) (t t' : TypeId) : Prop := o.op = .call { callee := .builtin .append, args := #[x, y], argTypes := #[t, t'] }
theorem q1J {o : Oper} {x y : Operand} {t t' : TypeId} (ho : q6V o x y t t') {ρ : Operand → Value} {w w' : World} {v : Value}
  (h : (Builtin.append_ #[t, t'] o.type #[ρ x, ρ y]).run P w = .ok v w') : (execOp ρ o).run P w = .ok (.value v) w' := by
 unfold q6V at ho
 unfold execOp
 simp [ho, resolve, invoke, builtin, h]
theorem q6r {t tx T : TypeId} {E : TypeId} {i : TypeInfo} (ht : P.underlying t = some (.slice E)) (hi : P.info? E = some i) {a : Option Addr} {n cap : Nat} {x : Value} {news : List Value} (hs : Src P i.size tx x 0 news w) (h : n ≤ cap) :
  (Builtin.append_ #[t, tx] T #[.slice a n cap, x]).run P w = .ok (.slice a n cap) w := by
 have hn : news = [] := List.eq_nil_of_length_eq_zero (by rw [hs.newsLen]; simp)
 subst hn
 rcases hs.kind with ⟨e', hk⟩ | hk <;> cases a <;> simp [Builtin.append_, run_underlying ht, run_underlying hk, sizeOf, typeInfo, hi, hs.len, h, hs.cells, storeCells]
def q8f (P : Program) (s : S) (t' : TypeId) (eb : Nat) (e : Ty) (Y : V) (ys : List C) : Prop :=
 ((∃ E', P.underlying t' = some (.slice E')) ∧ (U2 s Y = some (eb, e, ys) ∨ (Y = .nilc ∧ ys = []))) ∨
 (P.underlying t' = some .string ∧ Y.isStr ∧ e = .int .u8 ∧ eb = 1 ∧ ys = Y.toStr.map fun b => C.int b.toNat)
theorem z0i (c : y9 Γ w s) {t' : TypeId} {Y : V} {v : Value} {eb : Nat} {e : Ty} {ys : List C} (hr : z8 Γ Y v) (h : q8f P s t' eb e Y ys) :
  ∃ n news, Src P e.size t' v n news w ∧ ys.length = n ∧ n ≤ maxLen ∧ n * eb ≤ 140737488355328 ∧ ∀ i c', ys[i]? = some c' → y8 Γ.H e (chunk news (i * e.size) e.size) c' := by
 rcases h with ⟨⟨E', hu⟩, h | ⟨rfl, rfl⟩⟩ | ⟨hu, h1, rfl, rfl, rfl⟩
 ·exact z5U c hr h hu
 ·rw [J0 hr]
  exact ⟨0, [], Src.ofNil w hu 0, rfl, Nat.zero_le _, by rw [Nat.zero_mul]; exact Nat.zero_le _, fun i c' hi => by simp at hi⟩
 ·exact y8M hr h1 hu
theorem z4S (c : y9 Γ w s) : Γ.κ w.heap.size = none ∧ Γ.Z w.heap.size = none := by
 refine ⟨?_, ?_⟩
 ·cases hh : Γ.κ w.heap.size with
  | none => rfl
  | some x => exact absurd (c.κlt (by rw [hh]; simp)) (Nat.lt_irrefl _)
 ·cases hh : Γ.Z w.heap.size with
  | none => rfl
  | some x => exact absurd (c.Zlt (by rw [hh]; simp)) (Nat.lt_irrefl _)
theorem q9N (hP : u6 P = true) (c : y9 Γ w s) {o : Oper} {a : Act} {x y : Operand} {t t' : TypeId} {n : Nat} {X Y : V} {ys : List C} {eb : Nat} {e : Ty} (ho : q6V o x y t t')
  (ht : ty P t = .slice eb e) (hz : U4 P (v8 P t) = true) (hn : s.known n = false)
  (hx : z8 Γ X (a.eval x)) (hX : X = .nilc ∨ ∃ eb' e', X = .emp eb' e') (hy : z8 Γ Y (a.eval y)) (hel : q8f P s t' eb e Y ys) :
  j5 P o a w (b5 Γ w { s with tk := (n, some ys.length) :: s.tk } (.sl eb e ys n)) := by
 obtain ⟨hu, he, heb, hE⟩ := q27 hP ht
 obtain ⟨a0, hx0⟩ : ∃ a0, a.eval x = .slice a0 0 0 := by
  rcases hX with rfl | ⟨eb', e', rfl⟩
  ·exact ⟨none, J0 hx⟩
  ·obtain ⟨h1, _⟩ := (k7 rfl rfl).1 hx
   simp only [z6] at h1
   obtain ⟨a0, h1⟩ := h1
   exact ⟨a0, by simpa using h1⟩
 obtain ⟨m, news, hs, r1, r2, r3, r4⟩ := z0i c hy hel
 obtain ⟨i, z, hi, hzz, hzo, hzo2⟩ := q5r hz
 have hcz := q1w hzo
 have hsz : i.size = e.size := by
  have := Z4 hP 11 (v8 P t)
  rw [he, this]; simp [Program.cellsOf, hi]
 have hby : i.bytes = eb := by rw [heb]; simp [Program.bytesOf, hi]
 rw [← hsz] at hs
 by_cases hm : m = 0
 ·subst hm
  have hys : ys = [] := List.eq_nil_of_length_eq_zero r1
  subst hys
  obtain ⟨c1, p1, g1⟩ := c.J9 hn (x := none) (L := 0) (fun _ _ _ h => by cases h)
  refine j5.val (v := .slice a0 0 0) (w' := w) (q1J ho ?_) ⟨_, g1, p1, c1, (k7 rfl rfl).2 ⟨?_, rfl⟩⟩
  ·rw [hx0]; exact q6r hu hi hs (Nat.le_refl _)
  ·simp only [z6]
   exact ⟨a0, 0, 0, rfl, j7 rfl (Nat.le_refl _) (Nat.zero_le _) (by rw [Nat.zero_mul]; exact Nat.zero_le _) (.inl rfl), none, 0, by simp [G.J9, Y2], Nat.le_refl _, fun _ => rfl⟩
 ·have hmx' : ((0 + m : Nat) : Int) ≤ 9223372036854775807 := by unfold maxLen at r2; omega
  have hge := grownCap_ge w (0 + m) 0 (v8 P t)
  have hcm := grownCap_le_maxLen w (0 + m) 0 (v8 P t) (by omega)
  have hold : (Builtin.firstCells i.size 0 (.slice a0 0 0)).run P w.drew = .ok ([] : List Value).toArray w.drew := by
   cases a0 with
   | none => exact run_firstCells_none w.drew i.size 0 0 0
   | some ad => exact run_firstCells_some w.drew i.size 0 ad 0 0 [] (by simp) (by simp)
  have run := run_append_grow_src (P := P) w t t' o.type _ i z hu hi hzz a0 0 0 [] hold (a.eval y) m news hs (by omega) hmx' (by
   rw [hby]; exact growslice_fits (by omega) (by rw [Nat.zero_add]; exact r3))
  rw [← hx0] at run
  have he : Ext w (w.drew.alloc (.cells ((([] : List Value) ++ news).toArray ++ Builtin.zeroCells z.cells (grownCap w (0 + m) 0 (v8 P t) - (0 + m))) (v8 P t))) := (Ext.drew w).trans (Ext.alloc _ _)
  have hnew := heap_alloc_new w.drew (.cells ((([] : List Value) ++ news).toArray ++ Builtin.zeroCells z.cells (grownCap w (0 + m) 0 (v8 P t) - (0 + m))) (v8 P t))
  obtain ⟨c1, p1, g1⟩ := c.q1U he (l := news) (r := (Builtin.zeroCells z.cells (grownCap w (0 + m) 0 (v8 P t) - (0 + m))).toList) hnew (by simp)
  obtain ⟨k1, k2⟩ := z4S c
  have hzc : z.cells.size = e.size := by
   have h1 := Z4 hP 11 (v8 P t)
   have h2 := q6C hP (v8 P t)
   rw [‹e = _›, h1, ← h2, ← hcz]; simp
  have hnl : news.length = m * e.size := by rw [hs.newsLen, hsz]
  have hsize : ((([] : List Value) ++ news).toArray ++ Builtin.zeroCells z.cells (grownCap w (0 + m) 0 (v8 P t) - (0 + m))).size = grownCap w (0 + m) 0 (v8 P t) * e.size := by
   simp only [List.nil_append, Array.size_append, List.size_toArray, size_zeroCells, hzc, hnl, ← Nat.add_mul]
   congr 1; omega
  obtain ⟨c2, p2, g2⟩ := c1.J9 (t := n) hn (x := some (w.heap.size, news.length, grownCap w (0 + m) 0 (v8 P t) * e.size)) (L := ys.length) (fun b pos sz h => by
   cases h
   exact ⟨k1, k2, ⟨news, b6 _ _ _, rfl⟩, _, _, hnew, hsize⟩)
  refine j5.val (q1J ho run) ⟨_, g1.trans g2, p1.trans p2, c2, (k7 rfl rfl).2 ⟨?_, rfl⟩⟩
  simp only [z6]
  rw [show 0 + m = m by omega] at hge hcm ⊢
  refine ⟨_, m, _, rfl, j7 r1 hge hcm r3 (.inr ⟨w.heap.size, 0, news, rfl, b6 _ _ _, by omega, fun i c' hi => ?_⟩), _, _, b6 _ _ _, Nat.le_refl _, fun _ => ⟨rfl, hnl.symm, Nat.le_refl _⟩⟩
  rw [Nat.zero_add]
  exact (r4 i c' hi).mono p1.H
theorem z9B (hP : u6 P = true) (c : y9 Γ w s) {o : Oper} {a : Act} {x y : Operand} {t t' : TypeId} {tk : Nat} {Y : V} {cs ys : List C} {eb : Nat} {e : Ty} (ho : q6V o x y t t')
  (ht : ty P t = .slice eb e) (hz : U4 P (v8 P t) = true) (hl : s.live tk = some cs.length)
  (hx : z8 Γ (.sl eb e cs tk) (a.eval x)) (hy : z8 Γ Y (a.eval y)) (hel : q8f P s t' eb e Y ys) (hlen : (cs.length + ys.length) * eb ≤ 140737488355328) (hlen2 : cs.length + ys.length ≤ maxLen) :
  j5 P o a w (b5 Γ w { s with tk := (tk, some (cs.length + ys.length)) :: s.tk } (.sl eb e (cs ++ ys) tk)) := by
 obtain ⟨hu, he, heb, hE⟩ := q27 hP ht
 obtain ⟨m, news, hs, r1, r2, r3, r4⟩ := z0i c hy hel
 obtain ⟨n, olds, hso, o1, o2, o3, o4⟩ := z5U (P := P) (tx := t) c hx (show U2 s (.sl eb e cs tk) = some (eb, e, cs) from rfl) hu
 obtain ⟨h1, _⟩ := (k7 rfl rfl).1 hx
 simp only [z6] at h1
 obtain ⟨aa, n', cap, hv, hrc, x0, L0, hτ, hL1, hL2⟩ := h1
 simp at hv
 obtain ⟨x1, hτ1, htok⟩ := c.tok tk _ hl
 rw [hτ] at hτ1; cases hτ1
 have hL2 := hL2 rfl
 obtain ⟨_, n1, cap1, e1, _, e2, hle, hcap, hnb, hm⟩ := q0J hrc
 simp at e1
 obtain ⟨rfl, rfl, rfl⟩ := e1
 simp only [C.elems] at e2 hm
 have hnn : n = n' := by omega
 subst hnn
 obtain ⟨i, z, hi, hzz, hzo, hzo2⟩ := q5r hz
 have hcz := q1w hzo
 have hsz : i.size = e.size := by
  have := Z4 hP 11 (v8 P t)
  rw [he, this]; simp [Program.cellsOf, hi]
 have hby : i.bytes = eb := by rw [heb]; simp [Program.bytesOf, hi]
 have hzc : z.cells.size = e.size := by
  have h1 := Z4 hP 11 (v8 P t)
  have h2 := q6C hP (v8 P t)
  rw [‹e = _›, h1, ← h2, ← hcz]; simp
 rw [← hsz] at hs hso
 have hnl : news.length = m * e.size := by rw [hs.newsLen, hsz]
 have hol : olds.length = n * e.size := by rw [hso.newsLen, hsz]
 by_cases hm0 : m = 0
 ·subst hm0
  have hys : ys = [] := List.eq_nil_of_length_eq_zero r1
  subst hys
  refine j5.val (v := .slice aa n cap) (w' := w) (q1J ho ?_) ⟨Γ, .refl Γ, .refl Γ, ?_, ?_⟩
  ·rw [hv]; exact q6r hu hi hs hle
  ·exact c.y8T (by simpa using hl)
  ·rw [List.append_nil, ← hv]; exact hx
 ·have hys : 0 < ys.length := by omega
  have hlen' : (cs ++ ys).length = n + m := by rw [List.length_append, o1, r1]
  have hmx : n + m ≤ maxLen := by omega
  have hmx' : ((n + m : Nat) : Int) ≤ 9223372036854775807 := by unfold maxLen at hmx; omega
  have hbb : (n + m) * eb ≤ 140737488355328 := by rw [← o1, ← r1]; exact hlen
  by_cases hroom : n + m ≤ cap
  ·-- in the room behind
   cases x0 with
   | none => simp only at hL2; omega
   | some y0 =>
    obtain ⟨b, pos, sz⟩ := y0
    simp only at hL2
    obtain ⟨rfl, hpos, hcs⟩ := hL2
    obtain ⟨⟨l, hH, hlp⟩, hκ⟩ := htok b pos sz rfl
    obtain ⟨hZ, _, arr, T, hw, has, _⟩ := c.hκ b _ _ hκ
    have hfit : n * e.size + m * e.size ≤ arr.size := by
     rw [has, ← Nat.add_mul]; exact Nat.le_trans (Nat.mul_le_mul_right _ hroom) hcs
    have run := run_append_room_src (P := P) w t t' o.type _ i hu hi b 0 n cap (a.eval y) m news hs hroom
     (fun j hj => by
      rw [hnl] at hj
      simp [World.cell?, hw]
      rw [hsz]; omega)
     (fun j hj => by simp [World.frozen?, hw])
    rw [← hv] at run
    rw [Nat.zero_add, hsz] at run
    obtain ⟨arr', hw', harr'⟩ := q7X b news (n * e.size) w arr T (0, 0) hw (by rw [hnl]; exact hfit)
    obtain ⟨arr0, T0, fr0, r0, hw0, hl0⟩ := c.hH b l hH
    rw [hw] at hw0; cases hw0
    have hsplit : arr'.toList = l ++ news ++ r0.drop news.length := by
     rw [harr', hl0]
     unfold j3
     rw [hpos, ← hlp, List.take_left', List.drop_append, List.drop_eq_nil_of_le (by omega)]
     ·simp
     ·rfl
    obtain ⟨Γ', q1, q2, q3, q4, q5⟩ := c.y9d (w' := w.setCells b (n * e.size) news) hl hτ hw' hH hκ hsplit (by rw [← has, ← Array.length_toList, ← Array.length_toList, harr', U6 (by rw [hnl]; simpa using hfit)])
     (fun b' hb' => q6E b news _ w b' hb') (show cs.length < cs.length + ys.length by omega) (by unfold oof; rw [World.os_setCells, World.output_setCells])
    refine j5.val (q1J ho run) ⟨Γ', q5, q4, q3, (k7 rfl rfl).2 ⟨?_, rfl⟩⟩
    simp only [z6]
    refine ⟨_, n + m, cap, rfl, j7 hlen' hroom hcap hbb (.inr ⟨b, 0, l ++ news, rfl, q1, ?_, fun j c' hj => ?_⟩), _, _, q2, by rw [List.length_append]; exact Nat.le_refl _, fun _ => ⟨rfl, ?_, hcs⟩⟩
    ·simp only [List.length_append, hnl, hlp]; rw [Nat.add_mul]; omega
    ·rw [Nat.zero_add]
     have hold : ∀ i c', cs[i]? = some c' → y8 Γ'.H e (chunk l (i * e.size) e.size) c' := by
      intro i' c'' hi'
      rcases hm with hm | ⟨b1, off, l1, e1, hb1, hs1, hc1⟩
      ·have := (List.getElem?_eq_some_iff.1 hi').1; omega
      ·simp at e1
       obtain ⟨rfl, rfl⟩ := e1
       rw [hH] at hb1; cases hb1
       have := hc1 i' c'' hi'
       rw [Nat.zero_add] at this
       exact this.mono q4.H
     have hnew : ∀ i c', ys[i]? = some c' → y8 Γ'.H e (chunk news (i * e.size) e.size) c' := fun i c' hi => (r4 i c' hi).mono q4.H
     have := q96 (rest := []) e2 r1 (by rw [hlp]; exact hpos.symm) hnl hold hnew j c' hj
     simpa using this
    ·simp only [List.length_append, hnl, hlp, Nat.add_mul, hpos]
  ·-- a new block
   have hge := grownCap_ge w (n + m) cap (v8 P t)
   have hcm := grownCap_le_maxLen w (n + m) cap (v8 P t) hmx
   have hold' : (Builtin.firstCells i.size n (.slice aa n cap)).run P w.drew = .ok olds.toArray w.drew := by rw [← hv]; exact hso.cellsD
   have run := run_append_grow_src (P := P) w t t' o.type _ i z hu hi hzz aa n cap olds hold' (a.eval y) m news hs (by omega) hmx' (by
    rw [hby]; exact growslice_fits (by omega) hbb)
   rw [← hv] at run
   have hext : Ext w (w.drew.alloc (.cells ((olds ++ news).toArray ++ Builtin.zeroCells z.cells (grownCap w (n + m) cap (v8 P t) - (n + m))) (v8 P t))) := (Ext.drew w).trans (Ext.alloc _ _)
   have hnew := heap_alloc_new w.drew (.cells ((olds ++ news).toArray ++ Builtin.zeroCells z.cells (grownCap w (n + m) cap (v8 P t) - (n + m))) (v8 P t))
   obtain ⟨c1, p1, g1⟩ := c.q1U hext (l := olds ++ news) (r := (Builtin.zeroCells z.cells (grownCap w (n + m) cap (v8 P t) - (n + m))).toList) hnew (by simp)
   obtain ⟨k1, k2⟩ := z4S c
   have hsize : ((olds ++ news).toArray ++ Builtin.zeroCells z.cells (grownCap w (n + m) cap (v8 P t) - (n + m))).size = grownCap w (n + m) cap (v8 P t) * e.size := by
    simp only [Array.size_append, List.size_toArray, List.length_append, size_zeroCells, hzc, hnl, hol, ← Nat.add_mul]
    congr 1; omega
   obtain ⟨Γ', q1, q2, q3, q4, q5⟩ := c1.y83 (t := tk) (L' := cs.length + ys.length) (show (Γ.q1U w.heap.size (olds ++ news)).τ tk = some (x0, cs.length) from hτ) hnew (b6 _ _ _) k1 k2 hsize (by omega)
   refine j5.val (q1J ho run) ⟨Γ', g1.trans q5, p1.trans q4, q3, (k7 rfl rfl).2 ⟨?_, rfl⟩⟩
   simp only [z6]
   have hll : (olds ++ news).length = (n + m) * e.size := by rw [List.length_append, hol, hnl, Nat.add_mul]
   refine ⟨_, n + m, _, rfl, j7 hlen' hge hcm hbb (.inr ⟨w.heap.size, 0, olds ++ news, rfl, by rw [q1]; exact b6 _ _ _, by omega, fun j c' hj => ?_⟩), _, _, q2, by rw [List.length_append]; exact Nat.le_refl _, fun _ => ⟨rfl, hll.symm, Nat.le_refl _⟩⟩
   rw [Nat.zero_add]
   have hold2 : ∀ i c', cs[i]? = some c' → y8 Γ'.H e (chunk olds (i * e.size) e.size) c' := fun i c' hi => (o4 i c' hi).mono (p1.trans q4).H
   have hnew2 : ∀ i c', ys[i]? = some c' → y8 Γ'.H e (chunk news (i * e.size) e.size) c' := fun i c' hi => (r4 i c' hi).mono (p1.trans q4).H
   have := q96 (rest := []) e2 r1 hol hnl hold2 hnew2 j c' hj
   simpa using this
end
end Go.E
namespace Go.E
open Go
theorem z6J {sz : Nat} : ∀ (vs : List Value) (i : Nat) (v : Value), (∀ v ∈ vs, v.cells.size = sz) → vs[i]? = some v → chunk (vs.flatMap fun v => v.cells.toList) (i * sz) sz = v.cells.toList
 | [], _, _, _, h => by simp at h
 | u :: vs, 0, v, hs, h => by
  simp at h; subst h
  have := hs u (by simp)
  simp only [chunk, Nat.zero_mul, List.drop_zero, List.flatMap_cons]
  rw [List.take_append_of_le_length (by simp [this]), List.take_of_length_le (by simp [this])]
 | u :: vs, i + 1, v, hs, h => by
  have hu := hs u (by simp)
  have ih := z6J vs i v (fun v hv => hs v (by simp [hv])) (by simpa using h)
  simp only [chunk, List.flatMap_cons] at ih ⊢
  rw [List.drop_append, List.drop_eq_nil_of_le (by simp [hu, Nat.add_mul]), List.nil_append]
  rw [show (i + 1) * sz - u.cells.toList.length = i * sz by simp [hu, Nat.add_mul]]
  exact ih
theorem y1l (off : Nat) : ∀ (l : List Value) (k : Nat) (cells : Array Value), off + k + l.length ≤ cells.size →
  ((l.zipIdx k).foldl (fun cs (p : Value × Nat) => cs.setIfInBounds (off + p.2) p.1) cells).toList = cells.toList.take (off + k) ++ l ++ cells.toList.drop (off + k + l.length)
 | [], k, cells, _ => by simp
 | v :: l, k, cells, h => by
  simp only [List.length_cons] at h
  simp only [List.zipIdx_cons, List.foldl_cons]
  rw [y1l off l (k + 1) _ (by simp; omega)]
  have hlt : off + k < cells.toList.length := by simp; omega
  simp only [Array.toList_setIfInBounds, List.length_cons]
  rw [show off + (k + 1) = off + k + 1 by omega, List.take_add_one]
  simp only [List.getElem?_set, if_true, hlt]
  rw [List.take_set_of_le (Nat.le_refl _), List.drop_set_of_lt (by omega)]
  rw [show off + k + 1 + l.length = off + k + (l.length + 1) by omega]
  simp
theorem y7j {place : Nat → Option (Nat × Nat)} {cells : Array Value} {i off size : Nat} {v : Value} {rest : List (Nat × Value)} (hp : place i = some (off, size)) (hv : v.cells.size = size) (hl : off + size ≤ cells.size) :
  ∃ cells', cells'.toList = j3 cells.toList off v.cells.toList ∧ Instr.fill place cells ((i, v) :: rest) = Instr.fill place cells' rest := by
 refine ⟨v.cells.zipIdx.foldl (fun cs (c, j) => cs.setIfInBounds (off + j) c) cells, ?_, ?_⟩
 ·rw [← Array.foldl_toList, Array.toList_zipIdx]
  have := y1l off v.cells.toList 0 cells (by simp; omega)
  simpa [j3] using this
 ·simp only [Instr.fill, hp]
  rw [if_neg]
  simp [hv]
  omega
def W6 (τ : Ty) (y : V) : V :=
 match y, τ with
 | .nilc, .slice eb e => .emp eb e
 | y, _ => y
def q6l (τ : Ty) : V → List (Nat × V) → V
 | x, [] => x
 | x, (i, v) :: rest => q6l τ (x.setAt [i] (W6 (τ.get i) v)) rest
def q6T (τ : Ty) : V → List (Nat × V) → Prop
 | _, [] => True
 | x, (i, v) :: rest => (τ.child i).isSome = true ∧ (W6 (τ.get i) v).ty = τ.get i ∧ (W6 (τ.get i) v).plain = true ∧ x.at [i] ≠ .any ∧ q6T τ (x.setAt [i] (W6 (τ.get i) v)) rest
section
variable {P : Program} {Γ : G} {w w' : World} {s : S}
theorem z5I {τ : Ty} {y : V} {v : Value} (h : z8 Γ y v) : z8 Γ (W6 τ y) v := by
 unfold W6
 split
 ·rw [J0 h]; exact q3E
 ·exact h
theorem q61 {T : TypeId} {τ : Ty} (hP : u6 P = true) (ht : ty P T = τ) (hk : τ.known = true) {b off : Nat} {arr : Array Value} {E : TypeId} {fr : Nat × Nat} {w : World}
  (hb : w.heap[b]? = some (.cells arr E fr)) (hl : off + τ.size ≤ arr.size) (h1 : q1D (chunk arr.toList off τ.size)) :
  ∃ v, (loadVar T ⟨b, off, none⟩).run P w = .ok v w ∧ v.cells.toList = chunk arr.toList off τ.size ∧ o9 v = τ.isAgg := by
 have hno : ∀ s, τ ≠ .opq s := by intro s e; subst e; simp [Ty.known] at hk
 have hagg := y4V (w := w) ht hno
 have hsz := run_sizeOf (w := w) hP (T := T) (by intro s e; exact hno s (ht ▸ e))
 rw [ht] at hsz
 unfold loadVar
 cases ha : τ.isAgg with
 | true =>
  have hlen : (chunk arr.toList off τ.size).length = τ.size := b8 _ _ _ (by simpa using hl)
  have := run_loadCells_list (P := P) w ⟨b, off, none⟩ (chunk arr.toList off τ.size) (fun j v hv => by
   rw [q2e]
   rw [j4] at hv
   split at hv
   ·simp [World.cell?, hb]; simpa using hv
   ·cases hv)
  rw [hlen] at this
  refine ⟨.agg (chunk arr.toList off τ.size).toArray, ?_, by simp [Value.cells], rfl⟩
  simp [hagg, ha, hsz, this]
 | false =>
  have h0 : τ.size = 1 := Ty.size_leaf hk ha
  have hlt : off < arr.size := by omega
  have hc : chunk arr.toList off τ.size = [arr[off]] := by
   rw [h0]; simp [chunk, List.drop_eq_getElem_cons (l := arr.toList) (i := off) (by simpa using hlt)]
  have hone : arr[off].oneCell' = true := h1 _ (by rw [hc]; simp)
  have hna : o9 arr[off] = false := by cases hv : arr[off] <;> simp_all [Value.oneCell', o9]
  refine ⟨arr[off], ?_, by rw [p9 hna, hc], hna⟩
  have hcell : w.cell? ⟨b, off, none⟩ = some arr[off] := by simp [World.cell?, hb, Array.getElem?_eq_getElem hlt]
  simp [hagg, ha, hcell]
theorem z5t (hP : u6 P = true) (c : y9 Γ w s) {T : TypeId} {k : Key} {q : List Nat} {τ : Ty} {x : V} {v : Value}
  (hr : z8 Γ (.ptr k q τ) v) (ho : s.obj k = some (.box x)) (hne : x.at q ≠ .any) (ht : τ = ty P T) (hk : τ.known = true) :
  ∃ u, (Instr.loadAt T v).run P w = .ok u w ∧ z8 Γ (view (x.at q)) u := by
 obtain ⟨b, τ0, o, h1, h2, rfl⟩ := q0I hr
 obtain ⟨b', cells, E, e1, _, _, hb, hsz, hrep, hxp, _⟩ := c.own (by assumption) ho
 rw [h1] at e1
 cases e1
 obtain ⟨g1, g2, g3⟩ := hrep.at_ h2 hne hxp
 have hcl : (chunk cells.toList 0 x.ty.size).length = x.ty.size := b8 _ _ _ (by simpa using hsz)
 rw [hcl] at g2
 have hch : chunk (chunk cells.toList 0 x.ty.size) o τ.size = chunk cells.toList o τ.size := by rw [Q9 _ _ _ _ _ g2, Nat.zero_add]
 rw [hch] at g3
 have hpl := V.q4b g3 hne
 obtain ⟨u, r1, r2, r3⟩ := q61 (T := T) (E := E) (fr := (0, 0)) hP ht.symm hk hb (by omega) (g3.one hpl)
 refine ⟨u, ?_, (v7 (by rw [y3m]; exact hpl)).2 ⟨?_, by rw [y2F, g1, r3]⟩⟩
 ·simp [Instr.loadAt, Instr.sureAddr, r1]
 ·rw [r2]; exact z94 _ g3
theorem z4A : ∀ {q : List Nat} {τ0 f : Ty} {o : Nat} {i : Nat}, τ0.walk (q ++ [i]) = some (o, f) → ∃ o1 τ o2, τ0.walk q = some (o1, τ) ∧ τ.child i = some (o2, f) ∧ o = o1 + o2
 | [], τ0, f, o, i, h => by
  simp only [List.nil_append, Ty.walk] at h
  cases hc : τ0.child i with
  | none => rw [hc] at h; cases h
  | some x =>
   obtain ⟨o2, f2⟩ := x
   rw [hc] at h
   simp only [Option.some.injEq, Prod.mk.injEq] at h
   obtain ⟨rfl, rfl⟩ := h
   exact ⟨0, τ0, o2, rfl, hc, by omega⟩
 | j :: q, τ0, f, o, i, h => by
  simp only [List.cons_append, Ty.walk] at h ⊢
  cases hc : τ0.child j with
  | none => rw [hc] at h; cases h
  | some x =>
   obtain ⟨o3, f3⟩ := x
   rw [hc] at h
   simp only at h ⊢
   cases hw : f3.walk (q ++ [i]) with
   | none => rw [hw] at h; cases h
   | some y =>
    obtain ⟨o4, f4⟩ := y
    rw [hw] at h
    simp only [Option.some.injEq, Prod.mk.injEq] at h
    obtain ⟨rfl, rfl⟩ := h
    obtain ⟨o1, τ, o2, h1, h2, rfl⟩ := z4A hw
    exact ⟨o3 + o1, τ, o2, by rw [h1], h2, by omega⟩
theorem y6Y (hP : u6 P = true) (c : y9 Γ w s) {T : TypeId} {k : Key} {q : List Nat} {lo m M : Nat} {e : Ty} {x : V} {cc : C} {v : Value}
  (hr : z8 Γ (.ptr k (q ++ [lo]) e) v) (ho : s.obj k = some (.box x)) (hat : x.at q = .d (.arr M e) cc) (ht : ty P T = .arr m e) (hk : (Ty.arr m e).known = true) (hlo : lo + m ≤ M) :
  ∃ u, (Instr.loadAt T v).run P w = .ok u w ∧ z8 Γ (.d (.arr m e) (.agg ((cc.elems.drop lo).take m))) u := by
 obtain ⟨b, τ0, o, h1, h2, rfl⟩ := q0I hr
 obtain ⟨b', cells, E, e1, _, _, hb, hsz, hrep, hxp, _⟩ := c.own (by assumption) ho
 rw [h1] at e1
 cases e1
 obtain ⟨o1, τ, o2, w1, w2, rfl⟩ := z4A h2
 obtain ⟨g1, g2, g3⟩ := hrep.at_ w1 (by rw [hat]; simp) hxp
 have hcl : (chunk cells.toList 0 x.ty.size).length = x.ty.size := b8 _ _ _ (by simpa using hsz)
 rw [hcl] at g2
 have hch : chunk (chunk cells.toList 0 x.ty.size) o1 τ.size = chunk cells.toList o1 τ.size := by rw [Q9 _ _ _ _ _ g2, Nat.zero_add]
 rw [hch, hat] at g3
 rw [hat] at g1
 simp only [V.ty] at g1
 subst g1
 simp only [z6, y8, Ty.size] at g3
 obtain ⟨cs, rfl, r1, r2, r3, r4⟩ := g3
 simp only [C.elems]
 simp only [Ty.child] at w2
 split at w2
 ·rename_i hlM
  simp only [Option.some.injEq, Prod.mk.injEq, and_true] at w2
  subst w2
  simp only [Ty.size] at g2
  have hlen : ((cs.drop lo).take m).length = m := by simp; omega
  have hms : (lo + m) * e.size ≤ M * e.size := Nat.mul_le_mul_right _ hlo
  rw [Nat.add_mul] at hms
  have hcl2 : (chunk cells.toList (o1 + lo * e.size) (m * e.size)).length = m * e.size := b8 _ _ _ (by simp; omega)
  have hel : ∀ i c, ((cs.drop lo).take m)[i]? = some c → y8 Γ.H e (chunk (chunk cells.toList (o1 + lo * e.size) (m * e.size)) (i * e.size) e.size) c := by
   intro i c hi
   rw [List.getElem?_take] at hi
   split at hi
   ·rename_i hin
    rw [List.getElem?_drop] at hi
    have h9 := r4 _ _ hi
    have hle : (i + 1) * e.size ≤ m * e.size := Nat.mul_le_mul_right _ hin
    rw [Nat.add_mul] at hle
    rw [Nat.add_mul] at h9
    rw [Q9 _ _ _ _ _ (by omega)] at h9 ⊢
    rw [show o1 + lo * e.size + i * e.size = o1 + (lo * e.size + i * e.size) by omega]
    exact h9
   ·cases hi
  have h4 : y8 Γ.H (.arr m e) (chunk cells.toList (o1 + lo * e.size) (Ty.arr m e).size) (.agg ((cs.drop lo).take m)) := by
   simp only [y8, Ty.size]
   exact ⟨_, rfl, hlen, hcl2, z8s hlen hcl2 hel, hel⟩
  obtain ⟨u, q1, q2, q3⟩ := q61 (T := T) (E := E) (fr := (0, 0)) (off := o1 + lo * e.size) hP ht hk hb (by simp only [Ty.size]; omega) h4.one
  refine ⟨u, ?_, X2.2 ⟨by rw [q2]; exact h4, q3⟩⟩
  simp [Instr.loadAt, Instr.sureAddr, q1]
 ·cases w2
theorem y5c (hP : u6 P = true) (c : y9 Γ w s) {T : TypeId} {τ : Ty} {cc : C} {v : Value}
  (hr : z8 Γ (.cptr τ cc) v) (ht : τ = ty P T) (hk : τ.known = true) :
  ∃ u, (Instr.loadAt T v).run P w = .ok u w ∧ z8 Γ (.d τ cc) u := by
 obtain ⟨b, off, l, rfl, h2, h3, h4⟩ := q7x hr
 obtain ⟨arr, E, fr, r, hb, hl⟩ := c.hH b l h2
 have hch : chunk arr.toList off τ.size = chunk l off τ.size := by rw [hl, q25 _ _ _ _ h3]
 have hsz : off + τ.size ≤ arr.size := by rw [← Array.length_toList, hl, List.length_append]; omega
 obtain ⟨u, r1, r2, r3⟩ := q61 (T := T) hP ht.symm hk hb hsz (by rw [hch]; exact h4.one)
 exact ⟨u, by simp [Instr.loadAt, Instr.sureAddr, r1], X2.2 ⟨by rw [r2, hch]; exact h4, r3⟩⟩
theorem y3k {cells : Array Value} (h : F7 z2D cells.toList = true) : cells = #[.pointer none, .slice none 0 0] := by
 apply Array.ext'
 generalize cells.toList = l at h
 simp only [z2D, F7, q2O, Bool.and_eq_true, beq_iff_eq, decide_eq_true_eq, Ty.size, chunk] at h
 obtain ⟨⟨h1, _⟩, ⟨_, h2⟩, ⟨_, h3⟩, _⟩ := h
 match l, h1 with
 | [a, b], _ =>
  simp only [List.drop_zero, List.take_succ_cons, List.take_zero, List.drop_succ_cons] at h2 h3
  cases a <;> simp [q5i] at h2
  cases b <;> simp [q5i] at h3
  obtain ⟨⟨rfl, rfl⟩, rfl⟩ := h3
  subst h2
  rfl
def y0M (τ : Ty) (T : TypeId) : O := bif Ty.beq τ z2D then .it [] T else .box (Q5 τ)
theorem y7y (c : y9 Γ w s) {o : Oper} {a : Act} {T : TypeId} {n : Nat} (ho : o.op = .alloc T) (hn : s.obj (.l n) = none) (hz : U4 P T = true) :
  j5 P o a w (b5 Γ w { s with loc := (.l n, y0M (ty P T) T) :: s.loc } (.ptr (.l n) [] (ty P T))) := by
 obtain ⟨z, hrun, hzo, hag⟩ := y0e hz
 have hlen := q1w hzo
 cases hB : Ty.beq (ty P T) z2D with
 | true =>
  have e := (Ty.beq_iff _ _).1 hB
  rw [e] at hzo
  have hz2 : z.cells = #[.pointer none, .slice none 0 0] := y3k hzo
  obtain ⟨h1, h2, h3⟩ := c.addKey hn (Ext.alloc w (.cells z.cells T)) (τ := z2D) (o := .it [] T) fun Γ' hpr _ hι hH hZ => ⟨w.heap.size, .pointer none, .slice none 0 0, hι, hH, hZ, by rw [heap_alloc_new, hz2], .inl rfl, by simp, .inl ⟨rfl, rfl⟩⟩
  simp only [y0M, hB, cond_true]
  rw [e]
  refine j5.val (v := .pointer (some ⟨w.heap.size, 0, none⟩)) (w' := w.alloc (.cells z.cells T)) ?_ ⟨_, h3, h2, h1, (v7 rfl).2 ⟨?_, by simp [V.ty, Ty.isAgg, o9]⟩⟩
  ·unfold execOp
   simp only [ho, Instr.alloc, Sem.run_bind, hrun, Result.andThen_ok]
   simp [newVar, newRow]
  ·simp only [z6]
   exact ⟨w.heap.size, z2D, 0, by simp [G.addKey, q1G], rfl, by simp [Value.cells]⟩
 | false =>
 simp only [y0M, hB, cond_false]
 have hX : z6 Γ none [] (Q5 (ty P T)) z.cells.toList := q9p (ty P T) hzo
 have hb := z7I c hn (T := T) (x := Q5 (ty P T)) (cells := z.cells) (Ext.alloc w _) (heap_alloc_new w (.cells z.cells T)) (by rw [q5h, ← hlen]; simp) (by rw [q5h, ← hlen, q5I]; exact hX) (q6Y _) (z5O _)
 rw [q5h] at hb
 refine j5.val (v := .pointer (some ⟨w.heap.size, 0, none⟩)) (w' := w.alloc (.cells z.cells T)) ?_ hb
 unfold execOp
 simp only [ho, Instr.alloc, Sem.run_bind, hrun, Result.andThen_ok]
 simp [newVar, newRow]
theorem x1b (c : y9 Γ w s) {o : Oper} {a : Act} {T : TypeId} {x : Operand} {n : Nat} {y : V} (ho : o.op = .box T x) (hn : s.obj (.l n) = none) (hr : z8 Γ y (a.eval x)) (hpl : y.plain = true) (hns : y.j8 = true) :
  j5 P o a w (b5 Γ w { s with loc := (.l n, .box y) :: s.loc } (.ptr (.l n) [] y.ty)) := by
 obtain ⟨h1, _⟩ := (v7 hpl).1 hr
 have hlen := h1.length hpl
 have hb := z7I c hn (T := T) (x := y) (cells := (a.eval x).cells) (Ext.alloc w _) (heap_alloc_new w (.cells (a.eval x).cells T)) (by rw [← hlen]; simp) (by rw [← hlen, q5I]; exact h1) hpl hns
 refine j5.val (v := .pointer (some ⟨w.heap.size, 0, none⟩)) (w' := w.alloc (.cells (a.eval x).cells T)) ?_ hb
 unfold execOp
 simp only [ho, Instr.box]
 simp [newVar, newRow]
theorem y9w (c : y9 Γ w s) {o : Oper} {a : Act} {T : TypeId} {x : Operand} {y : V} {cc : C} (ho : o.op = .box T x) (hr : z8 Γ y (a.eval x)) (hpl : y.plain = true) (hc : Z7 y = some cc) :
  j5 P o a w (b5 Γ w s (.cptr y.ty cc)) := by
 obtain ⟨h1, _⟩ := (v7 hpl).1 hr
 have hlen := h1.length hpl
 obtain ⟨c1, p1, g1⟩ := c.q1U (l := (a.eval x).cells.toList) (r := []) (Ext.alloc w _) (heap_alloc_new w (.cells (a.eval x).cells T)) (by simp)
 refine j5.val (v := .pointer (some ⟨w.heap.size, 0, none⟩)) (w' := w.alloc (.cells (a.eval x).cells T)) ?_ ⟨_, g1, p1, c1, q10 (l := (a.eval x).cells.toList) (b6 _ _ _) (by rw [hlen]; omega) ?_⟩
 ·unfold execOp
  simp only [ho, Instr.box]
  simp [newVar, newRow]
 ·have := (q3n _ h1 hc).mono p1.H
  rw [← hlen, q5I]
  exact this
theorem y9.write (c : y9 Γ w s) {k : Key} {x x' : V} {b : Nat} {τ : Ty} {cells' : Array Value} {T : TypeId}
  (ho : s.obj k = some (.box x)) (hι : Γ.ι k = some (b, τ)) (hnew : w'.heap[b]? = some (.cells cells' T (0, 0))) (hsame : ∀ b', b' ≠ b → w'.heap[b']? = w.heap[b']?) (hoo : oof w' = oof w)
  (hsz : x'.ty.size ≤ cells'.size) (hx : z6 Γ (some k) [] x' (chunk cells'.toList 0 x'.ty.size)) (ht : x'.ty = x.ty) (hp : x'.plain = true) (hns : x'.j8 = true)
  (hcs : ∀ arr T fr, w.heap[b]? = some (.cells arr T fr) → cells'.size = arr.size) :
  y9 Γ w' { s with loc := (k, .box x') :: s.loc } := by
 obtain ⟨hH, hZ, hlt, e2⟩ := c.q1n hι ho rfl
 simp only [O.ty] at e2
 refine c.change (.refl Γ) rfl rfl rfl hoo (fun b' l h => ?_) (fun b' h => hsame b' (fun e => by subst e; exact h hZ)) (fun b' o sz h => ?_) (fun j o h => ?_) (fun _ h _ => h) (fun j h => ?_) (fun b' sz h => ?_) (c.z1x (z1M fun h => by rw [W5 ho] at h; cases h)) c.tok c.tdom (z2F hnew hsame)
 ·rw [hsame b' (fun e => by subst e; rw [hH] at h; cases h)]; exact c.hH b' l h
 ·obtain ⟨a1, a2, a3⟩ := c.hκ b' o sz h
  rw [hsame b' (fun e => by subst e; exact a2 hH)]; exact ⟨a1, a2, a3⟩
 ·rw [Q7] at h
  split at h
  ·rename_i e
   subst e; cases h
   exact .inr ⟨b, cells', T, by rw [hι, e2, ht], hH, hZ, hnew, hsz, hx, hp, hns⟩
  ·rename_i e
   refine .inl ⟨h, fun hd => ⟨fun _ _ _ _ => ⟨rfl, rfl⟩, fun b' τ' hb => ?_⟩⟩
   obtain ⟨a1, a2, a3, _⟩ := c.q1n hb h hd
   refine ⟨hsame b' (fun e' => ?_), a1⟩
   subst e'
   exact e (c.y68 hι hb (by rw [W5 ho]; rfl) (by rw [W5 h]; exact hd))
 ·rw [Q7]
  split
  ·simp
  ·exact c.dom j h
 ·obtain ⟨arr, T1, fr, a1, a2⟩ := c.hσ b' sz h
  by_cases e : b' = b
  ·subst e
   exact ⟨cells', T, (0, 0), hnew, by rw [hcs _ _ _ a1]; exact a2⟩
  ·exact ⟨arr, T1, fr, by rw [hsame b' e]; exact a1, a2⟩
theorem y0f {T : TypeId} {τ : Ty} (hP : u6 P = true) (ht : ty P T = τ) (hk : τ.known = true) {b off : Nat} {arr : Array Value} {E : TypeId} {v : Value}
  (hb : w.heap[b]? = some (.cells arr E (0, 0))) (hl : off + τ.size ≤ arr.size) (hv : v.cells.toList.length = τ.size) (h1 : q1D v.cells.toList) :
  (storeVar T ⟨b, off, none⟩ v).run P w = .ok () (w.setRow b (j3 arr.toList off v.cells.toList).toArray) := by
 have hsz := run_sizeOf (w := w) hP (T := T) (by intro s e; rw [ht] at e; subst e; simp [Ty.known] at hk)
 rw [ht] at hsz
 have hv' : v.cells.size = τ.size := by simpa using hv
 have hst := run_storeCells_at P b off E v.cells.toList 0 arr w hb (by simp; omega) h1
 simp only [Nat.add_zero] at hst
 simp [storeVar, hsz, hv', hst, j3]
theorem z1V (vs ws : List Value) {o n : Nat} (h : o + ws.length ≤ n) (hn : n ≤ vs.length) : chunk (j3 vs o ws) 0 n = j3 (chunk vs 0 n) o ws := by
 apply List.ext_getElem?
 intro i
 have hl : (chunk vs 0 n).length = n := b8 _ _ _ (by omega)
 rw [j4, U5 (by omega), U5 (by omega), j4]
 simp only [Nat.zero_add]
 by_cases hi : i < n
 ·rw [if_pos hi, if_pos hi]
 ·rw [if_neg hi, if_neg (by omega), if_neg hi]
theorem y1E (hP : u6 P = true) (c : y9 Γ w s) {o : Oper} {a : Act} {t : TypeId} {l cp : Operand} {L Cp : V} {k1 k2 : IntKind} {nl nc : Nat} {n : Nat} {eb : Nat} {e : Ty}
  (ho : o.op = .makeSlice t l cp) (ht : ty P t = .slice eb e) (hz : U4 P (v8 P t) = true) (hn : s.obj (.l n) = none)
  (hl : a.eval l = .int k1 nl) (hc : a.eval cp = .int k2 nc) (h1 : nl ≤ nc) (h2 : nc ≤ maxLen) (hb : nc * eb ≤ 140737488355328) (hes : e.size ≠ 0) {cpv : Option Nat} (hcpv : ∀ c, cpv = some c → nc = c) :
  j5 P o a w (b5 Γ w { s with loc := (.l n, .box (.d (.arr nl e) (.agg (List.replicate nl (u7 e))))) :: s.loc } (.sr (.l n) [] 0 nl cpv eb e)) := by
 obtain ⟨hu, he, heb, hE⟩ := q27 hP ht
 obtain ⟨i, z, hi, hzz, hzo, hzo2⟩ := q5r hz
 have hcz := q1w hzo
 have hsz : i.size = e.size := by
  have := Z4 hP 11 (v8 P t)
  rw [he, this]; simp [Program.cellsOf, hi]
 have hby : i.bytes = eb := by rw [heb]; simp [Program.bytesOf, hi]
 have hzc : z.cells.size = e.size := by
  have h1 := Z4 hP 11 (v8 P t)
  have h2 := q6C hP (v8 P t)
  rw [he, h1, ← h2, ← hcz]; simp
 have w1 : IntKind.i64.wrap (nl : Int) = nl := IntWalk.i64_in _ (by unfold maxLen at h2; omega)
 have w2 : IntKind.i64.wrap (nc : Int) = nc := IntWalk.i64_in _ (by unfold maxLen at h2; omega)
 have hb' : ¬ (281474976710656 : Int) < (eb : Int) * (nc : Int) := by
  have : (eb : Int) * (nc : Int) = ((nc * eb : Nat) : Int) := by rw [Int.mul_comm]; push_cast; rfl
  rw [this]; omega
 have hrun : (Instr.makeSlice t (a.eval l) (a.eval cp)).run P w = .ok (.slice (some ⟨w.heap.size, 0, none⟩) nl nc) (w.alloc (.cells ((Array.range (nc * e.size)).map (z.cells[· % z.cells.size]!)) (v8 P t))) := by
  by_cases h0 : nc = 0
  ·subst h0
   have : nl = 0 := by omega
   subst this
   have h00 : (Array.map (fun _ => (default : Value)) (Array.range 0)) = #[] := by apply Array.eq_empty_of_size_eq_zero; simp
   have h01 : (Array.map (fun x => z.cells[x % z.cells.size]!) (Array.range 0)) = #[] := by apply Array.eq_empty_of_size_eq_zero; simp
   have w0 : IntKind.i64.wrap 0 = 0 := by decide
   simp [Instr.makeSlice, hl, hc, run_underlying hu, asInt, asIntOf, typeInfo, hi, w0, sizeOf, hsz, newRow, h00, h01]
  ·have h3 : ¬ (nc * e.size = 0) := Nat.mul_ne_zero h0 hes
   have h4 : ¬ ((nc : Int) < (nl : Int)) := by omega
   have h5 : ¬ ((nc : Int) < 0) := by omega
   have h6 : ¬ ((nl : Int) < 0) := by omega
   simp [Instr.makeSlice, hl, hc, run_underlying hu, asInt, asIntOf, typeInfo, hi, w1, w2, sizeOf, hsz, newRow, h3, hby, hb', h4, h5, h6, zeroValue, hzz]
 have hsize : ((Array.range (nc * e.size)).map (z.cells[· % z.cells.size]!)).size = nc * e.size := by rw [Array.size_map, Array.size_range]
 have hnl : nl * e.size ≤ nc * e.size := Nat.mul_le_mul_right _ h1
 have hX : ∀ j, j < nl → chunk ((Array.range (nc * e.size)).map (z.cells[· % z.cells.size]!)).toList (j * e.size) e.size = z.cells.toList := by
  intro j hlt
  apply List.ext_getElem?
  intro q
  rw [j4]
  have hb2 : (j + 1) * e.size ≤ nc * e.size := Nat.mul_le_mul_right _ (by omega)
  rw [Nat.add_mul] at hb2
  split
  ·rename_i hq
   have e1 : (j * e.size + q) % z.cells.size = q := by rw [hzc, Nat.add_comm, Nat.add_mul_mod_self_right, Nat.mod_eq_of_lt hq]
   rw [Array.toList_map, List.getElem?_map, Array.toList_range, List.getElem?_range (by omega)]
   simp only [Option.map_some, e1]
   have : q < z.cells.size := by omega
   simp [getElem!_pos z.cells q this]
  ·rw [List.getElem?_eq_none (by simp; omega)]
 have hrep : z6 Γ none [] (.d (.arr nl e) (.agg (List.replicate nl (u7 e)))) (chunk ((Array.range (nc * e.size)).map (z.cells[· % z.cells.size]!)).toList 0 (V.d (.arr nl e) (.agg (List.replicate nl (u7 e)))).ty.size) := by
  simp only [z6, V.ty, Ty.size]
  have hlen : (chunk ((Array.range (nc * e.size)).map (z.cells[· % z.cells.size]!)).toList 0 (nl * e.size)).length = nl * e.size := b8 _ _ _ (by simp only [Array.length_toList, hsize]; omega)
  have hel : ∀ i c', (List.replicate nl (u7 e))[i]? = some c' → y8 Γ.H e (chunk (chunk ((Array.range (nc * e.size)).map (z.cells[· % z.cells.size]!)).toList 0 (nl * e.size)) (i * e.size) e.size) c' := by
   intro i c' hi
   rw [List.getElem?_replicate] at hi
   split at hi
   ·rename_i hlt
    cases hi
    have hb2 : (i + 1) * e.size ≤ nl * e.size := Nat.mul_le_mul_right _ hlt
    rw [Nat.add_mul] at hb2
    rw [Q9 _ _ _ _ _ (by omega), Nat.zero_add, hX i hlt, he]
    exact H6 hzo2
   ·cases hi
  simp only [y8]
  exact ⟨_, rfl, by simp, hlen, q2V (by simp) hlen hel, hel⟩
 obtain ⟨Γ', q1, q2, q3, q4⟩ := z7I c hn (T := v8 P t) (Ext.alloc w _) (heap_alloc_new w (.cells ((Array.range (nc * e.size)).map (z.cells[· % z.cells.size]!)) (v8 P t))) (by rw [hsize]; exact hnl) hrep rfl rfl
 obtain ⟨y1, y2, y3⟩ := q3.q8b (heap_alloc_new w (.cells ((Array.range (nc * e.size)).map (z.cells[· % z.cells.size]!)) (v8 P t)))
 refine j5.val (v := .slice (some ⟨w.heap.size, 0, none⟩) nl nc) (w' := w.alloc (.cells ((Array.range (nc * e.size)).map (z.cells[· % z.cells.size]!)) (v8 P t))) ?_ ⟨_, q1.trans y3, q2.trans y2, y1, ?_⟩
 ·unfold execOp
  simp only [ho, Sem.run_bind, hrun, Result.andThen_ok, Sem.run_pure]
 ·obtain ⟨b, τ0, o', r1, r2, r3⟩ := q0I q4
  simp at r3
  obtain ⟨rfl, rfl⟩ := r3
  exact z08 (show (G.q8b Γ' _ _).ι (.l n) = _ from r1) r2 (by omega) (.inr (by simp)) h1 h2 (Nat.le_trans (Nat.mul_le_mul_right _ h1) hb) hcpv (fun _ => .inr ⟨_, b6 _ _ _, by rw [hsize, Nat.zero_add, Nat.zero_add]; exact Nat.le_refl _⟩)
theorem z0T (hP : u6 P = true) (c : y9 Γ w s) {o : Oper} {a : Act} {t : TypeId} {len : Nat} {parts : Array (Nat × Operand)} {cs : List C} {eb : Nat} {e : Ty}
  (ho : o.op = .buildSlice t len parts) (ht : ty P t = .slice eb e) (hz : U4 P (v8 P t) = true) (hlen : 0 < len) (hes : e.size ≠ 0) (hsmall : len * e.size ≤ 16777216) (hb : len * eb ≤ 140737488355328)
  (hidx : parts.toList.map (·.1) = List.range len) (hcs : cs.length = len)
  (hx : ∀ (i : Nat) (x : Nat × Operand) (cc : C), parts.toList[i]? = some x → cs[i]? = some cc → z8 Γ (.d e cc) (a.eval x.2)) :
  j5 P o a w (fun v w' => (∃ ad, v = .slice ad len len) ∧ b5 Γ w s (.d (.slice eb e) (.slice cs)) v w') := by
 obtain ⟨hu, he, heb, hE⟩ := q27 hP ht
 obtain ⟨i, z, hi, hzz, hzo, hzo2⟩ := q5r hz
 have hcz := q1w hzo
 have hsz : i.size = e.size := by
  have := Z4 hP 11 (v8 P t)
  rw [he, this]; simp [Program.cellsOf, hi]
 have hzc : z.cells.size = e.size := by
  have h1 := Z4 hP 11 (v8 P t)
  have h2 := q6C hP (v8 P t)
  rw [he, h1, ← h2, ← hcz]; simp
 have hpl : parts.toList.length = len := by have := congrArg List.length hidx; simpa using this
 -- the values
 have hvs : (parts.map fun (i, x) => (i, a.eval x)).toList = ((parts.toList.map fun x => a.eval x.2).zipIdx 0).map fun x => (x.2, x.1) := by
  apply List.ext_getElem?
  intro j
  simp only [Array.toList_map, List.getElem?_map, List.getElem?_zipIdx]
  cases hj : parts.toList[j]? with
  | none => simp
  | some x =>
   have : (parts.toList.map (·.1))[j]? = some x.1 := by simp [hj]
   rw [hidx] at this
   have hlt : j < len := by rw [← hpl]; exact (List.getElem?_eq_some_iff.1 hj).1
   simp [List.getElem?_range hlt] at this
   simp [this]
 have hrep : ∀ (j : Nat) (v : Value), (parts.toList.map fun x => a.eval x.2)[j]? = some v → ∃ cc, cs[j]? = some cc ∧ z8 Γ (.d e cc) v := by
  intro j v hj
  simp only [List.getElem?_map] at hj
  cases hx' : parts.toList[j]? with
  | none => simp [hx'] at hj
  | some x =>
   simp [hx'] at hj
   have hlt : j < len := by rw [← hpl]; exact (List.getElem?_eq_some_iff.1 hx').1
   have hcj : cs[j]? = some cs[j] := List.getElem?_eq_getElem (by omega)
   exact ⟨_, hcj, hj ▸ hx j x _ hx' hcj⟩
 have hsizes : ∀ v ∈ (parts.toList.map fun x => a.eval x.2), v.cells.size = e.size := by
  intro v hv
  obtain ⟨j, hj⟩ := List.mem_iff_getElem?.1 hv
  obtain ⟨cc, _, hr⟩ := hrep j v hj
  have := (X2.1 hr).1.length
  simpa using this
 have hf := Great.fill_whole (s := e.size) (by omega) (parts.toList.map fun x => a.eval x.2) ((Array.range (len * e.size)).map (z.cells[· % z.cells.size]!)) hsizes (by simp [hpl])
 have run := run_buildSlice (P := P) w t (v8 P t) len (parts.map fun (i, x) => (i, a.eval x)) _ i z hu hi hzz (by rw [hsz]; omega) (by rw [hsz]; exact Nat.mul_ne_zero (by omega) hes) (by rw [hsz, hvs]; exact hf)
 have hflen : ((parts.toList.map fun x => a.eval x.2).flatMap fun v => v.cells.toList).length = len * e.size := by
  simp only [List.length_flatMap]
  have : (List.map (fun v => v.cells.toList.length) (parts.toList.map fun x => a.eval x.2)) = List.replicate len e.size := by
   apply List.eq_replicate_iff.2
   refine ⟨by simp [hpl], fun b hb => ?_⟩
   obtain ⟨v, hv, rfl⟩ := List.mem_map.1 hb
   simpa using hsizes v hv
  rw [this]; simp
 obtain ⟨c1, p1, g1⟩ := c.q1U (Ext.alloc w _) (l := (parts.toList.map fun x => a.eval x.2).flatMap fun v => v.cells.toList) (r := []) (heap_alloc_new w (.cells ((parts.toList.map fun x => a.eval x.2).flatMap fun v => v.cells.toList).toArray (v8 P t))) (by simp)
 refine j5.val (v := .slice (some ⟨w.heap.size, 0, none⟩) len len) (w' := w.alloc (.cells ((parts.toList.map fun x => a.eval x.2).flatMap fun v => v.cells.toList).toArray (v8 P t))) ?_ ⟨⟨_, rfl⟩, _, g1, p1, c1, q2p (j7 hcs (Nat.le_refl _) (by have := Nat.le_mul_of_pos_right len (Nat.pos_of_ne_zero hes); unfold maxLen; omega) hb (.inr ⟨w.heap.size, 0, _, rfl, b6 _ _ _, by rw [hflen]; omega, fun j c' hj => ?_⟩))⟩
 ·unfold execOp
  simp only [ho, Sem.run_bind, run, Result.andThen_ok, Sem.run_pure]
 ·have hlt : j < len := by rw [← hcs]; exact (List.getElem?_eq_some_iff.1 hj).1
  have hv : (parts.toList.map fun x => a.eval x.2)[j]? = some ((parts.toList.map fun x => a.eval x.2)[j]'(by simp [hpl]; omega)) := List.getElem?_eq_getElem _
  obtain ⟨cc, hcc, hr⟩ := hrep j _ hv
  rw [hj] at hcc; cases hcc
  have := z6J _ j _ hsizes hv
  rw [Nat.zero_add, this]
  exact (X2.1 hr).1.mono p1.H
theorem z9z (hP : u6 P = true) (c : y9 Γ w s) {o : Oper} {a : Act} {t : TypeId} {len : Nat} {parts : Array (Nat × Operand)} {cs : List C} {eb : Nat} {e : Ty}
  (ho : o.op = .buildSlice t len parts) (ht : ty P t = .slice eb e) (hz : U4 P (v8 P t) = true) (hlen : 0 < len) (hes : e.size ≠ 0) (hsmall : len * e.size ≤ 16777216) (hb : len * eb ≤ 140737488355328)
  (hidx : parts.toList.map (·.1) = List.range len) (hcs : cs.length = len)
  (hx : ∀ (i : Nat) (x : Nat × Operand) (cc : C), parts.toList[i]? = some x → cs[i]? = some cc → z8 Γ (.d e cc) (a.eval x.2)) :
  j5 P o a w (b5 Γ w s (.d (.slice eb e) (.slice cs))) :=
 (z0T hP c ho ht hz hlen hes hsmall hb hidx hcs hx).mono fun _ _ h => h.2
theorem z73 (hP : u6 P = true) (c : y9 Γ w s) {o : Oper} {a : Act} {t : TypeId} {len : Nat} {parts : Array (Nat × Operand)} {cs : List C} {eb : Nat} {e : Ty} {n : Nat} (hn : s.known n = false)
  (ho : o.op = .buildSlice t len parts) (ht : ty P t = .slice eb e) (hz : U4 P (v8 P t) = true) (hlen : 0 < len) (hes : e.size ≠ 0) (hsmall : len * e.size ≤ 16777216) (hb : len * eb ≤ 140737488355328)
  (hidx : parts.toList.map (·.1) = List.range len) (hcs : cs.length = len)
  (hx : ∀ (i : Nat) (x : Nat × Operand) (cc : C), parts.toList[i]? = some x → cs[i]? = some cc → z8 Γ (.d e cc) (a.eval x.2)) :
  j5 P o a w (b5 Γ w { s with tk := (n, some cs.length) :: s.tk } (.sl eb e cs n)) := by
 refine (z0T hP c ho ht hz hlen hes hsmall hb hidx hcs hx).mono ?_
 rintro v w' ⟨⟨ad, rfl⟩, Γ', g1, p1, c1, hr⟩
 obtain ⟨c2, p2, g2⟩ := c1.J9 hn (x := none) (L := cs.length) (fun _ _ _ h => by cases h)
 refine ⟨_, g1.trans g2, p1.trans p2, c2, (k7 rfl rfl).2 ⟨?_, rfl⟩⟩
 obtain ⟨h1, _⟩ := (k7 rfl rfl).1 (hr.Z0 p2)
 simp only [z6] at h1 ⊢
 exact ⟨ad, len, len, rfl, h1, none, cs.length, by simp [G.J9, Y2], Nat.le_refl _, fun _ => rfl⟩
theorem z74 (hP : u6 P = true) (c : y9 Γ w s) {o : Oper} {a : Act} {t : TypeId} {eb : Nat} {e : Ty} (ho : o.op = .buildSlice t 0 #[]) (ht : ty P t = .slice eb e) :
  j5 P o a w (b5 Γ w s (.emp eb e)) := by
 obtain ⟨hu, he, heb, hE⟩ := q27 hP ht
 have hz := q1e (f := 11) hP (w := w) hE
 refine j5.val (v := .slice (some ⟨w.heap.size, 0, none⟩) 0 0) (w' := w.alloc (.cells #[] (v8 P t))) ?_ (.ext c (Ext.alloc _ _) q3E)
 have h0 : (Array.map (fun _ => (default : Value)) (Array.range 0)) = #[] := by apply Array.eq_empty_of_size_eq_zero; simp
 unfold execOp
 simp [ho, Instr.buildSlice, run_underlying hu, hz, Instr.fill, newRow, h0]
theorem z5E {place : Nat → Option (Nat × Nat)} {τ : Ty} (hd : τ.q0i = true) (hpl : ∀ i o f, τ.child i = some (o, f) → place i = some (o, f.size)) {ρ : Operand → V} {ev : Operand → Value} :
  ∀ (L : List (Nat × Operand)) (x : V) (cells : Array Value), z6 Γ none [] x cells.toList → x.ty = τ → x.plain = true → (∀ p ∈ L, z8 Γ (ρ p.2) (ev p.2)) → q6T τ x (L.map fun p => (p.1, ρ p.2)) →
  ∃ cells', Instr.fill place cells (L.map fun p => (p.1, ev p.2)) = some cells' ∧ z6 Γ none [] (q6l τ x (L.map fun p => (p.1, ρ p.2))) cells'.toList ∧ (q6l τ x (L.map fun p => (p.1, ρ p.2))).ty = τ ∧ (q6l τ x (L.map fun p => (p.1, ρ p.2))).plain = true
 | [], x, cells, hx, ht, hp, _, _ => ⟨cells, rfl, hx, ht, hp⟩
 | (i, y) :: L, x, cells, hx, ht, hp, hr, hok => by
  simp only [List.map_cons, q6T] at hok
  obtain ⟨h1, h2, h3, h4, h6⟩ := hok
  obtain ⟨⟨o, f⟩, hc⟩ := Option.isSome_iff_exists.1 h1
  have hf := q7S hc
  rw [hf] at h2 h3 h6
  have hy := z5I (τ := f) (hr (i, y) (by simp))
  obtain ⟨q1, q2⟩ := (v7 h3).1 hy
  have hwalk : x.ty.walk [i] = some (o, (W6 f (ρ y)).ty) := by rw [ht, h2]; simp [Ty.walk, hc]
  obtain ⟨g1, g2, _⟩ := hx.at_ hwalk h4 hp
  have hlen := q1.length h3
  rw [h2] at hlen g2
  have q3 : z6 Γ none ([] ++ [i]) (W6 f (ρ y)) (ev y).cells.toList := q1.X7
  obtain ⟨r1, r2, r3⟩ := z6.setAt hx hp (by rw [ht]; exact hd) hwalk h4 q3 h3
  obtain ⟨cells', e1, e2⟩ := y7j (rest := L.map fun p => (p.1, ev p.2)) (hpl i o f hc) (by simpa using hlen) (by simpa using g2)
  simp only [List.map_cons, e2, q6l, hf]
  exact z5E hd hpl L _ cells' (by rw [e1]; exact r1) (by rw [r2, ht]) r3 (fun p hp' => hr p (by simp [hp'])) h6
theorem y2i {gs : List Field} : ∀ {places : List (Nat × Nat)} {j : Nat} {g : Field}, gs.mapM (fun f => (P.info? f.type).map fun i => (f.offset, i.size)) = some places → gs[j]? = some g → places[j]? = some (g.offset, P.cellsOf g.type) := by
 induction gs with
 | nil => intro places j g _ hj; simp at hj
 | cons g0 gs ih =>
  intro places j g h hj
  simp only [List.mapM_cons, Option.bind_eq_bind, Option.pure_def] at h
  cases hi : P.info? g0.type with
  | none => simp [hi] at h
  | some it =>
   cases hr : gs.mapM (fun f => (P.info? f.type).map fun i => (f.offset, i.size)) with
   | none => simp [hi, hr] at h
   | some rest =>
    simp [hi, hr] at h
    subst h
    cases j with
    | zero => simp at hj; subst hj; simp [Program.cellsOf, hi]
    | succ j => simpa using ih hr (by simpa using hj)
theorem mapM_some {gs : List Field} (h : ∀ g ∈ gs, g.type < P.types.size) : ∃ places, gs.mapM (fun f => (P.info? f.type).map fun i => (f.offset, i.size)) = some places := by
 induction gs with
 | nil => exact ⟨[], rfl⟩
 | cons g gs ih =>
  obtain ⟨rest, hr⟩ := ih fun g' hg' => h g' (by simp [hg'])
  have hlt := h g (by simp)
  cases hi : P.info? g.type with
  | none => simp [Tables.info?, hlt] at hi
  | some it => exact ⟨(g.offset, it.size) :: rest, by simp [List.mapM_cons, hi, hr]⟩
theorem y7x (hP : u6 P = true) {T : TypeId} {parts : Array (Nat × Operand)} {ρ : Operand → V} {ev : Operand → Value} (hz : U4 P T = true) (hd : (ty P T).q0i = true) (hs : (ty P T).isAgg = true)
  (hr : ∀ p ∈ parts.toList, z8 Γ (ρ p.2) (ev p.2)) (hok : q6T (ty P T) (Q5 (ty P T)) (parts.toList.map fun p => (p.1, ρ p.2))) :
  ∃ v, (Instr.build T (parts.map fun p => (p.1, ev p.2))).run P w = .ok v w ∧ z8 Γ (q6l (ty P T) (Q5 (ty P T)) (parts.toList.map fun p => (p.1, ρ p.2))) v := by
 obtain ⟨it, z, hi, hzz, hzo, _⟩ := q5r hz
 have hX : z6 Γ none [] (Q5 (ty P T)) z.cells.toList := q9p (ty P T) hzo
 have hXp := q6Y (ty P T)
 cases hτ : ty P T with
 | struct sz os fs =>
  obtain ⟨gs, hu, rfl, rfl, hsz, hgs⟩ := z2w hP hτ
  obtain ⟨places, hpm⟩ := mapM_some (P := P) (gs := gs.toList) fun g hg => (hgs g hg).1
  have hpl : ∀ i o f, (ty P T).child i = some (o, f) → (places.toArray[i]?) = some (o, f.size) := by
   intro i o f hc
   rw [hτ] at hc
   simp only [Ty.child, List.getElem?_map] at hc
   cases hg : gs.toList[i]? with
   | none => rw [hg] at hc; simp at hc
   | some g =>
    rw [hg] at hc
    simp at hc
    obtain ⟨rfl, rfl⟩ := hc
    rw [Z4 hP 11 g.type]
    simpa using y2i hpm hg
  obtain ⟨cells', e1, e2, e3, e4⟩ := z5E (Γ := Γ) hd hpl parts.toList (Q5 (ty P T)) z.cells hX (q5h _) hXp hr hok
  refine ⟨.agg cells', run_build w T _ cells' ?_, ?_⟩
  ·simp only [Program.built, hi, hu, hzz, hpm, Array.toList_map]
   exact e1
  ·rw [← hτ]
   refine (v7 e4).2 ⟨by simpa [Value.cells] using e2, ?_⟩
   rw [e3, hτ]; simp [o9, Ty.isAgg]
 | arr n e =>
  obtain ⟨E, hu, he⟩ := z0h hτ
  have hT : T < P.types.size := by
   rcases Nat.lt_or_ge T P.types.size with hh | hh
   ·exact hh
   ·unfold ty tyF at hτ; rw [if_neg (Nat.not_lt.2 hh)] at hτ; cases hτ
  have hok' := q4d hP hT
  unfold okT at hok'
  simp only [hu] at hok'
  simp at hok'
  obtain ⟨ie, hie⟩ : ∃ i, P.info? E = some i := by
   cases hi : P.info? E with
   | none => simp [Tables.info?, hok'.2] at hi
   | some i => exact ⟨i, rfl⟩
  have hes : ie.size = e.size := by
   have := Z4 hP 11 E
   rw [he, this]; simp [Program.cellsOf, hie]
  have hpl : ∀ i o f, (ty P T).child i = some (o, f) → (fun i => some (i * ie.size, ie.size) : Nat → Option (Nat × Nat)) i = some (o, f.size) := by
   intro i o f hc
   rw [hτ] at hc
   simp only [Ty.child] at hc
   split at hc
   ·simp at hc; obtain ⟨rfl, rfl⟩ := hc; simp [hes]
   ·cases hc
  obtain ⟨cells', e1, e2, e3, e4⟩ := z5E (Γ := Γ) hd hpl parts.toList (Q5 (ty P T)) z.cells hX (q5h _) hXp hr hok
  refine ⟨.agg cells', run_build w T _ cells' ?_, ?_⟩
  ·simp only [Program.built, hi, hu, hzz, hie, Array.toList_map]
   exact e1
  ·rw [← hτ]
   refine (v7 e4).2 ⟨by simpa [Value.cells] using e2, ?_⟩
   rw [e3, hτ]; simp [o9, Ty.isAgg]
 | int | bool | str | slice | ptr | map | func | iface | opq => rw [hτ] at hs; simp [Ty.isAgg] at hs
end
end Go.E
namespace Go.E
open Go
mutual
def V.sites (lv : Nat → Option Nat) : List Nat → V → List (Nat × List Nat)
 | p, .sl _ _ cs t => if lv t = some cs.length then [(t, p)] else []
 | p, .agg _ vs => V.z2G lv p 0 vs
 | _, _ => []
def V.z2G (lv : Nat → Option Nat) : List Nat → Nat → List V → List (Nat × List Nat)
 | _, _, [] => []
 | p, i, x :: xs => V.sites lv (p ++ [i]) x ++ V.z2G lv p (i + 1) xs
end
mutual
def V.Z2 (σ : List (Nat × List Nat)) (lv : Nat → Option Nat) : List Nat → V → V
 | p, .sl eb e cs t => if look σ t = some p ∧ lv t = some cs.length then .ts eb e cs else .d (.slice eb e) (.slice cs)
 | p, .agg τ vs => .agg τ (V.q3w σ lv p 0 vs)
 | _, x => x
def V.q3w (σ : List (Nat × List Nat)) (lv : Nat → Option Nat) : List Nat → Nat → List V → List V
 | _, _, [] => []
 | p, i, x :: xs => V.Z2 σ lv (p ++ [i]) x :: V.q3w σ lv p (i + 1) xs
end
theorem V.z2c (σ : List (Nat × List Nat)) (lv : Nat → Option Nat) : ∀ (p : List Nat) (i : Nat) (xs : List V), (V.q3w σ lv p i xs).length = xs.length
 | _, _, [] => rfl
 | p, i, x :: xs => by simp [V.q3w, V.z2c σ lv p (i + 1) xs]
theorem V.q87 (σ : List (Nat × List Nat)) (lv : Nat → Option Nat) (p : List Nat) (x : V) : (x.Z2 σ lv p).ty = x.ty := by
 cases x <;> simp only [V.Z2] <;> (try split) <;> simp [V.ty]
theorem V.z4V (σ : List (Nat × List Nat)) (lv : Nat → Option Nat) (p : List Nat) (x : V) : (x.Z2 σ lv p).plain = x.plain := by
 cases x <;> simp only [V.Z2] <;> (try split) <;> simp [V.plain]
mutual
def V.okH : V → Bool
 | .fn _ vs => V.U0 vs
 | .agg _ vs => V.y0I vs
 | .tup _ => false
 | _ => true
def V.y0I : List V → Bool
 | [] => true
 | x :: xs => x.okH && V.y0I xs
end
mutual
theorem V.z1A (σ : List (Nat × List Nat)) (lv : Nat → Option Nat) : ∀ (x : V) (p : List Nat), x.okH = true → (x.Z2 σ lv p).j8 = true
 | .sl eb e cs t, p, _ => by simp only [V.Z2]; split <;> rfl
 | .agg τ vs, p, h => by simp only [V.Z2, V.j8]; exact V.z4U σ lv vs p 0 (by simpa [V.okH] using h)
 | .fn f vs, p, h => by simpa [V.Z2, V.j8, V.okH] using h
 | .tup _, p, h => by simp [V.okH] at h
 | .d _ _, _, _ | .ts _ _ _, _, _ | .emp _ _, _, _ | .nilc, _, _ | .ptr _ _ _, _, _ | .cptr _ _, _, _ | .sr _ _ _ _ _ _ _, _, _ | .mp _, _, _ | .top _, _, _ | .any, _, _ => by simp [V.Z2, V.j8]
theorem V.z4U (σ : List (Nat × List Nat)) (lv : Nat → Option Nat) : ∀ (xs : List V) (p : List Nat) (i : Nat), V.y0I xs = true → V.U0 (V.q3w σ lv p i xs) = true
 | [], _, _, _ => rfl
 | x :: xs, p, i, h => by
  simp only [V.y0I, Bool.and_eq_true] at h
  simp only [V.q3w, V.U0, Bool.and_eq_true]
  exact ⟨V.z1A σ lv x _ h.1, V.z4U σ lv xs _ _ h.2⟩
end
def G.home (Γ : G) (k : Key) (σ : List (Nat × List Nat)) : G :=
 { Γ with κ := fun b => match Γ.κ b with
   | some (.tok t, sz) => match look σ t with
    | some p => some (.home k p, sz)
    | none => some (.tok t, sz)
   | x => x }
def q6i (σ : List (Nat × List Nat)) : List (Nat × Option Nat) := σ.map fun x => (x.1, none)
theorem q7d (σ : List (Nat × List Nat)) (tk : List (Nat × Option Nat)) (t : Nat) : look (q6i σ ++ tk) t = match look σ t with | some _ => some none | none => look tk t := by
 induction σ with
 | nil => rfl
 | cons x σ ih =>
  obtain ⟨u, p⟩ := x
  simp only [q6i, List.map_cons, List.cons_append, look] at ih ⊢
  split
  ·rfl
  ·exact ih
section
variable {P : Program} {Γ : G} {w w' : World} {s : S}
theorem Q4.home (Γ : G) (k : Key) (σ : List (Nat × List Nat)) : Q4 Γ (Γ.home k σ) := ⟨Hp.le_refl _, fun _ _ h => h, fun t x L h => ⟨x, L, h, Nat.le_refl _, fun _ => rfl⟩, fun _ _ h => h⟩
mutual
theorem z6.Z2 (c : y9 Γ w s) (k : Key) (σ : List (Nat × List Nat)) : ∀ (x : V) {p : List Nat} {vs : List Value}, z6 Γ none p x vs → z6 (Γ.home k σ) (some k) p (x.Z2 σ s.live p) vs
 | .sl eb e cs t, p, vs, h => by
  simp only [z6] at h
  obtain ⟨a, n, cap, rfl, h2, x, L, h3, h4, h5⟩ := h
  simp only [V.Z2]
  split
  ·rename_i hc
   obtain ⟨hσ, hl⟩ := hc
   obtain ⟨x', h6, h7⟩ := c.tok t _ hl
   rw [h3] at h6; cases h6
   have h5 := h5 rfl
   simp only [z6]
   refine ⟨a, n, cap, k, rfl, rfl, h2, ?_⟩
   cases x with
   | none => exact .inl h5
   | some y =>
    obtain ⟨b, pos, sz⟩ := y
    simp only at h5
    obtain ⟨⟨l, a1, a2⟩, a3⟩ := h7 b pos sz rfl
    exact .inr ⟨b, l, sz, h5.1, a1, by rw [a2]; exact h5.2.1, by simp [G.home, a3, hσ], h5.2.2⟩
  ·simp only [z6]; exact h2
 | .agg τ xs, p, vs, h => by
  simp only [z6] at h
  simp only [V.Z2, z6]
  exact ⟨h.1, h.2.1, by rw [V.z2c]; exact h.2.2.1, h.2.2.2.1, x9.Z2 c k σ xs h.2.2.2.2⟩
 | .ts _ _ _, _, _, h => by
  simp only [z6] at h
  obtain ⟨_, _, _, _, h0, _⟩ := h
  cases h0
 | .tup _, _, _, h => by simp only [z6] at h
 | .d τ cc, _, _, h => by simp only [V.Z2]; exact (z6.Z0 (Q4.home Γ k σ) (hm := none) trivial _ h).X7
 | .emp _ _, _, _, h => by simp only [V.Z2]; exact (z6.Z0 (Q4.home Γ k σ) (hm := none) trivial _ h).X7
 | .nilc, _, _, h => by simp only [V.Z2]; exact (z6.Z0 (Q4.home Γ k σ) (hm := none) trivial _ h).X7
 | .ptr _ _ _, _, _, h => by simp only [V.Z2]; exact (z6.Z0 (Q4.home Γ k σ) (hm := none) trivial _ h).X7
 | .cptr _ _, _, _, h => by simp only [V.Z2]; exact (z6.Z0 (Q4.home Γ k σ) (hm := none) trivial _ h).X7
 | .sr _ _ _ _ _ _ _, _, _, h => by simp only [V.Z2]; exact (z6.Z0 (Q4.home Γ k σ) (hm := none) trivial _ h).X7
 | .mp _, _, _, h => by simp only [V.Z2]; exact (z6.Z0 (Q4.home Γ k σ) (hm := none) trivial _ h).X7
 | .fn _ _, _, _, h => by simp only [V.Z2]; exact (z6.Z0 (Q4.home Γ k σ) (hm := none) trivial _ h).X7
 | .top _, _, _, h => by simp only [V.Z2]; exact (z6.Z0 (Q4.home Γ k σ) (hm := none) trivial _ h).X7
 | .any, _, _, _ => by simp only [V.Z2, z6]
theorem x9.Z2 (c : y9 Γ w s) (k : Key) (σ : List (Nat × List Nat)) : ∀ (xs : List V) {p : List Nat} {i : Nat} {τ : Ty} {vs : List Value}, x9 Γ none p i τ xs vs → x9 (Γ.home k σ) (some k) p i τ (V.q3w σ s.live p i xs) vs
 | [], _, _, _, _, _ => by simp only [V.q3w, x9]
 | x :: xs, _, _, _, _, h => by
  simp only [x9] at h
  simp only [V.q3w, x9, V.q87]
  obtain ⟨⟨o, f, h1, h2, h3, h4⟩, h5⟩ := h
  exact ⟨⟨o, f, h1, h2, h3, z6.Z2 c k σ x h4⟩, x9.Z2 c k σ xs h5⟩
end
theorem y9.home (c : y9 Γ w s) (k : Key) (σ : List (Nat × List Nat)) : y9 (Γ.home k σ) w { s with tk := q6i σ ++ s.tk } ∧ GLe Γ (Γ.home k σ) := by
 refine ⟨?_, ⟨Hp.le_refl _, rfl, fun _ _ => rfl, fun _ _ h => h, rfl, rfl, fun _ _ h => h, fun _ h => h⟩⟩
 have hlive : ∀ t L, S.live { s with tk := q6i σ ++ s.tk } t = some L → look σ t = none ∧ s.live t = some L := by
  intro t L h
  unfold S.live q1u at h
  simp only [q7d] at h
  cases hs : look σ t with
  | some p => simp [hs] at h
  | none => rw [hs] at h; exact ⟨rfl, h⟩
 refine c.change (Q4.home Γ k σ) rfl rfl rfl rfl c.hH (fun _ _ => rfl) (fun b o sz h => ?_) (fun j o h => ?_) (fun _ h _ => h) c.dom c.hσ c.inj (fun t L h => ?_) (fun t h => ?_) (Nat.le_refl _)
 ·simp only [G.home] at h
  cases hk : Γ.κ b with
  | none => simp [hk] at h
  | some y =>
   obtain ⟨o', sz'⟩ := y
   have : sz' = sz := by
    cases o' with
    | home => simp [hk] at h; exact h.2
    | tok t => simp only [hk] at h; split at h <;> simp at h <;> exact h.2
   subst this
   obtain ⟨a1, a2, arr, T, a3, a4, a5⟩ := c.hκ b o' sz' hk
   refine ⟨a1, a2, arr, T, a3, a4, ?_⟩
   cases o' with
   | home => simp [hk] at h; rw [← h]; exact a5
   | tok t => simp only [hk] at h; split at h <;> simp at h <;> rw [← h] <;> trivial
 ·refine .inl ⟨h, fun hd => ⟨fun b p sz hb => ⟨by simp [G.home, hb], rfl⟩, fun b τ hb => ?_⟩⟩
  obtain ⟨a1, _⟩ := c.q1n hb h hd
  exact ⟨rfl, a1⟩
 ·obtain ⟨h1, h2⟩ := hlive t L h
  obtain ⟨x, h3, h4⟩ := c.tok t L h2
  refine ⟨x, h3, fun b pos sz hx => ?_⟩
  obtain ⟨a1, a2⟩ := h4 b pos sz hx
  exact ⟨a1, by simp [G.home, a2, h1]⟩
 ·have := c.tdom t h
  unfold S.known at this ⊢
  rw [q7d]
  split
  ·rfl
  ·exact this
theorem y6S (c : y9 Γ w s) {n : Nat} (hn : s.obj (.l n) = none) {x : V} {cells : Array Value} {T : TypeId} (he : Ext w w') (hw : w'.heap[w.heap.size]? = some (.cells cells T (0, 0))) (hsz : x.ty.size ≤ cells.size)
  (hx : z6 Γ none [] x (chunk cells.toList 0 x.ty.size)) (hp : x.plain = true) (hok : x.okH = true) :
  b5 Γ w { s with loc := (.l n, .box (x.Z2 (x.sites s.live []) s.live [])) :: s.loc, tk := q6i (x.sites s.live []) ++ s.tk } (.ptr (.l n) [] x.ty) (.pointer (some ⟨w.heap.size, 0, none⟩)) w' := by
 obtain ⟨c0, g0⟩ := c.home (.l n) (x.sites s.live [])
 have p0 := Q4.home Γ (.l n) (x.sites s.live [])
 have hx' := hx.Z2 c (.l n) (x.sites s.live [])
 obtain ⟨h1, h2, h3⟩ := c0.addKey (k := .l n) hn he (τ := x.ty) (o := .box (x.Z2 (x.sites s.live []) s.live [])) fun Γ' hpr hkh hι hH hZ =>
  ⟨_, cells, T, by rw [V.q87]; exact hι, hH, hZ, hw, by rw [V.q87]; exact hsz, by rw [V.q87]; exact hx'.Z0 hpr hkh, by rw [V.z4V]; exact hp, V.z1A _ _ _ _ hok⟩
 exact ⟨_, g0.trans h3, p0.trans h2, h1, q3D (τ0 := x.ty) (by simp [G.addKey, q1G]) rfl⟩
theorem y9v (c : y9 Γ w s) {o : Oper} {a : Act} {T : TypeId} {x : Operand} {n : Nat} {y : V} (ho : o.op = .box T x) (hn : s.obj (.l n) = none) (hr : z8 Γ y (a.eval x)) (hpl : y.plain = true) (hok : y.okH = true) :
  j5 P o a w (b5 Γ w { s with loc := (.l n, .box (y.Z2 (y.sites s.live []) s.live [])) :: s.loc, tk := q6i (y.sites s.live []) ++ s.tk } (.ptr (.l n) [] y.ty)) := by
 obtain ⟨h1, _⟩ := (v7 hpl).1 hr
 have hlen := h1.length hpl
 have hb := y6S c hn (T := T) (x := y) (cells := (a.eval x).cells) (Ext.alloc w _) (heap_alloc_new w (.cells (a.eval x).cells T)) (by rw [← hlen]; simp) (by rw [← hlen, q5I]; exact h1) hpl hok
 refine j5.val (v := .pointer (some ⟨w.heap.size, 0, none⟩)) (w' := w.alloc (.cells (a.eval x).cells T)) ?_ hb
 unfold execOp
 simp only [ho, Instr.box]
 simp [newVar, newRow]
theorem z2Y : ∀ {xs : List V} {i : Nat} {y : V}, V.U0 xs = true → y.j8 = true → V.U0 (xs.set i y) = true
 | [], _, _, _, _ => rfl
 | x :: xs, 0, y, h, hy => by simp [V.U0] at h ⊢; exact ⟨hy, h.2⟩
 | x :: xs, i + 1, y, h, hy => by simp [V.U0] at h ⊢; exact ⟨h.1, z2Y h.2 hy⟩
theorem z2Z (c : C) : ∀ (j : Nat) (fs : List Ty), V.U0 (q0h c j fs) = true
 | _, [] => rfl
 | j, f :: fs => by simp [q0h, V.U0, V.j8, z2Z c (j + 1) fs]
theorem V.y6Q : ∀ (x : V) (i : Nat) (y : V), x.j8 = true → y.j8 = true → (x.set i y).j8 = true
 | .d τ c, i, y, _, hy => by
  cases y <;> simp only [V.set] <;> first | rfl | (simp only [V.j8]; exact z2Y (z2Z _ _ _) hy)
 | .agg τ vs, i, y, hx, hy => by simp only [V.set, V.j8]; exact z2Y (by simpa [V.j8] using hx) hy
 | .sl _ _ _ _, _, _, h, _ => by simp [V.j8] at h
 | .ts _ _ _, _, _, _, _ | .emp _ _, _, _, _, _ | .nilc, _, _, _, _ | .ptr _ _ _, _, _, _, _ | .cptr _ _, _, _, _, _ | .sr _ _ _ _ _ _ _, _, _, _, _ | .mp _, _, _, _, _ | .fn _ _, _, _, _, _ | .tup _, _, _, _, _ | .top _, _, _, _, _ | .any, _, _, _, _ => by simp [V.set, V.j8]
theorem z8u : ∀ {xs : List V} {i : Nat} {x : V}, V.U0 xs = true → xs[i]? = some x → x.j8 = true
 | [], _, _, _, h => by simp at h
 | y :: ys, 0, x, h, hx => by simp [V.U0] at h; simp at hx; subst hx; exact h.1
 | y :: ys, i + 1, x, h, hx => by simp [V.U0] at h; exact z8u h.2 (by simpa using hx)
theorem V.y6R {x : V} (h : x.j8 = true) (i : Nat) : (x.get i).j8 = true := by
 cases x <;> simp only [V.get] <;> (try rfl)
 case agg τ vs =>
  cases hi : vs[i]? with
  | none => simp [List.getD, hi, V.j8]
  | some y => simp [List.getD, hi]; exact z8u (by simpa [V.j8] using h) hi
theorem V.q8j : ∀ (q : List Nat) (x y : V), x.j8 = true → y.j8 = true → (x.setAt q y).j8 = true
 | [], _, _, _, hy => hy
 | i :: q, x, y, hx, hy => by simp only [V.setAt]; exact V.y6Q x i _ hx (V.q8j q _ y (V.y6R hx i) hy)
theorem y9.j8 (c : y9 Γ w s) {k : Key} {x : V} {y : Nat × Ty} (hι : Γ.ι k = some y) (h : s.obj k = some (.box x)) : x.j8 = true := by
 obtain ⟨_, _, _, _, _, _, _, _, _, _, h⟩ := c.own hι h
 exact h
theorem y5M (hP : u6 P = true) (c : y9 Γ w s) {o : Oper} {a : Act} {T : TypeId} {p y : Operand} {k : Key} {q : List Nat} {τ : Ty} {x Y : V}
  (ho : o.op = .store T p y) (hr : z8 Γ (.ptr k q τ) (a.eval p)) (hy : z8 Γ Y (a.eval y)) (hobj : s.obj k = some (.box x))
  (ht : τ = ty P T) (hk : τ.known = true) (hY : (W6 τ Y).ty = τ) (hYp : (W6 τ Y).plain = true) (hne : x.at q ≠ .any) (hd : x.ty.q0i = true) (hok : (W6 τ Y).okH = true) :
  j5 P o a w (b5 Γ w { s with loc := (k, .box (x.setAt q ((W6 τ Y).Z2 ((W6 τ Y).sites s.live q) s.live q))) :: s.loc, tk := q6i ((W6 τ Y).sites s.live q) ++ s.tk } .any) := by
 obtain ⟨c0, g0⟩ := c.home k ((W6 τ Y).sites s.live q)
 have p0 := Q4.home Γ k ((W6 τ Y).sites s.live q)
 obtain ⟨b, τ0, off, h1, h2, hpv⟩ := q0I (hr.Z0 p0)
 obtain ⟨b2, cells, E, e1, e2, e3, e4, e5, e6, e7, e8⟩ := c0.own h1 hobj
 rw [h1] at e1
 cases e1
 obtain ⟨g1, g2, _⟩ := e6.at_ h2 hne e7
 have hcl : (chunk cells.toList 0 x.ty.size).length = x.ty.size := b8 _ _ _ (by simpa using e5)
 rw [hcl] at g2
 have hy' := z5I (τ := τ) hy
 obtain ⟨q1, q2⟩ := (v7 hYp).1 hy'
 have hlen := q1.length hYp
 rw [hY] at hlen
 have q3 := (q1.X7 (hm := none) (p' := q)).Z2 c k ((W6 τ Y).sites s.live q)
 obtain ⟨r1, r2, r3⟩ := z6.setAt (q := q) (p := []) (y := (W6 τ Y).Z2 ((W6 τ Y).sites s.live q) s.live q) e6 e7 hd (by rw [V.q87, hY]; exact h2) hne q3 (by rw [V.z4V]; exact hYp)
 have hrun := y0f (w := w) (T := T) (τ := τ) (v := a.eval y) (off := off) hP ht.symm hk e4 (by omega) hlen (q1.one hYp)
 have hlc : off + (a.eval y).cells.toList.length ≤ cells.toList.length := by rw [hlen]; simp; omega
 have hs2 : (j3 cells.toList off (a.eval y).cells.toList).toArray.size = cells.size := by simp only [List.size_toArray, U6 hlc]; simp
 have c' := c0.write (x' := x.setAt q ((W6 τ Y).Z2 ((W6 τ Y).sites s.live q) s.live q)) (cells' := (j3 cells.toList off (a.eval y).cells.toList).toArray) (w' := w.setRow b (j3 cells.toList off (a.eval y).cells.toList).toArray) hobj h1
  (setRow_heap w b cells _ E (0, 0) e4) (fun b' hb' => setRow_other w b b' _ hb') rfl (by rw [r2, hs2]; exact e5)
  (by rw [r2, List.toList_toArray, z1V _ _ (by rw [hlen]; exact g2) (by simpa using e5)]; exact r1) r2 r3 (V.q8j q x _ (c0.j8 h1 hobj) (V.z1A _ _ _ _ hok)) (fun arr T fr h => by rw [e4] at h; cases h; exact hs2)
 refine j5.skip (w' := w.setRow b (j3 cells.toList off (a.eval y).cells.toList).toArray) ?_ ⟨_, g0, p0, c', by simp [z8]⟩
 unfold execOp
 simp [ho, Instr.storeAt, hpv, Instr.sureAddr, hrun]
def V.q9B : V → Bool
 | .ts _ _ _ => false
 | _ => true
mutual
theorem z6.z0w {Γ Γ' : G} (hp : Q4 Γ Γ') {k : Key} {q : List Nat} (hk : ∀ b p sz, Γ.κ b = some (.home k p, sz) → p ≠ q → Γ'.κ b = Γ.κ b ∧ Γ'.H b = Γ.H b) :
  ∀ (x : V) {p : List Nat} {vs : List Value}, (∀ r, p ++ r = q → (x.at r).q9B = true) → z6 Γ (some k) p x vs → z6 Γ' (some k) p x vs
 | .ts eb e cs, p, _, hn, h => by
  simp only [z6] at h ⊢
  obtain ⟨a, n, cap, k', h0, h1, h2, h3⟩ := h
  cases h0
  refine ⟨a, n, cap, k, rfl, h1, h2.mono hp.H, ?_⟩
  have hpq : p ≠ q := by
   intro e
   have := hn [] (by simpa using e)
   simp [V.at, V.q9B] at this
  rcases h3 with h3 | ⟨b, l, sz, a1, a2, a3, a4, a5⟩
  ·exact .inl h3
  ·obtain ⟨e1, e2⟩ := hk b p sz a4 (fun e => hpq (by injection e))
   exact .inr ⟨b, l, sz, a1, by rw [e2, a2], a3, by rw [e1, a4], a5⟩
 | .agg τ xs, p, vs, hn, h => by
  simp only [z6] at h ⊢
  refine ⟨h.1, h.2.1, h.2.2.1, h.2.2.2.1, x9.z0w hp hk xs (fun i r hr => ?_) h.2.2.2.2⟩
  have := hn (i :: r) (by simpa using hr)
  simp only [V.at, V.get] at this
  simpa using this
 | .d _ _, _, _, _, h => by simp only [z6] at h ⊢; exact h.mono hp.H
 | .sl eb e cs t, _, _, _, h => by
  simp only [z6] at h ⊢
  obtain ⟨a, n, cap, h1, h2, h3⟩ := h
  exact ⟨a, n, cap, h1, h2.mono hp.H, h3.Z0 hp⟩
 | .emp _ _, _, _, _, h => by simpa only [z6] using h
 | .nilc, _, _, _, h => by simpa only [z6] using h
 | .ptr k q τ, _, _, _, h => by
  simp only [z6] at h ⊢
  obtain ⟨b, τ0, o, h1, h2⟩ := h
  exact ⟨b, τ0, o, hp.ι _ _ h1, h2⟩
 | .cptr τ c, _, _, _, h => by
  simp only [z6] at h ⊢
  obtain ⟨b, off, l, h1, h2, h3, h4⟩ := h
  obtain ⟨l', a1, a2, a3⟩ := z3G hp.H h2 h3 h4
  exact ⟨b, off, l', h1, a1, a2, a3⟩
 | .sr _ _ _ _ _ _ _, _, _, _, h => by
  simp only [z6] at h ⊢
  rcases h with h | ⟨b, τ0, o, m, cap, h1, h2, h3, h4, h5, h6, h7, h8, h9⟩
  ·exact .inl h
  exact .inr ⟨b, τ0, o, m, cap, hp.ι _ _ h1, h2, h3, h4, h5, h6, h7, h8, fun e => (h9 e).imp id fun ⟨sz, a1, a2⟩ => ⟨sz, hp.σ _ _ a1, a2⟩⟩
 | .mp _, _, _, _, h => by
  simp only [z6] at h ⊢
  obtain ⟨b, h1, h2⟩ := h
  exact ⟨b, hp.ι _ _ h1, h2⟩
 | .fn f caps, _, _, _, h => by
  simp only [z6] at h ⊢
  obtain ⟨cv, h1, h2⟩ := h
  exact ⟨cv, h1, w9.Z0 hp caps h2⟩
 | .tup _, _, _, _, h => by simp only [z6] at h
 | .top _, _, _, _, h => by simpa only [z6] using h
 | .any, _, _, _, _ => by simp only [z6]
theorem x9.z0w {Γ Γ' : G} (hp : Q4 Γ Γ') {k : Key} {q : List Nat} (hk : ∀ b p sz, Γ.κ b = some (.home k p, sz) → p ≠ q → Γ'.κ b = Γ.κ b ∧ Γ'.H b = Γ.H b) :
  ∀ (xs : List V) {p : List Nat} {i : Nat} {τ : Ty} {vs : List Value}, (∀ j r, p ++ [i + j] ++ r = q → ((xs.getD j .any).at r).q9B = true) → x9 Γ (some k) p i τ xs vs → x9 Γ' (some k) p i τ xs vs
 | [], _, _, _, _, _, _ => by simp only [x9]
 | x :: xs, p, i, τ, vs, hn, h => by
  simp only [x9] at h ⊢
  obtain ⟨⟨o, f, h1, h2, h3, h4⟩, h5⟩ := h
  refine ⟨⟨o, f, h1, h2, h3, z6.z0w hp hk x (fun r hr => ?_) h4⟩, x9.z0w hp hk xs (fun j r hr => ?_) h5⟩
  ·have := hn 0 r (by simpa using hr)
   simpa using this
  ·have := hn (j + 1) r (by rw [show i + (j + 1) = i + 1 + j by omega]; exact hr)
   simpa using this
end
theorem V.z7i : ∀ (q : List Nat) (x : V) {τ : Ty} {c : C}, (∃ eb e cs, x.at q = .ts eb e cs) → (x.setAt q (.d τ c)).at q = .d τ c
 | [], _, _, _, _ => rfl
 | i :: q, x, τ, c, hx => by
  obtain ⟨eb, e, cs, hx⟩ := hx
  simp only [V.at] at hx
  have ih := V.z7i q (x.get i) (τ := τ) (c := c) ⟨eb, e, cs, hx⟩
  cases x <;> (try (simp only [V.get, V.z3J] at hx; cases hx; done))
  case d τ' c' =>
   exfalso
   have : ∀ (q : List Nat) (τ : Ty) (c : C), ∃ τ' c', (V.d τ c).at q = .d τ' c' := by
    intro q
    induction q with
    | nil => intro τ c; exact ⟨τ, c, rfl⟩
    | cons j q ih => intro τ c; simp only [V.at, V.get]; exact ih _ _
   obtain ⟨_, _, h⟩ := this q (τ'.get i) (c'.get i)
   simp only [V.get] at hx
   rw [h] at hx; cases hx
  case agg τ' vs =>
   have hlt : i < vs.length := by
    rcases Nat.lt_or_ge i vs.length with h | h
    ·exact h
    ·simp [V.get, List.getD, List.getElem?_eq_none h, V.z3J] at hx
   simp only [V.setAt, V.set, V.at]
   have : (V.agg τ' (vs.set i ((V.agg τ' vs).get i |>.setAt q (.d τ c)))).get i = ((V.agg τ' vs).get i).setAt q (.d τ c) := by
    simp [V.get, List.getD, hlt]
   rw [this]; exact ih
theorem y9.take (c : y9 Γ w s) {k : Key} {q : List Nat} {x : V} {eb : Nat} {e : Ty} {cs : List C} {t b : Nat} {τ0 : Ty} {o0 : Nat} (ho : s.obj k = some (.box x)) (hx : x.at q = .ts eb e cs) (hd : x.ty.q0i = true) (ht : s.known t = false)
  (hι : Γ.ι k = some (b, τ0)) (hw : τ0.walk q = some (o0, .slice eb e)) {a : Option Addr} {n cap : Nat} (hcell : w.cell? ⟨b, o0, none⟩ = some (.slice a n cap)) :
  ∃ Γ', GLe Γ Γ' ∧ Q4 Γ Γ' ∧ y9 Γ' w { s with loc := (k, .box (x.setAt q (.d (.slice eb e) (.slice cs)))) :: s.loc, tk := (t, some cs.length) :: s.tk } ∧ z8 Γ' (.sl eb e cs t) (.slice a n cap) := by
 obtain ⟨b2, cells, E, e1, e2, e3, e4, e5, e6, e7, e8⟩ := c.own hι ho
 rw [hι] at e1
 cases e1
 obtain ⟨g1, g2, g3⟩ := e6.at_ hw (by rw [hx]; simp) e7
 have hcl : (chunk cells.toList 0 x.ty.size).length = x.ty.size := b8 _ _ _ (by simpa using e5)
 rw [hcl] at g2
 simp only [Ty.size] at g2 g3
 have hch : chunk (chunk cells.toList 0 x.ty.size) o0 1 = chunk cells.toList o0 1 := by rw [Q9 _ _ _ _ _ (by omega), Nat.zero_add]
 have hce : chunk cells.toList o0 1 = [.slice a n cap] := by
  apply List.ext_getElem?
  intro j
  rw [j4]
  by_cases hj : j < 1
  ·have : j = 0 := by omega
   subst this
   simp [World.cell?, e4] at hcell
   simpa using hcell
  ·simp [hj]
 rw [hch, hce, hx] at g3
 simp only [z6] at g3
 obtain ⟨a', n', cap', k', hk', hv, hrc, htip⟩ := g3
 simp at hk' hv
 subst hk'
 obtain ⟨rfl, rfl, rfl⟩ := hv
 have hself : j3 (chunk cells.toList 0 x.ty.size) o0 [.slice a n cap] = chunk cells.toList 0 x.ty.size := by
  apply List.ext_getElem?
  intro j
  rw [U5 (by simp; omega)]
  split
  ·rename_i hj
   simp at hj
   have : j = o0 := by omega
   subst this
   have h0 : (chunk (chunk cells.toList 0 x.ty.size) j 1)[0]? = some (.slice a n cap) := by rw [hch, hce]; rfl
   rw [j4] at h0
   simp at h0 ⊢
   exact h0.symm
  ·rfl
 have hw' : x.ty.walk q = some (o0, (V.d (.slice eb e) (.slice cs)).ty) := hw
 obtain ⟨r1, r2, r3⟩ := z6.setAt (p := []) (ws := [.slice a n cap]) (y := .d (.slice eb e) (.slice cs)) e6 e7 hd hw' (by rw [hx]; simp) (by simpa only [z6] using hrc) rfl
 rw [hself] at r1
 have hns : (x.setAt q (.d (.slice eb e) (.slice cs))).j8 = true := V.q8j q x _ e8 rfl
 -- the object as it is then, first under the old ghost
 have c1 : y9 Γ w { s with loc := (k, .box (x.setAt q (.d (.slice eb e) (.slice cs)))) :: s.loc } :=
  c.write ho hι e4 (fun _ _ => rfl) rfl (by rw [r2]; exact e5) (by rw [r2]; exact r1) r2 r3 hns (fun arr T fr h => by rw [e4] at h; cases h; rfl)
 obtain ⟨_, n1, cap1, f1, _, f2, f3, f4, f5, f6⟩ := q0J hrc
 simp at f1
 obtain ⟨rfl, rfl, rfl⟩ := f1
 simp only [C.elems] at f2
 rcases htip with htip | ⟨b1, l, sz, rfl, h1, h2, h3, h4⟩
 ·obtain ⟨c2, p2, g2'⟩ := c1.J9 (t := t) (x := none) (L := cs.length) ht (fun _ _ _ h => by cases h)
  refine ⟨_, g2', p2, c2, (k7 rfl rfl).2 ⟨?_, rfl⟩⟩
  simp only [z6]
  exact ⟨a, n, cap, rfl, hrc, none, cs.length, b6 _ _ _, Nat.le_refl _, fun _ => htip⟩
 ·have hτ : Γ.τ t = none := c.y4D ht
  obtain ⟨z1, z2, arr, T, z3, z4, _⟩ := c.hκ b1 _ _ h3
  have hp : Q4 Γ { Γ with τ := Y2 Γ.τ t (some (b1, l.length, sz), cs.length), κ := Y2 Γ.κ b1 (.tok t, sz) } :=
   ⟨Hp.le_refl _, fun _ _ h => h, fun u y M h => by
    have : u ≠ t := by intro e; subst e; rw [hτ] at h; cases h
    exact ⟨y, M, (q0e _ _ this).trans h, Nat.le_refl _, fun _ => rfl⟩, fun _ _ h => h⟩
  have hne : ∀ b' o', Γ.κ b' = some o' → b' ≠ b1 → Y2 Γ.κ b1 (.tok t, sz) b' = some o' := fun b' o' h hb => (q0e _ _ hb).trans h
  refine ⟨{ Γ with τ := Y2 Γ.τ t (some (b1, l.length, sz), cs.length), κ := Y2 Γ.κ b1 (.tok t, sz) }, ⟨Hp.le_refl _, rfl, fun _ _ => rfl, fun _ _ h => h, rfl, rfl, fun _ _ h => h, fun _ h => h⟩, hp, ?_, (k7 rfl rfl).2 ⟨?_, rfl⟩⟩
  ·refine c1.change hp rfl rfl rfl rfl c.hH (fun _ _ => rfl) (fun b' o' sz' h => ?_) (fun j o' h => ?_) (fun _ h _ => h) c1.dom c.hσ c1.inj (fun u M h => ?_) (fun u h => ?_) (Nat.le_refl _)
   ·by_cases e : b' = b1
    ·subst e
     have h' : sz = sz' := by have := h; simp [Y2] at this; exact this.2
     subst h'
     exact ⟨z1, z2, arr, T, z3, z4, by have := h; simp [Y2] at this; rw [← this]; trivial⟩
    ·exact c.hκ b' o' sz' ((q0e _ _ e).symm.trans h)
   ·have h' : S.obj { s with loc := (k, .box (x.setAt q (.d (.slice eb e) (.slice cs)))) :: s.loc } j = some o' := h
    by_cases hj : k = j
    ·subst hj
     rw [Q7, if_pos rfl] at h'
     cases h'
     refine .inr ⟨b, cells, E, by rw [r2]; exact hι, e2, e3, e4, by rw [r2]; exact e5, ?_, r3, hns⟩
     rw [r2]
     refine z6.z0w (q := q) hp (fun b' p sz' hb hpq => ?_) _ (fun r hr => ?_) r1
     ·have : b' ≠ b1 := by
       intro e; subst e; rw [h3] at hb; simp at hb; exact hpq hb.1.symm
      exact ⟨(hne b' _ hb this).trans hb.symm, rfl⟩
     ·rw [List.nil_append] at hr
      subst hr
      have : (x.setAt r (.d (.slice eb e) (.slice cs))).at r = .d (.slice eb e) (.slice cs) := V.z7i r x ⟨_, _, _, hx⟩
      rw [this]; rfl
    ·refine .inl ⟨h', fun hd => ⟨fun b' p sz' hb => ?_, fun b' τ hb => ?_⟩⟩
     ·have : b' ≠ b1 := by
       intro e; subst e; rw [h3] at hb; simp at hb; exact hj hb.1.1
      exact ⟨(hne b' _ hb this).trans hb.symm, rfl⟩
     ·obtain ⟨a1, _⟩ := c1.q1n hb h' hd
      exact ⟨rfl, a1⟩
   ·have h9 : (if t = u then some cs.length else s.live u) = some M := (q4n { s with loc := (k, .box (x.setAt q (.d (.slice eb e) (.slice cs)))) :: s.loc } t u (some cs.length)).symm.trans h
    clear h
    split at h9
    ·rename_i e
     subst e; cases h9
     refine ⟨_, b6 _ _ _, fun b' pos sz' e => ?_⟩
     cases e
     exact ⟨⟨l, h1, rfl⟩, b6 _ _ _⟩
    ·rename_i e
     have e' : u ≠ t := fun h' => e h'.symm
     obtain ⟨y, a1, a2⟩ := c.tok u M h9
     refine ⟨y, (q0e _ _ e').trans a1, fun b' pos sz' hy => ?_⟩
     obtain ⟨a3, a4⟩ := a2 b' pos sz' hy
     exact ⟨a3, hne b' _ a4 (fun e => by subst e; rw [h3] at a4; cases a4)⟩
   ·refine (q3l { s with loc := (k, .box (x.setAt q (.d (.slice eb e) (.slice cs)))) :: s.loc } t u (some cs.length)).trans ?_
    by_cases e : t = u
    ·simp [e]
    ·have e' : u ≠ t := fun h' => e h'.symm
     simp only [e, decide_false, Bool.false_or]
     refine c.tdom u ?_
     simpa [Y2, e'] using h
  ·simp only [z6]
   exact ⟨_, n, cap, rfl, hrc, _, _, b6 _ _ _, Nat.le_refl _, fun _ => ⟨rfl, h2, h4⟩⟩
end
end Go.E
