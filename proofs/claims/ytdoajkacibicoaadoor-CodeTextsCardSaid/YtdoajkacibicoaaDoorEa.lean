/-
 A framework for runs of Go code over abstract data: what it needs, and that it is sound, part 1.
 Conditions: none.
-/
import Derived.WalkKit
import Derived.Lib.Strings
import Derived.ChangeKeysEq
import Derived.Deep.AppendSrc
import Derived.Deep.Upon
import Derived.Great.FillDense
import Derived.Great.BuildSlice
set_option linter.all false
namespace Go.E
open Go
inductive Ty where
 | int (k : IntKind) | bool | str | slice (eb : Nat) (e : Ty) | arr (n : Nat) (e : Ty)
 | struct (sz : Nat) (os : List Nat) (fs : List Ty) | ptr | map | func | iface | opq (sz : Nat)
 deriving Inhabited
def Ty.size : Ty → Nat
 | .arr n e => n * e.size
 | .struct sz _ _ => sz
 | .opq sz => sz
 | _ => 1
def Ty.isAgg : Ty → Bool
 | .arr _ _ | .struct _ _ _ => true
 | _ => false
inductive C where
 | int (n : Int) | bool (b : Bool) | str (l : List UInt8) | agg (cs : List C) | slice (cs : List C) | nil
 deriving Inhabited
abbrev Hp := Nat → Option (List Value)
def Hp.le (H H' : Hp) : Prop := ∀ b l, H b = some l → ∃ r, H' b = some (l ++ r)
theorem Hp.le_refl (H : Hp) : H.le H := fun _ _ h => ⟨[], by simpa using h⟩
theorem Hp.le_trans {a b c : Hp} (h : a.le b) (h' : b.le c) : a.le c := fun b l hb => by
 obtain ⟨r, h1⟩ := h b l hb
 obtain ⟨r', h2⟩ := h' b _ h1
 exact ⟨r ++ r', by rw [h2, List.append_assoc]⟩
def q0K (vs : List Value) : Prop := ∀ v ∈ vs, v.oneCell' = true
def chunk (vs : List Value) (o n : Nat) : List Value := (vs.drop o).take n
mutual
def y4 (H : Hp) : Ty → List Value → C → Prop
 | .int k, vs, c => ∃ n, c = .int n ∧ vs = [.int k n] ∧ k.min ≤ n ∧ n ≤ k.max
 | .bool, vs, c => ∃ b, c = .bool b ∧ vs = [.bool b]
 | .str, vs, c => ∃ l, c = .str l ∧ vs = [.string ⟨l.toArray⟩] ∧ l.length ≤ 140737488355328
 | .slice eb e, vs, c => ∃ a n cap cs, c = .slice cs ∧ vs = [.slice a n cap] ∧ cs.length = n ∧ n ≤ cap ∧ cap ≤ maxLen ∧
   n * eb ≤ 140737488355328 ∧ (n = 0 ∨ ∃ b off l, a = some ⟨b, off, none⟩ ∧ H b = some l ∧
    off + n * e.size ≤ l.length ∧ ∀ i c, cs[i]? = some c → y4 H e (chunk l (off + i * e.size) e.size) c)
 | .arr n e, vs, c => ∃ cs, c = .agg cs ∧ cs.length = n ∧ vs.length = n * e.size ∧ q0K vs ∧
   ∀ i c, cs[i]? = some c → y4 H e (chunk vs (i * e.size) e.size) c
 | .struct sz os fs, vs, c => ∃ cs, c = .agg cs ∧ vs.length = sz ∧ q0K vs ∧ k9 H fs os vs cs
 | .ptr, vs, c => c = .nil ∧ vs = [.pointer none]
 | .map, vs, c => c = .nil ∧ vs = [.map none]
 | .func, vs, c => c = .nil ∧ vs = [.nilFunc]
 | .iface, vs, c => (c = .nil ∧ vs = [.nilIface]) ∨ (c = .bool true ∧ ∃ t v, vs = [.iface t v])
 | .opq _, _, _ => False
def k9 (H : Hp) : List Ty → List Nat → List Value → List C → Prop
 | [], _, _, cs => cs = []
 | f :: fs, o :: os, vs, cs => ∃ c cs', cs = c :: cs' ∧ o + f.size ≤ vs.length ∧ y4 H f (chunk vs o f.size) c ∧ k9 H fs os vs cs'
 | _ :: _, [], _, _ => False
end
theorem q10 (l r : List Value) (o n : Nat) (h : o + n ≤ l.length) : chunk (l ++ r) o n = chunk l o n := by
 unfold chunk
 rw [List.drop_append_of_le_length (by omega), List.take_append_of_le_length (by simp; omega)]
mutual
theorem y4.mono {H H' : Hp} (h : H.le H') : ∀ {τ : Ty} {vs : List Value} {c : C}, y4 H τ vs c → y4 H' τ vs c
 | .int _, _, _, r => by simpa [y4] using r
 | .bool, _, _, r => by simpa [y4] using r
 | .str, _, _, r => by simpa [y4] using r
 | .slice eb e, vs, c, r => by
  simp only [y4] at r ⊢
  obtain ⟨a, n, cap, cs, rfl, rfl, h1, h2, h3, h4, h5⟩ := r
  refine ⟨a, n, cap, cs, rfl, rfl, h1, h2, h3, h4, ?_⟩
  rcases h5 with h5 | ⟨b, off, l, ha, hb, hs, hr⟩
  ·exact .inl h5
  ·obtain ⟨r, hb'⟩ := h _ _ hb
   refine .inr ⟨b, off, l ++ r, ha, hb', by simp; omega, fun i c hi => ?_⟩
   have hi' : i < n := by rw [← h1]; exact (List.getElem?_eq_some_iff.1 hi).1
   have hle : (i + 1) * e.size ≤ n * e.size := Nat.mul_le_mul_right _ hi'
   rw [Nat.add_mul] at hle
   rw [q10 _ _ _ _ (by omega)]
   exact y4.mono h (hr i c hi)
 | .arr n e, vs, c, r => by
  simp only [y4] at r ⊢
  obtain ⟨cs, rfl, h1, h2, h4, h3⟩ := r
  exact ⟨cs, rfl, h1, h2, h4, fun i c hi => y4.mono h (h3 i c hi)⟩
 | .struct sz os fs, vs, c, r => by
  simp only [y4] at r ⊢
  obtain ⟨cs, rfl, h1, h4, h2⟩ := r
  exact ⟨cs, rfl, h1, h4, k9.mono h h2⟩
 | .ptr, _, _, r => by simpa [y4] using r
 | .map, _, _, r => by simpa [y4] using r
 | .func, _, _, r => by simpa [y4] using r
 | .iface, _, _, r => by simpa [y4] using r
 | .opq _, _, _, r => by simp [y4] at r
theorem k9.mono {H H' : Hp} (h : H.le H') : ∀ {fs : List Ty} {os : List Nat} {vs : List Value} {cs : List C}, k9 H fs os vs cs → k9 H' fs os vs cs
 | [], _, _, _, r => by simpa [k9] using r
 | f :: fs, o :: os, vs, cs, r => by
  simp only [k9] at r ⊢
  obtain ⟨c, cs', rfl, h1, h2, h3⟩ := r
  exact ⟨c, cs', rfl, h1, y4.mono h h2, k9.mono h h3⟩
 | _ :: _, [], _, _, r => by simp [k9] at r
end
theorem k8 (vs : List Value) (o n : Nat) (h : o + n ≤ vs.length) : (chunk vs o n).length = n := by
 simp [chunk]; omega
theorem y4.length {H : Hp} : ∀ {τ : Ty} {vs : List Value} {c : C}, y4 H τ vs c → vs.length = τ.size := by
 intro τ vs c r
 cases τ <;> simp only [y4] at r
 all_goals (first
  | (rcases r with ⟨rfl, rfl⟩ | ⟨rfl, t, v, rfl⟩ <;> rfl)
  | (obtain ⟨n, rfl, rfl, _⟩ := r; rfl)
  | (obtain ⟨n, rfl, rfl⟩ := r; rfl)
  | (obtain ⟨a, n, cap, cs, rfl, rfl, _⟩ := r; rfl)
  | (obtain ⟨cs, rfl, _, h, _⟩ := r; exact h)
  | (obtain ⟨cs, rfl, h, _⟩ := r; exact h)
  | (obtain ⟨rfl, rfl⟩ := r; rfl))
theorem q0K.chunk {vs : List Value} {o n : Nat} (h : q0K vs) : q0K (chunk vs o n) := fun v hv => h v (List.mem_of_mem_drop (List.mem_of_mem_take hv))
theorem y4.one {H : Hp} : ∀ {τ : Ty} {vs : List Value} {c : C}, y4 H τ vs c → q0K vs := by
 intro τ vs c r
 cases τ <;> simp only [y4] at r
 all_goals (first
  | (rcases r with ⟨rfl, rfl⟩ | ⟨rfl, t, v, rfl⟩ <;> (intro v hv; simp at hv; subst hv; rfl))
  | (obtain ⟨n, rfl, rfl, _⟩ := r; intro v hv; simp at hv; subst hv; rfl)
  | (obtain ⟨n, rfl, rfl⟩ := r; intro v hv; simp at hv; subst hv; rfl)
  | (obtain ⟨a, n, cap, cs, rfl, rfl, _⟩ := r; intro v hv; simp at hv; subst hv; rfl)
  | (obtain ⟨cs, rfl, _, h, h1, _⟩ := r; exact h1)
  | (obtain ⟨cs, rfl, h, h1, _⟩ := r; exact h1)
  | (obtain ⟨rfl, rfl⟩ := r; intro v hv; simp at hv; subst hv; rfl))
theorem k9.get {H : Hp} : ∀ {fs : List Ty} {os : List Nat} {vs : List Value} {cs : List C} {i : Nat} {f : Ty}, k9 H fs os vs cs → fs[i]? = some f →
  ∃ o c, os[i]? = some o ∧ cs[i]? = some c ∧ o + f.size ≤ vs.length ∧ y4 H f (chunk vs o f.size) c
 | [], _, _, _, _, _, _, h => by simp at h
 | f :: fs, o :: os, vs, cs, 0, g, r, h => by
  simp only [k9] at r
  obtain ⟨c, cs', rfl, h1, h2, _⟩ := r
  simp at h; subst h
  exact ⟨o, c, rfl, rfl, h1, h2⟩
 | f :: fs, o :: os, vs, cs, i + 1, g, r, h => by
  simp only [k9] at r
  obtain ⟨c, cs', rfl, _, _, h3⟩ := r
  have h' : fs[i]? = some g := by simpa using h
  obtain ⟨o', c', a, b, d⟩ := k9.get h3 h'
  exact ⟨o', c', by simpa using a, by simpa using b, d⟩
 | _ :: _, [], _, _, _, _, r, _ => by simp [k9] at r
theorem k9.y1A {H : Hp} : ∀ {fs : List Ty} {os : List Nat} {vs : List Value} {cs : List C}, k9 H fs os vs cs → cs.length = fs.length
 | [], _, _, _, r => by simp only [k9] at r; simp [r]
 | f :: fs, o :: os, vs, cs, r => by
  simp only [k9] at r
  obtain ⟨c, cs', rfl, _, _, h3⟩ := r
  simp [k9.y1A h3]
 | _ :: _, [], _, _, r => by simp [k9] at r
theorem k9.q57 {H : Hp} : ∀ {fs : List Ty} {os : List Nat} {vs : List Value} {cs : List C}, cs.length = fs.length →
  (∀ (i : Nat) (f : Ty) (c : C), fs[i]? = some f → cs[i]? = some c → ∃ o, os[i]? = some o ∧ o + f.size ≤ vs.length ∧ y4 H f (chunk vs o f.size) c) → k9 H fs os vs cs
 | [], _, _, cs, hl, _ => by simpa [k9] using hl
 | f :: fs, [], vs, c :: cs, hl, h => by
  obtain ⟨o, ho, _⟩ := h 0 f c rfl rfl
  simp at ho
 | f :: fs, o :: os, vs, c :: cs, hl, h => by
  obtain ⟨o', ho, h1, h2⟩ := h 0 f c rfl rfl
  simp at ho; subst ho
  simp only [k9]
  exact ⟨c, cs, rfl, h1, h2, k9.q57 (by simpa using hl) (fun i g c' hg hc => by simpa using h (i + 1) g c' (by simpa using hg) (by simpa using hc))⟩
 | f :: fs, _, _, [], hl, _ => by simp at hl
theorem c8 (vs : List Value) (o n o' n' : Nat) (h : o' + n' ≤ n) : chunk (chunk vs o n) o' n' = chunk vs (o + o') n' := by
 simp only [chunk, List.drop_take, List.drop_drop, List.take_take]
 congr 1
 omega
theorem q4u (vs : List Value) : chunk vs 0 vs.length = vs := by simp [chunk]
mutual
def Ty.beq : Ty → Ty → Bool
 | .int a, .int b => decide (a = b)
 | .bool, .bool | .str, .str | .ptr, .ptr | .map, .map | .func, .func | .iface, .iface => true
 | .slice a e, .slice b f => decide (a = b) && Ty.beq e f
 | .arr a e, .arr b f => decide (a = b) && Ty.beq e f
 | .struct a o e, .struct b p f => decide (a = b) && decide (o = p) && Ty.q46 e f
 | .opq a, .opq b => decide (a = b)
 | _, _ => false
def Ty.q46 : List Ty → List Ty → Bool
 | [], [] => true
 | x :: xs, y :: ys => Ty.beq x y && Ty.q46 xs ys
 | _, _ => false
end
mutual
theorem Ty.beq_iff : ∀ (a b : Ty), Ty.beq a b = true ↔ a = b
 | .int a, b => by cases b <;> simp [Ty.beq]
 | .bool, b => by cases b <;> simp [Ty.beq]
 | .str, b => by cases b <;> simp [Ty.beq]
 | .ptr, b => by cases b <;> simp [Ty.beq]
 | .map, b => by cases b <;> simp [Ty.beq]
 | .func, b => by cases b <;> simp [Ty.beq]
 | .iface, b => by cases b <;> simp [Ty.beq]
 | .slice a e, b => by cases b <;> simp [Ty.beq, Ty.beq_iff e]
 | .arr a e, b => by cases b <;> simp [Ty.beq, Ty.beq_iff e]
 | .struct a o e, b => by cases b <;> simp [Ty.beq, Ty.q5C e, and_assoc]
 | .opq a, b => by cases b <;> simp [Ty.beq]
theorem Ty.q5C : ∀ (a b : List Ty), Ty.q46 a b = true ↔ a = b
 | [], b => by cases b <;> simp [Ty.q46]
 | x :: xs, [] => by simp [Ty.q46]
 | x :: xs, y :: ys => by simp [Ty.q46, Ty.beq_iff x, Ty.q5C xs]
end
instance : DecidableEq Ty := fun a b => decidable_of_iff _ (Ty.beq_iff a b)
inductive Key where
 | l (n : Nat) | g (k : Key)
 deriving DecidableEq, Inhabited
inductive V where
 | d (τ : Ty) (c : C)
 | sl (eb : Nat) (e : Ty) (cs : List C) (t : Nat)
 | ts (eb : Nat) (e : Ty) (cs : List C)
 | emp (eb : Nat) (e : Ty)
 | nilc
 | ptr (k : Key) (q : List Nat) (τ : Ty)
 | cptr (τ : Ty) (c : C)
 | sr (k : Key) (q : List Nat) (lo n : Nat) (cp : Option Nat) (eb : Nat) (e : Ty)
 | mp (k : Key)
 | agg (τ : Ty) (vs : List V)
 | fn (f : FuncId) (caps : List V)
 | tup (vs : List V)
 | top (τ : Ty)
 | any
 deriving Inhabited
def V.ty : V → Ty
 | .d τ _ => τ
 | .ptr _ _ _ | .cptr _ _ => .ptr
 | .sl eb e _ _ | .ts eb e _ | .emp eb e | .sr _ _ _ _ _ eb e => .slice eb e
 | .mp _ => .map
 | .agg τ _ => τ
 | .fn _ _ => .func
 | .tup _ | .any => .opq 0
 | .nilc => .slice 0 (.opq 0)
 | .top τ => τ
def Ty.child : Ty → Nat → Option (Nat × Ty)
 | .struct _ os fs, i => match os[i]?, fs[i]? with | some o, some f => some (o, f) | _, _ => none
 | .arr n e, i => if i < n then some (i * e.size, e) else none
 | _, _ => none
def Ty.kids : Ty → Nat
 | .struct _ _ fs => fs.length
 | .arr n _ => n
 | _ => 0
def Ty.q9Q : Ty → Bool
 | .arr _ _ => true
 | _ => false
def Ty.walk : Ty → List Nat → Option (Nat × Ty)
 | τ, [] => some (0, τ)
 | τ, i :: q => match τ.child i with
  | some (o, f) => match f.walk q with
   | some (o', t) => some (o + o', t)
   | none => none
  | none => none
def z0U : Ty := .struct 2 [0, 1] [.ptr, .slice 1 (.int .u8)]
def y8G (l : List UInt8) : List Value := l.map fun b => Value.int .u8 (b.toNat : Int)
inductive O where
 | box (x : V)
 | map (kτ vτ : Ty) (es : List (C × V))
 | it (l : List UInt8) (pos : Nat)
 | dead (τ : Ty)
 deriving Inhabited
def O.ty : O → Ty
 | .box x => x.ty
 | .map _ _ _ => .map
 | .it _ _ => z0U
 | .dead τ => τ
def O.H4 : O → Bool
 | .dead _ => true
 | _ => false
structure S where
 env : List (Nat × V)
 loc : List (Key × O)
 A : Key → Option O
 tk : List (Nat × Option Nat)
def look {α : Type} : List (Nat × α) → Nat → Option α
 | [], _ => none
 | (j, x) :: l, i => if j = i then some x else look l i
def z7 {α : Type} : List (Key × α) → Key → Option α
 | [], _ => none
 | (j, x) :: l, i => if j = i then some x else z7 l i
def S.get (s : S) (i : Nat) : V := (look s.env i).getD .any
def Z3 (loc : List (Key × O)) (A : Key → Option O) (k : Key) : Option O :=
 match z7 loc k with
 | some o => some o
 | none => match k with
  | .g k => A k
  | .l _ => none
def S.obj (s : S) (k : Key) : Option O := Z3 s.loc s.A k
def F4 (tk : List (Nat × Option Nat)) (t : Nat) : Option Nat :=
 match look tk t with
 | some (some L) => some L
 | _ => none
def z2E : Option O → Bool
 | some o => o.H4
 | none => false
def S.c6 (s : S) (k : Key) : Bool := z2E (s.obj k)
def S.live (s : S) (t : Nat) : Option Nat := F4 s.tk t
def S.known (s : S) (t : Nat) : Bool := (look s.tk t).isSome
inductive HP where
 | at (p : List Nat) | bld
instance : Coe (List Nat) HP := ⟨.at⟩
inductive Tip where
 | tok (t : Nat) | home (k : Key) (p : HP)
def z3Y : Tip → TypeId → Prop
 | .home _ .bld, T => T = 5
 | _, _ => True
structure G where
 H : Hp
 Z : Nat → Option Obj
 ι : Key → Option (Nat × Ty)
 τ : Nat → Option (Option (Nat × Nat × Nat) × Nat)
 κ : Nat → Option (Tip × Nat)
 gl : Nat → Option (Ty × C)
 oo : Os × Array (Nat × ByteArray)
 σ : Nat → Option Nat
def oof (w : World) : Os × Array (Nat × ByteArray) := (w.os, w.output)
def z8u (Γ : G) (o : Tip) (esz : Nat) (a : Option Addr) (n cap : Nat) : Prop :=
 cap = n ∨ ∃ b l sz, a = some ⟨b, 0, none⟩ ∧ Γ.H b = some l ∧ n * esz = l.length ∧ Γ.κ b = some (o, sz) ∧ cap * esz ≤ sz
def z8t (Γ : G) (t len esz : Nat) (a : Option Addr) (n cap : Nat) : Prop :=
 ∃ x L, Γ.τ t = some (x, L) ∧ len ≤ L ∧ (len = L → match x with
  | none => cap = n
  | some (b, pos, sz) => a = some ⟨b, 0, none⟩ ∧ n * esz = pos ∧ cap * esz ≤ sz)
mutual
def q8 (Γ : G) (hm : Option Key) : List Nat → V → List Value → Prop
 | _, .d τ c, vs => y4 Γ.H τ vs c
 | _, .sl eb e cs t, vs => ∃ a n cap, vs = [.slice a n cap] ∧ y4 Γ.H (.slice eb e) [.slice a n cap] (.slice cs) ∧ z8t Γ t cs.length e.size a n cap
 | p, .ts eb e cs, vs => ∃ a n cap k, hm = some k ∧ vs = [.slice a n cap] ∧ y4 Γ.H (.slice eb e) [.slice a n cap] (.slice cs) ∧ z8u Γ (.home k p) e.size a n cap
 | _, .emp _ _, vs => ∃ a, vs = [.slice a 0 0]
 | _, .nilc, vs => vs = [.slice none 0 0]
 | _, .ptr k q τ, vs => ∃ b τ0 o, Γ.ι k = some (b, τ0) ∧ τ0.walk q = some (o, τ) ∧ vs = [.pointer (some ⟨b, o, none⟩)]
 | _, .cptr τ c, vs => ∃ b off l, vs = [.pointer (some ⟨b, off, none⟩)] ∧ Γ.H b = some l ∧ off + τ.size ≤ l.length ∧ y4 Γ.H τ (chunk l off τ.size) c
 | _, .sr k q lo n cp eb e, vs => (cp = none ∧ n = 0 ∧ ∃ a, vs = [.slice a 0 0]) ∨ ∃ b τ0 o m cap, Γ.ι k = some (b, τ0) ∧ τ0.walk q = some (o, .arr m e) ∧ lo + n ≤ m ∧
   (∃ a, vs = [.slice a n cap] ∧ (cap = 0 ∨ a = some ⟨b, o + lo * e.size, none⟩)) ∧ n ≤ cap ∧ cap ≤ maxLen ∧ n * eb ≤ 140737488355328 ∧ (∀ c, cp = some c → cap = c) ∧
   (cp = none → cap = 0 ∨ ∃ sz, Γ.σ b = some sz ∧ o + (lo + cap) * e.size ≤ sz)
 | _, .mp k, vs => ∃ b, Γ.ι k = some (b, .map) ∧ vs = [.map (some b)]
 | p, .agg τ xs, vs => vs.length = τ.size ∧ q0K vs ∧ xs.length = τ.kids ∧ τ.isAgg = true ∧ x9 Γ hm p 0 τ xs vs
 | _, .fn f caps, vs => ∃ cv, vs = [.func (.func f) #[] cv] ∧ v8 Γ caps cv.toList
 | _, .tup _, _ => False
 | _, .top τ, vs => vs.length = τ.size ∧ q0K vs ∧ (τ = .bool → ∃ b, vs = [.bool b])
 | _, .any, _ => True
def x9 (Γ : G) (hm : Option Key) (p : List Nat) : Nat → Ty → List V → List Value → Prop
 | _, _, [], _ => True
 | i, τ, x :: xs, vs => (∃ o f, τ.child i = some (o, f) ∧ x.ty = f ∧ o + f.size ≤ vs.length ∧ q8 Γ hm (p ++ [i]) x (chunk vs o f.size)) ∧ x9 Γ hm p (i + 1) τ xs vs
def v8 (Γ : G) : List V → List Value → Prop
 | [], vs => vs = []
 | x :: xs, vs => ∃ v vs', vs = v :: vs' ∧ q8 Γ none [] x v.cells.toList ∧ (match v with | .agg _ => true | _ => false) = x.ty.isAgg ∧ v8 Γ xs vs'
end
def u7 : Value → Bool
 | .agg _ => true
 | _ => false
def q9 (Γ : G) (x : V) (v : Value) : Prop :=
 match x with
 | .any => True
 | .tup xs => ∃ vs, v = .tuple vs ∧ v8 Γ xs vs.toList
 | x => q8 Γ none [] x v.cells.toList ∧ u7 v = x.ty.isAgg
def V.plain : V → Bool
 | .any | .tup _ => false
 | _ => true
mutual
def V.r8 : V → Bool
 | .sl .. => false
 | .agg _ vs | .fn _ vs | .tup vs => V.Y8 vs
 | _ => true
def V.Y8 : List V → Bool
 | [] => true
 | x :: xs => x.r8 && V.Y8 xs
end
def Own (Γ : G) (w : World) (k : Key) : O → Prop
 | .box x => ∃ b cells T, Γ.ι k = some (b, x.ty) ∧ Γ.H b = none ∧ Γ.Z b = none ∧ w.heap[b]? = some (.cells cells T (0, 0)) ∧
   x.ty.size ≤ cells.size ∧ q8 Γ (some k) [] x (chunk cells.toList 0 x.ty.size) ∧ x.plain = true ∧ x.r8 = true
 | .map kτ vτ es => ∃ b ms clock, Γ.ι k = some (b, .map) ∧ Γ.H b = none ∧ Γ.Z b = none ∧ w.heap[b]? = some (.map ms clock) ∧ ms.size = es.length ∧
   (∀ (i : Nat) (m : MapEntry) (c : C × V), ms[i]? = some m → es[i]? = some c → y4 Γ.H kτ m.key.cells.toList c.1 ∧ u7 m.key = kτ.isAgg ∧
    q8 Γ none [] c.2 m.val.cells.toList ∧ u7 m.val = vτ.isAgg ∧ c.2.ty = vτ ∧ c.2.plain = true ∧ c.2.r8 = true) ∧
   (∀ (i : Nat) (m : MapEntry), ms[i]? = some m → m.born < clock) ∧ (∀ (i j : Nat) (m m' : MapEntry), ms[i]? = some m → ms[j]? = some m' → m.born = m'.born → i = j)
 | .it l pos => ∃ b adr v, Γ.ι k = some (b, z0U) ∧ Γ.H b = none ∧ Γ.Z b = none ∧ w.heap[b]? = some (.cells #[adr, v] pos (0, 0)) ∧ (adr = .pointer none ∨ adr = .pointer (some ⟨b, 0, none⟩)) ∧ l.length ≤ 140737488355328 ∧
   ((v = .slice none 0 0 ∧ l = []) ∨ ∃ g cap, v = .slice (some ⟨g, 0, none⟩) l.length cap ∧ Γ.H g = some (y8G l) ∧ Γ.κ g = some (.home k .bld, cap) ∧ l.length ≤ cap ∧ cap ≤ maxLen ∧ 0 < cap)
 | .dead τ => ∃ b, Γ.ι k = some (b, τ) ∧ b < w.heap.size
def O.q8n : O → Prop
 | .box x => ∃ e, x = .d (.arr 0 e) (.agg [])
 | .dead _ => True
 | _ => False
structure y9 (Γ : G) (w : World) (s : S) : Prop where
 hH : ∀ b l, Γ.H b = some l → ∃ arr T fr r, w.heap[b]? = some (.cells arr T fr) ∧ arr.toList = l ++ r
 hZ : ∀ b o, Γ.Z b = some o → w.heap[b]? = some o
 hκ : ∀ b o sz, Γ.κ b = some (o, sz) → Γ.Z b = none ∧ Γ.H b ≠ none ∧ ∃ arr T, w.heap[b]? = some (.cells arr T (0, 0)) ∧ arr.size = sz ∧ z3Y o T
 obj : ∀ k o, s.obj k = some o → (Γ.ι k = none ∧ o.q8n) ∨ Own Γ w k o
 dom : ∀ k, Γ.ι k ≠ none → s.obj k ≠ none
 inj : ∀ k k' b τ τ', Γ.ι k = some (b, τ) → Γ.ι k' = some (b, τ') → k = k' ∨ ((s.c6 k = true ∨ s.c6 k' = true) ∧ τ.q9Q = true ∧ τ'.q9Q = true)
 tok : ∀ t L, s.live t = some L → ∃ x, Γ.τ t = some (x, L) ∧ ∀ b pos sz, x = some (b, pos, sz) → (∃ l, Γ.H b = some l ∧ l.length = pos) ∧ Γ.κ b = some (.tok t, sz)
 tdom : ∀ t, Γ.τ t ≠ none → s.known t = true
 hgl : ∀ g τ c, Γ.gl g = some (τ, c) → ∃ l, Γ.H g = some l ∧ τ.size ≤ l.length ∧ y4 Γ.H τ (chunk l 0 τ.size) c
 hoo : oof w = Γ.oo
 hσ : ∀ b sz, Γ.σ b = some sz → ∃ arr T fr, w.heap[b]? = some (.cells arr T fr) ∧ arr.size = sz
def q2l (Γ : G) (s : S) (tmps : Array Value) : Prop := ∀ i, q9 Γ (s.get i) (tmps.getD i undef)
end Go.E
namespace Go.E
open Go
structure j7 (Γ Γ' : G) : Prop where
 H : Γ.H.le Γ'.H
 ι : ∀ k x, Γ.ι k = some x → Γ'.ι k = some x
 τ : ∀ t x L, Γ.τ t = some (x, L) → ∃ x' L', Γ'.τ t = some (x', L') ∧ L ≤ L' ∧ (L = L' → x' = x)
 σ : ∀ b sz, Γ.σ b = some sz → Γ'.σ b = some sz
theorem j7.refl (Γ : G) : j7 Γ Γ := ⟨Hp.le_refl _, fun _ _ h => h, fun _ x L h => ⟨x, L, h, Nat.le_refl _, fun _ => rfl⟩, fun _ _ h => h⟩
theorem j7.trans {a b c : G} (h : j7 a b) (h' : j7 b c) : j7 a c :=
 ⟨Hp.le_trans h.H h'.H, fun k x hk => h'.ι k x (h.ι k x hk), fun t x L ht => by
  obtain ⟨x1, L1, h1, h2, h3⟩ := h.τ t x L ht
  obtain ⟨x2, L2, h4, h5, h6⟩ := h'.τ t x1 L1 h1
  exact ⟨x2, L2, h4, by omega, fun e => by rw [h6 (by omega), h3 (by omega)]⟩, fun b sz hb => h'.σ b sz (h.σ b sz hb)⟩
def q5F (Γ Γ' : G) : Option Key → Prop
 | none => True
 | some k => ∀ b p sz, Γ.κ b = some (.home k p, sz) → Γ'.κ b = Γ.κ b ∧ Γ'.H b = Γ.H b
theorem z8t.b5 {Γ Γ' : G} (hp : j7 Γ Γ') {t len esz : Nat} {a : Option Addr} {n cap : Nat} (h : z8t Γ t len esz a n cap) : z8t Γ' t len esz a n cap := by
 obtain ⟨x, L, h1, h2, h3⟩ := h
 obtain ⟨x', L', h4, h5, h6⟩ := hp.τ t x L h1
 refine ⟨x', L', h4, by omega, fun e => ?_⟩
 have : L = L' := by omega
 rw [h6 this]
 exact h3 (by omega)
theorem z8u.b5 {Γ Γ' : G} {k : Key} {p : List Nat} (hk : q5F Γ Γ' (some k)) {esz : Nat} {a : Option Addr} {n cap : Nat} (h : z8u Γ (.home k p) esz a n cap) : z8u Γ' (.home k p) esz a n cap := by
 rcases h with h | ⟨b, l, sz, h1, h2, h3, h4, h5⟩
 ·exact .inl h
 ·obtain ⟨e1, e2⟩ := hk b p sz h4
  exact .inr ⟨b, l, sz, h1, by rw [e2, h2], h3, by rw [e1, h4], h5⟩
theorem z1U {H H' : Hp} (h : H.le H') {b off : Nat} {l : List Value} {τ : Ty} {c : C} (h1 : H b = some l) (h2 : off + τ.size ≤ l.length) (h3 : y4 H τ (chunk l off τ.size) c) :
  ∃ l', H' b = some l' ∧ off + τ.size ≤ l'.length ∧ y4 H' τ (chunk l' off τ.size) c := by
 obtain ⟨r, hr⟩ := h b l h1
 exact ⟨l ++ r, hr, by simp; omega, by rw [q10 _ _ _ _ h2]; exact h3.mono h⟩
section
variable {Γ Γ' : G}
mutual
theorem q8.b5 (hp : j7 Γ Γ') {hm : Option Key} (hk : q5F Γ Γ' hm) : ∀ (x : V) {p : List Nat} {vs : List Value}, q8 Γ hm p x vs → q8 Γ' hm p x vs
 | .d τ c, _, _, h => by simp only [q8] at h ⊢; exact h.mono hp.H
 | .sl eb e cs t, _, _, h => by
  simp only [q8] at h ⊢
  obtain ⟨a, n, cap, h1, h2, h3⟩ := h
  exact ⟨a, n, cap, h1, h2.mono hp.H, h3.b5 hp⟩
 | .ts eb e cs, _, _, h => by
  simp only [q8] at h ⊢
  obtain ⟨a, n, cap, k, h0, h1, h2, h3⟩ := h
  subst h0
  exact ⟨a, n, cap, k, rfl, h1, h2.mono hp.H, h3.b5 hk⟩
 | .emp _ _, _, _, h => by simpa only [q8] using h
 | .nilc, _, _, h => by simpa only [q8] using h
 | .ptr k q τ, _, _, h => by
  simp only [q8] at h ⊢
  obtain ⟨b, τ0, o, h1, h2⟩ := h
  exact ⟨b, τ0, o, hp.ι _ _ h1, h2⟩
 | .cptr τ c, _, _, h => by
  simp only [q8] at h ⊢
  obtain ⟨b, off, l, h1, h2, h3, h4⟩ := h
  obtain ⟨l', a1, a2, a3⟩ := z1U hp.H h2 h3 h4
  exact ⟨b, off, l', h1, a1, a2, a3⟩
 | .sr k q lo n cp eb e, _, _, h => by
  simp only [q8] at h ⊢
  rcases h with h | ⟨b, τ0, o, m, cap, h1, h2, h3, h4, h5, h6, h7, h8, h9⟩
  ·exact .inl h
  exact .inr ⟨b, τ0, o, m, cap, hp.ι _ _ h1, h2, h3, h4, h5, h6, h7, h8, fun e => (h9 e).imp id fun ⟨sz, a1, a2⟩ => ⟨sz, hp.σ _ _ a1, a2⟩⟩
 | .mp k, _, _, h => by
  simp only [q8] at h ⊢
  obtain ⟨b, h1, h2⟩ := h
  exact ⟨b, hp.ι _ _ h1, h2⟩
 | .agg τ xs, _, _, h => by
  simp only [q8] at h ⊢
  exact ⟨h.1, h.2.1, h.2.2.1, h.2.2.2.1, x9.b5 hp hk xs h.2.2.2.2⟩
 | .fn f caps, _, _, h => by
  simp only [q8] at h ⊢
  obtain ⟨cv, h1, h2⟩ := h
  exact ⟨cv, h1, v8.b5 hp caps h2⟩
 | .tup _, _, _, h => by simp only [q8] at h
 | .top _, _, _, h => by simpa only [q8] using h
 | .any, _, _, h => by simp only [q8]
theorem x9.b5 (hp : j7 Γ Γ') {hm : Option Key} (hk : q5F Γ Γ' hm) : ∀ (xs : List V) {p : List Nat} {i : Nat} {τ : Ty} {vs : List Value}, x9 Γ hm p i τ xs vs → x9 Γ' hm p i τ xs vs
 | [], _, _, _, _, _ => by simp only [x9]
 | x :: xs, _, _, _, _, h => by
  simp only [x9] at h ⊢
  obtain ⟨⟨o, f, h1, h2, h3, h4⟩, h5⟩ := h
  exact ⟨⟨o, f, h1, h2, h3, q8.b5 hp hk x h4⟩, x9.b5 hp hk xs h5⟩
theorem v8.b5 (hp : j7 Γ Γ') : ∀ (xs : List V) {vs : List Value}, v8 Γ xs vs → v8 Γ' xs vs
 | [], _, h => by simpa only [v8] using h
 | x :: xs, _, h => by
  simp only [v8] at h ⊢
  obtain ⟨v, vs', h1, h2, h3, h4⟩ := h
  exact ⟨v, vs', h1, q8.b5 hp (by trivial) x h2, h3, v8.b5 hp xs h4⟩
end
mutual
theorem q8.Y2 {hm : Option Key} : ∀ (x : V) {p p' : List Nat} {vs : List Value}, q8 Γ none p x vs → q8 Γ hm p' x vs
 | .d τ c, _, _, _, h => by simpa only [q8] using h
 | .sl eb e cs t, _, _, _, h => by simpa only [q8] using h
 | .ts eb e cs, _, _, _, h => by
  simp only [q8] at h
  obtain ⟨a, n, cap, k, h0, _⟩ := h
  cases h0
 | .emp _ _, _, _, _, h => by simpa only [q8] using h
 | .nilc, _, _, _, h => by simpa only [q8] using h
 | .ptr k q τ, _, _, _, h => by simpa only [q8] using h
 | .cptr τ c, _, _, _, h => by simpa only [q8] using h
 | .sr k q lo n cp eb e, _, _, _, h => by simpa only [q8] using h
 | .mp k, _, _, _, h => by simpa only [q8] using h
 | .agg τ xs, _, _, _, h => by
  simp only [q8] at h ⊢
  exact ⟨h.1, h.2.1, h.2.2.1, h.2.2.2.1, x9.Y2 xs h.2.2.2.2⟩
 | .fn f caps, _, _, _, h => by simpa only [q8] using h
 | .tup _, _, _, _, h => by simp only [q8] at h
 | .top _, _, _, _, h => by simpa only [q8] using h
 | .any, _, _, _, h => by simp only [q8]
theorem x9.Y2 {hm : Option Key} : ∀ (xs : List V) {p p' : List Nat} {i : Nat} {τ : Ty} {vs : List Value}, x9 Γ none p i τ xs vs → x9 Γ hm p' i τ xs vs
 | [], _, _, _, _, _, _ => by simp only [x9]
 | x :: xs, _, _, _, _, _, h => by
  simp only [x9] at h ⊢
  obtain ⟨⟨o, f, h1, h2, h3, h4⟩, h5⟩ := h
  exact ⟨⟨o, f, h1, h2, h3, q8.Y2 x h4⟩, x9.Y2 xs h5⟩
end
theorem q9.b5 (hp : j7 Γ Γ') {x : V} {v : Value} (h : q9 Γ x v) : q9 Γ' x v := by
 unfold q9 at h ⊢
 split
 ·trivial
 ·obtain ⟨vs, h1, h2⟩ := h
  exact ⟨vs, h1, v8.b5 hp _ h2⟩
 ·rename_i h1 h2
  split at h <;> first | (exact absurd rfl h1) | (rename_i xs; exact absurd rfl (h2 xs)) | exact ⟨q8.b5 hp (by trivial) _ h.1, h.2⟩
theorem q2l.b5 (hp : j7 Γ Γ') {s : S} {a : Array Value} (h : q2l Γ s a) : q2l Γ' s a := fun i => (h i).b5 hp
end
theorem Own.b5 {Γ Γ' : G} {w w' : World} {k : Key} {o : O} (hp : j7 Γ Γ') (hk : q5F Γ Γ' (some k)) (hb : ∀ b τ, Γ.ι k = some (b, τ) → w'.heap[b]? = w.heap[b]? ∧ Γ'.H b = none ∧ Γ'.Z b = none)
  (h : Own Γ w k o) : Own Γ' w' k o := by
 cases o with
 | box x =>
  obtain ⟨b, cells, T, h1, h2, h3, h4, h5, h6, h7⟩ := h
  obtain ⟨e1, e2, e3⟩ := hb _ _ h1
  exact ⟨b, cells, T, hp.ι _ _ h1, e2, e3, by rw [e1, h4], h5, h6.b5 hp hk, h7⟩
 | map kτ vτ es =>
  obtain ⟨b, ms, clock, h1, h2, h3, h4, h5, h6, h7⟩ := h
  obtain ⟨e1, e2, e3⟩ := hb _ _ h1
  refine ⟨b, ms, clock, hp.ι _ _ h1, e2, e3, by rw [e1, h4], h5, fun i m c hm hc => ?_, h7⟩
  obtain ⟨a1, a2, a3, a4, a5⟩ := h6 i m c hm hc
  exact ⟨a1.mono hp.H, a2, a3.b5 hp (by trivial), a4, a5⟩
 | it l pos =>
  obtain ⟨b, adr, v, h1, h2, h3, h4, h5, h6, h7⟩ := h
  obtain ⟨e1, e2, e3⟩ := hb _ _ h1
  refine ⟨b, adr, v, hp.ι _ _ h1, e2, e3, by rw [e1, h4], h5, h6, ?_⟩
  rcases h7 with h7 | ⟨g, cap, g1, g2, g3, g4⟩
  ·exact .inl h7
  ·obtain ⟨q1, q2⟩ := hk g _ _ g3
   exact .inr ⟨g, cap, g1, by rw [q2]; exact g2, by rw [q1]; exact g3, g4⟩
 | dead τ =>
  obtain ⟨b, h1, h4⟩ := h
  obtain ⟨e1, e2, e3⟩ := hb _ _ h1
  refine ⟨b, hp.ι _ _ h1, ?_⟩
  have : w.heap[b]? = some w.heap[b] := by simp [h4]
  rw [← e1] at this
  exact (Array.getElem?_eq_some_iff.1 this).1
structure GLe (Γ Γ' : G) : Prop where
 H : Γ.H.le Γ'.H
 Z : Γ'.Z = Γ.Z
 ZH : ∀ b, Γ.Z b ≠ none → Γ'.H b = Γ.H b
 g : ∀ k x, Γ.ι (.g k) = some x → Γ'.ι (.g k) = some x
 gl : Γ'.gl = Γ.gl
 oo : Γ'.oo = Γ.oo
 σ : ∀ b sz, Γ.σ b = some sz → Γ'.σ b = some sz
 gn : ∀ k, Γ.ι (.g k) = none → Γ'.ι (.g k) = none
theorem GLe.refl (Γ : G) : GLe Γ Γ := ⟨Hp.le_refl _, rfl, fun _ _ => rfl, fun _ _ h => h, rfl, rfl, fun _ _ h => h, fun _ h => h⟩
theorem GLe.trans {a b c : G} (h : GLe a b) (h' : GLe b c) : GLe a c :=
 ⟨Hp.le_trans h.H h'.H, h'.Z.trans h.Z, fun x hx => (h'.ZH x (by rw [h.Z]; exact hx)).trans (h.ZH x hx), fun k x hk => h'.g k x (h.g k x hk), h'.gl.trans h.gl, h'.oo.trans h.oo, fun b sz hb => h'.σ b sz (h.σ b sz hb), fun k hk => h'.gn k (h.gn k hk)⟩
theorem lt_of_heap {w : World} {b : Nat} {o : Obj} (h : w.heap[b]? = some o) : b < w.heap.size := (Array.getElem?_eq_some_iff.1 h).1
theorem y9.change {Γ Γ' : G} {w w' : World} {s s' : S} (c : y9 Γ w s) (hp : j7 Γ Γ') (hZ : Γ'.Z = Γ.Z) (hgl : Γ'.gl = Γ.gl) (hoo : Γ'.oo = Γ.oo) (poo : oof w' = oof w)
  (pH : ∀ b l, Γ'.H b = some l → ∃ arr T fr r, w'.heap[b]? = some (.cells arr T fr) ∧ arr.toList = l ++ r)
  (pZ : ∀ b, Γ.Z b ≠ none → w'.heap[b]? = w.heap[b]?)
  (pκ : ∀ b o sz, Γ'.κ b = some (o, sz) → Γ.Z b = none ∧ Γ'.H b ≠ none ∧ ∃ arr T, w'.heap[b]? = some (.cells arr T (0, 0)) ∧ arr.size = sz ∧ z3Y o T)
  (pobj : ∀ k o, s'.obj k = some o → (s.obj k = some o ∧ (o.H4 = false → q5F Γ Γ' (some k) ∧ ∀ b τ, Γ.ι k = some (b, τ) → w'.heap[b]? = w.heap[b]? ∧ Γ'.H b = none)) ∨ Own Γ' w' k o)
  (pι : ∀ k, Γ.ι k = none → s.obj k ≠ none → Γ'.ι k = none)
  (dom : ∀ k, Γ'.ι k ≠ none → s'.obj k ≠ none)
  (pσ : ∀ b sz, Γ'.σ b = some sz → ∃ arr T fr, w'.heap[b]? = some (.cells arr T fr) ∧ arr.size = sz)
  (inj : ∀ k k' b τ τ', Γ'.ι k = some (b, τ) → Γ'.ι k' = some (b, τ') → k = k' ∨ ((s'.c6 k = true ∨ s'.c6 k' = true) ∧ τ.q9Q = true ∧ τ'.q9Q = true))
  (tok : ∀ t L, s'.live t = some L → ∃ x, Γ'.τ t = some (x, L) ∧ ∀ b pos sz, x = some (b, pos, sz) → (∃ l, Γ'.H b = some l ∧ l.length = pos) ∧ Γ'.κ b = some (.tok t, sz))
  (tdom : ∀ t, Γ'.τ t ≠ none → s'.known t = true) (hmono : w.heap.size ≤ w'.heap.size) : y9 Γ' w' s' := by
 refine ⟨pH, fun b o h => ?_, fun b o sz h => ?_, fun k o h => ?_, dom, inj, tok, tdom, fun g τ cc h => ?_, by rw [hoo, poo]; exact c.hoo, pσ⟩
 ·rw [hZ] at h
  rw [pZ b (by rw [h]; simp)]
  exact c.hZ b o h
 ·rw [hZ]; exact pκ b o sz h
 ·rcases pobj k o h with ⟨h1, h2⟩ | h1
  ·rcases c.obj k o h1 with hn | hown
   ·exact .inl ⟨pι k hn.1 (by rw [h1]; simp), hn.2⟩
   refine .inr ?_
   cases hd : o.H4 with
   | true =>
    cases o <;> simp [O.H4] at hd
    obtain ⟨b, g1, g2⟩ := hown
    exact ⟨b, hp.ι _ _ g1, by omega⟩
   | false =>
    obtain ⟨h2, h3⟩ := h2 hd
    refine hown.b5 hp h2 fun b τ hb => ?_
    have hz : Γ.Z b = none := by
     have := hown
     cases o with
     | box x => obtain ⟨b', _, _, e, _, e2, _⟩ := this; rw [hb] at e; cases e; exact e2
     | map => obtain ⟨b', _, _, e, _, e2, _⟩ := this; rw [hb] at e; cases e; exact e2
     | it => obtain ⟨b', _, _, e, _, e2, _⟩ := this; rw [hb] at e; cases e; exact e2
     | dead => cases hd
    exact ⟨(h3 b τ hb).1, (h3 b τ hb).2, by rw [hZ]; exact hz⟩
  ·exact .inr h1
 ·rw [hgl] at h
  obtain ⟨l, h1, h2, h3⟩ := c.hgl g τ cc h
  obtain ⟨r, hr⟩ := hp.H g l h1
  exact ⟨l ++ r, hr, by simp; omega, by rw [q10 _ _ _ _ (by omega)]; exact h3.mono hp.H⟩
theorem Own.block {Γ : G} {w : World} {k : Key} {o : O} (h : Own Γ w k o) : ∃ b τ, Γ.ι k = some (b, τ) ∧ (o.H4 = false → Γ.H b = none ∧ Γ.Z b = none) ∧ b < w.heap.size ∧ τ = o.ty := by
 cases o with
 | box x => obtain ⟨b, cells, T, h1, h2, h3, h4, _⟩ := h; exact ⟨b, _, h1, fun _ => ⟨h2, h3⟩, lt_of_heap h4, rfl⟩
 | map => obtain ⟨b, ms, cl, h1, h2, h3, h4, _⟩ := h; exact ⟨b, _, h1, fun _ => ⟨h2, h3⟩, lt_of_heap h4, rfl⟩
 | it => obtain ⟨b, _, _, h1, h2, h3, h4, _⟩ := h; exact ⟨b, _, h1, fun _ => ⟨h2, h3⟩, lt_of_heap h4, rfl⟩
 | dead => obtain ⟨b, h1, h4⟩ := h; exact ⟨b, _, h1, fun h => (by cases h), h4, rfl⟩
theorem y9.y3q {Γ : G} {w : World} {s : S} (c : y9 Γ w s) {k : Key} {b : Nat} {τ : Ty} (h : Γ.ι k = some (b, τ)) : ∃ o, s.obj k = some o ∧ (o.H4 = false → Γ.H b = none ∧ Γ.Z b = none) ∧ b < w.heap.size ∧ τ = o.ty := by
 cases ho : s.obj k with
 | none => exact absurd ho (c.dom k (by rw [h]; simp))
 | some o =>
  rcases c.obj k o ho with hn | hown
  ·rw [hn.1] at h; cases h
  obtain ⟨b', τ', h1, h2, h4, h5⟩ := hown.block
  rw [h] at h1; cases h1
  exact ⟨o, rfl, h2, h4, h5⟩
theorem y9.q0u {Γ : G} {w : World} {s : S} (c : y9 Γ w s) {k : Key} {b : Nat} {τ : Ty} {o : O} (h : Γ.ι k = some (b, τ)) (ho : s.obj k = some o) (hd : o.H4 = false) : Γ.H b = none ∧ Γ.Z b = none ∧ b < w.heap.size ∧ τ = o.ty := by
 obtain ⟨o', e, h1, h2, h3⟩ := c.y3q h
 rw [ho] at e; cases e
 exact ⟨(h1 hd).1, (h1 hd).2, h2, h3⟩
theorem y9.own {Γ : G} {w : World} {s : S} (c : y9 Γ w s) {k : Key} {o : O} {x : Nat × Ty} (h : Γ.ι k = some x) (ho : s.obj k = some o) : Own Γ w k o := by
 rcases c.obj k o ho with hn | hown
 ·rw [hn.1] at h; cases h
 ·exact hown
theorem y9.κlt {Γ : G} {w : World} {s : S} (c : y9 Γ w s) {b : Nat} (h : Γ.κ b ≠ none) : b < w.heap.size := by
 cases hk : Γ.κ b with
 | none => exact absurd hk h
 | some x =>
  obtain ⟨o, sz⟩ := x
  obtain ⟨_, _, arr, T, h1, _⟩ := c.hκ b o sz hk
  exact lt_of_heap h1
theorem y9.Hlt {Γ : G} {w : World} {s : S} (c : y9 Γ w s) {b : Nat} (h : Γ.H b ≠ none) : b < w.heap.size := by
 cases hk : Γ.H b with
 | none => exact absurd hk h
 | some l =>
  obtain ⟨arr, T, fr, r, h1, _⟩ := c.hH b l hk
  exact lt_of_heap h1
theorem y9.y5F {Γ : G} {w : World} {s : S} (c : y9 Γ w s) {k k' : Key} {b : Nat} {τ τ' : Ty} (h : Γ.ι k = some (b, τ)) (h' : Γ.ι k' = some (b, τ')) (d : s.c6 k = false) (d' : s.c6 k' = false) : k = k' := by
 rcases c.inj k k' b τ τ' h h' with e | ⟨e | e, _⟩
 ·exact e
 ·rw [d] at e; cases e
 ·rw [d'] at e; cases e
theorem y9.z1C {Γ : G} {w : World} {s s' : S} (c : y9 Γ w s) (h : ∀ k, s.c6 k = true → s'.c6 k = true) : ∀ k k' b τ τ', Γ.ι k = some (b, τ) → Γ.ι k' = some (b, τ') → k = k' ∨ ((s'.c6 k = true ∨ s'.c6 k' = true) ∧ τ.q9Q = true ∧ τ'.q9Q = true) :=
 fun k k' b τ τ' h1 h2 => (c.inj k k' b τ τ' h1 h2).imp id (And.imp (Or.imp (h k) (h k')) id)
theorem Y5 {s : S} {k : Key} {o : O} (h : s.obj k = some o) : s.c6 k = o.H4 := by simp [S.c6, z2E, h]
end Go.E
namespace Go.E
open Go
def tyF (P : Program) : Nat → TypeId → Ty
 | 0, T => .opq (P.cellsOf T)
 | f + 1, T => if T < P.types.size then
   match P.underlying T with
   | some (.int k) => .int k
   | some .bool => .bool
   | some .string => .str
   | some (.slice e) => .slice (P.bytesOf e) (tyF P f e)
   | some (.array n e) => .arr n (tyF P f e)
   | some (.struct fs) => .struct (P.cellsOf T) (fs.toList.map (·.offset)) (fs.toList.map fun g => tyF P f g.type)
   | some (.pointer _) => .ptr
   | some (.map _ _) => .map
   | some (.func _ _ _) => .func
   | some (.interface _) => .iface
   | _ => .opq (P.cellsOf T)
  else .opq (P.cellsOf T)
def ty (P : Program) (T : TypeId) : Ty := tyF P 12 T
def okT (P : Program) (T : TypeId) : Bool :=
 match P.underlying T with
 | some (.int _) | some .bool | some .string | some (.pointer _) | some (.map _ _) | some (.func _ _ _) | some (.interface _) => P.cellsOf T == 1
 | some (.slice e) => P.cellsOf T == 1 && decide (e < P.types.size)
 | some (.array n e) => P.cellsOf T == n * P.cellsOf e && decide (e < P.types.size)
 | some (.struct fs) => fs.toList.all fun f => decide (f.type < P.types.size) && decide (f.offset + P.cellsOf f.type ≤ P.cellsOf T)
 | _ => true
def u3 (P : Program) : Bool := (List.range P.types.size).all (okT P)
section
variable {P : Program}
theorem q3a (hP : u3 P = true) {T : TypeId} (h : T < P.types.size) : okT P T = true := by
 unfold u3 at hP
 exact List.all_eq_true.1 hP T (List.mem_range.2 h)
theorem b8 (hP : u3 P = true) : ∀ (f : Nat) (T : TypeId), (tyF P f T).size = P.cellsOf T
 | 0, T => rfl
 | f + 1, T => by
  unfold tyF
  split
  ·rename_i hT
   have ho := q3a hP hT
   unfold okT at ho
   split <;> rename_i hu <;> simp only [hu] at ho <;> simp [Ty.size] at ho ⊢ <;> try omega
   rw [b8 hP f]; omega
  ·rfl
theorem q5h (hP : u3 P = true) (T : TypeId) : (ty P T).size = P.cellsOf T := b8 hP 12 T
theorem y3C {T : TypeId} {w : World} {τ : Ty} (h : ty P T = τ) (hn : ∀ s, τ ≠ .opq s) : (isAgg T).run P w = .ok τ.isAgg w := by
 subst h
 unfold isAgg
 unfold ty tyF at hn ⊢
 split at hn
 ·rename_i hT
  rw [if_pos hT]
  cases hu : P.underlying T with
  | none => simp [hu] at hn
  | some d =>
   rw [Sem.run_bind, run_underlying hu]
   cases d <;> simp [hu] at hn ⊢ <;> simp [Ty.isAgg]
 ·exact absurd rfl (hn _)
theorem run_sizeOf (hP : u3 P = true) {T : TypeId} {w : World} (hn : ∀ s, ty P T ≠ .opq s) : (sizeOf T).run P w = .ok (ty P T).size w := by
 rw [q5h hP]
 unfold ty tyF at hn
 split at hn
 ·cases hi : P.info? T with
  | none =>
   exfalso
   have : P.underlying T = none := by simp [Program.underlying, hi]
   rw [this] at hn; exact hn _ rfl
  | some i => simp [sizeOf, typeInfo, hi, Program.cellsOf]
 ·exact absurd rfl (hn _)
theorem z0P (hP : u3 P = true) {T : TypeId} {sz : Nat} {os : List Nat} {fs : List Ty} (h : ty P T = .struct sz os fs) :
  ∃ gs, P.underlying T = some (.struct gs) ∧ os = gs.toList.map (·.offset) ∧ fs = gs.toList.map (fun g => tyF P 11 g.type) ∧ sz = P.cellsOf T ∧
   ∀ g ∈ gs.toList, g.type < P.types.size ∧ g.offset + P.cellsOf g.type ≤ sz := by
 unfold ty tyF at h
 split at h
 ·rename_i hT
  have ho := q3a hP hT
  unfold okT at ho
  cases hu : P.underlying T with
  | none => simp [hu] at h
  | some d =>
   cases d <;> simp only [hu, reduceCtorEq] at h ho
   rename_i gs
   injection h with h1 h2 h3
   refine ⟨gs, rfl, h2.symm, h3.symm, h1.symm, fun g hg => ?_⟩
   have := List.all_eq_true.1 ho g hg
   simp at this
   exact ⟨this.1, h1 ▸ this.2⟩
 ·cases h
theorem q8N {T : TypeId} {n : Nat} {e : Ty} (h : ty P T = .arr n e) : ∃ E, P.underlying T = some (.array n E) ∧ e = tyF P 11 E := by
 unfold ty tyF at h
 split at h
 ·cases hu : P.underlying T with
  | none => simp [hu] at h
  | some d =>
   cases d <;> simp only [hu, reduceCtorEq] at h
   injection h with h1 h2
   exact ⟨_, by rw [h1], h2.symm⟩
 ·cases h
theorem q01 (hP : u3 P = true) {T : TypeId} {eb : Nat} {e : Ty} (h : ty P T = .slice eb e) :
  ∃ E, P.underlying T = some (.slice E) ∧ e = tyF P 11 E ∧ eb = P.bytesOf E ∧ E < P.types.size := by
 unfold ty tyF at h
 split at h
 ·rename_i hT
  have ho := q3a hP hT
  unfold okT at ho
  cases hu : P.underlying T with
  | none => simp [hu] at h
  | some d =>
   cases d <;> simp only [hu, reduceCtorEq] at h ho
   injection h with h1 h2
   simp at ho
   exact ⟨_, rfl, h2.symm, h1.symm, ho.2⟩
 ·cases h
theorem y3u {T : TypeId} {k : IntKind} (h : ty P T = .int k) : P.underlying T = some (.int k) := by
 unfold ty tyF at h
 split at h
 ·cases hu : P.underlying T with
  | none => simp [hu] at h
  | some d => cases d <;> simp [hu] at h ⊢ <;> exact h
 ·cases h
theorem y6V {T : TypeId} (h : ty P T = .bool) : P.underlying T = some .bool := by
 unfold ty tyF at h
 split at h
 ·cases hu : P.underlying T with
  | none => simp [hu] at h
  | some d => cases d <;> simp [hu] at h ⊢
 ·cases h
theorem q5Y {T : TypeId} (h : ty P T = .str) : P.underlying T = some .string := by
 unfold ty tyF at h
 split at h
 ·cases hu : P.underlying T with
  | none => simp [hu] at h
  | some d => cases d <;> simp [hu] at h ⊢
 ·cases h
theorem y75 {T : TypeId} (h : ty P T = .ptr) : ∃ e, P.underlying T = some (.pointer e) := by
 unfold ty tyF at h
 split at h
 ·cases hu : P.underlying T with
  | none => simp [hu] at h
  | some d => cases d <;> simp [hu] at h ⊢
 ·cases h
theorem q0n (hP : u3 P = true) {f : Nat} {E : TypeId} {w : World} (hE : E < P.types.size) : (sizeOf E).run P w = .ok (tyF P f E).size w := by
 rw [b8 hP]
 cases hi : P.info? E with
 | none => simp [Tables.info?, hE] at hi
 | some i => simp [sizeOf, typeInfo, hi, Program.cellsOf]
end
end Go.E
namespace Go.E
open Go
def Ty.get : Ty → Nat → Ty
 | .struct _ _ fs, i => fs.getD i (.opq 0)
 | .arr _ e, _ => e
 | .slice _ e, _ => e
 | _, _ => .opq 0
def C.get : C → Nat → C
 | .agg cs, i => cs.getD i .nil
 | .slice cs, i => cs.getD i .nil
 | _, _ => .nil
def C.elems : C → List C
 | .slice cs => cs
 | .agg cs => cs
 | _ => []
def C.toInt : C → Int
 | .int n => n
 | _ => 0
def C.toBool : C → Bool
 | .bool b => b
 | _ => false
def C.toStr : C → List UInt8
 | .str l => l
 | _ => []
def V.get : V → Nat → V
 | .d τ c, i => .d (τ.get i) (c.get i)
 | .agg _ vs, i => vs.getD i .any
 | _, _ => .any
def V.at : V → List Nat → V
 | x, [] => x
 | x, i :: q => (x.get i).at q
def V.toInt : V → Int
 | .d _ c => c.toInt
 | _ => 0
def V.toBool : V → Bool
 | .d _ c => c.toBool
 | _ => false
def V.toStr : V → List UInt8
 | .d _ c => c.toStr
 | _ => []
def V.isInt (k : IntKind) : V → Prop
 | .d τ _ => τ = .int k
 | _ => False
def V.isBool : V → Prop
 | .d τ _ => τ = .bool
 | _ => False
def V.isStr : V → Prop
 | .d τ _ => τ = .str
 | _ => False
def Ty.known : Ty → Bool
 | .opq _ => false
 | _ => true
theorem Ty.size_leaf {τ : Ty} (hk : τ.known = true) (ha : τ.isAgg = false) : τ.size = 1 := by
 cases τ <;> simp_all [Ty.known, Ty.isAgg, Ty.size]
section
variable {Γ : G} {hm : Option Key}
theorem q0K.single {v : Value} (h : v.oneCell' = true) : q0K [v] := by
 intro u hu; simp at hu; subst hu; exact h
theorem q8.one {p : List Nat} {x : V} {vs : List Value} (h : q8 Γ hm p x vs) (hx : x.plain = true) : q0K vs := by
 cases x <;> simp only [q8] at h <;> simp only [V.plain, Bool.false_eq_true] at hx
 case d τ c => exact h.one
 case agg => exact h.2.1
 case top => exact h.2.1
 case ptr => obtain ⟨b, τ0, o, _, _, rfl⟩ := h; exact .single rfl
 case cptr => obtain ⟨b, off, l, rfl, _⟩ := h; exact .single rfl
 case sl => obtain ⟨a, n, cap, rfl, _⟩ := h; exact .single rfl
 case ts => obtain ⟨a, n, cap, k, _, rfl, _⟩ := h; exact .single rfl
 case sr => rcases h with ⟨_, _, a, rfl⟩ | ⟨b, τ0, o, m, cap, _, _, _, ⟨a, rfl, _⟩, _⟩ <;> exact .single rfl
 case mp => obtain ⟨b, _, rfl⟩ := h; exact .single rfl
 case fn => obtain ⟨cv, rfl, _⟩ := h; exact .single rfl
 case emp => obtain ⟨a, rfl⟩ := h; exact .single rfl
 case nilc => subst h; exact .single rfl
theorem q8.length {p : List Nat} {x : V} {vs : List Value} (h : q8 Γ hm p x vs) (hx : x.plain = true) : vs.length = x.ty.size := by
 cases x <;> simp only [q8] at h <;> simp only [V.plain, Bool.false_eq_true] at hx
 case d τ c => simpa [V.ty] using h.length
 case agg => simpa [V.ty, Ty.size] using h.1
 case top => simpa [V.ty] using h.1
 case ptr => obtain ⟨b, τ0, o, _, _, rfl⟩ := h; simp [V.ty, Ty.size]
 case cptr => obtain ⟨b, off, l, rfl, _⟩ := h; simp [V.ty, Ty.size]
 case sl => obtain ⟨a, n, cap, rfl, _⟩ := h; simp [V.ty, Ty.size]
 case ts => obtain ⟨a, n, cap, k, _, rfl, _⟩ := h; simp [V.ty, Ty.size]
 case sr => rcases h with ⟨_, _, a, rfl⟩ | ⟨b, τ0, o, m, cap, _, _, _, ⟨a, rfl, _⟩, _⟩ <;> simp [V.ty, Ty.size]
 case mp => obtain ⟨b, _, rfl⟩ := h; simp [V.ty, Ty.size]
 case fn => obtain ⟨cv, rfl, _⟩ := h; simp [V.ty, Ty.size]
 case emp => obtain ⟨a, rfl⟩ := h; simp [V.ty, Ty.size]
 case nilc => subst h; simp [V.ty, Ty.size]
theorem x9.get {p : List Nat} {τ : Ty} : ∀ {xs : List V} {i0 : Nat} {vs : List Value} {i : Nat} {x : V}, x9 Γ hm p i0 τ xs vs → xs[i]? = some x →
  ∃ o f, τ.child (i0 + i) = some (o, f) ∧ x.ty = f ∧ o + f.size ≤ vs.length ∧ q8 Γ hm (p ++ [i0 + i]) x (chunk vs o f.size)
 | [], _, _, _, _, _, h => by simp at h
 | y :: xs, i0, vs, 0, x, r, h => by
  simp only [x9] at r
  simp at h; subst h
  exact r.1
 | y :: xs, i0, vs, i + 1, x, r, h => by
  simp only [x9] at r
  have := x9.get r.2 (show xs[i]? = some x by simpa using h)
  rw [show i0 + (i + 1) = i0 + 1 + i by omega]; exact this
theorem Ty.q6z {τ : Ty} {i o : Nat} {f : Ty} (h : τ.child i = some (o, f)) : τ.get i = f := by
 cases τ <;> simp only [Ty.child, reduceCtorEq] at h
 case arr n e => split at h <;> simp at h; exact h.2
 case struct sz os fs =>
  cases ho : os[i]? with
  | none => simp [ho] at h
  | some o' =>
   cases hf : fs[i]? with
   | none => simp [ho, hf] at h
   | some f' => simp [ho, hf] at h; simp [Ty.get, List.getD, hf, h.2]
theorem y4.get {H : Hp} {τ f : Ty} {vs : List Value} {c : C} {i o : Nat} (h : y4 H τ vs c) (hc : τ.child i = some (o, f)) :
  τ.get i = f ∧ o + f.size ≤ vs.length ∧ y4 H f (chunk vs o f.size) (c.get i) := by
 cases τ <;> simp only [Ty.child, reduceCtorEq] at hc
 case arr n e =>
  split at hc <;> simp at hc
  rename_i hi
  obtain ⟨rfl, rfl⟩ := hc
  simp only [y4] at h
  obtain ⟨cs, rfl, h1, h2, h3, h4⟩ := h
  have hlt : i < cs.length := by omega
  refine ⟨rfl, ?_, ?_⟩
  ·rw [h2]
   have : (i + 1) * e.size ≤ n * e.size := Nat.mul_le_mul_right _ (by omega)
   rw [Nat.add_mul] at this; omega
  ·have := h4 i cs[i] (List.getElem?_eq_getElem hlt)
   simpa [C.get, List.getD, List.getElem?_eq_getElem hlt] using this
 case struct sz os fs =>
  simp only [y4] at h
  obtain ⟨cs, rfl, h1, h2, h3⟩ := h
  cases ho : os[i]? with
  | none => simp [ho] at hc
  | some o' =>
   cases hf : fs[i]? with
   | none => simp [ho, hf] at hc
   | some f' =>
    simp [ho, hf] at hc
    obtain ⟨rfl, rfl⟩ := hc
    obtain ⟨o2, c, a, b, d, r⟩ := h3.get hf
    rw [ho] at a; cases a
    exact ⟨by simp [Ty.get, List.getD, hf], d, by simpa [C.get, List.getD, b] using r⟩
theorem q8.get {p : List Nat} {x : V} {f : Ty} {vs : List Value} {i o : Nat} (h : q8 Γ hm p x vs) (hc : x.ty.child i = some (o, f)) (hx : x.get i ≠ .any) :
  (x.get i).ty = f ∧ o + f.size ≤ vs.length ∧ q8 Γ hm (p ++ [i]) (x.get i) (chunk vs o f.size) := by
 cases x <;> simp only [V.get, ne_eq, not_true_eq_false] at hx
 case d τ c =>
  simp only [q8] at h
  simp only [V.ty] at hc
  obtain ⟨h1, h2, h3⟩ := h.get hc
  subst h1
  exact ⟨by simp [V.get, V.ty], h2, by simp only [V.get, q8]; exact h3⟩
 case agg τ xs =>
  simp only [q8] at h
  obtain ⟨_, _, _, _, h3⟩ := h
  cases hi : xs[i]? with
  | none => simp [List.getD, hi] at hx
  | some y =>
   obtain ⟨o', f', a, b, d, r⟩ := h3.get hi
   simp only [V.ty] at hc
   rw [Nat.zero_add, hc] at a
   cases a
   have hg : (V.agg τ xs).get i = y := by simp [V.get, List.getD, hi]
   rw [hg]
   exact ⟨b, d, by simpa using r⟩
theorem V.z15 : ∀ q, V.at .any q = .any
 | [] => rfl
 | i :: q => by simp only [V.at, V.get]; exact V.z15 q
theorem V.q28 {p : List Nat} {x : V} {vs : List Value} (h : q8 Γ hm p x vs) (hx : x ≠ .any) : x.plain = true := by
 cases x <;> simp_all [V.plain, q8]
theorem q8.at_ : ∀ {q : List Nat} {p : List Nat} {x : V} {τ : Ty} {vs : List Value} {o : Nat}, q8 Γ hm p x vs → x.ty.walk q = some (o, τ) → x.at q ≠ .any →
  x.plain = true → (x.at q).ty = τ ∧ o + τ.size ≤ vs.length ∧ q8 Γ hm (p ++ q) (x.at q) (chunk vs o τ.size)
 | [], p, x, τ, vs, o, h, hw, _, hp => by
  simp [Ty.walk] at hw
  obtain ⟨rfl, rfl⟩ := hw
  have hl := h.length hp
  refine ⟨by simp [V.at], by omega, ?_⟩
  simp only [V.at, List.append_nil]
  rw [← hl, q4u]; exact h
 | i :: q, p, x, τ, vs, o, h, hw, hx, hp => by
  simp only [Ty.walk] at hw
  cases hc : x.ty.child i with
  | none => simp [hc] at hw
  | some of =>
   obtain ⟨o1, f⟩ := of
   simp only [hc] at hw
   cases hw2 : f.walk q with
   | none => simp [hw2] at hw
   | some ot =>
    obtain ⟨o2, t⟩ := ot
    simp only [hw2, Option.some.injEq, Prod.mk.injEq] at hw
    obtain ⟨rfl, rfl⟩ := hw
    have hne : x.get i ≠ .any := by
     intro e
     apply hx
     simp only [V.at, e]; exact V.z15 q
    obtain ⟨h1, h2, h3⟩ := h.get hc hne
    obtain ⟨h4, h5, h6⟩ := q8.at_ (q := q) h3 (h1 ▸ hw2) (by simpa [V.at] using hx) (V.q28 h3 hne)
    have hlen : (chunk vs o1 f.size).length = f.size := k8 _ _ _ h2
    rw [hlen] at h5
    refine ⟨h4, by omega, ?_⟩
    rw [c8 _ _ _ _ _ h5] at h6
    simpa [V.at] using h6
end
end Go.E
namespace Go.E
open Go
section
variable {Γ : G}
theorem u4 {v : Value} (h : u7 v = false) : v.cells.toList = [v] := by
 cases v <;> simp_all [u7, Value.cells]
theorem Q4 {τ : Ty} {c : C} {v : Value} : q9 Γ (.d τ c) v ↔ y4 Γ.H τ v.cells.toList c ∧ u7 v = τ.isAgg := by
 simp [q9, q8, V.ty]
theorem c4 {k : IntKind} {c : C} {v : Value} (h : q9 Γ (.d (.int k) c) v) : v = .int k c.toInt ∧ c = .int c.toInt ∧ k.min ≤ c.toInt ∧ c.toInt ≤ k.max := by
 obtain ⟨h1, h2⟩ := Q4.1 h
 rw [u4 (by simpa [Ty.isAgg] using h2)] at h1
 simp only [y4] at h1
 obtain ⟨n, rfl, hv, h3⟩ := h1
 simp at hv
 exact ⟨hv, rfl, h3⟩
theorem r9 {k : IntKind} {n : Int} (h1 : k.min ≤ n) (h2 : n ≤ k.max) : q9 Γ (.d (.int k) (.int n)) (.int k n) :=
 Q4.2 ⟨by simp only [y4]; exact ⟨n, rfl, by simp [Value.cells], h1, h2⟩, rfl⟩
theorem X8 {c : C} {v : Value} (h : q9 Γ (.d .bool c) v) : v = .bool c.toBool ∧ c = .bool c.toBool := by
 obtain ⟨h1, h2⟩ := Q4.1 h
 rw [u4 (by simpa [Ty.isAgg] using h2)] at h1
 simp only [y4] at h1
 obtain ⟨n, rfl, hv⟩ := h1
 simp at hv
 exact ⟨hv, rfl⟩
theorem s6 {b : Bool} : q9 Γ (.d .bool (.bool b)) (.bool b) :=
 Q4.2 ⟨by simp only [y4]; exact ⟨b, rfl, by simp [Value.cells]⟩, rfl⟩
theorem W1 {c : C} {v : Value} (h : q9 Γ (.d .str c) v) : v = .string ⟨c.toStr.toArray⟩ ∧ c = .str c.toStr ∧ c.toStr.length ≤ 140737488355328 := by
 obtain ⟨h1, h2⟩ := Q4.1 h
 rw [u4 (by simpa [Ty.isAgg] using h2)] at h1
 simp only [y4] at h1
 obtain ⟨n, rfl, hv, h3⟩ := h1
 simp at hv
 exact ⟨hv, rfl, h3⟩
theorem q0Z {l : List UInt8} (h : l.length ≤ 140737488355328) : q9 Γ (.d .str (.str l)) (.string ⟨l.toArray⟩) :=
 Q4.2 ⟨by simp only [y4]; exact ⟨l, rfl, by simp [Value.cells], h⟩, rfl⟩
theorem u0 {x : V} {v : Value} (hx : x.plain = true) : q9 Γ x v ↔ q8 Γ none [] x v.cells.toList ∧ u7 v = x.ty.isAgg := by
 cases x <;> simp [V.plain] at hx <;> simp [q9]
theorem q0e {k : Key} {q : List Nat} {τ : Ty} {v : Value} (h : q9 Γ (.ptr k q τ) v) :
  ∃ b τ0 o, Γ.ι k = some (b, τ0) ∧ τ0.walk q = some (o, τ) ∧ v = .pointer (some ⟨b, o, none⟩) := by
 obtain ⟨h1, h2⟩ := (u0 rfl).1 h
 rw [u4 (by simpa [V.ty, Ty.isAgg] using h2)] at h1
 simp only [q8] at h1
 obtain ⟨b, τ0, o, a, c, d⟩ := h1
 exact ⟨b, τ0, o, a, c, by simpa using d⟩
theorem q2C {k : Key} {q : List Nat} {τ τ0 : Ty} {b o : Nat} (h1 : Γ.ι k = some (b, τ0)) (h2 : τ0.walk q = some (o, τ)) :
  q9 Γ (.ptr k q τ) (.pointer (some ⟨b, o, none⟩)) :=
 (u0 rfl).2 ⟨by simp only [q8]; exact ⟨b, τ0, o, h1, h2, by simp [Value.cells]⟩, by simp [V.ty, Ty.isAgg, u7]⟩
theorem q54 {τ : Ty} {c : C} {v : Value} (h : q9 Γ (.cptr τ c) v) :
  ∃ b off l, v = .pointer (some ⟨b, off, none⟩) ∧ Γ.H b = some l ∧ off + τ.size ≤ l.length ∧ y4 Γ.H τ (chunk l off τ.size) c := by
 obtain ⟨h1, h2⟩ := (u0 rfl).1 h
 rw [u4 (by simpa [V.ty, Ty.isAgg] using h2)] at h1
 simp only [q8] at h1
 obtain ⟨b, off, l, a, c, d⟩ := h1
 exact ⟨b, off, l, by simpa using a, c, d⟩
theorem q02 {τ : Ty} {c : C} {b off : Nat} {l : List Value} (h1 : Γ.H b = some l) (h2 : off + τ.size ≤ l.length) (h3 : y4 Γ.H τ (chunk l off τ.size) c) :
  q9 Γ (.cptr τ c) (.pointer (some ⟨b, off, none⟩)) :=
 (u0 rfl).2 ⟨by simp only [q8]; exact ⟨b, off, l, by simp [Value.cells], h1, h2, h3⟩, by simp [V.ty, Ty.isAgg, u7]⟩
theorem s5 {x : V} {v : Value} (hx : x.plain = true) (ha : x.ty.isAgg = false) : q9 Γ x v ↔ q8 Γ none [] x [v] ∧ u7 v = false := by
 rw [u0 hx, ha]
 constructor
 ·rintro ⟨h1, h2⟩; rw [u4 h2] at h1; exact ⟨h1, h2⟩
 ·rintro ⟨h1, h2⟩; rw [u4 h2]; exact ⟨h1, h2⟩
end
def y6Q (P : Program) (ρ : Operand → Value) (o : Oper) (Γ : G) (w : World) (x : V) : Prop :=
 ∃ v, (execOp ρ o).run P w = .ok (.value v) w ∧ q9 Γ x v
def q0J (P : Program) (ρa : Operand → V) (o : Oper) (x : V) : Prop :=
 ∀ (Γ : G) (w : World) (ρ : Operand → Value), (∀ y ∈ o.op.operands, q9 Γ (ρa y) (ρ y)) → y6Q P ρ o Γ w x
def q0A (op : BinOp) (k : IntKind) (x y : Int) : Int :=
 let a := BitVec.ofInt k.bits x
 let b := BitVec.ofInt k.bits y
 match op with
 | .and => k.wrap (a &&& b).toNat
 | .or => k.wrap (a ||| b).toNat
 | .xor => k.wrap (a ^^^ b).toNat
 | .andNot => k.wrap (a &&& ~~~b).toNat
 | _ => 0
def q4X (op : BinOp) (k : IntKind) (a b : Int) (K : V → Prop) : Prop :=
 match op with
 | .add => K (.d (.int k) (.int (k.wrap (a + b))))
 | .sub => K (.d (.int k) (.int (k.wrap (a - b))))
 | .mul => K (.d (.int k) (.int (k.wrap (a * b))))
 | .quo => b ≠ 0 ∧ K (.d (.int k) (.int (k.wrap (a.tdiv b))))
 | .rem => b ≠ 0 ∧ K (.d (.int k) (.int (a.tmod b)))
 | .and | .or | .xor | .andNot => K (.d (.int k) (.int (q0A op k a b)))
 | .eql => K (.d .bool (.bool (decide (a = b))))
 | .neq => K (.d .bool (.bool (!decide (a = b))))
 | .lss => K (.d .bool (.bool (decide (a < b))))
 | .leq => K (.d .bool (.bool (decide (a ≤ b))))
 | .gtr => K (.d .bool (.bool (decide (b < a))))
 | .geq => K (.d .bool (.bool (decide (b ≤ a))))
 | _ => False
def q5Z (op : BinOp) (a b : List UInt8) (K : V → Prop) : Prop :=
 match op with
 | .add => a.length + b.length ≤ 140737488355328 ∧ K (.d .str (.str (a ++ b)))
 | .eql => K (.d .bool (.bool (a == b)))
 | .neq => K (.d .bool (.bool (!(a == b))))
 | .lss => K (.d .bool (.bool (Op.bytesLess a b)))
 | .leq => K (.d .bool (.bool (Op.bytesLess a b || a == b)))
 | .gtr => K (.d .bool (.bool (!(Op.bytesLess a b || a == b))))
 | .geq => K (.d .bool (.bool (!Op.bytesLess a b)))
 | _ => False
noncomputable def C.eqb (a b : C) : Bool := @decide (a = b) (Classical.propDecidable _)
theorem C.q0b {a b : C} : C.eqb a b = true ↔ a = b := by simp [C.eqb]
def q1M (P : Program) : Nat → TypeId → Bool
 | 0, _ => false
 | f + 1, T => decide (T < P.types.size) && (match P.underlying T with
  | some (.int _) | some .bool | some .string => true
  | some (.array _ e) => q1M P f e
  | some (.struct fs) => !P.stoodInHeld T && fs.toList.all fun g => g.name != "_" && q1M P f g.type
  | _ => false)
def H3 (P : Program) (T : TypeId) : Bool := q1M P 12 T && !P.eqGuardType P.depth T
def q38 (op : BinOp) (b : Bool) (K : V → Prop) : Prop :=
 match op with
 | .eql => K (.d .bool (.bool b))
 | .neq => K (.d .bool (.bool (!b)))
 | _ => False
def V.Z1 (τ : Ty) : V → Prop
 | .d τ' _ => τ' = τ
 | _ => False
def V.toC : V → C
 | .d _ c => c
 | _ => .nil
def V.q3Q : V → Option Bool
 | .ptr _ _ _ | .cptr _ _ => some false
 | .d .ptr .nil => some true
 | _ => none
def V.z6b : V → Option (Option Bool)
 | .nilc => some (some true)
 | .emp _ _ => some none
 | .d τ c => (match τ with
  | .slice _ _ => some (bif c.elems.isEmpty then none else some false)
  | _ => none)
 | .sl _ _ cs _ => some (bif cs.isEmpty then none else some false)
 | .sr _ _ _ n _ _ _ => some (bif n == 0 then none else some false)
 | _ => none
def q5r : Option Bool → V
 | some b => .d .bool (.bool b)
 | none => .top .bool
def q9y (op : BinOp) (k : IntKind) (a b : Int) (K : V → Prop) : Prop :=
 match op with
 | .shl => 0 ≤ b ∧ K (.d (.int k) (.int (k.wrap (a * 2 ^ (min b.toNat k.bits)))))
 | .shr => 0 ≤ b ∧ K (.d (.int k) (.int (a.fdiv (2 ^ (min b.toNat k.bits)))))
 | _ => False
def BinOp.q3J : BinOp → Bool
 | .shl | .shr => true
 | _ => false
def V.Z7 : V → Prop
 | .d (.int _) _ => True
 | _ => False
noncomputable def z2h (P : Program) (op : BinOp) (T : TypeId) (x y : V) (K : V → Prop) : Prop :=
 match ty P T with
 | .int k => x.isInt k ∧ (if BinOp.q3J op then y.Z7 ∧ q9y op k x.toInt y.toInt K else y.isInt k ∧ q4X op k x.toInt y.toInt K)
 | .bool => x.isBool ∧ y.isBool ∧ (match op with
   | .eql => K (.d .bool (.bool (x.toBool == y.toBool)))
   | .neq => K (.d .bool (.bool (!(x.toBool == y.toBool))))
   | _ => False)
 | .str => x.isStr ∧ y.isStr ∧ q5Z op x.toStr y.toStr K
 | .ptr => (match op, x.q3Q, y.q3Q with
   | .eql, some a, some true => K (.d .bool (.bool a))
   | .neq, some a, some true => K (.d .bool (.bool (!a)))
   | .eql, some true, some b => K (.d .bool (.bool b))
   | .neq, some true, some b => K (.d .bool (.bool (!b)))
   | _, _, _ => False)
 | .arr n e => H3 P T = true ∧ x.Z1 (.arr n e) ∧ y.Z1 (.arr n e) ∧ q38 op (C.eqb x.toC y.toC) K
 | .struct sz os fs => H3 P T = true ∧ x.Z1 (.struct sz os fs) ∧ y.Z1 (.struct sz os fs) ∧ q38 op (C.eqb x.toC y.toC) K
 | .slice _ _ => (match op, x.z6b, y with
   | .eql, some r, .nilc => K (q5r r)
   | .neq, some r, .nilc => K (q5r (r.map (!·)))
   | _, _, _ => False)
 | _ => False
section
variable {P : Program}
theorem z8C {a b : Int} (h : 0 ≤ a) : a.tmod b ≤ a := by
 obtain ⟨n, rfl⟩ := Int.eq_ofNat_of_zero_le h
 cases b with
 | ofNat m => exact Int.ofNat_le.2 (Nat.mod_le n m)
 | negSucc m => exact Int.ofNat_le.2 (Nat.mod_le n (m + 1))
theorem z38 {k : IntKind} {a b : Int} (h1 : k.min ≤ a) (h2 : a ≤ k.max) : k.min ≤ a.tmod b ∧ a.tmod b ≤ k.max := by
 have hm : k.min ≤ 0 ∧ 0 ≤ k.max := by cases k <;> decide
 rcases Int.lt_or_le a 0 with h | h
 ·have h3 : (-a).tmod b = -(a.tmod b) := Int.neg_tmod a b
  have h4 : 0 ≤ (-a).tmod b := Int.tmod_nonneg b (by omega)
  have h5 : (-a).tmod b ≤ -a := z8C (by omega)
  omega
 ·have h4 : 0 ≤ a.tmod b := Int.tmod_nonneg b h
  have h5 : a.tmod b ≤ a := z8C h
  omega
theorem V.q5t {k : IntKind} {x : V} (h : x.isInt k) : ∃ c, x = .d (.int k) c := by
 cases x <;> simp [V.isInt] at h; subst h; exact ⟨_, rfl⟩
theorem V.q8h {x : V} (h : x.isBool) : ∃ c, x = .d .bool c := by
 cases x <;> simp [V.isBool] at h; subst h; exact ⟨_, rfl⟩
theorem V.q4k {x : V} (h : x.isStr) : ∃ c, x = .d .str c := by
 cases x <;> simp [V.isStr] at h; subst h; exact ⟨_, rfl⟩
theorem z5p (a b : Int) : (a == b) = decide (a = b) := by
 by_cases h : a = b <;> simp [h]
theorem z9J {op : BinOp} {k : IntKind} {a b : Int} {K : V → Prop} (hs : BinOp.q3J op = false) (h : q4X op k a b K)
  (T : TypeId) (ha : k.min ≤ a ∧ a ≤ k.max) :
  ∃ x, K x ∧ ∀ Γ w, ∃ v, (binOp op T (.int k a) (.int k b)).run P w = .ok v w ∧ q9 Γ x v := by
 cases op <;> simp only [q4X] at h <;> (try (simp [BinOp.q3J] at hs; done))
 case add => exact ⟨_, h, fun Γ w => ⟨_, by simp [binOp, Op.intArith], r9 (wrap_within k _).1 (wrap_within k _).2⟩⟩
 case sub => exact ⟨_, h, fun Γ w => ⟨_, by simp [binOp, Op.intArith], r9 (wrap_within k _).1 (wrap_within k _).2⟩⟩
 case mul => exact ⟨_, h, fun Γ w => ⟨_, by simp [binOp, Op.intArith], r9 (wrap_within k _).1 (wrap_within k _).2⟩⟩
 case quo => exact ⟨_, h.2, fun Γ w => ⟨_, by simp [binOp, Op.intDiv, h.1], r9 (wrap_within k _).1 (wrap_within k _).2⟩⟩
 case rem => exact ⟨_, h.2, fun Γ w => ⟨_, by simp [binOp, Op.intDiv, h.1], r9 (z38 ha.1 ha.2).1 (z38 ha.1 ha.2).2⟩⟩
 case and => exact ⟨_, h, fun Γ w => ⟨_, by simp only [binOp, ne_eq, not_true_eq_false, if_false, Op.intBits]; rfl, r9 (wrap_within k _).1 (wrap_within k _).2⟩⟩
 case or => exact ⟨_, h, fun Γ w => ⟨_, by simp only [binOp, ne_eq, not_true_eq_false, if_false, Op.intBits]; rfl, r9 (wrap_within k _).1 (wrap_within k _).2⟩⟩
 case xor => exact ⟨_, h, fun Γ w => ⟨_, by simp only [binOp, ne_eq, not_true_eq_false, if_false, Op.intBits]; rfl, r9 (wrap_within k _).1 (wrap_within k _).2⟩⟩
 case andNot => exact ⟨_, h, fun Γ w => ⟨_, by simp only [binOp, ne_eq, not_true_eq_false, if_false, Op.intBits]; rfl, r9 (wrap_within k _).1 (wrap_within k _).2⟩⟩
 case eql => exact ⟨_, h, fun Γ w => ⟨_, by simp [binOp, Op.intCmp, z5p], s6⟩⟩
 case neq => exact ⟨_, h, fun Γ w => ⟨_, by simp [binOp, Op.intCmp, bne, z5p], s6⟩⟩
 case lss => exact ⟨_, h, fun Γ w => ⟨_, by simp [binOp, Op.intCmp], s6⟩⟩
 case leq => exact ⟨_, h, fun Γ w => ⟨_, by simp [binOp, Op.intCmp], s6⟩⟩
 case gtr => exact ⟨_, h, fun Γ w => ⟨_, by simp [binOp, Op.intCmp], s6⟩⟩
 case geq => exact ⟨_, h, fun Γ w => ⟨_, by simp [binOp, Op.intCmp], s6⟩⟩
end
end Go.E
namespace Go.E
open Go
def o8 : Option V → Int → Option Int
 | none, n => some n
 | some x, _ => match x with
  | .d (.int _) c => some c.toInt
  | _ => none
def V.q1l : V → Option (Nat × Ty × List C)
 | .d τ c => match τ with
  | .slice eb e => some (eb, e, c.elems)
  | _ => none
 | .sl eb e cs _ => some (eb, e, cs)
 | .emp eb e => some (eb, e, [])
 | _ => none
def z1b (P : Program) (T : TypeId) : Option (Nat × Nat × Ty) := match P.underlying T with
 | some (.pointer A) => (match P.underlying A with
  | some (.array n E) => if A < P.types.size then some (n, P.bytesOf E, tyF P 11 E) else none
  | _ => none)
 | some (.array n E) => if T < P.types.size then some (n, P.bytesOf E, tyF P 11 E) else none
 | _ => none
def cut (cs : List C) (l h : Int) : List C := (cs.take h.toNat).drop l.toNat
def q7d (P : Program) (T : TypeId) (x : V) (lo hi mx : Option V) (K : V → Prop) : Prop :=
 match ty P T with
 | .str => x.isStr ∧ mx = none ∧ (match o8 lo 0, o8 hi x.toStr.length with
   | some l, some h => 0 ≤ l ∧ l ≤ h ∧ h ≤ x.toStr.length ∧ K (.d .str (.str ((x.toStr.take h.toNat).drop l.toNat)))
   | _, _ => False)
 | .slice eb e => (match x with
   | .sr k q lo0 n cp eb' e' => eb' = eb ∧ e' = e ∧ (match o8 lo 0, o8 hi n, mx with
     | some l, some h, none => 0 ≤ l ∧ l ≤ h ∧ h ≤ n ∧ K (.sr k q (lo0 + l.toNat) (h - l).toNat (cp.map (· - l.toNat)) eb e)
     | some l, some h, some m => hi.isSome = true ∧ (match o8 (some m) 0 with
       | some m => 0 ≤ l ∧ l = h ∧ h = m ∧ m ≤ n ∧ K (.emp eb e)
       | none => False)
     | _, _, _ => False)
   | x => (match x.q1l with
    | some (eb', e', cs) => eb' = eb ∧ e' = e ∧ (match o8 lo 0, o8 hi cs.length, mx with
     | some l, some h, none => 0 ≤ l ∧ l ≤ h ∧ h ≤ cs.length ∧ K (.d (.slice eb e) (.slice (cut cs l h)))
     | some l, some h, some m => hi.isSome = true ∧ (match o8 (some m) 0 with
       | some m => 0 ≤ l ∧ l = h ∧ h = m ∧ m ≤ cs.length ∧ K (.emp eb e)
       | none => False)
     | _, _, _ => False)
    | none => False))
 | _ => (match z1b P T with
  | some (n, eb, e) => n * eb ≤ 140737488355328 ∧ n ≤ maxLen ∧ mx = none ∧ (match o8 lo 0, o8 hi n with
    | some l, some h => 0 ≤ l ∧ l ≤ h ∧ h ≤ n ∧ (match x with
      | .ptr k q τ => τ = .arr n e ∧ K (.sr k q l.toNat (h - l).toNat (some (n - l.toNat)) eb e)
      | .cptr τ c => τ = .arr n e ∧ K (.d (.slice eb e) (.slice (cut c.elems l h)))
      | _ => False)
    | _, _ => False)
  | none => False)
def z2g (P : Program) (T : TypeId) (x : V) (K : V → Prop) : Prop :=
 match ty P T, x with
 | .str, .d τ c => τ = .str ∧ K (.d (.int .i64) (.int c.toStr.length))
 | .slice _ _, .nilc => K (.d (.int .i64) (.int 0))
 | .slice _ _, .sr _ _ _ n _ _ _ => K (.d (.int .i64) (.int n))
 | .slice eb e, x => (match x.q1l with
   | some (eb', e', cs) => eb' = eb ∧ e' = e ∧ K (.d (.int .i64) (.int cs.length))
   | none => False)
 | .arr n _, _ => (n : Int) ≤ 9223372036854775807 ∧ K (.d (.int .i64) (.int n))
 | _, _ => False
def q2E (P : Program) (T : TypeId) (x i : V) (K : V → Prop) : Prop :=
 i.Z7 ∧
 match ty P T, x with
 | .slice eb e, .sr k q lo n _ eb' e' => eb' = eb ∧ e' = e ∧ 0 ≤ i.toInt ∧ i.toInt < n ∧ K (.ptr k (q ++ [lo + i.toInt.toNat]) e)
 | .slice eb e, x => (match x.q1l with
   | some (eb', e', cs) => eb' = eb ∧ e' = e ∧ 0 ≤ i.toInt ∧ i.toInt < cs.length ∧ K (.cptr e (cs.getD i.toInt.toNat .nil))
   | none => False)
 | .arr n e, .ptr k q τ => τ = .arr n e ∧ 0 ≤ i.toInt ∧ i.toInt < n ∧ K (.ptr k (q ++ [i.toInt.toNat]) e)
 | .arr n e, .cptr τ c => τ = .arr n e ∧ 0 ≤ i.toInt ∧ i.toInt < n ∧ K (.cptr e (c.get i.toInt.toNat))
 | _, _ => False
def Ty.J3 : Ty → Bool
 | .struct _ _ _ => true
 | _ => false
def q2F (P : Program) (T : TypeId) (x : V) (i : Nat) (K : V → Prop) : Prop :=
 match x with
 | .ptr k q τ => τ = ty P T ∧ τ.J3 = true ∧ (τ.child i).isSome = true ∧ (τ.get i).size ≠ 0 ∧ K (.ptr k (q ++ [i]) (τ.get i))
 | .cptr τ c => τ = ty P T ∧ τ.J3 = true ∧ (τ.child i).isSome = true ∧ (τ.get i).size ≠ 0 ∧ K (.cptr (τ.get i) (c.get i))
 | _ => False
def z8Q (P : Program) (op : UnOp) (T : TypeId) (x : V) (K : V → Prop) : Prop :=
 match ty P T, op with
 | .bool, .not => x.isBool ∧ K (.d .bool (.bool (!x.toBool)))
 | .int k, .neg => x.isInt k ∧ K (.d (.int k) (.int (k.wrap (0 - x.toInt))))
 | _, _ => False
def q7x (P : Program) (src dst : TypeId) (x : V) (K : V → Prop) : Prop :=
 match ty P src, ty P dst with
 | .int k, .int k2 => x.isInt k ∧ K (.d (.int k2) (.int (k2.wrap x.toInt)))
 | .str, .str => x.isStr ∧ K x
 | _, _ => False
def q55 (P : Program) (b : Builtin) (ts : Array TypeId) (xs : List V) (K : V → Prop) : Prop :=
 match b, xs with
 | .len, [x] => 0 < ts.size ∧ z2g P (ts.getD 0 0) x K
 | .min, [x, y] => (match x with
   | .d (.int k) _ => y.isInt k ∧ K (.d (.int k) (.int (if y.toInt < x.toInt then y.toInt else x.toInt)))
   | _ => False)
 | .max, [x, y] => (match x with
   | .d (.int k) _ => y.isInt k ∧ K (.d (.int k) (.int (if x.toInt < y.toInt then y.toInt else x.toInt)))
   | _ => False)
 | _, _ => False
theorem addr_add (b o n : Nat) : (⟨b, o, none⟩ : Addr).add n = ⟨b, o + n, none⟩ := by
 unfold Addr.add; split <;> simp_all
section
variable {Γ : G}
theorem J9 {H : Hp} {eb : Nat} {e : Ty} {vs : List Value} {c : C} (h : y4 H (.slice eb e) vs c) :
  ∃ a n cap, vs = [.slice a n cap] ∧ c = .slice c.elems ∧ c.elems.length = n ∧ n ≤ cap ∧ cap ≤ maxLen ∧ n * eb ≤ 140737488355328 ∧
   (n = 0 ∨ ∃ b off l, a = some ⟨b, off, none⟩ ∧ H b = some l ∧ off + n * e.size ≤ l.length ∧
    ∀ i c', c.elems[i]? = some c' → y4 H e (chunk l (off + i * e.size) e.size) c') := by
 simp only [y4] at h
 obtain ⟨a, n, cap, cs, rfl, rfl, h1, h2, h3, h4, h5⟩ := h
 exact ⟨a, n, cap, rfl, rfl, h1, h2, h3, h4, h5⟩
theorem r6 {H : Hp} {eb : Nat} {e : Ty} {cs : List C} {a : Option Addr} {n cap : Nat} (h1 : cs.length = n) (h2 : n ≤ cap) (h3 : cap ≤ maxLen)
  (h4 : n * eb ≤ 140737488355328) (h5 : n = 0 ∨ ∃ b off l, a = some ⟨b, off, none⟩ ∧ H b = some l ∧ off + n * e.size ≤ l.length ∧
    ∀ i c', cs[i]? = some c' → y4 H e (chunk l (off + i * e.size) e.size) c') : y4 H (.slice eb e) [.slice a n cap] (.slice cs) := by
 simp only [y4]
 exact ⟨a, n, cap, cs, rfl, rfl, h1, h2, h3, h4, h5⟩
theorem q1o {eb : Nat} {e : Ty} {cs : List C} {a : Option Addr} {n cap : Nat} (h : y4 Γ.H (.slice eb e) [.slice a n cap] (.slice cs)) :
  q9 Γ (.d (.slice eb e) (.slice cs)) (.slice a n cap) :=
 Q4.2 ⟨by simpa [Value.cells] using h, rfl⟩
theorem q2D {eb : Nat} {e : Ty} {a : Option Addr} : q9 Γ (.emp eb e) (.slice a 0 0) :=
 (s5 rfl rfl).2 ⟨by simp only [q8]; exact ⟨a, rfl⟩, rfl⟩
theorem X7 {v : Value} (h : q9 Γ .nilc v) : v = .slice none 0 0 := by
 obtain ⟨h1, h2⟩ := (u0 rfl).1 h
 rw [u4 (by simpa [V.ty, Ty.isAgg] using h2)] at h1
 simp only [q8] at h1
 simpa using h1
theorem q00 {x : V} {v : Value} {eb : Nat} {e : Ty} {cs : List C} (h : q9 Γ x v) (hx : x.q1l = some (eb, e, cs)) :
  ∃ a n cap, v = .slice a n cap ∧ cs.length = n ∧ n ≤ cap ∧ cap ≤ maxLen ∧ n * eb ≤ 140737488355328 ∧ y4 Γ.H (.slice eb e) [.slice a n cap] (.slice cs) := by
 cases x <;> simp only [V.q1l, reduceCtorEq] at hx
 case d τ c =>
  cases τ <;> simp only [reduceCtorEq] at hx
  simp at hx
  obtain ⟨rfl, rfl, rfl⟩ := hx
  obtain ⟨h1, h2⟩ := (s5 rfl rfl).1 h
  simp only [q8] at h1
  obtain ⟨a, n, cap, h3, h4, h5⟩ := J9 h1
  simp at h3; subst h3
  exact ⟨a, n, cap, rfl, h5.1, h5.2.1, h5.2.2.1, h5.2.2.2.1, by rw [h4] at h1; simpa [C.elems] using h1⟩
 case sl eb' e' cs' t =>
  simp at hx
  obtain ⟨rfl, rfl, rfl⟩ := hx
  obtain ⟨h1, h2⟩ := (s5 rfl rfl).1 h
  simp only [q8] at h1
  obtain ⟨a, n, cap, h3, h4, h5⟩ := h1
  simp at h3; subst h3
  obtain ⟨a', n', cap', e1, _, e2, e3, e4, e5, _⟩ := J9 h4
  simp at e1
  obtain ⟨rfl, rfl, rfl⟩ := e1
  exact ⟨a, n, cap, rfl, e2, e3, e4, e5, h4⟩
 case emp eb' e' =>
  simp at hx
  obtain ⟨rfl, rfl, rfl⟩ := hx
  obtain ⟨h1, h2⟩ := (s5 rfl rfl).1 h
  simp only [q8] at h1
  obtain ⟨a, h3⟩ := h1
  simp at h3; subst h3
  exact ⟨a, 0, 0, rfl, rfl, Nat.le_refl _, Nat.zero_le _, by rw [Nat.zero_mul]; exact Nat.zero_le _, r6 rfl (Nat.le_refl _) (Nat.zero_le _) (by rw [Nat.zero_mul]; exact Nat.zero_le _) (.inl rfl)⟩
theorem q0x {k : Key} {q : List Nat} {lo n : Nat} {cp : Option Nat} {eb : Nat} {e : Ty} {v : Value} (h : q9 Γ (.sr k q lo n cp eb e) v) :
  (cp = none ∧ n = 0 ∧ ∃ a, v = .slice a 0 0) ∨ ∃ b τ0 o m cap a, Γ.ι k = some (b, τ0) ∧ τ0.walk q = some (o, .arr m e) ∧ lo + n ≤ m ∧ v = .slice a n cap ∧ (cap = 0 ∨ a = some ⟨b, o + lo * e.size, none⟩) ∧
   n ≤ cap ∧ cap ≤ maxLen ∧ n * eb ≤ 140737488355328 ∧ (∀ c, cp = some c → cap = c) ∧ (cp = none → cap = 0 ∨ ∃ sz, Γ.σ b = some sz ∧ o + (lo + cap) * e.size ≤ sz) := by
 obtain ⟨h1, h2⟩ := (s5 rfl rfl).1 h
 simp only [q8] at h1
 rcases h1 with ⟨z1, z2, a, e1⟩ | ⟨b, τ0, o, m, cap, a1, a2, a3, ⟨a, e1, e2⟩, a4⟩
 ·simp at e1; exact .inl ⟨z1, z2, a, e1⟩
 simp at e1; subst e1
 exact .inr ⟨b, τ0, o, m, cap, a, a1, a2, a3, rfl, e2, a4⟩
theorem q9E {k : Key} {q : List Nat} {lo n : Nat} {cp : Option Nat} {eb : Nat} {e τ0 : Ty} {b o m cap : Nat} {a : Option Addr} (h1 : Γ.ι k = some (b, τ0)) (h2 : τ0.walk q = some (o, .arr m e)) (h3 : lo + n ≤ m)
  (h4 : cap = 0 ∨ a = some ⟨b, o + lo * e.size, none⟩) (h5 : n ≤ cap) (h6 : cap ≤ maxLen) (h7 : n * eb ≤ 140737488355328) (h8 : ∀ c, cp = some c → cap = c) (h9 : cp = none → cap = 0 ∨ ∃ sz, Γ.σ b = some sz ∧ o + (lo + cap) * e.size ≤ sz) : q9 Γ (.sr k q lo n cp eb e) (.slice a n cap) :=
 (s5 rfl rfl).2 ⟨by simp only [q8]; exact .inr ⟨b, τ0, o, m, cap, h1, h2, h3, ⟨a, rfl, h4⟩, h5, h6, h7, h8, h9⟩, rfl⟩
theorem z2X {k : Key} {q : List Nat} {lo : Nat} {eb : Nat} {e : Ty} {a : Option Addr} : q9 Γ (.sr k q lo 0 none eb e) (.slice a 0 0) :=
 (s5 rfl rfl).2 ⟨by simp only [q8]; exact .inl ⟨trivial, trivial, a, rfl⟩, rfl⟩
theorem z2W {k : Key} {q : List Nat} {lo n : Nat} {cp : Option Nat} {eb : Nat} {e : Ty} {v : Value} (h : q9 Γ (.sr k q lo n cp eb e) v) : ∃ cap a, v = .slice a n cap ∧ n ≤ cap ∧ cap ≤ maxLen := by
 rcases q0x h with ⟨_, rfl, a, hv⟩ | ⟨b, τ0, o0, m, cap, a, a1, a2, a3, hv, a4, a5, a6, _⟩
 ·exact ⟨0, a, hv, Nat.le_refl _, Nat.zero_le _⟩
 ·exact ⟨cap, a, hv, a5, a6⟩
theorem y3H {H : Hp} {eb : Nat} {e : Ty} {cs : List C} {a : Option Addr} {n cap : Nat} (h : y4 H (.slice eb e) [.slice a n cap] (.slice cs)) {i : Nat} (hi : i < n) :
  ∃ b off l, a = some ⟨b, off, none⟩ ∧ H b = some l ∧ off + i * e.size + e.size ≤ l.length ∧ y4 H e (chunk l (off + i * e.size) e.size) (cs.getD i .nil) := by
 obtain ⟨a', n', cap', e1, _, e2, e3, e4, e5, e6⟩ := J9 h
 simp at e1
 obtain ⟨rfl, rfl, rfl⟩ := e1
 simp only [C.elems] at e2 e6
 rcases e6 with e6 | ⟨b, off, l, rfl, hb, hs, hc⟩
 ·omega
 ·have hle : (i + 1) * e.size ≤ n * e.size := Nat.mul_le_mul_right _ hi
  rw [Nat.add_mul] at hle
  have hlt : i < cs.length := by omega
  refine ⟨b, off, l, rfl, hb, by omega, ?_⟩
  have := hc i cs[i] (List.getElem?_eq_getElem hlt)
  simpa [List.getD, List.getElem?_eq_getElem hlt] using this
theorem z3p {H : Hp} {eb : Nat} {e : Ty} {cs : List C} {a : Option Addr} {n cap l h : Nat} (hr : y4 H (.slice eb e) [.slice a n cap] (.slice cs)) (h1 : l ≤ h) (h2 : h ≤ n) :
  y4 H (.slice eb e) [.slice (if cap = l then a else a.map (·.add (l * e.size))) (h - l) (cap - l)] (.slice ((cs.take h).drop l)) := by
 obtain ⟨a', n', cap', e1, _, e2, e3, e4, e5, e6⟩ := J9 hr
 simp at e1
 obtain ⟨rfl, rfl, rfl⟩ := e1
 simp only [C.elems] at e2 e6
 refine r6 (by simp; omega) (by omega) (by omega) (Nat.le_trans (Nat.mul_le_mul_right _ (by omega)) e5) ?_
 by_cases hz : h - l = 0
 ·exact .inl hz
 ·rcases e6 with e6 | ⟨b, off, ll, rfl, hb, hs, hc⟩
  ·omega
  ·refine .inr ⟨b, off + l * e.size, ll, ?_, hb, ?_, fun i c' hi => ?_⟩
   ·rw [if_neg (by omega)]
    simp only [Option.map_some, Option.some.injEq]
    exact addr_add _ _ _
   ·have : (l + (h - l)) * e.size ≤ n * e.size := Nat.mul_le_mul_right _ (by omega)
    rw [Nat.add_mul] at this; omega
   ·rw [List.getElem?_drop, List.getElem?_take] at hi
    split at hi
    ·have := hc _ _ hi
     rw [Nat.add_mul] at this
     rw [show off + l * e.size + i * e.size = off + (l * e.size + i * e.size) by omega]
     exact this
    ·cases hi
end
section
variable {P : Program}
theorem q0J.q05 {o : Oper} {op : BinOp} {T T2 : TypeId} {x y : Operand} {ρa : Operand → V} {r : V} (ho : o.op = .binOp op T x y T2)
  (hg : ∀ (a b : Value) (w : World), (∃ Γ, q9 Γ (ρa x) a ∧ q9 Γ (ρa y) b) → (eqGuard op T x y a b).run P w = .ok () w)
  (h : ∀ (Γ : G) (w : World) (a b : Value), q9 Γ (ρa x) a → q9 Γ (ρa y) b → ∃ v, (binOp op T a b).run P w = .ok v w ∧ q9 Γ r v) : q0J P ρa o r := by
 intro Γ w ρ hr
 rw [ho] at hr
 have hx := hr x (by simp [Op.operands])
 have hy := hr y (by simp [Op.operands])
 obtain ⟨v, h1, h2⟩ := h Γ w _ _ hx hy
 refine ⟨v, ?_, h2⟩
 unfold execOp
 simp [ho, hg _ _ w ⟨Γ, hx, hy⟩, h1]
theorem q7N {op : BinOp} {T : TypeId} {x y : Operand} {k k' : IntKind} {a b : Int} : eqGuard op T x y (.int k a) (.int k' b) = pure () := by
 unfold eqGuard; split <;> rfl
theorem z0r {op : BinOp} {T : TypeId} {x y : Operand} {a b : Bool} : eqGuard op T x y (.bool a) (.bool b) = pure () := by
 unfold eqGuard; split <;> rfl
theorem z9Z {op : BinOp} {T : TypeId} {x y : Operand} {a b : ByteArray} : eqGuard op T x y (.string a) (.string b) = pure () := by
 unfold eqGuard; split <;> rfl
theorem z90 {op : BinOp} {T : TypeId} {x y : Operand} {a b : Option Addr} : eqGuard op T x y (.pointer a) (.pointer b) = pure () := by
 unfold eqGuard; split <;> rfl
theorem z0A (a b : List UInt8) : ((⟨a.toArray⟩ : ByteArray).toList == (⟨b.toArray⟩ : ByteArray).toList) = (a == b) := by
 simp [ByteArray.toList_eq]
theorem z8F {op : BinOp} {a b : List UInt8} {K : V → Prop} (h : q5Z op a b K) (T : TypeId) :
  ∃ x, K x ∧ ∀ (Γ : G) w, ∃ v, (binOp op T (.string ⟨a.toArray⟩) (.string ⟨b.toArray⟩)).run P w = .ok v w ∧ q9 Γ x v := by
 cases op <;> simp only [q5Z] at h
 case add =>
  refine ⟨_, h.2, fun Γ w => ⟨.string ⟨(a ++ b).toArray⟩, ?_, q0Z (by simpa using h.1)⟩⟩
  have hs : ((⟨a.toArray⟩ : ByteArray) ++ ⟨b.toArray⟩) = ⟨(a ++ b).toArray⟩ := by
   apply ByteArray.ext; simp
  have hle : ¬ (IntKind.i64.max < (((⟨a.toArray⟩ : ByteArray).size + (⟨b.toArray⟩ : ByteArray).size : Nat) : Int)) := by
   have e1 : (⟨a.toArray⟩ : ByteArray).size = a.length := by simp [ByteArray.size]
   have e2 : (⟨b.toArray⟩ : ByteArray).size = b.length := by simp [ByteArray.size]
   rw [e1, e2]
   have : IntKind.i64.max = 9223372036854775807 := by decide
   omega
  simp only [binOp, Op.stringOp, gt_iff_lt, if_neg hle, hs]; rfl
 case eql => exact ⟨_, h, fun Γ w => ⟨_, by simp only [binOp, Op.stringOp, z0A]; rfl, s6⟩⟩
 case neq => exact ⟨_, h, fun Γ w => ⟨_, by simp only [binOp, Op.stringOp, z0A]; rfl, s6⟩⟩
 case lss => exact ⟨_, h, fun Γ w => ⟨_, by simp only [binOp, Op.stringOp, ByteArray.toList_eq]; rfl, s6⟩⟩
 case leq => exact ⟨_, h, fun Γ w => ⟨_, by simp only [binOp, Op.stringOp, ByteArray.toList_eq]; rfl, s6⟩⟩
 case gtr => exact ⟨_, h, fun Γ w => ⟨_, by simp only [binOp, Op.stringOp, ByteArray.toList_eq]; rfl, s6⟩⟩
 case geq => exact ⟨_, h, fun Γ w => ⟨_, by simp only [binOp, Op.stringOp, ByteArray.toList_eq]; rfl, s6⟩⟩
theorem z4Z {k : IntKind} {a : Int} (n : Nat) (h1 : k.min ≤ a) (h2 : a ≤ k.max) : k.min ≤ a.fdiv (2 ^ n) ∧ a.fdiv (2 ^ n) ≤ k.max := by
 have hm : k.min ≤ 0 ∧ 0 ≤ k.max := by cases k <;> decide
 have hp : (0 : Int) < 2 ^ n := Int.pow_pos (by decide)
 rw [Int.fdiv_eq_ediv_of_nonneg _ (by omega)]
 rcases Int.lt_or_le a 0 with h | h
 ·have h3 : a ≤ a / 2 ^ n := by
   rw [Int.le_ediv_iff_mul_le hp]
   have : a * 2 ^ n ≤ a * 1 := Int.mul_le_mul_of_nonpos_left (by omega) (by omega)
   omega
  have h4 : a / 2 ^ n < 0 := Int.ediv_neg_of_neg_of_pos h hp
  omega
 ·have h3 : 0 ≤ a / 2 ^ n := Int.ediv_nonneg h (by omega)
  have h4 : a / 2 ^ n ≤ a := Int.ediv_le_self _ h
  omega
theorem q6b {x : V} {b : Bool} (h : x.q3Q = some b) {Γ : G} {v : Value} (hr : q9 Γ x v) :
  ∃ a, v = .pointer a ∧ a.isNone = b := by
 cases x <;> simp only [V.q3Q, reduceCtorEq] at h
 case ptr => simp at h; subst h; obtain ⟨b, τ0, o, _, _, rfl⟩ := q0e hr; exact ⟨_, rfl, rfl⟩
 case cptr => simp at h; subst h; obtain ⟨b, off, l, rfl, _⟩ := q54 hr; exact ⟨_, rfl, rfl⟩
 case d τ c =>
  cases τ <;> cases c <;> simp at h
  subst h
  obtain ⟨h1, h2⟩ := Q4.1 hr
  rw [u4 (by simpa [Ty.isAgg] using h2)] at h1
  simp only [y4] at h1
  simp at h1
  exact ⟨_, h1, rfl⟩
theorem z5O {T : TypeId} (hT : ty P T = .ptr) {a b : Option Addr} (h : a = none ∨ b = none) (w : World) :
  (Op.equal T (.pointer a) (.pointer b)).run P w = .ok (a.isNone && b.isNone) w := by
 obtain ⟨e, he⟩ := y75 hT
 unfold Op.equal Op.maxDepth
 rw [show (10000 : Nat) = 9999 + 1 from rfl, Op.equalIn, Sem.run_bind, run_underlying he]
 rcases h with rfl | rfl
 ·simp
 ·cases a <;> simp
theorem z17 {x : V} (h : x.Z7) {Γ : G} {v : Value} (hr : q9 Γ x v) : ∃ k, v = .int k x.toInt := by
 cases x <;> simp only [V.Z7] at h
 rename_i τ c
 cases τ <;> simp only at h
 exact ⟨_, (c4 hr).1⟩
theorem q5W : ∀ {q : List Nat} {τ0 τ f : Ty} {o o' : Nat} {i : Nat}, τ0.walk q = some (o, τ) → τ.child i = some (o', f) → τ0.walk (q ++ [i]) = some (o + o', f)
 | [], τ0, τ, f, o, o', i, h, hc => by
  simp [Ty.walk] at h; obtain ⟨rfl, rfl⟩ := h
  simp [Ty.walk, hc]
 | j :: q, τ0, τ, f, o, o', i, h, hc => by
  simp only [Ty.walk, List.cons_append] at h ⊢
  cases h1 : τ0.child j with
  | none => simp [h1] at h
  | some of =>
   obtain ⟨o1, f1⟩ := of
   simp only [h1] at h ⊢
   cases h2 : f1.walk q with
   | none => simp [h2] at h
   | some ot =>
    obtain ⟨o2, t2⟩ := ot
    simp only [h2, Option.some.injEq, Prod.mk.injEq] at h
    obtain ⟨rfl, rfl⟩ := h
    rw [q5W h2 hc]
    simp [Nat.add_assoc]
theorem q6z {τ : Ty} {i o : Nat} {f : Ty} (h : τ.child i = some (o, f)) : τ.get i = f := by
 cases τ <;> simp only [Ty.child, reduceCtorEq] at h
 ·split at h <;> simp at h; exact h.2
 ·split at h <;> simp at h
  rename_i h1 h2
  obtain ⟨rfl, rfl⟩ := h
  simp [Ty.get, List.getD, h2]
theorem y0O (hP : u3 P = true) {T : TypeId} {i o : Nat} {f : Ty} (hc : (ty P T).child i = some (o, f)) (hn : f.size ≠ 0) (hs : ∃ sz os fs, ty P T = .struct sz os fs) (b off : Nat) (w : World) :
  (Instr.fieldAt T (.pointer (some ⟨b, off, none⟩)) i).run P w = .ok (.pointer (some ⟨b, off + o, none⟩)) w := by
 obtain ⟨sz, os, fs, ht⟩ := hs
 obtain ⟨gs, hu, rfl, rfl, _, hall⟩ := z0P hP ht
 rw [ht] at hc
 simp only [Ty.child, List.getElem?_map] at hc
 cases hg : gs.toList[i]? with
 | none => simp [hg] at hc
 | some g =>
  simp [hg] at hc
  obtain ⟨rfl, rfl⟩ := hc
  have hg' : gs[i]? = some g := by simpa using hg
  have hm := hall g (List.mem_of_getElem? hg)
  have hz := q0n (f := 11) hP (w := w) hm.1
  unfold Instr.fieldAt
  rw [Sem.run_bind, run_underlying hu]
  simp only [Result.andThen_ok, hg', Instr.sureAddr, Sem.run_bind, Sem.run_pure, fieldPlace, hz]
  simp [hn, addr_add]
theorem z3a {τ : Ty} (h : τ.J3 = true) : ∃ sz os fs, τ = .struct sz os fs := by
 cases τ <;> simp [Ty.J3] at h
 exact ⟨_, _, _, rfl⟩
theorem z5I (hP : u3 P = true) {o : Oper} {T : TypeId} {x : Operand} {i : Nat} {ρa : Operand → V} {K : V → Prop} (ho : o.op = .fieldAddr T x i)
  (h : q2F P T (ρa x) i K) : ∃ r, K r ∧ q0J P ρa o r := by
 unfold q2F at h
 have go : ∀ {Γ : G} {w : World} {ρ : Operand → Value} {b off : Nat} {r : V} {τ : Ty}, τ = ty P T → τ.J3 = true → (τ.child i).isSome = true → (τ.get i).size ≠ 0 → ρ x = .pointer (some ⟨b, off, none⟩) →
   (∀ o', τ.child i = some (o', τ.get i) → q9 Γ r (.pointer (some ⟨b, off + o', none⟩))) → y6Q P ρ o Γ w r := by
  intro Γ w ρ b off r τ e1 e4 e2 e3 hx hr
  subst e1
  cases hc : (ty P T).child i with
  | none => simp [hc] at e2
  | some of =>
   obtain ⟨o', f⟩ := of
   have hf := q6z hc
   rw [hf] at e3
   refine ⟨_, ?_, hr o' (by rw [hf]; exact hc)⟩
   unfold execOp
   simp only [ho, hx, Sem.run_bind, y0O hP hc e3 (z3a e4) b off w, Result.andThen_ok, Sem.run_pure]
 have pickup : ∀ {y : V}, ρa x = y → ∀ {Γ : G} {ρ : Operand → Value}, (∀ y ∈ o.op.operands, q9 Γ (ρa y) (ρ y)) → q9 Γ y (ρ x) := by
  intro y e Γ ρ hr
  rw [← e]; exact hr x (by rw [ho]; simp [Op.operands])
 split at h
 ·rename_i k q τ hx
  obtain ⟨e1, e2, e3, e4, hK⟩ := h
  refine ⟨_, hK, fun Γ w ρ hr => ?_⟩
  obtain ⟨b, τ0, o0, h1, h2, h3⟩ := q0e (pickup hx hr)
  exact go e1 e2 e3 e4 h3 fun o' hc => q2C h1 (q5W h2 hc)
 ·rename_i τ c hx
  obtain ⟨e1, e2, e3, e4, hK⟩ := h
  refine ⟨_, hK, fun Γ w ρ hr => ?_⟩
  obtain ⟨b, off, l, h1, h2, h3, h4⟩ := q54 (pickup hx hr)
  refine go e1 e2 e3 e4 h1 fun o' hc => ?_
  obtain ⟨_, g2, g3⟩ := h4.get hc
  rw [k8 _ _ _ h3] at g2
  rw [c8 _ _ _ _ _ g2] at g3
  exact q02 h2 (by omega) g3
 ·exact h.elim
theorem q21 {T : TypeId} {f : Nat} {τ : Ty} (hP : u3 P = true) (hT : T < P.types.size) (ht : tyF P (f + 1) T = τ) (hk : τ.known = true)
  {cs : Array Value} {off : Nat} (hl : off + τ.size ≤ cs.size) (h1 : q0K cs.toList) (w : World) :
  ∃ v, (part T cs off).run P w = .ok v w ∧ v.cells.toList = chunk cs.toList off τ.size ∧ u7 v = τ.isAgg := by
 subst ht
 have hs := q0n (f := f + 1) hP (w := w) hT
 have hagg : (isAgg T).run P w = .ok (tyF P (f + 1) T).isAgg w := by
  unfold isAgg
  unfold tyF at hk ⊢
  rw [if_pos hT] at hk ⊢
  cases hu : P.underlying T with
  | none => simp [hu, Ty.known] at hk
  | some d =>
   rw [Sem.run_bind, run_underlying hu]
   cases d <;> simp [hu, Ty.known] at hk ⊢ <;> simp [Ty.isAgg]
 unfold part
 cases ha : (tyF P (f + 1) T).isAgg with
 | true =>
  refine ⟨.agg (cs.extract off (off + (tyF P (f + 1) T).size)), ?_, ?_, rfl⟩
  ·simp [hagg, ha, hs]
  ·simp [Value.cells, chunk, List.drop_take]
 | false =>
  have h0 : (tyF P (f + 1) T).size = 1 := Ty.size_leaf hk ha
  have hlt : off < cs.size := by omega
  have hone : cs[off].oneCell' = true := h1 _ (by simp)
  have hna : u7 cs[off] = false := by cases hv : cs[off] <;> simp_all [Value.oneCell', u7]
  refine ⟨cs[off], ?_, ?_, hna⟩
  ·simp [hagg, ha, Array.getElem?_eq_getElem hlt]
  ·rw [u4 hna, h0]
   simp [chunk, List.drop_eq_getElem_cons (l := cs.toList) (i := off) (by simpa using hlt)]
theorem y2b (hP : u3 P = true) {o : Oper} {T : TypeId} {x : Operand} {i : Nat} {ρa : Operand → V} {K : V → Prop} (ho : o.op = .field T x i)
  (h : (ρa x).ty = ty P T ∧ (ρa x).ty.J3 = true ∧ ((ρa x).ty.child i).isSome = true ∧ ((ρa x).ty.get i).known = true ∧ (ρa x).plain = true ∧ (ρa x).get i ≠ .any ∧ K ((ρa x).get i)) :
  ∃ r, K r ∧ q0J P ρa o r := by
 obtain ⟨e1, e2, e3, e4, e5, e6, hK⟩ := h
 refine ⟨_, hK, fun Γ w ρ hr => ?_⟩
 have hx := hr x (by rw [ho]; simp [Op.operands])
 obtain ⟨h1, h2⟩ := (u0 e5).1 hx
 obtain ⟨sz, os, fs, ht⟩ := z3a e2
 rw [ht] at h2
 cases hv : ρ x <;> simp [hv, u7, Ty.isAgg] at h2
 rename_i cs
 rw [hv] at h1
 simp only [Value.cells] at h1
 obtain ⟨gs, hu, hos, hfs, _, hall⟩ := z0P hP (e1 ▸ ht)
 cases hc : (ρa x).ty.child i with
 | none => simp [hc] at e3
 | some of =>
  obtain ⟨off, f⟩ := of
  obtain ⟨g1, g2, g3⟩ := h1.get hc e6
  have hf := q6z hc
  have hc' := hc
  rw [ht] at hc'
  simp only [Ty.child, hos, hfs, List.getElem?_map] at hc'
  cases hg : gs.toList[i]? with
  | none => simp [hg] at hc'
  | some g =>
   simp [hg] at hc'
   obtain ⟨rfl, rfl⟩ := hc'
   have hg' : gs[i]? = some g := by simpa using hg
   rw [hf] at e4
   have hpl : ((ρa x).get i).plain = true := by
    cases hgx : (ρa x).get i <;> simp_all [V.plain, q8]
   obtain ⟨v, q1, q2, q3⟩ := q21 (f := 10) hP (hall g (List.mem_of_getElem? hg)).1 rfl e4 (by simpa using g2) (h1.one e5) w
   refine ⟨v, ?_, (u0 hpl).2 ⟨?_, by rw [q3, g1]⟩⟩
   ·unfold execOp
    simp [ho, hv, Instr.field, run_underlying hu, hg', asAgg, q1]
   ·rw [q2]
    exact g3.Y2
end
end Go.E
namespace Go.E
open Go
section
variable {P : Program}
theorem run_indexAt_slice (hP : u3 P = true) {T : TypeId} {eb : Nat} {e : Ty} (ht : ty P T = .slice eb e) {b off n cap : Nat} {k : IntKind} {i : Int} (h0 : 0 ≤ i) (h1 : i < n) (w : World) :
  (Instr.indexAt T (.slice (some ⟨b, off, none⟩) n cap) (.int k i)).run P w = .ok (.pointer (some ⟨b, off + i.toNat * e.size, none⟩)) w := by
 obtain ⟨E, hu, rfl, _, hE⟩ := q01 hP ht
 have hz := q0n (f := 11) hP (w := w) hE
 unfold Instr.indexAt
 simp only [asIntOf, Sem.run_bind, Sem.run_pure, Result.andThen_ok, run_underlying hu]
 simp [h0, h1, hz, addr_add]
theorem q70 (hP : u3 P = true) {T : TypeId} {len : Nat} {e : Ty} (ht : ty P T = .arr len e) {b off : Nat} {k : IntKind} {i : Int} (h0 : 0 ≤ i) (h1 : i < len) (w : World) :
  (Instr.indexAt T (.pointer (some ⟨b, off, none⟩)) (.int k i)).run P w = .ok (.pointer (some ⟨b, off + i.toNat * e.size, none⟩)) w := by
 obtain ⟨E, hu, rfl⟩ := q8N ht
 have hT : T < P.types.size := by
  rcases Nat.lt_or_ge T P.types.size with h | h
  ·exact h
  ·unfold ty tyF at ht; rw [if_neg (Nat.not_lt.2 h)] at ht; cases ht
 have ho := q3a hP hT
 unfold okT at ho
 simp only [hu] at ho
 simp at ho
 have hz := q0n (f := 11) hP (w := w) ho.2
 unfold Instr.indexAt
 simp only [asIntOf, Sem.run_bind, Sem.run_pure, Result.andThen_ok, run_underlying hu, Instr.sureAddr]
 simp [h0, h1, hz, addr_add]
theorem z16 {n : Nat} {e : Ty} {i : Int} (h0 : 0 ≤ i) (h1 : i < n) : (Ty.arr n e).child i.toNat = some (i.toNat * e.size, e) := by
 simp only [Ty.child]; rw [if_pos (by omega)]
theorem q2T {n cap l h : Nat} {b : Bool} {lo hi : Option Value} (hlo : lo = none ∧ l = 0 ∨ ∃ k, lo = some (.int k l)) (hhi : hi = none ∧ h = n ∨ ∃ k, hi = some (.int k h))
  (h1 : l ≤ h) (h2 : h ≤ cap) (w : World) : (Instr.sliceBounds b n cap lo hi none).run P w = .ok (l, h, cap) w := by
 unfold Instr.sliceBounds
 rcases hlo with ⟨rfl, rfl⟩ | ⟨k, rfl⟩ <;> rcases hhi with ⟨rfl, rfl⟩ | ⟨k', rfl⟩ <;>
  simp [Instr.sliceBound, asIntOf, h1, h2]
theorem q7n {n cap l h m : Nat} {b : Bool} {lo hi : Option Value} {km : IntKind} (hlo : lo = none ∧ l = 0 ∨ ∃ k, lo = some (.int k l)) (hhi : ∃ k, hi = some (.int k h))
  (h1 : l ≤ h) (h2 : h ≤ m) (h3 : m ≤ cap) (w : World) : (Instr.sliceBounds b n cap lo hi (some (.int km m))).run P w = .ok (l, h, m) w := by
 unfold Instr.sliceBounds
 obtain ⟨k', rfl⟩ := hhi
 rcases hlo with ⟨rfl, rfl⟩ | ⟨k, rfl⟩ <;> simp [Instr.sliceBound, asIntOf, h1, h2, h3]
theorem q2Q {x : Option Operand} {ρa : Operand → V} {d l : Int} (h : o8 (x.map ρa) d = some l) {Γ : G} {ρ : Operand → Value} (hr : ∀ y, x = some y → q9 Γ (ρa y) (ρ y)) :
  x = none ∧ l = d ∨ ∃ k y, x = some y ∧ x.map ρ = some (.int k l) := by
 cases x with
 | none => simp [o8] at h; exact .inl ⟨rfl, h.symm⟩
 | some y =>
  have hy := hr y rfl
  simp only [Option.map, o8] at h
  split at h
  ·rename_i kk c hc
   simp at h
   rw [hc] at hy
   exact .inr ⟨kk, y, rfl, by simp [(c4 hy).1, h]⟩
  ·simp at h
theorem extract_mk (l : List UInt8) (a b : Nat) : (⟨l.toArray⟩ : ByteArray).extract a b = ⟨((l.take b).drop a).toArray⟩ := by
 apply ByteArray.ext
 apply Array.ext'
 have h := Lib.extract_data ⟨l.toArray⟩ a b
 show ((⟨l.toArray⟩ : ByteArray).extract a b).data.toList = _
 rw [h, List.drop_take]
theorem z5H (hP : u3 P = true) {o : Oper} {T : TypeId} {x i : Operand} {ρa : Operand → V} {K : V → Prop} (ho : o.op = .indexAddr T x i)
  (h : q2E P T (ρa x) (ρa i) K) : ∃ r, K r ∧ q0J P ρa o r := by
 unfold q2E at h
 obtain ⟨hi, h⟩ := h
 have pickup : ∀ {Γ : G} {ρ : Operand → Value}, (∀ y ∈ o.op.operands, q9 Γ (ρa y) (ρ y)) → q9 Γ (ρa x) (ρ x) ∧ ∃ k, ρ i = .int k (ρa i).toInt := by
  intro Γ ρ hr
  exact ⟨hr x (by rw [ho]; simp [Op.operands]), z17 hi (hr i (by rw [ho]; simp [Op.operands]))⟩
 split at h
 ·rename_i eb e k q lo n cp eb' e' ht hx
  obtain ⟨rfl, rfl, h0, h1, hK⟩ := h
  refine ⟨_, hK, fun Γ w ρ hr => ?_⟩
  obtain ⟨hxr, ki, hiv⟩ := pickup hr
  rw [hx] at hxr
  rcases q0x hxr with ⟨_, rfl, _⟩ | ⟨b, τ0, o0, m, cap, a, a1, a2, a3, hv, a4, a5, a6, a7, a8, a9⟩
  ·omega
  have ha : a = some ⟨b, o0 + lo * e'.size, none⟩ := by rcases a4 with a4 | a4 <;> first | omega | exact a4
  subst ha
  refine ⟨_, ?_, q2C a1 (q5W a2 (show (Ty.arr m e').child (lo + (ρa i).toInt.toNat) = some ((lo + (ρa i).toInt.toNat) * e'.size, e') by simp only [Ty.child]; rw [if_pos (by omega)]))⟩
  unfold execOp
  simp only [ho, hv, hiv, Sem.run_bind, run_indexAt_slice hP ht h0 (show (ρa i).toInt < n by omega), Result.andThen_ok, Sem.run_pure]
  rw [Nat.add_mul, Nat.add_assoc]
 ·rename_i eb e _ ht hns
  split at h
  ·rename_i eb' e' cs hx
   obtain ⟨rfl, rfl, h0, h1, hK⟩ := h
   refine ⟨_, hK, fun Γ w ρ hr => ?_⟩
   obtain ⟨hxr, ki, hiv⟩ := pickup hr
   obtain ⟨a, n, cap, hv, hl, _, _, _, hc⟩ := q00 hxr hx
   obtain ⟨b, off, l, rfl, hb, hs, hce⟩ := y3H hc (i := (ρa i).toInt.toNat) (by omega)
   refine ⟨_, ?_, q02 hb hs hce⟩
   unfold execOp
   simp only [ho, hv, hiv, Sem.run_bind, run_indexAt_slice hP ht h0 (show (ρa i).toInt < n by omega), Result.andThen_ok, Sem.run_pure]
  ·exact h.elim
 ·rename_i n e k q τ ht hx
  obtain ⟨rfl, h0, h1, hK⟩ := h
  refine ⟨_, hK, fun Γ w ρ hr => ?_⟩
  obtain ⟨hxr, ki, hiv⟩ := pickup hr
  rw [hx] at hxr
  obtain ⟨b, τ0, o0, g1, g2, g3⟩ := q0e hxr
  refine ⟨_, ?_, q2C g1 (q5W g2 (z16 h0 h1))⟩
  unfold execOp
  simp only [ho, g3, hiv, Sem.run_bind, q70 hP ht h0 h1, Result.andThen_ok, Sem.run_pure]
 ·rename_i n e τ c ht hx
  obtain ⟨rfl, h0, h1, hK⟩ := h
  refine ⟨_, hK, fun Γ w ρ hr => ?_⟩
  obtain ⟨hxr, ki, hiv⟩ := pickup hr
  rw [hx] at hxr
  obtain ⟨b, off, l, g1, g2, g3, g4⟩ := q54 hxr
  obtain ⟨_, q2, q3⟩ := g4.get (z16 h0 h1)
  rw [k8 _ _ _ g3] at q2
  rw [c8 _ _ _ _ _ q2] at q3
  refine ⟨_, ?_, q02 g2 (by omega) q3⟩
  unfold execOp
  simp only [ho, g1, hiv, Sem.run_bind, q70 hP ht h0 h1, Result.andThen_ok, Sem.run_pure]
 ·exact h.elim
theorem y0U (hP : u3 P = true) {T : TypeId} {n eb : Nat} {e : Ty} (h : z1b P T = some (n, eb, e)) :
  ∃ A E, (P.underlying T = some (.pointer A) ∧ P.underlying A = some (.array n E) ∨ P.underlying T = some (.array n E)) ∧ eb = P.bytesOf E ∧ e = tyF P 11 E ∧ E < P.types.size := by
 unfold z1b at h
 split at h
 ·rename_i A hT
  split at h
  ·rename_i n' E hA
   split at h
   ·rename_i hlt
    simp at h
    obtain ⟨rfl, rfl, rfl⟩ := h
    have hok := q3a hP hlt
    unfold okT at hok
    simp only [hA] at hok
    simp at hok
    exact ⟨A, E, .inl ⟨hT, hA⟩, rfl, rfl, hok.2⟩
   ·cases h
  ·cases h
 ·rename_i n' E hT
  split at h
  ·rename_i hlt
   simp at h
   obtain ⟨rfl, rfl, rfl⟩ := h
   have hok := q3a hP hlt
   unfold okT at hok
   simp only [hT] at hok
   simp at hok
   exact ⟨T, E, .inr hT, rfl, rfl, hok.2⟩
  ·cases h
 ·cases h
theorem z7F (hP : u3 P = true) {T A E : TypeId} {n : Nat} (hT : P.underlying T = some (.pointer A) ∧ P.underlying A = some (.array n E) ∨ P.underlying T = some (.array n E)) (hE : E < P.types.size) {b off l h : Nat} {lo hi : Option Value}
  (b1 : lo = none ∧ l = 0 ∨ ∃ k, lo = some (.int k l)) (b2 : hi = none ∧ h = n ∨ ∃ k, hi = some (.int k h)) (h1 : l ≤ h) (h2 : h ≤ n) (w : World) :
  (Instr.sliceAt T (.pointer (some ⟨b, off, none⟩)) lo hi none).run P w = .ok (.slice (some (if n = l then ⟨b, off, none⟩ else ⟨b, off + l * P.cellsOf E, none⟩)) (h - l) (n - l)) w := by
 have hz := q0n (f := 0) hP (w := w) hE
 rw [b8 hP] at hz
 rcases hT with ⟨hT, hA⟩ | hT
 ·simp only [Instr.sliceAt, Sem.run_bind, run_underlying hT, Result.andThen_ok, Instr.slice]
  simp [asAddr, run_underlying hA, q2T b1 b2 h1 h2, hz, addr_add]
 ·simp only [Instr.sliceAt, Sem.run_bind, run_underlying hT, Result.andThen_ok]
  simp [Instr.sureAddr, q2T b1 b2 h1 h2, hz, addr_add]
theorem y2a (hP : u3 P = true) {o : Oper} {T : TypeId} {x : Operand} {lo hi mx : Option Operand} {ρa : Operand → V} {K : V → Prop} (ho : o.op = .slice T x lo hi mx)
  (h : q7d P T (ρa x) (lo.map ρa) (hi.map ρa) (mx.map ρa) K) : ∃ r, K r ∧ q0J P ρa o r := by
 have ops : ∀ {Γ : G} {ρ : Operand → Value}, (∀ y ∈ o.op.operands, q9 Γ (ρa y) (ρ y)) →
   q9 Γ (ρa x) (ρ x) ∧ (∀ y, lo = some y → q9 Γ (ρa y) (ρ y)) ∧ (∀ y, hi = some y → q9 Γ (ρa y) (ρ y)) ∧ (∀ y, mx = some y → q9 Γ (ρa y) (ρ y)) := by
  intro Γ ρ hr
  rw [ho] at hr
  refine ⟨hr x (by simp [Op.operands]), fun y e => hr y ?_, fun y e => hr y ?_, fun y e => hr y ?_⟩ <;> subst e <;> simp [Op.operands]
 have lohi : ∀ {Γ : G} {ρ : Operand → Value} {l hh n : Int}, (∀ y, lo = some y → q9 Γ (ρa y) (ρ y)) → (∀ y, hi = some y → q9 Γ (ρa y) (ρ y)) → o8 (lo.map ρa) 0 = some l → o8 (hi.map ρa) n = some hh → 0 ≤ l → l ≤ hh → 0 ≤ n →
   (lo.map ρ = none ∧ l.toNat = 0 ∨ ∃ k, lo.map ρ = some (.int k (l.toNat : Int))) ∧ (hi.map ρ = none ∧ hh.toNat = n.toNat ∨ ∃ k, hi.map ρ = some (.int k (hh.toNat : Int))) := by
  intro Γ ρ l hh n h1 h2 h3 h4 h5 h6 _
  refine ⟨?_, ?_⟩
  ·rcases q2Q h3 h1 with ⟨rfl, rfl⟩ | ⟨k, y, rfl, hy⟩
   ·exact .inl ⟨rfl, rfl⟩
   ·exact .inr ⟨k, by rw [hy, Int.toNat_of_nonneg h5]⟩
  ·rcases q2Q h4 h2 with ⟨rfl, rfl⟩ | ⟨k, y, rfl, hy⟩
   ·exact .inl ⟨rfl, rfl⟩
   ·exact .inr ⟨k, by rw [hy, Int.toNat_of_nonneg (by omega)]⟩
 unfold q7d at h
 split at h
 ·rename_i ht
  obtain ⟨hx, hmx, h⟩ := h
  obtain ⟨c, ex⟩ := V.q4k hx
  split at h
  ·rename_i l hh hl hhi
   obtain ⟨h0, h1, h2, hK⟩ := h
   refine ⟨_, hK, fun Γ w ρ hr => ?_⟩
   obtain ⟨r1, r2, r3, _⟩ := ops hr
   have hmx' : mx = none := by cases mx <;> simp at hmx ⊢
   obtain ⟨b1, b2⟩ := lohi r2 r3 hl hhi h0 h1 (by omega)
   rw [ex] at r1
   obtain ⟨hv, _, hlen⟩ := W1 r1
   have hts : (ρa x).toStr = c.toStr := by rw [ex]; rfl
   rw [hts] at h2 b2 ⊢
   refine ⟨.string ⟨(((c.toStr.take hh.toNat).drop l.toNat)).toArray⟩, ?_, q0Z (by simp; omega)⟩
   have hu := q5Y ht
   have hsz : (⟨c.toStr.toArray⟩ : ByteArray).size = c.toStr.length := by simp [ByteArray.size]
   unfold execOp
   simp only [ho, hv, Instr.sliceAt, Sem.run_bind, run_underlying hu, Result.andThen_ok, hmx', Option.map_none, Instr.slice]
   simp only [Option.isSome_none, Bool.false_eq_true, if_false, Sem.run_bind, Sem.run_pure, Result.andThen_ok, Sem.run_ite]
   rw [q2T (n := (⟨c.toStr.toArray⟩ : ByteArray).size) (l := l.toNat) (h := hh.toNat) b1 (by rw [hsz]; simpa using b2) (by omega) (by rw [hsz]; omega)]
   simp [extract_mk]
  ·exact h.elim
 ·rename_i eb e ht
  obtain ⟨E, hu, rfl, _, hE⟩ := q01 hP ht
  -- the run, for whatever slice value
  have run1 : ∀ {Γ : G} {w : World} {ρ : Operand → Value} {l hh : Int} {a : Option Addr} {n cap : Nat}, (∀ y, lo = some y → q9 Γ (ρa y) (ρ y)) → (∀ y, hi = some y → q9 Γ (ρa y) (ρ y)) →
    o8 (lo.map ρa) 0 = some l → o8 (hi.map ρa) (n : Int) = some hh → 0 ≤ l → l ≤ hh → hh ≤ cap → mx = none → ρ x = .slice a n cap →
    (execOp ρ o).run P w = .ok (.value (.slice (if cap = l.toNat then a else a.map (·.add (l.toNat * (tyF P 11 E).size))) (hh.toNat - l.toNat) (cap - l.toNat))) w := by
   intro Γ w ρ l hh a n cap r2 r3 hl hhi h0 h1 h2 hmx hv
   obtain ⟨b1, b2⟩ := lohi r2 r3 hl hhi h0 h1 (by omega)
   unfold execOp
   simp only [ho, hv, Instr.sliceAt, Sem.run_bind, run_underlying hu, Result.andThen_ok, hmx, Option.map_none, Instr.slice]
   rw [q2T (n := n) (l := l.toNat) (h := hh.toNat) b1 (by simpa using b2) (by omega) (by omega)]
   simp [q0n (f := 11) hP (w := w) hE]
  have run3 : ∀ {Γ : G} {w : World} {ρ : Operand → Value} {l hh m : Int} {a : Option Addr} {n cap : Nat}, (∀ y, lo = some y → q9 Γ (ρa y) (ρ y)) → (∀ y, hi = some y → q9 Γ (ρa y) (ρ y)) → (∀ y, mx = some y → q9 Γ (ρa y) (ρ y)) →
    o8 (lo.map ρa) 0 = some l → o8 (hi.map ρa) (n : Int) = some hh → o8 (mx.map ρa) 0 = some m → mx.isSome = true → hi.isSome = true → 0 ≤ l → l = hh → hh = m → m ≤ cap → ρ x = .slice a n cap →
    (execOp ρ o).run P w = .ok (.value (.slice a 0 0)) w := by
   intro Γ w ρ l hh m a n cap r2 r3 r4 hl hhi hm hmx hhs h0 h1 h2 h3 hv
   subst h1; subst h2
   obtain ⟨b1, b2⟩ := lohi r2 r3 hl hhi h0 (Int.le_refl _) (by omega)
   obtain ⟨y, rfl⟩ := Option.isSome_iff_exists.1 hmx
   obtain ⟨z, rfl⟩ := Option.isSome_iff_exists.1 hhs
   have b3 : ∃ k, ρ y = .int k (l.toNat : Int) := by
    rcases q2Q hm r4 with ⟨h, _⟩ | ⟨k, y', _, hy⟩
    ·cases h
    ·exact ⟨k, by simpa [Int.toNat_of_nonneg h0] using hy⟩
   obtain ⟨km, hkm⟩ := b3
   have b2' : ∃ k, (some z).map ρ = some (.int k (l.toNat : Int)) := by
    rcases b2 with ⟨h, _⟩ | h
    ·cases h
    ·exact h
   unfold execOp
   simp only [ho, hv, Instr.sliceAt, Sem.run_bind, run_underlying hu, Result.andThen_ok, Instr.slice]
   rw [show Option.map ρ (some y) = some (.int km (l.toNat : Int)) by simp [hkm]]
   rw [q7n (n := n) (l := l.toNat) (h := l.toNat) (m := l.toNat) b1 b2' (Nat.le_refl _) (Nat.le_refl _) (by omega)]
   simp [q0n (f := 11) hP (w := w) hE]
  split at h
  ·rename_i k q lo0 n cp eb' e' hx
   obtain ⟨rfl, rfl, h⟩ := h
   split at h
   ·rename_i l hh hl hhi hmx
    obtain ⟨h0, h1, h2, hK⟩ := h
    refine ⟨_, hK, fun Γ w ρ hr => ?_⟩
    obtain ⟨r1, r2, r3, _⟩ := ops hr
    rw [hx] at r1
    have hmx' : mx = none := by cases mx <;> simp at hmx ⊢
    rcases q0x r1 with ⟨rfl, rfl, a, hv⟩ | ⟨b, τ0, o0, m, cap, a, a1, a2, a3, hv, a4, a5, a6, a7, a8, a9⟩
    ·have z1 : l = 0 := by omega
     have z2 : hh = 0 := by omega
     refine ⟨_, run1 r2 r3 hl hhi h0 h1 (by omega) hmx' hv, ?_⟩
     subst z1; subst z2
     exact z2X
    have e1 : hh.toNat - l.toNat = (hh - l).toNat := by omega
    refine ⟨_, run1 r2 r3 hl hhi h0 h1 (by omega) hmx' hv, ?_⟩
    rw [e1]
    refine q9E a1 a2 (by omega) ?_ (by omega) (by omega) (Nat.le_trans (Nat.mul_le_mul_right _ (by omega)) a7) ?_ ?_
    ·by_cases hc : cap = l.toNat
     ·exact .inl (by omega)
     ·refine .inr ?_
      rw [if_neg hc]
      rcases a4 with a4 | a4
      ·omega
      ·rw [a4]; simp [addr_add, Nat.add_mul, Nat.add_assoc]
    ·intro c hc
     cases cp with
     | none => simp at hc
     | some c0 => simp at hc; have := a8 c0 rfl; omega
    ·intro hc
     have hcp : cp = none := by cases cp <;> simp at hc ⊢
     rcases a9 hcp with a9 | ⟨sz, b1, b2⟩
     ·exact .inl (by omega)
     ·refine .inr ⟨sz, b1, ?_⟩
      have : lo0 + l.toNat + (cap - l.toNat) = lo0 + cap := by omega
      rw [this]; exact b2
   ·rename_i l hh m hl hhi hmx
    obtain ⟨k2, h⟩ := h
    split at h
    ·rename_i mm hmm
     obtain ⟨h0, h1, h2, h3, hK⟩ := h
     refine ⟨_, hK, fun Γ w ρ hr => ?_⟩
     obtain ⟨r1, r2, r3, r4⟩ := ops hr
     rw [hx] at r1
     rcases q0x r1 with ⟨rfl, rfl, a, hv⟩ | ⟨b, τ0, o0, m', cap, a, a1, a2, a3, hv, a4, a5, a6, a7, a8, a9⟩
     ·exact ⟨_, run3 (w := w) r2 r3 r4 hl hhi (hmx ▸ hmm) (by cases mx <;> simp at hmx ⊢) (by simpa using k2) h0 h1 h2 (by omega) hv, q2D⟩
     exact ⟨_, run3 (w := w) r2 r3 r4 hl hhi (hmx ▸ hmm) (by cases mx <;> simp at hmx ⊢) (by simpa using k2) h0 h1 h2 (by omega) hv, q2D⟩
    ·exact h.elim
   ·exact h.elim
  ·split at h
   ·rename_i eb' e' cs hx
    obtain ⟨rfl, rfl, h⟩ := h
    split at h
    ·rename_i l hh hl hhi hmx
     obtain ⟨h0, h1, h2, hK⟩ := h
     refine ⟨_, hK, fun Γ w ρ hr => ?_⟩
     obtain ⟨r1, r2, r3, _⟩ := ops hr
     obtain ⟨a, n, cap, hv, hlen, hnc, hcm, hnb, hm⟩ := q00 r1 hx
     rw [hlen] at hhi
     have hmx' : mx = none := by cases mx <;> simp at hmx ⊢
     refine ⟨_, run1 r2 r3 hl hhi h0 h1 (by omega) hmx' hv, ?_⟩
     exact q1o (z3p hm (by omega) (by omega))
    ·rename_i l hh m hl hhi hmx
     obtain ⟨k2, h⟩ := h
     split at h
     ·rename_i mm hmm
      obtain ⟨h0, h1, h2, h3, hK⟩ := h
      refine ⟨_, hK, fun Γ w ρ hr => ?_⟩
      obtain ⟨r1, r2, r3, r4⟩ := ops hr
      obtain ⟨a, n, cap, hv, hlen, hnc, hcm, hnb, hm⟩ := q00 r1 hx
      rw [hlen] at hhi
      exact ⟨_, run3 (w := w) r2 r3 r4 hl hhi (hmx ▸ hmm) (by cases mx <;> simp at hmx ⊢) (by simpa using k2) h0 h1 h2 (by omega) hv, q2D⟩
     ·exact h.elim
    ·exact h.elim
   ·exact h.elim
 ·split at h
  ·rename_i n eb e hpa
   obtain ⟨hnb, hnm, hmx, h⟩ := h
   have hmx' : mx = none := by cases mx <;> simp at hmx ⊢
   obtain ⟨A, E, hT, rfl, rfl, hE⟩ := y0U hP hpa
   split at h
   ·rename_i l hh hl hhi
    obtain ⟨h0, h1, h2, h⟩ := h
    have arr : ∀ {Γ : G} {w : World} {ρ : Operand → Value} {b off : Nat}, (∀ y, lo = some y → q9 Γ (ρa y) (ρ y)) → (∀ y, hi = some y → q9 Γ (ρa y) (ρ y)) → ρ x = .pointer (some ⟨b, off, none⟩) →
      (execOp ρ o).run P w = .ok (.value (.slice (some (if n = l.toNat then ⟨b, off, none⟩ else ⟨b, off + l.toNat * (tyF P 11 E).size, none⟩)) (hh.toNat - l.toNat) (n - l.toNat))) w := by
     intro Γ w ρ b off r2 r3 hv
     obtain ⟨b1, b2⟩ := lohi r2 r3 hl hhi h0 h1 (by omega)
     rw [Int.toNat_natCast] at b2
     unfold execOp
     simp only [ho, hv, hmx', Option.map_none, Sem.run_bind, z7F hP hT hE b1 b2 (show l.toNat ≤ hh.toNat by omega) (show hh.toNat ≤ n by omega), Result.andThen_ok, Sem.run_pure, b8 hP]
    have e1 : hh.toNat - l.toNat = (hh - l).toNat := by omega
    split at h
    ·rename_i k q τ hx
     obtain ⟨rfl, hK⟩ := h
     refine ⟨_, hK, fun Γ w ρ hr => ?_⟩
     obtain ⟨r1, r2, r3, _⟩ := ops hr
     rw [hx] at r1
     obtain ⟨b, τ0, o0, g1, g2, g3⟩ := q0e r1
     refine ⟨_, arr r2 r3 g3, ?_⟩
     rw [e1]
     refine q9E g1 g2 (by omega) ?_ (by omega) (by omega) (Nat.le_trans (Nat.mul_le_mul_right _ (by omega)) hnb) (fun c hc => by simpa using hc) (fun hc => by cases hc)
     by_cases hc : n = l.toNat
     ·exact .inl (by omega)
     ·right; rw [if_neg hc]
    ·rename_i τ c hx
     obtain ⟨rfl, hK⟩ := h
     refine ⟨_, hK, fun Γ w ρ hr => ?_⟩
     obtain ⟨r1, r2, r3, _⟩ := ops hr
     rw [hx] at r1
     obtain ⟨b, off, ll, g1, g2, g3, g4⟩ := q54 r1
     refine ⟨_, arr r2 r3 g1, ?_⟩
     have hfull : y4 Γ.H (.slice (P.bytesOf E) (tyF P 11 E)) [.slice (some ⟨b, off, none⟩) n n] (.slice c.elems) := by
      simp only [y4] at g4
      obtain ⟨cs, rfl, q1, q2, q3, q4⟩ := g4
      refine r6 q1 (Nat.le_refl _) hnm hnb (.inr ⟨b, off, ll, rfl, g2, by simpa [Ty.size] using g3, fun i c' hi => ?_⟩)
      have hi' : i < n := by rw [← q1]; exact (List.getElem?_eq_some_iff.1 hi).1
      have hle : (i + 1) * (tyF P 11 E).size ≤ n * (tyF P 11 E).size := Nat.mul_le_mul_right _ hi'
      rw [Nat.add_mul] at hle
      have := q4 i c' hi
      simp only [Ty.size] at this
      rw [c8 _ _ _ _ _ (by omega)] at this
      exact this
     have := z3p (l := l.toNat) (h := hh.toNat) hfull (by omega) (by omega)
     simp only [Option.map_some, addr_add] at this
     have e3 : (if n = l.toNat then some (⟨b, off, none⟩ : Addr) else some ⟨b, off + l.toNat * (tyF P 11 E).size, none⟩) = some (if n = l.toNat then ⟨b, off, none⟩ else ⟨b, off + l.toNat * (tyF P 11 E).size, none⟩) := by split <;> rfl
     rw [e3] at this
     exact q1o this
    ·exact h.elim
   ·exact h.elim
  ·exact h.elim
end
end Go.E
namespace Go.E
open Go
theorem C.y1K (a b : Int) : C.eqb (.int a) (.int b) = (a == b) := by
 rw [Bool.eq_iff_iff, C.q0b]; simp
theorem C.z9Y (a b : Bool) : C.eqb (.bool a) (.bool b) = (a == b) := by
 rw [Bool.eq_iff_iff, C.q0b]; simp
theorem C.y1J (a b : List UInt8) : C.eqb (.str a) (.str b) = (a == b) := by
 rw [Bool.eq_iff_iff, C.q0b]; simp
section
variable {P : Program}
theorem q5S : ∀ {f : Nat} {T : TypeId}, q1M P f T = true → ∃ g, f = g + 1 ∧ T < P.types.size ∧ (tyF P f T).known = true
 | 0, _, h => by simp [q1M] at h
 | f + 1, T, h => by
  simp only [q1M, Bool.and_eq_true, decide_eq_true_eq] at h
  refine ⟨f, rfl, h.1, ?_⟩
  unfold tyF
  rw [if_pos h.1]
  obtain ⟨_, h⟩ := h
  split at h <;> rename_i hu <;> first | (simp only [hu, Ty.known]; done) | (simp at h; done) | simp [hu, Ty.known]
def y3n (P : Program) (f d : Nat) (T : TypeId) : Prop :=
 ∀ (H H' : Hp) (a b : Value) (c c' : C) (w : World), y4 H (tyF P f T) a.cells.toList c → u7 a = (tyF P f T).isAgg → y4 H' (tyF P f T) b.cells.toList c' → u7 b = (tyF P f T).isAgg →
  (Op.equalIn d T a b).run P w = .ok (C.eqb c c') w
theorem q71 (hP : u3 P = true) {f d n : Nat} {E : TypeId} (ih : y3n P f d E) (hok : q1M P f E = true) {H H' : Hp} {xs ys : Array Value} {cs cs' : List C} {w : World}
  (hx : y4 H (.arr n (tyF P f E)) xs.toList (.agg cs)) (hy : y4 H' (.arr n (tyF P f E)) ys.toList (.agg cs')) : ∀ (is : List Nat), (∀ i ∈ is, i < n) →
  ∃ r, (Op.eqItems d E (P.cellsOf E) xs ys is).run P w = .ok r w ∧ (r = true ↔ ∀ i ∈ is, cs.getD i .nil = cs'.getD i .nil)
 | [], _ => ⟨true, by simp [Op.eqItems], by simp⟩
 | i :: is, hi => by
  obtain ⟨g, rfl, hE, hk⟩ := q5S hok
  obtain ⟨r', hr', hiff'⟩ := q71 hP ih hok hx hy is (fun j hj => hi j (by simp [hj]))
  have hin := hi i (by simp)
  have hch : (Ty.arr n (tyF P (g + 1) E)).child i = some (i * (tyF P (g + 1) E).size, tyF P (g + 1) E) := by simp only [Ty.child]; rw [if_pos hin]
  obtain ⟨_, b1, r1⟩ := hx.get hch
  obtain ⟨_, b2, r2⟩ := hy.get hch
  obtain ⟨u, p1, p2, p3⟩ := q21 (f := g) hP hE rfl hk (by simpa using b1) hx.one w
  obtain ⟨v, q1, q2, q3⟩ := q21 (f := g) hP hE rfl hk (by simpa using b2) hy.one w
  have heq := ih H H' u v _ _ w (p2 ▸ r1) p3 (q2 ▸ r2) q3
  rw [b8 hP] at p1 q1
  simp only [Op.eqItems, Sem.run_bind, p1, q1, heq, Result.andThen_ok, C.get]
  cases hc : C.eqb (cs.getD i .nil) (cs'.getD i .nil) with
  | false =>
   refine ⟨false, by simp, ?_⟩
   simp only [Bool.false_eq_true, false_iff]
   intro hall
   have := C.q0b.2 (hall i (by simp))
   rw [hc] at this; cases this
  | true =>
   refine ⟨r', by simpa using hr', ?_⟩
   rw [hiff']
   constructor
   ·intro h j hj
    rcases List.mem_cons.1 hj with rfl | hj
    ·exact C.q0b.1 hc
    ·exact h j hj
   ·intro h j hj; exact h j (by simp [hj])
theorem q7p (hP : u3 P = true) {f d : Nat} {H H' : Hp} {xs ys : Array Value} {w : World} : ∀ (gs : List Field) (cs cs' : List C), (∀ g ∈ gs, g.name ≠ "_" ∧ q1M P f g.type = true ∧ y3n P f d g.type) → q0K xs.toList → q0K ys.toList →
  k9 H (gs.map fun g => tyF P f g.type) (gs.map (·.offset)) xs.toList cs → k9 H' (gs.map fun g => tyF P f g.type) (gs.map (·.offset)) ys.toList cs' →
  ∃ r, (Op.eqFields d xs ys gs).run P w = .ok r w ∧ (r = true ↔ cs = cs')
 | [], cs, cs', _, _, _, hx, hy => by
  simp only [List.map_nil, k9] at hx hy
  subst hx; subst hy
  exact ⟨true, by simp [Op.eqFields], by simp⟩
 | g :: gs, cs, cs', hall, h1, h2, hx, hy => by
  simp only [List.map_cons, k9] at hx hy
  obtain ⟨c, cs, rfl, b1, r1, hx'⟩ := hx
  obtain ⟨c', cs', rfl, b2, r2, hy'⟩ := hy
  obtain ⟨hn, hok, ih⟩ := hall g (by simp)
  obtain ⟨r', hr', hiff'⟩ := q7p hP gs cs cs' (fun g hg => hall g (by simp [hg])) h1 h2 hx' hy' (w := w)
  obtain ⟨f', rfl, hE, hk⟩ := q5S hok
  obtain ⟨u, p1, p2, p3⟩ := q21 (f := f') hP hE rfl hk (by simpa using b1) h1 w
  obtain ⟨v, q1, q2, q3⟩ := q21 (f := f') hP hE rfl hk (by simpa using b2) h2 w
  have heq := ih H H' u v _ _ w (p2 ▸ r1) p3 (q2 ▸ r2) q3
  simp only [Op.eqFields, hn, ne_eq, not_false_eq_true, if_true, Sem.run_bind, p1, q1, heq, Result.andThen_ok]
  cases hc : C.eqb c c' with
  | false =>
   refine ⟨false, by simp, ?_⟩
   simp only [Bool.false_eq_true, false_iff]
   intro h
   have := C.q0b.2 (List.cons.inj h).1
   rw [hc] at this; cases this
  | true =>
   refine ⟨r', by simpa using hr', ?_⟩
   rw [hiff', C.q0b.1 hc]
   simp
theorem q4D (hP : u3 P = true) : ∀ (f d : Nat) (T : TypeId), q1M P f T = true → f ≤ d → y3n P f d T
 | 0, _, _, h, _ => by simp [q1M] at h
 | f + 1, 0, _, _, hd => by omega
 | f + 1, d + 1, T, h, hd => by
  intro H H' a b c c' w ra ha rb hb
  simp only [q1M, Bool.and_eq_true, decide_eq_true_eq] at h
  obtain ⟨hT, h⟩ := h
  have ho := q3a hP hT
  unfold okT at ho
  unfold tyF at ra ha rb hb
  rw [if_pos hT] at ra ha rb hb
  cases hu : P.underlying T with
  | none => simp [hu] at h
  | some kd =>
   cases kd <;> simp only [hu, Bool.false_eq_true] at h ra ha rb hb ho
   case bool =>
    rw [u4 (by simpa [Ty.isAgg] using ha)] at ra
    rw [u4 (by simpa [Ty.isAgg] using hb)] at rb
    simp only [y4] at ra rb
    obtain ⟨x, rfl, e1⟩ := ra
    obtain ⟨y, rfl, e2⟩ := rb
    simp at e1 e2; subst e1; subst e2
    simp [Op.equalIn, run_underlying hu, C.z9Y]
   case int k =>
    rw [u4 (by simpa [Ty.isAgg] using ha)] at ra
    rw [u4 (by simpa [Ty.isAgg] using hb)] at rb
    simp only [y4] at ra rb
    obtain ⟨x, rfl, e1, _⟩ := ra
    obtain ⟨y, rfl, e2, _⟩ := rb
    simp at e1 e2; subst e1; subst e2
    simp [Op.equalIn, run_underlying hu, C.y1K]
   case string =>
    rw [u4 (by simpa [Ty.isAgg] using ha)] at ra
    rw [u4 (by simpa [Ty.isAgg] using hb)] at rb
    simp only [y4] at ra rb
    obtain ⟨x, rfl, e1, _⟩ := ra
    obtain ⟨y, rfl, e2, _⟩ := rb
    simp at e1 e2; subst e1; subst e2
    simp [Op.equalIn, run_underlying hu, C.y1J, beq_toListBytes, ByteArray.toList_eq]
   case array n E =>
    simp [Ty.isAgg] at ha hb
    cases a <;> simp [u7] at ha
    cases b <;> simp [u7] at hb
    rename_i xs ys
    simp only [Value.cells] at ra rb
    have ra' := ra
    have rb' := rb
    simp only [y4] at ra' rb'
    obtain ⟨cs, rfl, l1, _⟩ := ra'
    obtain ⟨cs', rfl, l2, _⟩ := rb'
    simp at ho
    obtain ⟨i, hi⟩ : ∃ i, P.info? E = some i := by
     cases hi : P.info? E with
     | none => simp [Tables.info?, ho.2] at hi
     | some i => exact ⟨i, rfl⟩
    obtain ⟨r, hr, hiff⟩ := q71 hP (q4D hP f d E h (by omega)) h ra rb (List.range n) (fun i hi => List.mem_range.1 hi) (w := w)
    rw [run_equalIn_array w d xs ys hu hi, hr]
    congr 1
    rw [Bool.eq_iff_iff, hiff, C.q0b]
    constructor
    ·intro hall
     congr 1
     refine List.ext_getElem (by omega) fun j h1 h2 => ?_
     have := hall j (List.mem_range.2 (by omega))
     simpa [List.getD, List.getElem?_eq_getElem h1, List.getElem?_eq_getElem h2] using this
    ·intro h _ _; cases h; rfl
   case struct fs =>
    simp [Ty.isAgg] at ha hb
    cases a <;> simp [u7] at ha
    cases b <;> simp [u7] at hb
    rename_i xs ys
    simp only [Value.cells] at ra rb
    simp only [y4] at ra rb
    obtain ⟨cs, rfl, _, o1, f1⟩ := ra
    obtain ⟨cs', rfl, _, o2, f2⟩ := rb
    simp only [Bool.and_eq_true, Bool.not_eq_true', List.all_eq_true, bne_iff_ne, ne_eq] at h
    have hfs : P.fieldsOf T = fs := by simp [Program.fieldsOf, hu]
    obtain ⟨r, hr, hiff⟩ := q7p hP (f := f) (d := d) fs.toList cs cs' (fun g hg => ⟨(h.2 g hg).1, (h.2 g hg).2, q4D hP f d g.type (h.2 g hg).2 (by omega)⟩) o1 o2 f1 f2 (w := w)
    rw [run_equalIn_struct w d T xs ys (by rw [hfs]; exact hu) h.1, hfs, hr]
    congr 1
    rw [Bool.eq_iff_iff, hiff, C.q0b]
    simp
theorem z0e (hP : u3 P = true) {T : TypeId} (h : H3 P T = true) {H H' : Hp} {a b : Value} {c c' : C} (w : World) (ra : y4 H (ty P T) a.cells.toList c) (ha : u7 a = (ty P T).isAgg)
  (rb : y4 H' (ty P T) b.cells.toList c') (hb : u7 b = (ty P T).isAgg) : (Op.equal T a b).run P w = .ok (C.eqb c c') w := by
 unfold H3 at h
 simp only [Bool.and_eq_true] at h
 exact q4D hP 12 10000 T h.1 (by decide) H H' a b c c' w ra ha rb hb
theorem z7C (hP : u3 P = true) {o : Oper} {op : BinOp} {T T2 : TypeId} {x y : Operand} {ρa : Operand → V} {K : V → Prop} {τ : Ty} (ho : o.op = .binOp op T x y T2) (ht : ty P T = τ) (ha : τ.isAgg = true)
  (hok : H3 P T = true) (hx : (ρa x).Z1 τ) (hy : (ρa y).Z1 τ)
  (h : q38 op (C.eqb (ρa x).toC (ρa y).toC) K) : ∃ r, K r ∧ q0J P ρa o r := by
 subst ht
 obtain ⟨cx, ex⟩ : ∃ c, ρa x = .d (ty P T) c := by cases hv : ρa x <;> simp [hv, V.Z1] at hx; subst hx; exact ⟨_, rfl⟩
 obtain ⟨cy, ey⟩ : ∃ c, ρa y = .d (ty P T) c := by cases hv : ρa y <;> simp [hv, V.Z1] at hy; subst hy; exact ⟨_, rfl⟩
 have hg : P.eqGuardType P.depth T = false := by
  unfold H3 at hok
  simp only [Bool.and_eq_true, Bool.not_eq_true'] at hok
  exact hok.2
 rw [ex, ey] at h
 simp only [V.toC] at h
 have guard : ∀ (a b : Value) (w : World), (∃ Γ, q9 Γ (ρa x) a ∧ q9 Γ (ρa y) b) → (eqGuard op T x y a b).run P w = .ok () w := by
  rintro a b w ⟨Γ, h1, h2⟩
  rw [ex] at h1; rw [ey] at h2
  obtain ⟨_, h1⟩ := Q4.1 h1
  obtain ⟨_, h2⟩ := Q4.1 h2
  rw [ha] at h1 h2
  cases a <;> simp [u7] at h1
  cases b <;> simp [u7] at h2
  exact run_eqGuard_agg w op T x y _ _ hg
 have eqr : ∀ (Γ : G) (w : World) (a b : Value), q9 Γ (ρa x) a → q9 Γ (ρa y) b → (∃ xs, a = .agg xs) ∧ (∃ ys, b = .agg ys) ∧ (Op.equal T a b).run P w = .ok (C.eqb cx cy) w := by
  intro Γ w a b h1 h2
  rw [ex] at h1; rw [ey] at h2
  obtain ⟨r1, h1⟩ := Q4.1 h1
  obtain ⟨r2, h2⟩ := Q4.1 h2
  have := z0e hP hok w r1 h1 r2 h2
  rw [ha] at h1 h2
  cases a <;> simp [u7] at h1
  cases b <;> simp [u7] at h2
  exact ⟨⟨_, rfl⟩, ⟨_, rfl⟩, this⟩
 unfold q38 at h
 split at h
 ·refine ⟨_, h, q0J.q05 ho guard fun Γ w a b h1 h2 => ?_⟩
  obtain ⟨⟨xs, rfl⟩, ⟨ys, rfl⟩, e⟩ := eqr Γ w a b h1 h2
  exact ⟨_, by simp [binOp, e], s6⟩
 ·refine ⟨_, h, q0J.q05 ho guard fun Γ w a b h1 h2 => ?_⟩
  obtain ⟨⟨xs, rfl⟩, ⟨ys, rfl⟩, e⟩ := eqr Γ w a b h1 h2
  exact ⟨_, by simp [binOp, e], s6⟩
 ·exact h.elim
theorem q78 {x : V} {r : Option Bool} (h : x.z6b = some r) {Γ : G} {v : Value} (hr : q9 Γ x v) : ∃ a n cap, v = .slice a n cap ∧ ∀ b, r = some b → a.isNone = b := by
 cases x <;> simp only [V.z6b, reduceCtorEq] at h
 case nilc => cases h; exact ⟨none, 0, 0, X7 hr, fun b e => by cases e; rfl⟩
 case emp eb e =>
  cases h
  obtain ⟨h1, _⟩ := (s5 rfl rfl).1 hr
  simp only [q8] at h1
  obtain ⟨a, h1⟩ := h1
  simp at h1
  exact ⟨a, 0, 0, h1, fun b e => by cases e⟩
 case d τ c =>
  split at h
  ·rename_i eb e
   cases h
   obtain ⟨h1, h2⟩ := Q4.1 hr
   rw [u4 (by simpa [Ty.isAgg] using h2)] at h1
   obtain ⟨a, n, cap, e1, e2, e3, _, _, _, e7⟩ := J9 h1
   simp at e1
   refine ⟨a, n, cap, e1, fun b hb => ?_⟩
   cases hc : c.elems with
   | nil => rw [hc] at hb; simp at hb
   | cons y ys =>
    rw [hc] at hb e3; simp at hb
    rcases e7 with e7 | ⟨b', off, l, rfl, _⟩
    ·simp at e3; omega
    ·rw [hb]; rfl
  ·cases h
 case sl eb e cs t =>
  cases h
  obtain ⟨h1, _⟩ := (s5 rfl rfl).1 hr
  simp only [q8] at h1
  obtain ⟨a, n, cap, e1, h1, _⟩ := h1
  simp at e1
  obtain ⟨a', n', cap', e1', e2, e3, _, _, _, e7⟩ := J9 h1
  simp at e1'
  obtain ⟨rfl, rfl, rfl⟩ := e1'
  simp only [C.elems] at e3
  refine ⟨a, n, cap, e1, fun b hb => ?_⟩
  cases cs with
  | nil => simp at hb
  | cons y ys =>
   simp at hb
   rcases e7 with e7 | ⟨b', off, l, rfl, _⟩
   ·simp at e3; omega
   ·rw [hb]; rfl
 case sr k q lo n cp eb e =>
  cases h
  obtain ⟨h1, _⟩ := (s5 rfl rfl).1 hr
  simp only [q8] at h1
  rcases h1 with ⟨_, rfl, a, e1⟩ | ⟨b0, τ0, o, m, cap, _, _, _, ⟨a, e1, h4⟩, h5, _⟩
  ·simp at e1
   exact ⟨a, 0, 0, e1, fun b hb => by simp at hb⟩
  simp at e1
  refine ⟨a, n, cap, e1, fun b hb => ?_⟩
  by_cases hn : n = 0
  ·subst hn; simp at hb
  ·have : (n == 0) = false := by simpa using hn
   rw [this] at hb
   simp at hb
   rcases h4 with h4 | rfl
   ·omega
   ·rw [hb]; rfl
theorem q7o {T : TypeId} {eb : Nat} {e : Ty} (hP : u3 P = true) (hT : ty P T = .slice eb e) (a : Option Addr) (n cap : Nat) (w : World) :
  (Op.equal T (.slice a n cap) (.slice none 0 0)).run P w = .ok a.isNone w := by
 obtain ⟨E, hu, _⟩ := q01 hP hT
 unfold Op.equal Op.maxDepth
 rw [show (10000 : Nat) = 9999 + 1 from rfl, Op.equalIn, Sem.run_bind, run_underlying hu]
 cases a <;> rfl
theorem z9m {Γ : G} {r : Option Bool} {b : Bool} (h : ∀ c, r = some c → b = c) : q9 Γ (q5r r) (.bool b) := by
 cases r with
 | none =>
  refine (u0 (x := .top .bool) rfl).2 ⟨?_, rfl⟩
  simp only [q8]
  exact ⟨rfl, fun v hv => by simp [Value.cells] at hv; subst hv; rfl, fun _ => ⟨b, rfl⟩⟩
 | some c => rw [h c rfl]; exact s6
theorem y0T (hP : u3 P = true) {o : Oper} {op : BinOp} {T T2 : TypeId} {x y : Operand} {ρa : Operand → V} {K : V → Prop} (ho : o.op = .binOp op T x y T2)
  (h : z2h P op T (ρa x) (ρa y) K) : ∃ r, K r ∧ q0J P ρa o r := by
 unfold z2h at h
 split at h
 ·rename_i k hk
  obtain ⟨hx, h⟩ := h
  obtain ⟨cx, ex⟩ := V.q5t hx
  split at h
  ·rename_i hs
   obtain ⟨hy, h⟩ := h
   cases hyv : ρa y <;> simp only [hyv, V.Z7] at hy
   rename_i τ cy
   cases τ <;> simp only at hy
   rename_i ky
   rw [hyv, ex] at h
   simp only [V.toInt] at h
   cases op <;> simp [BinOp.q3J] at hs <;> simp only [q9y] at h
   ·refine ⟨_, h.2, q0J.q05 ho (fun a b w ⟨Γ, ha, hb⟩ => ?_) fun Γ w a b ha hb => ?_⟩
    ·rw [ex] at ha; rw [hyv] at hb; rw [(c4 ha).1, (c4 hb).1]; rw [q7N]; rfl
    ·rw [ex] at ha; rw [hyv] at hb
     obtain ⟨rfl, _⟩ := c4 ha
     obtain ⟨rfl, _⟩ := c4 hb
     exact ⟨_, by simp only [binOp, Op.shift]; rw [if_neg (by omega)]; rfl, r9 (wrap_within k _).1 (wrap_within k _).2⟩
   ·refine ⟨_, h.2, q0J.q05 ho (fun a b w ⟨Γ, ha, hb⟩ => ?_) fun Γ w a b ha hb => ?_⟩
    ·rw [ex] at ha; rw [hyv] at hb; rw [(c4 ha).1, (c4 hb).1]; rw [q7N]; rfl
    ·rw [ex] at ha; rw [hyv] at hb
     obtain ⟨rfl, _, ha1, ha2⟩ := c4 ha
     obtain ⟨rfl, _⟩ := c4 hb
     exact ⟨_, by simp only [binOp, Op.shift]; rw [if_neg (by omega)]; rfl, r9 (z4Z _ ha1 ha2).1 (z4Z _ ha1 ha2).2⟩
  ·rename_i hs
   obtain ⟨hy, h⟩ := h
   obtain ⟨cy, ey⟩ := V.q5t hy
   by_cases hin : k.min ≤ cx.toInt ∧ cx.toInt ≤ k.max
   ·rw [ex, ey] at h
    obtain ⟨r, hK, hr⟩ := z9J (by simpa using hs) h T hin (P := P)
    refine ⟨r, hK, q0J.q05 ho (fun a b w ⟨Γ, ha, hb⟩ => ?_) fun Γ w a b ha hb => ?_⟩
    ·rw [ex] at ha; rw [ey] at hb; rw [(c4 ha).1, (c4 hb).1]; rw [q7N]; rfl
    ·rw [ex] at ha; rw [ey] at hb
     obtain ⟨rfl, _⟩ := c4 ha
     obtain ⟨rfl, _⟩ := c4 hb
     exact hr Γ w
   ·-- no value is so: nothing to show
    have hno : ∀ (Γ : G) (w : World) (a : Value), ¬ q9 Γ (ρa x) a := by
     intro Γ w a ha
     rw [ex] at ha
     exact hin (c4 ha).2.2
    have hK : ∃ r, K r := by
     rw [ex, ey] at h
     cases op <;> simp only [q4X, V.toInt] at h <;> first | exact ⟨_, h⟩ | exact ⟨_, h.2⟩ | exact h.elim
    obtain ⟨r, hK⟩ := hK
    exact ⟨r, hK, q0J.q05 ho (fun a b w ⟨Γ, ha, _⟩ => (hno Γ w a ha).elim) fun Γ w a b ha _ => (hno Γ w a ha).elim⟩
 ·rename_i hk
  obtain ⟨hx, hy, h⟩ := h
  obtain ⟨cx, ex⟩ := V.q8h hx
  obtain ⟨cy, ey⟩ := V.q8h hy
  have hu := y6V hk
  rw [ex, ey] at h
  simp only [V.toBool] at h
  have heq : ∀ (a b : Bool) (w : World), (Op.equal T (.bool a) (.bool b)).run P w = .ok (a == b) w := by
   intro a b w
   unfold Op.equal Op.maxDepth
   rw [show (10000 : Nat) = 9999 + 1 from rfl, Op.equalIn, Sem.run_bind, run_underlying hu]
   rfl
  split at h
  ·refine ⟨_, h, q0J.q05 ho (fun a b w ⟨Γ, ha, hb⟩ => ?_) fun Γ w a b ha hb => ?_⟩
   ·rw [ex] at ha; rw [ey] at hb; rw [(X8 ha).1, (X8 hb).1]; rw [z0r]; rfl
   ·rw [ex] at ha; rw [ey] at hb
    obtain ⟨rfl, _⟩ := X8 ha
    obtain ⟨rfl, _⟩ := X8 hb
    exact ⟨_, by simp [binOp, heq], s6⟩
  ·refine ⟨_, h, q0J.q05 ho (fun a b w ⟨Γ, ha, hb⟩ => ?_) fun Γ w a b ha hb => ?_⟩
   ·rw [ex] at ha; rw [ey] at hb; rw [(X8 ha).1, (X8 hb).1]; rw [z0r]; rfl
   ·rw [ex] at ha; rw [ey] at hb
    obtain ⟨rfl, _⟩ := X8 ha
    obtain ⟨rfl, _⟩ := X8 hb
    exact ⟨_, by simp [binOp, heq], s6⟩
  ·exact h.elim
 ·rename_i hk
  obtain ⟨hx, hy, h⟩ := h
  obtain ⟨cx, ex⟩ := V.q4k hx
  obtain ⟨cy, ey⟩ := V.q4k hy
  rw [ex, ey] at h
  obtain ⟨r, hK, hr⟩ := z8F (P := P) h T
  refine ⟨r, hK, q0J.q05 ho (fun a b w ⟨Γ, ha, hb⟩ => ?_) fun Γ w a b ha hb => ?_⟩
  ·rw [ex] at ha; rw [ey] at hb; rw [(W1 ha).1, (W1 hb).1]; rw [z9Z]; rfl
  ·rw [ex] at ha; rw [ey] at hb
   obtain ⟨rfl, _⟩ := W1 ha
   obtain ⟨rfl, _⟩ := W1 hb
   exact hr Γ w
 ·rename_i hk
  have key : ∀ (b1 b2 : Bool), (ρa x).q3Q = some b1 → (ρa y).q3Q = some b2 → (b1 = true ∨ b2 = true) →
    (∀ (a b : Value) (w : World), (∃ Γ, q9 Γ (ρa x) a ∧ q9 Γ (ρa y) b) → (eqGuard op T x y a b).run P w = .ok () w) ∧
    (∀ (Γ : G) (w : World) (a b : Value), q9 Γ (ρa x) a → q9 Γ (ρa y) b → (op = .eql → (binOp op T a b).run P w = .ok (.bool (b1 && b2)) w) ∧ (op = .neq → (binOp op T a b).run P w = .ok (.bool (!(b1 && b2))) w)) := by
   intro b1 b2 h1 h2 h12
   refine ⟨fun a b w ⟨Γ, ha, hb⟩ => ?_, fun Γ w a b ha hb => ?_⟩
   ·obtain ⟨_, rfl, _⟩ := q6b h1 ha
    obtain ⟨_, rfl, _⟩ := q6b h2 hb
    rw [z90]; rfl
   ·obtain ⟨pa, rfl, hpa⟩ := q6b h1 ha
    obtain ⟨pb, rfl, hpb⟩ := q6b h2 hb
    have := z5O (P := P) hk (a := pa) (b := pb) (by
     rcases h12 with rfl | rfl
     ·left; simpa using hpa
     ·right; simpa using hpb) w
    refine ⟨fun e => ?_, fun e => ?_⟩ <;> subst e <;> simp [binOp, this, hpa, hpb]
  split at h
  ·rename_i a hx hy
   obtain ⟨k1, k2⟩ := key _ _ hx hy (.inr rfl)
   exact ⟨_, h, q0J.q05 ho k1 fun Γ w u v hu hv => ⟨_, by simpa using (k2 Γ w u v hu hv).1 rfl, s6⟩⟩
  ·rename_i a hx hy
   obtain ⟨k1, k2⟩ := key _ _ hx hy (.inr rfl)
   exact ⟨_, h, q0J.q05 ho k1 fun Γ w u v hu hv => ⟨_, by simpa using (k2 Γ w u v hu hv).2 rfl, s6⟩⟩
  ·rename_i b _ hx hy
   obtain ⟨k1, k2⟩ := key _ _ hx hy (.inl rfl)
   exact ⟨_, h, q0J.q05 ho k1 fun Γ w u v hu hv => ⟨_, by simpa using (k2 Γ w u v hu hv).1 rfl, s6⟩⟩
  ·rename_i b _ hx hy
   obtain ⟨k1, k2⟩ := key _ _ hx hy (.inl rfl)
   exact ⟨_, h, q0J.q05 ho k1 fun Γ w u v hu hv => ⟨_, by simpa using (k2 Γ w u v hu hv).2 rfl, s6⟩⟩
  ·exact h.elim
 ·rename_i n e ht
  obtain ⟨hok, hx, hy, h⟩ := h
  exact z7C hP ho ht rfl hok hx hy h
 ·rename_i sz os fs ht
  obtain ⟨hok, hx, hy, h⟩ := h
  exact z7C hP ho ht rfl hok hx hy h
 ·rename_i eb e ht
  have guard : ∀ (a b : Value) (w : World), (∃ n1 c1 a1, a = .slice a1 n1 c1) → b = .slice none 0 0 → (eqGuard op T x y a b).run P w = .ok () w := by
   rintro a b w ⟨n1, c1, a1, rfl⟩ rfl
   unfold eqGuard; split <;> rfl
  split at h
  ·rename_i r hx hy
   refine ⟨_, h, q0J.q05 ho (fun a b w ⟨Γ, ha, hb⟩ => ?_) fun Γ w a b ha hb => ?_⟩
   ·obtain ⟨a1, n1, c1, rfl, _⟩ := q78 hx ha
    rw [hy] at hb
    exact guard _ _ w ⟨_, _, _, rfl⟩ (X7 hb)
   ·obtain ⟨a1, n1, c1, rfl, hq⟩ := q78 hx ha
    rw [hy] at hb
    rw [X7 hb]
    exact ⟨.bool a1.isNone, by simp [binOp, q7o hP ht], z9m hq⟩
  ·rename_i r hx hy
   refine ⟨_, h, q0J.q05 ho (fun a b w ⟨Γ, ha, hb⟩ => ?_) fun Γ w a b ha hb => ?_⟩
   ·obtain ⟨a1, n1, c1, rfl, _⟩ := q78 hx ha
    rw [hy] at hb
    exact guard _ _ w ⟨_, _, _, rfl⟩ (X7 hb)
   ·obtain ⟨a1, n1, c1, rfl, hq⟩ := q78 hx ha
    rw [hy] at hb
    rw [X7 hb]
    refine ⟨.bool (!a1.isNone), by simp [binOp, q7o hP ht], z9m fun c hc => ?_⟩
    cases r with
    | none => cases hc
    | some b => simp at hc; rw [hq b rfl, hc]; simp
  ·exact h.elim
 ·exact h.elim
end
end Go.E
namespace Go.E
open Go
noncomputable def pv (P : Program) (op : Op) (ρ : Operand → V) (K : V → Prop) : Prop :=
 match op with
 | .move x => K (ρ x)
 | .assign x => K (ρ x)
 | .pick c a b => (ρ c).isBool ∧ ((ρ c).toBool = true → K (ρ a)) ∧ ((ρ c).toBool = false → K (ρ b))
 | .nilCheck x => (ρ x).q3Q = some false ∧ K (ρ x)
 | .binOp op T x y _ => z2h P op T (ρ x) (ρ y) K
 | .unOp op T x => z8Q P op T (ρ x) K
 | .convert src dst x => q7x P src dst (ρ x) K
 | .fieldAddr T x i => q2F P T (ρ x) i K
 | .field T x i => (ρ x).ty = ty P T ∧ (ρ x).ty.J3 = true ∧ ((ρ x).ty.child i).isSome = true ∧ ((ρ x).ty.get i).known = true ∧ (ρ x).plain = true ∧ (ρ x).get i ≠ .any ∧ K ((ρ x).get i)
 | .indexAddr T x i => q2E P T (ρ x) (ρ i) K
 | .index T x i => (ρ i).Z7 ∧ (match ty P T with
   | .arr n e => (ρ x).ty = .arr n e ∧ (ρ x).plain = true ∧ e.known = true ∧ 0 ≤ (ρ i).toInt ∧ (ρ i).toInt < n ∧ (ρ x).get (ρ i).toInt.toNat ≠ .any ∧ K ((ρ x).get (ρ i).toInt.toNat)
   | .str => (ρ x).isStr ∧ 0 ≤ (ρ i).toInt ∧ (ρ i).toInt < (ρ x).toStr.length ∧ K (.d (.int .u8) (.int ((ρ x).toStr.getD (ρ i).toInt.toNat 0).toNat))
   | _ => False)
 | .slice T x lo hi mx => q7d P T (ρ x) (lo.map ρ) (hi.map ρ) (mx.map ρ) K
 | .extract x i => (match ρ x with
   | .tup xs => (match xs[i]? with | some y => K y | none => False)
   | _ => False)
 | .sliceToArrayPointer T x => (match ρ x with
   | .sr k q lo n (some _) _ e => (match ty P T with
    | .arr m e' => e' = e ∧ 0 < m ∧ m ≤ n ∧ K (.ptr k (q ++ [lo]) e)
    | _ => False)
   | _ => (match ty P T, (ρ x).q1l with
    | .arr n e, some (_, e', cs) => e' = e ∧ 0 < n ∧ n ≤ cs.length ∧ K (.cptr (.arr n e) (.agg (cs.take n)))
    | _, _ => False))
 | .makeFunc fn first caps => (match fn, first.toList with
   | .func f, [] => (caps.toList.map ρ).all V.plain = true ∧ K (.fn f (caps.toList.map ρ))
   | _, _ => False)
 | .call c => (match c.callee with
   | .builtin b => q55 P b c.argTypes (c.args.toList.map ρ) K
   | _ => False)
 | _ => False
section
variable {P : Program}
theorem q4F {Γ : G} : ∀ {xs : List V} {vs : List Value}, xs.length = vs.length → (∀ (i : Nat) x v, xs[i]? = some x → vs[i]? = some v → x.plain = true ∧ q9 Γ x v) → v8 Γ xs vs
 | [], [], _, _ => by simp [v8]
 | x :: xs, v :: vs, hl, h => by
  simp only [v8]
  obtain ⟨h1, h2⟩ := h 0 x v rfl rfl
  obtain ⟨h3, h4⟩ := (u0 h1).1 h2
  refine ⟨v, vs, rfl, h3, ?_, q4F (by simpa using hl) fun i x v hx hv => h (i + 1) x v (by simpa using hx) (by simpa using hv)⟩
  rw [← h4]; cases v <;> rfl
 | [], _ :: _, hl, _ => by simp at hl
 | _ :: _, [], hl, _ => by simp at hl
theorem v8.get {Γ : G} : ∀ {xs : List V} {vs : List Value} {i : Nat} {x : V}, v8 Γ xs vs → xs[i]? = some x → ∃ v, vs[i]? = some v ∧ q8 Γ none [] x v.cells.toList ∧ u7 v = x.ty.isAgg
 | [], _, _, _, _, h => by simp at h
 | y :: xs, vs, 0, x, r, h => by
  simp only [v8] at r
  obtain ⟨v, vs', rfl, h1, h2, _⟩ := r
  simp at h; subst h
  refine ⟨v, rfl, h1, ?_⟩
  rw [← h2]; cases v <;> rfl
 | y :: xs, vs, i + 1, x, r, h => by
  simp only [v8] at r
  obtain ⟨v, vs', rfl, _, _, h3⟩ := r
  obtain ⟨u, a, b, c⟩ := v8.get h3 (show xs[i]? = some x by simpa using h)
  exact ⟨u, by simpa using a, b, c⟩
theorem y47 (hP : u3 P = true) {o : Oper} {x : Operand} {ts : Array TypeId} {ρa : Operand → V} {K : V → Prop} (ho : o.op = .call { callee := .builtin .len, args := #[x], argTypes := ts })
  (h0 : 0 < ts.size) (h : z2g P (ts.getD 0 0) (ρa x) K) : ∃ r, K r ∧ q0J P ρa o r := by
 have hts : ts[0]? = some (ts.getD 0 0) := by simp [Array.getElem?_eq_getElem h0]
 have hx : ∀ {Γ : G} {ρ : Operand → Value}, (∀ y ∈ o.op.operands, q9 Γ (ρa y) (ρ y)) → q9 Γ (ρa x) (ρ x) := fun hr => hr x (by rw [ho]; simp [Op.operands, Call.operands])
 have run : ∀ {ρ : Operand → Value} {w : World} {v : Value}, (Builtin.len_ ts o.type #[ρ x]).run P w = .ok v w → (execOp ρ o).run P w = .ok (.value v) w := by
  intro ρ w v hv
  unfold execOp
  simp [ho, resolve, invoke, builtin, hv]
 generalize hT : ts.getD 0 0 = T at h hts
 have bd : ∀ {n : Nat}, n ≤ maxLen → IntKind.i64.min ≤ (n : Int) ∧ (n : Int) ≤ IntKind.i64.max := by
  intro n hn
  have e1 : IntKind.i64.min = -9223372036854775808 := by decide
  have e2 : IntKind.i64.max = 9223372036854775807 := by decide
  unfold maxLen at hn
  omega
 unfold z2g at h
 split at h
 ·rename_i τ c ht hxa
  obtain ⟨rfl, hK⟩ := h
  refine ⟨_, hK, fun Γ w ρ hr => ?_⟩
  have hxr := hx hr
  rw [hxa] at hxr
  obtain ⟨hv, _, hl⟩ := W1 hxr
  have := bd (n := c.toStr.length) (by unfold maxLen; omega)
  refine ⟨_, run ?_, r9 this.1 this.2⟩
  have e : (⟨c.toStr.toArray⟩ : ByteArray).size = c.toStr.length := by simp [ByteArray.size]
  simp [Builtin.len_, hts, hv, run_underlying (q5Y ht), goInt, e]
 ·rename_i eb e ht hxa
  refine ⟨_, h, fun Γ w ρ hr => ?_⟩
  have hxr := hx hr
  rw [hxa] at hxr
  have hv := X7 hxr
  obtain ⟨E, hu, _⟩ := q01 hP ht
  refine ⟨_, run ?_, r9 (by decide) (by decide)⟩
  simp [Builtin.len_, hts, hv, run_underlying hu, goInt]
 ·rename_i eb e k q lo n cp eb' e' ht hxa
  refine ⟨_, h, fun Γ w ρ hr => ?_⟩
  have hxr := hx hr
  rw [hxa] at hxr
  obtain ⟨cap, a, hv, a5, a6⟩ := z2W hxr
  obtain ⟨E, hu, _⟩ := q01 hP ht
  have := bd (n := n) (by omega)
  refine ⟨_, run ?_, r9 this.1 this.2⟩
  simp [Builtin.len_, hts, hv, run_underlying hu, goInt]
 ·rename_i eb e _ ht _ _
  split at h
  ·rename_i eb' e' cs hs
   obtain ⟨rfl, rfl, hK⟩ := h
   refine ⟨_, hK, fun Γ w ρ hr => ?_⟩
   obtain ⟨a, n, cap, hv, hl, hnc, hcm, _⟩ := q00 (hx hr) hs
   obtain ⟨E, hu, _⟩ := q01 hP ht
   have := bd (n := cs.length) (by omega)
   refine ⟨_, run ?_, r9 this.1 this.2⟩
   simp [Builtin.len_, hts, hv, run_underlying hu, goInt, hl]
  ·exact h.elim
 ·rename_i n e x' ht
  refine ⟨_, h.2, fun Γ w ρ hr => ?_⟩
  obtain ⟨E, hu, _⟩ := q8N ht
  refine ⟨_, run ?_, r9 (by have e1 : IntKind.i64.min = -9223372036854775808 := by decide
                            omega) (by have e1 : IntKind.i64.max = 9223372036854775807 := by decide
                                       have := h.1; omega)⟩
  simp [Builtin.len_, hts, run_underlying hu, goInt]
 ·exact h.elim
theorem z6X {H : Hp} {e : Ty} {ys : List C} {m : Nat} {news : List Value} (h1 : ys.length = m) (hl : news.length = m * e.size) (hr : ∀ i c', ys[i]? = some c' → y4 H e (chunk news (i * e.size) e.size) c') : q0K news := by
 intro v hv
 obtain ⟨j, hj⟩ := List.getElem?_of_mem hv
 have hjl : j < m * e.size := by rw [← hl]; exact (List.getElem?_eq_some_iff.1 hj).1
 have hs : 0 < e.size := by rcases Nat.eq_zero_or_pos e.size with h | h; · rw [h, Nat.mul_zero] at hjl; omega
                            ·exact h
 have hd : j / e.size < m := Nat.div_lt_of_lt_mul (by rw [Nat.mul_comm]; exact hjl)
 have hi : ys[j / e.size]? = some ys[j / e.size] := List.getElem?_eq_getElem (by omega)
 have := (hr _ _ hi).one
 refine this v ?_
 have hmod : j % e.size < e.size := Nat.mod_lt _ hs
 have : (chunk news (j / e.size * e.size) e.size)[j % e.size]? = some v := by
  simp only [chunk, List.getElem?_take, List.getElem?_drop]
  rw [if_pos hmod, Nat.div_add_mod' j e.size]
  exact hj
 exact List.mem_of_getElem? this
theorem y5k (hP : u3 P = true) {o : Oper} {ρa : Operand → V} {K : V → Prop} (h : pv P o.op ρa K) : ∃ r, K r ∧ q0J P ρa o r := by
 unfold pv at h
 split at h
 ·rename_i x ho
  refine ⟨_, h, fun Γ w ρ hr => ⟨_, ?_, hr x (by rw [ho]; simp [Op.operands])⟩⟩
  unfold execOp; simp [ho]
 ·rename_i x ho
  refine ⟨_, h, fun Γ w ρ hr => ⟨_, ?_, hr x (by rw [ho]; simp [Op.operands])⟩⟩
  unfold execOp; simp [ho]
 ·rename_i c a b ho
  obtain ⟨hb, h1, h2⟩ := h
  obtain ⟨cc, ec⟩ := V.q8h hb
  cases hc : (ρa c).toBool with
  | true =>
   refine ⟨_, h1 hc, fun Γ w ρ hr => ⟨_, ?_, hr a (by rw [ho]; simp [Op.operands])⟩⟩
   have hcr := hr c (by rw [ho]; simp [Op.operands])
   rw [ec] at hcr hc
   have hv := (X8 hcr).1
   simp only [V.toBool] at hc
   unfold execOp; simp [ho, hv, hc, asBool]
  | false =>
   refine ⟨_, h2 hc, fun Γ w ρ hr => ⟨_, ?_, hr b (by rw [ho]; simp [Op.operands])⟩⟩
   have hcr := hr c (by rw [ho]; simp [Op.operands])
   rw [ec] at hcr hc
   have hv := (X8 hcr).1
   simp only [V.toBool] at hc
   unfold execOp; simp [ho, hv, hc, asBool]
 ·rename_i x ho
  obtain ⟨h1, hK⟩ := h
  refine ⟨_, hK, fun Γ w ρ hr => ?_⟩
  have hx := hr x (by rw [ho]; simp [Op.operands])
  obtain ⟨a, hv, ha⟩ := q6b h1 hx
  refine ⟨_, ?_, hx⟩
  cases a with
  | none => simp at ha
  | some a => unfold execOp; simp [ho, hv]
 ·rename_i op T x y T2 ho
  exact y0T hP ho h
 ·rename_i op T x ho
  unfold z8Q at h
  split at h
  ·rename_i ht
   obtain ⟨hb, hK⟩ := h
   obtain ⟨cc, ec⟩ := V.q8h hb
   refine ⟨_, hK, fun Γ w ρ hr => ?_⟩
   have hx := hr x (by rw [ho]; simp [Op.operands])
   rw [ec] at hx
   have hv := (X8 hx).1
   refine ⟨_, ?_, s6⟩
   unfold execOp; simp [ho, hv, Op.unary, ec, V.toBool]
  ·rename_i k ht
   obtain ⟨hb, hK⟩ := h
   obtain ⟨cc, ec⟩ := V.q5t hb
   refine ⟨_, hK, fun Γ w ρ hr => ?_⟩
   have hx := hr x (by rw [ho]; simp [Op.operands])
   rw [ec] at hx
   have hv := (c4 hx).1
   refine ⟨_, ?_, r9 (wrap_within _ _).1 (wrap_within _ _).2⟩
   unfold execOp; simp [ho, hv, Op.unary, Op.intArith, ec, V.toInt]
  ·exact h.elim
 ·rename_i src dst x ho
  unfold q7x at h
  split at h
  ·rename_i k k2 h1 h2
   obtain ⟨hb, hK⟩ := h
   obtain ⟨cc, ec⟩ := V.q5t hb
   refine ⟨_, hK, fun Γ w ρ hr => ?_⟩
   have hx := hr x (by rw [ho]; simp [Op.operands])
   rw [ec] at hx
   have hv := (c4 hx).1
   refine ⟨_, ?_, r9 (wrap_within _ _).1 (wrap_within _ _).2⟩
   unfold execOp; simp [ho, hv, convert, run_underlying (y3u h1), run_underlying (y3u h2), Conv.intToInt, ec, V.toInt]
  ·rename_i h1 h2
   obtain ⟨hb, hK⟩ := h
   obtain ⟨cc, ec⟩ := V.q4k hb
   refine ⟨_, hK, fun Γ w ρ hr => ?_⟩
   have hx := hr x (by rw [ho]; simp [Op.operands])
   have hx' := hx
   rw [ec] at hx'
   have hv := (W1 hx').1
   refine ⟨_, ?_, hx⟩
   unfold execOp; simp [ho, hv, convert, run_underlying (q5Y h1), run_underlying (q5Y h2)]
  ·exact h.elim
 ·rename_i T x i ho
  exact z5I hP ho h
 ·rename_i T x i ho
  exact y2b hP ho h
 ·rename_i T x i ho
  exact z5H hP ho h
 ·rename_i T x i ho
  obtain ⟨hi, h⟩ := h
  split at h
  ·rename_i n e ht
   obtain ⟨e1, e5, e4, h0, h1, e6, hK⟩ := h
   refine ⟨_, hK, fun Γ w ρ hr => ?_⟩
   have hx := hr x (by rw [ho]; simp [Op.operands])
   obtain ⟨ki, hiv⟩ := z17 hi (hr i (by rw [ho]; simp [Op.operands]))
   obtain ⟨g1, g2⟩ := (u0 e5).1 hx
   rw [e1] at g2
   cases hv : ρ x <;> simp [hv, u7, Ty.isAgg] at g2
   rename_i cs
   rw [hv] at g1
   simp only [Value.cells] at g1
   obtain ⟨E, hu, hE⟩ := q8N ht
   have hT : T < P.types.size := by
    rcases Nat.lt_or_ge T P.types.size with hh | hh
    ·exact hh
    ·unfold ty tyF at ht; rw [if_neg (Nat.not_lt.2 hh)] at ht; cases ht
   have hok := q3a hP hT
   unfold okT at hok
   simp only [hu] at hok
   simp at hok
   obtain ⟨q1, q2, q3⟩ := g1.get (e1 ▸ z16 h0 h1) e6
   have hpl : ((ρa x).get (ρa i).toInt.toNat).plain = true := by
    cases hgx : (ρa x).get (ρa i).toInt.toNat <;> simp_all [V.plain, q8]
   obtain ⟨v, p1, p2, p3⟩ := q21 (f := 10) hP hok.2 hE.symm e4 (by simpa using q2) (g1.one e5) w
   refine ⟨v, ?_, (u0 hpl).2 ⟨by rw [p2]; exact q3.Y2, by rw [p3, q1]⟩⟩
   have hz := q0n (f := 11) hP (w := w) hok.2
   rw [← hE] at hz
   unfold execOp
   simp [ho, hv, hiv, Instr.index, asIntOf, run_underlying hu, h0, h1, hz, p1]
  ·rename_i ht
   obtain ⟨hs, h0, h1, hK⟩ := h
   obtain ⟨cc, ec⟩ := V.q4k hs
   refine ⟨_, hK, fun Γ w ρ hr => ?_⟩
   have hx := hr x (by rw [ho]; simp [Op.operands])
   obtain ⟨ki, hiv⟩ := z17 hi (hr i (by rw [ho]; simp [Op.operands]))
   have hts : (ρa x).toStr = cc.toStr := by rw [ec]; rfl
   rw [ec] at hx
   obtain ⟨hv, _, _⟩ := W1 hx
   rw [hts] at h1 ⊢
   have hlt : (ρa i).toInt.toNat < cc.toStr.length := by omega
   refine ⟨_, ?_, r9 (k := .u8) (n := ((cc.toStr.getD (ρa i).toInt.toNat 0).toNat : Int)) ?_ ?_⟩
   ·have hg : (⟨cc.toStr.toArray⟩ : ByteArray)[(ρa i).toInt.toNat]? = some (cc.toStr.getD (ρa i).toInt.toNat 0) := by
     rw [getElem?_pos (⟨cc.toStr.toArray⟩ : ByteArray) _ (show (ρa i).toInt.toNat < (⟨cc.toStr.toArray⟩ : ByteArray).size by simpa [ByteArray.size] using hlt)]
     have : (⟨cc.toStr.toArray⟩ : ByteArray)[(ρa i).toInt.toNat]'(by simpa [ByteArray.size] using hlt) = cc.toStr[(ρa i).toInt.toNat] := rfl
     rw [this]
     simp [List.getD, List.getElem?_eq_getElem hlt]
    unfold execOp
    simp only [ho, hv, hiv, Instr.index, asIntOf, Sem.run_bind, Sem.run_pure, Result.andThen_ok, run_underlying (q5Y ht)]
    simp [h0, hg]
   ·have : IntKind.u8.min = 0 := by decide
    omega
   ·have : IntKind.u8.max = 255 := by decide
    have := (cc.toStr.getD (ρa i).toInt.toNat 0).toNat_lt
    omega
  ·exact h.elim
 ·rename_i T x lo hi mx ho
  exact y2a hP ho h
 ·rename_i x i ho
  split at h
  ·rename_i xs hx
   split at h
   ·rename_i y hy
    refine ⟨_, h, fun Γ w ρ hr => ?_⟩
    have hxr := hr x (by rw [ho]; simp [Op.operands])
    rw [hx] at hxr
    simp only [q9] at hxr
    obtain ⟨vs, hv, hc⟩ := hxr
    obtain ⟨v, h1, h2, h3⟩ := hc.get hy
    refine ⟨v, ?_, ?_⟩
    ·have h1' : vs[i]? = some v := by simpa using h1
     unfold execOp; simp [ho, hv, Instr.extract, h1']
    ·cases hyc : y <;> first | (rw [hyc] at h2 h3; exact (u0 rfl).2 ⟨h2, h3⟩) | (simp [q9]; done) | (rw [hyc] at h2; simp [q8] at h2)
   ·exact h.elim
  ·exact h.elim
 ·rename_i T x ho
  split at h
  ·rename_i k q lo n cp eb e hx
   split at h
   ·rename_i m e' ht
    obtain ⟨rfl, h0, hn, hK⟩ := h
    refine ⟨_, hK, fun Γ w ρ hr => ?_⟩
    have hxr := hr x (by rw [ho]; simp [Op.operands])
    rw [hx] at hxr
    obtain ⟨E, hu, _⟩ := q8N ht
    rcases q0x hxr with ⟨z, _⟩ | ⟨b, τ0, o, M, cap, a, a1, a2, a3, hv, a4, a5, _⟩
    ·cases z
    ·rcases a4 with a4 | rfl
     ·omega
     ·refine ⟨.pointer (some ⟨b, o + lo * e'.size, none⟩), ?_, q2C a1 (q5W a2 (show (Ty.arr M e').child lo = some (lo * e'.size, e') by simp only [Ty.child]; rw [if_pos (by omega)]))⟩
      unfold execOp
      simp only [ho, hv, Instr.arrayAt, Sem.run_bind, run_underlying hu, Result.andThen_ok]
      rw [if_neg (by omega)]
      simp
   ·exact h.elim
  ·split at h
   ·rename_i n e eb' e' cs ht hx
    obtain ⟨rfl, h0, hn, hK⟩ := h
    refine ⟨_, hK, fun Γ w ρ hr => ?_⟩
    have hxr := hr x (by rw [ho]; simp [Op.operands])
    obtain ⟨a, m, cap, hv, hl, _, _, _, hc⟩ := q00 hxr hx
    obtain ⟨E, hu, _⟩ := q8N ht
    obtain ⟨a', n', cap', z1, z2, z3, _, _, _, hd⟩ := J9 hc
    simp at z1
    obtain ⟨rfl, rfl, rfl⟩ := z1
    simp only [C.elems] at z3 hd
    rcases hd with hd | ⟨b, off, l, rfl, hb, hs, hce⟩
    ·omega
    have hns : n * e'.size ≤ m * e'.size := Nat.mul_le_mul_right _ (by omega)
    refine ⟨.pointer (some ⟨b, off, none⟩), ?_, q02 hb (by simp only [Ty.size]; omega) ?_⟩
    ·unfold execOp
     simp only [ho, hv, Instr.arrayAt, Sem.run_bind, run_underlying hu, Result.andThen_ok]
     rw [if_neg (by omega)]
     simp
    ·simp only [y4, Ty.size]
     have hlen : (cs.take n).length = n := by simp; omega
     have hcl : (chunk l off (n * e'.size)).length = n * e'.size := k8 _ _ _ (by omega)
     have hel : ∀ i c, (cs.take n)[i]? = some c → y4 Γ.H e' (chunk (chunk l off (n * e'.size)) (i * e'.size) e'.size) c := by
      intro i c hi
      rw [List.getElem?_take] at hi
      split at hi
      ·rename_i hin
       have hle : (i + 1) * e'.size ≤ n * e'.size := Nat.mul_le_mul_right _ hin
       rw [Nat.add_mul] at hle
       rw [c8 _ _ _ _ _ (by omega)]
       exact hce i c hi
      ·cases hi
     exact ⟨_, rfl, hlen, hcl, z6X hlen hcl hel, hel⟩
   ·exact h.elim
 ·rename_i fn first caps ho
  split at h
  ·rename_i f hfirst
   obtain ⟨hpl, hK⟩ := h
   refine ⟨_, hK, fun Γ w ρ hr => ?_⟩
   have hf : first = #[] := by simpa using hfirst
   refine ⟨.func (.func f) #[] (caps.map ρ), ?_, (u0 rfl).2 ⟨?_, by simp [V.ty, Ty.isAgg, u7]⟩⟩
   ·unfold execOp; simp [ho, Instr.makeFunc, hf]
   ·simp only [q8, Value.cells]
    refine ⟨caps.map ρ, rfl, q4F (by simp) fun i x v hx hv => ?_⟩
    simp only [List.getElem?_map, Array.toList_map] at hx hv
    cases hc : caps.toList[i]? with
    | none => simp [hc] at hx
    | some y =>
     simp [hc] at hx hv
     subst hx; subst hv
     have hm : y ∈ caps.toList := List.mem_of_getElem? hc
     exact ⟨List.all_eq_true.1 hpl _ (List.mem_map.2 ⟨y, hm, rfl⟩), hr y (by rw [ho]; simp [Op.operands, hf]; simpa using hm)⟩
  ·exact h.elim
 ·rename_i c ho
  split at h
  ·rename_i b hb
   obtain ⟨callee, args, ts⟩ := c
   simp only at hb h
   subst hb
   unfold q55 at h
   split at h
   ·rename_i xl hargs
    have hone : ∃ x, args = #[x] ∧ ρa x = xl := by
     cases args with
     | mk l => cases l with
      | nil => simp at hargs
      | cons x l => cases l with
       | nil => simp at hargs; exact ⟨x, rfl, hargs⟩
       | cons _ _ => simp at hargs
    obtain ⟨x, rfl, rfl⟩ := hone
    exact y47 hP ho h.1 h.2
   ·rename_i xl yl hargs
    have htwo : ∃ x y, args = #[x, y] ∧ ρa x = xl ∧ ρa y = yl := by
     cases args with
     | mk l => match l, hargs with
      | [x, y], hargs => simp at hargs; exact ⟨x, y, rfl, hargs.1, hargs.2⟩
    obtain ⟨x, y, rfl, rfl, rfl⟩ := htwo
    split at h
    ·rename_i k c hx
     obtain ⟨hy, hK⟩ := h
     obtain ⟨cy, ey⟩ := V.q5t hy
     refine ⟨_, hK, fun Γ w ρ hr => ?_⟩
     have hxr := hr x (by rw [ho]; simp [Op.operands, Call.operands])
     have hyr := hr y (by rw [ho]; simp [Op.operands, Call.operands])
     rw [hx] at hxr; rw [ey] at hyr
     obtain ⟨hv, _, b1, b2⟩ := c4 hxr
     obtain ⟨hv2, _, b3, b4⟩ := c4 hyr
     rw [hx, ey]
     simp only [V.toInt]
     refine ⟨_, ?_, r9 (n := if cy.toInt < c.toInt then cy.toInt else c.toInt) ?_ ?_⟩
     ·unfold execOp; simp [ho, resolve, invoke, builtin, Builtin.min_, Builtin.min2, hv, hv2]
     ·split <;> omega
     ·split <;> omega
    ·exact h.elim
   ·rename_i xl yl hargs
    have htwo : ∃ x y, args = #[x, y] ∧ ρa x = xl ∧ ρa y = yl := by
     cases args with
     | mk l => match l, hargs with
      | [x, y], hargs => simp at hargs; exact ⟨x, y, rfl, hargs.1, hargs.2⟩
    obtain ⟨x, y, rfl, rfl, rfl⟩ := htwo
    split at h
    ·rename_i k c hx
     obtain ⟨hy, hK⟩ := h
     obtain ⟨cy, ey⟩ := V.q5t hy
     refine ⟨_, hK, fun Γ w ρ hr => ?_⟩
     have hxr := hr x (by rw [ho]; simp [Op.operands, Call.operands])
     have hyr := hr y (by rw [ho]; simp [Op.operands, Call.operands])
     rw [hx] at hxr; rw [ey] at hyr
     obtain ⟨hv, _, b1, b2⟩ := c4 hxr
     obtain ⟨hv2, _, b3, b4⟩ := c4 hyr
     rw [hx, ey]
     simp only [V.toInt]
     refine ⟨_, ?_, r9 (n := if c.toInt < cy.toInt then cy.toInt else c.toInt) ?_ ?_⟩
     ·unfold execOp; simp [ho, resolve, invoke, builtin, Builtin.max_, Builtin.max2, hv, hv2]
     ·split <;> omega
     ·split <;> omega
    ·exact h.elim
   ·exact h.elim
  ·exact h.elim
 ·exact h.elim
end
end Go.E
namespace Go.E
open Go
mutual
def Ty.y7e : Ty → Bool
 | .slice _ _ => false
 | .struct _ _ fs => Ty.z3z fs
 | .opq _ => false
 | _ => true
def Ty.z3z : List Ty → Bool
 | [] => true
 | f :: fs => f.y7e && Ty.z3z fs
end
mutual
def Y6 : Ty → C
 | .int _ => .int 0
 | .bool => .bool false
 | .str => .str []
 | .slice _ _ => .slice []
 | .arr n e => .agg (List.replicate n (Y6 e))
 | .struct _ _ fs => .agg (q8L fs)
 | _ => .nil
def q8L : List Ty → List C
 | [] => []
 | f :: fs => Y6 f :: q8L fs
end
mutual
def j3 : Ty → V
 | .slice eb e => .emp eb e
 | .struct sz os fs => if Ty.z3z fs then .d (.struct sz os fs) (.agg (q8L fs)) else .agg (.struct sz os fs) (q4w fs)
 | τ => .d τ (Y6 τ)
def q4w : List Ty → List V
 | [] => []
 | f :: fs => j3 f :: q4w fs
end
def q4h : Ty → Value → Bool
 | .int k, .int k' n => k == k' && n == 0
 | .bool, .bool b => !b
 | .str, .string s => s.data.toList.isEmpty
 | .slice _ _, .slice a n c => a.isNone && n == 0 && c == 0
 | .ptr, .pointer a => a.isNone
 | .map, .map r => r.isNone
 | .func, .nilFunc => true
 | .iface, .nilIface => true
 | _, _ => false
mutual
def U1 : Ty → List Value → Bool
 | .arr n e, vs => vs.length == n * e.size && vs.all (·.oneCell') && (List.range n).all fun i => U1 e (chunk vs (i * e.size) e.size)
 | .struct sz os fs, vs => vs.length == sz && vs.all (·.oneCell') && q1O fs os vs
 | τ, vs => match vs with | [v] => q4h τ v | _ => false
def q1O : List Ty → List Nat → List Value → Bool
 | [], _, _ => true
 | f :: fs, o :: os, vs => decide (o + f.size ≤ vs.length) && U1 f (chunk vs o f.size) && q1O fs os vs
 | _ :: _, [], _ => false
end
def Q0 (P : Program) (T : TypeId) : Bool :=
 match (P.info? T).bind (·.zero) with
 | some z => U1 (ty P T) z.cells.toList && u7 z == (ty P T).isAgg && U1 (tyF P 11 T) z.cells.toList
 | none => false
theorem z7j (k : IntKind) : k.min ≤ 0 ∧ 0 ≤ k.max := by cases k <;> decide
theorem z8x {H : Hp} {τ : Ty} {v : Value} (h : q4h τ v = true) : y4 H τ [v] (Y6 τ) := by
 unfold q4h at h
 split at h <;> simp at h <;> simp only [y4, Y6]
 ·obtain ⟨rfl, rfl⟩ := h
  exact ⟨0, rfl, rfl, (z7j _).1, (z7j _).2⟩
 ·subst h; exact ⟨false, rfl, rfl⟩
 ·rename_i s
  refine ⟨[], rfl, ?_, by simp⟩
  have : s = ⟨#[]⟩ := by
   apply ByteArray.ext; simpa using h
  rw [this]
 ·obtain ⟨⟨h1, rfl⟩, rfl⟩ := h
  exact ⟨_, 0, 0, [], rfl, rfl, rfl, Nat.le_refl _, by decide, by simp, .inl rfl⟩
 ·subst h; simp
 ·subst h; simp
 ·simp
 ·simp
mutual
theorem W8 {H : Hp} : ∀ {τ : Ty} {vs : List Value}, U1 τ vs = true → y4 H τ vs (Y6 τ)
 | .arr n e, vs, h => by
  simp only [U1, Bool.and_eq_true, beq_iff_eq, List.all_eq_true, List.mem_range] at h
  simp only [y4, Y6]
  refine ⟨_, rfl, by simp, h.1.1, h.1.2, fun i c hi => ?_⟩
  simp only [List.getElem?_replicate] at hi
  split at hi
  ·cases hi; exact W8 (h.2 i ‹_›)
  ·cases hi
 | .struct sz os fs, vs, h => by
  simp only [U1, Bool.and_eq_true, beq_iff_eq, List.all_eq_true] at h
  simp only [y4, Y6]
  exact ⟨_, rfl, h.1.1, h.1.2, z2P h.2⟩
 | .int _, [v], h | .bool, [v], h | .str, [v], h | .slice _ _, [v], h | .ptr, [v], h | .map, [v], h | .func, [v], h | .iface, [v], h => by
  simp only [U1] at h
  exact z8x h
 | .opq _, [v], h => by simp [U1, q4h] at h
 | .int _, [], h | .bool, [], h | .str, [], h | .slice _ _, [], h | .ptr, [], h | .map, [], h | .func, [], h | .iface, [], h | .opq _, [], h => by simp [U1] at h
 | .int _, _ :: _ :: _, h | .bool, _ :: _ :: _, h | .str, _ :: _ :: _, h | .slice _ _, _ :: _ :: _, h | .ptr, _ :: _ :: _, h | .map, _ :: _ :: _, h | .func, _ :: _ :: _, h | .iface, _ :: _ :: _, h | .opq _, _ :: _ :: _, h => by simp [U1] at h
theorem z2P {H : Hp} : ∀ {fs : List Ty} {os : List Nat} {vs : List Value}, q1O fs os vs = true → k9 H fs os vs (q8L fs)
 | [], _, _, _ => by simp [k9, q8L]
 | f :: fs, o :: os, vs, h => by
  simp only [q1O, Bool.and_eq_true, decide_eq_true_eq] at h
  simp only [k9, q8L]
  exact ⟨_, _, rfl, h.1.1, W8 h.1.2, z2P h.2⟩
 | _ :: _, [], _, h => by simp [q1O] at h
end
theorem q4g : ∀ (τ : Ty), (j3 τ).ty = τ
 | .struct sz os fs => by simp only [j3]; split <;> simp [V.ty]
 | .slice _ _ => by simp [j3, V.ty]
 | .int _ | .bool | .str | .ptr | .map | .func | .iface | .opq _ | .arr _ _ => by simp [j3, V.ty]
theorem z0c : ∀ (fs : List Ty), (q4w fs).length = fs.length
 | [] => rfl
 | f :: fs => by simp [q4w, z0c fs]
theorem z2Q : ∀ {fs : List Ty} {os : List Nat} {vs : List Value} {i : Nat} {f : Ty}, q1O fs os vs = true → fs[i]? = some f → ∃ o, os[i]? = some o ∧ o + f.size ≤ vs.length ∧ U1 f (chunk vs o f.size) = true
 | [], _, _, _, _, _, h => by simp at h
 | f :: fs, o :: os, vs, 0, g, h, hg => by
  simp only [q1O, Bool.and_eq_true, decide_eq_true_eq] at h
  simp at hg; subst hg
  exact ⟨o, rfl, h.1.1, h.1.2⟩
 | f :: fs, o :: os, vs, i + 1, g, h, hg => by
  simp only [q1O, Bool.and_eq_true, decide_eq_true_eq] at h
  obtain ⟨o', a, b, c⟩ := z2Q h.2 (show fs[i]? = some g by simpa using hg)
  exact ⟨o', by simpa using a, b, c⟩
 | _ :: _, [], _, _, _, h, _ => by simp [q1O] at h
theorem q5G (τ : Ty) : (j3 τ).plain = true := by
 cases τ <;> simp only [j3] <;> (try split) <;> rfl
mutual
theorem z32 : ∀ (τ : Ty), (j3 τ).r8 = true
 | .struct sz os fs => by simp only [j3]; split <;> simp [V.r8, z2O fs]
 | .slice _ _ => by simp [j3, V.r8]
 | .int _ | .bool | .str | .ptr | .map | .func | .iface | .opq _ | .arr _ _ => by simp [j3, V.r8]
theorem z2O : ∀ (fs : List Ty), V.Y8 (q4w fs) = true
 | [] => rfl
 | f :: fs => by simp [q4w, V.Y8, z32 f, z2O fs]
end
section
variable {Γ : G} {hm : Option Key}
mutual
theorem q7X : ∀ (τ : Ty) {p : List Nat} {vs : List Value}, U1 τ vs = true → q8 Γ hm p (j3 τ) vs
 | .struct sz os fs, p, vs, h => by
  simp only [j3]; split
  ·simp only [q8]; exact W8 (τ := .struct sz os fs) h
  ·simp only [U1, Bool.and_eq_true, beq_iff_eq, List.all_eq_true] at h
   simp only [q8]
   exact ⟨h.1.1, h.1.2, by simp [Ty.kids, z0c], rfl, z30 fs sz os fs 0 (fun i f hf => by simpa using hf) h.2⟩
 | .slice eb e, p, vs, h => by
  match vs, h with
  | [v], h =>
   simp only [U1] at h
   cases v <;> simp [q4h] at h
   obtain ⟨⟨rfl, rfl⟩, rfl⟩ := h
   simp only [j3, q8]
   exact ⟨none, rfl⟩
  | [], h => simp [U1] at h
  | _ :: _ :: _, h => simp [U1] at h
 | .int k, p, vs, h => by simp only [j3, q8]; exact W8 h
 | .bool, p, vs, h => by simp only [j3, q8]; exact W8 h
 | .str, p, vs, h => by simp only [j3, q8]; exact W8 h
 | .ptr, p, vs, h => by simp only [j3, q8]; exact W8 h
 | .map, p, vs, h => by simp only [j3, q8]; exact W8 h
 | .func, p, vs, h => by simp only [j3, q8]; exact W8 h
 | .iface, p, vs, h => by simp only [j3, q8]; exact W8 h
 | .opq s, p, vs, h => by simp only [j3, q8]; exact W8 h
 | .arr n e, p, vs, h => by simp only [j3, q8]; exact W8 h
theorem z30 : ∀ (gs : List Ty) (sz : Nat) (os : List Nat) (fs : List Ty) (i : Nat) {p : List Nat} {vs : List Value}, (∀ (j : Nat) (f : Ty), gs[j]? = some f → fs[i + j]? = some f) → q1O fs os vs = true →
  x9 Γ hm p i (.struct sz os fs) (q4w gs) vs
 | [], _, _, _, _, _, _, _, _ => by simp [q4w, x9]
 | f :: gs, sz, os, fs, i, p, vs, hg, h => by
  have hf := hg 0 f rfl
  obtain ⟨o, a, b, c⟩ := z2Q h hf
  simp only [q4w, x9, q4g]
  refine ⟨⟨o, f, by simp [Ty.child, show os[i]? = some o by simpa using a, show fs[i]? = some f by simpa using hf], rfl, b, q7X f c⟩, z30 gs sz os fs (i + 1) (fun j g hj => ?_) h⟩
  rw [show i + 1 + j = i + (j + 1) by omega]
  exact hg (j + 1) g (by simpa using hj)
end
end
theorem z8H {P : Program} {T : TypeId} (h : Q0 P T = true) : ∃ z, (∀ w, (zeroValue T).run P w = .ok z w) ∧ U1 (ty P T) z.cells.toList = true ∧ u7 z = (ty P T).isAgg := by
 unfold Q0 at h
 cases hi : P.info? T with
 | none => simp [hi] at h
 | some i =>
  cases hz : i.zero with
  | none => simp [hi, hz] at h
  | some z =>
   simp [hi, hz] at h
   exact ⟨z, fun w => by simp [zeroValue, typeInfo, hi, hz], h.1.1, h.1.2⟩
mutual
def view : V → V
 | .ts eb e cs => .d (.slice eb e) (.slice cs)
 | .agg τ vs => .agg τ (views vs)
 | x => x
def views : List V → List V
 | [] => []
 | x :: xs => view x :: views xs
end
theorem z0K : ∀ xs : List V, (views xs).length = xs.length
 | [] => rfl
 | x :: xs => by simp [views, z0K xs]
theorem y1m (x : V) : (view x).ty = x.ty := by cases x <;> simp [view, V.ty]
theorem y11 (x : V) : (view x).plain = x.plain := by cases x <;> simp [view, V.plain]
section
variable {Γ : G} {hm : Option Key}
mutual
theorem z8z : ∀ (x : V) {p p' : List Nat} {vs : List Value}, q8 Γ hm p x vs → q8 Γ none p' (view x) vs
 | .ts eb e cs, _, _, _, h => by
  simp only [q8, view] at h ⊢
  obtain ⟨a, n, cap, k, _, rfl, h2, _⟩ := h
  exact h2
 | .agg τ xs, _, _, _, h => by
  simp only [q8, view] at h ⊢
  exact ⟨h.1, h.2.1, by rw [z0K]; exact h.2.2.1, h.2.2.2.1, z6L xs h.2.2.2.2⟩
 | .d _ _, _, _, _, h | .sl _ _ _ _, _, _, _, h | .emp _ _, _, _, _, h | .nilc, _, _, _, h | .ptr _ _ _, _, _, _, h | .cptr _ _, _, _, _, h
 | .sr _ _ _ _ _ _ _, _, _, _, h | .mp _, _, _, _, h | .fn _ _, _, _, _, h | .top _, _, _, _, h => by simpa only [q8, view] using h
 | .any, _, _, _, h => by simp only [q8, view]
 | .tup _, _, _, _, h => by simp only [q8] at h
theorem z6L : ∀ (xs : List V) {p p' : List Nat} {i : Nat} {τ : Ty} {vs : List Value}, x9 Γ hm p i τ xs vs → x9 Γ none p' i τ (views xs) vs
 | [], _, _, _, _, _, _ => by simp only [views, x9]
 | x :: xs, _, _, _, _, _, h => by
  simp only [x9, views, y1m] at h ⊢
  obtain ⟨⟨o, f, h1, h2, h3, h4⟩, h5⟩ := h
  exact ⟨⟨o, f, h1, h2, h3, z8z x h4⟩, z6L xs h5⟩
end
end
mutual
def b9 : V → Option C
 | .d _ c => some c
 | .emp _ _ => some (.slice [])
 | .sl _ _ cs _ => some (.slice cs)
 | .ts _ _ cs => some (.slice cs)
 | .agg _ vs => (q0i vs).map .agg
 | _ => none
def q0i : List V → Option (List C)
 | [] => some []
 | x :: xs => match b9 x, q0i xs with
  | some c, some cs => some (c :: cs)
  | _, _ => none
end
theorem q8J : ∀ {xs : List V} {cs : List C}, q0i xs = some cs → cs.length = xs.length ∧ ∀ (i : Nat) (x : V) (c : C), xs[i]? = some x → cs[i]? = some c → b9 x = some c
 | [], cs, h => by simp [q0i] at h; subst h; simp
 | x :: xs, cs, h => by
  simp only [q0i] at h
  cases h1 : b9 x with
  | none => simp [h1] at h
  | some c =>
   cases h2 : q0i xs with
   | none => simp [h1, h2] at h
   | some cs' =>
    simp [h1, h2] at h
    subst h
    obtain ⟨a, b⟩ := q8J h2
    refine ⟨by simp [a], fun i y d hy hd => ?_⟩
    cases i with
    | zero => simp at hy hd; subst hy; subst hd; exact h1
    | succ i => exact b i y d (by simpa using hy) (by simpa using hd)
section
variable {Γ : G} {hm : Option Key}
mutual
theorem q2j : ∀ (x : V) {p : List Nat} {vs : List Value} {c : C}, q8 Γ hm p x vs → b9 x = some c → y4 Γ.H x.ty vs c
 | .d τ c, _, _, _, h, hc => by simp [b9] at hc; subst hc; simpa only [q8, V.ty] using h
 | .emp eb e, _, _, _, h, hc => by
  simp [b9] at hc; subst hc
  simp only [q8] at h
  obtain ⟨a, rfl⟩ := h
  exact r6 rfl (Nat.le_refl _) (Nat.zero_le _) (by rw [Nat.zero_mul]; exact Nat.zero_le _) (.inl rfl)
 | .sl eb e cs t, _, _, _, h, hc => by
  simp [b9] at hc; subst hc
  simp only [q8] at h
  obtain ⟨a, n, cap, rfl, h2, _⟩ := h
  exact h2
 | .ts eb e cs, _, _, _, h, hc => by
  simp [b9] at hc; subst hc
  simp only [q8] at h
  obtain ⟨a, n, cap, k, _, rfl, h2, _⟩ := h
  exact h2
 | .agg τ xs, _, vs, _, h, hc => by
  simp only [b9] at hc
  cases h1 : q0i xs with
  | none => simp [h1] at hc
  | some cs =>
   simp [h1] at hc; subst hc
   simp only [q8] at h
   obtain ⟨a1, a2, a3, a4, a5⟩ := h
   obtain ⟨b1, b2⟩ := q8J h1
   have kid := z3j xs a5 h1
   simp only [V.ty]
   cases τ <;> simp [Ty.isAgg] at a4
   case arr n e =>
    simp only [y4]
    refine ⟨cs, rfl, by rw [b1, a3]; rfl, by simpa [Ty.size] using a1, a2, fun i c hi => ?_⟩
    obtain ⟨o, f, k1, _, k3⟩ := kid i c hi
    simp only [Nat.zero_add, Ty.child] at k1
    split at k1
    ·simp at k1; obtain ⟨rfl, rfl⟩ := k1; exact k3
    ·cases k1
   case struct sz os fs =>
    simp only [y4]
    refine ⟨cs, rfl, by simpa [Ty.size] using a1, a2, k9.q57 (by rw [b1, a3]; rfl) fun i f c hf hi => ?_⟩
    obtain ⟨o, f', k1, k2, k3⟩ := kid i c hi
    simp only [Nat.zero_add, Ty.child] at k1
    cases ho : os[i]? with
    | none => simp [ho] at k1
    | some o' => simp [ho, hf] at k1; obtain ⟨rfl, rfl⟩ := k1; exact ⟨o', rfl, k2, k3⟩
 | .nilc, _, _, _, _, hc | .ptr _ _ _, _, _, _, _, hc | .cptr _ _, _, _, _, _, hc
 | .sr _ _ _ _ _ _ _, _, _, _, _, hc | .mp _, _, _, _, _, hc | .fn _ _, _, _, _, _, hc | .top _, _, _, _, _, hc | .any, _, _, _, _, hc | .tup _, _, _, _, _, hc => by simp [b9] at hc
theorem z3j : ∀ (xs : List V) {p : List Nat} {i0 : Nat} {τ : Ty} {vs : List Value} {cs : List C}, x9 Γ hm p i0 τ xs vs → q0i xs = some cs →
  ∀ (i : Nat) (c : C), cs[i]? = some c → ∃ o f, τ.child (i0 + i) = some (o, f) ∧ o + f.size ≤ vs.length ∧ y4 Γ.H f (chunk vs o f.size) c
 | [], _, _, _, _, _, _, h, i, c, hc => by simp [q0i] at h; subst h; simp at hc
 | x :: xs, _, i0, τ, vs, cs, h, hcs, i, c, hc => by
  simp only [x9] at h
  simp only [q0i] at hcs
  cases h1 : b9 x with
  | none => simp [h1] at hcs
  | some d =>
   cases h2 : q0i xs with
   | none => simp [h1, h2] at hcs
   | some ds =>
    simp [h1, h2] at hcs
    subst hcs
    cases i with
    | zero =>
     simp at hc; subst hc
     obtain ⟨⟨o, f, k1, k2, k3, k4⟩, _⟩ := h
     have := q2j x k4 h1
     rw [k2] at this
     exact ⟨o, f, k1, k3, this⟩
    | succ i =>
     have := z3j xs h.2 h2 i c (by simpa using hc)
     rw [show i0 + (i + 1) = i0 + 1 + i by omega]
     exact this
end
end
end Go.E
namespace Go.E
open Go
theorem s8 (vs : List Value) (o n i : Nat) : (chunk vs o n)[i]? = if i < n then vs[o + i]? else none := by
 simp [chunk, List.getElem?_take, List.getElem?_drop]
def s7 (vs : List Value) (o : Nat) (ws : List Value) : List Value := vs.take o ++ ws ++ vs.drop (o + ws.length)
theorem X4 {vs ws : List Value} {o : Nat} (h : o + ws.length ≤ vs.length) : (s7 vs o ws).length = vs.length := by
 simp [s7]; omega
theorem X2 {vs ws : List Value} {o : Nat} (h : o + ws.length ≤ vs.length) (i : Nat) :
  (s7 vs o ws)[i]? = if o ≤ i ∧ i < o + ws.length then ws[i - o]? else vs[i]? := by
 unfold s7
 by_cases h1 : i < o
 ·rw [if_neg (by omega), List.append_assoc, List.getElem?_append_left (by simp; omega), List.getElem?_take, if_pos h1]
 ·by_cases h2 : i < o + ws.length
  ·rw [if_pos (by omega), List.append_assoc, List.getElem?_append_right (by simp; omega), List.getElem?_append_left (by simp; omega)]
   simp only [List.length_take]
   congr 1; omega
  ·rw [if_neg (by omega), List.getElem?_append_right (by simp; omega), List.getElem?_drop]
   simp only [List.length_append, List.length_take]
   congr 1; omega
theorem q3X {vs ws : List Value} {o n : Nat} (h : o + ws.length ≤ vs.length) (hn : ws.length = n) : chunk (s7 vs o ws) o n = ws := by
 apply List.ext_getElem?
 intro i
 rw [s8, X2 h]
 split
 ·rw [if_pos (by omega)]; congr 1; omega
 ·rw [List.getElem?_eq_none (by omega)]
theorem q0s {vs ws : List Value} {o o' n : Nat} (h : o + ws.length ≤ vs.length) (hd : o' + n ≤ o ∨ o + ws.length ≤ o') : chunk (s7 vs o ws) o' n = chunk vs o' n := by
 apply List.ext_getElem?
 intro i
 rw [s8, s8, X2 h]
 split
 ·rw [if_neg (by omega)]
 ·rfl
theorem z5u {vs ws : List Value} {o o1 n1 o2 : Nat} (h : o1 + n1 ≤ vs.length) (hw : o2 + ws.length ≤ n1) (ho : o = o1 + o2) : chunk (s7 vs o ws) o1 n1 = s7 (chunk vs o1 n1) o2 ws := by
 subst ho
 apply List.ext_getElem?
 intro i
 have hl : (chunk vs o1 n1).length = n1 := k8 _ _ _ h
 rw [s8, X2 (by omega), X2 (by omega), s8]
 by_cases hi : i < n1
 ·rw [if_pos hi, if_pos hi]
  by_cases h2 : o2 ≤ i ∧ i < o2 + ws.length
  ·rw [if_pos (by omega), if_pos h2]; congr 1; omega
  ·rw [if_neg (by omega), if_neg h2]
 ·rw [if_neg hi, if_neg hi, if_neg (by omega)]
theorem q0K.s7 {vs ws : List Value} {o : Nat} (h1 : q0K vs) (h2 : q0K ws) : q0K (s7 vs o ws) := by
 intro v hv
 simp only [Go.E.s7, List.mem_append] at hv
 rcases hv with (hv | hv) | hv
 ·exact h1 v (List.mem_of_mem_take hv)
 ·exact h2 v hv
 ·exact h1 v (List.mem_of_mem_drop hv)
def q7Q (o n : Nat) : List Nat → List Ty → Bool
 | o' :: os, f :: fs => decide (o' + f.size ≤ o ∨ o + n ≤ o') && q7Q o n os fs
 | _, _ => true
def q7i : List Nat → List Ty → Bool
 | o :: os, f :: fs => q7Q o f.size os fs && q7i os fs
 | _, _ => true
mutual
def Ty.J4 : Ty → Bool
 | .struct _ os fs => q7i os fs && Ty.z5n fs
 | .arr _ e => e.J4
 | _ => true
def Ty.z5n : List Ty → Bool
 | [] => true
 | f :: fs => f.J4 && Ty.z5n fs
end
theorem z1R : ∀ {os : List Nat} {fs : List Ty} {o n j o' : Nat} {f : Ty}, q7Q o n os fs = true → os[j]? = some o' → fs[j]? = some f → o' + f.size ≤ o ∨ o + n ≤ o'
 | [], _, _, _, _, _, _, _, h, _ => by simp at h
 | _ :: _, [], _, _, _, _, _, _, _, h => by simp at h
 | o1 :: os, f1 :: fs, o, n, 0, o', f, h, h1, h2 => by
  simp only [q7Q, Bool.and_eq_true, decide_eq_true_eq] at h
  simp at h1 h2; subst h1; subst h2; exact h.1
 | o1 :: os, f1 :: fs, o, n, j + 1, o', f, h, h1, h2 => by
  simp only [q7Q, Bool.and_eq_true] at h
  exact z1R h.2 (show os[j]? = some o' by simpa using h1) (show fs[j]? = some f by simpa using h2)
theorem q8E : ∀ {os : List Nat} {fs : List Ty} {i j o o' : Nat} {f f' : Ty}, q7i os fs = true → i < j → os[i]? = some o → fs[i]? = some f → os[j]? = some o' → fs[j]? = some f' → o' + f'.size ≤ o ∨ o + f.size ≤ o'
 | [], _, _, _, _, _, _, _, _, _, h, _, _, _ => by simp at h
 | _ :: _, [], _, _, _, _, _, _, _, _, _, h, _, _ => by simp at h
 | o1 :: os, f1 :: fs, 0, j + 1, o, o', f, f', h, _, h1, h2, h3, h4 => by
  simp only [q7i, Bool.and_eq_true] at h
  simp at h1 h2; subst h1; subst h2
  exact z1R h.1 (show os[j]? = some o' by simpa using h3) (show fs[j]? = some f' by simpa using h4)
 | o1 :: os, f1 :: fs, i + 1, j + 1, o, o', f, f', h, hij, h1, h2, h3, h4 => by
  simp only [q7i, Bool.and_eq_true] at h
  exact q8E h.2 (show i < j by omega) (show os[i]? = some o by simpa using h1) (show fs[i]? = some f by simpa using h2) (show os[j]? = some o' by simpa using h3) (show fs[j]? = some f' by simpa using h4)
 | _ :: _, _ :: _, _, 0, _, _, _, _, _, hij, _, _, _, _ => by omega
theorem y1Q {os : List Nat} {fs : List Ty} {i j o o' : Nat} {f f' : Ty} (h : q7i os fs = true) (hij : i ≠ j) (h1 : os[i]? = some o) (h2 : fs[i]? = some f) (h3 : os[j]? = some o') (h4 : fs[j]? = some f') :
  o' + f'.size ≤ o ∨ o + f.size ≤ o' := by
 rcases Nat.lt_or_ge i j with h5 | h5
 ·exact q8E h h5 h1 h2 h3 h4
 ·have := q8E h (show j < i by omega) h3 h4 h1 h2
  omega
theorem z7w : ∀ {fs : List Ty} {i : Nat} {f : Ty}, Ty.z5n fs = true → fs[i]? = some f → f.J4 = true
 | [], _, _, _, h => by simp at h
 | f1 :: fs, 0, f, h, h1 => by simp only [Ty.z5n, Bool.and_eq_true] at h; simp at h1; subst h1; exact h.1
 | f1 :: fs, i + 1, f, h, h1 => by simp only [Ty.z5n, Bool.and_eq_true] at h; exact z7w h.2 (show fs[i]? = some f by simpa using h1)
def Ty.q2r : Ty → List Ty
 | .struct _ _ fs => fs
 | .arr n e => List.replicate n e
 | _ => []
def C.set : C → Nat → C → C
 | .agg cs, i, c => .agg (cs.set i c)
 | c, _, _ => c
def U8 (c : C) : Nat → List Ty → List V
 | _, [] => []
 | j, f :: fs => .d f (c.get j) :: U8 c (j + 1) fs
def V.set : V → Nat → V → V
 | .d τ c, i, .d _ c' => .d τ (c.set i c')
 | .d τ c, i, y => .agg τ ((U8 c 0 τ.q2r).set i y)
 | .agg τ vs, i, y => .agg τ (vs.set i y)
 | _, _, _ => .any
def V.setAt : V → List Nat → V → V
 | _, [], y => y
 | x, i :: q, y => x.set i ((x.get i).setAt q y)
theorem Ty.z7W (τ : Ty) : τ.q2r.length = τ.kids := by cases τ <;> simp [Ty.q2r, Ty.kids]
theorem y4.child {H : Hp} {τ f : Ty} {vs : List Value} {c : C} {i : Nat} (h : y4 H τ vs c) (hf : τ.q2r[i]? = some f) : ∃ o, τ.child i = some (o, f) := by
 cases τ <;> simp only [Ty.q2r, List.getElem?_nil, reduceCtorEq] at hf
 case arr n e =>
  rw [List.getElem?_replicate] at hf
  split at hf
  ·cases hf; rename_i hi; exact ⟨_, by simp only [Ty.child]; rw [if_pos hi]⟩
  ·cases hf
 case struct sz os fs =>
  simp only [y4] at h
  obtain ⟨cs, rfl, _, _, h3⟩ := h
  obtain ⟨o, c, a, _⟩ := h3.get hf
  exact ⟨o, by simp [Ty.child, a, hf]⟩
theorem y1k {τ f f' : Ty} {i j o o' : Nat} (hd : τ.J4 = true) (h1 : τ.child i = some (o, f)) (h2 : τ.child j = some (o', f')) (hij : i ≠ j) : o' + f'.size ≤ o ∨ o + f.size ≤ o' := by
 cases τ <;> simp only [Ty.child, reduceCtorEq] at h1 h2
 case arr n e =>
  split at h1 <;> simp at h1
  split at h2 <;> simp at h2
  obtain ⟨rfl, rfl⟩ := h1
  obtain ⟨rfl, rfl⟩ := h2
  rcases Nat.lt_or_ge j i with hlt | hge
  ·left
   have : (j + 1) * e.size ≤ i * e.size := Nat.mul_le_mul_right _ (by omega)
   rw [Nat.add_mul] at this; omega
  ·right
   have : (i + 1) * e.size ≤ j * e.size := Nat.mul_le_mul_right _ (by omega)
   rw [Nat.add_mul] at this; omega
 case struct sz os fs =>
  simp only [Ty.J4, Bool.and_eq_true] at hd
  cases ho : os[i]? with
  | none => simp [ho] at h1
  | some a =>
   cases hf : fs[i]? with
   | none => simp [ho, hf] at h1
   | some g =>
    cases ho' : os[j]? with
    | none => simp [ho'] at h2
    | some a' =>
     cases hf' : fs[j]? with
     | none => simp [ho', hf'] at h2
     | some g' =>
      simp [ho, hf] at h1
      simp [ho', hf'] at h2
      obtain ⟨rfl, rfl⟩ := h1
      obtain ⟨rfl, rfl⟩ := h2
      exact y1Q hd.1 hij ho hf ho' hf'
section
variable {Γ : G} {hm : Option Key}
theorem y4.set {H : Hp} {τ f : Ty} {vs ws : List Value} {c c' : C} {i o : Nat} (h : y4 H τ vs c) (hd : τ.J4 = true) (hc : τ.child i = some (o, f)) (hr : y4 H f ws c') :
  y4 H τ (s7 vs o ws) (c.set i c') := by
 have hwl := hr.length
 have hb := (h.get hc).2.1
 cases τ <;> simp only [Ty.child, reduceCtorEq] at hc
 case arr n e =>
  split at hc <;> simp at hc
  rename_i hi
  obtain ⟨rfl, rfl⟩ := hc
  simp only [y4] at h ⊢
  obtain ⟨cs, rfl, h1, h2, h3, h4⟩ := h
  refine ⟨cs.set i c', rfl, by simpa using h1, by rw [X4 (by omega)]; exact h2, h3.s7 hr.one, fun j cc hj => ?_⟩
  rw [List.getElem?_set] at hj
  split at hj
  ·rename_i hij
   subst hij
   split at hj
   ·cases hj
    rw [q3X (by omega) hwl]; exact hr
   ·cases hj
  ·rename_i hij
   have hjl : j < n := by rw [← h1]; exact (List.getElem?_eq_some_iff.1 hj).1
   rw [q0s (by omega)]
   ·exact h4 j cc hj
   ·rcases Nat.lt_or_ge j i with hlt | hge
    ·left
     have : (j + 1) * e.size ≤ i * e.size := Nat.mul_le_mul_right _ (by omega)
     rw [Nat.add_mul] at this; omega
    ·right
     have : (i + 1) * e.size ≤ j * e.size := Nat.mul_le_mul_right _ (by omega)
     rw [Nat.add_mul] at this; omega
 case struct sz os fs =>
  simp only [y4] at h ⊢
  simp only [Ty.J4, Bool.and_eq_true] at hd
  obtain ⟨cs, rfl, h1, h2, h3⟩ := h
  cases ho : os[i]? with
  | none => simp [ho] at hc
  | some o' =>
   cases hf : fs[i]? with
   | none => simp [ho, hf] at hc
   | some f' =>
    simp [ho, hf] at hc
    obtain ⟨rfl, rfl⟩ := hc
    have hl := h3.y1A
    refine ⟨cs.set i c', rfl, by rw [X4 (by omega)]; exact h1, h2.s7 hr.one, k9.q57 (by simpa using hl) fun j g cc hg hcc => ?_⟩
    rw [List.getElem?_set] at hcc
    obtain ⟨oj, cj, a, b, d, r⟩ := h3.get hg
    refine ⟨oj, a, by rw [X4 (by omega)]; exact d, ?_⟩
    split at hcc
    ·rename_i hij
     subst hij
     rw [hf] at hg; cases hg
     rw [ho] at a; cases a
     split at hcc
     ·cases hcc
      rw [q3X (by omega) hwl]; exact hr
     ·cases hcc
    ·rename_i hij
     rw [b] at hcc; cases hcc
     rw [q0s (by omega)]
     ·exact r
     ·have := y1Q hd.1 (fun e => hij e) ho hf a hg
      omega
theorem x9.q57 {p : List Nat} {τ : Ty} : ∀ {xs : List V} {i0 : Nat} {vs : List Value},
  (∀ (i : Nat) (x : V), xs[i]? = some x → ∃ o f, τ.child (i0 + i) = some (o, f) ∧ x.ty = f ∧ o + f.size ≤ vs.length ∧ q8 Γ hm (p ++ [i0 + i]) x (chunk vs o f.size)) → x9 Γ hm p i0 τ xs vs
 | [], _, _, _ => by simp [x9]
 | x :: xs, i0, vs, h => by
  simp only [x9]
  refine ⟨h 0 x rfl, x9.q57 fun i y hy => ?_⟩
  have := h (i + 1) y (by simpa using hy)
  rw [show i0 + 1 + i = i0 + (i + 1) by omega]; exact this
theorem q9g (c : C) : ∀ (fs : List Ty) (j i : Nat), (U8 c j fs)[i]? = (fs[i]?).map fun f => .d f (c.get (j + i))
 | [], _, _ => by simp [U8]
 | f :: fs, j, 0 => by simp [U8]
 | f :: fs, j, i + 1 => by
  simp only [U8, List.getElem?_cons_succ]
  rw [q9g c fs (j + 1) i, show j + (i + 1) = j + 1 + i by omega]
theorem q6U (c : C) : ∀ (fs : List Ty) (j : Nat), (U8 c j fs).length = fs.length
 | [], _ => rfl
 | f :: fs, j => by simp [U8, q6U c fs]
theorem y21 {τ : Ty} {c : C} {p : List Nat} {vs : List Value} (h : y4 Γ.H τ vs c) (ha : τ.isAgg = true) : q8 Γ hm p (.agg τ (U8 c 0 τ.q2r)) vs := by
 simp only [q8]
 refine ⟨h.length, h.one, by rw [q6U, Ty.z7W], ha, x9.q57 fun i x hx => ?_⟩
 rw [q9g] at hx
 cases hf : τ.q2r[i]? with
 | none => simp [hf] at hx
 | some f =>
  simp [hf] at hx
  subst hx
  obtain ⟨o, ho⟩ := h.child hf
  obtain ⟨_, h2, h3⟩ := h.get ho
  refine ⟨o, f, by simpa using ho, rfl, h2, ?_⟩
  simpa only [q8] using h3
theorem y4G {τ f : Ty} {i o : Nat} (h : τ.child i = some (o, f)) : τ.isAgg = true := by
 cases τ <;> simp [Ty.child] at h <;> rfl
theorem z5D {p : List Nat} {τ : Ty} {xs : List V} {y : V} {vs ws : List Value} {i o : Nat} (h : q8 Γ hm p (.agg τ xs) vs) (hd : τ.J4 = true) (hc : τ.child i = some (o, y.ty))
  (hr : q8 Γ hm (p ++ [i]) y ws) (hy : y.plain = true) (hb : o + y.ty.size ≤ vs.length) : q8 Γ hm p (.agg τ (xs.set i y)) (s7 vs o ws) := by
 simp only [q8] at h ⊢
 obtain ⟨h1, h2, h3, h4, h5⟩ := h
 have hwl := hr.length hy
 refine ⟨by rw [X4 (by omega)]; exact h1, h2.s7 (hr.one hy), by simpa using h3, h4, x9.q57 fun j x hx => ?_⟩
 rw [List.getElem?_set] at hx
 split at hx
 ·rename_i hij
  subst hij
  split at hx
  ·cases hx
   refine ⟨o, _, by simpa using hc, rfl, by rw [X4 (by omega)]; exact hb, ?_⟩
   rw [q3X (by omega) hwl]; simpa using hr
  ·cases hx
 ·rename_i hij
  obtain ⟨o', f', a, b, d, r⟩ := h5.get hx
  refine ⟨o', f', a, b, by rw [X4 (by omega)]; exact d, ?_⟩
  rw [q0s (by omega)]
  ·exact r
  ·rw [Nat.zero_add] at a
   have := y1k hd hc a hij
   omega
theorem q8.set {p : List Nat} {x y : V} {vs ws : List Value} {i o : Nat} (h : q8 Γ hm p x vs) (hd : x.ty.J4 = true) (hc : x.ty.child i = some (o, y.ty)) (hg : x.get i ≠ .any)
  (hr : q8 Γ hm (p ++ [i]) y ws) (hy : y.plain = true) : q8 Γ hm p (x.set i y) (s7 vs o ws) ∧ (x.set i y).ty = x.ty ∧ (x.set i y).plain = true := by
 have hb := (h.get hc hg).2.1
 have gen : ∀ {τ : Ty} {c : C}, x = .d τ c → q8 Γ hm p (.agg τ ((U8 c 0 τ.q2r).set i y)) (s7 vs o ws) := by
  intro τ c e
  subst e
  simp only [q8] at h
  simp only [V.ty] at hc hd
  exact z5D (y21 h (y4G hc)) hd hc hr hy hb
 cases x <;> (try (simp only [V.get, ne_eq, not_true_eq_false] at hg; done))
 case d τ c =>
  have := gen rfl
  cases y
  case d τ' c' =>
   simp only [V.set]
   refine ⟨?_, rfl, rfl⟩
   simp only [q8] at h hr ⊢
   simp only [V.ty] at hc hd
   exact h.set hd hc hr
  all_goals (simp only [V.set]; exact ⟨this, rfl, rfl⟩)
 case agg τ xs =>
  simp only [V.set]
  exact ⟨z5D h hd hc hr hy hb, rfl, rfl⟩
theorem y3h {τ f : Ty} {i o : Nat} (h : τ.J4 = true) (hc : τ.child i = some (o, f)) : f.J4 = true := by
 cases τ <;> simp only [Ty.child, reduceCtorEq] at hc
 case arr n e => split at hc <;> simp at hc; rw [← hc.2]; simpa [Ty.J4] using h
 case struct sz os fs =>
  simp only [Ty.J4, Bool.and_eq_true] at h
  cases ho : os[i]? with
  | none => simp [ho] at hc
  | some o' =>
   cases hf : fs[i]? with
   | none => simp [ho, hf] at hc
   | some f' => simp [ho, hf] at hc; rw [← hc.2]; exact z7w h.2 hf
theorem q8.setAt : ∀ {q : List Nat} {p : List Nat} {x y : V} {vs ws : List Value} {o : Nat}, q8 Γ hm p x vs → x.plain = true → x.ty.J4 = true → x.ty.walk q = some (o, y.ty) → x.at q ≠ .any →
  q8 Γ hm (p ++ q) y ws → y.plain = true →
  q8 Γ hm p (x.setAt q y) (s7 vs o ws) ∧ (x.setAt q y).ty = x.ty ∧ (x.setAt q y).plain = true
 | [], p, x, y, vs, ws, o, h, hp, hd, hw, hx, hr, hy => by
  simp [Ty.walk] at hw
  obtain ⟨rfl, ht⟩ := hw
  have h1 := h.length hp
  have h2 := hr.length hy
  have : s7 vs 0 ws = ws := by
   simp only [s7, List.take_zero, List.nil_append, Nat.zero_add]
   rw [List.drop_eq_nil_of_le (by rw [h1, h2, ht]; exact Nat.le_refl _)]; simp
  simp only [V.setAt, this]
  exact ⟨by simpa using hr, ht.symm, hy⟩
 | i :: q, p, x, y, vs, ws, o, h, hp, hd, hw, hx, hr, hy => by
  simp only [Ty.walk] at hw
  cases hc : x.ty.child i with
  | none => simp [hc] at hw
  | some of =>
   obtain ⟨o1, f⟩ := of
   simp only [hc] at hw
   cases hw2 : f.walk q with
   | none => simp [hw2] at hw
   | some ot =>
    obtain ⟨o2, t⟩ := ot
    simp only [hw2, Option.some.injEq, Prod.mk.injEq] at hw
    obtain ⟨rfl, rfl⟩ := hw
    have hne : x.get i ≠ .any := by
     intro e
     apply hx
     simp only [V.at, e]; exact V.z15 q
    obtain ⟨h1, h2, h3⟩ := h.get hc hne
    have hpl : (x.get i).plain = true := V.q28 h3 hne
    have _hget := q6z hc
    have ih := q8.setAt (q := q) h3 hpl (by rw [h1]; exact y3h hd hc) (by rw [h1]; exact hw2) (by simpa [V.at] using hx) (by simpa using hr) hy
    obtain ⟨i1, i2, i3⟩ := ih
    have hwl := hr.length hy
    have hb2 : o2 + y.ty.size ≤ f.size := by
     obtain ⟨_, hb, _⟩ := h3.at_ (by rw [h1]; exact hw2) (by simpa [V.at] using hx) hpl
     rwa [k8 _ _ _ h2] at hb
    have hset := q8.set (i := i) (o := o1) (y := (x.get i).setAt q y) h hd (by rw [i2, h1]; exact hc) hne i1 i3
    have e1 : s7 vs o1 (s7 (chunk vs o1 f.size) o2 ws) = s7 vs (o1 + o2) ws := by
     have hl1 : (chunk vs o1 f.size).length = f.size := k8 _ _ _ h2
     have hl2 : (s7 (chunk vs o1 f.size) o2 ws).length = f.size := by rw [X4 (by omega)]; exact hl1
     apply List.ext_getElem?
     intro j
     rw [X2 (vs := vs) (o := o1) (by omega), X2 (vs := vs) (o := o1 + o2) (ws := ws) (by omega), hl2]
     by_cases hj : o1 ≤ j ∧ j < o1 + f.size
     ·rw [if_pos hj, X2 (by omega), s8]
      by_cases hk : o1 + o2 ≤ j ∧ j < o1 + o2 + ws.length
      ·rw [if_pos (by omega), if_pos hk]; congr 1; omega
      ·rw [if_neg (by omega), if_neg hk, if_pos (by omega)]; congr 1; omega
     ·rw [if_neg hj, if_neg (by omega)]
    rw [e1] at hset
    simp only [V.setAt]
    exact hset
end
end Go.E
namespace Go.E
open Go
def s9 (P : Program) (o : Oper) (a : Act) (w : World) (o9 : Value → World → Prop) : Prop :=
 ∀ (next : Act → World → Prop) (Q : Exit → Act → World → Prop), (∀ v w', o9 v w' → next (a.put o.dst v) w') → o.wp P a w next Q
section
variable {P : Program} {o : Oper} {a : Act} {w w' : World} {o9 : Value → World → Prop}
theorem s9.val {v : Value} (h : (execOp a.eval o).run P w = .ok (.value v) w') (hp : o9 v w') : s9 P o a w o9 := by
 intro next Q hn
 unfold Oper.wp
 rw [h]
 exact hn v w' hp
theorem s9.skip (h : (execOp a.eval o).run P w = .ok .skip w') (hp : o9 undef w') : s9 P o a w o9 := by
 intro next Q hn
 unfold Oper.wp
 rw [h]
 exact hn _ w' hp
theorem s9.enter {f : FuncId} {args : Array Value} (h : (execOp a.eval o).run P w = .ok (.enter f args) w')
  (hc : Calls P f args w' fun e w'' => ∃ v, e = .returned v ∧ o9 v w'') : s9 P o a w o9 := by
 intro next Q hn
 unfold Oper.wp
 rw [h]
 refine Calls.mono hc ?_
 rintro e w'' ⟨v, rfl, hp⟩
 exact hn v w'' hp
theorem s9.mono {Post' : Value → World → Prop} (h : s9 P o a w o9) (hp : ∀ v w', o9 v w' → Post' v w') : s9 P o a w Post' :=
 fun next Q hn => h next Q fun v w' hv => hn v w' (hp v w' hv)
end
structure Ext (w w' : World) : Prop where
 size : w.heap.size ≤ w'.heap.size
 old : ∀ b, b < w.heap.size → w'.heap[b]? = w.heap[b]?
 oo : oof w' = oof w
theorem Ext.refl (w : World) : Ext w w := ⟨Nat.le_refl _, fun _ _ => rfl, rfl⟩
theorem Ext.trans {a b c : World} (h : Ext a b) (h' : Ext b c) : Ext a c :=
 ⟨Nat.le_trans h.size h'.size, fun x hx => (h'.old x (Nat.lt_of_lt_of_le hx h.size)).trans (h.old x hx), h'.oo.trans h.oo⟩
theorem Ext.alloc (w : World) (o : Obj) : Ext w (w.alloc o) := ⟨by simp, fun _ hb => heap_alloc_old w o hb, rfl⟩
theorem Ext.drew (w : World) : Ext w w.drew := ⟨Nat.le_refl _, fun _ _ => rfl, rfl⟩
def q0P {α : Type} (f : Key → Option α) (k : Key) (x : α) : Key → Option α := fun j => if j = k then some x else f j
def Q8 {α : Type} (f : Nat → Option α) (k : Nat) (x : α) : Nat → Option α := fun j => if j = k then some x else f j
theorem k7 {α : Type} (f : Nat → Option α) (k : Nat) (x : α) : Q8 f k x k = some x := by simp [Q8]
theorem U5 {α : Type} (f : Nat → Option α) {k j : Nat} (x : α) (h : j ≠ k) : Q8 f k x j = f j := by simp [Q8, h]
def o9 (Γ : G) (w : World) (s' : S) (x : V) (v : Value) (w' : World) : Prop :=
 ∃ Γ', GLe Γ Γ' ∧ j7 Γ Γ' ∧ y9 Γ' w' s' ∧ q9 Γ' x v
section
variable {Γ : G} {w w' : World} {s : S}
theorem y9.Zlt (c : y9 Γ w s) {b : Nat} (h : Γ.Z b ≠ none) : b < w.heap.size := by
 cases hk : Γ.Z b with
 | none => exact absurd hk h
 | some o => exact lt_of_heap (c.hZ b o hk)
theorem y9.congr (c : y9 Γ w s) {s' : S} (h1 : ∀ k, s'.obj k = s.obj k) (h2 : ∀ t, s'.live t = s.live t) (h3 : ∀ t, s.known t = true → s'.known t = true) : y9 Γ w s' :=
 ⟨c.hH, c.hZ, c.hκ, fun k o h => c.obj k o (by rw [← h1]; exact h), fun k h => by rw [h1]; exact c.dom k h, c.z1C (fun k h => by unfold S.c6 at h ⊢; rw [h1]; exact h), fun t L h => c.tok t L (by rw [← h2]; exact h), fun t h => h3 t (c.tdom t h), c.hgl, c.hoo, c.hσ⟩
theorem y9.σlt (c : y9 Γ w s) {b : Nat} {sz : Nat} (h : Γ.σ b = some sz) : b < w.heap.size := by
 obtain ⟨arr, T, fr, h1, _⟩ := c.hσ b sz h
 exact lt_of_heap h1
theorem y9.y4S (c : y9 Γ w s) (he : Ext w w') : ∀ b sz, Γ.σ b = some sz → ∃ arr T fr, w'.heap[b]? = some (.cells arr T fr) ∧ arr.size = sz := fun b sz h => by
 rw [he.old b (c.σlt h)]; exact c.hσ b sz h
theorem y9.env (c : y9 Γ w s) (e : List (Nat × V)) : y9 Γ w { s with env := e } := c.congr (fun _ => rfl) (fun _ => rfl) (fun _ h => h)
theorem y9.ext (c : y9 Γ w s) (he : Ext w w') : y9 Γ w' s := by
 refine c.change (j7.refl Γ) rfl rfl rfl he.oo (fun b l h => ?_) (fun b h => he.old b (c.Zlt h)) (fun b o sz h => ?_) (fun k o h => ?_) (fun _ h _ => h) c.dom (c.y4S he) c.inj c.tok c.tdom he.size
 ·rw [he.old b (c.Hlt (by rw [h]; simp))]; exact c.hH b l h
 ·rw [he.old b (c.κlt (by rw [h]; simp))]; exact c.hκ b o sz h
 ·refine .inl ⟨h, fun hd => ⟨fun b p sz _ => ⟨rfl, rfl⟩, fun b τ hb => ?_⟩⟩
  obtain ⟨a1, a2, a3, _⟩ := c.q0u hb h hd
  exact ⟨he.old b a3, a1⟩
theorem o9.same (c : y9 Γ w s) {x : V} {v : Value} (h : q9 Γ x v) : o9 Γ w s x v w := ⟨Γ, .refl Γ, .refl Γ, c, h⟩
theorem o9.ext (c : y9 Γ w s) (he : Ext w w') {x : V} {v : Value} (h : q9 Γ x v) : o9 Γ w s x v w' := ⟨Γ, .refl Γ, .refl Γ, c.ext he, h⟩
theorem q0z {α : Type} (n : Key) (x : α) (l : List (Key × α)) : z7 ((n, x) :: l) n = some x := by simp [z7]
theorem q3H {α : Type} (n : Nat) (x : α) (l : List (Nat × α)) : look ((n, x) :: l) n = some x := by simp [look]
theorem Q6 (s : S) (k j : Key) (o : O) : S.obj { s with loc := (k, o) :: s.loc } j = if k = j then some o else s.obj j := by
 unfold S.obj Z3
 by_cases h : k = j
 ·subst h; simp [z7]
 ·simp [z7, h]
theorem q93 {s : S} {k : Key} {o : O} (h : s.c6 k = true → o.H4 = true) (j : Key) (hj : s.c6 j = true) : S.c6 { s with loc := (k, o) :: s.loc } j = true := by
 unfold S.c6
 rw [Q6]
 split
 ·rename_i e; subst e; exact h hj
 ·exact hj
theorem q3h (s : S) (t u : Nat) (L : Option Nat) : S.live { s with tk := (t, L) :: s.tk } u = if t = u then L else s.live u := by
 unfold S.live F4
 by_cases h : t = u
 ·subst h; simp only [q3H, if_true]; cases L <;> rfl
 ·simp [look, h]
theorem q2g (s : S) (t u : Nat) (L : Option Nat) : S.known { s with tk := (t, L) :: s.tk } u = (decide (t = u) || s.known u) := by
 unfold S.known
 by_cases h : t = u
 ·subst h; simp [look]
 ·simp [look, h]
theorem y9.z0J (c : y9 Γ w s) {k : Key} (h : s.obj k = none) : Γ.ι k = none := by
 cases hk : Γ.ι k with
 | none => rfl
 | some x => exact absurd h (c.dom k (by rw [hk]; simp))
theorem y9.y3p (c : y9 Γ w s) {t : Nat} (h : s.known t = false) : Γ.τ t = none := by
 cases hk : Γ.τ t with
 | none => rfl
 | some x => have := c.tdom t (by rw [hk]; simp); rw [h] at this; cases this
def G.j4 (Γ : G) (k : Key) (b : Nat) (τ : Ty) : G := { Γ with ι := q0P Γ.ι k (b, τ) }
theorem y9.j4 (c : y9 Γ w s) {k : Key} (hn : s.obj k = none) (he : Ext w w') {τ : Ty} {o : O} (ho : ∀ Γ' : G, j7 Γ Γ' → q5F Γ Γ' (some k) → Γ'.ι k = some (w.heap.size, τ) → Γ'.H w.heap.size = none → Γ'.Z w.heap.size = none → Own Γ' w' k o) (hkl : ∀ i, k ≠ .g i := by intro i h; cases h) :
  y9 (Γ.j4 k w.heap.size τ) w' { s with loc := (k, o) :: s.loc } ∧ j7 Γ (Γ.j4 k w.heap.size τ) ∧ GLe Γ (Γ.j4 k w.heap.size τ) := by
 have hk := c.z0J hn
 have hι : ∀ j x, Γ.ι j = some x → (Γ.j4 k w.heap.size τ).ι j = some x := by
  intro j x hj
  have : j ≠ k := by intro e; subst e; rw [hk] at hj; cases hj
  simp [G.j4, q0P, this, hj]
 have hp : j7 Γ (Γ.j4 k w.heap.size τ) := ⟨Hp.le_refl _, hι, fun t x L h => ⟨x, L, h, Nat.le_refl _, fun _ => rfl⟩, fun _ _ h => h⟩
 refine ⟨?_, hp, ⟨Hp.le_refl _, rfl, fun _ _ => rfl, fun j x h => hι _ _ h, rfl, rfl, fun _ _ h => h, fun i h => by
  have : Key.g i ≠ k := fun e => hkl i e.symm
  simpa [G.j4, q0P, this] using h⟩⟩
 refine c.change hp rfl rfl rfl he.oo (fun b l h => ?_) (fun b h => he.old b (c.Zlt h)) (fun b o sz h => ?_) (fun j o' h => ?_) (fun j h h' => by
  have : j ≠ k := fun e => by subst e; exact h' hn
  simpa [G.j4, q0P, this] using h) (fun j h => ?_) (c.y4S he) (fun j j' b τ1 τ2 h1 h2 => ?_) c.tok c.tdom he.size
 ·have h' : Γ.H b = some l := h
  rw [he.old b (c.Hlt (by rw [h']; simp))]; exact c.hH b l h
 ·have h' : Γ.κ b = some (o, sz) := h
  rw [he.old b (c.κlt (by rw [h']; simp))]; exact c.hκ b o sz h
 ·rw [Q6] at h
  split at h
  ·rename_i e
   cases h; subst e
   refine .inr (ho _ hp (fun _ _ _ _ => ⟨rfl, rfl⟩) (by simp [G.j4, q0P]) ?_ ?_)
   ·cases hh : Γ.H w.heap.size with
    | none => exact hh
    | some l => exact absurd (c.Hlt (by rw [hh]; simp)) (Nat.lt_irrefl _)
   ·cases hh : Γ.Z w.heap.size with
    | none => exact hh
    | some l => exact absurd (c.Zlt (by rw [hh]; simp)) (Nat.lt_irrefl _)
  ·refine .inl ⟨h, fun hd => ⟨fun b p sz _ => ⟨rfl, rfl⟩, fun b τ hb => ?_⟩⟩
   obtain ⟨a1, a2, a3, _⟩ := c.q0u hb h hd
   exact ⟨he.old b a3, a1⟩
 ·rw [Q6]
  split
  ·simp
  ·rename_i e
   refine c.dom j ?_
   have : j ≠ k := fun h => e h.symm
   simpa [G.j4, q0P, this] using h
 ·have key : ∀ j b τ', (Γ.j4 k w.heap.size τ).ι j = some (b, τ') → (j = k ∧ b = w.heap.size) ∨ (j ≠ k ∧ Γ.ι j = some (b, τ') ∧ b < w.heap.size) := by
   intro j b τ' h
   by_cases hjk : j = k
   ·left; simp [G.j4, q0P, hjk] at h; exact ⟨hjk, h.1.symm⟩
   ·right
    have h' : Γ.ι j = some (b, τ') := by simpa [G.j4, q0P, hjk] using h
    obtain ⟨_, _, _, hlt, _⟩ := c.y3q h'
    exact ⟨hjk, h', hlt⟩
  rcases key j b τ1 h1 with ⟨e1, e2⟩ | ⟨e1, e2, e3⟩ <;> rcases key j' b τ2 h2 with ⟨f1, f2⟩ | ⟨f1, f2, f3⟩
  ·exact .inl (by rw [e1, f1])
  ·omega
  ·omega
  ·refine (c.inj _ _ _ _ _ e2 f2).imp id (And.imp (Or.imp (fun h => ?_) (fun h => ?_)) id)
   ·unfold S.c6 at h ⊢; rw [Q6, if_neg (fun e => e1 e.symm)]; exact h
   ·unfold S.c6 at h ⊢; rw [Q6, if_neg (fun e => f1 e.symm)]; exact h
theorem z6c (c : y9 Γ w s) {n : Nat} (hn : s.obj (.l n) = none) {x : V} {cells : Array Value} {T : TypeId} (he : Ext w w') (hw : w'.heap[w.heap.size]? = some (.cells cells T (0, 0))) (hsz : x.ty.size ≤ cells.size)
  (hx : q8 Γ none [] x (chunk cells.toList 0 x.ty.size)) (hp : x.plain = true) (hns : x.r8 = true) :
  o9 Γ w { s with loc := (.l n, .box x) :: s.loc } (.ptr (.l n) [] x.ty) (.pointer (some ⟨w.heap.size, 0, none⟩)) w' := by
 obtain ⟨h1, h2, h3⟩ := c.j4 hn he (τ := x.ty) (o := .box x) fun Γ' hpr _ hι hH hZ => ⟨_, cells, T, hι, hH, hZ, hw, hsz, (hx.b5 hpr (by trivial)).Y2, hp, hns⟩
 exact ⟨_, h3, h2, h1, q2C (τ0 := x.ty) (by simp [G.j4, q0P]) rfl⟩
def G.q0X (Γ : G) (b : Nat) (l : List Value) : G := { Γ with H := Q8 Γ.H b l }
theorem y9.q0X (c : y9 Γ w s) (he : Ext w w') {arr : Array Value} {T : TypeId} {fr : Nat × Nat} {l r : List Value} (hw : w'.heap[w.heap.size]? = some (.cells arr T fr)) (hl : arr.toList = l ++ r) :
  y9 (Γ.q0X w.heap.size l) w' s ∧ j7 Γ (Γ.q0X w.heap.size l) ∧ GLe Γ (Γ.q0X w.heap.size l) := by
 have oH : ∀ b, b < w.heap.size → (Γ.q0X w.heap.size l).H b = Γ.H b := fun b hb => U5 _ _ (by omega)
 have hle : Γ.H.le (Γ.q0X w.heap.size l).H := fun b l' h => ⟨[], by rw [oH b (c.Hlt (by rw [h]; simp)), h]; simp⟩
 have hp : j7 Γ (Γ.q0X w.heap.size l) := ⟨hle, fun _ _ h => h, fun t x L h => ⟨x, L, h, Nat.le_refl _, fun _ => rfl⟩, fun _ _ h => h⟩
 refine ⟨?_, hp, ⟨hle, rfl, fun b h => oH b (c.Zlt h), fun _ _ h => h, rfl, rfl, fun _ _ h => h, fun _ h => h⟩⟩
 refine c.change hp rfl rfl rfl he.oo (fun b l' h => ?_) (fun b h => he.old b (c.Zlt h)) (fun b o sz h => ?_) (fun k o h => ?_) (fun _ h _ => h) c.dom (c.y4S he) c.inj (fun t L h => ?_) c.tdom he.size
 ·by_cases hb : b = w.heap.size
  ·subst hb
   simp [G.q0X, Q8] at h; subst h
   exact ⟨arr, T, fr, r, hw, hl⟩
  ·have h' : Γ.H b = some l' := by simpa [G.q0X, Q8, hb] using h
   rw [he.old b (c.Hlt (by rw [h']; simp))]; exact c.hH b l' h'
 ·have h' : Γ.κ b = some (o, sz) := h
  have hlt := c.κlt (by rw [h']; simp)
  rw [he.old b hlt, oH b hlt]; exact c.hκ b o sz h
 ·refine .inl ⟨h, fun hd => ⟨fun b p sz hb => ⟨rfl, oH b (c.κlt (by rw [hb]; simp))⟩, fun b τ hb => ?_⟩⟩
  obtain ⟨a1, a2, a3, _⟩ := c.q0u hb h hd
  exact ⟨he.old b a3, by rw [oH b a3]; exact a1⟩
 ·obtain ⟨x, h1, h2⟩ := c.tok t L h
  refine ⟨x, h1, fun b pos sz hx => ?_⟩
  obtain ⟨a1, a2⟩ := h2 b pos sz hx
  rw [oH b (c.κlt (by rw [a2]; simp))]
  exact ⟨a1, a2⟩
def G.q6S (Γ : G) (b sz : Nat) : G := { Γ with σ := Q8 Γ.σ b sz }
theorem y9.q6S (c : y9 Γ w s) {b : Nat} {arr : Array Value} {T : TypeId} {fr : Nat × Nat} (hw : w.heap[b]? = some (.cells arr T fr)) :
  y9 (Γ.q6S b arr.size) w s ∧ j7 Γ (Γ.q6S b arr.size) ∧ GLe Γ (Γ.q6S b arr.size) := by
 have hσ : ∀ b' sz, Γ.σ b' = some sz → (Γ.q6S b arr.size).σ b' = some sz := by
  intro b' sz h
  by_cases e : b' = b
  ·subst e
   obtain ⟨arr', T', fr', a1, a2⟩ := c.hσ b' sz h
   rw [hw] at a1; cases a1
   rw [← a2]; exact k7 _ _ _
  ·exact (U5 _ _ e).trans h
 have hp : j7 Γ (Γ.q6S b arr.size) := ⟨Hp.le_refl _, fun _ _ h => h, fun t x L h => ⟨x, L, h, Nat.le_refl _, fun _ => rfl⟩, hσ⟩
 refine ⟨?_, hp, ⟨Hp.le_refl _, rfl, fun _ _ => rfl, fun _ _ h => h, rfl, rfl, hσ, fun _ h => h⟩⟩
 refine c.change hp rfl rfl rfl rfl c.hH (fun _ _ => rfl) c.hκ (fun k o h => ?_) (fun _ h _ => h) c.dom (fun b' sz h => ?_) c.inj c.tok c.tdom (Nat.le_refl _)
 ·refine .inl ⟨h, fun hd => ⟨fun b p sz _ => ⟨rfl, rfl⟩, fun b τ hb => ?_⟩⟩
  obtain ⟨a1, a2, a3, _⟩ := c.q0u hb h hd
  exact ⟨rfl, a1⟩
 ·by_cases e : b' = b
  ·subst e
   have : arr.size = sz := by
    have h' : Q8 Γ.σ b' arr.size b' = some sz := h
    rw [k7] at h'; exact Option.some.inj h'
   exact ⟨arr, T, fr, hw, this⟩
  ·exact c.hσ b' sz ((U5 _ _ e).symm.trans h)
def G.W4 (Γ : G) (t : Nat) (x : Option (Nat × Nat × Nat)) (L : Nat) : G :=
 { Γ with τ := Q8 Γ.τ t (x, L), κ := match x with | none => Γ.κ | some (b, _, sz) => Q8 Γ.κ b (.tok t, sz) }
theorem y9.W4 (c : y9 Γ w s) {t : Nat} (ht : s.known t = false) {x : Option (Nat × Nat × Nat)} {L : Nat}
  (hx : ∀ b pos sz, x = some (b, pos, sz) → Γ.κ b = none ∧ Γ.Z b = none ∧ (∃ l, Γ.H b = some l ∧ l.length = pos) ∧ ∃ arr T, w.heap[b]? = some (.cells arr T (0, 0)) ∧ arr.size = sz) :
  y9 (Γ.W4 t x L) w { s with tk := (t, some L) :: s.tk } ∧ j7 Γ (Γ.W4 t x L) ∧ GLe Γ (Γ.W4 t x L) := by
 have hτ := c.y3p ht
 have oκ : ∀ b o, Γ.κ b = some o → (Γ.W4 t x L).κ b = some o := by
  intro b o h
  cases x with
  | none => exact h
  | some y =>
   obtain ⟨b', pos, sz⟩ := y
   have : b ≠ b' := by intro e; subst e; rw [(hx b pos sz rfl).1] at h; cases h
   simp [G.W4, Q8, this, h]
 have hp : j7 Γ (Γ.W4 t x L) := ⟨Hp.le_refl _, fun _ _ h => h, fun u y M h => by
  have : u ≠ t := by intro e; subst e; rw [hτ] at h; cases h
  exact ⟨y, M, by simp [G.W4, Q8, this, h], Nat.le_refl _, fun _ => rfl⟩, fun _ _ h => h⟩
 refine ⟨?_, hp, ⟨Hp.le_refl _, rfl, fun _ _ => rfl, fun _ _ h => h, rfl, rfl, fun _ _ h => h, fun _ h => h⟩⟩
 refine c.change hp rfl rfl rfl rfl c.hH (fun b _ => rfl) (fun b o sz h => ?_) (fun k o h => ?_) (fun _ h _ => h) c.dom c.hσ c.inj (fun u M h => ?_) (fun u h => ?_) (Nat.le_refl _)
 ·cases hk : Γ.κ b with
  | some o' => rw [oκ b o' hk] at h; cases h; exact c.hκ b o sz hk
  | none =>
   cases x with
   | none => have h' : Γ.κ b = some (o, sz) := h; rw [hk] at h'; cases h'
   | some y =>
    obtain ⟨b', pos, sz'⟩ := y
    by_cases e : b = b'
    ·subst e
     simp [G.W4, Q8] at h
     obtain ⟨_, a2, ⟨l, a3, _⟩, a4⟩ := hx b pos sz' rfl
     rw [← h.2]
     obtain ⟨arr, T, q1, q2⟩ := a4
     exact ⟨a2, by show Γ.H b ≠ none; rw [a3]; simp, arr, T, q1, q2, by rw [← h.1]; trivial⟩
    ·simp [G.W4, Q8, e, hk] at h
 ·refine .inl ⟨h, fun hd => ⟨fun b p sz hb => ⟨by rw [oκ b _ hb, hb], rfl⟩, fun b τ hb => ?_⟩⟩
  obtain ⟨a1, a2, a3, _⟩ := c.q0u hb h hd
  exact ⟨rfl, a1⟩
 ·rw [q3h] at h
  split at h
  ·rename_i e
   subst e; cases h
   refine ⟨x, by simp [G.W4, Q8], fun b pos sz e => ?_⟩
   obtain ⟨a1, a2, a3, a4⟩ := hx b pos sz e
   subst e
   exact ⟨a3, by simp [G.W4, Q8]⟩
  ·rename_i e
   obtain ⟨y, h1, h2⟩ := c.tok u M h
   have e' : u ≠ t := fun h' => e h'.symm
   refine ⟨y, by simp [G.W4, Q8, e', h1], fun b pos sz hy => ?_⟩
   obtain ⟨a1, a2⟩ := h2 b pos sz hy
   exact ⟨a1, oκ b _ a2⟩
 ·rw [q2g]
  by_cases e : t = u
  ·simp [e]
  ·simp only [e, decide_false, Bool.false_or]
   have e' : u ≠ t := fun h' => e h'.symm
   refine c.tdom u ?_
   simpa [G.W4, Q8, e'] using h
end
end Go.E
namespace Go.E
open Go
def Y3 (s : S) : V → Option (Nat × Ty × List C)
 | .sr k q lo n _ eb e => match s.obj k with
  | some (.box x) => match x.at q with
   | .d _ c => some (eb, e, (c.elems.drop lo).take n)
   | _ => none
  | _ => none
 | x => x.q1l
theorem q1T {H : Hp} {e : Ty} {ys : List C} {m : Nat} {news : List Value} (h1 : ys.length = m) (hl : news.length = m * e.size) (hr : ∀ i c', ys[i]? = some c' → y4 H e (chunk news (i * e.size) e.size) c') : q0K news := by
 intro v hv
 obtain ⟨j, hj⟩ := List.getElem?_of_mem hv
 have hjl : j < m * e.size := by rw [← hl]; exact (List.getElem?_eq_some_iff.1 hj).1
 have hs : 0 < e.size := by rcases Nat.eq_zero_or_pos e.size with h | h; · rw [h, Nat.mul_zero] at hjl; omega
                            ·exact h
 have hi : j / e.size < ys.length := by rw [h1]; exact (Nat.div_lt_iff_lt_mul hs).2 hjl
 have hdm := Nat.div_add_mod j e.size
 have hmod := Nat.mod_lt j hs
 refine (hr _ _ (List.getElem?_eq_getElem hi)).one v (List.mem_of_getElem? (i := j % e.size) ?_)
 rw [s8, if_pos hmod, Nat.mul_comm, hdm]; exact hj
section
variable {P : Program} {Γ : G} {w : World} {s : S}
theorem z0z {b off k : Nat} {arr : Array Value} {T : TypeId} {fr : Nat × Nat} {l r : List Value} (hb : w.heap[b]? = some (.cells arr T fr)) (hl : arr.toList = l ++ r) {j : Nat} {u : Value} (h : (chunk l off k)[j]? = some u) :
  w.cell? ⟨b, off + j, none⟩ = some u := by
 rw [s8] at h
 split at h
 ·have hlt := (List.getElem?_eq_some_iff.1 h).1
  have : arr[off + j]? = some u := by
   rw [← Array.getElem?_toList, hl, List.getElem?_append_left hlt]; exact h
  simp [World.cell?, hb, this]
 ·cases h
theorem z4d (c : y9 Γ w s) {Y : V} {v : Value} {eb : Nat} {e : Ty} {ys : List C} (hr : q9 Γ Y v) (he : Y3 s Y = some (eb, e, ys)) {tx E' : TypeId} (hu : P.underlying tx = some (.slice E')) :
  ∃ n news, Src P e.size tx v n news w ∧ ys.length = n ∧ n ≤ maxLen ∧ n * eb ≤ 140737488355328 ∧ ∀ i c', ys[i]? = some c' → y4 Γ.H e (chunk news (i * e.size) e.size) c' := by
 -- a slice that is known as data
 have frozen : ∀ {eb : Nat} {e : Ty} {ys : List C}, Y.q1l = some (eb, e, ys) → ∃ n news, Src P e.size tx v n news w ∧ ys.length = n ∧ n ≤ maxLen ∧ n * eb ≤ 140737488355328 ∧ ∀ i c', ys[i]? = some c' → y4 Γ.H e (chunk news (i * e.size) e.size) c' := by
  intro eb e ys he
  obtain ⟨a, n, cap, rfl, h1, h2, h3, h4, h5⟩ := q00 hr he
  obtain ⟨a', n', cap', e1, _, e2, e3, e4, e5, e6⟩ := J9 h5
  simp at e1
  obtain ⟨rfl, rfl, rfl⟩ := e1
  simp only [C.elems] at e6
  have hz : ∀ {ad : Addr}, n = 0 → Src P e.size tx (.slice (some ad) n cap) n [] w := by
   intro ad h0
   subst h0
   exact Src.ofSlice w hu _ 0 cap [] (by simp) (by simp) (by simp)
  by_cases h0 : n = 0
  ·refine ⟨n, [], ?_, h1, by omega, h4, fun i c' hi => ?_⟩
   ·cases a with
    | none => subst h0; exact Src.ofNil w hu cap
    | some ad => exact hz h0
   ·have := (List.getElem?_eq_some_iff.1 hi).1; omega
  ·rcases e6 with e6 | ⟨b, off, l, rfl, hb, hs, hc⟩
   ·exact absurd e6 h0
   ·obtain ⟨arr, T, fr, r, hw, hl⟩ := c.hH b l hb
    have hnl : (chunk l off (n * e.size)).length = n * e.size := k8 _ _ _ hs
    have hrep : ∀ i c', ys[i]? = some c' → y4 Γ.H e (chunk (chunk l off (n * e.size)) (i * e.size) e.size) c' := by
     intro i c' hi
     have hil : i < n := by rw [← h1]; exact (List.getElem?_eq_some_iff.1 hi).1
     have hle : (i + 1) * e.size ≤ n * e.size := Nat.mul_le_mul_right _ hil
     rw [Nat.add_mul] at hle
     rw [c8 _ _ _ _ _ (by omega)]; exact hc i c' hi
    exact ⟨n, chunk l off (n * e.size), Src.ofSlice w hu _ n cap _ hnl (fun j u hj => by rw [addr_add]; exact z0z hw hl hj) (q1T h1 hnl hrep), h1, by omega, h4, hrep⟩
 cases Y <;> (try exact frozen he)
 case sr k q lo n cp eb' e' =>
  simp only [Y3] at he
  cases ho : s.obj k with
  | none => simp [ho] at he
  | some o =>
   cases o with
   | map => simp [ho] at he
   | it => simp [ho] at he
   | dead => simp [ho] at he
   | box x =>
    simp only [ho] at he
    cases hx : x.at q with
    | d τ cc =>
     simp only [hx, Option.some.injEq, Prod.mk.injEq] at he
     obtain ⟨rfl, rfl, rfl⟩ := he
     rcases q0x hr with ⟨_, rfl, a, rfl⟩ | ⟨b, τ0, o0, m, cap, a, a1, a2, a3, rfl, a4, a5, a6, a7, _⟩
     ·refine ⟨0, [], ?_, by simp, by unfold maxLen; omega, by rw [Nat.zero_mul]; exact Nat.zero_le _, fun i c' hi => by simp at hi⟩
      cases a with
      | none => exact Src.ofNil w hu 0
      | some ad => exact Src.ofSlice w hu _ 0 0 [] (by simp) (by simp) (by simp)
     obtain ⟨b', cells, T, g1, g2, g3, g4, g5, g6, g7, _⟩ := c.own a1 ho
     rw [a1] at g1; cases g1
     obtain ⟨q1, q2, q3⟩ := g6.at_ a2 (by rw [hx]; simp) g7
     rw [hx] at q1 q3
     simp only [V.ty] at q1
     subst q1
     simp only [q8, y4] at q3
     obtain ⟨cs, rfl, r1, r2, r3, r4⟩ := q3
     simp only [C.elems]
     rw [k8 _ _ _ (by simpa using g5)] at q2
     have hlen : ((cs.drop lo).take n).length = n := by simp; omega
     have hmul : (lo + n) * e'.size ≤ m * e'.size := Nat.mul_le_mul_right _ a3
     rw [Nat.add_mul] at hmul
     simp only [Ty.size] at q2 r2 r4
     have hall : o0 + lo * e'.size + n * e'.size ≤ cells.toList.length := by simp; omega
     have hnl : (chunk cells.toList (o0 + lo * e'.size) (n * e'.size)).length = n * e'.size := k8 _ _ _ hall
     have hrep : ∀ i c', ((cs.drop lo).take n)[i]? = some c' → y4 Γ.H e' (chunk (chunk cells.toList (o0 + lo * e'.size) (n * e'.size)) (i * e'.size) e'.size) c' := by
      intro i c' hi
      rw [List.getElem?_take] at hi
      split at hi
      ·rename_i hin
       rw [List.getElem?_drop] at hi
       have := r4 _ _ hi
       have hle : (i + 1) * e'.size ≤ n * e'.size := Nat.mul_le_mul_right _ hin
       have hle2 : (lo + i + 1) * e'.size ≤ m * e'.size := Nat.mul_le_mul_right _ (by omega)
       rw [Nat.add_mul, Nat.add_mul] at hle2
       rw [Nat.add_mul] at hle this
       rw [c8 _ _ _ _ _ (by omega), c8 _ _ _ _ _ (by omega)] at this
       rw [c8 _ _ _ _ _ (by omega)]
       rw [show 0 + (o0 + (lo * e'.size + i * e'.size)) = o0 + lo * e'.size + i * e'.size by omega] at this
       exact this
      ·cases hi
     rcases Nat.eq_zero_or_pos n with h0 | h0
     ·subst h0
      refine ⟨0, [], ?_, hlen, by omega, by rw [Nat.zero_mul]; exact Nat.zero_le _, fun i c' hi => by simp at hi⟩
      cases a with
      | none => exact Src.ofNil w hu cap
      | some ad => exact Src.ofSlice w hu _ 0 cap [] (by simp) (by simp) (by simp)
     ·have ha : a = some ⟨b, o0 + lo * e'.size, none⟩ := by rcases a4 with h | h; · omega
                                                            ·exact h
      subst ha
      exact ⟨n, _, Src.ofSlice w hu _ n cap _ hnl (fun j u hj => by rw [addr_add]; exact z0z (r := []) g4 (by simp) hj) (q1T hlen hnl hrep), hlen, by omega, a7, hrep⟩
    | _ => simp [hx] at he
theorem y61 {Y : V} {v : Value} (hr : q9 Γ Y v) (hY : Y.isStr) {tx : TypeId} (hu : P.underlying tx = some .string) :
  ∃ n news, Src P 1 tx v n news w ∧ (Y.toStr.map fun b => C.int b.toNat).length = n ∧ n ≤ maxLen ∧ n * 1 ≤ 140737488355328 ∧
   ∀ i c', (Y.toStr.map fun b => C.int b.toNat)[i]? = some c' → y4 Γ.H (.int .u8) (chunk news (i * 1) 1) c' := by
 obtain ⟨cc, rfl⟩ := V.q4k hY
 obtain ⟨rfl, _, hl⟩ := W1 hr
 have hsz : (⟨cc.toStr.toArray⟩ : ByteArray).size = cc.toStr.length := by simp [ByteArray.size]
 refine ⟨cc.toStr.length, byteCells ⟨cc.toStr.toArray⟩, ?_, by simp [V.toStr], by unfold maxLen; omega, by omega, fun i c' hi => ?_⟩
 ·have := Src.ofString w hu (⟨cc.toStr.toArray⟩ : ByteArray)
  rwa [hsz] at this
 ·simp only [V.toStr, List.getElem?_map] at hi
  cases hc : cc.toStr[i]? with
  | none => simp [hc] at hi
  | some b =>
   simp [hc] at hi
   subst hi
   have : chunk (byteCells ⟨cc.toStr.toArray⟩) (i * 1) 1 = [.int .u8 b.toNat] := by
    apply List.ext_getElem?
    intro j
    rw [s8]
    by_cases hj : j < 1
    ·have : j = 0 := by omega
     subst this
     simp [byteCells, hc]
    ·simp [hj]
   rw [this]
   simp only [y4]
   refine ⟨_, rfl, rfl, ?_, ?_⟩
   ·have : IntKind.u8.min = 0 := by decide
    omega
   ·have : IntKind.u8.max = 255 := by decide
    have := b.toNat_lt
    omega
end
theorem q8z {H : Hp} {e : Ty} {n m : Nat} {xs ys : List C} {olds news rest : List Value} (h1 : xs.length = n) (h2 : ys.length = m) (h3 : olds.length = n * e.size) (h4 : news.length = m * e.size)
  (hx : ∀ i c', xs[i]? = some c' → y4 H e (chunk olds (i * e.size) e.size) c') (hy : ∀ i c', ys[i]? = some c' → y4 H e (chunk news (i * e.size) e.size) c') :
  ∀ i c', (xs ++ ys)[i]? = some c' → y4 H e (chunk (olds ++ news ++ rest) (i * e.size) e.size) c' := by
 intro i c' hi
 by_cases hlt : i < n
 ·rw [List.getElem?_append_left (by omega)] at hi
  have := hx i c' hi
  have hb : (i + 1) * e.size ≤ n * e.size := Nat.mul_le_mul_right _ (by omega)
  rw [Nat.add_mul] at hb
  rw [List.append_assoc, q10 _ _ _ _ (by omega)]; exact this
 ·rw [List.getElem?_append_right (by omega), h1] at hi
  have hil : i - n < m := by rw [← h2]; exact (List.getElem?_eq_some_iff.1 hi).1
  have := hy _ c' hi
  have hb : (i - n + 1) * e.size ≤ m * e.size := Nat.mul_le_mul_right _ (by omega)
  rw [Nat.add_mul] at hb
  have hmul : i * e.size = n * e.size + (i - n) * e.size := by rw [← Nat.add_mul]; congr 1; omega
  have e1 : chunk (olds ++ news ++ rest) (i * e.size) e.size = chunk news ((i - n) * e.size) e.size := by
   simp only [chunk, List.append_assoc]
   rw [hmul, ← h3, List.drop_append, List.drop_eq_nil_of_le (by omega), List.nil_append, Nat.add_sub_cancel_left, List.drop_append_of_le_length (by omega), List.take_append_of_le_length (by simp; omega)]
  rw [e1]; exact this
end Go.E
namespace Go.E
open Go
def v7 (P : Program) (T : TypeId) : TypeId := match P.underlying T with
 | some (.slice e) => e
 | _ => 0
section
variable {P : Program} {Γ : G} {w w' : World} {s : S}
theorem q11 (hP : u3 P = true) {T : TypeId} {eb : Nat} {e : Ty} (h : ty P T = .slice eb e) :
  P.underlying T = some (.slice (v7 P T)) ∧ e = tyF P 11 (v7 P T) ∧ eb = P.bytesOf (v7 P T) ∧ v7 P T < P.types.size := by
 obtain ⟨E, h1, h2, h3, h4⟩ := q01 hP h
 have : v7 P T = E := by simp [v7, h1]
 rw [this]; exact ⟨h1, h2, h3, h4⟩
theorem q4p {T : TypeId} (h : Q0 P T = true) : ∃ i z, P.info? T = some i ∧ i.zero = some z ∧ U1 (ty P T) z.cells.toList = true ∧ U1 (tyF P 11 T) z.cells.toList = true := by
 unfold Q0 at h
 cases hi : P.info? T with
 | none => simp [hi] at h
 | some i =>
  cases hz : i.zero with
  | none => simp [hi, hz] at h
  | some z => simp [hi, hz] at h; exact ⟨i, z, rfl, hz, h.1.1, h.2⟩
theorem q0C {τ : Ty} {vs : List Value} (h : U1 τ vs = true) : vs.length = τ.size := (W8 (H := fun _ => none) h).length
theorem z0X {w w' : World} {b : Nat} {o : Obj} (hw : w'.heap[b]? = some o) (oth : ∀ b', b' ≠ b → w'.heap[b']? = w.heap[b']?) : w.heap.size ≤ w'.heap.size := by
 cases Nat.lt_or_ge w'.heap.size w.heap.size with
 | inr h => exact h
 | inl hlt =>
  have h1 := lt_of_heap hw
  have h3 := oth w'.heap.size (by omega)
  rw [Array.getElem?_eq_none (Nat.le_refl _), Array.getElem?_eq_getElem hlt] at h3
  cases h3
theorem y9.y7s (c : y9 Γ w s) {t L L' b pos sz : Nat} {l ws r : List Value} {arr' : Array Value} {T : TypeId} (hl : s.live t = some L) (hτ : Γ.τ t = some (some (b, pos, sz), L)) (hw : w'.heap[b]? = some (.cells arr' T (0, 0)))
  (hH : Γ.H b = some l) (hκ : Γ.κ b = some (.tok t, sz)) (harr : arr'.toList = l ++ ws ++ r) (hsz : arr'.size = sz) (oth : ∀ b', b' ≠ b → w'.heap[b']? = w.heap[b']?) (hLL : L < L') (hoo : oof w' = oof w) :
  ∃ Γ', Γ'.H b = some (l ++ ws) ∧ Γ'.τ t = some (some (b, (l ++ ws).length, sz), L') ∧ y9 Γ' w' { s with tk := (t, some L') :: s.tk } ∧ j7 Γ Γ' ∧ GLe Γ Γ' := by
 have hz : Γ.Z b = none := (c.hκ b _ _ hκ).1
 refine ⟨{ Γ with H := Q8 Γ.H b (l ++ ws), τ := Q8 Γ.τ t (some (b, (l ++ ws).length, sz), L') }, k7 _ _ _, k7 _ _ _, ?_⟩
 have hle : Γ.H.le (Q8 Γ.H b (l ++ ws)) := by
  intro b' l' h
  by_cases e : b' = b
  ·subst e; rw [hH] at h; cases h; exact ⟨ws, k7 _ _ _⟩
  ·exact ⟨[], by rw [U5 _ _ e, h]; simp⟩
 have hp : j7 Γ { Γ with H := Q8 Γ.H b (l ++ ws), τ := Q8 Γ.τ t (some (b, (l ++ ws).length, sz), L') } := by
  refine ⟨hle, fun _ _ h => h, fun u y M h => ?_, fun _ _ h => h⟩
  by_cases e : u = t
  ·subst e; rw [hτ] at h; cases h
   exact ⟨_, L', k7 _ _ _, by omega, fun e => by omega⟩
  ·exact ⟨y, M, (U5 _ _ e).trans h, Nat.le_refl _, fun _ => rfl⟩
 refine ⟨?_, hp, ⟨hle, rfl, fun b' h => U5 _ _ (fun e => by subst e; exact h hz), fun _ _ h => h, rfl, rfl, fun _ _ h => h, fun _ h => h⟩⟩
 refine c.change hp rfl rfl rfl hoo (fun b' l' h => ?_) (fun b' h => oth b' (fun e => by subst e; exact h hz)) (fun b' o sz' h => ?_) (fun k o h => ?_) (fun _ h _ => h) c.dom (fun b' sz' h => ?_) c.inj (fun u M h => ?_) (fun u h => ?_) (z0X hw oth)
 ·by_cases e : b' = b
  ·subst e
   have h' : l ++ ws = l' := by simpa [Q8] using h
   subst h'
   exact ⟨arr', T, (0, 0), r, hw, harr⟩
  ·have h' : Γ.H b' = some l' := by simpa [Q8, e] using h
   rw [oth b' e]; exact c.hH b' l' h'
 ·have h' : Γ.κ b' = some (o, sz') := h
  by_cases e : b' = b
  ·subst e
   rw [hκ] at h'; cases h'
   exact ⟨hz, by simp [Q8], arr', T, hw, hsz, trivial⟩
  ·obtain ⟨a1, a2, a3⟩ := c.hκ b' o sz' h'
   exact ⟨a1, by simpa [Q8, e] using a2, by rw [oth b' e]; exact a3⟩
 ·refine .inl ⟨h, fun hd => ⟨fun b' p sz' hb => ?_, fun b' τ hb => ?_⟩⟩
  ·have hb' : Γ.κ b' = some (.home k p, sz') := hb
   have e : b' ≠ b := by intro e; subst e; rw [hκ] at hb'; cases hb'
   exact ⟨rfl, U5 _ _ e⟩
  ·obtain ⟨a1, a2, a3, _⟩ := c.q0u hb h hd
   have e : b' ≠ b := by intro e; subst e; rw [hH] at a1; cases a1
   exact ⟨oth b' e, by simpa [Q8, e] using a1⟩
 ·obtain ⟨arr, T1, fr, a1, a2⟩ := c.hσ b' sz' h
  by_cases e : b' = b
  ·subst e
   obtain ⟨_, _, arr2, T2, a3, a4, _⟩ := c.hκ b' _ _ hκ
   rw [a1] at a3; cases a3
   exact ⟨arr', T, (0, 0), hw, by omega⟩
  ·exact ⟨arr, T1, fr, by rw [oth b' e]; exact a1, a2⟩
 ·rw [q3h] at h
  split at h
  ·rename_i e
   subst e; cases h
   refine ⟨_, k7 _ _ _, fun b' pos' sz' e => ?_⟩
   cases e
   exact ⟨⟨_, k7 _ _ _, rfl⟩, hκ⟩
  ·rename_i e
   have e' : u ≠ t := fun h' => e h'.symm
   obtain ⟨y, h1, h2⟩ := c.tok u M h
   refine ⟨y, (U5 _ _ e').trans h1, fun b' pos' sz' hy => ?_⟩
   obtain ⟨a1, a2⟩ := h2 b' pos' sz' hy
   have e2 : b' ≠ b := by intro e2; subst e2; rw [hκ] at a2; simp at a2; exact e a2.1
   exact ⟨by simpa [Q8, e2] using a1, a2⟩
 ·rw [q2g]
  by_cases e : t = u
  ·simp [e]
  ·have e' : u ≠ t := fun h' => e h'.symm
   simp only [e, decide_false, Bool.false_or]
   refine c.tdom u ?_
   simpa [Q8, e'] using h
theorem y9.y7g (c : y9 Γ w s) {t L L' b sz : Nat} {x : Option (Nat × Nat × Nat)} {l : List Value} {arr : Array Value} {T : TypeId} (hτ : Γ.τ t = some (x, L)) (hw : w.heap[b]? = some (.cells arr T (0, 0)))
  (hH : Γ.H b = some l) (hκ : Γ.κ b = none) (hz : Γ.Z b = none) (hsz : arr.size = sz) (hLL : L < L') :
  ∃ Γ', Γ'.H = Γ.H ∧ Γ'.τ t = some (some (b, l.length, sz), L') ∧ y9 Γ' w { s with tk := (t, some L') :: s.tk } ∧ j7 Γ Γ' ∧ GLe Γ Γ' := by
 refine ⟨{ Γ with τ := Q8 Γ.τ t (some (b, l.length, sz), L'), κ := Q8 Γ.κ b (.tok t, sz) }, rfl, k7 _ _ _, ?_⟩
 have oκ : ∀ b' o, Γ.κ b' = some o → Q8 Γ.κ b (.tok t, sz) b' = some o := by
  intro b' o h
  have : b' ≠ b := by intro e; subst e; rw [hκ] at h; cases h
  rw [U5 _ _ this, h]
 have hp : j7 Γ { Γ with τ := Q8 Γ.τ t (some (b, l.length, sz), L'), κ := Q8 Γ.κ b (.tok t, sz) } := by
  refine ⟨Hp.le_refl _, fun _ _ h => h, fun u y M h => ?_, fun _ _ h => h⟩
  by_cases e : u = t
  ·subst e; rw [hτ] at h; cases h
   exact ⟨_, L', k7 _ _ _, by omega, fun e => by omega⟩
  ·exact ⟨y, M, (U5 _ _ e).trans h, Nat.le_refl _, fun _ => rfl⟩
 refine ⟨?_, hp, ⟨Hp.le_refl _, rfl, fun _ _ => rfl, fun _ _ h => h, rfl, rfl, fun _ _ h => h, fun _ h => h⟩⟩
 refine c.change hp rfl rfl rfl rfl c.hH (fun b' _ => rfl) (fun b' o sz' h => ?_) (fun k o h => ?_) (fun _ h _ => h) c.dom c.hσ c.inj (fun u M h => ?_) (fun u h => ?_) (Nat.le_refl _)
 ·by_cases e : b' = b
  ·subst e
   have h' : sz = sz' := by have := h; simp [Q8] at this; exact this.2
   subst h'
   exact ⟨hz, by rw [hH]; simp, arr, T, hw, hsz, by have := h; simp [Q8] at this; rw [← this]; trivial⟩
  ·exact c.hκ b' o sz' ((U5 _ _ e).symm.trans h)
 ·refine .inl ⟨h, fun hd => ⟨fun b' p sz' hb => ⟨(oκ b' _ hb).trans hb.symm, rfl⟩, fun b' τ hb => ?_⟩⟩
  obtain ⟨a1, _⟩ := c.q0u hb h hd
  exact ⟨rfl, a1⟩
 ·rw [q3h] at h
  split at h
  ·rename_i e
   subst e; cases h
   refine ⟨_, k7 _ _ _, fun b' pos' sz' e => ?_⟩
   cases e
   exact ⟨⟨l, hH, rfl⟩, k7 _ _ _⟩
  ·rename_i e
   have e' : u ≠ t := fun h' => e h'.symm
   obtain ⟨y, h1, h2⟩ := c.tok u M h
   refine ⟨y, (U5 _ _ e').trans h1, fun b' pos' sz' hy => ?_⟩
   obtain ⟨a1, a2⟩ := h2 b' pos' sz' hy
   exact ⟨a1, oκ b' _ a2⟩
 ·rw [q2g]
  by_cases e : t = u
  ·simp [e]
  ·have e' : u ≠ t := fun h' => e h'.symm
   simp only [e, decide_false, Bool.false_or]
   refine c.tdom u ?_
   simpa [Q8, e'] using h
theorem y9.y65 (c : y9 Γ w s) {t L : Nat} (hl : s.live t = some L) : y9 Γ w { s with tk := (t, some L) :: s.tk } := by
 refine c.congr (fun _ => rfl) (fun u => ?_) (fun u h => ?_)
 ·rw [q3h]
  split
  ·rename_i e; rw [← e, hl]
  ·rfl
 ·rw [q2g, h]; simp
theorem q6E (b : Nat) : ∀ (vs : List Value) (o : Nat) (w : World) (arr : Array Value) (T : TypeId) (fr : Nat × Nat), w.heap[b]? = some (.cells arr T fr) → o + vs.length ≤ arr.size →
  ∃ arr', (w.setCells b o vs).heap[b]? = some (.cells arr' T fr) ∧ arr'.toList = s7 arr.toList o vs
 | [], o, w, arr, T, fr, h, _ => ⟨arr, h, by simp [s7]⟩
 | v :: vs, o, w, arr, T, fr, h, hl => by
  have h1 : (w.setCell ⟨b, o, none⟩ v).heap[b]? = some (.cells (arr.setIfInBounds o v) T fr) := by
   simp [World.setCell, Array.getElem?_modify, h]
  obtain ⟨arr', h2, h3⟩ := q6E b vs (o + 1) _ _ T fr h1 (by simp at hl ⊢; omega)
  refine ⟨arr', h2, ?_⟩
  rw [h3]
  apply List.ext_getElem?
  intro j
  simp only [List.length_cons] at hl
  rw [X2 (by simp; omega), X2 (by simp; omega)]
  simp only [List.length_cons, Array.toList_setIfInBounds, List.getElem?_set, Array.length_toList]
  by_cases h4 : o + 1 ≤ j ∧ j < o + 1 + vs.length
  ·rw [if_pos h4, if_pos (by omega), show j - o = (j - (o + 1)) + 1 by omega, List.getElem?_cons_succ]
  ·rw [if_neg h4]
   by_cases h5 : o = j
   ·subst h5; rw [if_pos rfl, if_pos (by omega), if_pos (by omega)]; simp
   ·rw [if_neg h5, if_neg (by omega)]
theorem q5k (b : Nat) : ∀ (vs : List Value) (o : Nat) (w : World) (b' : Nat), b' ≠ b → (w.setCells b o vs).heap[b']? = w.heap[b']?
 | [], _, _, _, _ => rfl
 | v :: vs, o, w, b', h => by
  rw [World.setCells, q5k b vs _ _ b' h]
  have hb : b ≠ b' := fun e => h e.symm
  simp [World.setCell, Array.getElem?_modify, hb]
def q5D (o : Oper) (x y : Operand) (t t' : TypeId) : Prop := o.op = .call { callee := .builtin .append, args := #[x, y], argTypes := #[t, t'] }
theorem q1u {o : Oper} {x y : Operand} {t t' : TypeId} (ho : q5D o x y t t') {ρ : Operand → Value} {w w' : World} {v : Value}
  (h : (Builtin.append_ #[t, t'] o.type #[ρ x, ρ y]).run P w = .ok v w') : (execOp ρ o).run P w = .ok (.value v) w' := by
 unfold q5D at ho
 unfold execOp
 simp [ho, resolve, invoke, builtin, h]
theorem q5c {t tx T : TypeId} {E : TypeId} {i : TypeInfo} (ht : P.underlying t = some (.slice E)) (hi : P.info? E = some i) {a : Option Addr} {n cap : Nat} {x : Value} {news : List Value} (hs : Src P i.size tx x 0 news w) (h : n ≤ cap) :
  (Builtin.append_ #[t, tx] T #[.slice a n cap, x]).run P w = .ok (.slice a n cap) w := by
 have hn : news = [] := List.eq_nil_of_length_eq_zero (by rw [hs.newsLen]; simp)
 subst hn
 rcases hs.kind with ⟨e', hk⟩ | hk <;> cases a <;> simp [Builtin.append_, run_underlying ht, run_underlying hk, sizeOf, typeInfo, hi, hs.len, h, hs.cells, storeCells]
def q6Z (P : Program) (s : S) (t' : TypeId) (eb : Nat) (e : Ty) (Y : V) (ys : List C) : Prop :=
 ((∃ E', P.underlying t' = some (.slice E')) ∧ (Y3 s Y = some (eb, e, ys) ∨ (Y = .nilc ∧ ys = []))) ∨
 (P.underlying t' = some .string ∧ Y.isStr ∧ e = .int .u8 ∧ eb = 1 ∧ ys = Y.toStr.map fun b => C.int b.toNat)
theorem q8Q (c : y9 Γ w s) {t' : TypeId} {Y : V} {v : Value} {eb : Nat} {e : Ty} {ys : List C} (hr : q9 Γ Y v) (h : q6Z P s t' eb e Y ys) :
  ∃ n news, Src P e.size t' v n news w ∧ ys.length = n ∧ n ≤ maxLen ∧ n * eb ≤ 140737488355328 ∧ ∀ i c', ys[i]? = some c' → y4 Γ.H e (chunk news (i * e.size) e.size) c' := by
 rcases h with ⟨⟨E', hu⟩, h | ⟨rfl, rfl⟩⟩ | ⟨hu, h1, rfl, rfl, rfl⟩
 ·exact z4d c hr h hu
 ·rw [X7 hr]
  exact ⟨0, [], Src.ofNil w hu 0, rfl, Nat.zero_le _, by rw [Nat.zero_mul]; exact Nat.zero_le _, fun i c' hi => by simp at hi⟩
 ·exact y61 hr h1 hu
theorem z29 (c : y9 Γ w s) : Γ.κ w.heap.size = none ∧ Γ.Z w.heap.size = none := by
 refine ⟨?_, ?_⟩
 ·cases hh : Γ.κ w.heap.size with
  | none => rfl
  | some x => exact absurd (c.κlt (by rw [hh]; simp)) (Nat.lt_irrefl _)
 ·cases hh : Γ.Z w.heap.size with
  | none => rfl
  | some x => exact absurd (c.Zlt (by rw [hh]; simp)) (Nat.lt_irrefl _)
theorem q8k (hP : u3 P = true) (c : y9 Γ w s) {o : Oper} {a : Act} {x y : Operand} {t t' : TypeId} {n : Nat} {X Y : V} {ys : List C} {eb : Nat} {e : Ty} (ho : q5D o x y t t')
  (ht : ty P t = .slice eb e) (hz : Q0 P (v7 P t) = true) (hn : s.known n = false)
  (hx : q9 Γ X (a.eval x)) (hX : X = .nilc ∨ ∃ eb' e', X = .emp eb' e') (hy : q9 Γ Y (a.eval y)) (hel : q6Z P s t' eb e Y ys) :
  s9 P o a w (o9 Γ w { s with tk := (n, some ys.length) :: s.tk } (.sl eb e ys n)) := by
 obtain ⟨hu, he, heb, hE⟩ := q11 hP ht
 obtain ⟨a0, hx0⟩ : ∃ a0, a.eval x = .slice a0 0 0 := by
  rcases hX with rfl | ⟨eb', e', rfl⟩
  ·exact ⟨none, X7 hx⟩
  ·obtain ⟨h1, _⟩ := (s5 rfl rfl).1 hx
   simp only [q8] at h1
   obtain ⟨a0, h1⟩ := h1
   exact ⟨a0, by simpa using h1⟩
 obtain ⟨m, news, hs, r1, r2, r3, r4⟩ := q8Q c hy hel
 obtain ⟨i, z, hi, hzz, hzo, hzo2⟩ := q4p hz
 have hcz := q0C hzo
 have hsz : i.size = e.size := by
  have := b8 hP 11 (v7 P t)
  rw [he, this]; simp [Program.cellsOf, hi]
 have hby : i.bytes = eb := by rw [heb]; simp [Program.bytesOf, hi]
 rw [← hsz] at hs
 by_cases hm : m = 0
 ·subst hm
  have hys : ys = [] := List.eq_nil_of_length_eq_zero r1
  subst hys
  obtain ⟨c1, p1, g1⟩ := c.W4 hn (x := none) (L := 0) (fun _ _ _ h => by cases h)
  refine s9.val (v := .slice a0 0 0) (w' := w) (q1u ho ?_) ⟨_, g1, p1, c1, (s5 rfl rfl).2 ⟨?_, rfl⟩⟩
  ·rw [hx0]; exact q5c hu hi hs (Nat.le_refl _)
  ·simp only [q8]
   exact ⟨a0, 0, 0, rfl, r6 rfl (Nat.le_refl _) (Nat.zero_le _) (by rw [Nat.zero_mul]; exact Nat.zero_le _) (.inl rfl), none, 0, by simp [G.W4, Q8], Nat.le_refl _, fun _ => rfl⟩
 ·have hmx' : ((0 + m : Nat) : Int) ≤ 9223372036854775807 := by unfold maxLen at r2; omega
  have hge := grownCap_ge w (0 + m) 0 (v7 P t)
  have hcm := grownCap_le_maxLen w (0 + m) 0 (v7 P t) (by omega)
  have hold : (Builtin.firstCells i.size 0 (.slice a0 0 0)).run P w.drew = .ok ([] : List Value).toArray w.drew := by
   cases a0 with
   | none => exact run_firstCells_none w.drew i.size 0 0 0
   | some ad => exact run_firstCells_some w.drew i.size 0 ad 0 0 [] (by simp) (by simp)
  have run := run_append_grow_src (P := P) w t t' o.type _ i z hu hi hzz a0 0 0 [] hold (a.eval y) m news hs (by omega) hmx' (by
   rw [hby]; exact growslice_fits (by omega) (by rw [Nat.zero_add]; exact r3))
  rw [← hx0] at run
  have he : Ext w (w.drew.alloc (.cells ((([] : List Value) ++ news).toArray ++ Builtin.zeroCells z.cells (grownCap w (0 + m) 0 (v7 P t) - (0 + m))) (v7 P t))) := (Ext.drew w).trans (Ext.alloc _ _)
  have hnew := heap_alloc_new w.drew (.cells ((([] : List Value) ++ news).toArray ++ Builtin.zeroCells z.cells (grownCap w (0 + m) 0 (v7 P t) - (0 + m))) (v7 P t))
  obtain ⟨c1, p1, g1⟩ := c.q0X he (l := news) (r := (Builtin.zeroCells z.cells (grownCap w (0 + m) 0 (v7 P t) - (0 + m))).toList) hnew (by simp)
  obtain ⟨k1, k2⟩ := z29 c
  have hzc : z.cells.size = e.size := by
   have h1 := b8 hP 11 (v7 P t)
   have h2 := q5h hP (v7 P t)
   rw [‹e = _›, h1, ← h2, ← hcz]; simp
  have hnl : news.length = m * e.size := by rw [hs.newsLen, hsz]
  have hsize : ((([] : List Value) ++ news).toArray ++ Builtin.zeroCells z.cells (grownCap w (0 + m) 0 (v7 P t) - (0 + m))).size = grownCap w (0 + m) 0 (v7 P t) * e.size := by
   simp only [List.nil_append, Array.size_append, List.size_toArray, size_zeroCells, hzc, hnl, ← Nat.add_mul]
   congr 1; omega
  obtain ⟨c2, p2, g2⟩ := c1.W4 (t := n) hn (x := some (w.heap.size, news.length, grownCap w (0 + m) 0 (v7 P t) * e.size)) (L := ys.length) (fun b pos sz h => by
   cases h
   exact ⟨k1, k2, ⟨news, k7 _ _ _, rfl⟩, _, _, hnew, hsize⟩)
  refine s9.val (q1u ho run) ⟨_, g1.trans g2, p1.trans p2, c2, (s5 rfl rfl).2 ⟨?_, rfl⟩⟩
  simp only [q8]
  rw [show 0 + m = m by omega] at hge hcm ⊢
  refine ⟨_, m, _, rfl, r6 r1 hge hcm r3 (.inr ⟨w.heap.size, 0, news, rfl, k7 _ _ _, by omega, fun i c' hi => ?_⟩), _, _, k7 _ _ _, Nat.le_refl _, fun _ => ⟨rfl, hnl.symm, Nat.le_refl _⟩⟩
  rw [Nat.zero_add]
  exact (r4 i c' hi).mono p1.H
theorem z74 (hP : u3 P = true) (c : y9 Γ w s) {o : Oper} {a : Act} {x y : Operand} {t t' : TypeId} {tk : Nat} {Y : V} {cs ys : List C} {eb : Nat} {e : Ty} (ho : q5D o x y t t')
  (ht : ty P t = .slice eb e) (hz : Q0 P (v7 P t) = true) (hl : s.live tk = some cs.length)
  (hx : q9 Γ (.sl eb e cs tk) (a.eval x)) (hy : q9 Γ Y (a.eval y)) (hel : q6Z P s t' eb e Y ys) (hlen : (cs.length + ys.length) * eb ≤ 140737488355328) (hlen2 : cs.length + ys.length ≤ maxLen) :
  s9 P o a w (o9 Γ w { s with tk := (tk, some (cs.length + ys.length)) :: s.tk } (.sl eb e (cs ++ ys) tk)) := by
 obtain ⟨hu, he, heb, hE⟩ := q11 hP ht
 obtain ⟨m, news, hs, r1, r2, r3, r4⟩ := q8Q c hy hel
 obtain ⟨n, olds, hso, o1, o2, o3, o4⟩ := z4d (P := P) (tx := t) c hx (show Y3 s (.sl eb e cs tk) = some (eb, e, cs) from rfl) hu
 obtain ⟨h1, _⟩ := (s5 rfl rfl).1 hx
 simp only [q8] at h1
 obtain ⟨aa, n', cap, hv, hrc, x0, L0, hτ, hL1, hL2⟩ := h1
 simp at hv
 obtain ⟨x1, hτ1, htok⟩ := c.tok tk _ hl
 rw [hτ] at hτ1; cases hτ1
 have hL2 := hL2 rfl
 obtain ⟨_, n1, cap1, e1, _, e2, hle, hcap, hnb, hm⟩ := J9 hrc
 simp at e1
 obtain ⟨rfl, rfl, rfl⟩ := e1
 simp only [C.elems] at e2 hm
 have hnn : n = n' := by omega
 subst hnn
 obtain ⟨i, z, hi, hzz, hzo, hzo2⟩ := q4p hz
 have hcz := q0C hzo
 have hsz : i.size = e.size := by
  have := b8 hP 11 (v7 P t)
  rw [he, this]; simp [Program.cellsOf, hi]
 have hby : i.bytes = eb := by rw [heb]; simp [Program.bytesOf, hi]
 have hzc : z.cells.size = e.size := by
  have h1 := b8 hP 11 (v7 P t)
  have h2 := q5h hP (v7 P t)
  rw [‹e = _›, h1, ← h2, ← hcz]; simp
 rw [← hsz] at hs hso
 have hnl : news.length = m * e.size := by rw [hs.newsLen, hsz]
 have hol : olds.length = n * e.size := by rw [hso.newsLen, hsz]
 by_cases hm0 : m = 0
 ·subst hm0
  have hys : ys = [] := List.eq_nil_of_length_eq_zero r1
  subst hys
  refine s9.val (v := .slice aa n cap) (w' := w) (q1u ho ?_) ⟨Γ, .refl Γ, .refl Γ, ?_, ?_⟩
  ·rw [hv]; exact q5c hu hi hs hle
  ·exact c.y65 (by simpa using hl)
  ·rw [List.append_nil, ← hv]; exact hx
 ·have hys : 0 < ys.length := by omega
  have hlen' : (cs ++ ys).length = n + m := by rw [List.length_append, o1, r1]
  have hmx : n + m ≤ maxLen := by omega
  have hmx' : ((n + m : Nat) : Int) ≤ 9223372036854775807 := by unfold maxLen at hmx; omega
  have hbb : (n + m) * eb ≤ 140737488355328 := by rw [← o1, ← r1]; exact hlen
  by_cases hroom : n + m ≤ cap
  ·-- in the room behind
   cases x0 with
   | none => simp only at hL2; omega
   | some y0 =>
    obtain ⟨b, pos, sz⟩ := y0
    simp only at hL2
    obtain ⟨rfl, hpos, hcs⟩ := hL2
    obtain ⟨⟨l, hH, hlp⟩, hκ⟩ := htok b pos sz rfl
    obtain ⟨hZ, _, arr, T, hw, has, _⟩ := c.hκ b _ _ hκ
    have hfit : n * e.size + m * e.size ≤ arr.size := by
     rw [has, ← Nat.add_mul]; exact Nat.le_trans (Nat.mul_le_mul_right _ hroom) hcs
    have run := run_append_room_src (P := P) w t t' o.type _ i hu hi b 0 n cap (a.eval y) m news hs hroom
     (fun j hj => by
      rw [hnl] at hj
      simp [World.cell?, hw]
      rw [hsz]; omega)
     (fun j hj => by simp [World.frozen?, hw])
    rw [← hv] at run
    rw [Nat.zero_add, hsz] at run
    obtain ⟨arr', hw', harr'⟩ := q6E b news (n * e.size) w arr T (0, 0) hw (by rw [hnl]; exact hfit)
    obtain ⟨arr0, T0, fr0, r0, hw0, hl0⟩ := c.hH b l hH
    rw [hw] at hw0; cases hw0
    have hsplit : arr'.toList = l ++ news ++ r0.drop news.length := by
     rw [harr', hl0]
     unfold s7
     rw [hpos, ← hlp, List.take_left', List.drop_append, List.drop_eq_nil_of_le (by omega)]
     ·simp
     ·rfl
    obtain ⟨Γ', q1, q2, q3, q4, q5⟩ := c.y7s (w' := w.setCells b (n * e.size) news) hl hτ hw' hH hκ hsplit (by rw [← has, ← Array.length_toList, ← Array.length_toList, harr', X4 (by rw [hnl]; simpa using hfit)])
     (fun b' hb' => q5k b news _ w b' hb') (show cs.length < cs.length + ys.length by omega) (by unfold oof; rw [World.os_setCells, World.output_setCells])
    refine s9.val (q1u ho run) ⟨Γ', q5, q4, q3, (s5 rfl rfl).2 ⟨?_, rfl⟩⟩
    simp only [q8]
    refine ⟨_, n + m, cap, rfl, r6 hlen' hroom hcap hbb (.inr ⟨b, 0, l ++ news, rfl, q1, ?_, fun j c' hj => ?_⟩), _, _, q2, by rw [List.length_append]; exact Nat.le_refl _, fun _ => ⟨rfl, ?_, hcs⟩⟩
    ·simp only [List.length_append, hnl, hlp]; rw [Nat.add_mul]; omega
    ·rw [Nat.zero_add]
     have hold : ∀ i c', cs[i]? = some c' → y4 Γ'.H e (chunk l (i * e.size) e.size) c' := by
      intro i' c'' hi'
      rcases hm with hm | ⟨b1, off, l1, e1, hb1, hs1, hc1⟩
      ·have := (List.getElem?_eq_some_iff.1 hi').1; omega
      ·simp at e1
       obtain ⟨rfl, rfl⟩ := e1
       rw [hH] at hb1; cases hb1
       have := hc1 i' c'' hi'
       rw [Nat.zero_add] at this
       exact this.mono q4.H
     have hnew : ∀ i c', ys[i]? = some c' → y4 Γ'.H e (chunk news (i * e.size) e.size) c' := fun i c' hi => (r4 i c' hi).mono q4.H
     have := q8z (rest := []) e2 r1 (by rw [hlp]; exact hpos.symm) hnl hold hnew j c' hj
     simpa using this
    ·simp only [List.length_append, hnl, hlp, Nat.add_mul, hpos]
  ·-- a new block
   have hge := grownCap_ge w (n + m) cap (v7 P t)
   have hcm := grownCap_le_maxLen w (n + m) cap (v7 P t) hmx
   have hold' : (Builtin.firstCells i.size n (.slice aa n cap)).run P w.drew = .ok olds.toArray w.drew := by rw [← hv]; exact hso.cellsD
   have run := run_append_grow_src (P := P) w t t' o.type _ i z hu hi hzz aa n cap olds hold' (a.eval y) m news hs (by omega) hmx' (by
    rw [hby]; exact growslice_fits (by omega) hbb)
   rw [← hv] at run
   have hext : Ext w (w.drew.alloc (.cells ((olds ++ news).toArray ++ Builtin.zeroCells z.cells (grownCap w (n + m) cap (v7 P t) - (n + m))) (v7 P t))) := (Ext.drew w).trans (Ext.alloc _ _)
   have hnew := heap_alloc_new w.drew (.cells ((olds ++ news).toArray ++ Builtin.zeroCells z.cells (grownCap w (n + m) cap (v7 P t) - (n + m))) (v7 P t))
   obtain ⟨c1, p1, g1⟩ := c.q0X hext (l := olds ++ news) (r := (Builtin.zeroCells z.cells (grownCap w (n + m) cap (v7 P t) - (n + m))).toList) hnew (by simp)
   obtain ⟨k1, k2⟩ := z29 c
   have hsize : ((olds ++ news).toArray ++ Builtin.zeroCells z.cells (grownCap w (n + m) cap (v7 P t) - (n + m))).size = grownCap w (n + m) cap (v7 P t) * e.size := by
    simp only [Array.size_append, List.size_toArray, List.length_append, size_zeroCells, hzc, hnl, hol, ← Nat.add_mul]
    congr 1; omega
   obtain ⟨Γ', q1, q2, q3, q4, q5⟩ := c1.y7g (t := tk) (L' := cs.length + ys.length) (show (Γ.q0X w.heap.size (olds ++ news)).τ tk = some (x0, cs.length) from hτ) hnew (k7 _ _ _) k1 k2 hsize (by omega)
   refine s9.val (q1u ho run) ⟨Γ', g1.trans q5, p1.trans q4, q3, (s5 rfl rfl).2 ⟨?_, rfl⟩⟩
   simp only [q8]
   have hll : (olds ++ news).length = (n + m) * e.size := by rw [List.length_append, hol, hnl, Nat.add_mul]
   refine ⟨_, n + m, _, rfl, r6 hlen' hge hcm hbb (.inr ⟨w.heap.size, 0, olds ++ news, rfl, by rw [q1]; exact k7 _ _ _, by omega, fun j c' hj => ?_⟩), _, _, q2, by rw [List.length_append]; exact Nat.le_refl _, fun _ => ⟨rfl, hll.symm, Nat.le_refl _⟩⟩
   rw [Nat.zero_add]
   have hold2 : ∀ i c', cs[i]? = some c' → y4 Γ'.H e (chunk olds (i * e.size) e.size) c' := fun i c' hi => (o4 i c' hi).mono (p1.trans q4).H
   have hnew2 : ∀ i c', ys[i]? = some c' → y4 Γ'.H e (chunk news (i * e.size) e.size) c' := fun i c' hi => (r4 i c' hi).mono (p1.trans q4).H
   have := q8z (rest := []) e2 r1 hol hnl hold2 hnew2 j c' hj
   simpa using this
end
end Go.E
