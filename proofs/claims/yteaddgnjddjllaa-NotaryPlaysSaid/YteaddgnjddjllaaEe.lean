/-
 A framework for runs of Go code over abstract data: what it needs, and that it is sound, part 5.
 Conditions: none.
-/
import Derived.Test.YteaddgnjddjllaaEd
import Derived.ScopeJumps
import Derived.ProofKit
import Derived.LaidMore
import Derived.OpenShut
import Derived.Stop.Joined
import Derived.ChangeStays
import Derived.Deep.DeepHandedRow
import Derived.Lib.LaidTab
import Derived.LoopN
set_option linter.all false
namespace Go.E
open Go
def dep (ops : List Oper) (i j : Nat) : Prop := ∃ o, ops[i]? = some o ∧ ∃ e ∈ o.after, Region.binds .any e = true ∧ e.on = j
inductive Anc (ops : List Oper) : Nat → Nat → Prop where
 | one {i j : Nat} : dep ops i j → Anc ops j i
 | step {i j k : Nat} : dep ops i k → Anc ops j k → Anc ops j i
theorem Anc.closed {ops : List Oper} {D : Nat → Prop} (hD : ∀ i j, D i → dep ops i j → D j) {i j : Nat} (h : Anc ops j i) (hi : D i) : D j := by
 induction h with
 | one h => exact hD _ _ hi h
 | step h _ ih => exact ih (hD _ _ hi h)
structure Res where
 t : Nat
 v : V
 lo : List (Key × O)
 tn : List (Nat × Option Nat)
 s1 : S
def om (s : S) : Key ⊕ Nat → Option (O ⊕ Option Nat)
 | .inl k => (s.obj k).map .inl
 | .inr t => (look s.tk t).map .inr
def Res.om (r : Res) : Key ⊕ Nat → Option (O ⊕ Option Nat)
 | .inl k => (y7 r.lo k).map .inl
 | .inr t => (look r.tn t).map .inr
def S.step (s : S) (o : Oper) (r : Res) : S :=
 bif r.t == 0 then s.set o.dst r.v else bif r.t == 1 then (s.add r.lo r.tn).set o.dst r.v else r.s1.set o.dst r.v
theorem y0D (s : S) (d : Option Nat) (v : V) : om (s.set d v) = om s := by cases d <;> rfl
theorem y4C (s : S) (d : Option Nat) (v : V) : (s.set d v).A = s.A := by cases d <;> rfl
theorem y46 (s : S) (lo : List (Key × O)) (tn : List (Nat × Option Nat)) (k : Key ⊕ Nat) {r : Res} (h1 : r.lo = lo) (h2 : r.tn = tn) : om (s.add lo tn) k = match r.om k with | some x => some x | none => om s k := by
 subst h1; subst h2
 cases k with
 | inl k =>
  simp only [om, Res.om, S.add, S.obj, X1, q2a]
  cases y7 r.lo k <;> rfl
 | inr t =>
  simp only [om, Res.om, S.add, q2F]
  cases look r.tn t <;> rfl
theorem y0C {s : S} {o : Oper} {r : Res} (h : r.t = 0) : om (s.step o r) = om s := by unfold S.step; rw [h]; exact y0D _ _ _
theorem z5k {s : S} {o : Oper} {r : Res} (h : r.t = 1) (k : Key ⊕ Nat) : om (s.step o r) k = match r.om k with | some x => some x | none => om s k := by
 unfold S.step; rw [h]
 exact (congrFun (y0D _ _ _) k).trans (y46 s _ _ k rfl rfl)
theorem y6P {s : S} {o : Oper} {r : Res} (h : r.t = 2) : om (s.step o r) = om r.s1 := by unfold S.step; rw [h]; exact y0D _ _ _
theorem y7f {s : S} {o : Oper} {r : Res} (h3 : r.t = 0 ∨ r.t = 1 ∨ r.t = 2) (h2 : r.t = 2 → r.s1.env = s.env) (t : Nat) : (s.step o r).get t = if o.dst = some t then r.v else s.get t := by
 unfold S.step
 rcases h3 with h | h | h
 ·rw [h]; exact q4H _ _ _ _
 ·rw [h]; exact q4H _ _ _ _
 ·have e : r.s1.get t = s.get t := by simp only [S.get, h2 h]
  rw [h, ← e]; exact q4H _ _ _ _
theorem x1n {s : S} {o : Oper} {r : Res} (h3 : r.t = 0 ∨ r.t = 1 ∨ r.t = 2) (h2 : r.t = 2 → r.s1.A = s.A) : (s.step o r).A = s.A := by
 unfold S.step
 rcases h3 with h | h | h
 ·rw [h]; exact y4C _ _ _
 ·rw [h]; exact y4C _ _ _
 ·rw [h, ← h2 h]; exact y4C _ _ _
def q3A (ops : Array Oper) (s : S) (o : Oper) : Option Bool :=
 match o.guard with
 | none => some true
 | some (j, want) => match q30 ops j with
  | none => none
  | some t => match s.get t with
   | .d .bool c => some (c.toBool == want)
   | .tup [] => some false
   | _ => none
def y4z (X : Cx) (o : Oper) (ρ : Operand → V) (v : V) : Prop :=
 ∀ (Γ : G) (w : World) (a : Act) (s : S), Γ.gl = X.gl → y9 Γ w s → (∀ y ∈ o.op.operands, z8 Γ (ρ y) (a.eval y)) → j5 X.P o a w (b5 Γ w s v)
def OkR (X : Cx) (ops : Array Oper) (base s : S) (o : Oper) (r : Res) : Prop :=
 (q3A ops s o = some false ∧ r.t = 0 ∧ r.v = .tup []) ∨
 (q3A ops s o = some true ∧ (
  (r.t = 0 ∧ y4z X o (r7 X.gl s) r.v) ∨
  (r.t = 1 ∧ y4A X base o (r7 X.gl s) s r.v r.lo r.tn ∧ z9X s r.lo r.tn) ∨
  (r.t = 2 ∧ y8o X o (r7 X.gl s) s r.v r.s1)))
def X5 (rs : Nat → Res) : Nat → Nat
 | 0 => 0
 | i + 1 => if (rs i).t = 2 then i + 1 else X5 rs i
theorem q3k (rs : Nat → Res) : ∀ i, X5 rs i ≤ i
 | 0 => Nat.le_refl _
 | i + 1 => by simp only [X5]; split; exact Nat.le_refl _; exact Nat.le_succ_of_le (q3k rs i)
theorem z34 (rs : Nat → Res) : ∀ i k, k < i → (rs k).t = 2 → k < X5 rs i
 | 0, k, h, _ => by omega
 | i + 1, k, h, ht => by
  simp only [X5]
  split
  ·exact h
  ·rename_i hi
   refine z34 rs i k ?_ ht
   rcases Nat.lt_succ_iff_lt_or_eq.1 h with h | h
   ·exact h
   ·subst h; exact absurd ht hi
theorem z5x (rs : Nat → Res) : ∀ i, X5 rs i = 0 ∨ ∃ k, X5 rs i = k + 1 ∧ (rs k).t = 2
 | 0 => .inl rfl
 | i + 1 => by
  simp only [X5]
  split
  ·exact .inr ⟨i, rfl, ‹_›⟩
  ·exact z5x rs i
structure Canon (X : Cx) (ops : List Oper) (s0 : S) (rs : Nat → Res) (c : Nat → S) : Prop where
 c0 : c 0 = s0
 cs : ∀ i o, ops[i]? = some o → c (i + 1) = (c i).step o (rs i)
 ok : ∀ i o, ops[i]? = some o → OkR X ops.toArray (c (X5 rs i)) (c i) o (rs i)
 tri : ∀ i, (rs i).t = 0 ∨ (rs i).t = 1 ∨ (rs i).t = 2
def writes (ops : List Oper) (j t : Nat) : Prop := ∃ o, ops[j]? = some o ∧ o.dst = some t
def looks (ops : List Oper) (i t : Nat) : Prop := ∃ o, ops[i]? = some o ∧ t ∈ o.looksAt ops.toArray
structure Orders (ops : List Oper) (rs : Nat → Res) : Prop where
 lt : ∀ i j, dep ops i j → j < i
 tt : ∀ i j, i < ops.length → j < ops.length → (rs i).t = 2 → (rs j).t ≠ 0 → j ≠ i → (j < i ∧ Anc ops j i) ∨ (i < j ∧ Anc ops i j)
 H0 : ∀ i j t, j ≠ i → writes ops j t → looks ops i t → (j < i ∧ Anc ops j i) ∨ (i < j ∧ Anc ops i j)
 one : ∀ i j t, writes ops i t → writes ops j t → i = j
theorem OkR.env {X : Cx} {ops : Array Oper} {base s : S} {o : Oper} {r : Res} (h : OkR X ops base s o r) (ht : r.t = 2) : r.s1.env = s.env ∧ r.s1.A = s.A := by
 rcases h with h | ⟨_, h | h | h⟩
 ·omega
 ·omega
 ·omega
 ·exact ⟨h.2.2.1, h.2.1⟩
section
variable {X : Cx} {ops : List Oper} {s0 : S} {rs : Nat → Res} {c : Nat → S}
theorem getOp {i : Nat} (h : i < ops.length) : ∃ o, ops[i]? = some o := ⟨_, List.getElem?_eq_getElem h⟩
theorem Canon.A (K : Canon X ops s0 rs c) : ∀ i, i ≤ ops.length → (c i).A = s0.A
 | 0, _ => by rw [K.c0]
 | i + 1, h => by
  obtain ⟨o, ho⟩ := getOp (ops := ops) (i := i) (by omega)
  rw [K.cs i o ho, x1n (K.tri i) (fun ht => ((K.ok i o ho).env ht).2), K.A i (by omega)]
theorem Canon.y8i (K : Canon X ops s0 rs c) {i : Nat} {o : Oper} (ho : ops[i]? = some o) (t : Nat) : (c (i + 1)).get t = if o.dst = some t then (rs i).v else (c i).get t := by
 rw [K.cs i o ho]; exact y7f (K.tri i) (fun ht => ((K.ok i o ho).env ht).1) t
theorem Canon.q4G (K : Canon X ops s0 rs c) (Od : Orders ops rs) {j t : Nat} (hw : writes ops j t) : ∀ i, j < i → i ≤ ops.length → (c i).get t = (rs j).v
 | 0, h, _ => by omega
 | i + 1, h, hi => by
  obtain ⟨o, ho⟩ := getOp (ops := ops) (i := i) (by omega)
  rw [K.y8i ho]
  by_cases hji : j = i
  ·subst hji
   obtain ⟨o', h1, h2⟩ := hw
   rw [ho] at h1; cases h1
   rw [if_pos h2]
  ·have hd : ¬ o.dst = some t := fun e => hji (Od.one j i t hw ⟨o, ho, e⟩)
   rw [if_neg hd]
   exact K.q4G Od hw i (by omega) (by omega)
theorem Canon.z9J (K : Canon X ops s0 rs c) {t : Nat} : ∀ i, i ≤ ops.length → (∀ j, j < i → ¬ writes ops j t) → (c i).get t = s0.get t
 | 0, _, _ => by rw [K.c0]
 | i + 1, hi, hw => by
  obtain ⟨o, ho⟩ := getOp (ops := ops) (i := i) (by omega)
  have hd : ¬ o.dst = some t := fun e => hw i (by omega) ⟨o, ho, e⟩
  rw [K.y8i ho, if_neg hd]
  exact K.z9J i (by omega) (fun j hj => hw j (by omega))
theorem Canon.fresh (K : Canon X ops s0 rs c) {i : Nat} (hi : i < ops.length) (ht : (rs i).t = 1) {k : Key ⊕ Nat} {x : O ⊕ Option Nat} (h : (rs i).om k = some x) : om (c i) k = none := by
 obtain ⟨o, ho⟩ := getOp hi
 rcases K.ok i o ho with h1 | ⟨_, h1 | h1 | h1⟩
 ·omega
 ·omega
 ·have hf := h1.2.2
  cases k with
  | inl k =>
   simp only [Res.om, Option.map_eq_some_iff] at h
   obtain ⟨y, h, _⟩ := h
   simp only [om, hf.l k y h, Option.map_none]
  | inr t =>
   simp only [Res.om, Option.map_eq_some_iff] at h
   obtain ⟨y, h, _⟩ := h
   have := hf.t t y h
   simp only [S.known] at this
   simp only [om]
   cases hh : look (c i).tk t with
   | none => rfl
   | some z => rw [hh] at this; cases this
 ·omega
theorem Canon.mono (K : Canon X ops s0 rs c) {k : Key ⊕ Nat} {x : O ⊕ Option Nat} {i : Nat} : ∀ j, i ≤ j → j ≤ ops.length → (∀ m, i ≤ m → m < j → (rs m).t ≠ 2) → om (c i) k = some x → om (c j) k = some x
 | 0, h, _, _, hx => by have : i = 0 := by omega
                        subst this; exact hx
 | j + 1, h, hj, hn, hx => by
  by_cases he : i = j + 1
  ·subst he; exact hx
  ·have ih := K.mono j (by omega) (by omega) (fun m h1 h2 => hn m h1 (by omega)) hx
   obtain ⟨o, ho⟩ := getOp (ops := ops) (i := j) (by omega)
   rw [K.cs j o ho]
   rcases K.tri j with h1 | h1 | h1
   ·rw [y0C h1]; exact ih
   ·rw [z5k h1]
    cases hr : (rs j).om k with
    | none => exact ih
    | some y => have := K.fresh (by omega) h1 hr; rw [ih] at this; cases this
   ·exact absurd h1 (hn j (by omega) (by omega))
theorem Canon.obj (K : Canon X ops s0 rs c) (k : Key ⊕ Nat) : ∀ i, i ≤ ops.length →
  (∀ j x, j < i → X5 rs i ≤ j → (rs j).t = 1 → (rs j).om k = some x → om (c i) k = some x) ∧
  ((∀ j, j < i → X5 rs i ≤ j → (rs j).t = 1 → (rs j).om k = none) → om (c i) k = om (c (X5 rs i)) k)
 | 0, _ => ⟨fun j x h => by omega, fun _ => rfl⟩
 | i + 1, hi => by
  obtain ⟨h1, h2⟩ := K.obj k i (by omega)
  obtain ⟨o, ho⟩ := getOp (ops := ops) (i := i) (by omega)
  simp only [X5]
  rcases K.tri i with ht | ht | ht
  ·rw [if_neg (by omega), K.cs i o ho, y0C ht]
   refine ⟨fun j x h3 h4 h5 h6 => ?_, fun h3 => h2 fun j h4 h5 h6 => h3 j (by omega) h5 h6⟩
   rcases Nat.lt_succ_iff_lt_or_eq.1 h3 with h7 | h7
   ·exact h1 j x h7 h4 h5 h6
   ·subst h7; omega
  ·rw [if_neg (by omega), K.cs i o ho, z5k ht]
   refine ⟨fun j x h3 h4 h5 h6 => ?_, fun h3 => ?_⟩
   ·rcases Nat.lt_succ_iff_lt_or_eq.1 h3 with h7 | h7
    ·have := h1 j x h7 h4 h5 h6
     cases hr : (rs i).om k with
     | none => exact this
     | some y => have h8 := K.fresh (by omega) ht hr; rw [this] at h8; cases h8
    ·subst h7; rw [h6]
   ·rw [h3 i (by omega) (Nat.le_of_lt_succ (Nat.lt_succ_of_le (q3k rs i))) ht]
    exact h2 fun j h4 h5 h6 => h3 j (by omega) h5 h6
  ·rw [if_pos ht]
   exact ⟨fun j x h3 h4 => by omega, fun _ => rfl⟩
end
end Go.E
namespace Go.E
open Go
section
variable {X : Cx} {ops : List Oper} {s0 : S} {rs : Nat → Res} {c : Nat → S}
def q9m (X : Cx) (ops : List Oper) (s0 : S) (rs : Nat → Res) (c : Nat → S) (Γ0 : G) (n : Nat) (D : Nat → Prop) (a : Act) (w : World) : Prop :=
 ∃ Γ sD p, GLe Γ0 Γ ∧ Γ.gl = X.gl ∧ y9 Γ w sD ∧ AOk s0.A ∧ a.tmps.size = n ∧ a.defers = [] ∧
  p ≤ ops.length ∧ (p = 0 ∨ ∃ k, p = k + 1 ∧ (rs k).t = 2 ∧ D k) ∧ (∀ k, D k → (rs k).t = 2 → k < p) ∧
  (∀ k j x, D j → p ≤ j → (rs j).t = 1 → (rs j).om k = some x → om sD k = some x) ∧
  (∀ k, (∀ j, D j → p ≤ j → (rs j).t = 1 → (rs j).om k = none) → om sD k = om (c p) k) ∧
  (∀ j t, D j → writes ops j t → z8 Γ (rs j).v (a.tmps.getD t undef)) ∧
  (∀ t, (∀ j, D j → ¬ writes ops j t) → z8 Γ (s0.get t) (a.tmps.getD t undef))
theorem z8k {Γ : G} {a : Act} {s : S} {o : Oper} {b : Bool} {l : Array Oper} (h : q3A l s o = some b) (hs : ∀ t, t ∈ o.looksAt l → z8 Γ (s.get t) (a.tmps.getD t undef)) :
  Region.wanted o (yielded l a.tmps) = b := by
 unfold q3A at h
 split at h
 ·rename_i hg
  cases h
  simp [Region.wanted, hg]
 ·rename_i j want hg
  split at h
  ·cases h
  ·rename_i t ht
   have hst := hs t (by
    simp only [Oper.looksAt, hg, List.mem_append]
    right
    simp only [q30] at ht
    rw [ht]; simp)
   split at h
   ·rename_i b' hb
    cases h
    rw [hb] at hst
    exact z6F hg ht hst
   ·rename_i hb
    cases h
    rw [hb] at hst
    exact z4X hg ht hst
   ·cases h
theorem y4d {Γ : G} {w : World} {s s' : S} {a : Act} (hgl : Γ.gl = X.gl) (c : y9 Γ w s') {y : Operand} (hy : q9A y = true) (ht : ∀ t, y = .tmp t → z8 Γ (s.get t) (a.tmps.getD t undef)) :
  z8 Γ (r7 X.gl s y) (a.eval y) := by
 cases y with
 | tmp t => exact ht t rfl
 | const v => exact q9M (y := .const v) (s := ⟨[], [], fun _ => none, []⟩) hgl c (fun i => by simp [S.get, look, z8]) hy
 | global g => exact q9M (y := .global g) (s := ⟨[], [], fun _ => none, []⟩) (a := a) hgl c (fun i => by simp [S.get, look, z8]) hy
 | func f => exact q9M (y := .func f) (s := ⟨[], [], fun _ => none, []⟩) (a := a) hgl c (fun i => by simp [S.get, look, z8]) hy
theorem y2M {a : Act} {d : Option Nat} {v : Value} {t : Nat} (h : d ≠ some t) : (a.put d v).tmps.getD t undef = a.tmps.getD t undef := by
 cases d with
 | none => rfl
 | some e =>
  have : e ≠ t := fun he => h (by rw [he])
  simp only [Act.put, Array.getD_eq_getD_getElem?, Array.getElem?_setIfInBounds_ne this]
theorem y6M {a : Act} {t : Nat} {v : Value} (h : t < a.tmps.size) : (a.put (some t) v).tmps.getD t undef = v := by
 simp [Act.put, h]
theorem x0J {s s' : S} (h : ∀ k, om s' k = om s k) (k : Key) : s'.obj k = s.obj k := by
 have := h (.inl k)
 simp only [om] at this
 cases h1 : s'.obj k <;> cases h2 : s.obj k <;> rw [h1, h2] at this
 ·cases this
 ·cases this
 ·cases this; rfl
theorem y78 {s s' : S} (h : ∀ k, om s' k = om s k) (t : Nat) : look s'.tk t = look s.tk t := by
 have := h (.inr t)
 simp only [om] at this
 cases h1 : look s'.tk t <;> cases h2 : look s.tk t <;> rw [h1, h2] at this
 ·cases this
 ·cases this
 ·cases this; rfl
theorem y9.om {Γ : G} {w : World} {s s' : S} (c : y9 Γ w s) (h : ∀ k, Go.E.om s' k = Go.E.om s k) : y9 Γ w s' :=
 c.congr (x0J h) (z3l (y78 h)) (fun t ht => by rw [z2b (y78 h)]; exact ht)
theorem y2Q {s : S} {k : Key} {o : O} : om s (.inl k) = some (.inl o) ↔ s.obj k = some o := by simp [om]
theorem y79 {s : S} {k : Key} : om s (.inl k) = none ↔ s.obj k = none := by simp [om]
variable {Γ0 : G} {n : Nat} {D : Nat → Prop}
theorem y6y (hP : u6 X.P = true) (K : Canon X ops s0 rs c) (Od : Orders ops rs) (hok : ∀ o ∈ ops, q8O n o = true) (hDl : ∀ j, D j → j < ops.length) (hD : ∀ i j, D i → dep ops i j → D j) {i : Nat} (hi : i < ops.length) (hiD : ¬ D i) (hdep : ∀ j, dep ops i j → D j)
  {a : Act} {w : World} {Q : Exit → Act → World → Prop} (h : q9m X ops s0 rs c Γ0 n D a w) : wpOp X.P ops.toArray Q i (q9m X ops s0 rs c Γ0 n (fun j => D j ∨ j = i)) a w := by
 obtain ⟨Γ, sD, p, g1, g3, hc, hA, hn, hf, hp0, hp1, hp2, ob1, ob2, ew, e0⟩ := h
 obtain ⟨o, ho⟩ := getOp hi
 -- what is before i is done; what is behind i is not
 have hD' : ∀ k j, (D k ∨ k = i) → dep ops k j → (D j ∨ j = i) := by
  rintro k j (h | rfl) hd
  ·exact .inl (hD k j h hd)
  ·exact .inl (hdep j hd)
 have before : ∀ j, j ≠ i → Anc ops j i → D j := fun j hj ha => (Anc.closed hD' ha (.inr rfl)).resolve_right hj
 have behind : ∀ k, D k → ¬ Anc ops i k := fun k hk ha => hiD (Anc.closed hD ha hk)
 have later : ∀ k, D k → (rs k).t = 2 → i < k → (rs i).t = 0 := by
  intro k hk ht hik
  by_cases h0 : (rs i).t = 0
  ·exact h0
  ·rcases Od.tt k i (hDl k hk) hi ht h0 (by omega) with ⟨_, ha⟩ | ⟨h1, _⟩
   ·exact absurd ha (behind k hk)
   ·omega
 have slot : ∀ t, looks ops i t → z8 Γ ((c i).get t) (a.tmps.getD t undef) := by
  intro t ht
  by_cases hw : ∃ j, j ≠ i ∧ writes ops j t
  ·obtain ⟨j, hj, hw⟩ := hw
   rcases Od.H0 i j t hj hw ht with ⟨hlt, ha⟩ | ⟨hlt, ha⟩
   ·rw [K.q4G Od hw i hlt (by omega)]
    exact ew j t (before j hj ha) hw
   ·have hDj : ¬ D j := fun h => behind j h ha
    have uniq : ∀ j', writes ops j' t → j' = j := fun j' h => Od.one j' j t h hw
    rw [K.z9J (t := t) i (by omega) (fun j' hj' h => by have := uniq j' h; omega)]
    exact e0 t (fun j' hj' h => hDj (uniq j' h ▸ hj'))
  ·have nw : ∀ j', writes ops j' t → j' = i := fun j' h => Classical.byContradiction fun hne => hw ⟨j', hne, h⟩
   rw [K.z9J (t := t) i (by omega) (fun j' hj' h => by have := nw j' h; omega)]
   exact e0 t (fun j' hj' h => hiD (nw j' h ▸ hj'))
 have hko := hok o (List.mem_of_getElem? ho)
 simp only [q8O, Bool.and_eq_true, Array.all_eq_true'] at hko
 have hd : ∀ t, o.dst = some t → t < a.tmps.size := by
  intro t ht
  have h2 := hko.2
  rw [ht] at h2
  rw [hn]
  exact of_decide_eq_true h2
 have hops : ∀ y ∈ o.op.operands, z8 Γ (r7 X.gl (c i) y) (a.eval y) := fun y hy => y4d g3 hc (hko.1 y hy) fun t ht => slot t ⟨o, ho, by
  subst ht
  simp only [Oper.looksAt, List.mem_append, List.mem_filterMap]
  exact .inl ⟨.tmp t, by simpa using hy, rfl⟩⟩
 have wr : ∀ j t, writes ops j t → j ≠ i → o.dst ≠ some t := fun j t hw hj hdt => hj (Od.one j i t hw ⟨o, ho, hdt⟩)
 -- what all kinds of operations share
 have fin : ∀ {u : Value} {w' : World} {Γ' : G} {sD' : S} {p' : Nat}, GLe Γ Γ' → Γ'.gl = X.gl → y9 Γ' w' sD' → p' ≤ ops.length → (p' = 0 ∨ ∃ k, p' = k + 1 ∧ (rs k).t = 2 ∧ (D k ∨ k = i)) →
   (∀ k, (D k ∨ k = i) → (rs k).t = 2 → k < p') → (∀ k j x, (D j ∨ j = i) → p' ≤ j → (rs j).t = 1 → (rs j).om k = some x → om sD' k = some x) →
   (∀ k, (∀ j, (D j ∨ j = i) → p' ≤ j → (rs j).t = 1 → (rs j).om k = none) → om sD' k = om (c p') k) →
   Q4 Γ Γ' → z8 Γ' (rs i).v u →
   q9m X ops s0 rs c Γ0 n (fun j => D j ∨ j = i) (a.put o.dst u) w' := by
  intro u w' Γ' sD' p' gle hgl' c' q0 q1 q2 qo1 qo2 keep hv
  refine ⟨Γ', sD', p', g1.trans gle, hgl', c', hA, ?_, ?_, q0, q1, q2, qo1, qo2, ?_, ?_⟩
  ·cases o.dst <;> simp [Act.put, hn]
  ·cases o.dst <;> simp [Act.put, hf]
  ·rintro j t (hj | rfl) hw
   ·have hji : j ≠ i := fun e => hiD (e ▸ hj)
    rw [y2M (wr j t hw hji)]
    exact (ew j t hj hw).Z0 keep
   ·obtain ⟨o', h1, h2⟩ := hw
    rw [ho] at h1; cases h1
    rw [h2, y6M (hd t h2)]; exact hv
  ·intro t hw
   rw [y2M (fun e => hw i (.inr rfl) ⟨o, ho, e⟩)]
   exact (e0 t (fun j hj => hw j (.inl hj))).Z0 keep
 -- a value alone
 have value : ∀ {u : Value} {w' : World} {Γ' : G}, (rs i).t = 0 → GLe Γ Γ' → Γ'.gl = X.gl → y9 Γ' w' sD → Q4 Γ Γ' → z8 Γ' (rs i).v u →
   q9m X ops s0 rs c Γ0 n (fun j => D j ∨ j = i) (a.put o.dst u) w' := by
  intro u w' Γ' ht gle hgl' c' keep hv
  refine fin gle hgl' c' hp0 ?_ ?_ ?_ ?_ keep hv
  ·rcases hp1 with h | ⟨k, h1, h2, h3⟩
   ·exact .inl h
   ·exact .inr ⟨k, h1, h2, .inl h3⟩
  ·rintro k (hk | rfl) htk
   ·exact hp2 k hk htk
   ·omega
  ·rintro k j x (hj | rfl) h1 h2 h3
   ·exact ob1 k j x hj h1 h2 h3
   ·omega
  ·exact fun k h => ob2 k fun j hj h1 h2 => h j (.inl hj) h1 h2
 -- the phase
 have hpL : (rs i).t ≠ 0 → p = X5 rs i := by
  intro hti
  have hTD : ∀ k, (rs k).t = 2 → k < i → D k := by
   intro k hk hki
   rcases Od.tt k i (by omega) hi hk hti (by omega) with ⟨h1, _⟩ | ⟨_, ha⟩
   ·omega
   ·exact before k (by omega) ha
  have h1 : p ≤ X5 rs i := by
   rcases hp1 with h | ⟨k, h1, h2, h3⟩
   ·omega
   ·have hki : k < i := by
     rcases Nat.lt_or_ge k i with h | h
     ·exact h
     ·rcases Nat.lt_or_eq_of_le h with h | h
      ·exact absurd (later k h3 h2 h) hti
      ·subst h; exact absurd h3 hiD
    have := z34 rs i k hki h2
    omega
  have h2 : X5 rs i ≤ p := by
   rcases z5x rs i with h | ⟨k, h3, h4⟩
   ·omega
   ·have := q3k rs i
    have := hp2 k (hTD k h4 (by omega)) h4
    omega
  omega
 have noTj : ∀ j, D j → (rs j).t ≠ 0 → ∀ m, p ≤ m → m < j → (rs m).t ≠ 2 := by
  intro j hj ht m hm hmj htm
  rcases Od.tt m j (by have := hDl j hj; omega) (hDl j hj) htm ht (by omega) with ⟨h1, _⟩ | ⟨_, ha⟩
  ·omega
  ·have := hp2 m (Anc.closed hD ha hj) htm
   omega
 have noTi : (rs i).t ≠ 0 → ∀ m, p ≤ m → m < i → (rs m).t ≠ 2 := by
  intro hti m hm hmi htm
  have := z34 rs i m hmi htm
  have := hpL hti
  omega
 -- a key is one of an operation's that is done, or stands as at the phase's start
 have split2 : ∀ k, (∃ j x, D j ∧ p ≤ j ∧ (rs j).t = 1 ∧ (rs j).om k = some x) ∨ (∀ j, D j → p ≤ j → (rs j).t = 1 → (rs j).om k = none) := by
  intro k
  by_cases h : ∃ j x, D j ∧ p ≤ j ∧ (rs j).t = 1 ∧ (rs j).om k = some x
  ·exact .inl h
  ·refine .inr fun j h1 h2 h3 => ?_
   cases hr : (rs j).om k with
   | none => rfl
   | some x => exact absurd ⟨j, x, h1, h2, h3, hr⟩ h
 simp only [wpOp, List.getElem?_toArray, ho]
 have hslots : ∀ t, t ∈ o.looksAt ops.toArray → z8 Γ ((c i).get t) (a.tmps.getD t undef) := fun t ht => slot t ⟨o, ho, ht⟩
 rcases K.ok i o ho with ⟨hw, ht, hv⟩ | ⟨hw, hrest⟩
 ·rw [z8k hw hslots]
  simp only [Bool.false_eq_true, if_false]
  exact value ht (.refl Γ) g3 hc (.refl Γ) (by rw [hv]; exact z57)
 ·rw [z8k hw hslots]
  simp only [if_true]
  left
  rcases hrest with ⟨ht, hdo⟩ | ⟨ht, hdo, hfr⟩ | ⟨ht, hdo⟩
  ·refine hdo Γ w a sD g3 hc hops _ _ ?_
   rintro u w' ⟨Γ', gle, kp, c', hv⟩
   exact value ht gle (gle.gl.trans g3) c' kp hv
  ·have hne : (rs i).t ≠ 0 := by omega
   have hpl := hpL hne
   have hpi : p ≤ i := by rw [hpl]; exact q3k rs i
   obtain ⟨co1, co2⟩ : (∀ k j x, j < i → p ≤ j → (rs j).t = 1 → (rs j).om k = some x → om (c i) k = some x) ∧ (∀ k, (∀ j, j < i → p ≤ j → (rs j).t = 1 → (rs j).om k = none) → om (c i) k = om (c p) k) := by
    refine ⟨fun k => ?_, fun k => ?_⟩
    ·rw [hpl]; exact (K.obj k i (by omega)).1
    ·rw [hpl]; exact (K.obj k i (by omega)).2
   have freshi : ∀ k x, (rs i).om k = some x → om sD k = none := by
    intro k x hx
    have hfi := K.fresh hi ht hx
    rcases split2 k with ⟨j, y, hj, hpj, htj, hy⟩ | hB
    ·exfalso
     rcases Nat.lt_or_ge j i with hlt | hge
     ·have := co1 k j y hlt hpj htj hy
      rw [hfi] at this; cases this
     ·have hij : i ≠ j := fun e => hiD (e ▸ hj)
      have h1 : om (c (i + 1)) k = some x := by rw [K.cs i o ho, z5k ht, hx]
      have h2 := K.mono j (by omega) (Nat.le_of_lt (hDl j hj)) (fun m hm hmj => noTj j hj (by omega) m (by omega) hmj) h1
      have h3 := K.fresh (hDl j hj) htj hy
      rw [h2] at h3; cases h3
    ·rw [ob2 k hB]
     cases hcpk : om (c p) k with
     | none => rfl
     | some y =>
      have := K.mono i hpi (by omega) (noTi hne) hcpk
      rw [hfi] at this; cases this
   have hcompat : Compat sD (c i) (c (X5 rs i)) := by
    rw [← hpl]
    refine ⟨fun k x hx hne' => ?_, fun k x hx => ?_⟩
    ·rw [← y2Q] at hx ⊢
     rw [Ne, ← y79] at hne'
     rcases split2 (.inl k) with ⟨j, y, hj, hpj, htj, hy⟩ | hB
     ·have hsD := ob1 _ j y hj hpj htj hy
      have hfj := K.fresh (hDl j hj) htj hy
      rcases Nat.lt_or_ge j i with hlt | hge
      ·have h1 := co1 _ j y hlt hpj htj hy
       rw [hx] at h1; cases h1
       exact hsD
      ·have := K.mono j hge (Nat.le_of_lt (hDl j hj)) (fun m hm hmj => noTj j hj (by omega) m (by omega) hmj) hx
       rw [hfj] at this; cases this
     ·have hsD := ob2 _ hB
      cases hcpk : om (c p) (.inl k) with
      | some y =>
       have := K.mono i hpi (by omega) (noTi hne) hcpk
       rw [hx] at this; cases this
       rw [hsD, hcpk]
      | none => rw [hcpk] at hsD; exact absurd hsD hne'
    ·rw [← y2Q] at hx ⊢
     rcases split2 (.inl k) with ⟨j, y, hj, hpj, htj, hy⟩ | hB
     ·exfalso
      have hfj := K.fresh (hDl j hj) htj hy
      have := K.mono j hpj (Nat.le_of_lt (hDl j hj)) (fun m' hm hmj => noTj j hj (by omega) m' hm hmj) hx
      rw [hfj] at this; cases this
     ·rw [ob2 _ hB]; exact hx
   have hfresh : z9X sD (rs i).lo (rs i).tn := by
    refine ⟨fun k x hx => ?_, fun t x hx => ?_⟩
    ·exact y79.1 (freshi (.inl k) (.inl x) (by simp [Res.om, hx]))
    ·have := freshi (.inr t) (.inr x) (by simp [Res.om, hx])
     simp only [om, Option.map_eq_none_iff] at this
     simp [S.known, this]
   refine hdo Γ w a sD g3 hc hcompat hfresh hops _ _ ?_
   rintro u w' ⟨Γ', gle, kp, c', hv⟩
   have hom : ∀ k, om (sD.add (rs i).lo (rs i).tn) k = match (rs i).om k with | some x => some x | none => om sD k := fun k => y46 sD _ _ k rfl rfl
   refine fin gle (gle.gl.trans g3) c' hp0 ?_ ?_ ?_ ?_ kp hv
   ·rcases hp1 with h | ⟨k, h1, h2, h3⟩
    ·exact .inl h
    ·exact .inr ⟨k, h1, h2, .inl h3⟩
   ·rintro k (hk | rfl) htk
    ·exact hp2 k hk htk
    ·omega
   ·rintro k j x (hj | rfl) h1 h2 h3
    ·rw [hom k]
     have := ob1 k j x hj h1 h2 h3
     cases hr : (rs i).om k with
     | none => exact this
     | some y => rw [freshi k y hr] at this; cases this
    ·rw [hom k, h3]
   ·intro k h
    rw [hom k, h i (.inr rfl) hpi ht]
    exact ob2 k fun j hj h1 h2 => h j (.inl hj) h1 h2
  ·have hne : (rs i).t ≠ 0 := by omega
   have hpl := hpL hne
   have hpi : p ≤ i := by rw [hpl]; exact q3k rs i
   have notD : ∀ j, D j → (rs j).t ≠ 0 → j < i := by
    intro j hj htj
    rcases Od.tt i j hi (hDl j hj) ht htj (fun e => hiD (e ▸ hj)) with ⟨h1, _⟩ | ⟨_, ha⟩
    ·exact h1
    ·exact absurd ha (behind j hj)
   have hom : ∀ k, om (c i) k = om sD k := by
    intro k
    rcases split2 k with ⟨j, y, hj, hpj, htj, hy⟩ | hB
    ·rw [ob1 k j y hj hpj htj hy]
     refine (K.obj k i (by omega)).1 j y (notD j hj (by omega)) (by rw [← hpl]; exact hpj) htj hy
    ·rw [ob2 k hB, hpl]
     refine (K.obj k i (by omega)).2 fun j hj hpj htj => ?_
     rw [← hpl] at hpj
     rcases Od.tt i j hi (by omega) ht (by omega) (by omega) with ⟨_, ha⟩ | ⟨h1, _⟩
     ·exact hB j (before j (by omega) ha) hpj htj
     ·omega
   refine hdo.2.2 Γ w a g3 (hc.om hom) hops _ _ ?_
   rintro u w' ⟨Γ', gle, kp, c', hv⟩
   refine fin (p' := i + 1) gle (gle.gl.trans g3) c' (by omega) (.inr ⟨i, rfl, ht, .inr rfl⟩) ?_ ?_ ?_ kp hv
   ·rintro k (hk | rfl) htk
    ·have := notD k hk (by omega); omega
    ·omega
   ·rintro k j x (hj | rfl) h1 h2 h3
    ·have := notD j hj (by omega); omega
    ·omega
   ·intro k _
    rw [K.cs i o ho, y6P ht]
end
end Go.E
namespace Go.E
open Go
theorem y2z {p q : Nat → Bool} {i : Nat} (hi : p i = false) (hq : ∀ j, q j = (p j || j == i)) : ∀ n, i < n → (List.range n).countP q = (List.range n).countP p + 1 := by
 have low : ∀ m, m ≤ i → (List.range m).countP q = (List.range m).countP p := by
  intro m hm
  apply List.countP_congr
  intro j hj
  have : j ≠ i := by have := List.mem_range.1 hj; omega
  simp [hq j, this]
 intro n hn
 induction n with
 | zero => omega
 | succ n ih =>
  rw [List.range_succ, List.countP_append, List.countP_append]
  by_cases h : i < n
  ·rw [ih h]
   have : n ≠ i := by omega
   simp only [List.countP_singleton, hq n]
   have hb : (n == i) = false := by simpa using this
   rw [hb, Bool.or_false]; omega
  ·have : n = i := by omega
   subst this
   rw [low n (Nat.le_refl _)]
   simp [hq n, hi]
section
variable {X : Cx} {ops : List Oper} {s0 : S} {rs : Nat → Res} {c : Nat → S} {Γ0 : G} {n : Nat}
theorem q9m.congr {D D' : Nat → Prop} (h : ∀ j, D j ↔ D' j) {a : Act} {w : World} (hi : q9m X ops s0 rs c Γ0 n D a w) : q9m X ops s0 rs c Γ0 n D' a w := by
 have : D = D' := funext fun j => propext (h j)
 rw [← this]; exact hi
theorem z6c {listed : Array Bool} {i : Nat} (hsz : listed.size = ops.length) (h : i ∈ Region.ready .any ops.toArray listed) :
  i < ops.length ∧ listed.getD i false = false ∧ ∀ j, dep ops i j → listed.getD j false = true := by
 simp only [Region.ready, List.size_toArray, List.mem_filter, List.mem_range, Bool.and_eq_true, Bool.not_eq_true', List.getElem?_toArray] at h
 obtain ⟨h1, h2, h3⟩ := h
 refine ⟨h1, ?_, ?_⟩
 ·have : i < listed.size := by omega
  simpa [Array.getD, this] using h2
 ·rintro j ⟨o, ho, e, he, hb, rfl⟩
  rw [ho] at h3
  simp only [Option.map_some, Option.getD_some, Array.all_eq_true'] at h3
  have := h3 e he
  rw [hb] at this
  simpa using this
theorem y44 (Od : Orders ops rs) {listed : Array Bool} (hsz : listed.size = ops.length) (h : Region.ready .any ops.toArray listed = []) : ∀ i, i < ops.length → listed.getD i false = true := by
 intro i
 induction i using Nat.strongRecOn with
 | _ i ih =>
  intro hi
  cases hl : listed.getD i false with
  | true => rfl
  | false =>
   exfalso
   have : i ∈ Region.ready .any ops.toArray listed := by
    simp only [Region.ready, List.size_toArray, List.mem_filter, List.mem_range, Bool.and_eq_true, Bool.not_eq_true', List.getElem?_toArray]
    have hs : i < listed.size := by omega
    refine ⟨hi, by simpa [Array.getD, hs] using hl, ?_⟩
    rw [List.getElem?_eq_getElem hi]
    simp only [Option.map_some, Option.getD_some, Array.all_eq_true']
    intro e he
    cases hb : Region.binds .any e with
    | false => rfl
    | true =>
     have hd : dep ops i e.on := ⟨_, List.getElem?_eq_getElem hi, e, he, hb, rfl⟩
     have hlt := Od.lt i e.on hd
     simp only [Bool.not_true, Bool.false_or]
     exact ih e.on hlt (by omega)
   rw [h] at this
   cases this
theorem y51 (hP : u6 X.P = true) (K : Canon X ops s0 rs c) (Od : Orders ops rs) (hok : ∀ o ∈ ops, q8O n o = true) {Q : Exit → Act → World → Prop}
  (hQ : ∀ a w, q9m X ops s0 rs c Γ0 n (fun j => j < ops.length) a w → Q .normal a w) :
  ∀ (fuel : Nat) (listed : Array Bool) (a : Act) (w : World), listed.size = ops.length → fuel + (List.range ops.length).countP (fun j => listed.getD j false) = ops.length →
   (∀ i j, i < ops.length → listed.getD i false = true → dep ops i j → listed.getD j false = true) →
   q9m X ops s0 rs c Γ0 n (fun j => j < ops.length ∧ listed.getD j false = true) a w → wpAny X.P .any ops.toArray Q fuel listed a w := by
 intro fuel
 induction fuel with
 | zero =>
  intro listed a w hsz hc hcl hI
  have hall : ∀ j, j < ops.length → listed.getD j false = true := by
   have : (List.range ops.length).countP (fun j => listed.getD j false) = (List.range ops.length).length := by rw [List.length_range]; omega
   rw [List.countP_eq_length] at this
   exact fun j hj => this j (List.mem_range.2 hj)
  refine ⟨?_, hQ a w (hI.congr fun j => ⟨fun h => h.1, fun h => ⟨h, hall j h⟩⟩)⟩
  apply List.eq_nil_iff_forall_not_mem.2
  intro i hi
  obtain ⟨h1, h2, _⟩ := z6c hsz hi
  rw [hall i h1] at h2; cases h2
 | succ fuel ih =>
  intro listed a w hsz hc hcl hI
  refine ⟨fun hr => hQ a w (hI.congr fun j => ⟨fun h => h.1, fun h => ⟨h, y44 Od hsz hr j h⟩⟩), fun i hi => ?_⟩
  obtain ⟨h1, h2, h3⟩ := z6c hsz hi
  have hD : ∀ i j, (i < ops.length ∧ listed.getD i false = true) → dep ops i j → (j < ops.length ∧ listed.getD j false = true) :=
   fun i j h hd => ⟨by have := Od.lt i j hd; omega, hcl i j h.1 h.2 hd⟩
  have hstep := y6y (Q := Q) hP K Od hok (fun j h => h.1) hD h1 (fun h => by rw [h2] at h; cases h.2) (fun j hd => ⟨by have := Od.lt i j hd; omega, h3 j hd⟩) hI
  refine wpOp_mono ?_ hstep
  intro a' w' hI'
  have hset : ∀ j, (listed.setIfInBounds i true).getD j false = (listed.getD j false || j == i) := by
   intro j
   simp only [Array.getD_eq_getD_getElem?, Array.getElem?_setIfInBounds]
   by_cases hji : i = j
   ·subst hji
    have : i < listed.size := by omega
    simp [this]
   ·have : (j == i) = false := by simpa using fun e => hji e.symm
    simp [hji, this]
  refine ih _ a' w' (by simp [hsz]) ?_ ?_ (hI'.congr fun j => ?_)
  ·have := y2z (p := fun j => listed.getD j false) (q := fun j => (listed.setIfInBounds i true).getD j false) (i := i) h2 hset ops.length h1
   omega
  ·intro k j hk hlk hd
   rw [hset] at hlk ⊢
   rcases Bool.or_eq_true_iff.1 hlk with h | h
   ·rw [hcl k j hk h hd]; rfl
   ·have : k = i := by simpa using h
    subst this
    rw [h3 j hd]; rfl
  ·rw [hset]
   constructor
   ·rintro (h | rfl)
    ·exact ⟨h.1, by rw [h.2]; rfl⟩
    ·exact ⟨h1, by simp⟩
   ·rintro ⟨ha, hb⟩
    rcases Bool.or_eq_true_iff.1 hb with h | h
    ·exact .inl ⟨ha, h⟩
    ·exact .inr (by simpa using h)
theorem y5u (K : Canon X ops s0 rs c) {a : Act} {w : World} (h : At X n Γ0 s0 a w) : q9m X ops s0 rs c Γ0 n (fun j => j < ops.length ∧ (Array.replicate ops.length false).getD j false = true) a w := by
 obtain ⟨Γ, g1, g3, hc, hs, hn, hf, hA⟩ := h
 have no : ∀ j, ¬ (j < ops.length ∧ (Array.replicate ops.length false).getD j false = true) := by
  rintro j ⟨h1, h2⟩
  simp [Array.getD, h1] at h2
 exact ⟨Γ, s0, 0, g1, g3, hc, hA, hn, hf, Nat.zero_le _, .inl rfl, fun k h => absurd h (no k), fun k j x h => absurd h (no j), fun k _ => by rw [K.c0], fun j t h => absurd h (no j), fun t _ => hs t⟩
theorem y9b (K : Canon X ops s0 rs c) (Od : Orders ops rs) {a : Act} {w : World} (h : q9m X ops s0 rs c Γ0 n (fun j => j < ops.length) a w) : At X n Γ0 (c ops.length) a w := by
 obtain ⟨Γ, sD, p, g1, g3, hc, hA, hn, hf, hp0, hp1, hp2, ob1, ob2, ew, e0⟩ := h
 have hpl : p = X5 rs ops.length := by
  have h1 : p ≤ X5 rs ops.length := by
   rcases hp1 with h | ⟨k, h1, h2, h3⟩
   ·omega
   ·have := z34 rs ops.length k h3 h2; omega
  have h2 : X5 rs ops.length ≤ p := by
   rcases z5x rs ops.length with h | ⟨k, h3, h4⟩
   ·omega
   ·have := q3k rs ops.length
    have := hp2 k (by omega) h4
    omega
  omega
 have hom : ∀ k, om (c ops.length) k = om sD k := by
  intro k
  by_cases h : ∃ j x, j < ops.length ∧ p ≤ j ∧ (rs j).t = 1 ∧ (rs j).om k = some x
  ·obtain ⟨j, x, h1, h2, h3, h4⟩ := h
   rw [ob1 k j x h1 h2 h3 h4]
   exact (K.obj k _ (Nat.le_refl _)).1 j x h1 (by rw [← hpl]; exact h2) h3 h4
  ·have hn : ∀ j, j < ops.length → p ≤ j → (rs j).t = 1 → (rs j).om k = none := by
    intro j h1 h2 h3
    cases hr : (rs j).om k with
    | none => rfl
    | some x => exact absurd ⟨j, x, h1, h2, h3, hr⟩ h
   rw [ob2 k hn, hpl]
   exact (K.obj k _ (Nat.le_refl _)).2 fun j h1 h2 h3 => hn j h1 (by rw [hpl]; exact h2) h3
 refine ⟨Γ, g1, g3, hc.om hom, fun t => ?_, hn, hf, by rw [K.A _ (Nat.le_refl _)]; exact hA⟩
 by_cases hw : ∃ j, j < ops.length ∧ writes ops j t
 ·obtain ⟨j, hj, hw⟩ := hw
  rw [K.q4G Od hw _ hj (Nat.le_refl _)]
  exact ew j t hj hw
 ·rw [K.z9J (t := t) _ (Nat.le_refl _) (fun j hj h => hw ⟨j, hj, h⟩)]
  exact e0 t (fun j hj h => hw ⟨j, hj, h⟩)
theorem x1f (hP : u6 X.P = true) (hm : X.P.follows .mixedOrders = true) {id : Nat} {Ψ : Exit → S → Prop} (K : Canon X ops s0 rs c) (Od : Orders ops rs) (hok : ∀ o ∈ ops, q8O n o = true) (h : Ψ .normal (c ops.length)) :
  DC X n (.region id ops.toArray true) s0 Ψ := by
 intro Γ0 a w hat
 obtain ⟨Γ, g1, g3, hc, hs, hn, hf⟩ := hat
 have hat' : At X n Γ0 s0 a { w with drawn := w.drawn + 1 } := by
  exact ⟨Γ, g1, g3, hc.ext (Ext.drew w), hs, hn, hf⟩
 refine wp_region_any hm ?_
 refine y51 hP K Od hok (fun a w hI => ⟨c ops.length, h, y9b K Od hI⟩) ops.length (Array.replicate ops.length false) a _ (by simp) ?_ ?_ (y5u K hat')
 ·have : (List.range ops.length).countP (fun j => (Array.replicate ops.length false).getD j false) = 0 := by
   apply List.countP_eq_zero.2
   intro j hj
   simp [Array.getD, List.mem_range.1 hj]
  omega
 ·intro i j hi hl
  simp [Array.getD, hi] at hl
end
end Go.E
namespace Go.E
open Go
def z0U (o : Oper) : List Nat := (o.after.toList.filter (Region.binds .any)).map (·.on)
def x0Q (acc : List Nat) (ds : List Nat) : Nat := ds.foldl (fun m k => m ||| 2 ^ k ||| acc.getD k 0) 0
def z8f : List Oper → List Nat → List Nat
 | [], acc => acc
 | o :: rest, acc => z8f rest (acc ++ [x0Q acc (z0U o)])
def x2E (ops : List Oper) (j i : Nat) : Bool := ((z8f ops []).getD i 0).testBit j
theorem z2B (acc : List Nat) (j : Nat) : ∀ (ds : List Nat) (m : Nat), (ds.foldl (fun m k => m ||| 2 ^ k ||| acc.getD k 0) m).testBit j = true → m.testBit j = true ∨ ∃ k ∈ ds, j = k ∨ (acc.getD k 0).testBit j = true
 | [], m, h => .inl h
 | k :: ds, m, h => by
  rcases z2B acc j ds _ h with h1 | ⟨k', hk, h1⟩
  ·simp only [Nat.testBit_or, Bool.or_eq_true, Nat.testBit_two_pow, decide_eq_true_eq] at h1
   rcases h1 with (h1 | h1) | h1
   ·exact .inl h1
   ·exact .inr ⟨k, by simp, .inl h1.symm⟩
   ·exact .inr ⟨k, by simp, .inr h1⟩
  ·exact .inr ⟨k', by simp [hk], h1⟩
theorem y3U {ops : List Oper} {i k : Nat} {o : Oper} (ho : ops[i]? = some o) (h : k ∈ z0U o) : dep ops i k := by
 simp only [z0U, List.mem_map, List.mem_filter] at h
 obtain ⟨e, ⟨h1, h2⟩, h3⟩ := h
 exact ⟨o, ho, e, by simpa using h1, h2, h3⟩
theorem y4n {ops : List Oper} {i k : Nat} {o : Oper} (ho : ops[i]? = some o) (h : dep ops i k) : k ∈ z0U o := by
 obtain ⟨o', h1, e, h2, h3, h4⟩ := h
 rw [ho] at h1; cases h1
 simp only [z0U, List.mem_map, List.mem_filter]
 exact ⟨e, ⟨by simpa using h2, h3⟩, h4⟩
theorem z7k (ops : List Oper) : ∀ (rest done : List Oper) (acc : List Nat), ops = done ++ rest → acc.length = done.length → (∀ i j, (acc.getD i 0).testBit j = true → Anc ops j i) →
  ∀ i j, ((z8f rest acc).getD i 0).testBit j = true → Anc ops j i
 | [], _, acc, _, _, h => h
 | o :: rest, done, acc, he, hl, h => by
  refine z7k ops rest (done ++ [o]) _ (by simp [he]) (by simp [hl]) ?_
  intro i j hij
  have ho : ops[acc.length]? = some o := by rw [he, hl]; simp
  simp only [List.getD_eq_getElem?_getD] at hij
  by_cases hi : i < acc.length
  ·rw [List.getElem?_append_left hi] at hij
   exact h i j (by simpa [List.getD_eq_getElem?_getD] using hij)
  ·by_cases hi2 : i = acc.length
   ·subst hi2
    simp only [List.getElem?_concat_length, Option.getD_some] at hij
    rcases z2B acc j _ _ hij with h1 | ⟨k, hk, h1⟩
    ·simp at h1
    ·have hd := y3U ho hk
     rcases h1 with rfl | h1
     ·exact .one hd
     ·exact .step hd (h k j h1)
   ·rw [List.getElem?_eq_none (by simp; omega)] at hij
    simp at hij
theorem z7l {ops : List Oper} {j i : Nat} (h : x2E ops j i = true) : Anc ops j i :=
 z7k ops ops [] [] rfl rfl (fun i j h => by simp at h) i j h
def tmpsOf : List Operand → List Nat
 | [] => []
 | .tmp t :: l => t :: tmpsOf l
 | _ :: l => tmpsOf l
def lk (ops : Array Oper) (o : Oper) : List Nat :=
 tmpsOf o.op.operands.toList ++ (match o.guard with
  | some (g, _) => (match q30 ops g with | some t => [t] | none => [])
  | none => [])
theorem z6o {t : Nat} : ∀ {l : List Operand}, Operand.tmp t ∈ l → t ∈ tmpsOf l
 | [], h => by simp at h
 | y :: l, h => by
  rcases List.mem_cons.1 h with h1 | h1
  ·subst h1; simp [tmpsOf]
  ·have := z6o h1
   cases y <;> simp [tmpsOf, this]
theorem x0P {ops : Array Oper} {o : Oper} {t : Nat} (h : t ∈ o.looksAt ops) : t ∈ lk ops o := by
 simp only [Oper.looksAt, List.mem_append, List.mem_filterMap] at h
 simp only [lk, List.mem_append]
 rcases h with ⟨y, hy, ht⟩ | h
 ·left
  cases y <;> simp at ht
  subst ht
  exact z6o hy
 ·right
  cases hg : o.guard with
  | none => simp [hg] at h
  | some x =>
   obtain ⟨g, b⟩ := x
   simp only [hg] at h ⊢
   simp only [q30]
   cases hs : (ops[g]?).bind (·.dst) with
   | none => simp [hs] at h
   | some t' => simpa [hs] using h
def y3M (ops : List Oper) (ts : List Nat) : Bool :=
 let m := z8f ops []
 let anc := fun j i => (m.getD i 0).testBit j
 let ix := List.range ops.length
 let both := fun i j => (decide (j < i) && anc j i) || (decide (i < j) && anc i j)
 (ix.all fun i => match ops[i]? with | some o => (z0U o).all fun k => decide (k < i) | none => true) &&
 (ix.all fun i => ts.getD i 0 != 2 || ix.all fun j => ts.getD j 0 == 0 || j == i || both i j) &&
 (ix.all fun j => match (ops[j]?).bind (·.dst) with
  | none => true
  | some t => ix.all fun i => j == i || ((match (ops[i]?).bind (·.dst) with | some t' => t' != t | none => true) &&
    (match ops[i]? with | some o => !(lk ops.toArray o).contains t || both i j | none => true)))
def s00 : S := ⟨[], [], fun _ => none, []⟩
theorem z7t (k : Key) : s00.obj k = none := by cases k <;> rfl
noncomputable def kop (X : Cx) (md : List (Nat × Nat)) (k : Option Nat) (base s : S) (o : Oper) (K0 : V → Prop) (K1 : V → List (Key × O) → List (Nat × Option Nat) → Prop) (K2 : V → S → Prop) : Prop :=
 match k with
 | some 0 => iop X md s00 (p8 o) o (r7 X.gl s) s00 (fun v lo tn => lo = [] ∧ tn = [] ∧ K0 v) ∨ fop X o (r7 X.gl s) K0
 | some 1 => iop X md base (p8 o) o (r7 X.gl s) s K1
 | some 2 => top X md (p8 o) o (r7 X.gl s) s K2
 | _ => False
noncomputable def vd (X : Cx) (md : List (Nat × Nat)) (ops : Array Oper) (Φ : S → Prop) : List Oper → List Nat → S → S → Prop
 | [], _, _, s => Φ s
 | o :: rest, ts, base, s =>
  match o.guard with
  | none => kop X md ts.head? base s o (fun v => vd X md ops Φ rest ts.tail base (s.set o.dst v))
    (fun v lo tn => q3y s lo ∧ q3x s tn ∧ vd X md ops Φ rest ts.tail base ((s.add lo tn).set o.dst v))
    (fun v s' => vd X md ops Φ rest ts.tail (s'.set o.dst v) (s'.set o.dst v))
  | some (j, want) => gx (gv ops s j) want (kop X md ts.head? base s o (fun v => vd X md ops Φ rest ts.tail base (s.set o.dst v))
          (fun v lo tn => q3y s lo ∧ q3x s tn ∧ vd X md ops Φ rest ts.tail base ((s.add lo tn).set o.dst v))
          (fun v s' => vd X md ops Φ rest ts.tail (s'.set o.dst v) (s'.set o.dst v)))
     (vd X md ops Φ rest ts.tail base (s.set o.dst (.tup [])))
end Go.E
namespace Go.E
open Go
def x0G : Res := ⟨0, .any, [], [], s00⟩
def q0f (rl : List Res) (i : Nat) : Res := rl.getD i x0G
def cst (s0 : S) (ops : List Oper) (rl : List Res) : Nat → S
 | 0 => s0
 | i + 1 => match ops[i]? with
  | some o => (cst s0 ops rl i).step o (q0f rl i)
  | none => cst s0 ops rl i
theorem q9V {rl q : List Res} {i : Nat} (h : i < rl.length) : q0f (rl ++ q) i = q0f rl i := by
 simp only [q0f, List.getD_eq_getElem?_getD, List.getElem?_append_left h]
theorem z2L (rl : List Res) (r : Res) : q0f (rl ++ [r]) rl.length = r := by
 simp [q0f, List.getD_eq_getElem?_getD]
theorem q8r {s0 : S} {ops : List Oper} {rl q : List Res} : ∀ i, i ≤ rl.length → cst s0 ops (rl ++ q) i = cst s0 ops rl i
 | 0, _ => rfl
 | i + 1, h => by
  simp only [cst]
  rw [q8r i (by omega), q9V (by omega)]
theorem q86 {rl q : List Res} : ∀ i, i ≤ rl.length → X5 (q0f (rl ++ q)) i = X5 (q0f rl) i
 | 0, _ => rfl
 | i + 1, h => by
  simp only [X5]
  rw [q86 i (by omega), q9V (by omega)]
section
variable {X : Cx} {ops : List Oper} {s0 : S} {Φ : S → Prop} {ts0 : List Nat} {md : List (Nat × Nat)}
structure Pre (X : Cx) (ops : List Oper) (s0 : S) (ts0 : List Nat) (pre : List Res) : Prop where
 ok : ∀ i o, i < pre.length → ops[i]? = some o → OkR X ops.toArray (cst s0 ops pre (X5 (q0f pre) i)) (cst s0 ops pre i) o (q0f pre i)
 kind : ∀ i, i < pre.length → (q0f pre i).t = 0 ∨ (q0f pre i).t = ts0.getD i 0
 tri : ∀ i, (q0f pre i).t = 0 ∨ (q0f pre i).t = 1 ∨ (q0f pre i).t = 2
theorem Pre.snoc {pre : List Res} (p : Pre X ops s0 ts0 pre) {o : Oper} (ho : ops[pre.length]? = some o) {r : Res}
  (hok : OkR X ops.toArray (cst s0 ops pre (X5 (q0f pre) pre.length)) (cst s0 ops pre pre.length) o r) (hk : r.t = 0 ∨ r.t = ts0.getD pre.length 0) (htri : r.t = 0 ∨ r.t = 1 ∨ r.t = 2) : Pre X ops s0 ts0 (pre ++ [r]) := by
 have rl : ∀ i, i < pre.length → q0f (pre ++ [r]) i = q0f pre i := fun i h => q9V h
 have cl : ∀ i, i ≤ pre.length → cst s0 ops (pre ++ [r]) i = cst s0 ops pre i := fun i h => q8r i h
 have tl : ∀ i, i ≤ pre.length → X5 (q0f (pre ++ [r])) i = X5 (q0f pre) i := fun i h => q86 i h
 have rlast : q0f (pre ++ [r]) pre.length = r := z2L pre r
 have cases_ : ∀ i, i < (pre ++ [r]).length → i < pre.length ∨ i = pre.length := by intro i h; simp at h; omega
 refine ⟨?_, ?_, ?_⟩
 ·intro i o' hi ho'
  rcases cases_ i hi with h | rfl
  ·rw [rl i h, cl i (by omega), tl i (by omega), cl _ (by have := q3k (q0f pre) i; omega)]
   exact p.ok i o' h ho'
  ·rw [ho] at ho'; cases ho'
   rw [rlast, cl _ (Nat.le_refl _), tl _ (Nat.le_refl _), cl _ (q3k _ _)]
   exact hok
 ·intro i hi
  rcases cases_ i hi with h | rfl
  ·rw [rl i h]; exact p.kind i h
  ·rw [rlast]; exact hk
 ·intro i
  by_cases h : i < pre.length
  ·rw [rl i h]; exact p.tri i
  ·by_cases h2 : i = pre.length
   ·subst h2; rw [rlast]; exact htri
   ·left
    simp only [q0f, List.getD_eq_getElem?_getD]
    rw [List.getElem?_eq_none (by simp; omega)]
    rfl
theorem y4H (hP : u6 X.P = true) : ∀ (rest : List Oper) (ts : List Nat) (pre : List Res) (done : List Oper),
  ops = done ++ rest → pre.length = done.length → ts = ts0.drop pre.length → Pre X ops s0 ts0 pre →
  vd X md ops.toArray Φ rest ts (cst s0 ops pre (X5 (q0f pre) pre.length)) (cst s0 ops pre pre.length) →
  ∃ rl, rl.length = ops.length ∧ Pre X ops s0 ts0 rl ∧ Φ (cst s0 ops rl ops.length)
 | [], ts, pre, done, he, hl, _, p, h => by
  have : pre.length = ops.length := by rw [he, hl]; simp
  exact ⟨pre, this, p, by rw [← this]; simpa [vd] using h⟩
 | o :: rest, ts, pre, done, he, hl, hts, p, h => by
  have ho : ops[pre.length]? = some o := by rw [he, hl]; simp
  have next : ∀ (r : Res), Pre X ops s0 ts0 (pre ++ [r]) →
    vd X md ops.toArray Φ rest ts.tail (if r.t = 2 then (cst s0 ops pre pre.length).step o r else cst s0 ops pre (X5 (q0f pre) pre.length)) ((cst s0 ops pre pre.length).step o r) →
    ∃ rl, rl.length = ops.length ∧ Pre X ops s0 ts0 rl ∧ Φ (cst s0 ops rl ops.length) := by
   intro r p' hv
   refine y4H hP rest ts.tail (pre ++ [r]) (done ++ [o]) (by simp [he]) (by simp [hl]) ?_ p' ?_
   ·rw [hts]; simp
   ·have e1 : cst s0 ops (pre ++ [r]) (pre ++ [r]).length = (cst s0 ops pre pre.length).step o r := by
     rw [List.length_append]
     simp only [List.length_cons, List.length_nil, Nat.zero_add, cst, ho]
     rw [q8r _ (Nat.le_refl _), z2L]
    have e2 : cst s0 ops (pre ++ [r]) (X5 (q0f (pre ++ [r])) (pre ++ [r]).length) = if r.t = 2 then (cst s0 ops pre pre.length).step o r else cst s0 ops pre (X5 (q0f pre) pre.length) := by
     have e3 : (pre ++ [r]).length = pre.length + 1 := by simp
     rw [e3]
     simp only [X5, z2L]
     split
     ·rw [← e3]; exact e1
     ·rw [q86 _ (Nat.le_refl _), q8r _ (q3k _ _)]
    rw [e1, e2]
    exact hv
  have kind : ∀ k, ts.head? = some k → k = ts0.getD pre.length 0 := by
   intro k hk
   rw [hts, List.head?_drop] at hk
   simp [List.getD_eq_getElem?_getD, hk]
  simp only [vd] at h
  generalize hs : cst s0 ops pre pre.length = s at *
  have skip : q3A ops.toArray s o = some false → vd X md ops.toArray Φ rest ts.tail (cst s0 ops pre (X5 (q0f pre) pre.length)) (s.set o.dst (.tup [])) →
    ∃ rl, rl.length = ops.length ∧ Pre X ops s0 ts0 rl ∧ Φ (cst s0 ops rl ops.length) := by
   intro hw hv
   exact next ⟨0, .tup [], [], [], s00⟩ (p.snoc ho (.inl ⟨by rw [hs]; exact hw, rfl, rfl⟩) (.inl rfl) (.inl rfl)) hv
  have go : q3A ops.toArray s o = some true → kop X md ts.head? (cst s0 ops pre (X5 (q0f pre) pre.length)) s o
      (fun v => vd X md ops.toArray Φ rest ts.tail (cst s0 ops pre (X5 (q0f pre) pre.length)) (s.set o.dst v))
      (fun v lo tn => q3y s lo ∧ q3x s tn ∧ vd X md ops.toArray Φ rest ts.tail (cst s0 ops pre (X5 (q0f pre) pre.length)) ((s.add lo tn).set o.dst v))
      (fun v s' => vd X md ops.toArray Φ rest ts.tail (s'.set o.dst v) (s'.set o.dst v)) → ∃ rl, rl.length = ops.length ∧ Pre X ops s0 ts0 rl ∧ Φ (cst s0 ops rl ops.length) := by
   intro hw hr
   unfold kop at hr
   split at hr
   ·rcases hr with hr | hr
    rotate_left
    ·obtain ⟨v, hv, hI⟩ := z8Q hP hr
     have hd : y4z X o (r7 X.gl s) v := fun Γ w a s' hgl c hops => hI Γ w a s' c hops
     exact next ⟨0, v, [], [], s00⟩ (p.snoc ho (.inr ⟨by rw [hs]; exact hw, .inl ⟨rfl, by rw [hs]; exact hd⟩⟩) (.inl rfl) (.inl rfl)) hv
    obtain ⟨v, lo, tn, ⟨rfl, rfl, hv⟩, hI⟩ := q9K hP hr
    have hd : y4z X o (r7 X.gl s) v := fun Γ w a s' hgl c hops =>
     hI Γ w a s' hgl c ⟨fun k o h => (by rw [z7t] at h; cases h), fun k o h => (by rw [z7t] at h; cases h)⟩ ⟨fun k o h => (by simp [y7] at h), fun t x h => (by simp [look] at h)⟩ hops
    exact next ⟨0, v, [], [], s00⟩ (p.snoc ho (.inr ⟨by rw [hs]; exact hw, .inl ⟨rfl, by rw [hs]; exact hd⟩⟩) (.inl rfl) (.inl rfl)) hv
   ·rename_i hk
    obtain ⟨v, lo, tn, ⟨hf1, hf2, hv⟩, hI⟩ := q9K hP hr
    exact next ⟨1, v, lo, tn, s00⟩ (p.snoc ho (.inr ⟨by rw [hs]; exact hw, .inr (.inl ⟨rfl, by rw [hs]; exact hI, by rw [hs]; exact z5A hf1 hf2⟩)⟩) (.inr (kind 1 hk)) (.inr (.inl rfl))) hv
   ·rename_i hk
    obtain ⟨v, s1, hv, hT⟩ := z2y hP hr
    exact next ⟨2, v, [], [], s1⟩ (p.snoc ho (.inr ⟨by rw [hs]; exact hw, .inr (.inr ⟨rfl, by rw [hs]; exact hT⟩)⟩) (.inr (kind 2 hk)) (.inr (.inr rfl))) hv
   ·exact hr.elim
  split at h
  ·rename_i hg
   exact go (by simp [q3A, hg]) h
  ·rename_i j want hg
   cases ht : q30 ops.toArray j with
   | none => simp [gv, ht, gx] at h
   | some t =>
    simp only [gv, ht] at h
    unfold gx at h
    split at h
    ·rename_i cb hb
     by_cases hbw : cb.toBool = want
     ·exact go (by simp [q3A, hg, ht, hb, hbw]) (h.1 hbw)
     ·exact skip (by simp [q3A, hg, ht, hb, hbw]) (h.2 hbw)
    ·rename_i hb
     exact skip (by simp [q3A, hg, ht, hb]) h
    ·exact h.elim
end
section
variable {X : Cx} {n : Nat} {s : S} {Ψ : Exit → S → Prop}
theorem y3h {ops : List Oper} {i j : Nat} (h : ((decide (j < i) && ((z8f ops []).getD i 0).testBit j) || (decide (i < j) && ((z8f ops []).getD j 0).testBit i)) = true) : (j < i ∧ Anc ops j i) ∨ (i < j ∧ Anc ops i j) := by
 simp only [Bool.or_eq_true, Bool.and_eq_true, decide_eq_true_eq] at h
 rcases h with ⟨h1, h2⟩ | ⟨h1, h2⟩
 ·exact .inl ⟨h1, z7l h2⟩
 ·exact .inr ⟨h1, z7l h2⟩
theorem y45 {ops : List Oper} {ts : List Nat} {s0 : S} {rl : List Res} (hl : rl.length = ops.length) (p : Pre X ops s0 ts rl) (h : y3M ops ts = true) :
  Orders ops (q0f rl) := by
 simp only [y3M, Bool.and_eq_true, List.all_eq_true, List.mem_range] at h
 obtain ⟨⟨h1, h2⟩, h3⟩ := h
 refine ⟨?_, ?_, ?_, ?_⟩
 ·intro i j hd
  obtain ⟨o, ho, _⟩ := id hd
  have hi : i < ops.length := (List.getElem?_eq_some_iff.1 ho).1
  have := h1 i hi
  rw [ho] at this
  simp only [List.all_eq_true, decide_eq_true_eq] at this
  exact this j (y4n ho hd)
 ·intro i j hi hj ht htj hji
  have hk := p.kind i (by omega)
  have hti : ts.getD i 0 = 2 := by rcases hk with h | h <;> omega
  have htj' : ts.getD j 0 ≠ 0 := by
   rcases p.kind j (by omega) with h | h
   ·exact absurd h htj
   ·rw [← h]; exact htj
  have := h2 i hi
  rw [hti] at this
  simp only [bne_self_eq_false, Bool.false_or, List.all_eq_true, List.mem_range] at this
  have := this j hj
  have e1 : (ts.getD j 0 == 0) = false := by simpa using htj'
  have e2 : (j == i) = false := by simpa using hji
  rw [e1, e2] at this
  simp only [Bool.false_or] at this
  exact y3h this
 ·rintro i j t hji ⟨o, ho, hd⟩ ⟨o', ho', hl'⟩
  have hj : j < ops.length := (List.getElem?_eq_some_iff.1 ho).1
  have hi : i < ops.length := (List.getElem?_eq_some_iff.1 ho').1
  have := h3 j hj
  rw [ho] at this
  simp only [Option.bind_some, hd, List.all_eq_true, List.mem_range] at this
  have := this i hi
  have e2 : (j == i) = false := by simpa using hji
  rw [e2, ho'] at this
  have e3 : (lk ops.toArray o').contains t = true := by simpa using x0P hl'
  simp only [Bool.false_or, Bool.and_eq_true, e3, Bool.not_true] at this
  exact y3h this.2
 ·rintro i j t ⟨o, ho, hd⟩ ⟨o', ho', hd'⟩
  refine Classical.byContradiction fun hne => ?_
  have hi : i < ops.length := (List.getElem?_eq_some_iff.1 ho).1
  have hj : j < ops.length := (List.getElem?_eq_some_iff.1 ho').1
  have := h3 j hj
  rw [ho'] at this
  simp only [Option.bind_some, hd', List.all_eq_true, List.mem_range] at this
  have := this i hi
  have e2 : (j == i) = false := by simpa using fun e => hne e.symm
  rw [e2, ho] at this
  simp [hd] at this
theorem y7C (hP : u6 X.P = true) (hm : X.P.follows .mixedOrders = true) (md : List (Nat × Nat)) {id : Nat} {l : List Oper} (ts : List Nat) (hok : l.all (q8O n) = true) (hord : y3M l ts = true)
  (h : vd X md l.toArray (fun s' => Ψ .normal s') l ts s s) : DC X n (.region id l.toArray true) s Ψ := by
 have p0 : Pre X l s ts [] := ⟨fun i o h => by simp at h, fun i h => by simp at h, fun i => .inl (by simp [q0f, x0G])⟩
 obtain ⟨rl, hl, p, hΦ⟩ := y4H hP l ts [] [] rfl rfl (by simp) p0 h
 have K : Canon X l s (q0f rl) (cst s l rl) := ⟨rfl, fun i o ho => by simp only [cst, ho], fun i o ho => p.ok i o (by rw [hl]; exact (List.getElem?_eq_some_iff.1 ho).1) ho, p.tri⟩
 exact x1f hP hm K (y45 hl p hord) (fun o ho => List.all_eq_true.1 hok o ho) hΦ
end
end Go.E
namespace Go.E
open Go
noncomputable def q11 (P : Program) (T : TypeId) (τ : Ty) (op : BinOp) (x y : V) (K : V → Prop) : Prop :=
 match τ with
 | .int k => x.isInt k ∧ (if BinOp.q5D op then y.H4 ∧ z02 op k x.toInt y.toInt K else y.isInt k ∧ q6f op k x.toInt y.toInt K)
 | .bool => x.isBool ∧ y.isBool ∧ (match op with
   | .eql => K (.d .bool (.bool (x.toBool == y.toBool)))
   | .neq => K (.d .bool (.bool (!(x.toBool == y.toBool))))
   | _ => False)
 | .str => x.isStr ∧ y.isStr ∧ q7q op x.toStr y.toStr K
 | .ptr => (match op, x.q6H, y.q6H with
   | .eql, some a, some true => K (.d .bool (.bool a))
   | .neq, some a, some true => K (.d .bool (.bool (!a)))
   | .eql, some true, some b => K (.d .bool (.bool b))
   | .neq, some true, some b => K (.d .bool (.bool (!b)))
   | _, _, _ => False)
 | .arr n e => U8 P T = true ∧ x.U7 (.arr n e) ∧ y.U7 (.arr n e) ∧ q47 op (C.eqb x.toC y.toC) K
 | .struct sz os fs => U8 P T = true ∧ x.U7 (.struct sz os fs) ∧ y.U7 (.struct sz os fs) ∧ q47 op (C.eqb x.toC y.toC) K
 | .slice _ _ => (match op, x.y0P, y with
   | .eql, some r, .nilc => K (q8P r)
   | .neq, some r, .nilc => K (q8P (r.map (!·)))
   | _, _, _ => False)
 | _ => False
section
variable {P : Program} {T : TypeId} {x y : V} {K : V → Prop} {op : BinOp}
theorem y6L : z3U P op T x y K = q11 P T (ty P T) op x y K := rfl
theorem y3F {k : IntKind} : q11 P T (.int k) op x y K = (x.isInt k ∧ (if BinOp.q5D op then y.H4 ∧ z02 op k x.toInt y.toInt K else y.isInt k ∧ q6f op k x.toInt y.toInt K)) := rfl
theorem y3H : q11 P T .bool .eql x y K = (x.isBool ∧ y.isBool ∧ K (.d .bool (.bool (x.toBool == y.toBool)))) := rfl
theorem y3G : q11 P T .bool .neq x y K = (x.isBool ∧ y.isBool ∧ K (.d .bool (.bool (!(x.toBool == y.toBool))))) := rfl
theorem y3E : q11 P T .str op x y K = (x.isStr ∧ y.isStr ∧ q7q op x.toStr y.toStr K) := rfl
theorem z9j {k : Key} {q : List Nat} {τ : Ty} : q11 P T .ptr .eql (.ptr k q τ) (.d .ptr .nil) K = K (.d .bool (.bool false)) := rfl
theorem z9i {k : Key} {q : List Nat} {τ : Ty} : q11 P T .ptr .neq (.ptr k q τ) (.d .ptr .nil) K = K (.d .bool (.bool true)) := rfl
theorem z9l : q11 P T .ptr .eql (.d .ptr .nil) (.d .ptr .nil) K = K (.d .bool (.bool true)) := rfl
theorem z9k : q11 P T .ptr .neq (.d .ptr .nil) (.d .ptr .nil) K = K (.d .bool (.bool false)) := rfl
theorem y0q {eb : Nat} {e : Ty} {cs : List C} {t eb' : Nat} {e' : Ty} : q11 P T (.slice eb e) .eql (.sl eb' e' cs t) .nilc K = K (q8P (bif cs.isEmpty then none else some false)) := rfl
theorem y0r {eb : Nat} {e : Ty} {c : C} {eb' : Nat} {e' : Ty} : q11 P T (.slice eb e) .eql (.d (.slice eb' e') c) .nilc K = K (q8P (bif c.elems.isEmpty then none else some false)) := rfl
theorem y0p {eb : Nat} {e : Ty} {k : Key} {q : List Nat} {lo n : Nat} {cp : Option Nat} {eb' : Nat} {e' : Ty} : q11 P T (.slice eb e) .eql (.sr k q lo n cp eb' e') .nilc K = K (q8P (bif n == 0 then none else some false)) := rfl
theorem z9m {eb : Nat} {e : Ty} {eb' : Nat} {e' : Ty} : q11 P T (.slice eb e) .eql (.emp eb' e') .nilc K = K (.top .bool) := rfl
theorem z7B {eb : Nat} {e : Ty} : q11 P T (.slice eb e) .eql .nilc .nilc K = K (.d .bool (.bool true)) := rfl
theorem y3I {n : Nat} {e : Ty} : q11 P T (.arr n e) op x y K = (U8 P T = true ∧ x.U7 (.arr n e) ∧ y.U7 (.arr n e) ∧ q47 op (C.eqb x.toC y.toC) K) := rfl
end
theorem w7 (n : Int) : (C.int n).toInt = n := rfl
theorem J8 (b : Bool) : (C.bool b).toBool = b := rfl
theorem x2g (l : List UInt8) : (C.str l).toStr = l := rfl
theorem w5 (cs : List C) : (C.slice cs).elems = cs := rfl
theorem q1T (cs : List C) : (C.agg cs).elems = cs := rfl
theorem y5X (cs : List C) (i : Nat) : (C.agg cs).get i = cs.getD i .nil := rfl
theorem get_nil (j : Nat) (l : List (Key × O)) (A : Key → Option O) (tk : List (Nat × Option Nat)) : (S.mk [] l A tk).get j = .any := rfl
theorem y6B (e : List (Nat × V)) (l : List (Key × O)) (A : Key → Option O) (tk : List (Nat × Option Nat)) (d : Nat) (x : V) : (S.mk e l A tk).set (some d) x = S.mk (z5h e d x) l A tk := rfl
theorem y6C (s : S) (x : V) : s.set none x = s := rfl
theorem x0H (e : List (Nat × V)) (l : List (Key × O)) (A : Key → Option O) (tk : List (Nat × Option Nat)) (k : Key) (o : O) : (S.mk e l A tk).put k o = S.mk e (y0t l k o) A tk := rfl
theorem y97 (e : List (Nat × V)) (l : List (Key × O)) (A : Key → Option O) (tk : List (Nat × Option Nat)) (t : Nat) (x : Option Nat) : (S.mk e l A tk).tok t x = S.mk e l A (z5h tk t x) := rfl
theorem x1k (e : List (Nat × V)) (l : List (Key × O)) (A : Key → Option O) (tk : List (Nat × Option Nat)) (lo : List (Key × O)) (tn : List (Nat × Option Nat)) : (S.mk e l A tk).add lo tn = S.mk e (lo ++ l) A (tn ++ tk) := rfl
theorem y3Q (e : List (Nat × V)) (A : Key → Option O) (tk : List (Nat × Option Nat)) (k : Key) : (S.mk e [] A tk).obj (.g k) = A k := rfl
theorem y0K (e : List (Nat × V)) (A : Key → Option O) (tk : List (Nat × Option Nat)) (n : Nat) : (S.mk e [] A tk).obj (.l n) = none := rfl
theorem y87 (e : List (Nat × V)) (l : List (Key × O)) (A : Key → Option O) (tk : List (Nat × Option Nat)) (t : Nat) : (S.mk e l A tk).live t = q1u tk t := rfl
theorem y5d (t : Nat) : q1u [] t = none := rfl
theorem y1a (e : List (Nat × V)) (l : List (Key × O)) (A : Key → Option O) (t : Nat) : (S.mk e l A []).known t = false := rfl
theorem y92 (τ : Ty) (c : C) (i : Nat) : (V.d τ c).get i = .d (τ.get i) (c.get i) := rfl
theorem y6d (τ : Ty) (vs : List V) (i : Nat) : (V.agg τ vs).get i = vs.getD i .any := rfl
theorem y6g (x : V) (i : Nat) (q : List Nat) : x.at (i :: q) = (x.get i).at q := by rfl
theorem y8w (τ : Ty) (c : C) : (V.d τ c).toInt = c.toInt := rfl
theorem y6k (τ : Ty) (c : C) : (V.d τ c).toBool = c.toBool := rfl
theorem y8v (τ : Ty) (c : C) : (V.d τ c).toStr = c.toStr := rfl
theorem x1J (τ : Ty) (c : C) : (V.d τ c).toC = c := rfl
theorem y9E (n : Nat) (e : Ty) (i : Nat) : (Ty.arr n e).get i = e := rfl
theorem x1I (e : List (Nat × V)) (l : List (Key × O)) (A : Key → Option O) (tk : List (Nat × Option Nat)) (k : Key) : (S.mk e l A tk).up k = ((S.mk e l A tk).obj k).map (O.ren .g) := rfl
theorem y5l (k : IntKind) : (Ty.int k).known = true := rfl
theorem y5s (k : IntKind) : (Ty.int k).isAgg = false := rfl
theorem y3Z  : (Ty.bool).known = true := rfl
theorem y34  : (Ty.bool).isAgg = false := rfl
theorem y5i  : (Ty.str).known = true := rfl
theorem y5p  : (Ty.str).isAgg = false := rfl
theorem y2m (n : Nat) (e : Ty) : (Ty.slice n e).known = true := rfl
theorem y2o (n : Nat) (e : Ty) : (Ty.slice n e).isAgg = false := rfl
theorem y5m (n : Nat) (e : Ty) : (Ty.arr n e).known = true := rfl
theorem y5t (n : Nat) (e : Ty) : (Ty.arr n e).isAgg = true := rfl
theorem y5j  : (Ty.ptr).known = true := rfl
theorem y5q  : (Ty.ptr).isAgg = false := rfl
theorem y5k  : (Ty.map).known = true := rfl
theorem y5r  : (Ty.map).isAgg = false := rfl
theorem y3Y  : (Ty.func).known = true := rfl
theorem y33  : (Ty.func).isAgg = false := rfl
theorem y2n  : (Ty.iface).known = true := rfl
theorem y2p  : (Ty.iface).isAgg = false := rfl
theorem y5T (n : Nat) (e : Ty) (i : Nat) : (Ty.arr n e).child i = if i < n then some (i * e.size, e) else none := rfl
theorem y30 (n : Nat) (e : Ty) : (Ty.arr n e).q1E = List.replicate n e := rfl
theorem y4P (n : Nat) (e : Ty) (i : Nat) : (Ty.slice n e).get i = e := rfl
theorem y3S (d : Nat) : Z6 [] d = 0 := rfl
section
variable {X : Cx} {md : List (Nat × Nat)} {ops : Array Oper} {Φ : S → Prop} {o : Oper} {rest : List Oper} {s : S}
theorem Y6.mono {f : FuncId} {xs : List V} {A A' : Key → Option O} {v : V} {L : List (Key × O)} (h : Y6 X f xs A v L) (hA : ∀ k o, A k = some o → A' k = some o) : Y6 X f xs A' v L :=
 fun A'' Γ w args hAA => h A'' Γ w args fun k o hk => hAA k o (hA k o hk)
end
section
variable {X : Cx} {md : List (Nat × Nat)} {ops : Array Oper} {Φ : S → Prop} {o : Oper} {rest : List Oper} {ts : List Nat} {base s : S}
end
end Go.E
namespace Go.E
open Go
section
variable {X : Cx} {md : List (Nat × Nat)} {ops : Array Oper} {Φ : S → Prop} {n : List Unit} {u : Unit} {o : Oper} {rest : List Oper} {ts : List Nat} {base s s' : S} {dst : Option Nat} {lo : List (Key × O)} {tn : List (Nat × Option Nat)} {d : Option Nat} {op : Op} {T : TypeId} {ps : String} {af : Array Edge} {j : Nat} {want : Bool}
end
end Go.E
namespace Go.E
open Go
mutual
def C.wf : Ty → C → Prop
 | .int k, c => c = .int c.toInt ∧ k.min ≤ c.toInt ∧ c.toInt ≤ k.max
 | .bool, c => c = .bool c.toBool
 | .str, c => c = .str c.toStr ∧ c.toStr.length ≤ 140737488355328
 | .slice eb e, c => c = .slice c.elems ∧ c.elems.length * eb ≤ 140737488355328 ∧ c.elems.length ≤ 9223372036854775807 ∧ ∀ x ∈ c.elems, C.wf e x
 | .arr n e, c => c = .agg c.elems ∧ c.elems.length = n ∧ ∀ x ∈ c.elems, C.wf e x
 | .struct _ _ fs, c => c = .agg c.elems ∧ C.wfs fs c.elems
 | .opq _, _ => False
 | .iface, c => c = .nil ∨ c = .bool true
 | _, c => c = .nil
def C.wfs : List Ty → List C → Prop
 | [], cs => cs = []
 | f :: fs, cs => ∃ c cs', cs = c :: cs' ∧ C.wf f c ∧ C.wfs fs cs'
end
theorem C.z5P : ∀ {fs : List Ty} {cs : List C}, C.wfs fs cs → cs.length = fs.length
 | [], _, h => by simp only [C.wfs] at h; simp [h]
 | f :: fs, cs, h => by
  simp only [C.wfs] at h
  obtain ⟨c, cs', rfl, _, h⟩ := h
  simp [C.z5P h]
theorem C.y2D : ∀ {fs : List Ty} {cs : List C} {i : Nat} {f : Ty}, C.wfs fs cs → fs[i]? = some f → C.wf f (cs.getD i .nil)
 | [], _, _, _, _, h => by simp at h
 | g :: fs, cs, i, f, h, hi => by
  simp only [C.wfs] at h
  obtain ⟨c, cs', rfl, h1, h2⟩ := h
  cases i with
  | zero => simp at hi; subst hi; simpa using h1
  | succ i => simpa using C.y2D h2 (show fs[i]? = some f by simpa using hi)
theorem C.z48 {sz : Nat} {os : List Nat} {fs : List Ty} {c : C} {i : Nat} {f : Ty} (h : C.wf (.struct sz os fs) c) (hi : fs[i]? = some f) : C.wf f (c.get i) := by
 simp only [C.wf] at h
 rw [h.1]
 exact C.y2D h.2 hi
mutual
theorem y8.wf {H : Hp} : ∀ {τ : Ty} {vs : List Value} {c : C}, y8 H τ vs c → C.wf τ c
 | .int k, vs, c, h => by
  simp only [y8] at h
  obtain ⟨n, rfl, _, h1, h2⟩ := h
  exact ⟨rfl, h1, h2⟩
 | .bool, vs, c, h => by
  simp only [y8] at h
  obtain ⟨n, rfl, _⟩ := h
  rfl
 | .str, vs, c, h => by
  simp only [y8] at h
  obtain ⟨n, rfl, _, h1⟩ := h
  exact ⟨rfl, h1⟩
 | .slice eb e, vs, c, h => by
  simp only [y8] at h
  obtain ⟨a, n, cap, cs, rfl, rfl, h1, h2, h3, h4, h5⟩ := h
  simp only [C.wf, C.elems]
  refine ⟨trivial, by rw [h1]; exact h4, by unfold maxLen at h3; omega, fun x hx => ?_⟩
  obtain ⟨i, hi⟩ := List.getElem?_of_mem hx
  rcases h5 with h5 | ⟨b, off, l, _, _, _, hr⟩
  ·subst h5; have := (List.getElem?_eq_some_iff.1 hi).1; omega
  ·exact y8.wf (hr i x hi)
 | .arr n e, vs, c, h => by
  simp only [y8] at h
  obtain ⟨cs, rfl, h1, h2, h4, h3⟩ := h
  simp only [C.wf, C.elems]
  refine ⟨trivial, h1, fun x hx => ?_⟩
  obtain ⟨i, hi⟩ := List.getElem?_of_mem hx
  exact y8.wf (h3 i x hi)
 | .struct sz os fs, vs, c, h => by
  simp only [y8] at h
  obtain ⟨cs, rfl, _, _, h2⟩ := h
  simp only [C.wf, C.elems]
  exact ⟨trivial, Q2.wf h2⟩
 | .ptr, vs, c, h | .map, vs, c, h | .func, vs, c, h => by
  simp only [y8] at h
  simp only [C.wf]; exact h.1
 | .iface, vs, c, h => by
  simp only [y8] at h
  simp only [C.wf]
  rcases h with h | h
  ·exact .inl h.1
  ·exact .inr h.1
 | .opq _, _, _, h => by simp only [y8] at h
theorem Q2.wf {H : Hp} : ∀ {fs : List Ty} {os : List Nat} {vs : List Value} {cs : List C}, Q2 H fs os vs cs → C.wfs fs cs
 | [], _, _, _, h => by simp only [Q2] at h; simp only [C.wfs]; exact h
 | f :: fs, o :: os, vs, cs, h => by
  simp only [Q2] at h
  obtain ⟨c, cs', rfl, _, h2, h3⟩ := h
  simp only [C.wfs]
  exact ⟨c, cs', rfl, y8.wf h2, Q2.wf h3⟩
 | _ :: _, [], _, _, h => by simp [Q2] at h
end
mutual
def V.wf : V → Prop
 | .d τ c => C.wf τ c
 | .sl eb e cs _ => C.wf (.slice eb e) (.slice cs)
 | .ts eb e cs => C.wf (.slice eb e) (.slice cs)
 | .sr _ _ _ n _ eb _ => n * eb ≤ 140737488355328 ∧ n ≤ 9223372036854775807
 | .cptr τ c => C.wf τ c
 | .agg _ vs => V.wfs vs
 | _ => True
def V.wfs : List V → Prop
 | [] => True
 | x :: xs => x.wf ∧ V.wfs xs
end
mutual
theorem z6.wf {Γ : G} {hm : Option Key} : ∀ {x : V} {p : List Nat} {vs : List Value}, z6 Γ hm p x vs → x.wf
 | .d τ c, _, _, h => by simp only [z6] at h; exact h.wf
 | .sl eb e cs t, _, _, h => by simp only [z6] at h; obtain ⟨a, n, cap, _, h, _⟩ := h; exact h.wf
 | .ts eb e cs, _, _, h => by simp only [z6] at h; obtain ⟨a, n, cap, k, _, _, h, _⟩ := h; exact h.wf
 | .sr _ _ _ n _ eb _, _, _, h => by
  simp only [z6] at h
  rcases h with ⟨_, rfl, _⟩ | ⟨b, τ0, o, m, cap, _, _, _, _, h1, h2, h3, _⟩
  ·exact ⟨by rw [Nat.zero_mul]; exact Nat.zero_le _, Nat.zero_le _⟩
  exact ⟨h3, by unfold maxLen at h2; omega⟩
 | .cptr τ c, _, _, h => by simp only [z6] at h; obtain ⟨b, off, l, _, _, _, h⟩ := h; exact h.wf
 | .agg _ vs, _, _, h => by simp only [z6] at h; exact x9.wf h.2.2.2.2
 | .emp _ _, _, _, _ | .nilc, _, _, _ | .ptr _ _ _, _, _, _ | .mp _, _, _, _ | .fn _ _, _, _, _ | .tup _, _, _, _ | .top _, _, _, _ | .any, _, _, _ => by simp only [V.wf]
theorem x9.wf {Γ : G} {hm : Option Key} : ∀ {xs : List V} {p : List Nat} {i : Nat} {τ : Ty} {vs : List Value}, x9 Γ hm p i τ xs vs → V.wfs xs
 | [], _, _, _, _, _ => by simp only [V.wfs]
 | x :: xs, _, _, _, _, h => by
  simp only [x9] at h
  obtain ⟨⟨o, f, _, _, _, h1⟩, h2⟩ := h
  exact ⟨z6.wf h1, x9.wf h2⟩
end
def V.wfT : V → Prop
 | .tup xs => V.wfs xs
 | x => x.wf
theorem w9.wf {Γ : G} : ∀ {xs : List V} {vs : List Value}, w9 Γ xs vs → V.wfs xs
 | [], _, _ => by simp only [V.wfs]
 | x :: xs, _, h => by
  simp only [w9] at h
  obtain ⟨v, vs', _, h1, _, h2⟩ := h
  exact ⟨z6.wf h1, w9.wf h2⟩
theorem z8.wf {Γ : G} {x : V} {v : Value} (h : z8 Γ x v) : x.wfT := by
 cases x
 case any => simp only [V.wfT, V.wf]
 case tup xs => obtain ⟨vs, _, h⟩ := h; exact h.wf
 all_goals exact z6.wf h.1
def O.wf : O → Prop
 | .box x => x.wf
 | .map _ _ es => ∀ c ∈ es, c.2.wf
 | .it _ _ | .dead _ => True
structure WF (s : S) : Prop where
 slot : ∀ t, (s.get t).wfT
 obj : ∀ k x, s.obj k = some (.box x) → x.wf
section
variable {X : Cx} {n : Nat} {s : S} {Ψ : Exit → S → Prop} {c : Code}
theorem At.wf {Γ0 : G} {a : Act} {w : World} (h : At X n Γ0 s a w) : WF s := by
 obtain ⟨Γ, _, _, c, hs, _⟩ := h
 refine ⟨fun t => (hs t).wf, fun k x hk => ?_⟩
 rcases c.obj k _ hk with ⟨_, e, rfl⟩ | ⟨b, cells, T, _, _, _, _, _, h, _⟩
 ·simp [V.wf, C.wf, C.elems]
 exact h.wf
theorem WF.at {t : Nat} {x : V} (h : WF s) (ht : s.get t = x) : x.wfT := ht ▸ h.slot t
end
theorem y8q {k : IntKind} {n : Int} (h1 : k.min ≤ n) (h2 : n ≤ k.max) : k.wrap n = n := by
 cases k <;> simp [IntKind.wrap, IntKind.min, IntKind.max, IntKind.bits, IntKind.signed] at h1 h2 ⊢ <;> omega
end Go.E
namespace Go.E
open Go
attribute [go_sem] eq_self Option.bind_some Option.bind_none Option.map_some Option.map_none Bool.not_true Bool.not_false decide_true decide_false forall_const true_implies false_implies
attribute [go_sem] implies_true not_true not_false_iff sop iop kop fop sl3 y1S q7M z69 lk List.head?_cons List.tail_cons List.head?_nil
attribute [go_sem] strOf Ty.y1b Op.operands Call.operands q3y q3x top y3S pv q3G z3T y0o q8N
attribute [go_sem] q7D q3F q8v Z8 V.q3o cut y6L y3F y3H y3G y3E z9j
attribute [go_sem] z9i z9l z9k y0q y0r y0p z9m z7B q8P y3I Bool.false_eq_true if_true if_false q6f q7q z02 q47 BinOp.q5D
attribute [go_sem] p8 r7 y1N q6G H0 V.slot q2I V.q1x V.F4 V.tkR S.start
attribute [go_sem] get_nil y6B y6C x0H y97 x1k y3Q y0K y87 y5d
attribute [go_sem] y1a x1I O.ren V.ren V.q03 z5h z3s q9w y0t z3t z56
attribute [go_sem] E.look y7 Nat.zero_ne_one Nat.one_ne_zero X3 q0D X6 Y4 q13 W8 q6k gOk
attribute [go_sem] tOk S.ret q4P q52 q5q dn rk dnL dnT q1c q7W U2
attribute [go_sem] V.sites V.z2G V.Z2 V.q3w V.okH V.y0I V.Z3 V.q1F q30 Option.getD_some Option.getD_none or_false
attribute [go_sem] false_or and_true true_and and_self or_true true_or or_self List.nil_append List.cons_append List.append_nil V.isInt V.H4
attribute [go_sem] V.isBool V.isStr V.U7 y8w y6k y8v x1J w7 J8 x2g w5 q1T
attribute [go_sem] y5X y6g y92 y6d y9E V.setAt V.set C.set q0h W6 q6l
attribute [go_sem] q6T V.ty V.plain V.j8 V.U0 V.q6H view views Z7 q1v List.map_cons List.map_nil
attribute [go_sem] List.getD_cons_zero List.getD_cons_succ List.set_cons_zero List.set_cons_succ List.all_cons List.all_nil Array.getD_eq_getD_getElem? ne_eq not_false_eq_true not_true_eq_false Ty.size y5l
attribute [go_sem] y5s y3Z y34 y5i y5p y2m y2o y5m y5t y5j y5q y5k
attribute [go_sem] y5r y3Y y33 y2n y2p y5T y30 y4P Option.isSome_some Option.isSome_none List.getElem?_toArray List.getElem?_cons_zero
attribute [go_sem] List.getElem?_cons_succ List.size_toArray List.length_cons List.length_nil Nat.lt_add_one Nat.zero_lt_succ Bool.and_true Bool.true_and Bool.or_true Bool.true_or Bool.or_false Bool.false_or
attribute [go_sem] cond_true cond_false Key.l.injEq Key.g.injEq Bool.and_eq_true List.contains_nil List.contains_cons Bool.and_self decide_eq_true_eq Nat.not_lt_zero List.replicate List.replicate_zero
@[go_sem] theorem x2o (k : IntKind) : u7 (.int k) = .int 0 := rfl
@[go_sem] theorem x1F : u7 .bool = .bool false := rfl
@[go_sem] theorem x2l : u7 .str = .str [] := rfl
@[go_sem] theorem x1o (eb : Nat) (e : Ty) : u7 (.slice eb e) = .slice [] := rfl
@[go_sem] theorem x2m : u7 .ptr = .nil := rfl
@[go_sem] theorem x2n : u7 .map = .nil := rfl
@[go_sem] theorem x1E : u7 .func = .nil := rfl
@[go_sem] theorem x1p : u7 .iface = .nil := rfl
attribute [go_sem] Q5 V.d.injEq V.emp.injEq
attribute [go_sem] false_and and_false z7t gv
attribute [go_sem] q4T q2j q9i q8u z0n q3b z06 z05 q1z q1o q2u q5Q V.c5 V.q2M O.c5 V.ok V.oks V.q1A q0E O.okB O.ok Y9 Q3 List.isEmpty_nil List.isEmpty_cons Option.isSome_some Option.isSome_none
section
variable {X : Cx} {n : Nat} {c : Code} {Ψ : Exit → S → Prop} {md : List (Nat × Nat)} {ops : Array Oper} {Φ : S → Prop} {m : List Unit} {l : List Oper} {ts : List Nat} {dst : Nat} {o : Oper} {K : V → S → Prop} {s s' b b' : S}
attribute [go_sem] lop false_or false_and
end
end Go.E
namespace Go.E
open Go
section
variable {X : Cx} {n : Nat} {s : S} {Ψ : Exit → S → Prop}
theorem z5w {Γ0 : G} {ι : Type} (I : ι → S) (μ : ι → Nat) {a : Act} {w : World} (h : ∃ i, At X n Γ0 (I i) a w) : ∃ m, ∃ i, At X n Γ0 (I i) a w ∧ μ i = m ∧ ∀ j, At X n Γ0 (I j) a w → m ≤ μ j := by
 obtain ⟨i, hi⟩ := h
 have : ∀ m i, μ i = m → At X n Γ0 (I i) a w → ∃ m, ∃ i, At X n Γ0 (I i) a w ∧ μ i = m ∧ ∀ j, At X n Γ0 (I j) a w → m ≤ μ j := by
  intro m
  induction m using Nat.strongRecOn with
  | _ m ih =>
   intro i hm hi
   by_cases h : ∃ j, At X n Γ0 (I j) a w ∧ μ j < m
   ·obtain ⟨j, hj, hlt⟩ := h
    exact ih _ hlt j rfl hj
   ·exact ⟨m, i, hi, hm, fun j hj => Nat.le_of_not_lt fun hlt => h ⟨j, hj, hlt⟩⟩
 exact this _ i rfl hi
theorem y7B {c rest : Code} (l : Nat) (hf : findLabel c l = some rest) {ι : Type} (I : ι → S) (μ : ι → Nat)
  (first : DC X n c s fun e s' => match e with | .goto l' => l' = l ∧ ∃ i, q1V X n s' (I i) | e => Ψ e s')
  (pass : ∀ i, DC X n rest (I i) fun e s' => match e with | .goto l' => l' = l ∧ ∃ j, q1V X n s' (I j) ∧ μ j < μ i | e => Ψ e s') : DC X n (.scope c) s Ψ := by
 intro Γ0 a w hat
 open Classical in
 refine wp_scope_jumps l (fun a w => ∃ i, At X n Γ0 (I i) a w) (fun a w => if h : ∃ i, At X n Γ0 (I i) a w then Classical.choose (z5w I μ h) else 0) hf ?_ ?_
 ·refine wp_mono (first Γ0 a w hat) ?_
  rintro e a' w' ⟨s', h1, h2⟩
  cases e with
  | goto l' =>
   obtain ⟨e1, i, hi⟩ := h1
   exact ⟨e1, i, hi Γ0 a' w' h2⟩
  | normal | exit _ | ret | panic _ | outgrown => exact ⟨s', h1, h2⟩
 ·intro a w hI
  obtain ⟨i, hi, hm, hmin⟩ := Classical.choose_spec (z5w I μ hI)
  refine wp_mono (pass i Γ0 a w hi) ?_
  rintro e a' w' ⟨s', h1, h2⟩
  cases e with
  | goto l' =>
   obtain ⟨e1, j, hj, hlt⟩ := h1
   have hat' := hj Γ0 a' w' h2
   have hI' : ∃ i, At X n Γ0 (I i) a' w' := ⟨j, hat'⟩
   refine ⟨e1, hI', ?_⟩
   obtain ⟨i', hi', hm', hmin'⟩ := Classical.choose_spec (z5w I μ hI')
   have := hmin' j hat'
   rw [dif_pos hI', dif_pos hI]
   omega
  | normal | exit _ | ret | panic _ | outgrown => exact ⟨s', h1, h2⟩
theorem q8d {c : Code} (h : DC X n c s fun e s' => match e with | .goto _ => False | e => Ψ e s') : DC X n (.scope c) s Ψ := by
 intro Γ0 a w hat
 refine wp_scope_straight (wp_mono (h Γ0 a w hat) ?_)
 rintro e a' w' ⟨s', h1, h2⟩
 cases e with
 | goto l' => exact h1.elim
 | normal | exit _ | ret | panic _ | outgrown => exact ⟨s', h1, h2⟩
theorem y6a {t u eb : Nat} {e : Ty} (hu : s.known u = false) (ht : s.get t = .nilc ∨ s.get t = .emp eb e) : q1V X n s (S.set { s with tk := (u, some 0) :: s.tk } (some t) (.sl eb e [] u)) := by
 rintro Γ0 a w ⟨Γ, g1, g3, c, hs, hn, hf, hA⟩
 obtain ⟨c1, p1, g2⟩ := c.J9 hu (x := none) (L := 0) (fun _ _ _ h => by cases h)
 refine ⟨Γ.J9 u none 0, g1.trans g2, g2.gl.trans g3, q9g c1 _ _, fun i => ?_, hn, hf, hA⟩
 rw [q4H]
 split
 ·rename_i e1
  cases e1
  have h0 := hs t
  obtain ⟨a0, ha⟩ : ∃ a0, a.tmps.getD t undef = .slice a0 0 0 := by
   rcases ht with h | h
   ·rw [h] at h0; exact ⟨none, J0 h0⟩
   ·rw [h] at h0
    obtain ⟨h1, _⟩ := (k7 rfl rfl).1 h0
    simp only [z6] at h1
    obtain ⟨a0, h1⟩ := h1
    exact ⟨a0, by simpa using h1⟩
  rw [ha]
  refine (k7 rfl rfl).2 ⟨?_, rfl⟩
  simp only [z6]
  exact ⟨a0, 0, 0, rfl, j7 rfl (Nat.le_refl _) (Nat.zero_le _) (by rw [Nat.zero_mul]; exact Nat.zero_le _) (.inl rfl), none, 0, by simp [G.J9, Y2], Nat.le_refl _, fun _ => rfl⟩
 ·exact (hs i).Z0 p1
end
attribute [go_sem] q78 tkW q0v
end Go.E
namespace Go.E
open Go
theorem C.y7m (a b : C) : C.eqb a b = C.eqb b a := by
 rw [Bool.eq_iff_iff, C.q05, C.q05]; exact eq_comm
theorem z8A {α : Type} : ∀ (es : List (C × α)) (c : C) (v : α) (c' : C), q2i (q2C es c v) c' = if C.eqb c' c = true then some v else q2i es c'
 | [], c, v, c' => by simp only [q2C, q2i]
 | (k, u) :: es, c, v, c' => by
  simp only [q2C]
  by_cases h : C.eqb c k = true
  ·rw [if_pos h]
   have := C.q05.1 h
   subst this
   simp only [q2i]
   split <;> rfl
  ·rw [if_neg h]
   simp only [q2i]
   by_cases h' : C.eqb c' k = true
   ·rw [if_pos h', if_pos h']
    have := C.q05.1 h'
    subst this
    have : C.eqb c' c = false := by
     cases hh : C.eqb c' c with
     | false => rfl
     | true => rw [C.y7m] at hh; exact absurd hh h
    rw [this]; simp
   ·rw [if_neg h', if_neg h', z8A es c v c']
noncomputable def y94 (nx : C → C) (c v : C) : C → C := fun c' => if C.eqb c' c = true then v else nx c'
structure y1Z (P : Program) (et : TypeId) (τ : Ty) (es : List (C × V)) (nx : C → C) : Prop where
 look : ∀ c, q4D P et es c = .d τ (nx c)
 all : ∀ f g, V.q1A f g es = true
 dat : q0E τ es = true
theorem y0F {f g : Nat → Bool} : ∀ {es : List (C × V)} {c : C} {v : V}, V.q1A f g es = true → v.ok f g = true → V.q1A f g (q2C es c v) = true
 | [], c, v, _, hv => by simp only [q2C, V.q1A, hv, Bool.and_true]
 | (k, u) :: es, c, v, h, hv => by
  simp only [V.q1A, Bool.and_eq_true] at h
  simp only [q2C]
  split
  ·simp only [V.q1A, hv, h.2, Bool.and_true]
  ·simp only [V.q1A, h.1, y0F h.2 hv, Bool.and_true]
theorem z86 {τ : Ty} : ∀ {es : List (C × V)} {c v : C}, q0E τ es = true → q0E τ (q2C es c (.d τ v)) = true
 | [], c, v, _ => by simp only [q2C, q0E, (Ty.beq_iff τ τ).2 rfl, Bool.and_true]
 | (k, u) :: es, c, v, h => by
  simp only [q0E, Bool.and_eq_true] at h
  simp only [q2C]
  split
  ·simp only [q0E, (Ty.beq_iff τ τ).2 rfl, h.2, Bool.and_true]
  ·simp only [q0E, h.1, z86 h.2, Bool.and_true]
theorem y1Z.put {P : Program} {et : TypeId} {τ : Ty} {es : List (C × V)} {nx : C → C} (h : y1Z P et τ es nx) (c v : C) : y1Z P et τ (q2C es c (.d τ v)) (y94 nx c v) := by
 refine ⟨fun c' => ?_, fun f g => y0F (h.all f g) rfl, z86 h.dat⟩
 have := h.look c'
 unfold q4D at this ⊢
 rw [z8A]
 unfold y94
 by_cases e : C.eqb c' c = true
 ·rw [if_pos e, if_pos e]; rfl
 ·rw [if_neg e, if_neg e]; exact this
theorem y1Z.nil {P : Program} {et : TypeId} {τ : Ty} (h : Q5 (ty P et) = .d τ (u7 τ)) : y1Z P et τ [] (fun _ => u7 τ) := ⟨fun c => by
 unfold q4D; simp only [q2i, Option.getD_none]; exact h, fun _ _ => rfl, rfl⟩
section
variable {X : Cx} {n : Nat} {s : S} {Ψ : Exit → S → Prop}
end
attribute [go_sem] Ty.flat V.Z3 V.q1F
end Go.E
namespace Go.E
open Go
mutual
def V.q2o : V → V
 | .emp eb e => .ts eb e []
 | .agg τ vs => .agg τ (V.q7j vs)
 | x => x
def V.q7j : List V → List V
 | [] => []
 | x :: xs => x.q2o :: V.q7j xs
end
theorem V.z4h (x : V) : x.q2o.ty = x.ty := by cases x <;> simp [V.q2o, V.ty]
theorem V.y4f (x : V) : x.q2o.plain = x.plain := by cases x <;> simp [V.q2o, V.plain]
theorem V.z3B : ∀ xs : List V, (V.q7j xs).length = xs.length
 | [] => rfl
 | x :: xs => by simp [V.q7j, V.z3B xs]
mutual
theorem V.z8V : ∀ x : V, x.q2o.j8 = x.j8
 | .agg τ vs => by simp only [V.q2o, V.j8]; exact V.z6T vs
 | .emp _ _ | .sl _ _ _ _ | .ptr _ _ _ | .sr _ _ _ _ _ _ _ | .mp _ | .d _ _ | .ts _ _ _ | .nilc | .cptr _ _ | .top _ | .any | .fn _ _ | .tup _ => by simp [V.q2o, V.j8]
theorem V.z6T : ∀ xs : List V, V.U0 (V.q7j xs) = V.U0 xs
 | [] => rfl
 | x :: xs => by simp only [V.q7j, V.U0, V.z8V x, V.z6T xs]
end
section
variable {Γ : G} {k : Key}
mutual
theorem z6.q2o : ∀ (x : V) {p : List Nat} {vs : List Value}, z6 Γ (some k) p x vs → z6 Γ (some k) p x.q2o vs
 | .emp eb e, p, vs, h => by
  simp only [z6, V.q2o] at h ⊢
  obtain ⟨a, rfl⟩ := h
  exact ⟨a, 0, 0, k, rfl, rfl, j7 rfl (Nat.le_refl _) (Nat.zero_le _) (by rw [Nat.zero_mul]; exact Nat.zero_le _) (.inl rfl), .inl rfl⟩
 | .agg τ xs, p, vs, h => by
  simp only [z6, V.q2o] at h ⊢
  exact ⟨h.1, h.2.1, by rw [V.z3B]; exact h.2.2.1, h.2.2.2.1, x9.q2o xs h.2.2.2.2⟩
 | .sl _ _ _ _, _, _, h | .ptr _ _ _, _, _, h | .sr _ _ _ _ _ _ _, _, _, h | .mp _, _, _, h | .d _ _, _, _, h | .ts _ _ _, _, _, h | .nilc, _, _, h | .cptr _ _, _, _, h | .top _, _, _, h | .any, _, _, h | .fn _ _, _, _, h | .tup _, _, _, h => h
theorem x9.q2o : ∀ (xs : List V) {p : List Nat} {i : Nat} {τ : Ty} {vs : List Value}, x9 Γ (some k) p i τ xs vs → x9 Γ (some k) p i τ (V.q7j xs) vs
 | [], _, _, _, _, _ => by simp only [V.q7j, x9]
 | x :: xs, _, _, _, _, h => by
  simp only [x9, V.q7j, V.z4h] at h ⊢
  obtain ⟨⟨o, f, h1, h2, h3, h4⟩, h5⟩ := h
  exact ⟨⟨o, f, h1, h2, h3, z6.q2o x h4⟩, x9.q2o xs h5⟩
end
end
theorem y4G {X : Cx} {n : Nat} {s : S} {k : Key} {x : V} (h : s.obj k = some (.box x)) : q1V X n s (s.put k (.box x.q2o)) := by
 rintro Γ0 a w ⟨Γ, g1, g3, c, hs, hn, hf, hA⟩
 refine ⟨Γ, g1, g3, ⟨c.hH, c.hZ, c.hκ, fun j o hj => ?_, fun j hj => ?_, c.z1x (fun j hj => ?_), c.tok, c.tdom, c.hgl, c.hoo, c.hσ⟩, hs, hn, hf, hA⟩
 ·rw [W9] at hj
  split at hj
  ·rename_i e
   subst e; cases hj
   rcases c.obj _ _ h with ⟨hn, e, rfl⟩ | ⟨b, cells, T, h1, h2, h3, h4, h5, h6, h7, h8⟩
   ·exact .inl ⟨hn, e, rfl⟩
   exact .inr ⟨b, cells, T, by rw [V.z4h]; exact h1, h2, h3, h4, by rw [V.z4h]; exact h5, by rw [V.z4h]; exact z6.q2o x h6, by rw [V.y4f]; exact h7, by rw [V.z8V]; exact h8⟩
  ·exact c.obj j o hj
 ·rw [W9]
  split
  ·simp
  ·exact c.dom j hj
 ·unfold S.Q6 at hj ⊢
  rw [W9]
  split
  ·rename_i e; subst e; rw [h] at hj; cases hj
  ·exact hj
attribute [go_sem] V.q2o V.q7j
end Go.E
namespace Go.E
open Go
theorem y8u {X : Cx} {n : Nat} {s s' : S} {Γ0 Γ : G} {a : Act} {w : World} (g1 : GLe Γ0 Γ) (g3 : Γ.gl = X.gl) (c : y9 Γ w s) (hs : q3q Γ s a.tmps) (hn : a.tmps.size = n) (hf : a.defers = []) (hAok : AOk s.A) (hA : s'.A = s.A) (hloc : q4T s s'.loc) (hlok : q2j (Y9 s'.loc) (q0v s'.tk) s'.loc = true) (hg : q9i s'.loc s.A s.loc)
  (htk : tkW s s'.tk) (henv : q78 (Y9 s'.loc) (q0v s'.tk) s s'.env) : GLe Γ0 (Γ.part (Y9 s'.loc) (q0v s'.tk)) ∧ (Γ.part (Y9 s'.loc) (q0v s'.tk)).gl = X.gl ∧ y9 (Γ.part (Y9 s'.loc) (q0v s'.tk)) w s' ∧ q3q (Γ.part (Y9 s'.loc) (q0v s'.tk)) s' a.tmps ∧ a.tmps.size = n ∧ a.defers = [] ∧ AOk s'.A := by
 have sub : Sub Γ (Γ.part (Y9 s'.loc) (q0v s'.tk)) (Y9 s'.loc) (q0v s'.tk) :=
  ⟨rfl, rfl, rfl, rfl, rfl, fun _ => rfl, fun n h => by simp [G.part, h], fun t h => by simp [G.part, h], fun _ _ _ _ _ => rfl⟩
 refine ⟨⟨g1.H, g1.Z, g1.ZH, g1.g, g1.gl, g1.oo, g1.σ, g1.gn⟩, g3, c.sub sub rfl (fun n h => by simp [G.part, h]) hA hAok hloc hlok hg (fun b o sz h => ⟨o, h, fun _ h => h⟩) (fun t L h => ?_) (fun t h => ?_), fun i => ?_, hn, hf, by rw [hA]; exact hAok⟩
 ·unfold S.live q1u at h
  cases hl : look s'.tk t with
  | none => simp [hl] at h
  | some x =>
   cases x with
   | none => simp [hl] at h
   | some M =>
    simp [hl] at h; subst h
    have hlive : s.live t = some M := z5b htk hl
    obtain ⟨x, a1, a2⟩ := c.tok t M hlive
    exact ⟨x, by simp [G.part, q0v, hl, a1], fun b pos sz hx => a2 b pos sz hx⟩
 ·cases hh : q0v s'.tk t with
  | true => exact hh
  | false => simp [G.part, hh] at h
 ·cases hl : look s'.env i with
  | none => simp [S.get, hl, z8]
  | some x =>
   obtain ⟨e1, e2, e3⟩ := z3z henv hl
   have hget : s'.get i = x := by simp [S.get, hl]
   rw [hget]
   by_cases hx : x = .any
   ·subst hx; trivial
   ·have hr := hs i
    have e3 := e3.resolve_left hx
    refine z8.sub sub e2 ?_
    cases hsi : s.get i with
    | any =>
     rw [hsi] at e1
     cases x <;> simp [V.c5, Z7] at e1 hx
    | tup us =>
     rw [hsi] at e1 hr
     cases x <;> simp [V.c5, Z7] at e1 hx
     subst e1; exact hr
    | _ =>
     rw [hsi] at e1 hr e3
     have hpl : z6 Γ none [] _ (a.tmps.getD i undef).cells.toList ∧ _ := hr
     obtain ⟨r1, r2⟩ := z6.c5 x _ e1 hpl.1
     have hxp := V.q4b r1 hx
     exact (v7 hxp).2 ⟨r1, by rw [e3]; exact hpl.2⟩
theorem y12 {X : Cx} {n : Nat} {s s' : S} {t j : Nat} {τ : Ty} {x : V} {cc : C} (hslot : s.get t = .ptr (.l j) [] τ) (hobj : s.obj (.l j) = some (.box x)) (hcl : Z7 x = some cc) (hτ : x.ty = τ) (hj : Y9 s'.loc j = false)
  (hA : s'.A = s.A) (hloc : q4T s s'.loc) (hlok : q2j (Y9 s'.loc) (q0v s'.tk) s'.loc = true) (hg : q9i s'.loc s.A s.loc)
  (htk : tkW s s'.tk) (henv : q78 (Y9 s'.loc) (q0v s'.tk) s s'.env) : q1V X n s (s'.set (some t) (.cptr τ cc)) := by
 rintro Γ0 a w ⟨Γ, g1, g3, c, hs, hn, hf, hAok⟩
 obtain ⟨p1, p2, p3, p4, p5, p6, p7⟩ := y8u (X := X) (n := n) (s' := s') g1 g3 c hs hn hf hAok hA hloc hlok hg htk henv
 have hst := hs t
 rw [hslot] at hst
 obtain ⟨b, τ0, off, e1, i2, hv⟩ := q0I hst
 obtain ⟨b2, cells, T, i1, e2, e3, e4, e5, e6, e7, e8⟩ := c.own e1 hobj
 rw [e1] at i1; cases i1
 simp only [Ty.walk, Option.some.injEq, Prod.mk.injEq] at i2
 obtain ⟨rfl, _⟩ := i2
 have hdl : ∀ k o, s'.obj k = some o → s.Q6 k = true → o.q0A = true := by
  intro k o ho hd
  unfold S.obj X1 at ho
  cases hl : y7 s'.loc k with
  | some o1 =>
   rw [hl] at ho; cases ho
   obtain ⟨o0, h1, h2⟩ := q9F hloc hl
   rw [W5 h1] at hd
   exact O.z8J h2 hd
  | none =>
   cases k with
   | l n => rw [hl] at ho; cases ho
   | g k =>
    have := z3X hA hg hl
    unfold S.Q6 at hd
    rw [← this] at hd
    have h2 : S.obj s' (.g k) = some o := by unfold S.obj X1; exact ho
    rw [h2] at hd; exact hd
 have hno : ∀ k τ o, (Γ.part (Y9 s'.loc) (q0v s'.tk)).ι k = some (b, τ) → s'.obj k = some o → o.q0A = true := by
  intro k τ' o hk hko
  have hk' : Γ.ι k = some (b, τ') ∧ k ≠ .l j := by
   cases k with
   | g k => exact ⟨hk, by simp⟩
   | l m =>
    simp only [G.part] at hk
    split at hk
    ·rename_i hm
     refine ⟨hk, fun e => ?_⟩
     cases e; rw [hj] at hm; cases hm
    ·cases hk
  rcases c.inj k (.l j) b _ _ hk'.1 e1 with e | ⟨e | e, _⟩
  ·exact absurd e hk'.2
  ·exact hdl k o hko e
  ·rw [W5 hobj] at e; cases e
 obtain ⟨q1, q2, q3⟩ := p3.freeze e4 e2 hno
 have hrc : y8 Γ.H x.ty (chunk cells.toList 0 x.ty.size) cc := q3n _ e6 hcl
 refine ⟨_, ⟨Hp.le_trans p1.H q3, p1.Z, fun b' hb' => ?_, p1.g, p1.gl, p1.oo, p1.σ, p1.gn⟩, p2, q9g q1 _ _, fun i => ?_, p5, p6, p7⟩
 ·refine (q0e _ _ fun e => ?_).trans (p1.ZH b' hb')
  subst e
  exact hb' (by rw [← g1.Z]; exact e3)
 ·rw [q4H]
  split
  ·rename_i e
   cases e
   rw [hv]
   refine q10 (l := cells.toList) (b6 _ _ _) (by rw [← hτ]; simpa using e5) ?_
   rw [← hτ]
   exact hrc.mono q3
  ·exact (p4 i).Z0 q2
theorem C.y60 : ∀ (cs : List C) (n : Nat), cs.length = n → cs = (List.range n).map fun i => cs.getD i .nil := by
 intro cs n h
 subst h
 refine List.ext_getElem (by simp) fun i h1 h2 => ?_
 simp [List.getElem?_eq_getElem h1]
theorem C.y91 {sz : Nat} {os : List Nat} {fs : List Ty} {c : C} (h : C.wf (.struct sz os fs) c) : .agg ((List.range fs.length).map c.get) = c := by
 simp only [C.wf] at h
 obtain ⟨h1, h2⟩ := h
 have hl := C.z5P h2
 rw [h1]
 congr 1
 rw [← hl]
 exact (C.y60 c.elems _ rfl).symm
end Go.E
namespace Go.E
open Go Go.ChangeShapes Go.WideShapes
def q6L (w : World) : Hp := fun b => match w.heap[b]? with
 | some (.cells c _ _) => some c.toList
 | _ => none
theorem z3q {w : World} {a : Addr} {v : Value} (h : w.cell? a = some v) : ∃ l, q6L w a.block = some l ∧ l[a.off]? = some v ∧ a.spot = none := by
 unfold World.cell? at h
 unfold q6L
 split at h
 ·rename_i c _ _ hc
  split at h
  ·cases h
  ·rename_i hs
   refine ⟨c.toList, by simp [hc], by simpa using h, ?_⟩
   cases hh : a.spot <;> simp_all
 ·cases h
mutual
def Ty.dat : Ty → Bool
 | .int _ | .bool | .str => true
 | .slice _ e => e.dat && decide (0 < e.size)
 | .arr _ e => e.dat && decide (0 < e.size)
 | .struct sz os fs => Ty.y1L fs && decide (os.length = fs.length) && (List.range sz).all fun i => (List.range fs.length).any fun j => match os[j]?, fs[j]? with | some o, some f => decide (o ≤ i) && decide (i < o + f.size) | _, _ => false
 | _ => false
def Ty.y1L : List Ty → Bool
 | [] => true
 | f :: fs => f.dat && Ty.y1L fs
end
theorem y1K : ∀ {fs : List Ty} {i : Nat} {f : Ty}, Ty.y1L fs = true → fs[i]? = some f → f.dat = true
 | [], _, _, _, h => by simp at h
 | g :: fs, 0, f, hd, h => by simp [Ty.y1L] at hd h; rw [← h]; exact hd.1
 | g :: fs, i + 1, f, hd, h => by simp [Ty.y1L] at hd; exact y1K hd.2 (by simpa using h)
theorem q6J {α β : Type} {f : α → Option β} : ∀ {l : List α} {r : List β}, l.mapM f = some r → ∀ i : Nat, l[i]?.bind f = r[i]?
 | [], r, h, i => by simp at h; subst h; simp
 | x :: l, r, h, i => by
  rw [List.mapM_cons] at h
  cases hx : f x with
  | none => simp [hx] at h
  | some y =>
   cases hl : l.mapM f with
   | none => simp [hx, hl] at h
   | some ys =>
    simp [hx, hl] at h
    subst h
    cases i with
    | zero => simp [hx]
    | succ i => simpa using q6J hl i
theorem q81 {α β : Type} {f : α → Option β} : ∀ {l : List α} {r : List β}, l.mapM f = some r → r.length = l.length
 | [], r, h => by simp at h; subst h; rfl
 | x :: l, r, h => by
  rw [List.mapM_cons] at h
  cases hx : f x with
  | none => simp [hx] at h
  | some y =>
   cases hl : l.mapM f with
   | none => simp [hx, hl] at h
   | some ys =>
    simp [hx, hl] at h
    subst h
    simp [q81 hl]
theorem z47 {w : World} {base : Nat} {a : Addr} {n : Nat} {cs : List Value} (h : w.cells? base a n = some cs) (hn : 0 < n) :
  ∃ l, q6L w a.block = some l ∧ a.spot = none ∧ a.off + n ≤ l.length ∧ cs = chunk l a.off n := by
 unfold World.cells? at h
 split at h
 ·have hl := q81 h
  simp at hl
  have hg := q6J h
  have h0 := hg 0
  cases hc : cs[0]? with
  | none => simp at hc; subst hc; simp at hl; omega
  | some v0 =>
   rw [hc] at h0
   simp [List.getElem?_range hn] at h0
   have e0 : a.add 0 = a := by simp [Addr.add]
   rw [e0] at h0
   obtain ⟨l, h1, h2, h3⟩ := z3q h0
   refine ⟨l, h1, h3, ?_, ?_⟩
   ·have hlast := hg (n - 1)
    cases hc' : cs[n - 1]? with
    | none => simp at hc'; omega
    | some v1 =>
     rw [hc'] at hlast
     simp [List.getElem?_range (show n - 1 < n by omega)] at hlast
     obtain ⟨l', g1, g2, _⟩ := z3q hlast
     have eb : (a.add (n - 1)).block = a.block := by unfold Addr.add; split <;> rfl
     have eo : (a.add (n - 1)).off = a.off + (n - 1) := by unfold Addr.add; split <;> simp_all
     rw [eb, h1] at g1; cases g1
     rw [eo] at g2
     have := (List.getElem?_eq_some_iff.1 g2).1
     omega
   ·apply List.ext_getElem?
    intro i
    by_cases hi : i < n
    ·have := hg i
     simp [List.getElem?_range hi] at this
     cases hc' : cs[i]? with
     | none => simp at hc'; omega
     | some v1 =>
      rw [hc'] at this
      obtain ⟨l', g1, g2, _⟩ := z3q this
      have eb : (a.add i).block = a.block := by unfold Addr.add; split <;> rfl
      have eo : (a.add i).off = a.off + i := by unfold Addr.add; split <;> simp_all
      rw [eb, h1] at g1; cases g1
      rw [eo] at g2
      simp [chunk, List.getElem?_take, hi, g2]
    ·rw [List.getElem?_eq_none (by omega)]
     simp [chunk, List.getElem?_take, hi]
 ·cases h
theorem q3z {a b : List Nat} (h : (a ++ b).all (· ≤ reachBytes) = true) : a.all (· ≤ reachBytes) = true ∧ b.all (· ≤ reachBytes) = true := by
 simpa [List.all_append] using h
theorem q6B {H : Type} {P : Program} {e : TypeId} : ∀ {l : List (DataW H)} {i : Nat} {d : DataW H}, l[i]? = some d → (DataW.weightsAll P e l).all (· ≤ reachBytes) = true → (d.weights P e).all (· ≤ reachBytes) = true
 | [], i, d, h, _ => by simp at h
 | x :: l, 0, d, h, hw => by
  simp at h; subst h
  simp only [DataW.weightsAll] at hw
  exact (q3z hw).1
 | x :: l, i + 1, d, h, hw => by
  simp only [DataW.weightsAll] at hw
  exact q6B (by simpa using h) (q3z hw).2
theorem q5N {H : Type} {P : Program} : ∀ {ts : List TypeId} {l : List (DataW H)} {i : Nat} {t : TypeId} {d : DataW H}, ts[i]? = some t → l[i]? = some d → (DataW.weightsEach P ts l).all (· ≤ reachBytes) = true → (d.weights P t).all (· ≤ reachBytes) = true
 | [], _, i, t, d, h, _, _ => by simp at h
 | _ :: _, [], i, t, d, _, h, _ => by simp at h
 | t :: ts, x :: l, 0, t', d, ht, h, hw => by
  simp at ht h; subst ht; subst h
  simp only [DataW.weightsEach] at hw
  exact (q3z hw).1
 | t :: ts, x :: l, i + 1, t', d, ht, h, hw => by
  simp only [DataW.weightsEach] at hw
  exact q5N (by simpa using ht) (by simpa using h) (q3z hw).2
theorem z15 {vs : List Value} (h : ∀ i : Nat, i < vs.length → ∃ o m, o ≤ i ∧ i < o + m ∧ q1D (chunk vs o m)) : q1D vs := by
 intro v hv
 obtain ⟨i, hi, rfl⟩ := List.getElem_of_mem hv
 obtain ⟨o, m, h1, h2, h3⟩ := h i hi
 refine h3 _ ?_
 refine List.mem_of_getElem? (i := i - o) ?_
 simp only [chunk, List.getElem?_take, List.getElem?_drop]
 rw [if_pos (by omega), show o + (i - o) = i by omega, List.getElem?_eq_getElem hi]
mutual
def cOf {H : Type} : DataW H → C
 | .lit (.bool b) => .bool b
 | .lit (.int _ n) => .int n
 | .lit (.string l) => .str l
 | .nil => .slice []
 | .slice es _ => .slice (z0d es)
 | .agg ps => .agg (z0d ps)
 | _ => .nil
def z0d {H : Type} : List (DataW H) → List C
 | [] => []
 | d :: ds => cOf d :: z0d ds
end
theorem z1R {H : Type} : ∀ {ds : List (DataW H)} {i : Nat}, (z0d ds)[i]? = (ds[i]?).map cOf
 | [], i => by simp [z0d]
 | d :: ds, 0 => by simp [z0d]
 | d :: ds, i + 1 => by simp [z0d, z1R]
theorem z1Q {H : Type} : ∀ {ds : List (DataW H)}, (z0d ds).length = ds.length
 | [] => rfl
 | d :: ds => by simp [z0d, z1Q]
section
variable {H : Type} {enc : TypeId × Value → H} {P : Program} {w : World}
theorem q4V (hP : u6 P = true) {base : Nat} {held : Bool} {sp : Nat → Bool} (hsp : ∀ b, sp b = true) : ∀ (fuel f : Nat) {t : TypeId} {cs : List Value} {d : DataW H} {ps : List MemPlace}, t < P.types.size → (tyF P f t).dat = true →
  DataW.trod enc P w base sp held fuel t cs = some (d, ps) → (d.weights P t).all (· ≤ reachBytes) = true → y8 (q6L w) (tyF P f t) cs (cOf d)
 | 0, f, t, cs, d, ps, _, _, h, _ => by simp [DataW.trod] at h
 | fuel + 1, 0, t, cs, d, ps, _, hf, h, _ => by simp [tyF, Ty.dat] at hf
 | fuel + 1, f + 1, t, cs, d, ps, ht, hf, h, hw => by
  have hok := q4d hP ht
  unfold okT at hok
  unfold tyF at hf ⊢
  rw [if_pos ht] at hf ⊢
  cases hu : P.underlying t with
  | none => simp [hu, Ty.dat] at hf
  | some desc =>
   simp only [hu] at hf hok ⊢
   cases desc with
   | bool =>
    unfold DataW.trod at h
    simp only [hu] at h
    split at h <;> simp_all
    rw [← h.1]
    simp [y8, cOf]
   | int k =>
    unfold DataW.trod at h
    simp only [hu] at h
    split at h <;> simp_all
    obtain ⟨⟨rfl, hh⟩, hd, _⟩ := h
    simp [Lit.wf] at hh
    rw [← hd]
    simp [y8, cOf]; omega
   | string =>
    unfold DataW.trod at h
    simp only [hu] at h
    split at h <;> simp_all
    obtain ⟨hh, rfl, _⟩ := h
    simp [DataW.weights, reachBytes] at hw
    simp only [y8, cOf]
    exact ⟨_, rfl, by simp, by simp; omega⟩
   | slice e =>
    simp only [Ty.dat, Bool.and_eq_true, decide_eq_true_eq] at hf
    simp only [Bool.and_eq_true, beq_iff_eq, decide_eq_true_eq] at hok
    have hsz : (tyF P f e).size = P.cellsOf e := Z4 hP f e
    unfold DataW.trod at h
    simp only [hu] at h
    split at h <;> try (simp_all; done)
    ·simp only [Option.some.injEq, Prod.mk.injEq] at h
     rw [← h.1]
     simp only [y8, cOf]
     exact ⟨none, 0, 0, [], rfl, rfl, rfl, Nat.le_refl _, by simp [maxLen], by simp, .inl rfl⟩
    ·rename_i e' a len cap he
     simp at he; subst he
     split at h
     ·rename_i hc
      simp only [Option.bind_eq_some_iff, Option.map_eq_some_iff] at h
      obtain ⟨elems, he1, rest, he2, he3⟩ := h
      simp only [Prod.mk.injEq] at he3
      obtain ⟨rfl, _⟩ := he3
      simp only [DataW.weights, hu, List.all_cons, Bool.and_eq_true, decide_eq_true_eq] at hw
      obtain ⟨hw1, hw2⟩ := hw
      obtain ⟨hw2, hw3⟩ := q3z hw2
      have hl := q81 he1
      simp at hl
      have hbound : len * P.bytesOf e ≤ 140737488355328 := by
       have : len * P.bytesOf e ≤ (elems.length + rest.length) * P.bytesOf e := Nat.mul_le_mul_right _ (by omega)
       simp [reachBytes] at hw1
       omega
      by_cases hz : len = 0
      ·subst hz
       have : elems = [] := by cases elems <;> simp_all
       subst this
       simp only [y8, cOf, List.map_nil, z0d]
       exact ⟨some a, 0, cap, [], rfl, rfl, rfl, Nat.zero_le _, hc.2.2, by simp, .inl rfl⟩
      ·have key : ∀ i, i < len → ∃ l, q6L w a.block = some l ∧ a.spot = none ∧ (a.off + i * P.cellsOf e) + P.cellsOf e ≤ l.length ∧ ∀ x, elems[i]? = some x → y8 (q6L w) (tyF P f e) (chunk l (a.off + i * P.cellsOf e) (P.cellsOf e)) (cOf x.1) := by
        intro i hi
        have hg := q6J he1 i
        rw [List.getElem?_range hi] at hg
        have hi' : i < elems.length := by omega
        rw [List.getElem?_eq_getElem hi'] at hg
        simp only [Option.bind_some, Option.bind_eq_some_iff] at hg
        obtain ⟨cs, hc1, hc2⟩ := hg
        obtain ⟨l, q1, q2, q3, q4⟩ := z47 hc1 (by rw [← hsz]; exact hf.2)
        have eb : (a.add (i * P.cellsOf e)).block = a.block := by unfold Addr.add; split <;> rfl
        have eo : (a.add (i * P.cellsOf e)).off = a.off + i * P.cellsOf e := by unfold Addr.add; split <;> simp_all
        have h0 : a.spot = none := by
         have hg0 := q6J he1 0
         rw [List.getElem?_range (by omega), List.getElem?_eq_getElem (by omega)] at hg0
         simp only [Option.bind_some, Option.bind_eq_some_iff] at hg0
         obtain ⟨cs0, hc01, _⟩ := hg0
         obtain ⟨_, _, q, _⟩ := z47 hc01 (by rw [← hsz]; exact hf.2)
         simpa [Addr.add] using q
        rw [eb] at q1; rw [eo] at q3 q4
        subst q4
        have hcr := q4V hP hsp fuel f hok.2 hf.1 hc2 (q6B (i := i) (by simp [List.getElem?_map, List.getElem?_eq_getElem hi']) hw2)
        exact ⟨l, q1, h0, q3, fun x hx => by rw [List.getElem?_eq_getElem hi'] at hx; cases hx; exact hcr⟩
       obtain ⟨l, hl1, hl2, _, _⟩ := key 0 (by omega)
       simp only [y8, cOf]
       refine ⟨some a, len, cap, _, rfl, rfl, by simp [z1Q, hl], hc.2.1, hc.2.2, hbound, .inr ⟨a.block, a.off, l, ?_, hl1, ?_, fun i c hi => ?_⟩⟩
       ·cases a; simp_all
       ·rw [hsz]
        obtain ⟨l', q1, _, q3, _⟩ := key (len - 1) (by omega)
        rw [hl1] at q1; cases q1
        have : len * P.cellsOf e = (len - 1) * P.cellsOf e + P.cellsOf e := by
         rw [← Nat.succ_mul]; congr 1; omega
        omega
       ·simp only [z1R, List.getElem?_map, Option.map_map, Option.map_eq_some_iff] at hi
        obtain ⟨x, hx, rfl⟩ := hi
        have hi' : i < len := by
         have := (List.getElem?_eq_some_iff.1 hx).1
         omega
        rw [hsz]
        obtain ⟨l', q1, _, _, q4⟩ := key i hi'
        rw [hl1] at q1; cases q1
        exact q4 x hx
     ·cases h
   | array n e =>
    simp only [Ty.dat, Bool.and_eq_true, decide_eq_true_eq] at hf
    simp only [Bool.and_eq_true, beq_iff_eq, decide_eq_true_eq] at hok
    have hsz : (tyF P f e).size = P.cellsOf e := Z4 hP f e
    unfold DataW.trod at h
    simp only [hu] at h
    split at h
    ·rename_i hlen
     simp only [Option.map_eq_some_iff] at h
     obtain ⟨elems, he1, he3⟩ := h
     simp only [Prod.mk.injEq] at he3
     obtain ⟨rfl, _⟩ := he3
     simp only [DataW.weights, hu] at hw
     have hl := q81 he1
     simp at hl
     have key : ∀ i x, elems[i]? = some x → y8 (q6L w) (tyF P f e) (chunk cs (i * P.cellsOf e) (P.cellsOf e)) (cOf x.1) := by
      intro i x hx
      have hg := q6J he1 i
      have hi : i < n := by have := (List.getElem?_eq_some_iff.1 hx).1; omega
      rw [List.getElem?_range hi, hx] at hg
      simp only [Option.bind_some] at hg
      exact q4V hP hsp fuel f hok.2 hf.1 hg (q6B (i := i) (by simp [List.getElem?_map, hx]) hw)
     simp only [y8, cOf]
     refine ⟨_, rfl, by simp [z1Q, hl], by rw [hsz, hlen, hok.1], z15 fun i hi => ?_, fun i c hi => ?_⟩
     ·have hi2 : i / P.cellsOf e < n := by
       rw [Nat.div_lt_iff_lt_mul (by omega)]
       omega
      have hc := key (i / P.cellsOf e) _ (List.getElem?_eq_getElem (by omega))
      refine ⟨_, _, ?_, ?_, hc.one⟩
      ·exact Nat.div_mul_le_self _ _
      ·have := Nat.lt_div_mul_add (a := i) (b := P.cellsOf e) (by omega)
       omega
     ·simp only [z1R, List.getElem?_map, Option.map_map, Option.map_eq_some_iff] at hi
      obtain ⟨x, hx, rfl⟩ := hi
      rw [hsz]
      exact key i x hx
    ·cases h
   | struct fs =>
    simp only [Ty.dat, Bool.and_eq_true, decide_eq_true_eq, List.all_eq_true, List.any_eq_true, List.mem_range] at hf
    simp only [List.all_eq_true, Bool.and_eq_true, decide_eq_true_eq] at hok
    obtain ⟨⟨hf1, hf2⟩, hf3⟩ := hf
    unfold DataW.trod at h
    simp only [hu] at h
    split at h
    ·rename_i hlen
     simp only [Option.map_eq_some_iff] at h
     obtain ⟨elems, he1, he3⟩ := h
     simp only [Prod.mk.injEq] at he3
     obtain ⟨rfl, _⟩ := he3
     simp only [DataW.weights, hu] at hw
     have hl := q81 he1
     have key : ∀ (i : Nat) g x, fs.toList[i]? = some g → elems[i]? = some x → y8 (q6L w) (tyF P f g.type) (chunk cs g.offset (P.cellsOf g.type)) (cOf x.1) := by
      intro i g x hi he
      have hg := q6J he1 i
      rw [hi, he] at hg
      simp only [Option.bind_some] at hg
      exact q4V hP hsp fuel f (hok g (List.mem_of_getElem? hi)).1 (y1K (i := i) hf1 (by simp only [List.getElem?_map, hi, Option.map_some])) hg
        (q5N (i := i) (by simp only [List.getElem?_map, hi, Option.map_some]) (by simp only [List.getElem?_map, he, Option.map_some]) hw)
     simp only [y8, cOf]
     refine ⟨_, rfl, hlen, z15 fun i hi => ?_, Q2.q7E (by simp [z1Q, hl]) fun i F c hF hc => ?_⟩
     ·obtain ⟨j, hj, hj2⟩ := hf3 i (by omega)
      split at hj2
      ·rename_i o F ho hF
       simp at hj2
       simp only [List.getElem?_map, Option.map_eq_some_iff] at ho hF
       obtain ⟨g, hg, rfl⟩ := ho
       obtain ⟨g', hg', rfl⟩ := hF
       rw [hg] at hg'; cases hg'
       have hjl := (List.getElem?_eq_some_iff.1 hg).1
       have hc := key j g _ hg (List.getElem?_eq_getElem (by omega))
       rw [Z4 hP] at hj2
       exact ⟨_, _, hj2.1, hj2.2, hc.one⟩
      ·cases hj2
     ·simp only [List.getElem?_map, z1R, Option.map_map, Option.map_eq_some_iff] at hF hc
      obtain ⟨g, hg, rfl⟩ := hF
      obtain ⟨x, hx, rfl⟩ := hc
      refine ⟨g.offset, by simp only [List.getElem?_map, hg, Option.map_some], ?_, ?_⟩
      ·rw [Z4 hP, hlen]
       exact (hok g (List.mem_of_getElem? hg)).2
      ·rw [Z4 hP]
       exact key i g x hg hx
    ·cases h
   | _ => simp [Ty.dat] at hf
end
end Go.E
namespace Go.E
open Go Go.ChangeShapes Go.WideShapes Go.RowKit
def z5c (P : Program) : Bool := (List.range P.types.size).all fun t => match P.underlying t with
 | some (.slice e) => decide (0 < P.cellsOf e)
 | _ => true
def z8h (w : World) (gl : Nat → Option (Ty × C)) : Prop := ∀ g τ c, gl g = some (τ, c) → ∃ l, q6L w g = some l ∧ τ.size ≤ l.length ∧ y8 (q6L w) τ (chunk l 0 τ.size) c
def y1e (P : Program) : List (String × DataW Unit) → Nat → Option (Ty × C)
 | [], _ => none
 | (n, d) :: r, g => if P.globalNamed n = some g then (match (P.globals[g]?).map (·.type) with | some t => some (ty P t, cOf d) | none => none) else y1e P r g
def z6y (P : Program) (l : List (String × DataW Unit)) : Bool := l.all fun x => match P.globalNamed x.1 with
 | some g => match (P.globals[g]?).map (·.type) with
  | some t => decide (t < P.types.size) && (ty P t).dat && (x.2.weights P t).all (· ≤ reachBytes)
  | none => false
 | none => false
theorem z8N {P : Program} (hP : u6 P = true) {w : World} : ∀ {l : List (String × DataW Unit)} {ps : List MemPlace}, z6y P l = true → DataW.LaidVars P w l ps → z8h w (y1e P l)
 | [], _, _, _ => fun g τ c h => by simp [y1e] at h
 | (n, d) :: r, ps, hk, h => by
  obtain ⟨g0, t, cs, fuel, p, q, hg, ht, hv, hd, hr, _⟩ := h
  simp only [z6y, List.all_cons, Bool.and_eq_true, hg, ht, decide_eq_true_eq] at hk
  obtain ⟨⟨⟨k1, k2⟩, k3⟩, k4⟩ := hk
  intro g τ c h
  simp only [y1e] at h
  split at h
  ·rename_i e
   rw [hg] at e; cases e
   rw [ht] at h
   simp at h
   obtain ⟨rfl, rfl⟩ := h
   have hrep := q4V hP (fun _ => rfl) fuel 12 k1 k2 hd k3
   simp only [World.var?, hg, Option.bind_some] at hv
   split at hv
   ·rename_i c T fr hc
    cases hv
    have hl := hrep.length
    refine ⟨cs.toList, by simp [q6L, hc], by show (tyF P 12 t).size ≤ _; omega, ?_⟩
    have : chunk cs.toList 0 (ty P t).size = cs.toList := by
     show chunk cs.toList 0 (tyF P 12 t).size = _
     rw [← hl]; exact q5I _
    rw [this]
    exact hrep
   ·cases hv
  ·exact z8N hP k4 hr g τ c h
theorem y7d {P : Program} (hP : u6 P = true) {w : World} {l : List (String × DataW Unit)} (hk : z6y P l = true) (hn : (l.all fun x => x.2.handleName?.isNone) = true) (h : laidMetH P l w) : z8h w (y1e P l) := by
 rw [MakeChecks.laidMetH_plain _ _ _ hn] at h
 obtain ⟨ps, h1, _⟩ := h
 exact z8N hP hk h1
def G.start (w : World) (gl : Nat → Option (Ty × C)) : G :=
 { H := q6L w, Z := fun b => w.heap[b]?, ι := fun _ => none, τ := fun _ => none, κ := fun _ => none, gl := gl, oo := oof w, σ := fun _ => none }
theorem z6l (n : Nat) : ∀ (ts : List Ty) (cs : List C), q2I n (List.zipWith V.d ts cs) = []
 | [], _ => by simp [q2I]
 | _ :: _, [] => by simp [q2I]
 | t :: ts, c :: cs => by simp [q2I, V.q1x, z6l (n + 1) ts cs]
theorem y2I (n : Nat) : ∀ (ts : List Ty) (cs : List C), H0 n (List.zipWith V.d ts cs) = List.zipWith V.d ts cs
 | [], _ => by simp [H0]
 | _ :: _, [] => by simp [H0]
 | t :: ts, c :: cs => by simp [H0, V.slot, y2I (n + 1) ts cs]
theorem y4o {w : World} {gl : Nat → Option (Ty × C)} (h : z8h w gl) (ts : List Ty) (cs : List C) : y9 (G.start w gl) w (S.start (List.zipWith V.d ts cs) fun _ => none) := by
 refine ⟨fun b l hb => ?_, fun b o hb => hb, fun b o sz hb => by simp [G.start] at hb, fun k o hk => ?_, fun k hk => absurd rfl hk, fun k k' b τ τ' hk => by simp [G.start] at hk, fun t L ht => ?_, fun t ht => absurd rfl ht, h, rfl, fun b sz hb => by simp [G.start] at hb⟩
 ·simp only [G.start, q6L] at hb
  split at hb
  ·rename_i c T fr hc
   cases hb
   exact ⟨c, T, fr, [], hc, by simp⟩
  ·cases hb
 ·cases k <;> simp [S.start, S.obj, X1, y7] at hk
 ·simp [S.start, S.live, z6l, q1u, look] at ht
theorem q9T {H : Type} {enc : TypeId × Value → H} {P : Program} {w : World} {base : Nat} {sp : Nat → Bool} {held : Bool} : ∀ {ts : List TypeId} {vs : List Value} {ds : List (DataW H)} {ps : List MemPlace},
  DataW.TrodAll enc P w base sp held ts vs ds ps → vs.length = ts.length ∧ ds.length = ts.length
 | [], vs, ds, ps, h => by obtain ⟨rfl, rfl, rfl⟩ := trodAll_nil h; simp
 | t :: ts, vs, ds, ps, h => by
  obtain ⟨v, vs, d, ds, p, q, rfl, rfl, rfl, h1, h2⟩ := trodAll_cons h
  have := q9T h2
  simp [this]
theorem z4B {H : Type} {enc : TypeId × Value → H} {P : Program} {w : World} {base : Nat} {sp : Nat → Bool} {held : Bool} : ∀ {ts : List TypeId} {vs : List Value} {ds : List (DataW H)} {ps : List MemPlace} {i : Nat} {t : TypeId} {v : Value} {d : DataW H},
  DataW.TrodAll enc P w base sp held ts vs ds ps → ts[i]? = some t → vs[i]? = some v → ds[i]? = some d → ∃ p, DataW.Trod enc P w base sp held t v d p
 | [], vs, ds, ps, i, t, v, d, h, ht, _, _ => by simp at ht
 | t :: ts, vs, ds, ps, i, t', v', d', h, ht, hv, hd => by
  obtain ⟨v, vs, d, ds, p, q, rfl, rfl, rfl, h1, h2⟩ := trodAll_cons h
  cases i with
  | zero => simp at ht hv hd; subst ht; subst hv; subst hd; exact ⟨p, h1⟩
  | succ i => exact z4B h2 (by simpa using ht) (by simpa using hv) (by simpa using hd)
theorem z2x {H : Type} {enc : TypeId × Value → H} {P : Program} (hl : laidOutB P = true) (hm : mapsRowed P = true) (hz : z5c P = true) {w w' : World} (hh : ∀ b, b < w.heap.size → w'.heap[b]? = w.heap[b]?) {sp : Nat → Bool} :
  ∀ {ts : List TypeId} {vs : List Value} {ds : List (DataW H)} {ps : List MemPlace}, (∀ t ∈ ts, t < P.types.size) → DataW.TrodAll enc P w 0 (fun _ => true) true ts vs ds ps → (∀ p ∈ ps, sp p.block = true) → DataW.TrodAll enc P w' 0 sp true ts vs ds ps
 | [], vs, ds, ps, _, h, _ => by obtain ⟨rfl, rfl, rfl⟩ := trodAll_nil h; exact trodAll_mk0
 | t :: ts, vs, ds, ps, hts, h, hs => by
  have hlt := DataW.TrodAll.lt h
  obtain ⟨v, vs, d, ds, p, q, rfl, rfl, rfl, ⟨n, h1⟩, h2⟩ := trodAll_cons h
  refine ⟨p, q, ⟨n, DataW.trod_stays (kids_rows hl hm) (fun {t e} ht hu => ?_) (fun h => by cases h) (hts t (by simp)) h1 (fun x hx => ?_) (fun x hx => hs x (by simp [hx]))⟩,
   z2x hl hm hz hh (fun t ht => hts t (by simp [ht])) h2 (fun x hx => hs x (by simp [hx])), rfl⟩
  ·have := List.all_eq_true.1 hz t (List.mem_range.2 ht)
   simp only [hu] at this
   simpa using this
  ·have := hlt x (by simp; exact .inl hx)
   cases x with
   | cell b off => simp only [World.sameAt, World.cell?]; rw [hh b this]
   | map b => simp only [World.sameAt]; rw [hh b this]
theorem y0H {P : Program} {W : World} {base : Nat} {t : TypeId} {v : Value} (hd : (ty P t).dat = true) (h : Value.okWide P W .any base t v) : o9 v = (ty P t).isAgg := by
 unfold ty tyF at hd ⊢
 split at hd
 ·rename_i ht
  rw [if_pos ht]
  unfold Value.okWide at h
  cases hu : P.underlying t with
  | none => simp [hu, Ty.dat] at hd
  | some d =>
   rw [hu] at h
   cases d <;> simp only [hu, Ty.dat, Ty.isAgg, Bool.false_eq_true] at hd h ⊢
   case struct => obtain ⟨cs, rfl, _⟩ := h; rfl
   case array => obtain ⟨cs, rfl, _⟩ := h; rfl
   all_goals
    unfold Cell.okWide at h
    rw [hu] at h
    cases v <;> simp [Cell.ok, hu] at h <;> rfl
 ·simp [Ty.dat] at hd
section
variable {H : Type} {enc : TypeId × Value → H} {P : Program}
theorem y08 (hP : u6 P = true) (hl : laidOutB P = true) (hm : mapsRowed P = true) (hz : z5c P = true) {f : FuncId} {fn : Func} {s : ChangeSpec} {W : World} {base : Nat} {args : Array Value} {ds gs : List (DataW H)} {before : List MemPlace} {apart fresh handsOn again : Bool}
  (hp : fn.params.toList.all (fun t => decide (t < P.types.size) && (ty P t).dat) = true) {tb : TypeId} (hr : fn.resultTypes = #[tb]) (hb : P.underlying tb = some .bool) (hvars : s.vars = [])
  (hval : ∀ (j : Nat) t v, fn.params[j]? = some t → args[j]? = some v → Value.okWide P W .any base t v)
  (hW : DataW.Whole enc P fn.params.toList s.vars apart W args.toList ds gs before)
  (hwt : (DataW.weightsEach P fn.params.toList ds).all (· ≤ reachBytes) = true) {gl : Nat → Option (Ty × C)} (hgl : z8h W gl)
  (hfr : (s.fn H (ds ++ gs)).results = [.lit (.bool true)]) (hfa : (s.fn H (ds ++ gs)).args = ds) (hfv : (s.fn H (ds ++ gs)).vars = [])
  (law : Y6 ⟨P, gl⟩ f (List.zipWith V.d (fn.params.toList.map (ty P)) (ds.map cOf)) (fun _ => none) (.d .bool (.bool true)) []) :
  Calls P f args W fun e W' => ∃ v, e = .returned v ∧ s.post enc P fn apart fresh handsOn again W args v W' := by
 have hW' := hW
 obtain ⟨p, q, hA, hV, rfl, hfz, hnd⟩ := hW
 rw [hvars] at hV
 obtain ⟨rfl, rfl⟩ := trodVars_none hV
 have hlens := q9T hA
 have hpar : ∀ t ∈ fn.params.toList, t < P.types.size ∧ (ty P t).dat = true := by
  intro t ht
  have := List.all_eq_true.1 hp t ht
  simpa using this
 refine (law (fun _ => none) (G.start W gl) W args (fun _ _ h => h) rfl ⟨y4o hgl _ _, fun _ _ h => nomatch h⟩ ?_ ?_).mono ?_
 ·simp only [List.length_zipWith, List.length_map, hlens.2]
  have := hlens.1
  simp at this ⊢
  omega
 ·intro i x u hx hu
  rw [y2I, List.getElem?_zipWith] at hx
  split at hx
  ·rename_i τ c hτ hc
   cases hx
   simp only [List.getElem?_map, Option.map_eq_some_iff] at hτ hc
   obtain ⟨t, ht, rfl⟩ := hτ
   obtain ⟨d, hd, rfl⟩ := hc
   have hu' : args.toList[i]? = some u := by simpa using hu
   obtain ⟨ps, fuel, htr⟩ := z4B hA ht hu' hd
   have hm := hpar t (List.mem_of_getElem? ht)
   have hv := hval i t u (by simpa using ht) hu
   refine (v7 rfl).2 ⟨?_, ?_⟩
   ·simp only [z6]
    exact q4V hP (fun _ => rfl) fuel 12 hm.1 hm.2 htr (q5N ht hd hwt)
   ·simp only [V.ty]
    exact y0H hm.2 hv
  ·cases hx
 ·rintro e W' ⟨u, Γ', rfl, gle, c', hu⟩
  have hu' : u = .bool true := (H2 hu).1
  subst hu'
  refine ⟨_, rfl, ?_⟩
  have hold : ∀ b, b < W.heap.size → W'.heap[b]? = W.heap[b]? := by
   intro b hb
   have : Γ'.Z b = some W.heap[b] := by rw [gle.Z]; simp [G.start, hb]
   rw [c'.hZ b _ this]; simp [hb]
  have hoo : oof W' = oof W := by rw [c'.hoo, gle.oo]; rfl
  have hpl : ∀ t ∈ fn.params.toList, t < P.types.size := fun t ht => (hpar t ht).1
  have hblt : ∀ x ∈ p, x.block < W.heap.size := DataW.TrodAll.lt hA
  have hres : ∀ (b : Nat) (sp : Nat → Bool) (hd : Bool), DataW.TrodAll enc P W' b sp hd fn.resultTypes.toList ((Value.bool true).resultList fn.resultTypes.size) [.lit (.bool true)] [] := by
   intro b sp hd
   rw [hr]
   exact trodAll_mk1 (shut_bool hb _)
  have hstay : ∀ sp : Nat → Bool, (∀ x ∈ p, sp x.block = true) → DataW.TrodAll enc P W' 0 sp true fn.params.toList args.toList ds p := fun sp hs => z2x hl hm hz hold hpl hA hs
  refine ⟨ds, [], p ++ [], [], p, [], hW', ?_, ?_, ?_, ?_, fun _ => ⟨?_, [.lit (.bool true)] ++ ds, [], ([] ++ p) ++ [], ⟨[] ++ p, [], trodAll_append (hstay _ (fun _ _ => rfl)) (hres _ _ _), by rw [hvars]; rfl, rfl, ?_, ?_⟩, ?_⟩⟩
  ·rw [hfr]; exact hres _ _ _
  ·rw [hfa]; exact hstay _ (fun x hx => by simpa using hblt x hx)
  ·rw [hfv, hvars]; rfl
  ·refine ⟨congrArg Prod.fst hoo, congrArg Prod.snd hoo, fun i hi => ?_⟩
   rw [hold i hi]
   cases hc : W.heap[i]? with
   | none => rfl
   | some o => cases o <;> simp
  ·intro j t r hj hrr
   rw [hr] at hj hrr
   cases j with
   | zero =>
    simp at hj; subst hj
    have : r = .bool true := by simpa [Value.resultList] using hrr.symm
    subst this
    exact okWide_bool_mk hb _
   | succ j => simp at hj
  ·intro b off hx
   have hx' : MemPlace.cell b off ∈ p := by simpa using hx
   have := hfz b off (by simpa using hx')
   unfold World.frozen? at this ⊢
   rw [hold b (hblt _ hx')]
   exact this
  ·intro ha
   simpa using hnd ha
  ·intro x hx _
   simpa using hx
end
end Go.E
namespace Go.E
open Go
def z9O {α : Type} : List (Nat × α) → Nat → List (Nat × α)
 | [], _ => []
 | (j, x) :: l, i => if j = i then z9O l i else (j, x) :: z9O l i
def z9P {α : Type} : List (Key × α) → Key → List (Key × α)
 | [], _ => []
 | (j, x) :: l, i => if j = i then z9P l i else (j, x) :: z9P l i
def S.less (s : S) (t j : Nat) : S := ⟨z9O s.env t, z9P s.loc (.l j), s.A, s.tk⟩
attribute [go_sem] z9O z9P S.less
end Go.E
namespace Go.E
open Go
section
variable {X : Cx} {md : List (Nat × Nat)} {ops : Array Oper} {Φ : S → Prop} {rest : List Oper} {ts : List Nat} {o : Oper} {base s : S}
end
end Go.E
namespace Go.E
open Go
def y6U : Nat → List Nat → Bool
 | _, [] => false
 | i, j :: l => if i = j then true else y6U i l
def y31 {α : Type} : List (Nat × α) → List Nat → List (Nat × α)
 | [], _ => []
 | (j, x) :: l, ks => if y6U j ks then (j, x) :: y31 l ks else y31 l ks
attribute [go_sem] y6U y31
mutual
def C.beq : C → C → Bool
 | .int a, .int b => decide (a = b)
 | .bool a, .bool b => a == b
 | .str a, .str b => decide (a = b)
 | .agg a, .agg b => C.q6m a b
 | .slice a, .slice b => C.q6m a b
 | .nil, .nil => true
 | _, _ => false
def C.q6m : List C → List C → Bool
 | [], [] => true
 | x :: xs, y :: ys => C.beq x y && C.q6m xs ys
 | _, _ => false
end
mutual
theorem C.beq_iff : ∀ (a b : C), C.beq a b = true ↔ a = b
 | .int a, b => by cases b <;> simp [C.beq]
 | .bool a, b => by cases b <;> simp [C.beq]
 | .str a, b => by cases b <;> simp [C.beq]
 | .agg a, b => by cases b <;> simp [C.beq, C.q6U a]
 | .slice a, b => by cases b <;> simp [C.beq, C.q6U a]
 | .nil, b => by cases b <;> simp [C.beq]
theorem C.q6U : ∀ (a b : List C), C.q6m a b = true ↔ a = b
 | [], b => by cases b <;> simp [C.q6m]
 | x :: xs, [] => by simp [C.q6m]
 | x :: xs, y :: ys => by simp [C.q6m, C.beq_iff x, C.q6U xs]
end
instance : DecidableEq C := fun a b => decidable_of_iff _ (C.beq_iff a b)
theorem C.z4g (a b : C) : C.eqb a b = C.beq a b := by
 rw [Bool.eq_iff_iff, C.q05, C.beq_iff]
def V.isAny : V → Bool
 | .any => true
 | _ => false
theorem V.q3H {x : V} (h : x.isAny = false) : x ≠ .any := by
 intro e; subst e; cases h
instance (k : IntKind) (x : V) : Decidable (x.isInt k) := by unfold V.isInt; split <;> infer_instance
instance (x : V) : Decidable x.isBool := by unfold V.isBool; split <;> infer_instance
instance (x : V) : Decidable x.isStr := by unfold V.isStr; split <;> infer_instance
instance (x : V) : Decidable x.H4 := by unfold V.H4; split <;> infer_instance
instance (τ : Ty) (x : V) : Decidable (x.U7 τ) := by unfold V.U7; split <;> infer_instance
def S.wA (s : S) (A : Key → Option O) : S := { s with A := A }
def leA (A A' : Key → Option O) : Prop := ∀ k o, A k = some o → A' k = some o
theorem F8 {s : S} {A' : Key → Option O} (hA : leA s.A A') {k : Key} {o : O} (h : s.obj k = some o) : (s.wA A').obj k = some o := by
 simp only [S.obj, X1, S.wA] at h ⊢
 cases hl : y7 s.loc k with
 | some x => rw [hl] at h; exact h
 | none =>
  rw [hl] at h
  cases k with
  | l n => cases h
  | g k => exact hA _ _ h
theorem q4e (s : S) (A' : Key → Option O) (n : Nat) : (s.wA A').obj (.l n) = s.obj (.l n) := rfl
theorem q0V (gl : Nat → Option (Ty × C)) (s : S) (A' : Key → Option O) : r7 gl (s.wA A') = r7 gl s := by
 funext y; cases y <;> rfl
theorem y3o {s : S} {A' : Key → Option O} (hA : leA s.A A') : leA s.up (s.wA A').up := by
 intro k o h
 simp only [S.up, Option.map_eq_some_iff] at h ⊢
 obtain ⟨x, h1, h2⟩ := h
 exact ⟨x, F8 hA h1, h2⟩
theorem y86 (s : S) (A' : Key → Option O) (t : Nat) : (s.wA A').live t = s.live t := rfl
theorem z1H {s : S} {A' : Key → Option O} (hA : leA s.A A') {x : V} {r : Nat × Ty × List C} (h : U2 s x = some r) : U2 (s.wA A') x = some r := by
 cases x <;> simp only [U2] at h ⊢ <;> try exact h
 split at h
 ·rename_i y hy
  rw [F8 hA hy]
  exact h
 ·cases h
def z7d (τ : Ty) : V → List (Nat × V) → Bool
 | _, [] => true
 | x, (i, v) :: rest => (τ.child i).isSome && decide ((W6 (τ.get i) v).ty = τ.get i) && (W6 (τ.get i) v).plain && !(x.at [i]).isAny && z7d τ (x.setAt [i] (W6 (τ.get i) v)) rest
theorem z81 {τ : Ty} : ∀ {l : List (Nat × V)} {x : V}, z7d τ x l = true → q6T τ x l
 | [], _, _ => trivial
 | (i, v) :: rest, x, h => by
  simp only [z7d, Bool.and_eq_true, decide_eq_true_eq, Bool.not_eq_true'] at h
  exact ⟨h.1.1.1.1, h.1.1.1.2, h.1.1.2, V.q3H h.1.2, z81 h.2⟩
abbrev RI := V × List (Key × O) × List (Nat × Option Nat)
def q9z {α : Type} : List (C × α) → C → α → List (C × α)
 | [], c, v => [(c, v)]
 | (k, u) :: es, c, v => if C.beq c k = true then (k, v) :: es else (k, u) :: q9z es c v
theorem y0s {α : Type} (c : C) (v : α) : ∀ (es : List (C × α)), q9z es c v = q2C es c v
 | [] => rfl
 | (k, u) :: es => by simp only [q9z, q2C, C.z4g, y0s c v es]
theorem y6w {P : Program} {s : S} {A' : Key → Option O} (hA : leA s.A A') {src dst : TypeId} {x : V} {ys : List C} (h : strOf P s src dst x = some ys) : strOf P (s.wA A') src dst x = some ys := by
 cases hel : U2 s x with
 | some r =>
  rw [← h]
  unfold strOf
  rw [hel, z1H hA hel]
 | none =>
  unfold strOf at h ⊢
  rw [hel] at h
  split at h
  ·split at h
   ·rename_i h0
    rw [if_pos h0]
    split at h
    ·exact h
    ·cases h
   ·cases h
  ·cases h
theorem z99 {P : Program} {s : S} {src dst : TypeId} {x : V} {ys : List C} {K : V → Prop} (h : strOf P s src dst x = some ys) : ¬ q8N P src dst x K := by
 unfold strOf at h
 split at h
 ·rename_i ht hd
  unfold q8N
  rw [ht, hd]
  exact id
 ·cases h
theorem z5y (A' : Key → Option O) : ∀ (σ : List (Nat × List Nat)) (s : S), q1c σ (s.wA A') = (q1c σ s).wA A'
 | [], _ => rfl
 | (t, _) :: σ, s => by simp only [q1c]; exact z5y A' σ (s.tok t none)
theorem y2O (A' : Key → Option O) (d : Nat) : ∀ (L : List (Key × O)) (s : S), q4P d L (s.wA A') = (q4P d L s).wA A'
 | [], _ => rfl
 | (k, o) :: L, s => by simp only [q4P, y2O A' d L s]; rfl
theorem y2N (A' : Key → Option O) (d : Nat) : ∀ (L : List (Nat × Option Nat)) (s : S), q52 d L (s.wA A') = (q52 d L s).wA A'
 | [], _ => rfl
 | (k, o) :: L, s => by simp only [q52, y2N A' d L s]; rfl
theorem y3d (A' : Key → Option O) : ∀ (L : List Nat) (s : S), q5q L (s.wA A') = (q5q L s).wA A'
 | [], _ => rfl
 | t :: L, s => by simp only [q5q, y3d A' L s]; rfl
theorem y7M (A' : Key → Option O) (tip : Bool) (s : S) (x : V) : X6 tip (s.wA A') x = X6 tip s x := rfl
theorem z2W (A' : Key → Option O) (tip : Bool) (s : S) : ∀ (ys : List V), Y4 tip (s.wA A') ys = Y4 tip s ys
 | [] => rfl
 | y :: ys => by simp only [Y4, z2W A' tip s ys, y7M]
theorem z83 (A' : Key → Option O) (P : Program) (tip : Bool) (s : S) : ∀ (Ts : List TypeId) (ys : List V), X3 P tip (s.wA A') Ts ys = X3 P tip s Ts ys
 | [], _ => rfl
 | _ :: _, [] => rfl
 | T :: Ts, y :: ys => by
  simp only [X3, z83 A' P tip s Ts ys]
  rfl
theorem y4X (A' : Key → Option O) (s : S) (tip : Bool) (ys : List V) (d : Nat) (v : V) (L : List (Key × O)) : (s.wA A').ret tip ys d v L = (s.ret tip ys d v L).wA A' := by
 simp only [S.ret, z2W, y2O, y3d, y2N]
def q75 (s : S) (d : Nat) : List (Key × O) → Bool
 | [] => true
 | (.g k, _) :: L => (s.obj k).isSome && q75 s d L
 | (.l j, _) :: L => (s.obj (.l (rk d j))).isNone && q75 s d L
theorem z4a {s : S} {A' : Key → Option O} (hA : leA s.A A') {d : Nat} : ∀ {L : List (Key × O)}, q75 s d L = true → gOk (s.wA A') d L
 | [], _ => trivial
 | (.g k, _) :: L, h => by
  simp only [q75, Bool.and_eq_true] at h
  obtain ⟨o, ho⟩ := Option.isSome_iff_exists.1 h.1
  exact ⟨by rw [F8 hA ho]; rfl, z4a hA h.2⟩
 | (.l j, _) :: L, h => by
  simp only [q75, Bool.and_eq_true] at h
  exact ⟨by rw [q4e]; simpa using h.1, z4a hA h.2⟩
def q9U (s : S) (d : Nat) : List (Nat × Option Nat) → Bool
 | [] => true
 | (m, _) :: l => !s.known (rk d m) && q9U s d l
theorem z7o {s : S} {A' : Key → Option O} {d : Nat} : ∀ {L : List (Nat × Option Nat)}, q9U s d L = true → tOk (s.wA A') d L
 | [], _ => trivial
 | (m, _) :: L, h => by
  simp only [q9U, Bool.and_eq_true, Bool.not_eq_true'] at h
  exact ⟨h.1, z7o h.2⟩
def q04 (s : S) : List (Key × O) → Bool
 | [] => true
 | (.l n, _) :: l => (s.obj (.l n)).isNone && q04 s l
 | (.g _, _) :: _ => false
theorem q8p {s : S} {A' : Key → Option O} : ∀ {L : List (Key × O)}, q04 s L = true → q3y (s.wA A') L
 | [], _ => trivial
 | (.l n, _) :: L, h => by
  simp only [q04, Bool.and_eq_true] at h
  exact ⟨by rw [q4e]; simpa using h.1, q8p h.2⟩
 | (.g _, _) :: _, h => by simp [q04] at h
def q6O (s : S) : List (Nat × Option Nat) → Bool
 | [] => true
 | (t, _) :: l => !s.known t && q6O s l
theorem q8o {s : S} {A' : Key → Option O} : ∀ {L : List (Nat × Option Nat)}, q6O s L = true → q3x (s.wA A') L
 | [], _ => trivial
 | (t, _) :: L, h => by
  simp only [q6O, Bool.and_eq_true, Bool.not_eq_true'] at h
  exact ⟨h.1, q8o h.2⟩
abbrev q9Q := FuncId → List V → (Key → Option O) → Option (V × List (Key × O))
abbrev z3O := FuncId → List V → Option V
def z0X (X : Cx) (call : q9Q) : Prop := ∀ f xs A v L, call f xs A = some (v, L) → Y6 X f xs A v L
def z4u (X : Cx) (ext : z3O) : Prop := ∀ f xs v, ext f xs = some v → z9Y X f xs v
end Go.E
namespace Go.E
open Go
def x2H (ext : z3O) (o : Oper) (ρ : Operand → V) : Option V :=
 match o.op with
 | .call c => (match c.callee with
  | .value fo => (match ρ fo with
   | .fn f [] => ext f (c.args.toList.map ρ)
   | _ => none)
  | _ => none)
 | _ => none
def x2F (X : Cx) (call : q9Q) (o : Oper) (ρ : Operand → V) (s : S) : Option (V × List (Key × O)) :=
 match o.op with
 | .call c => (match c.callee with
  | .value fo => (match ρ fo with
   | .fn f caps => if q2H X.P f = true ∧ c.argTypes.toList.length = c.args.toList.length then
      call f (X3 X.P false s (q6k c.argTypes.toList caps) (W8 (c.args.toList.map ρ) caps)) s.up else none
   | _ => none)
  | _ => none)
 | _ => none
def q2d (o : Oper) (ρ : Operand → V) : List V :=
 match o.op with
 | .call c => (match c.callee with
  | .value fo => (match ρ fo with
   | .fn _ caps => W8 (c.args.toList.map ρ) caps
   | _ => [])
  | _ => [])
 | _ => []
def z1T : List Oper → List Nat
 | [] => []
 | o :: l => (match o.op with
  | .call c => (match c.callee, c.args.toList with
   | .builtin .append, (.tmp t) :: _ => [t]
   | _, _ => [])
  | _ => []) ++ z1T l
def y0X : Nat → List Nat → Bool
 | _, [] => false
 | i, j :: l => Nat.beq i j || y0X i l
def q0r (cand : List Nat) (tbl : List (Nat × Nat)) (o : Oper) (ρ : Operand → V) (s : S) : Nat :=
 match look tbl (p8 o) with
 | some m => m
 | none => (match o.op with
  | .load _ x => if y0X (p8 o) cand = true then (match ρ x with
    | .ptr k q _ => (match s.obj k with
     | some (.box y) => (match y.at q with
      | .ts _ _ _ => 1
      | _ => 0)
     | _ => 0)
    | _ => 0) else 0
  | _ => 0)
def y2V (o : Oper) : Bool :=
 match o.op with
 | .call c => (match c.callee with | .value _ => true | _ => false)
 | _ => false
section
variable {X : Cx} {call : q9Q} {ext : z3O} (hc : z0X X call) (he : z4u X ext)
include hc he
end
theorem y8h (ops : Array Oper) (s : S) (A' : Key → Option O) (j : Nat) : gv ops (s.wA A') j = gv ops s j := by
 unfold gv; split <;> rfl
theorem z0k (s : S) (A' : Key → Option O) (d : Option Nat) (v : V) : (s.wA A').set d v = (s.set d v).wA A' := by cases d <;> rfl
theorem q3a (s : S) (d : Option Nat) (v : V) : (s.set d v).A = s.A := by cases d <;> rfl
section
variable {X : Cx} {call : q9Q} {ext : z3O} (hc : z0X X call) (he : z4u X ext)
include hc he
end
end Go.E
namespace Go.E
open Go
def z3Z {α β : Type} (l : List α) (l' : List β) : Bool := l.isEmpty && l'.isEmpty
inductive RD where
 | k0 (v : V) | k1 (v : V) (lo : List (Key × O)) (tn : List (Nat × Option Nat)) | k2 (v : V) (s : S)
def RD.kind : RD → Nat
 | .k0 _ => 0
 | .k1 _ _ _ => 1
 | .k2 _ _ => 2
def RD.post (s : S) (A' : Key → Option O) (K0 : V → Prop) (K1 : V → List (Key × O) → List (Nat × Option Nat) → Prop) (K2 : V → S → Prop) : RD → Prop
 | .k0 v => K0 v
 | .k1 v lo tn => q3y (s.wA A') lo → q3x (s.wA A') tn → q04 s lo = true → K1 v lo tn
 | .k2 v s1 => K2 v (s1.wA A')
theorem z7G (s : S) (d : Option Nat) (v : V) (k : Key) : (s.set d v).obj k = s.obj k := by cases d <;> rfl
theorem z9n {s : S} {lo : List (Key × O)} {tn : List (Nat × Option Nat)} (h : q04 s lo = true) {k : Key} {o : O} (hk : s.obj k = some o) : (s.add lo tn).obj k = some o := by
 have key : ∀ {lo : List (Key × O)}, q04 s lo = true → y7 lo k = none := by
  intro lo
  induction lo with
  | nil => intro _; rfl
  | cons x lo ih =>
   obtain ⟨j, y⟩ := x
   cases j with
   | g j => intro h; simp [q04] at h
   | l n =>
    intro h
    simp only [q04, Bool.and_eq_true] at h
    simp only [y7]
    rw [if_neg, ih h.2]
    intro e
    rw [e, hk] at h
    simp at h
 have e := key h
 simp only [S.obj, X1, S.add] at hk ⊢
 rw [q2a, e]
 exact hk
section
variable {X : Cx} {call : q9Q} {ext : z3O} (hc : z0X X call) (he : z4u X ext)
include hc he
end
end Go.E
namespace Go.E
open Go
mutual
theorem V.q4o : ∀ (x : V), V.c5 x x
 | .d _ _ => by simp [V.c5, Z7, V.ty]
 | .emp _ _ => .inl rfl
 | .agg _ vs => ⟨rfl, V.z6C vs⟩
 | .any => trivial
 | .sl _ _ _ _ | .ts _ _ _ | .nilc | .ptr _ _ _ | .cptr _ _ | .sr _ _ _ _ _ _ _ | .mp _ | .fn _ _ | .tup _ | .top _ => by simp [V.c5]
theorem V.z6C : ∀ (xs : List V), V.q2M xs xs
 | [] => trivial
 | x :: xs => ⟨V.q4o x, rfl, V.z6C xs⟩
end
def O.y32 : O → Bool
 | .box y => y.plain && y.j8
 | .map _ _ _ => true
 | .it _ _ | .dead _ => true
theorem O.q4o {o : O} (h : o.y32 = true) : O.c5 o o := by
 cases o with
 | box y =>
  simp only [O.y32, Bool.and_eq_true] at h
  exact ⟨V.q4o y, rfl, h.1, h.2⟩
 | map => exact ⟨rfl, rfl, rfl⟩
 | it => exact ⟨rfl, rfl⟩
 | dead => exact (rfl : _ = _)
mutual
def V.keys : V → List Nat
 | .ptr (.l k) _ _ | .mp (.l k) | .sr (.l k) _ _ _ _ _ _ => [k]
 | .agg _ vs | .fn _ vs | .tup vs => V.q7f vs
 | _ => []
def V.q7f : List V → List Nat
 | [] => []
 | x :: xs => x.keys ++ V.q7f xs
end
mutual
def V.y96 : V → List Nat
 | .sl _ _ _ t => [t]
 | .agg _ vs | .fn _ vs | .tup vs => V.y7Z vs
 | _ => []
def V.y7Z : List V → List Nat
 | [] => []
 | x :: xs => x.y96 ++ V.y7Z xs
end
def O.keys : O → List Nat
 | .box x => x.keys
 | .map _ _ es => V.q7f (es.map (·.2))
 | .it _ _ | .dead _ => []
def reach (loc : List (Key × O)) : Nat → List Nat → List Nat → List Nat
 | 0, _, acc => acc
 | _, [], acc => acc
 | f + 1, k :: ks, acc => if y0X k acc = true then reach loc f ks acc else match y7 loc (.l k) with
  | some o => reach loc f (o.keys ++ ks) (k :: acc)
  | none => reach loc f ks acc
def q7g : List (Key × O) → List Nat
 | [] => []
 | (.g _, o) :: l => o.keys ++ q7g l
 | (.l _, _) :: l => q7g l
def q3j (loc : List (Key × O)) (ks : List Nat) : List (Key × O)
 → List (Key × O)
 | [] => []
 | (.g k, _) :: l => (match y7 loc (.g k) with | some o => [(.g k, o)] | none => []) ++ q3j loc ks l
 | (.l k, _) :: l => (if y0X k ks = true then (match y7 loc (.l k) with | some o => [(.l k, o)] | none => []) else []) ++ q3j loc ks l
def q5J : List (Key × O) → Bool
 | [] => true
 | (_, o) :: l => o.y32 && q5J l
def q6o (L : List (Key × O)) : List (Key × O) → Bool
 | [] => true
 | (.g k, _) :: l => (y7 L (.g k)).isSome && q6o L l
 | (.l _, _) :: l => q6o L l
theorem q6W {L : List (Key × O)} {A : Key → Option O} : ∀ {l : List (Key × O)}, q6o L l = true → q9i L A l
 | [], _ => trivial
 | (.g k, _) :: l, h => by
  simp only [q6o, Bool.and_eq_true] at h
  exact ⟨.inl h.1, q6W h.2⟩
 | (.l _, _) :: l, h => q6W (l := l) h
theorem q63 {s : S} {k : Key} {o : O} (h : y7 s.loc k = some o) : s.obj k = some o := by
 simp only [S.obj, X1, h]
theorem q5C {s : S} (ks : List Nat) : ∀ {l : List (Key × O)}, q5J (q3j s.loc ks l) = true → q4T s (q3j s.loc ks l)
 | [], _ => trivial
 | (.g k, _) :: l, h => by
  simp only [q3j] at h ⊢
  cases hl : y7 s.loc (.g k) with
  | none => rw [hl] at h; exact q5C ks h
  | some o =>
   rw [hl] at h
   simp only [List.cons_append, List.nil_append, q5J, Bool.and_eq_true] at h ⊢
   refine ⟨?_, q5C ks h.2⟩
   rw [q63 hl]
   exact O.q4o h.1
 | (.l k, _) :: l, h => by
  simp only [q3j] at h ⊢
  by_cases hk : y0X k ks = true
  ·rw [if_pos hk] at h ⊢
   cases hl : y7 s.loc (.l k) with
   | none => rw [hl] at h; exact q5C ks h
   | some o =>
    rw [hl] at h
    simp only [List.cons_append, List.nil_append, q5J, Bool.and_eq_true] at h ⊢
    refine ⟨?_, q5C ks h.2⟩
    rw [q63 hl]
    exact O.q4o h.1
  ·rw [if_neg hk] at h ⊢
   exact q5C ks h
def q2m (s : S) : List Nat → List (Nat × V)
 | [] => []
 | i :: l => (i, s.get i) :: q2m s l
def q46 (f g : Nat → Bool) : List (Nat × V) → Bool
 | [] => true
 | (_, x) :: l => x.ok f g && q46 f g l
theorem z7V {s : S} {f g : Nat → Bool} : ∀ {l : List Nat}, q46 f g (q2m s l) = true → q78 f g s (q2m s l)
 | [], _ => trivial
 | i :: l, h => by
  simp only [q2m, q46, Bool.and_eq_true] at h
  exact ⟨V.q4o _, h.1, .inr rfl, z7V h.2⟩
def q1x (s : S) : List Nat → List (Nat × Option Nat)
 | [] => []
 | t :: l => (match look s.tk t with | some x => [(t, x)] | none => []) ++ q1x s l
theorem z5S {s : S} : ∀ {l : List Nat}, tkW s (q1x s l)
 | [] => trivial
 | t :: l => by
  simp only [q1x]
  cases hl : look s.tk t with
  | none => exact z5S
  | some x =>
   refine ⟨?_, z5S⟩
   cases x with
   | none => simp [S.known, hl]
   | some L => simp [S.live, q1u, hl]
def y3a : List (Nat × V) → List Nat
 | [] => []
 | (_, x) :: l => x.keys ++ y3a l
def z7W : List (Nat × V) → List Nat
 | [] => []
 | (_, x) :: l => x.y96 ++ z7W l
def gcS (keep : List Nat) (s : S) : S :=
 ⟨q2m s keep, q3j s.loc (reach s.loc 100000 (y3a (q2m s keep) ++ q7g s.loc) []) s.loc, s.A, q1x s (z7W (q2m s keep))⟩
def gcB (keep : List Nat) (s : S) : Bool :=
 q5J (gcS keep s).loc && q2j (Y9 (gcS keep s).loc) (q0v (gcS keep s).tk) (gcS keep s).loc && q6o (gcS keep s).loc s.loc && q46 (Y9 (gcS keep s).loc) (q0v (gcS keep s).tk) (q2m s keep)
theorem y9g {X : Cx} {n : Nat} {keep : List Nat} {s : S} (A' : Key → Option O) (h : gcB keep s = true) : q1V X n (s.wA A') ((gcS keep s).wA A') := by
 simp only [gcB, Bool.and_eq_true] at h
 obtain ⟨⟨⟨h1, h2⟩, h3⟩, h4⟩ := h
 refine y2E rfl ?_ h2 (q6W h3) ?_ ?_
 ·exact q5C (s := s.wA A') _ h1
 ·have : ∀ l, q1x (s.wA A') l = q1x s l := by
   intro l
   induction l with
   | nil => rfl
   | cons i l ih => simp only [q1x, ih]; rfl
  show tkW (s.wA A') (q1x s (z7W (q2m s keep)))
  rw [← this]
  exact z5S
 ·have : q2m (s.wA A') keep = q2m s keep := by
   generalize keep = l
   induction l with
   | nil => rfl
   | cons i l ih => simp only [q2m, ih]; rfl
  show q78 _ _ (s.wA A') (q2m s keep)
  rw [← this] at h4 ⊢
  exact z7V h4
def z29 (ml : List (Nat × Nat)) : List (Nat × Nat) → Bool
 | [] => true
 | (d, m) :: l => Nat.beq (Z6 ml d) m && z29 ml l
theorem z27 {ml : List (Nat × Nat)} : ∀ {l : List (Nat × Nat)}, z29 ml l = true → ∀ p ∈ l, Z6 ml p.1 = p.2
 | (d, m) :: l, h, p, hp => by
  simp only [z29, Bool.and_eq_true] at h
  rcases List.mem_cons.1 hp with rfl | hp
  ·exact Nat.eq_of_beq_eq_true h.1
  ·exact z27 h.2 p hp
def slotsOf : List (Nat × V) → List Nat
 | [] => []
 | (i, _) :: l => i :: slotsOf l
section
variable {X : Cx} {call : q9Q} {ext : z3O} (hP : u6 X.P = true) (hmo : X.P.follows .mixedOrders = true) (hc : z0X X call) (he : z4u X ext)
include hP hmo hc he
end
end Go.E
namespace Go.E
open Go
section
variable {X : Cx} {call : q9Q} {ext : z3O} (hP : u6 X.P = true) (hmo : X.P.follows .mixedOrders = true) (hc : z0X X call) (he : z4u X ext)
include hP hmo hc he
end
mutual
def V.q4c : V → V
 | .sl eb e cs _ => .d (.slice eb e) (.slice cs)
 | .agg τ vs => .agg τ (V.y3L vs)
 | x => x
def V.y3L : List V → List V
 | [] => []
 | x :: xs => x.q4c :: V.y3L xs
end
theorem V.y2P (x : V) : x.q4c.ty = x.ty := by cases x <;> rfl
mutual
theorem V.z8r : ∀ (x : V), V.c5 x x.q4c
 | .sl _ _ cs _ => by simp [V.q4c, V.c5, Z7, V.ty]
 | .agg τ vs => ⟨rfl, V.z6j vs⟩
 | .d _ _ => by simp [V.q4c, V.c5, Z7, V.ty]
 | .emp _ _ => .inl rfl
 | .any => trivial
 | .ts _ _ _ | .nilc | .ptr _ _ _ | .cptr _ _ | .sr _ _ _ _ _ _ _ | .mp _ | .fn _ _ | .tup _ | .top _ => by simp [V.q4c, V.c5]
theorem V.z6j : ∀ (xs : List V), V.q2M xs (V.y3L xs)
 | [] => trivial
 | x :: xs => ⟨V.z8r x, V.y2P x, V.z6j xs⟩
end
def z5j (s : S) (x : V) : V :=
 match x with
 | .sl eb e cs t => if s.live t = some cs.length then .ts eb e cs else .d (.slice eb e) (.slice cs)
 | x => x.q4c
def q55 (s : S) : List V → List V
 | [] => []
 | x :: xs => z5j s x :: q55 s xs
def y0A (f : Nat → Bool) : List V → Bool
 | [] => true
 | v :: vs => (match v with | .ts _ _ _ => true | v => v.ok f Q3 && v.plain) && y0A f vs
def z6m : List V → Bool
 | [] => true
 | v :: vs => v.q9B && z6m vs
theorem y8Y {s : S} {f : Nat → Bool} {x : V} (hx : x.q9B = true) (h : (match z5j s x with | .ts _ _ _ => true | v => v.ok f Q3 && v.plain) = true) : q1o s f x (z5j s x) := by
 have gen : ∀ {x : V}, x.q4c.q9B = true → (x.q4c.ok f Q3 && x.q4c.plain) = true → q1o s f x x.q4c := by
  intro x hn h
  have : V.c5 x x.q4c ∧ x.q4c.ok f Q3 = true ∧ x.q4c.plain = true ∧ x.q4c.ty.isAgg = x.ty.isAgg := by
   simp only [Bool.and_eq_true] at h
   exact ⟨V.z8r x, h.1, h.2, by rw [V.y2P]⟩
  unfold q1o
  split
  ·rename_i e1; rw [e1] at hn; cases hn
  ·exact this
 cases x with
 | sl eb e cs t =>
  simp only [z5j] at h ⊢
  by_cases hl : s.live t = some cs.length
  ·rw [if_pos hl]; exact ⟨rfl, rfl, rfl, hl⟩
  ·rw [if_neg hl] at h ⊢
   exact gen (x := .sl eb e cs t) rfl h
 | ts => cases hx
 | agg τ vs => exact gen (x := .agg τ vs) rfl h
 | d | emp | any | nilc | ptr | cptr | sr | mp | fn | tup | top => exact gen rfl h
theorem y0z {s : S} {f : Nat → Bool} : ∀ {xs : List V}, z6m xs = true → y0A f (q55 s xs) = true → q1z s f xs (q55 s xs)
 | [], _, _ => trivial
 | x :: xs, h1, h2 => by
  simp only [z6m, Bool.and_eq_true] at h1
  simp only [q55, y0A, Bool.and_eq_true] at h2
  exact ⟨y8Y h1.1 h2.1, y0z h1.2 h2.2⟩
def z7v (X : Cx) (s : S) (r : ResultVar) : Bool :=
 match r with
 | .tmp _ => true
 | .cell a t => (match s.get a with
   | .ptr k q τ => (match s.obj k with
     | some (.box y) => decide (τ = ty X.P t) && τ.known && !(y.at q).isAny
     | _ => false)
   | _ => false)
def q8J (X : Cx) (s : S) : List ResultVar → Bool
 | [] => true
 | r :: rs => z7v X s r && q8J X s rs
theorem y3A {X : Cx} {s : S} {A' : Key → Option O} (hA : leA s.A A') {r : ResultVar} (h : z7v X s r = true) : z0n X (s.wA A') r ∧ z06 X (s.wA A') r = z06 X s r := by
 cases r with
 | tmp t => exact ⟨trivial, rfl⟩
 | cell a t =>
  have hg : (s.wA A').get a = s.get a := rfl
  simp only [z7v] at h
  simp only [z0n, z06, hg]
  split at h
  ·rename_i e0
   split at h
   ·rename_i e1
    simp only [Bool.and_eq_true, decide_eq_true_eq, Bool.not_eq_true'] at h
    simp only [e0, F8 hA e1, e1]
    exact ⟨⟨h.1.1, h.1.2, V.q3H h.2⟩, by first | rfl | trivial⟩
   ·cases h
  ·cases h
theorem z4F {X : Cx} {s : S} {A' : Key → Option O} (hA : leA s.A A') : ∀ {rs : List ResultVar}, q8J X s rs = true → q8u X (s.wA A') rs ∧ q3b X (s.wA A') rs = q3b X s rs
 | [], _ => ⟨trivial, rfl⟩
 | r :: rs, h => by
  simp only [q8J, Bool.and_eq_true] at h
  obtain ⟨h1, h2⟩ := y3A hA h.1
  obtain ⟨h3, h4⟩ := z4F hA h.2
  exact ⟨⟨h1, h3⟩, by simp only [q3b, h2, h4]⟩
def y3K : List V → V
 | [x] => x
 | xs => .tup xs
theorem y4Z {xs : List V} {vs : List V} (h : xs.length = vs.length) : z05 xs (y3K vs) = some vs := by
 match xs, vs, h with
 | [], [], _ => rfl
 | [_], [_], _ => rfl
 | _ :: _ :: _, _ :: _ :: _, _ => rfl
theorem z2X (s : S) : ∀ (xs : List V), (q55 s xs).length = xs.length
 | [] => rfl
 | x :: xs => by simp [q55, z2X s xs]
def y4e (X : Cx) (fn : Func) (s : S) : Option (V × List (Key × O)) :=
 let rs := q3b X s fn.results.toList
 let vs := q55 s rs
 let L := q3j s.loc (reach s.loc 100000 (V.q7f vs ++ q7g s.loc) []) s.loc
 if q8J X s fn.results.toList = true ∧ z6m rs = true ∧ y0A (Y9 L) vs = true ∧ q13 (q5Q (q2u 2000 rs vs)) = true ∧ q5J L = true ∧ q2j (Y9 L) Q3 L = true ∧ q6o L s.loc = true then some (y3K vs, L) else none
theorem y7l {X : Cx} {fn : Func} {s : S} {v : V} {L : List (Key × O)} {A' : Key → Option O} (hA : leA s.A A') (h : y4e X fn s = some (v, L)) : z9H X fn A' v L (s.wA A') := by
 simp only [y4e, Option.ite_none_right_eq_some, Option.some.injEq, Prod.mk.injEq] at h
 obtain ⟨⟨h1, h2, h3, h4, h5, h6, h7⟩, rfl, rfl⟩ := h
 obtain ⟨c1, c2⟩ := z4F hA h1
 have hL : ∀ (x : S) (xs vs : List V) f, q1z x f xs vs → q1z (x.wA A') f xs vs := by
  intro x xs
  induction xs with
  | nil => intro vs f h; cases vs <;> exact h
  | cons y ys ih =>
   intro vs f h
   cases vs with
   | nil => exact h
   | cons v vs => exact ⟨h.1, ih vs f h.2⟩
 refine ⟨rfl, q5C (s := s.wA A') _ h5, h6, q6W h7, c1, ?_⟩
 rw [c2, y4Z (z2X s _).symm]
 exact ⟨hL _ _ _ _ (y0z h2 h3), h4⟩
section
variable {X : Cx} {ov : q9Q} {ext : z3O} (hP : u6 X.P = true) (hmo : X.P.follows .mixedOrders = true) (hov : z0X X ov) (he : z4u X ext)
include hP hmo hov he
end
def A0 : Key → Option O := fun _ => none
theorem Y6.any {X : Cx} {f : FuncId} {xs : List V} {v : V} {L : List (Key × O)} (h : Y6 X f xs A0 v L) (A : Key → Option O) : Y6 X f xs A v L := h.mono fun _ _ h => by cases h
end Go.E
