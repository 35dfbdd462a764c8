/-
 A framework for runs of Go code over abstract data: what it needs, and that it is sound, part 3.
 Conditions: none.
-/
import Derived.Test.YtdoajkacibicoaaDoorEb
import Derived.ScopeJumps
import Derived.ProofKit
import Derived.LaidMore
import Derived.OpenShut
import Derived.Stop.Joined
import Derived.ChangeStays
import Derived.Deep.DeepHandedRow
import Derived.Lib.LaidTab
import Derived.LoopN
set_option linter.all false
namespace Go.E
open Go
def z1H {α : Type} : List (Key × α) → Key → Bool
 | [], _ => false
 | (j, _) :: l, k => decide (j = k) || z1H l k
def z4k {α : Type} : List (Key × α) → Key → α → List (Key × α)
 | [], _, _ => []
 | (j, x) :: l, k, y => if j = k then (j, y) :: l else (j, x) :: z4k l k y
def z8V {α : Type} (l : List (Key × α)) (k : Key) (y : α) : List (Key × α) := bif z1H l k then z4k l k y else (k, y) :: l
def z1G {α : Type} : List (Nat × α) → Nat → Bool
 | [], _ => false
 | (j, _) :: l, k => decide (j = k) || z1G l k
def q73 {α : Type} : List (Nat × α) → Nat → α → List (Nat × α)
 | [], _, _ => []
 | (j, x) :: l, k, y => if j = k then (j, y) :: l else (j, x) :: q73 l k y
def z3s {α : Type} (l : List (Nat × α)) (k : Nat) (y : α) : List (Nat × α) := bif z1G l k then q73 l k y else (k, y) :: l
theorem z4H {α : Type} : ∀ (l : List (Key × α)) (k : Key) (y : α) (j : Key), z1H l k = true → z7 (z4k l k y) j = if k = j then some y else z7 l j
 | [], _, _, _, h => by simp [z1H] at h
 | (i, x) :: l, k, y, j, h => by
  simp only [z4k]
  by_cases e : i = k
  ·subst e; simp only [if_true, z7]; by_cases e2 : i = j <;> simp [e2]
  ·rw [if_neg e]
   simp only [z7]
   have h' : z1H l k = true := by simpa [z1H, e] using h
   rw [z4H l k y j h']
   by_cases e2 : i = j
   ·subst e2; simp [fun h : k = i => e h.symm]; intro h; exact absurd h.symm e
   ·simp [e2]
theorem y3R {α : Type} (l : List (Key × α)) (k : Key) (y : α) (j : Key) : z7 (z8V l k y) j = if k = j then some y else z7 l j := by
 unfold z8V
 cases h : z1H l k with
 | true => exact z4H l k y j h
 | false => rfl
theorem z69 {α : Type} : ∀ (l : List (Nat × α)) (k : Nat) (y : α) (j : Nat), z1G l k = true → look (q73 l k y) j = if k = j then some y else look l j
 | [], _, _, _, h => by simp [z1G] at h
 | (i, x) :: l, k, y, j, h => by
  simp only [q73]
  by_cases e : i = k
  ·subst e; simp only [if_true, look]; by_cases e2 : i = j <;> simp [e2]
  ·rw [if_neg e]
   simp only [look]
   have h' : z1G l k = true := by simpa [z1G, e] using h
   rw [z69 l k y j h']
   by_cases e2 : i = j
   ·subst e2; simp; intro h; exact absurd h.symm e
   ·simp [e2]
theorem q7D {α : Type} (l : List (Nat × α)) (k : Nat) (y : α) (j : Nat) : look (z3s l k y) j = if k = j then some y else look l j := by
 unfold z3s
 cases h : z1G l k with
 | true => exact z69 l k y j h
 | false => rfl
def S.put (s : S) (k : Key) (o : O) : S := { s with loc := z8V s.loc k o }
def S.tok (s : S) (t : Nat) (L : Option Nat) : S := { s with tk := z3s s.tk t L }
def F6 : List (Nat × List Nat) → S → S
 | [], s => s
 | (t, _) :: σ, s => F6 σ (s.tok t none)
theorem Y7 (s : S) (k j : Key) (o : O) : (s.put k o).obj j = if k = j then some o else s.obj j := by
 simp only [S.put, S.obj, Z3, y3R]
 by_cases h : k = j
 ·simp only [h, if_true]
 ·simp only [if_neg h]
theorem z3E (s : S) (t u : Nat) (L : Option Nat) : (s.tok t L).live u = if t = u then L else s.live u := by
 simp only [S.tok, S.live, F4, q7D]
 by_cases h : t = u
 ·subst h; simp only [if_true]; cases L <;> rfl
 ·simp [h]
theorem q8f (s : S) (t u : Nat) (L : Option Nat) : (s.tok t L).known u = (decide (t = u) || s.known u) := by
 simp only [S.tok, S.known, q7D]
 by_cases h : t = u
 ·subst h; simp
 ·simp [h]
theorem z9j : ∀ (σ : List (Nat × List Nat)) (s : S) (k : Key), (F6 σ s).obj k = s.obj k
 | [], _, _ => rfl
 | (t, _) :: σ, s, k => by simp only [F6, z9j σ]; rfl
theorem z7g : ∀ (σ : List (Nat × List Nat)) (s : S) (u : Nat), (F6 σ s).live u = match look σ u with | some _ => none | none => s.live u
 | [], _, _ => rfl
 | (t, p) :: σ, s, u => by
  simp only [F6, z7g σ, z3E, look]
  by_cases h : t = u
  ·subst h; simp; cases look σ t <;> rfl
  ·simp [h]
theorem q9P : ∀ (σ : List (Nat × List Nat)) (s : S) (u : Nat), s.known u = true → (F6 σ s).known u = true
 | [], _, _, h => h
 | (t, p) :: σ, s, u, h => by
  simp only [F6]
  exact q9P σ _ u (by rw [q8f, h]; simp)
theorem z26 : ∀ (σ : List (Nat × List Nat)) (s : S) (u : Nat), look σ u ≠ none → (F6 σ s).known u = true
 | [], _, _, h => by simp [look] at h
 | (t, p) :: σ, s, u, h => by
  simp only [F6]
  by_cases e : t = u
  ·subst e; exact q9P σ _ t (by rw [q8f]; simp)
  ·exact z26 σ _ u (by simpa [look, e] using h)
def q3O (d : Nat) : List (Key × O) → S → S
 | [], s => s
 | (k, o) :: L, s => (q3O d L s).put (dn d k) (o.ren (dn d))
def q4H (d : Nat) : List (Nat × Option Nat) → S → S
 | [], s => s
 | (m, x) :: l, s => (q4H d l s).tok (rk d m) x
def q4m : List Nat → S → S
 | [], s => s
 | t :: l, s => (q4m l s).tok t none
theorem z9h (d : Nat) : ∀ (L : List (Key × O)) (s : S) (k : Key), (q3O d L s).obj k = match z7 (dnL d L) k with | some o => some o | none => s.obj k
 | [], _, _ => rfl
 | (j, o) :: L, s, k => by
  simp only [q3O, Y7, dnL, z7, z9h d L s k]
  split <;> rfl
theorem y1n (d : Nat) : ∀ (L : List (Key × O)) (s : S), (q3O d L s).tk = s.tk
 | [], _ => rfl
 | (j, o) :: L, s => by simp only [q3O, S.put, y1n d L s]
theorem z7a (d : Nat) : ∀ (l : List (Nat × Option Nat)) (s : S) (t : Nat), look (q4H d l s).tk t = match look (dnT d l) t with | some x => some x | none => look s.tk t
 | [], _, _ => rfl
 | (m, x) :: l, s, t => by
  simp only [q4H, S.tok, q7D, dnT, look, z7a d l s t]
  split <;> rfl
theorem z3B (d : Nat) : ∀ (l : List (Nat × Option Nat)) (s : S), (q4H d l s).loc = s.loc ∧ (q4H d l s).A = s.A
 | [], _ => ⟨rfl, rfl⟩
 | (m, x) :: l, s => by simp only [q4H, S.tok]; exact z3B d l s
theorem z7b : ∀ (l : List Nat) (s : S) (t : Nat), look (q4m l s).tk t = match look (q3M l) t with | some x => some x | none => look s.tk t
 | [], _, _ => rfl
 | m :: l, s, t => by
  simp only [q4m, S.tok, q7D, q3M, look, z7b l s t]
  split <;> rfl
theorem z3C : ∀ (l : List Nat) (s : S), (q4m l s).loc = s.loc ∧ (q4m l s).A = s.A
 | [], _ => ⟨rfl, rfl⟩
 | m :: l, s => by simp only [q4m, S.tok]; exact z3C l s
def S.ret (s : S) (tip : Bool) (ys : List V) (d : Nat) (v : V) (L : List (Key × O)) : S := q4H d (v.tkR 2000) (q4m (Q5 tip s ys) (q3O d L s))
theorem y67 (s : S) (tip : Bool) (ys : List V) (d : Nat) (v : V) (L : List (Key × O)) (k : Key) : (s.ret tip ys d v L).obj k = (s.back tip ys d v L).obj k := by
 have h1 := z3B d (v.tkR 2000) (q4m (Q5 tip s ys) (q3O d L s))
 have h2 := z3C (Q5 tip s ys) (q3O d L s)
 have h3 := z9h d L s k
 unfold S.obj at h3 ⊢
 simp only [S.ret, h1.1, h1.2, h2.1, h2.2, h3]
 unfold Z3 S.back
 simp only [q08]
 cases z7 (dnL d L) k <;> rfl
theorem y3F (s : S) (tip : Bool) (ys : List V) (d : Nat) (v : V) (L : List (Key × O)) (t : Nat) : look (s.ret tip ys d v L).tk t = look (s.back tip ys d v L).tk t := by
 simp only [S.ret, z7a, z7b, y1n, S.back, q1E]
 cases look (dnT d (v.tkR 2000)) t <;> cases look (q3M (Q5 tip s ys)) t <;> rfl
def gOk (s : S) (d : Nat) : List (Key × O) → Prop
 | [] => True
 | (.g k, _) :: L => (s.obj k).isSome = true ∧ gOk s d L
 | (.l j, _) :: L => s.obj (.l (rk d j)) = none ∧ gOk s d L
def tOk (s : S) (d : Nat) : List (Nat × Option Nat) → Prop
 | [] => True
 | (m, _) :: l => s.known (rk d m) = false ∧ tOk s d l
theorem y2V {s : S} {d : Nat} : ∀ {L : List (Key × O)} {k : Key} {o : O}, gOk s d L → z7 L (.g k) = some o → s.obj k ≠ none
 | [], _, _, _, h => by simp [z7] at h
 | (.g j, o') :: L, k, o, hg, h => by
  simp only [z7] at h
  split at h
  ·rename_i e; cases e; have := hg.1; intro h'; rw [h'] at this; cases this
  ·exact y2V hg.2 h
 | (.l j, o') :: L, k, o, hg, h => by simp [z7] at h; exact y2V hg.2 h
theorem y2U {s : S} {d : Nat} : ∀ {L : List (Key × O)} {j : Nat} {o : O}, gOk s d L → z7 L (.l j) = some o → s.obj (.l (rk d j)) = none
 | [], _, _, _, h => by simp [z7] at h
 | (.l i, o') :: L, j, o, hg, h => by
  simp only [z7] at h
  split at h
  ·rename_i e; cases e; exact hg.1
  ·exact y2U hg.2 h
 | (.g i, o') :: L, j, o, hg, h => by simp [z7] at h; exact y2U hg.2 h
theorem y6v {s : S} {d : Nat} : ∀ {l : List (Nat × Option Nat)} {m : Nat} {x : Option Nat}, tOk s d l → look l m = some x → s.known (rk d m) = false
 | [], _, _, _, h => by simp [look] at h
 | (i, y) :: l, m, x, hg, h => by
  simp only [look] at h
  split at h
  ·rename_i e; subst e; exact hg.1
  ·exact y6v hg.2 h
def top (X : Cx) (md : List (Nat × Nat)) (dst : Nat) (o : Oper) (ρ : Operand → V) (s : S) (K : V → S → Prop) : Prop :=
 match o.op with
 | .store T p y => (match ρ p with
   | .ptr k q τ => (match s.obj k with
     | some (.box x) => τ = ty X.P T ∧ τ.known = true ∧ (Q2 τ (ρ y)).ty = τ ∧ (Q2 τ (ρ y)).plain = true ∧ x.at q ≠ .any ∧ x.ty.J4 = true ∧ (Q2 τ (ρ y)).okH = true ∧
       K .any (F6 ((Q2 τ (ρ y)).sites s.live q) (s.put k (.box (x.setAt q ((Q2 τ (ρ y)).j9 ((Q2 τ (ρ y)).sites s.live q) s.live q)))))
     | _ => False)
   | _ => False)
 | .box _ x => (ρ x).plain = true ∧ (ρ x).okH = true ∧ s.obj (.l dst) = none ∧
   K (.ptr (.l dst) [] (ρ x).ty) (F6 ((ρ x).sites s.live []) (s.put (.l dst) (.box ((ρ x).j9 ((ρ x).sites s.live []) s.live []))))
 | .load T x => (match ρ x with
   | .ptr k q τ => (match s.obj k with
     | some (.box y) => (match y.at q with
      | .ts eb e cs => c5 md dst = 1 ∧ τ = ty X.P T ∧ τ = .slice eb e ∧ y.ty.J4 = true ∧ s.known dst = false ∧ K (.sl eb e cs dst) ((s.put k (.box (y.setAt q (.d (.slice eb e) (.slice cs))))).tok dst (some cs.length))
      | _ => False)
     | _ => False)
   | _ => False)
 | .mapUpdate T x i y => (match q2c X.P T, ρ x with
   | some (kt, et), .mp k => (match s.obj k with
     | some (.map kτ vτ es) => kτ = ty X.P kt ∧ vτ = ty X.P et ∧ H3 X.P kt = true ∧ kτ.flat = true ∧ (ρ i).Z1 kτ ∧ (Q2 vτ (ρ y).j5).ty = vτ ∧ (Q2 vτ (ρ y).j5).plain = true ∧ (Q2 vτ (ρ y).j5).r8 = true ∧
       K .any (s.put k (.map kτ vτ (q0G es (ρ i).toC (Q2 vτ (ρ y).j5))))
     | _ => False)
   | _, _ => False)
 | .call c => (match c.callee with
   | .value fo => (match ρ fo with
     | .fn f caps => W7 X.P f = true ∧ c.argTypes.toList.length = c.args.toList.length ∧ q0q (Q5 (c5 md dst == 1) s (Q9 (c.args.toList.map ρ) caps)) = true ∧
      ∃ v L, p8 X f (Z2 X.P (c5 md dst == 1) s (q3v c.argTypes.toList caps) (Q9 (c.args.toList.map ρ) caps)) s.up v L ∧ gOk s dst L ∧ tOk s dst (v.tkR 2000) ∧
       K ((v.X3 2000).ren (dn dst) (rk dst)) (s.ret (c5 md dst == 1) (Q9 (c.args.toList.map ρ) caps) dst v L)
     | _ => False)
   | .builtin .append => (match c.args.toList, c.argTypes.toList with
     | [x, y], [t, t'] => Q0 X.P (v7 X.P t) = true ∧ (match ty X.P t, ρ x with
       | .slice eb e, .sl eb' e' cs tk => eb' = eb ∧ e' = e ∧ s.live tk = some cs.length ∧
         q6D X.P s t' eb e (ρ y) fun ys => (cs.length + ys.length) * eb ≤ 140737488355328 ∧ cs.length + ys.length ≤ maxLen ∧ K (.sl eb e (cs ++ ys) tk) (s.tok tk (some (cs.length + ys.length)))
       | .slice eb e, .sr k [] 0 n none eb' e' => (match s.obj k with
         | some (.box (.d (.arr M e2) cc)) => eb' = eb ∧ e' = e ∧ e2 = e ∧ ∃ d, s.obj (.l d) = none ∧
           q6D X.P s t' eb e (ρ y) fun ys => ys ≠ [] ∧ (n + ys.length) * eb ≤ 140737488355328 ∧ n + ys.length ≤ maxLen ∧
            K (.sr (.l d) [] 0 (n + ys.length) none eb e) ((s.put k (.dead (.arr M e))).put (.l d) (.box (.d (.arr (n + ys.length) e) (.agg (cc.elems.take n ++ ys)))))
         | _ => False)
       | _, _ => False)
     | _, _ => False)
   | .builtin .copy => (match c.args.toList, c.argTypes.toList with
     | [x, y], [t, t'] => Q0 X.P (v7 X.P t) = true ∧ (match ty X.P t, ρ x with
       | .slice eb e, .sr k q lo n (some _) eb' e' => (match s.obj k with
         | some (.box Z) => (match Z.at q with
          | .d (.arr m e2) cc => eb' = eb ∧ e' = e ∧ e2 = e ∧ Z.ty.J4 = true ∧ 0 < n ∧
            q6D X.P s t' eb e (ρ y) fun ys => K (.d (.int .i64) (.int (min ys.length n : Nat))) (s.put k (.box (Z.setAt q (.d (.arr m e) (.agg (q42 cc.elems lo n ys))))))
          | _ => False)
         | _ => False)
       | _, _ => False)
     | _, _ => False)
   | _ => False)
 | _ => False
def y6P (X : Cx) (o : Oper) (ρ : Operand → V) (s : S) (v : V) (s1 : S) : Prop :=
 s1.A = s.A ∧ s1.env = s.env ∧ ∀ (Γ : G) (w : World) (a : Act), Γ.gl = X.gl → y9 Γ w s → (∀ y ∈ o.op.operands, q9 Γ (ρ y) (a.eval y)) → s9 X.P o a w (o9 Γ w s1 v)
section
variable {X : Cx} {Γ : G} {w : World} {s : S}
theorem o9.congr {s1 s2 : S} {x : V} {v : Value} {w' : World} (h : o9 Γ w s1 x v w') (h1 : ∀ k, s2.obj k = s1.obj k) (h2 : ∀ t, s2.live t = s1.live t) (h3 : ∀ t, s1.known t = true → s2.known t = true) : o9 Γ w s2 x v w' := by
 obtain ⟨Γ', a, b, c, d⟩ := h
 exact ⟨Γ', a, b, c.congr h1 h2 h3, d⟩
theorem q7O : ∀ (σ : List (Nat × List Nat)) (s : S), (F6 σ s).env = s.env ∧ (F6 σ s).A = s.A
 | [], _ => ⟨rfl, rfl⟩
 | (t, _) :: σ, s => by simp only [F6]; exact q7O σ _
theorem z3Q (d : Nat) : ∀ (L : List (Key × O)) (s : S), (q3O d L s).env = s.env ∧ (q3O d L s).A = s.A
 | [], _ => ⟨rfl, rfl⟩
 | _ :: L, s => by simp only [q3O, S.put]; exact z3Q d L s
theorem z92 (d : Nat) : ∀ (l : List (Nat × Option Nat)) (s : S), (q4H d l s).env = s.env
 | [], _ => rfl
 | _ :: l, s => by simp only [q4H, S.tok]; exact z92 d l s
theorem z94 : ∀ (l : List Nat) (s : S), (q4m l s).env = s.env
 | [], _ => rfl
 | _ :: l, s => by simp only [q4m, S.tok]; exact z94 l s
theorem y1r (tip : Bool) (ys : List V) (d : Nat) (v : V) (L : List (Key × O)) : (s.ret tip ys d v L).env = s.env ∧ (s.ret tip ys d v L).A = s.A := by
 unfold S.ret
 exact ⟨by rw [z92, z94, (z3Q d L s).1], by rw [(z3B _ _ _).2, (z3C _ _).2, (z3Q d L s).2]⟩
theorem z1t {s s' : S} (h : ∀ t, look s.tk t = look s'.tk t) (t : Nat) : s.live t = s'.live t := by unfold S.live F4; rw [h]
theorem z0p {s s' : S} (h : ∀ t, look s.tk t = look s'.tk t) (t : Nat) : s.known t = s'.known t := by unfold S.known; rw [h]
theorem z4M {σ : List (Nat × List Nat)} {k : Key} {o : O} {x : V} {v : Value} {w' : World} (h : o9 Γ w { s with loc := (k, o) :: s.loc, tk := q41 σ ++ s.tk } x v w') : o9 Γ w (F6 σ (s.put k o)) x v w' := by
 refine h.congr (fun j => ?_) (fun t => ?_) (fun t ht => ?_)
 ·rw [z9j, Y7]
  exact (Q6 { s with tk := q41 σ ++ s.tk } k j o).symm
 ·rw [z7g]
  unfold S.live F4
  simp only [q5N]
  cases look σ t <;> rfl
 ·unfold S.known at ht
  simp only [q5N] at ht
  cases hs : look σ t with
  | none => rw [hs] at ht; exact q9P σ _ t ht
  | some p => exact z26 σ _ t (by rw [hs]; simp)
theorem z0R (hP : u3 X.P = true) {md : List (Nat × Nat)} {dst : Nat} {o : Oper} {ρ : Operand → V} {K : V → S → Prop} (h : top X md dst o ρ s K) : ∃ v s1, K v s1 ∧ y6P X o ρ s v s1 := by
 unfold top at h
 split at h
 ·rename_i T p y ho
  split at h
  ·rename_i k q τ hp
   split at h
   ·rename_i x hobj
    obtain ⟨h1, h2, h3, h4, h5, h6, h7, hK⟩ := h
    refine ⟨_, _, hK, by rw [(q7O _ _).2]; rfl, by rw [(q7O _ _).1]; rfl, fun Γ w a _ c hr => ?_⟩
    have hpr := hr p (by rw [ho]; simp [Op.operands])
    rw [hp] at hpr
    have := y4z (Y := ρ y) hP c ho hpr (hr y (by rw [ho]; simp [Op.operands])) hobj h1 h2 h3 h4 h5 h6 h7
    exact this.mono fun v w' hpost => z4M hpost
   ·exact h.elim
  ·exact h.elim
 ·rename_i T x ho
  obtain ⟨h1, h2, h3, hK⟩ := h
  refine ⟨_, _, hK, by rw [(q7O _ _).2]; rfl, by rw [(q7O _ _).1]; rfl, fun Γ w a _ c hr => ?_⟩
  exact (y7M c ho h3 (hr x (by rw [ho]; simp [Op.operands])) h1 h2).mono fun v w' hpost => z4M hpost
 ·rename_i T x ho
  split at h
  ·rename_i k q τ hx
   split at h
   ·rename_i y hobj
    split at h
    ·rename_i eb e cs hat
     obtain ⟨_, h2, h3, h4, h5, hK⟩ := h
     refine ⟨_, _, hK, rfl, rfl, fun Γ w a _ c hr => ?_⟩
     have hxr := hr x (by rw [ho]; simp [Op.operands])
     rw [hx] at hxr
     obtain ⟨b, τ0, o0, hι, hw, hv⟩ := q0e hxr
     obtain ⟨u, r1, r2⟩ := z3D (T := T) hP c hxr hobj (by rw [hat]; simp) h2 (by rw [h3]; rfl)
     rw [hat] at r2
     simp only [view] at r2
     obtain ⟨aa, n, cap, e1, _⟩ := q00 (eb := eb) (e := e) (cs := cs) r2 (by simp [V.q1l, C.elems])
     subst e1
     rw [h3] at hw
     have hcell : w.cell? ⟨b, o0, none⟩ = some (.slice aa n cap) := by
      have r1' := r1
      rw [hv] at r1'
      simp only [Instr.loadAt, Instr.sureAddr, Sem.run_bind, Sem.run_pure, Result.andThen_ok] at r1'
      obtain ⟨b2, cells, E, e1, _, _, e4, e5, e6, e7, _⟩ := c.own hι hobj
      rw [hι] at e1; cases e1
      obtain ⟨g1, g2, g3⟩ := e6.at_ hw (by rw [hat]; simp) e7
      have hcl : (chunk cells.toList 0 y.ty.size).length = y.ty.size := k8 _ _ _ (by simpa using e5)
      rw [hcl] at g2
      simp only [Ty.size] at g2
      obtain ⟨u', q1, q2, q3⟩ := q5J (T := T) (E := E) (fr := (0, 0)) (off := o0) hP (h2.symm.trans h3) rfl e4 (by simp only [Ty.size]; omega) (by
       have := g3.one (by rw [hat]; rfl)
       simp only [Ty.size] at this ⊢
       rwa [c8 _ _ _ _ _ (by omega), Nat.zero_add] at this)
      rw [r1'] at q1
      cases q1
      simp only [Value.cells, Ty.size] at q2
      have : (chunk cells.toList o0 1)[0]? = some (.slice aa n cap) := by rw [← q2]; rfl
      rw [s8] at this
      simp at this
      simp [World.cell?, e4, this]
     obtain ⟨Γ', t1, t2, t3, t4⟩ := c.take (t := dst) hobj hat h4 h5 hι hw hcell
     refine s9.val (v := .slice aa n cap) (w' := w) (by unfold execOp; simp [ho, r1]) ⟨Γ', t1, t2, t3.congr (fun j => ?_) (fun t => ?_) (fun t ht => ?_), t4⟩
     ·refine (Y7 s k j _).trans ?_
      exact (Q6 { s with tk := (dst, some cs.length) :: s.tk } k j _).symm
     ·refine (z3E _ dst t _).trans ?_
      exact (q3h { s with loc := (k, .box (y.setAt q (.d (.slice eb e) (.slice cs)))) :: s.loc } dst t (some cs.length)).symm
     ·rw [q8f]
      exact (q2g { s with loc := (k, .box (y.setAt q (.d (.slice eb e) (.slice cs)))) :: s.loc } dst t (some cs.length)).symm.trans ht
    ·exact h.elim
   ·exact h.elim
  ·exact h.elim
 ·rename_i T x i y ho
  split at h
  ·rename_i kt et k hT hx
   split at h
   ·rename_i kτ vτ es hobj
    obtain ⟨rfl, rfl, h1, h2, h3, h4, h5, h6, hK⟩ := h
    refine ⟨_, _, hK, rfl, rfl, fun Γ w a _ c hr => ?_⟩
    have hxr := hr x (by rw [ho]; simp [Op.operands])
    rw [hx] at hxr
    have hir := hr i (by rw [ho]; simp [Op.operands])
    have hd : ρ i = .d (ty X.P kt) (ρ i).toC := by
     cases hi : ρ i <;> simp [hi, V.Z1] at h3
     subst h3; rfl
    rw [hd] at hir
    exact (y0f hP c ho hT hxr hir (z3W (hr y (by rw [ho]; simp [Op.operands])).j5) hobj h1 h2 h4 h5 h6).mono fun v w' hpost => hpost.congr (fun j => (Y7 s k j _).trans (Q6 s k j _).symm) (fun _ => rfl) (fun _ h => h)
   ·exact h.elim
  ·exact h.elim
 ·rename_i cl ho
  obtain ⟨callee, args, ts⟩ := cl
  split at h
  ·rename_i fo hfo
   simp only at hfo h
   subst hfo
   split at h
   ·rename_i f caps hf
    obtain ⟨h1, h2, h3, v, L, D, hg, ht, hK⟩ := h
    refine ⟨_, _, hK, (y1r ..).2, (y1r ..).1, fun Γ w a hgl c hr => ?_⟩
    have hrf := hr fo (by rw [ho]; simp [Op.operands, Call.operands])
    rw [hf] at hrf
    have := y1P (A := s.up) (d := dst) rfl hgl c ho h1 h2 hrf (fun y hy => hr y (by rw [ho]; simp only [Op.operands, Call.operands]; exact Array.mem_append_right _ (Array.mem_toList_iff.1 hy))) h3 D (fun _ _ h => h)
     (fun k o hk => y2V hg hk) (fun j o hj => y2U hg hj) (fun m x hm => y6v ht hm)
    exact this.mono fun v' w' hpost => hpost.congr (fun k => y67 ..) (fun t => z1t (fun t => y3F ..) t) (fun t hk => by rw [z0p (fun t => y3F ..)]; exact hk)
   ·exact h.elim
  ·rename_i hb
   simp only at hb h
   subst hb
   split at h
   ·rename_i x y t t' hargs hts
    have hargs' : args = #[x, y] := by cases args; simpa using hargs
    have hts' : ts = #[t, t'] := by cases ts; simpa using hts
    subst hargs'; subst hts'
    obtain ⟨h1, h⟩ := h
    split at h
    ·rename_i eb e eb' e' cs tk htt hx
     obtain ⟨rfl, rfl, hl, h⟩ := h
     obtain ⟨ys, ⟨b1, b2, hK⟩, hs⟩ := q50 hP h
     refine ⟨_, _, hK, rfl, rfl, fun Γ w a _ c hr => ?_⟩
     have hyr := hr y (by rw [ho]; simp [Op.operands, Call.operands])
     have hxr := hr x (by rw [ho]; simp [Op.operands, Call.operands])
     rw [hx] at hxr
     exact (z74 hP c ho htt h1 hl hxr hyr hs b1 b2).mono fun v w' hpost => hpost.congr (fun _ => rfl) (fun u => (z3E s tk u _).trans (q3h s tk u _).symm) (fun u hu => by rw [q8f]; exact (q2g s tk u _).symm.trans hu)
    ·rename_i eb e k n eb' e' htt hx
     split at h
     ·rename_i M e2 cc hobj
      obtain ⟨rfl, rfl, rfl, d, hd, h⟩ := h
      obtain ⟨ys, ⟨b0, b1, b2, hK⟩, hs⟩ := q50 hP h
      refine ⟨_, _, hK, rfl, rfl, fun Γ w a _ c hr => ?_⟩
      have hyr := hr y (by rw [ho]; simp [Op.operands, Call.operands])
      have hxr := hr x (by rw [ho]; simp [Op.operands, Call.operands])
      rw [hx] at hxr
      exact (z73 hP c ho htt h1 hd hobj hxr hyr hs b0 b1 b2).mono fun v w' hpost => hpost.congr (fun j => by rw [Y7, Y7]; rw [show S.obj { s with loc := (Key.l d, O.box (.d (.arr (n + ys.length) _) (.agg (cc.elems.take n ++ ys)))) :: (k, O.dead _) :: s.loc } j = S.obj { ({ s with loc := (k, O.dead _) :: s.loc } : S) with loc := (Key.l d, _) :: ({ s with loc := (k, O.dead _) :: s.loc } : S).loc } j from rfl, Q6, Q6]) (fun u => rfl) (fun u hu => hu)
     ·exact h.elim
    ·exact h.elim
   ·exact h.elim
  ·rename_i hb
   simp only at hb h
   subst hb
   split at h
   ·rename_i x y t t' hargs hts
    have hargs' : args = #[x, y] := by cases args; simpa using hargs
    have hts' : ts = #[t, t'] := by cases ts; simpa using hts
    subst hargs'; subst hts'
    obtain ⟨h1, h⟩ := h
    split at h
    ·rename_i eb e k q lo n cp eb' e' htt hx
     split at h
     ·rename_i Z hobj
      split at h
      ·rename_i m e2 cc hZ
       obtain ⟨rfl, rfl, rfl, hd, h0, h⟩ := h
       obtain ⟨ys, hK, hs⟩ := q50 hP h
       refine ⟨_, _, hK, rfl, rfl, fun Γ w a _ c hr => ?_⟩
       have hyr := hr y (by rw [ho]; simp [Op.operands, Call.operands])
       have hxr := hr x (by rw [ho]; simp [Op.operands, Call.operands])
       rw [hx] at hxr
       exact (y7K hP c ho htt hobj hZ hd h0 h1 hxr hyr hs).mono fun v w' hpost => hpost.congr (fun j => by rw [Y7, Q6]) (fun u => rfl) (fun u hu => hu)
      ·exact h.elim
     ·exact h.elim
    ·exact h.elim
   ·exact h.elim
  ·exact h.elim
 ·exact h.elim
end
end Go.E
namespace Go.E
open Go
def At (X : Cx) (n : Nat) (Γ0 : G) (s : S) (a : Act) (w : World) : Prop :=
 ∃ Γ, GLe Γ0 Γ ∧ Γ.gl = X.gl ∧ y9 Γ w s ∧ q2l Γ s a.tmps ∧ a.tmps.size = n ∧ a.defers = [] ∧ AOk s.A
def S.set (s : S) (d : Option Nat) (x : V) : S :=
 match d with
 | some d => { s with env := z3s s.env d x }
 | none => s
def q2u (s : S) : List (Key × O) → Prop
 | [] => True
 | (k, _) :: l => s.obj k = none ∧ q2u s l
def q2t (s : S) : List (Nat × Option Nat) → Prop
 | [] => True
 | (t, _) :: l => s.known t = false ∧ q2t s l
theorem z3L {s : S} {lo : List (Key × O)} {tn : List (Nat × Option Nat)} (h : q2u s lo) (h' : q2t s tn) : z8w s lo tn := by
 constructor
 ·induction lo with
  | nil => intro k o hk; simp [z7] at hk
  | cons x lo ih =>
   intro k o hk
   simp only [z7] at hk
   split at hk
   ·rename_i e; rw [← e]; exact h.1
   ·exact ih h.2 k o hk
 ·induction tn with
  | nil => intro k o hk; simp [look] at hk
  | cons x tn ih =>
   intro k o hk
   simp only [look] at hk
   split at hk
   ·rename_i e; rw [← e]; exact h'.1
   ·exact ih h'.2 k o hk
noncomputable def y8r (X : Cx) (dst : Nat) (o : Oper) (s : S) (K : V → S → Prop) : Prop :=
  (iop X [] (F5 (q09 (o.op.operands.toList.map (w8 X.gl s))) s) dst o (fun y => W9 s (w8 X.gl s y)) (F5 (q09 (o.op.operands.toList.map (w8 X.gl s))) s)
   (fun v lo tn => q2u (F5 (q09 (o.op.operands.toList.map (w8 X.gl s))) s) lo ∧ q2t (F5 (q09 (o.op.operands.toList.map (w8 X.gl s))) s) tn ∧ K v ((F5 (q09 (o.op.operands.toList.map (w8 X.gl s))) s).add lo tn)) ∨
  top X [] dst o (fun y => W9 s (w8 X.gl s y)) (F5 (q09 (o.op.operands.toList.map (w8 X.gl s))) s) K)
noncomputable def lop (X : Cx) (md : List (Nat × Nat)) (dst : Nat) (o : Oper) (s : S) (K : V → S → Prop) : Prop := c5 md dst = 100 ∧ y8r X dst o s K
theorem z4D : ∀ {xs : List V} {x : V} {j : Nat}, x ∈ xs → j ∈ q1I x → j ∈ q09 xs
 | y :: ys, x, j, hx, hj => by
  simp only [q09, List.mem_append]
  rcases List.mem_cons.1 hx with rfl | hx
  ·exact .inl hj
  ·exact .inr (z4D hx hj)
theorem q6g : ∀ (js : List Nat) (s : S), (F5 js s).env = s.env ∧ (F5 js s).A = s.A
 | [], s => ⟨rfl, rfl⟩
 | j :: l, s => by
  simp only [F5]
  have := q6g l (match s.obj (.l j) with
   | some (.box (.d τ _)) => (match τ with
    | .arr M e => { s with loc := (.l j, .dead (.arr M e)) :: s.loc }
    | _ => s)
   | _ => s)
  refine ⟨this.1.trans ?_, this.2.trans ?_⟩ <;> (split <;> (try rfl); split <;> rfl)
noncomputable def sop (X : Cx) (md : List (Nat × Nat)) (dst : Nat) (o : Oper) (s : S) (K : V → S → Prop) : Prop :=
 lop X md dst o s K ∨ (c5 md dst ≠ 1 ∧ iop X md s dst o (w8 X.gl s) s (fun v lo tn => q2u s lo ∧ q2t s tn ∧ K v (s.add lo tn))) ∨ top X md dst o (w8 X.gl s) s K ∨ (fop X o (w8 X.gl s) fun v => K v s) ∨ sl3 X md dst o (w8 X.gl s) s K
def q2Y (ops : Array Oper) (j : Nat) : Option Nat := (ops[j]?).bind (·.dst)
def w9 (o : Oper) : Nat := o.dst.getD 0
def gk (b want : Bool) (p q : Prop) : Prop := (b = want → p) ∧ (b ≠ want → q)
theorem y5 (p q : Prop) : gk true true p q = p := by simp [gk]
theorem y8 (p q : Prop) : gk false false p q = p := by simp [gk]
theorem y6 (p q : Prop) : gk true false p q = q := by simp [gk]
theorem y7 (p q : Prop) : gk false true p q = q := by simp [gk]
def gv (ops : Array Oper) (s : S) (j : Nat) : V := match q2Y ops j with
 | none => .any
 | some t => s.get t
def gx (x : V) (want : Bool) (p q : Prop) : Prop := match x with
 | .d .bool c => gk c.toBool want p q
 | .tup [] => q
 | _ => False
noncomputable def vc (X : Cx) (md : List (Nat × Nat)) (ops : Array Oper) (Φ : S → Prop) : List Oper → S → Prop
 | [], s => Φ s
 | o :: rest, s => match o.guard with
  | none => sop X md (w9 o) o s fun v s' => vc X md ops Φ rest (s'.set o.dst v)
  | some (j, want) => gx (gv ops s j) want (sop X md (w9 o) o s fun v s' => vc X md ops Φ rest (s'.set o.dst v)) (vc X md ops Φ rest (s.set o.dst (.tup [])))
theorem z4l {Γ : G} : q9 Γ (.tup []) undef := ⟨#[], rfl, by simp [v8]⟩
theorem q3K (s : S) (d : Option Nat) (v : V) (t : Nat) : (s.set d v).get t = if d = some t then v else s.get t := by
 cases d with
 | none => simp [S.set]
 | some d =>
  simp only [S.set, S.get, q7D]
  by_cases h : d = t
  ·simp [h]
  ·have : ¬ (some d = some t) := by intro e; cases e; exact h rfl
   simp [h]
section
variable {X : Cx} {n : Nat} {Γ0 : G}
theorem y3y {Γ : G} {s : S} {a : Act} {d : Option Nat} {x : V} {v : Value} (hs : q2l Γ s a.tmps) (hd : ∀ t, d = some t → t < a.tmps.size) (hx : q9 Γ x v) :
  q2l Γ (s.set d x) (a.put d v).tmps := by
 intro i
 rw [q3K]
 cases d with
 | none => simpa [Act.put] using hs i
 | some t =>
  have := hd t rfl
  by_cases h : t = i
  ·subst h
   simp only [Act.put, if_true]
   simp [this]
   exact hx
  ·have h' : ¬ (some t = some i) := by intro e; cases e; exact h rfl
   rw [if_neg h']
   have := hs i
   simpa [Act.put, Array.getElem?_setIfInBounds_ne h] using this
theorem q7R {Γ : G} {w : World} {s : S} (c : y9 Γ w s) (d : Option Nat) (x : V) : y9 Γ w (s.set d x) := by
 cases d with
 | none => exact c
 | some t => exact c.env _
theorem q8j {Γ : G} {w : World} {s s' : S} {a : Act} (hgl : Γ.gl = X.gl) (c : y9 Γ w s') (hs : ∀ t, q9 Γ (s.get t) (a.tmps.getD t undef)) {y : Operand} (hy : q76 y = true) : q9 Γ (w8 X.gl s y) (a.eval y) := by
 cases y with
 | tmp t => exact hs t
 | func f =>
  show q9 Γ (.fn f []) (.func (.func f) #[] #[])
  exact (u0 rfl).2 ⟨by simp [q8, v8, Value.cells], by simp [V.ty, Ty.isAgg, u7]⟩
 | global g =>
  simp only [w8]
  cases hg : X.gl g with
  | none => simp [q9]
  | some x =>
   obtain ⟨τ, cc⟩ := x
   obtain ⟨l, h1, h2, h3⟩ := c.hgl g τ cc (by rw [hgl]; exact hg)
   exact q02 h1 (by simpa using h2) h3
 | const v =>
  simp only [w8, Act.eval]
  unfold y0r
  simp only [q76] at hy
  split
  ·simp [z6z] at hy; exact r9 hy.1 hy.2
  ·exact s6
  ·simp [z6z] at hy
   rename_i str
   exact q0Z (l := str.data.toList) (by simpa using hy)
  ·exact (u0 rfl).2 ⟨by simp [q8, y4, Value.cells], by simp [V.ty, Ty.isAgg, u7]⟩
  ·exact (u0 rfl).2 ⟨by simp [q8, Value.cells], by simp [V.ty, Ty.isAgg, u7]⟩
  ·exact (u0 rfl).2 ⟨by simp [q8, y4, Value.cells], by simp [V.ty, Ty.isAgg, u7]⟩
  ·exact (u0 rfl).2 ⟨by simp [q8, y4, Value.cells], by simp [V.ty, Ty.isAgg, u7]⟩
  ·exact (u0 rfl).2 ⟨by simp [q8, y4, Value.cells], by simp [V.ty, Ty.isAgg, u7]⟩
  ·simp [q9]
theorem q7U {s : S} {a : Act} {w : World} {d : Option Nat} {x : V} (hd : match d with | some d => decide (d < n) = true | none => True) {Γ : G} (h1 : GLe Γ0 Γ) (h3 : Γ.gl = X.gl) (c : y9 Γ w s) (hs : q2l Γ s a.tmps) (hn : a.tmps.size = n) (hf : a.defers = [] ∧ AOk s.A) {v : Value} (hx : q9 Γ x v) :
  At X n Γ0 (s.set d x) (a.put d v) w := by
 refine ⟨Γ, h1, h3, q7R c d x, y3y hs (fun t ht => ?_) hx, ?_, ?_, ?_⟩
 ·subst ht; simp at hd; omega
 ·cases d <;> simp [Act.put, hn]
 ·cases d <;> simp [Act.put, hf.1]
 ·cases d <;> exact hf.2
theorem q12 {Γ : G} {s s' : S} {t : Array Value} (h : s'.env = s.env) (hs : q2l Γ s t) : q2l Γ s' t := fun i => by
 have := hs i
 simp only [S.get] at this ⊢
 rw [h]; exact this
theorem y3x (hP : u3 X.P = true) {md : List (Nat × Nat)} {o : Oper} {s : S} {K : V → S → Prop} (hok : q6K n o = true) (h : sop X md (w9 o) o s K) {a : Act} {w : World} (hat : At X n Γ0 s a w) :
  s9 X.P o a w fun u w' => ∃ v s', K v s' ∧ At X n Γ0 (s'.set o.dst v) (a.put o.dst u) w' := by
 obtain ⟨Γ, g1, g3, c, hs, hn, hf⟩ := hat
 simp only [q6K, Bool.and_eq_true, Array.all_eq_true'] at hok
 have hd : match o.dst with | some d => decide (d < n) = true | none => True := by
  cases ho : o.dst with
  | none => trivial
  | some d => have := hok.2; rw [ho] at this; exact this
 have hops : ∀ y ∈ o.op.operands, q9 Γ (w8 X.gl s y) (a.eval y) := fun y hy => q8j g3 c hs (hok.1 y hy)
 rcases h with ⟨_, h⟩ | ⟨_, h⟩ | h | h | h
 ·obtain ⟨Γ1, gl1, p1, c1, hcv⟩ := q9O (q09 (o.op.operands.toList.map (w8 X.gl s))) s c
  have hops1 : ∀ y ∈ o.op.operands, q9 Γ1 (W9 s (w8 X.gl s y)) (a.eval y) := fun y hy =>
   hcv _ _ (hops y hy) fun j hj => z4D (List.mem_map_of_mem (by simpa using hy)) hj
  have henv := q6g (q09 (o.op.operands.toList.map (w8 X.gl s))) s
  have hs1 : q2l Γ1 (F5 (q09 (o.op.operands.toList.map (w8 X.gl s))) s) a.tmps := q12 henv.1 (hs.b5 p1)
  have g31 : Γ1.gl = X.gl := gl1.gl.trans g3
  rcases h with h | h
  ·obtain ⟨v, lo, tn, ⟨hf1, hf2, hK⟩, hI⟩ := q8i hP h
   refine (hI Γ1 w a _ g31 c1 ⟨fun _ _ h _ => h, fun _ _ h => h⟩ (z3L hf1 hf2) hops1).mono ?_
   rintro u w' ⟨Γ', gle, hp, c', hv⟩
   exact ⟨_, _, hK, q7U hd ((g1.trans gl1).trans gle) (gle.gl.trans g31) c' (q12 (s := F5 (q09 (o.op.operands.toList.map (w8 X.gl s))) s) rfl (hs1.b5 hp)) hn ⟨hf.1, by show AOk (F5 _ s).A; rw [henv.2]; exact hf.2⟩ hv⟩
  ·obtain ⟨v, s1, hK, hsA, he, hT⟩ := z0R hP h
   refine (hT Γ1 w a g31 c1 hops1).mono ?_
   rintro u w' ⟨Γ', gle, hp, c', hv⟩
   exact ⟨_, _, hK, q7U hd ((g1.trans gl1).trans gle) (gle.gl.trans g31) c' (q12 he (hs1.b5 hp)) hn ⟨hf.1, by rw [hsA, henv.2]; exact hf.2⟩ hv⟩
 ·obtain ⟨v, lo, tn, ⟨hf1, hf2, hK⟩, hI⟩ := q8i hP h
  refine (hI Γ w a s g3 c ⟨fun _ _ h _ => h, fun _ _ h => h⟩ (z3L hf1 hf2) hops).mono ?_
  rintro u w' ⟨Γ', gle, hp, c', hv⟩
  exact ⟨_, _, hK, q7U hd (g1.trans gle) (gle.gl.trans g3) c' (q12 rfl (hs.b5 hp)) hn hf hv⟩
 ·obtain ⟨v, s1, hK, hsA, he, hT⟩ := z0R hP h
  refine (hT Γ w a g3 c hops).mono ?_
  rintro u w' ⟨Γ', gle, hp, c', hv⟩
  exact ⟨_, _, hK, q7U hd (g1.trans gle) (gle.gl.trans g3) c' (q12 he (hs.b5 hp)) hn ⟨hf.1, by rw [hsA]; exact hf.2⟩ hv⟩
 ·obtain ⟨v, hK, hI⟩ := z7p hP h
  refine (hI Γ w a s c hops).mono ?_
  rintro u w' ⟨Γ', gle, hp, c', hv⟩
  exact ⟨_, _, hK, q7U hd (g1.trans gle) (gle.gl.trans g3) c' (q12 rfl (hs.b5 hp)) hn hf hv⟩
 ·obtain ⟨v, s1, hK, hsA, he, hT⟩ := y3A hP h
  refine (hT Γ w a c hops).mono ?_
  rintro u w' ⟨Γ', gle, hp, c', hv⟩
  exact ⟨_, _, hK, q7U hd (g1.trans gle) (gle.gl.trans g3) c' (q12 he (hs.b5 hp)) hn ⟨hf.1, by rw [hsA]; exact hf.2⟩ hv⟩
end
def DC (X : Cx) (n : Nat) (c : Code) (s : S) (Ψ : Exit → S → Prop) : Prop :=
 ∀ (Γ0 : G) (a : Act) (w : World), At X n Γ0 s a w → c.wp X.P (fun e a w => ∃ s', Ψ e s' ∧ At X n Γ0 s' a w) a w
def F0 (X : Cx) (n : Nat) (s s' : S) : Prop := ∀ (Γ0 : G) (a : Act) (w : World), At X n Γ0 s a w → At X n Γ0 s' a w
section
variable {X : Cx} {n : Nat} {s : S} {Ψ : Exit → S → Prop}
theorem y1b {Γ : G} {ops : Array Oper} {a : Act} {o : Oper} {j t : Nat} {want b : Bool} (hg : o.guard = some (j, want)) (ht : q2Y ops j = some t)
  (hs : q9 Γ (.d .bool (.bool b)) (a.tmps.getD t undef)) : Region.wanted o (yielded ops a.tmps) = (b == want) := by
 have e2 : a.tmps.getD t undef = .bool b := (X8 hs).1
 have hsome : a.tmps[t]? = some (.bool b) := by
  rw [Array.getD_eq_getD_getElem?] at e2
  cases h : a.tmps[t]? with
  | none => rw [h] at e2; simp [undef] at e2
  | some v => rw [h] at e2; simp at e2; rw [e2]
 simp only [q2Y] at ht
 simp [Region.wanted, hg, yielded, ht, hsome]
theorem z4R {Γ : G} {ops : Array Oper} {a : Act} {o : Oper} {j t : Nat} {want : Bool} {c : C} (hg : o.guard = some (j, want)) (ht : q2Y ops j = some t)
  (hs : q9 Γ (.d .bool c) (a.tmps.getD t undef)) : Region.wanted o (yielded ops a.tmps) = (c.toBool == want) := by
 obtain ⟨_, e⟩ := X8 hs
 rw [e] at hs
 exact y1b hg ht hs
theorem z3e {Γ : G} {ops : Array Oper} {a : Act} {o : Oper} {j t : Nat} {want : Bool} (hg : o.guard = some (j, want)) (ht : q2Y ops j = some t)
  (hs : q9 Γ (.tup []) (a.tmps.getD t undef)) : Region.wanted o (yielded ops a.tmps) = false := by
 obtain ⟨vs, e, _⟩ := hs
 have hnb : ∀ b, a.tmps[t]? ≠ some (.bool b) := by
  intro b h
  rw [Array.getD_eq_getD_getElem?, h] at e
  simp at e
 simp only [q2Y] at ht
 simp only [Region.wanted, hg, yielded, ht, Option.bind_some]
 rfl
theorem z3l (hP : u3 X.P = true) {Γ0 : G} {md : List (Nat × Nat)} {ops : Array Oper} {Φ : S → Prop} {Q : Exit → Act → World → Prop} (hQ : ∀ s a w, Φ s → At X n Γ0 s a w → Q .normal a w) :
  ∀ (rest : List Oper) (s : S) (a : Act) (w : World), (∀ o ∈ rest, q6K n o = true) → vc X md ops Φ rest s → At X n Γ0 s a w → wpList X.P ops Q rest a w
 | [], s, a, w, _, h, hat => hQ s a w h hat
 | o :: rest, s, a, w, hok, h, hat => by
  have run : (sop X md (w9 o) o s fun v s' => vc X md ops Φ rest (s'.set o.dst v)) → o.wp X.P a w (wpList X.P ops Q rest) Q := by
   intro h
   refine y3x hP (hok o (by simp)) h hat _ _ ?_
   rintro u w' ⟨v, s', hv, hat'⟩
   exact z3l hP hQ rest _ _ _ (fun o ho => hok o (by simp [ho])) hv hat'
  have skip : vc X md ops Φ rest (s.set o.dst (.tup [])) → wpList X.P ops Q rest (a.put o.dst undef) w := by
   intro h
   obtain ⟨Γ, g1, g3, c, hs, hn, hf⟩ := hat
   have hd : match o.dst with | some d => decide (d < n) = true | none => True := by
    have := hok o (by simp)
    simp only [q6K, Bool.and_eq_true] at this
    cases ho : o.dst with
    | none => trivial
    | some d => have := this.2; rw [ho] at this; exact this
   exact z3l hP hQ rest _ _ _ (fun o ho => hok o (by simp [ho])) h (q7U hd g1 g3 c hs hn hf z4l)
  simp only [vc] at h
  simp only [wpList]
  split at h
  ·rename_i hg
   have : Region.wanted o (yielded ops a.tmps) = true := by simp [Region.wanted, hg]
   rw [if_pos this]
   exact .inl (run h)
  ·rename_i j want hg
   cases ht : q2Y ops j with
   | none => simp [gv, ht, gx] at h
   | some t =>
    simp only [gv, ht] at h
    unfold gx at h
    obtain ⟨Γ, g1, g3, c, hs, hn, hf⟩ := id hat
    have hst := hs t
    split at h
    ·rename_i cb hb
     rw [hb] at hst
     rw [z4R hg ht hst]
     by_cases hbw : cb.toBool = want
     ·rw [if_pos (by simp [hbw])]
      exact .inl (run (h.1 hbw))
     ·rw [if_neg (by simp [hbw])]
      exact skip (h.2 hbw)
    ·rename_i hb
     rw [hb] at hst
     rw [if_neg (by rw [z3e hg ht hst]; simp)]
     exact skip h
    ·exact h.elim
theorem DC.mono {c : Code} {Ψ' : Exit → S → Prop} (h : DC X n c s Ψ) (hq : ∀ e s, Ψ e s → Ψ' e s) : DC X n c s Ψ' :=
 fun Γ0 a w hat => wp_mono (h Γ0 a w hat) fun e a w ⟨s', h1, h2⟩ => ⟨s', hq _ _ h1, h2⟩
theorem DC.q9r {c : Code} {s' : S} (hw : F0 X n s s') (h : DC X n c s' Ψ) : DC X n c s Ψ :=
 fun Γ0 a w hat => h Γ0 a w (hw Γ0 a w hat)
theorem F0.refl (s : S) : F0 X n s s := fun _ _ _ h => h
theorem F0.trans {s s' s'' : S} (h : F0 X n s s') (h' : F0 X n s' s'') : F0 X n s s'' := fun Γ0 a w hat => h' Γ0 a w (h Γ0 a w hat)
theorem z6 (hP : u3 X.P = true) (md : List (Nat × Nat)) {id : Nat} {l : List Oper} (hok : l.all (q6K n) = true) (h : vc X md l.toArray (fun s' => Ψ .normal s') l s) : DC X n (.region id l.toArray false) s Ψ := by
 intro Γ0 a w hat
 refine wp_region_lit (z3l hP (fun s' a w hΨ hat => ⟨s', hΨ, hat⟩) l s a w (fun o ho => List.all_eq_true.1 hok o ho) h hat)
theorem z8 {c c' : Code} (h : DC X n c s fun e s' => match e with | .normal => DC X n c' s' Ψ | e => Ψ e s') : DC X n (c.seq c') s Ψ := by
 intro Γ0 a w hat
 refine wp_seq (wp_mono (h Γ0 a w hat) ?_)
 rintro e a w ⟨s', h1, h2⟩
 cases e with
 | normal => exact h1 Γ0 a w h2
 | exit _ | goto _ | ret | panic _ | outgrown => exact ⟨s', h1, h2⟩
theorem Y4 (h : Ψ .normal s) : DC X n .skip s Ψ := fun _ _ _ hat => wp_skip ⟨s, h, hat⟩
theorem z3U {l : Nat} (h : Ψ .normal s) : DC X n (.label l) s Ψ := fun _ _ _ hat => wp_label ⟨s, h, hat⟩
theorem J8 (h : Ψ .ret s) : DC X n .ret s Ψ := fun _ _ _ hat => wp_ret ⟨s, h, hat⟩
theorem q2O {id : Nat} (h : Ψ (.exit id) s) : DC X n (.exit id) s Ψ := fun _ _ _ hat => wp_exit ⟨s, h, hat⟩
theorem y1W {id : Nat} (h : Ψ (.goto id) s) : DC X n (.goto id) s Ψ := fun _ _ _ hat => wp_goto ⟨s, h, hat⟩
theorem Y1 {id : Nat} {c : Code} (h : DC X n c s fun e s' => match e with | .exit id' => if id' = id then Ψ .normal s' else Ψ (.exit id') s' | e => Ψ e s') : DC X n (.block id c) s Ψ := by
 intro Γ0 a w hat
 refine wp_block (wp_mono (h Γ0 a w hat) ?_)
 rintro e a w ⟨s', h1, h2⟩
 cases e with
 | exit id' =>
  simp only [Exit.inBlock] at h1 ⊢
  split
  ·rename_i hid; rw [if_pos hid] at h1; exact ⟨s', h1, h2⟩
  ·rename_i hid; rw [if_neg hid] at h1; exact ⟨s', h1, h2⟩
 | normal | goto _ | ret | panic _ | outgrown => exact ⟨s', h1, h2⟩
theorem y7T {Γ0 : G} {a : Act} {w : World} {t : Nat} {b : Bool} (hat : At X n Γ0 s a w) (h : s.get t = .d .bool (.bool b)) : a.eval (.tmp t) = .bool b := by
 obtain ⟨Γ, g1, g3, c, hs, hn, hf⟩ := hat
 have := hs t
 rw [h] at this
 exact (X8 this).1
theorem r7 {t : Nat} {c c' : Code} (b : Bool) (hb : s.get t = .d .bool (.bool b)) (h1 : b = true → DC X n c s Ψ) (h2 : b = false → DC X n c' s Ψ) : DC X n (.cond (.tmp t) c c') s Ψ := by
 intro Γ0 a w hat
 refine wp_cond (t := b) (y7T hat hb) ?_
 cases b with
 | true => exact h1 rfl Γ0 a w hat
 | false => exact h2 rfl Γ0 a w hat
theorem q95 {t : Nat} {c c' : Code} {v : C} (hv : s.get t = .d .bool v) (h1 : v.toBool = true → DC X n c s Ψ) (h2 : v.toBool = false → DC X n c' s Ψ) : DC X n (.cond (.tmp t) c c') s Ψ := by
 intro Γ0 a w hat
 have he : a.eval (.tmp t) = .bool v.toBool := by
  obtain ⟨Γ, g1, g3, c, hs, hn, hf⟩ := hat
  have := hs t
  rw [hv] at this
  exact (X8 this).1
 refine wp_cond (t := v.toBool) he ?_
 cases hb : v.toBool with
 | true => exact h1 hb Γ0 a w hat
 | false => exact h2 hb Γ0 a w hat
theorem y1V {c : Code} {ι : Type} (I : ι → S) (μ : ι → Nat) (i0 : ι) (h0 : F0 X n s (I i0))
  (round : ∀ i, DC X n c (I i) fun e s' => match e with | .normal => ∃ j, F0 X n s' (I j) ∧ μ j < μ i | e => Ψ e s') : DC X n (.loop c) s Ψ := by
 intro Γ0 a w hat
 have key : ∀ a w, (∃ i, At X n Γ0 (I i) a w) → ∃ m, ∃ i, At X n Γ0 (I i) a w ∧ μ i = m ∧ ∀ j, At X n Γ0 (I j) a w → m ≤ μ j := by
  intro a w ⟨i, hi⟩
  have : ∀ m i, μ i = m → At X n Γ0 (I i) a w → ∃ m, ∃ i, At X n Γ0 (I i) a w ∧ μ i = m ∧ ∀ j, At X n Γ0 (I j) a w → m ≤ μ j := by
   intro m
   induction m using Nat.strongRecOn with
   | _ m ih =>
    intro i hm hi
    by_cases h : ∃ j, At X n Γ0 (I j) a w ∧ μ j < m
    ·obtain ⟨j, hj, hlt⟩ := h
     exact ih _ hlt j rfl hj
    ·exact ⟨m, i, hi, hm, fun j hj => Nat.le_of_not_lt fun hlt => h ⟨j, hj, hlt⟩⟩
  exact this _ i rfl hi
 open Classical in
 refine wp_loop (fun a w => ∃ i, At X n Γ0 (I i) a w) (fun a w => if h : ∃ i, At X n Γ0 (I i) a w then Classical.choose (key a w h) else 0) ⟨i0, h0 Γ0 a w hat⟩ ?_
 intro a w hI
 obtain ⟨i, hi, hm, hmin⟩ := Classical.choose_spec (key a w hI)
 refine wp_mono (round i Γ0 a w hi) ?_
 rintro e a' w' ⟨s', h1, h2⟩
 cases e with
 | normal =>
  obtain ⟨j, hj, hlt⟩ := h1
  have hat' := hj Γ0 a' w' h2
  have hI' : ∃ i, At X n Γ0 (I i) a' w' := ⟨j, hat'⟩
  refine ⟨hI', ?_⟩
  obtain ⟨i', hi', hm', hmin'⟩ := Classical.choose_spec (key a' w' hI')
  have := hmin' j hat'
  rw [dif_pos hI', dif_pos hI]
  omega
 | exit _ | goto _ | ret | panic _ | outgrown => exact ⟨s', h1, h2⟩
end
end Go.E
namespace Go.E
open Go
mutual
def V.o6 (x : V) : V → Prop
 | .d τ c => (match x with
  | .nilc => (∃ eb e, τ = .slice eb e) ∧ c = .slice []
  | x => b9 x = some c ∧ x.ty = τ)
 | .emp eb e => x = .emp eb e ∨ x = .nilc
 | .agg τ ws => (match x with
  | .agg τ' vs => τ' = τ ∧ V.q1L vs ws
  | x => x = .agg τ ws)
 | .any => True
 | y => x = y
def V.q1L : List V → List V → Prop
 | [], [] => True
 | x :: xs, y :: ys => V.o6 x y ∧ y.ty = x.ty ∧ V.q1L xs ys
 | _, _ => False
end
def O.o6 : O → O → Prop
 | .box x, .box y => V.o6 x y ∧ y.ty = x.ty ∧ y.plain = true ∧ y.r8 = true
 | .map kτ vτ es, .map kτ' vτ' es' => kτ = kτ' ∧ vτ = vτ' ∧ es = es'
 | .it l p, .it l' p' => l = l' ∧ p = p'
 | o, .dead τ => τ = o.ty
 | _, _ => False
def H2 (tk : List (Nat × Option Nat)) (t : Nat) : Bool := (look tk t).isSome
def Z6 (L : List (Key × O)) (n : Nat) : Bool := (z7 L (.l n)).isSome
section
variable {Γ : G}
theorem V.z1B : ∀ {xs ys : List V}, V.q1L xs ys → xs.length = ys.length
 | [], [], _ => rfl
 | x :: xs, y :: ys, h => by simp only [V.q1L] at h; simp [V.z1B h.2.2]
 | [], _ :: _, h => by simp [V.q1L] at h
 | _ :: _, [], h => by simp [V.q1L] at h
mutual
theorem q8.o6 {hm : Option Key} : ∀ (y x : V) {p : List Nat} {vs : List Value}, V.o6 x y → q8 Γ hm p x vs → q8 Γ hm p y vs ∧ (y ≠ .any → y.ty.isAgg = x.ty.isAgg ∧ (x ≠ .nilc → y.ty = x.ty))
 | .d τ c, x, p, vs, h, hr => by
  cases x
  case nilc =>
   simp only [V.o6] at h
   obtain ⟨⟨eb, e, rfl⟩, rfl⟩ := h
   simp only [q8] at hr ⊢
   subst hr
   exact ⟨r6 rfl (Nat.le_refl _) (Nat.zero_le _) (by rw [Nat.zero_mul]; exact Nat.zero_le _) (.inl rfl), fun _ => ⟨rfl, fun h => absurd rfl h⟩⟩
  all_goals
   simp only [V.o6] at h
   obtain ⟨h1, h2⟩ := h
   have := q2j _ hr h1
   rw [h2] at this
   exact ⟨by simpa only [q8] using this, fun _ => ⟨by simp only [V.ty] at h2 ⊢; rw [h2], fun _ => by simp only [V.ty] at h2 ⊢; rw [h2]⟩⟩
 | .emp eb e, x, p, vs, h, hr => by
  simp only [V.o6] at h
  rcases h with rfl | rfl
  ·exact ⟨hr, fun _ => ⟨rfl, fun _ => rfl⟩⟩
  ·simp only [q8] at hr ⊢
   subst hr
   exact ⟨⟨none, rfl⟩, fun _ => ⟨rfl, fun h => absurd rfl h⟩⟩
 | .agg τ ws, x, p, vs, h, hr => by
  cases x
  case agg τ' us =>
   simp only [V.o6] at h
   obtain ⟨rfl, h⟩ := h
   simp only [q8] at hr ⊢
   obtain ⟨r1, r2, r3, r4, r5⟩ := hr
   exact ⟨⟨r1, r2, by rw [← V.z1B h]; exact r3, r4, x9.o6 ws us h r5⟩, fun _ => ⟨rfl, fun _ => rfl⟩⟩
  all_goals (simp only [V.o6] at h; cases h)
 | .any, x, p, vs, _, _ => ⟨by simp only [q8], fun h => absurd rfl h⟩
 | .sl eb e cs t, x, p, vs, h, hr => by simp only [V.o6] at h; subst h; exact ⟨hr, fun _ => ⟨rfl, fun _ => rfl⟩⟩
 | .ts eb e cs, x, p, vs, h, hr => by simp only [V.o6] at h; subst h; exact ⟨hr, fun _ => ⟨rfl, fun _ => rfl⟩⟩
 | .nilc, x, p, vs, h, hr => by simp only [V.o6] at h; subst h; exact ⟨hr, fun _ => ⟨rfl, fun _ => rfl⟩⟩
 | .ptr k q τ, x, p, vs, h, hr => by simp only [V.o6] at h; subst h; exact ⟨hr, fun _ => ⟨rfl, fun _ => rfl⟩⟩
 | .cptr τ c, x, p, vs, h, hr => by simp only [V.o6] at h; subst h; exact ⟨hr, fun _ => ⟨rfl, fun _ => rfl⟩⟩
 | .sr k q lo n cp eb e, x, p, vs, h, hr => by simp only [V.o6] at h; subst h; exact ⟨hr, fun _ => ⟨rfl, fun _ => rfl⟩⟩
 | .mp k, x, p, vs, h, hr => by simp only [V.o6] at h; subst h; exact ⟨hr, fun _ => ⟨rfl, fun _ => rfl⟩⟩
 | .fn f caps, x, p, vs, h, hr => by simp only [V.o6] at h; subst h; exact ⟨hr, fun _ => ⟨rfl, fun _ => rfl⟩⟩
 | .tup us, x, p, vs, h, hr => by simp only [V.o6] at h; subst h; exact ⟨hr, fun _ => ⟨rfl, fun _ => rfl⟩⟩
 | .top τ, x, p, vs, h, hr => by simp only [V.o6] at h; subst h; exact ⟨hr, fun _ => ⟨rfl, fun _ => rfl⟩⟩
theorem x9.o6 {hm : Option Key} : ∀ (ys xs : List V) {p : List Nat} {i : Nat} {τ : Ty} {vs : List Value}, V.q1L xs ys → x9 Γ hm p i τ xs vs → x9 Γ hm p i τ ys vs
 | [], [], _, _, _, _, _, h => h
 | y :: ys, x :: xs, p, i, τ, vs, h, hr => by
  simp only [V.q1L] at h
  simp only [x9] at hr ⊢
  obtain ⟨⟨o, f, h1, h2, h3, h4⟩, h5⟩ := hr
  obtain ⟨k1, k2⟩ := q8.o6 y x h.1 h4
  exact ⟨⟨o, f, h1, h.2.1.trans h2, h3, k1⟩, x9.o6 ys xs h.2.2 h5⟩
 | [], _ :: _, _, _, _, _, h, _ => by simp [V.q1L] at h
 | _ :: _, [], _, _, _, _, h, _ => by simp [V.q1L] at h
end
mutual
theorem V.q87 {f g f' g' : Nat → Bool} (hf : ∀ n, f n = true → f' n = true) (hg : ∀ n, g n = true → g' n = true) : ∀ x : V, x.ok f g = true → x.ok f' g' = true
 | .ptr (.l k) _ _, h | .mp (.l k), h | .sr (.l k) _ _ _ _ _ _, h => by simp only [V.ok] at h ⊢; exact hf _ h
 | .sl _ _ _ t, h => by simp only [V.ok] at h ⊢; exact hg _ h
 | .agg _ vs, h | .fn _ vs, h | .tup vs, h => by simp only [V.ok] at h ⊢; exact V.z9c hf hg vs h
 | .ptr (.g _) _ _, _ | .mp (.g _), _ | .sr (.g _) _ _ _ _ _ _, _ | .d _ _, _ | .ts _ _ _, _ | .emp _ _, _ | .nilc, _ | .cptr _ _, _ | .top _, _ | .any, _ => by simp [V.ok]
theorem V.z9c {f g f' g' : Nat → Bool} (hf : ∀ n, f n = true → f' n = true) (hg : ∀ n, g n = true → g' n = true) : ∀ xs : List V, V.oks f g xs = true → V.oks f' g' xs = true
 | [], _ => rfl
 | x :: xs, h => by simp only [V.oks, Bool.and_eq_true] at h ⊢; exact ⟨V.q87 hf hg x h.1, V.z9c hf hg xs h.2⟩
end
theorem V.z6Y {f g f' g' : Nat → Bool} (hf : ∀ n, f n = true → f' n = true) (hg : ∀ n, g n = true → g' n = true) : ∀ xs : List (C × V), V.q0S f g xs = true → V.q0S f' g' xs = true
 | [], _ => rfl
 | x :: xs, h => by simp only [V.q0S, Bool.and_eq_true] at h ⊢; exact ⟨V.q87 hf hg x.2 h.1, V.z6Y hf hg xs h.2⟩
theorem O.q87 {f g f' g' : Nat → Bool} (hf : ∀ n, f n = true → f' n = true) (hg : ∀ n, g n = true → g' n = true) (o : O) (h : o.ok f g = true) : o.ok f' g' = true := by
 cases o with
 | box x => exact V.q87 hf hg x h
 | map => exact V.z6Y hf hg _ h
 | it => rfl
 | dead => rfl
structure Sub (Γ Γ' : G) (f g : Nat → Bool) : Prop where
 oo : Γ'.oo = Γ.oo
 σ : Γ'.σ = Γ.σ
 H : Γ'.H = Γ.H
 Z : Γ'.Z = Γ.Z
 gl : Γ'.gl = Γ.gl
 ιg : ∀ k, Γ'.ι (.g k) = Γ.ι (.g k)
 ιl : ∀ n, f n = true → Γ'.ι (.l n) = Γ.ι (.l n)
 τ : ∀ t, g t = true → Γ'.τ t = Γ.τ t
 κ : ∀ b k p sz, Γ.κ b = some (.home k p, sz) → Γ'.κ b = Γ.κ b
variable {Γ' : G} {f g : Nat → Bool}
mutual
theorem q8.sub (hs : Sub Γ Γ' f g) {hm : Option Key} : ∀ (x : V) {p : List Nat} {vs : List Value}, x.ok f g = true → q8 Γ hm p x vs → q8 Γ' hm p x vs
 | .d _ _, _, _, _, h => by simp only [q8] at h ⊢; rw [hs.H]; exact h
 | .sl eb e cs t, _, _, ho, h => by
  simp only [q8] at h ⊢
  obtain ⟨a, n, cap, h1, h2, x, L, h3, h4⟩ := h
  exact ⟨a, n, cap, h1, by rw [hs.H]; exact h2, x, L, by rw [hs.τ t (by simpa [V.ok] using ho)]; exact h3, h4⟩
 | .ts eb e cs, _, _, _, h => by
  simp only [q8] at h ⊢
  obtain ⟨a, n, cap, k, h0, h1, h2, h3⟩ := h
  refine ⟨a, n, cap, k, h0, h1, by rw [hs.H]; exact h2, ?_⟩
  rcases h3 with h3 | ⟨b, l, sz, a1, a2, a3, a4, a5⟩
  ·exact .inl h3
  ·exact .inr ⟨b, l, sz, a1, by rw [hs.H]; exact a2, a3, by rw [hs.κ b k _ sz a4]; exact a4, a5⟩
 | .emp _ _, _, _, _, h => by simpa only [q8] using h
 | .nilc, _, _, _, h => by simpa only [q8] using h
 | .ptr (.l k) q τ, _, _, ho, h => by
  simp only [q8] at h ⊢
  rw [hs.ιl k (by simpa [V.ok] using ho)]; exact h
 | .ptr (.g k) q τ, _, _, _, h => by
  simp only [q8] at h ⊢
  rw [hs.ιg]; exact h
 | .cptr τ c, _, _, _, h => by
  simp only [q8] at h ⊢
  rw [hs.H]; exact h
 | .sr (.l k) _ _ _ _ _ _, _, _, ho, h => by
  simp only [q8] at h ⊢
  rw [hs.ιl k (by simpa [V.ok] using ho), hs.σ]; exact h
 | .sr (.g k) _ _ _ _ _ _, _, _, _, h => by
  simp only [q8] at h ⊢
  rw [hs.ιg, hs.σ]; exact h
 | .mp (.l k), _, _, ho, h => by
  simp only [q8] at h ⊢
  rw [hs.ιl k (by simpa [V.ok] using ho)]; exact h
 | .mp (.g k), _, _, _, h => by
  simp only [q8] at h ⊢
  rw [hs.ιg]; exact h
 | .agg τ xs, _, _, ho, h => by
  simp only [q8] at h ⊢
  exact ⟨h.1, h.2.1, h.2.2.1, h.2.2.2.1, x9.sub hs xs (by simpa [V.ok] using ho) h.2.2.2.2⟩
 | .fn _ caps, _, _, ho, h => by
  simp only [q8] at h ⊢
  obtain ⟨cv, h1, h2⟩ := h
  exact ⟨cv, h1, v8.sub hs caps (by simpa [V.ok] using ho) h2⟩
 | .tup _, _, _, _, h => by simp only [q8] at h
 | .top _, _, _, _, h => by simpa only [q8] using h
 | .any, _, _, _, _ => by simp only [q8]
theorem x9.sub (hs : Sub Γ Γ' f g) {hm : Option Key} : ∀ (xs : List V) {p : List Nat} {i : Nat} {τ : Ty} {vs : List Value}, V.oks f g xs = true → x9 Γ hm p i τ xs vs → x9 Γ' hm p i τ xs vs
 | [], _, _, _, _, _, _ => by simp only [x9]
 | x :: xs, _, _, _, _, ho, h => by
  simp only [x9] at h ⊢
  simp only [V.oks, Bool.and_eq_true] at ho
  obtain ⟨⟨o, ff, h1, h2, h3, h4⟩, h5⟩ := h
  exact ⟨⟨o, ff, h1, h2, h3, q8.sub hs x ho.1 h4⟩, x9.sub hs xs ho.2 h5⟩
theorem v8.sub (hs : Sub Γ Γ' f g) : ∀ (xs : List V) {vs : List Value}, V.oks f g xs = true → v8 Γ xs vs → v8 Γ' xs vs
 | [], _, _, h => by simpa only [v8] using h
 | x :: xs, _, ho, h => by
  simp only [v8] at h ⊢
  simp only [V.oks, Bool.and_eq_true] at ho
  obtain ⟨v, vs', h1, h2, h3, h4⟩ := h
  exact ⟨v, vs', h1, q8.sub hs x ho.1 h2, h3, v8.sub hs xs ho.2 h4⟩
end
theorem q9.sub (hs : Sub Γ Γ' f g) {x : V} {v : Value} (ho : x.ok f g = true) (h : q9 Γ x v) : q9 Γ' x v := by
 cases x
 case any => trivial
 case tup us => obtain ⟨vs, h1, h2⟩ := h; exact ⟨vs, h1, v8.sub hs _ (by simpa [V.ok] using ho) h2⟩
 all_goals exact ⟨q8.sub hs _ ho h.1, h.2⟩
theorem z9e {f g : Nat → Bool} : ∀ {es : List (C × V)} {i : Nat} {c : C × V}, V.q0S f g es = true → es[i]? = some c → c.2.ok f g = true
 | [], _, _, _, h => by simp at h
 | x :: xs, 0, c, h, hc => by simp [V.q0S] at h; simp at hc; subst hc; exact h.1
 | x :: xs, i + 1, c, h, hc => by simp [V.q0S] at h; exact z9e h.2 (by simpa using hc)
theorem Own.sub (hs : Sub Γ Γ' f g) {w : World} {k : Key} {o : O} (hk : Γ'.ι k = Γ.ι k) (ho : o.ok f g = true) (h : Own Γ w k o) : Own Γ' w k o := by
 cases o with
 | box x =>
  obtain ⟨b, cells, T, h1, h2, h3, h4, h5, h6, h7⟩ := h
  exact ⟨b, cells, T, by rw [hk]; exact h1, by rw [hs.H]; exact h2, by rw [hs.Z]; exact h3, h4, h5, q8.sub hs x ho h6, h7⟩
 | map kτ vτ es =>
  obtain ⟨b, ms, clock, h1, h2, h3, h4, h5, h6, h7⟩ := h
  refine ⟨b, ms, clock, by rw [hk]; exact h1, by rw [hs.H]; exact h2, by rw [hs.Z]; exact h3, h4, h5, fun i m c hm hc => ?_, h7⟩
  obtain ⟨a1, a2, a3, a4⟩ := h6 i m c hm hc
  exact ⟨by rw [hs.H]; exact a1, a2, q8.sub hs _ (z9e ho hc) a3, a4⟩
 | it l pos =>
  obtain ⟨b, adr, v, h1, h2, h3, h4, h5, h6, h7⟩ := h
  refine ⟨b, adr, v, by rw [hk]; exact h1, by rw [hs.H]; exact h2, by rw [hs.Z]; exact h3, h4, h5, h6, ?_⟩
  rcases h7 with h7 | ⟨g, cap, g1, g2, g3, g4⟩
  ·exact .inl h7
  ·exact .inr ⟨g, cap, g1, by rw [hs.H]; exact g2, by rw [hs.κ g _ _ _ g3]; exact g3, g4⟩
 | dead τ =>
  obtain ⟨b, h1, h4⟩ := h
  exact ⟨b, by rw [hk]; exact h1, h4⟩
theorem Own.o6 {w : World} {k : Key} {o o' : O} (hi : O.o6 o o') (h : Own Γ w k o) : Own Γ w k o' := by
 cases o' with
 | dead τ =>
  have e : τ = o.ty := by cases o <;> exact hi
  obtain ⟨b, τ', h1, _, h4, h5⟩ := h.block
  exact ⟨b, by rw [e, ← h5]; exact h1, h4⟩
 | box y => cases o with
  | box x =>
   obtain ⟨b, cells, T, h1, h2, h3, h4, h5, h6, h7, h8⟩ := h
   obtain ⟨i1, ht, i2, i3⟩ := hi
   obtain ⟨r1, _⟩ := q8.o6 y x i1 h6
   exact ⟨b, cells, T, by rw [ht]; exact h1, h2, h3, h4, by rw [ht]; exact h5, by rw [ht]; exact r1, i2, i3⟩
  | _ => exact hi.elim
 | map kτ vτ es => cases o with
  | map => obtain ⟨rfl, rfl, rfl⟩ := hi; exact h
  | _ => exact hi.elim
 | it l p => cases o with
  | it => obtain ⟨rfl, rfl⟩ := hi; exact h
  | _ => exact hi.elim
theorem O.y4b {o o' : O} (hi : O.o6 o o') (h : o.q8n) : o'.q8n := by
 cases o' with
 | dead => trivial
 | box y => cases o with
  | box x =>
   obtain ⟨e, rfl⟩ := h
   obtain ⟨i1, _, i2, _⟩ := hi
   cases y <;> simp only [V.o6, V.plain, reduceCtorEq, or_self, Bool.false_eq_true] at i1 i2
   obtain ⟨h1, rfl⟩ := i1
   simp only [b9, Option.some.injEq] at h1
   subst h1
   exact ⟨e, rfl⟩
  | _ => exact hi.elim
 | map kτ vτ es => cases o with
  | map => exact h.elim
  | _ => exact hi.elim
 | it l p => cases o with
  | it => exact h.elim
  | _ => exact hi.elim
theorem O.z7l {o o' : O} (hi : O.o6 o o') (h : o.H4 = true) : o'.H4 = true := by
 cases o <;> simp [O.H4] at h
 cases o' <;> first | rfl | exact hi.elim
end
end Go.E
namespace Go.E
open Go
def q3S (s : S) : List (Key × O) → Prop
 | [] => True
 | (k, o) :: l => (match s.obj k with | some o0 => O.o6 o0 o | none => False) ∧ q3S s l
def q0W (τ : Ty) : List (C × V) → Bool
 | [] => true
 | (_, v) :: l => (match v with | .d τ' _ => Ty.beq τ' τ | _ => false) && q0W τ l
theorem y0A {f g : Nat → Bool} {τ : Ty} : ∀ {es : List (C × V)}, q0W τ es = true → V.q0S f g es = true
 | [], _ => rfl
 | (_, v) :: l, h => by
  simp only [q0W, Bool.and_eq_true] at h
  simp only [V.q0S, Bool.and_eq_true]
  refine ⟨?_, y0A h.2⟩
  cases v <;> simp at h
  rfl
def O.okB (f g : Nat → Bool) : O → Bool
 | .map _ vτ es => q0W vτ es
 | o => o.ok f g
theorem O.y8n {f g : Nat → Bool} {o : O} (h : o.okB f g = true) : o.ok f g = true := by
 cases o with
 | map kτ vτ es => exact y0A h
 | _ => exact h
def q1g (f g : Nat → Bool) : List (Key × O) → Bool
 | [] => true
 | (_, o) :: l => o.okB f g && q1g f g l
def q7V (L : List (Key × O)) (A : Key → Option O) : List (Key × O) → Prop
 | [] => True
 | (.g k, o) :: l => ((z7 L (.g k)).isSome = true ∨ A k = some o) ∧ q7V L A l
 | (.l _, _) :: l => q7V L A l
def q6Q (f g : Nat → Bool) (s : S) : List (Nat × V) → Prop
 | [] => True
 | (i, x) :: l => V.o6 (s.get i) x ∧ x.ok f g = true ∧ (x = .any ∨ x.ty.isAgg = (s.get i).ty.isAgg) ∧ q6Q f g s l
def tkW (s : S) : List (Nat × Option Nat) → Prop
 | [] => True
 | (t, x) :: l => (match x with | some L => s.live t = some L | none => s.known t = true) ∧ tkW s l
theorem q8c {s : S} : ∀ {l : List (Key × O)} {k : Key} {o : O}, q3S s l → z7 l k = some o → ∃ o0, s.obj k = some o0 ∧ O.o6 o0 o
 | [], _, _, _, h => by simp [z7] at h
 | (j, p) :: l, k, o, hw, h => by
  simp only [z7] at h
  split at h
  ·rename_i e
   cases h; subst e
   have := hw.1
   split at this
   ·rename_i o0 ho; exact ⟨o0, ho, this⟩
   ·exact this.elim
  ·exact q8c hw.2 h
theorem z4I {f g : Nat → Bool} : ∀ {l : List (Key × O)} {k : Key} {o : O}, q1g f g l = true → z7 l k = some o → o.ok f g = true
 | [], _, _, _, h => by simp [z7] at h
 | (j, p) :: l, k, o, hw, h => by
  simp only [z7] at h
  simp only [q1g, Bool.and_eq_true] at hw
  split at h
  ·cases h; exact O.y8n hw.1
  ·exact z4I hw.2 h
theorem z18 {L : List (Key × O)} {A : Key → Option O} : ∀ {l : List (Key × O)} {k : Key} {o : O}, q7V L A l → z7 l (.g k) = some o → (z7 L (.g k)).isSome = true ∨ A k = some o
 | [], _, _, _, h => by simp [z7] at h
 | (.l j, p) :: l, k, o, hw, h => by simp [z7] at h; exact z18 (l := l) hw h
 | (.g j, p) :: l, k, o, hw, h => by
  simp only [z7] at h
  split at h
  ·rename_i e; cases e; cases h; exact hw.1
  ·exact z18 hw.2 h
theorem z1L {f g : Nat → Bool} {s : S} : ∀ {l : List (Nat × V)} {i : Nat} {x : V}, q6Q f g s l → look l i = some x → V.o6 (s.get i) x ∧ x.ok f g = true ∧ (x = .any ∨ x.ty.isAgg = (s.get i).ty.isAgg)
 | [], _, _, _, h => by simp [look] at h
 | (j, y) :: l, i, x, hw, h => by
  simp only [look] at h
  split at h
  ·rename_i e; cases h; subst e; exact ⟨hw.1, hw.2.1, hw.2.2.1⟩
  ·exact z1L hw.2.2.2 h
theorem z3m {s : S} : ∀ {l : List (Nat × Option Nat)} {t : Nat} {x : Option Nat}, tkW s l → look l t = some x → match x with | some L => s.live t = some L | none => s.known t = true
 | [], _, _, _, h => by simp [look] at h
 | (j, y) :: l, t, x, hw, h => by
  simp only [look] at h
  split at h
  ·rename_i e; cases h; subst e; exact hw.1
  ·exact z3m hw.2 h
section
variable {Γ : G} {w : World} {s : S}
theorem z2k {s' : S} (hA : s'.A = s.A) (hg : q7V s'.loc s.A s.loc) {k : Key} (h : z7 s'.loc (.g k) = none) : s'.obj (.g k) = s.obj (.g k) := by
 unfold S.obj Z3
 rw [h]
 simp only
 cases ho : z7 s.loc (.g k) with
 | none => rw [hA]
 | some o =>
  rcases z18 hg ho with h1 | h1
  ·rw [h] at h1; cases h1
  ·rw [hA]; exact h1
theorem y9.sub (c : y9 Γ w s) {Γ' : G} {f g : Nat → Bool} {s' : S} (hs : Sub Γ Γ' f g) (hf : f = Z6 s'.loc) (hι : ∀ n, f n = false → Γ'.ι (.l n) = none) (hA : s'.A = s.A) (hAok : AOk s.A)
  (hloc : q3S s s'.loc) (hlok : q1g f g s'.loc = true) (hg : q7V s'.loc s.A s.loc)
  (hκ : ∀ b o sz, Γ'.κ b = some (o, sz) → ∃ o', Γ.κ b = some (o', sz) ∧ ∀ T, z3Y o' T → z3Y o T)
  (tok : ∀ t L, s'.live t = some L → ∃ x, Γ'.τ t = some (x, L) ∧ ∀ b pos sz, x = some (b, pos, sz) → (∃ l, Γ.H b = some l ∧ l.length = pos) ∧ Γ'.κ b = some (.tok t, sz))
  (tdom : ∀ t, Γ'.τ t ≠ none → s'.known t = true) : y9 Γ' w s' := by
 subst hf
 have hfl : ∀ n, Z6 s'.loc n = true ↔ z7 s'.loc (.l n) ≠ none := by
  intro n; unfold Z6; cases z7 s'.loc (.l n) <;> simp
 have keyok : ∀ k o, s'.obj k = some o → Γ'.ι k = Γ.ι k := by
  intro k o h
  cases k with
  | g k => exact hs.ιg k
  | l n =>
   refine hs.ιl n ?_
   rw [hfl]
   unfold S.obj Z3 at h
   intro e
   rw [e] at h; cases h
 refine ⟨fun b l h => c.hH b l (by rw [← hs.H]; exact h), fun b o h => c.hZ b o (by rw [← hs.Z]; exact h), fun b o sz h => ?_, fun k o h => ?_, fun k h => ?_, fun k k' b τ τ' h1 h2 => ?_, fun t L h => ?_, tdom, fun gg τ cc h => ?_, by rw [hs.oo]; exact c.hoo, fun b sz h => c.hσ b sz (by rw [← hs.σ]; exact h)⟩
 ·obtain ⟨o', h', hT⟩ := hκ b o sz h
  obtain ⟨a1, a2, arr, T, a3, a4, a5⟩ := c.hκ b o' sz h'
  exact ⟨by rw [hs.Z]; exact a1, by rw [hs.H]; exact a2, arr, T, a3, a4, hT T a5⟩
 ·have hk := keyok k o h
  cases hl : z7 s'.loc k with
  | some o1 =>
   have : o1 = o := by unfold S.obj Z3 at h; rw [hl] at h; cases h; rfl
   subst this
   obtain ⟨o0, ho, hi⟩ := q8c hloc hl
   exact (c.obj k o0 ho).imp (fun h => ⟨hk.trans h.1, O.y4b hi h.2⟩) fun hown => (hown.o6 hi).sub hs hk (z4I hlok hl)
  | none =>
   cases k with
   | l n => unfold S.obj Z3 at h; rw [hl] at h; cases h
   | g k =>
    have h' : s.obj (.g k) = some o := by rw [← z2k hA hg hl]; exact h
    have hAk : s.A k = some o := by
     have h2 : s'.A k = some o := by unfold S.obj Z3 at h; rw [hl] at h; exact h
     rw [← hA]; exact h2
    exact (c.obj _ o h').imp (fun h => ⟨hk.trans h.1, h.2⟩) fun hown => hown.sub hs hk (O.q87 (by simp [j8]) (by simp [j8]) o (hAok k o hAk))
 ·cases k with
  | l n =>
   cases hh : Z6 s'.loc n with
   | false => exact absurd (hι n hh) h
   | true =>
    have := (hfl n).1 hh
    unfold S.obj Z3
    cases hl : z7 s'.loc (.l n) with
    | none => exact absurd hl this
    | some o => simp
  | g k =>
   rw [hs.ιg] at h
   have := c.dom _ h
   cases hl : z7 s'.loc (.g k) with
   | some o => unfold S.obj Z3; rw [hl]; simp
   | none => rw [z2k hA hg hl]; exact this
 ·have back : ∀ k x, Γ'.ι k = some x → Γ.ι k = some x := by
   intro k x h
   cases k with
   | g k => rw [← hs.ιg]; exact h
   | l n =>
    cases hh : Z6 s'.loc n with
    | false => rw [hι n hh] at h; cases h
    | true => rw [← hs.ιl n hh]; exact h
  have hdead : ∀ k x, Γ'.ι k = some x → s.c6 k = true → s'.c6 k = true := by
   intro k x hx h
   cases hl : z7 s'.loc k with
   | some o1 =>
    obtain ⟨o0, ho, hi⟩ := q8c hloc hl
    rw [Y5 ho] at h
    have e : s'.obj k = some o1 := by unfold S.obj Z3; rw [hl]
    rw [Y5 e]
    exact O.z7l hi h
   | none =>
    cases k with
    | g k => unfold S.c6 at h ⊢; rw [z2k hA hg hl]; exact h
    | l n =>
     cases hh : Z6 s'.loc n with
     | false => rw [hι n hh] at hx; cases hx
     | true => exact absurd hl ((hfl n).1 hh)
  exact (c.inj k k' b τ τ' (back _ _ h1) (back _ _ h2)).imp id (And.imp (Or.imp (hdead _ _ h1) (hdead _ _ h2)) id)
 ·obtain ⟨x, a1, a2⟩ := tok t L h
  refine ⟨x, a1, fun b pos sz hx => ?_⟩
  obtain ⟨a3, a4⟩ := a2 b pos sz hx
  exact ⟨by rw [hs.H]; exact a3, a4⟩
 ·rw [hs.H]; exact c.hgl gg τ cc (by rw [← hs.gl]; exact h)
end
def G.part (Γ : G) (f g : Nat → Bool) : G :=
 { Γ with ι := fun k => match k with | .l n => if f n then Γ.ι (.l n) else none | .g k => Γ.ι (.g k), τ := fun t => if g t then Γ.τ t else none }
theorem U4 {X : Cx} {n : Nat} {s s' : S} (hA : s'.A = s.A) (hloc : q3S s s'.loc) (hlok : q1g (Z6 s'.loc) (H2 s'.tk) s'.loc = true) (hg : q7V s'.loc s.A s.loc)
  (htk : tkW s s'.tk) (henv : q6Q (Z6 s'.loc) (H2 s'.tk) s s'.env) : F0 X n s s' := by
 rintro Γ0 a w ⟨Γ, g1, g3, c, hs, hn, hf, hAok⟩
 have sub : Sub Γ (Γ.part (Z6 s'.loc) (H2 s'.tk)) (Z6 s'.loc) (H2 s'.tk) :=
  ⟨rfl, rfl, rfl, rfl, rfl, fun _ => rfl, fun n h => by simp [G.part, h], fun t h => by simp [G.part, h], fun _ _ _ _ _ => rfl⟩
 refine ⟨Γ.part (Z6 s'.loc) (H2 s'.tk), ⟨g1.H, g1.Z, g1.ZH, g1.g, g1.gl, g1.oo, g1.σ, g1.gn⟩, g3, c.sub sub rfl (fun n h => by simp [G.part, h]) hA hAok hloc hlok hg (fun b o sz h => ⟨o, h, fun _ h => h⟩) (fun t L h => ?_) (fun t h => ?_), fun i => ?_, hn, hf, by rw [hA]; exact hAok⟩
 ·unfold S.live F4 at h
  cases hl : look s'.tk t with
  | none => simp [hl] at h
  | some x =>
   cases x with
   | none => simp [hl] at h
   | some M =>
    simp [hl] at h; subst h
    have hlive : s.live t = some M := z3m htk hl
    obtain ⟨x, a1, a2⟩ := c.tok t M hlive
    exact ⟨x, by simp [G.part, H2, hl, a1], fun b pos sz hx => a2 b pos sz hx⟩
 ·cases hh : H2 s'.tk t with
  | true => exact hh
  | false => simp [G.part, hh] at h
 ·cases hl : look s'.env i with
  | none => simp [S.get, hl, q9]
  | some x =>
   obtain ⟨e1, e2, e3⟩ := z1L henv hl
   have hget : s'.get i = x := by simp [S.get, hl]
   rw [hget]
   by_cases hx : x = .any
   ·subst hx; trivial
   ·have hr := hs i
    have e3 := e3.resolve_left hx
    refine q9.sub sub e2 ?_
    cases hsi : s.get i with
    | any =>
     rw [hsi] at e1
     cases x <;> simp [V.o6, b9] at e1 hx
    | tup us =>
     rw [hsi] at e1 hr
     cases x <;> simp [V.o6, b9] at e1 hx
     subst e1; exact hr
    | _ =>
     rw [hsi] at e1 hr e3
     have hpl : q8 Γ none [] _ (a.tmps.getD i undef).cells.toList ∧ _ := hr
     obtain ⟨r1, r2⟩ := q8.o6 x _ e1 hpl.1
     have hxp := V.q28 r1 hx
     exact (u0 hxp).2 ⟨r1, by rw [e3]; exact hpl.2⟩
end Go.E
namespace Go.E
open Go
def q9C (X : Cx) (s : S) (r : ResultVar) : V :=
 match r with
 | .tmp t => s.get t
 | .cell a t => (match s.get a with
   | .ptr k q τ => (match s.obj k with
     | some (.box y) => view (y.at q)
     | _ => .any)
   | _ => .any)
def q18 (X : Cx) (s : S) : List ResultVar → List V
 | [] => []
 | r :: rs => q9C X s r :: q18 X s rs
def q8U (X : Cx) (s : S) (r : ResultVar) : Prop :=
 match r with
 | .tmp _ => True
 | .cell a t => (match s.get a with
   | .ptr k q τ => (match s.obj k with
     | some (.box y) => τ = ty X.P t ∧ τ.known = true ∧ y.at q ≠ .any
     | _ => False)
   | _ => False)
def q7c (X : Cx) (s : S) : List ResultVar → Prop
 | [] => True
 | r :: rs => q8U X s r ∧ q7c X s rs
def q0w (s : S) (f : Nat → Bool) (x : V) (v : V) : Prop :=
 match v with
 | .ts eb e cs => (match x with
  | .sl eb' e' cs' t => eb' = eb ∧ e' = e ∧ cs' = cs ∧ s.live t = some cs.length
  | .emp eb' e' => eb' = eb ∧ e' = e ∧ cs = []
  | .nilc => cs = []
  | _ => False)
 | v => V.o6 x v ∧ v.ok f j8 = true ∧ v.plain = true ∧ v.ty.isAgg = x.ty.isAgg
def q0E (s : S) (f : Nat → Bool) : List V → List V → Prop
 | [], [] => True
 | x :: xs, v :: vs => q0w s f x v ∧ q0E s f xs vs
 | _, _ => False
def q9B : List V → V → Option (List V)
 | [_], v => some [v]
 | _, .tup vs => some vs
 | _, _ => none
def q1v : Nat → List V → List V → List (Nat × Option Nat)
 | m, x :: xs, v :: vs => (match v, x with
  | .ts _ _ _, .sl _ _ _ t => [(m, some t)]
  | .ts _ _ _, _ => [(m, none)]
  | _, _ => []) ++ q1v (m + 1) xs vs
 | _, _, _ => []
def q4B : List (Nat × Option Nat) → List Nat
 | [] => []
 | (_, some t) :: l => t :: q4B l
 | (_, none) :: l => q4B l
def H5 (X : Cx) (fn : Func) (A : Key → Option O) (v : V) (L : List (Key × O)) (s : S) : Prop :=
 s.A = A ∧ q3S s L ∧ q1g (Z6 L) j8 L = true ∧ q7V L A s.loc ∧ q7c X s fn.results.toList ∧
  (match q9B (q18 X s fn.results.toList) v with
   | some vs => q0E s (Z6 L) (q18 X s fn.results.toList) vs ∧ q0q (q4B (q1v 2000 (q18 X s fn.results.toList) vs)) = true
   | none => False)
def q86 : List (Nat × Option Nat) → Nat → Option Nat
 | [], _ => none
 | (m, some t) :: l, u => if t = u then some m else q86 l u
 | (_, none) :: l, u => q86 l u
theorem q9H : ∀ {l : List (Nat × Option Nat)} {m t : Nat}, q0q (q4B l) = true → look l m = some (some t) → q86 l t = some m
 | [], _, _, _, h => by simp [look] at h
 | (j, y) :: l, m, t, hn, h => by
  simp only [look] at h
  split at h
  ·rename_i e; cases h; subst e; simp [q86]
  ·cases y with
   | none => exact q9H (l := l) hn h
   | some u =>
    simp only [q4B, q0q, Bool.and_eq_true, Bool.not_eq_true'] at hn
    have ih := q9H hn.2 h
    have hne : u ≠ t := by
     intro e; subst e
     have hm : ∀ {l : List (Nat × Option Nat)} {m : Nat}, look l m = some (some u) → u ∈ q4B l := by
      intro l
      induction l with
      | nil => intro m h; simp [look] at h
      | cons z l ih =>
       obtain ⟨j', y'⟩ := z
       intro m h
       simp only [look] at h
       split at h
       ·cases h; simp [q4B]
       ·cases y' with
        | none => exact ih h
        | some t' => simp [q4B, ih h]
     have := hm h
     simp [this] at hn
    simp [q86, hne, ih]
def G.fin (Γ : G) (f : Nat → Bool) (pairs : List (Nat × Option Nat)) : G :=
 { Γ with
   ι := fun k => match k with | .l n => if f n then Γ.ι (.l n) else none | .g k => Γ.ι (.g k)
   τ := fun m => match look pairs m with
    | some (some t) => Γ.τ t
    | some none => some (none, 0)
    | none => none
   κ := fun b => match Γ.κ b with
    | some (.tok t, sz) => match q86 pairs t with
     | some m => some (.tok m, sz)
     | none => none
    | x => x }
theorem q60 : ∀ {n : Nat} {xs vs : List V} {m : Nat}, look (q1v n xs vs) m = if n ≤ m then (match xs[m - n]?, vs[m - n]? with
  | some (.sl _ _ _ t), some (.ts _ _ _) => some (some t)
  | some _, some (.ts _ _ _) => some none
  | _, _ => none) else none
 | n, [], vs, m => by simp [q1v, look]
 | n, x :: xs, [], m => by simp only [q1v, look]; split <;> simp
 | n, x :: xs, v :: vs, m => by
  simp only [q1v, q1E]
  have ih := q60 (n := n + 1) (xs := xs) (vs := vs) (m := m)
  by_cases h1 : n = m
  ·subst h1
   have hr : look (q1v (n + 1) xs vs) n = none := by rw [ih, if_neg (by omega)]
   cases v <;> cases x <;> simp [look, hr]
  ·have h0 : look (match v, x with
     | .ts _ _ _, .sl _ _ _ t => [(n, some t)]
     | .ts _ _ _, _ => [(n, none)]
     | _, _ => []) m = none := by
    cases v <;> cases x <;> simp [look, h1]
   rw [h0, ih]
   by_cases h2 : n ≤ m
   ·rw [if_pos h2, if_pos (by omega), show m - n = (m - (n + 1)) + 1 by omega]
    simp only [List.getElem?_cons_succ]
   ·rw [if_neg h2, if_neg (by omega)]
section
variable {X : Cx} {n : Nat} {s : S}
def q53 (a : Act) : ResultVar → Sem Value
 | .tmp t => pure (a.tmps.getD t undef)
 | .cell b t => do loadVar t (← asAddr (a.tmps.getD b undef))
theorem y2g (fn : Func) (a : Act) : results fn a.tmps = (do
  let vs ← fn.results.mapM (q53 a)
  pure (if h : vs.size = 1 then vs[0] else .tuple vs)) := by
 unfold results
 congr 2
theorem y2e (hP : u3 X.P = true) {Γ : G} {w : World} {a : Act} (c : y9 Γ w s) (hs : q2l Γ s a.tmps) {r : ResultVar} (hch : q8U X s r) :
  ∃ v, (q53 a r).run X.P w = .ok v w ∧ q9 Γ (q9C X s r) v := by
 cases r with
 | tmp t => exact ⟨_, rfl, hs t⟩
 | cell b t =>
  have hb := hs b
  simp only [q8U] at hch
  split at hch
  ·rename_i k q τ hk
   rw [hk] at hb
   split at hch
   ·rename_i y hy
    obtain ⟨u, h1, h2⟩ := z3D hP c hb hy hch.2.2 hch.1 hch.2.1
    obtain ⟨b', τ0, o, _, _, hv⟩ := q0e hb
    refine ⟨u, ?_, ?_⟩
    ·rw [hv] at h1
     simp only [q53, hv]
     simpa [Instr.loadAt, Instr.sureAddr, asAddr] using h1
    ·simp only [q9C, hk, hy]
     exact h2
   ·exact hch.elim
  ·exact hch.elim
theorem z2T (hP : u3 X.P = true) {Γ : G} {w : World} {a : Act} (c : y9 Γ w s) (hs : q2l Γ s a.tmps) : ∀ (rs : List ResultVar), q7c X s rs →
  ∃ vs : List Value, (rs.mapM (q53 a)).run X.P w = .ok vs w ∧ vs.length = rs.length ∧
   ∀ (i : Nat) x v, (q18 X s rs)[i]? = some x → vs[i]? = some v → q9 Γ x v
 | [], _ => ⟨[], by simp, rfl, by simp [q18]⟩
 | r :: rs, hpl => by
  simp only [q7c] at hpl
  obtain ⟨v, h1, h2⟩ := y2e hP c hs hpl.1
  obtain ⟨vs, h3, h4, h5⟩ := z2T hP c hs rs hpl.2
  refine ⟨v :: vs, ?_, by simp [h4], ?_⟩
  ·rw [List.mapM_cons]
   simp only [Sem.run_bind]
   rw [h1]
   simp only [Result.andThen_ok, Sem.run_bind]
   rw [h3]
   simp
  ·intro i x u hx hu
   cases i with
   | zero => simp [q18] at hx hu; subst hx; subst hu; exact h2
   | succ i => exact h5 i x u (by simpa [q18] using hx) (by simpa using hu)
theorem z2U : ∀ (rs : List ResultVar), (q18 X s rs).length = rs.length
 | [] => rfl
 | r :: rs => by simp [q18, z2U rs]
theorem q1P {f : Nat → Bool} : ∀ {xs vs : List V} {i : Nat} {v : V}, q0E s f xs vs → vs[i]? = some v → ∃ x, xs[i]? = some x ∧ q0w s f x v
 | [], [], _, _, _, h => by simp at h
 | x :: xs, v :: vs, 0, v', hr, h => by simp at h; subst h; exact ⟨x, rfl, hr.1⟩
 | x :: xs, v :: vs, i + 1, v', hr, h => by
  obtain ⟨y, h1, h2⟩ := q1P hr.2 (show vs[i]? = some v' by simpa using h)
  exact ⟨y, by simpa using h1, h2⟩
 | [], _ :: _, _, _, hr, _ => by simp [q0E] at hr
 | _ :: _, [], _, _, hr, _ => by simp [q0E] at hr
theorem z05 {f : Nat → Bool} : ∀ {xs vs : List V}, q0E s f xs vs → xs.length = vs.length
 | [], [], _ => rfl
 | x :: xs, v :: vs, h => by simp [z05 h.2]
 | [], _ :: _, hr => by simp [q0E] at hr
 | _ :: _, [], hr => by simp [q0E] at hr
theorem y0Q {Γ : G} {w : World} (c : y9 Γ w s) {f : Nat → Bool} {pairs : List (Nat × Option Nat)} {m : Nat} {x v : V} {u : Value} (hsub : Sub Γ (Γ.fin f pairs) f j8) (hr : q9 Γ x u) (hi : q0w s f x v)
  (hp : ∀ eb e cs, v = .ts eb e cs → match x with | .sl _ _ _ t => look pairs m = some (some t) | _ => look pairs m = some none) : q9 (Γ.fin f pairs) (v.slot m) u := by
 have other : v.q77 = true → V.o6 x v ∧ v.ok f j8 = true ∧ v.plain = true ∧ v.ty.isAgg = x.ty.isAgg → q9 (Γ.fin f pairs) (v.slot m) u := by
  intro hn ⟨h1, h2, h3, h4⟩
  have hvs : v.slot m = v := by cases v <;> simp [V.slot]; simp [V.q77] at hn
  rw [hvs]
  refine q9.sub hsub h2 ?_
  cases x with
  | any =>
   cases v <;> simp [V.o6, b9, V.plain] at h1 h3
  | tup us =>
   cases v <;> simp [V.o6, b9, V.plain] at h1 h3
  | _ =>
   obtain ⟨q1, q2⟩ := hr
   obtain ⟨r1, _⟩ := q8.o6 v _ h1 q1
   exact (u0 h3).2 ⟨r1, by rw [h4]; exact q2⟩
 cases v
 case ts eb e cs =>
  have hp := hp eb e cs rfl
  simp only [q0w] at hi
  cases x <;> simp only at hi hp
  case sl eb' e' cs' t =>
   obtain ⟨rfl, rfl, rfl, hl⟩ := hi
   obtain ⟨h1, _⟩ := (s5 rfl rfl).1 hr
   simp only [q8] at h1
   obtain ⟨a, n, cap, hv, hrc, y, L, h2, h3, h4⟩ := h1
   simp at hv; subst hv
   simp only [V.slot]
   refine (s5 rfl rfl).2 ⟨?_, rfl⟩
   simp only [q8]
   exact ⟨a, n, cap, rfl, hrc, y, L, by simp [G.fin, hp, h2], h3, h4⟩
  case emp eb' e' =>
   obtain ⟨rfl, rfl, rfl⟩ := hi
   obtain ⟨h1, _⟩ := (s5 rfl rfl).1 hr
   simp only [q8] at h1
   obtain ⟨a, hv⟩ := h1
   simp at hv; subst hv
   simp only [V.slot]
   refine (s5 rfl rfl).2 ⟨?_, rfl⟩
   simp only [q8]
   exact ⟨a, 0, 0, rfl, r6 rfl (Nat.le_refl _) (Nat.zero_le _) (by rw [Nat.zero_mul]; exact Nat.zero_le _) (.inl rfl), none, 0, by simp [G.fin, hp], Nat.le_refl _, fun _ => rfl⟩
  case nilc =>
   subst hi
   have hp2 : look pairs m = some none := by assumption
   rw [X7 hr]
   simp only [V.slot]
   refine (s5 rfl rfl).2 ⟨?_, rfl⟩
   simp only [q8]
   exact ⟨none, 0, 0, rfl, r6 rfl (Nat.le_refl _) (Nat.zero_le _) (by rw [Nat.zero_mul]; exact Nat.zero_le _) (.inl rfl), none, 0, by simp [G.fin, hp2], Nat.le_refl _, fun _ => rfl⟩
 all_goals exact other rfl (by simpa only [q0w] using hi)
theorem y7R {Γ : G} : ∀ (xs : List V) (vs : List Value), xs.length = vs.length → (∀ (i : Nat) x, xs[i]? = some x → x.plain = true) → (∀ (i : Nat) x v, xs[i]? = some x → vs[i]? = some v → q9 Γ x v) → v8 Γ xs vs :=
 fun xs vs hl hp hr => q4F hl fun i x v hx hv => ⟨hp i x hx, hr i x v hx hv⟩
theorem z0m : ∀ (xs : List V) (i j : Nat), look (q5q i xs) j = if i ≤ j then xs[j - i]? else none
 | [], i, j => by simp [q5q, look]
 | x :: xs, i, j => by
  simp only [q5q, look, z0m xs (i + 1) j]
  by_cases h1 : i = j
  ·subst h1; simp
  ·rw [if_neg h1]
   by_cases h2 : i ≤ j
   ·rw [if_pos h2, if_pos (by omega), show j - i = (j - (i + 1)) + 1 by omega, List.getElem?_cons_succ]
   ·rw [if_neg h2, if_neg (by omega)]
theorem q1X (hP : u3 X.P = true) {f : FuncId} {fn : Func} {c : Code} {xs : List V} {A : Key → Option O} {v : V} {L : List (Key × O)}
  (hf : X.P.funcs[f]? = some fn) (hb : fn.body = some c) (hn : fn.ntmps = n) (hlen : xs.length ≤ n)
  (h : ∀ A', (∀ k o, A k = some o → A' k = some o) → DC X n c (S.start xs A') fun e s' => (e = .normal ∨ e = .ret) ∧ H5 X fn A' v L s') : p8 X f xs A v L := by
 intro A' Γ w args hAA hgl ⟨c0, hA0⟩ hargs hrep
 subst hn
 refine calls_of_wp hf hb ?_
 refine wp_mono (h A' hAA Γ { tmps := args ++ Array.replicate (fn.ntmps - args.size) undef, defers := [] } w ⟨Γ, .refl Γ, hgl, c0, ?_, by simp; omega, rfl, hA0⟩) ?_
 ·intro i
  have hget : (S.start xs A').get i = ((W5 1000 xs)[i]?).getD .any := by
   simp only [S.get, S.start, z0m, Nat.zero_le, if_true, Nat.sub_zero]
  rw [hget]
  cases hx : (W5 1000 xs)[i]? with
  | none => simp [q9]
  | some x =>
   have hi : i < args.size := by rw [← hargs, ← q7m 1000 xs]; exact (List.getElem?_eq_some_iff.1 hx).1
   have hv : args[i]? = some args[i] := Array.getElem?_eq_getElem hi
   have := hrep i x _ hx hv
   rw [Array.getD_eq_getD_getElem?, Array.getElem?_append_left hi, hv]
   simpa using this
 ·rintro e a w' ⟨s', ⟨he, hA, hL, hLok, hall, hch, hres⟩, Γ', g1, g3, c', hs, hn, hfr, hAok⟩
  obtain ⟨us, hvs, hvl, hvr⟩ := z2T hP c' hs _ hch
  split at hres
  ·rename_i vs hretV
   obtain ⟨hri, hnd⟩ := hres
   generalize hxs : q18 X s' fn.results.toList = rs at *
   have hrl : rs.length = fn.results.toList.length := by rw [← hxs]; exact z2U _
   have hsub : Sub Γ' (Γ'.fin (Z6 L) (q1v 2000 rs vs)) (Z6 L) j8 :=
    ⟨rfl, rfl, rfl, rfl, rfl, fun _ => rfl, fun n h => by simp [G.fin, h], fun t h => by simp [j8] at h, fun b k p sz h => by simp [G.fin, h]⟩
   have hvlen := z05 hri
   have hul : us.length = rs.length := by rw [hvl, hrl]
   -- what the places of the result's tokens are
   have htk : ∀ m, look (v.tkR 2000) m = if 2000 ≤ m then (match vs[m - 2000]? with | some (.ts _ _ cs) => some (some cs.length) | _ => none) else none := by
    intro m
    cases rs with
    | nil => cases v <;> simp [q9B] at hretV; subst hretV; simp only [V.tkR, q4z] <;> rfl
    | cons x1 rs1 => cases rs1 with
     | nil =>
      simp only [q9B] at hretV
      cases hretV
      obtain ⟨x', _, hi'⟩ := q1P hri (i := 0) (v := v) rfl
      have hnt : v.tkR 2000 = v.q0D 2000 := by
       cases v <;> simp [V.tkR]
       simp [q0w, V.plain] at hi'
      rw [hnt, z6O]
      by_cases hm : 2000 = m
      ·subst hm; simp; cases v <;> rfl
      ·rw [if_neg hm]
       by_cases hm2 : 2000 ≤ m
       ·rw [if_pos hm2, show m - 2000 = (m - 2001) + 1 by omega]; simp
       ·rw [if_neg hm2]
     | cons x2 rs2 => cases v <;> simp [q9B] at hretV; subst hretV; simp only [V.tkR, q4z] <;> rfl
   have cfin : y9 (Γ'.fin (Z6 L) (q1v 2000 rs vs)) w' (S.fin v L A') := by
    refine c'.sub (s' := S.fin v L A') hsub rfl (fun n h => by simp [G.fin, show Z6 L n = false from h]) hA.symm hAok hL hLok (hA ▸ hall) (fun b o sz h => ?_) (fun m M h => ?_) (fun m h => ?_)
    ·simp only [G.fin] at h
     cases hk : Γ'.κ b with
     | none => simp [hk] at h
     | some y =>
      obtain ⟨o', sz'⟩ := y
      cases o' with
      | home k p => simp [hk] at h; exact ⟨_, by rw [h.2], fun T hT => by rw [← h.1]; exact hT⟩
      | tok t =>
       simp only [hk] at h
       split at h
       ·simp at h; exact ⟨_, by rw [h.2], fun T _ => by rw [← h.1]; trivial⟩
       ·cases h
    ·-- a live token of the result
     have h : look (v.tkR 2000) m = some (some M) := by
      unfold S.live F4 at h
      change (match look (v.tkR 2000) m with | some (some L) => some L | _ => none) = some M at h
      cases hl : look (v.tkR 2000) m with
      | none => simp [hl] at h
      | some y => cases y with
       | none => simp [hl] at h
       | some M' => simp [hl] at h; rw [h]
     rw [htk] at h
     by_cases hm : 2000 ≤ m
     ·rw [if_pos hm] at h
      cases hv : vs[m - 2000]? with
      | none => simp [hv] at h
      | some v1 =>
       obtain ⟨x1, hx1, hi1⟩ := q1P hri hv
       cases v1 <;> simp [hv] at h
       rename_i eb e cs
       subst h
       have hlook := q60 (n := 2000) (xs := rs) (vs := vs) (m := m)
       rw [if_pos hm, hx1, hv] at hlook
       simp only [q0w] at hi1
       cases x1 <;> simp only at hi1 hlook
       ·obtain ⟨rfl, rfl, rfl, hlive⟩ := hi1
        rename_i cs' t
        obtain ⟨y, a1, a2⟩ := c'.tok t _ hlive
        refine ⟨y, by simp [G.fin, hlook, a1], fun b pos sz hy => ?_⟩
        obtain ⟨a3, a4⟩ := a2 b pos sz hy
        exact ⟨a3, by simp [G.fin, a4, q9H hnd hlook]⟩
       ·obtain ⟨rfl, rfl, rfl⟩ := hi1
        exact ⟨none, by simp [G.fin, hlook], fun b pos sz h => by cases h⟩
       ·subst hi1
        exact ⟨none, by simp [G.fin, hlook], fun b pos sz h => by cases h⟩
     ·rw [if_neg hm] at h; cases h
    ·-- tokens known
     have : look (q1v 2000 rs vs) m ≠ none := by
      intro e; simp [G.fin, e] at h
     rw [q60] at this
     unfold S.known
     change (look (v.tkR 2000) m).isSome = true
     rw [htk]
     by_cases hm : 2000 ≤ m
     ·rw [if_pos hm] at this ⊢
      cases hv : vs[m - 2000]? with
      | none => rw [hv] at this; cases hx1 : rs[m - 2000]? with
       | none => simp [hx1] at this
       | some x1 => simp [hx1] at this
      | some v1 =>
       rw [hv] at this
       cases v1
       case ts => rfl
       all_goals (exfalso; cases hx1 : rs[m - 2000]? with
        | none => simp [hx1] at this
        | some x1 => simp [hx1] at this)
     ·rw [if_neg hm] at this; exact absurd rfl this
   have hres' : (results fn a.tmps).run X.P w' = .ok (if h : us.length = 1 then us[0] else .tuple us.toArray) w' := by
    have hmap : (fn.results.mapM (q53 a)).run X.P w' = .ok us.toArray w' := by
     rw [Array.mapM_eq_mapM_toList]
     simp only [Sem.run_map] at hvs ⊢
     rw [hvs]
     rfl
    rw [y2g]
    simp only [Sem.run_bind]
    rw [hmap]
    simp only [Result.andThen_ok, Sem.run_pure, List.size_toArray]
    split <;> simp
   have hone : ∀ (i : Nat) (v1 : V) (u : Value), vs[i]? = some v1 → us[i]? = some u → q9 (Γ'.fin (Z6 L) (q1v 2000 rs vs)) (v1.slot (2000 + i)) u := by
    intro i v1 u hv1 hu
    obtain ⟨x1, hx1, hi1⟩ := q1P hri hv1
    refine y0Q c' hsub (hvr i x1 u hx1 hu) hi1 fun eb e cs hts => ?_
    subst hts
    have hlook := q60 (n := 2000) (xs := rs) (vs := vs) (m := 2000 + i)
    rw [if_pos (by omega), show 2000 + i - 2000 = i by omega, hx1, hv1] at hlook
    simp only [q0w] at hi1
    cases x1 <;> simp only at hi1 hlook ⊢ <;> exact hlook
   have hpl : ∀ (i : Nat) (x : V), (W5 2000 vs)[i]? = some x → x.plain = true := by
    intro i x hx
    rw [q51] at hx
    cases hv1 : vs[i]? with
    | none => simp [hv1] at hx
    | some v1 =>
     simp [hv1] at hx
     subst hx
     obtain ⟨x1, _, hi1⟩ := q1P hri hv1
     cases v1 <;> simp only [q0w] at hi1 <;> first | rfl | (exact hi1.2.2.1)
   have hrv : q9 (Γ'.fin (Z6 L) (q1v 2000 rs vs)) (v.X3 2000) (if h : us.length = 1 then us[0] else .tuple us.toArray) := by
    by_cases h1 : us.length = 1
    ·rw [dif_pos h1]
     cases rs with
     | nil => rw [hul] at h1; simp at h1
     | cons x1 rs1 => cases rs1 with
      | nil =>
       simp only [q9B] at hretV; cases hretV
       have := hone 0 v us[0] rfl (List.getElem?_eq_getElem (by omega))
       have hsr : v.X3 2000 = v.slot 2000 := by
        cases v <;> simp [V.X3]
        obtain ⟨x', _, hi'⟩ := q1P hri (i := 0) rfl
        simp [q0w, V.plain] at hi'
       rw [hsr]; exact this
      | cons x2 rs2 => rw [hul] at h1; simp at h1
    ·rw [dif_neg h1]
     have hcap : v8 (Γ'.fin (Z6 L) (q1v 2000 rs vs)) (W5 2000 vs) us := y7R _ _ (by rw [q7m]; omega) hpl fun i x u hx hu => by
      rw [q51] at hx
      cases hv1 : vs[i]? with
      | none => simp [hv1] at hx
      | some v1 => simp [hv1] at hx; subst hx; exact hone i v1 u hv1 hu
     have hvt : v = .tup vs := by
      cases rs with
      | nil => cases v <;> simp [q9B] at hretV; rw [hretV]
      | cons x1 rs1 => cases rs1 with
       | nil => exact absurd hul h1
       | cons x2 rs2 => cases v <;> simp [q9B] at hretV; rw [hretV]
     subst hvt
     exact ⟨_, rfl, by simpa using hcap⟩
   have gfin : GLe Γ' (Γ'.fin (Z6 L) (q1v 2000 rs vs)) := ⟨Hp.le_refl _, rfl, fun _ _ => rfl, fun _ _ h => h, rfl, rfl, fun _ _ h => h, fun _ h => h⟩
   rcases he with rfl | rfl
   ·exact ⟨hfr, _, hres', _, _, rfl, g1.trans gfin, cfin, hrv⟩
   ·exact ⟨hfr, _, hres', _, _, rfl, g1.trans gfin, cfin, hrv⟩
  ·exact hres.elim
end
end Go.E
namespace Go.E
open Go
def dep (ops : List Oper) (i j : Nat) : Prop := ∃ o, ops[i]? = some o ∧ ∃ e ∈ o.after, Region.binds .any e = true ∧ e.on = j
inductive Anc (ops : List Oper) : Nat → Nat → Prop where
 | one {i j : Nat} : dep ops i j → Anc ops j i
 | step {i j k : Nat} : dep ops i k → Anc ops j k → Anc ops j i
theorem Anc.closed {ops : List Oper} {D : Nat → Prop} (hD : ∀ i j, D i → dep ops i j → D j) {i j : Nat} (h : Anc ops j i) (hi : D i) : D j := by
 induction h with
 | one h => exact hD _ _ hi h
 | step h _ ih => exact ih (hD _ _ hi h)
structure Res where
 t : Nat
 v : V
 lo : List (Key × O)
 tn : List (Nat × Option Nat)
 s1 : S
def om (s : S) : Key ⊕ Nat → Option (O ⊕ Option Nat)
 | .inl k => (s.obj k).map .inl
 | .inr t => (look s.tk t).map .inr
def Res.om (r : Res) : Key ⊕ Nat → Option (O ⊕ Option Nat)
 | .inl k => (z7 r.lo k).map .inl
 | .inr t => (look r.tn t).map .inr
def S.step (s : S) (o : Oper) (r : Res) : S :=
 bif r.t == 0 then s.set o.dst r.v else bif r.t == 1 then (s.add r.lo r.tn).set o.dst r.v else r.s1.set o.dst r.v
theorem z9b (s : S) (d : Option Nat) (v : V) : om (s.set d v) = om s := by cases d <;> rfl
theorem y3o (s : S) (d : Option Nat) (v : V) : (s.set d v).A = s.A := by cases d <;> rfl
theorem y3O (s : S) (lo : List (Key × O)) (tn : List (Nat × Option Nat)) (k : Key ⊕ Nat) {r : Res} (h1 : r.lo = lo) (h2 : r.tn = tn) : om (s.add lo tn) k = match r.om k with | some x => some x | none => om s k := by
 subst h1; subst h2
 cases k with
 | inl k =>
  simp only [om, Res.om, S.add, S.obj, Z3, q08]
  cases z7 r.lo k <;> rfl
 | inr t =>
  simp only [om, Res.om, S.add, q1E]
  cases look r.tn t <;> rfl
theorem z9a {s : S} {o : Oper} {r : Res} (h : r.t = 0) : om (s.step o r) = om s := by unfold S.step; rw [h]; exact z9b _ _ _
theorem z3w {s : S} {o : Oper} {r : Res} (h : r.t = 1) (k : Key ⊕ Nat) : om (s.step o r) k = match r.om k with | some x => some x | none => om s k := by
 unfold S.step; rw [h]
 exact (congrFun (z9b _ _ _) k).trans (y3O s _ _ k rfl rfl)
theorem y5t {s : S} {o : Oper} {r : Res} (h : r.t = 2) : om (s.step o r) = om r.s1 := by unfold S.step; rw [h]; exact z9b _ _ _
theorem y5J {s : S} {o : Oper} {r : Res} (h3 : r.t = 0 ∨ r.t = 1 ∨ r.t = 2) (h2 : r.t = 2 → r.s1.env = s.env) (t : Nat) : (s.step o r).get t = if o.dst = some t then r.v else s.get t := by
 unfold S.step
 rcases h3 with h | h | h
 ·rw [h]; exact q3K _ _ _ _
 ·rw [h]; exact q3K _ _ _ _
 ·have e : r.s1.get t = s.get t := by simp only [S.get, h2 h]
  rw [h, ← e]; exact q3K _ _ _ _
theorem y8L {s : S} {o : Oper} {r : Res} (h3 : r.t = 0 ∨ r.t = 1 ∨ r.t = 2) (h2 : r.t = 2 → r.s1.A = s.A) : (s.step o r).A = s.A := by
 unfold S.step
 rcases h3 with h | h | h
 ·rw [h]; exact y3o _ _ _
 ·rw [h]; exact y3o _ _ _
 ·rw [h, ← h2 h]; exact y3o _ _ _
def q2z (ops : Array Oper) (s : S) (o : Oper) : Option Bool :=
 match o.guard with
 | none => some true
 | some (j, want) => match q2Y ops j with
  | none => none
  | some t => match s.get t with
   | .d .bool c => some (c.toBool == want)
   | .tup [] => some false
   | _ => none
def y3l (X : Cx) (o : Oper) (ρ : Operand → V) (v : V) : Prop :=
 ∀ (Γ : G) (w : World) (a : Act) (s : S), Γ.gl = X.gl → y9 Γ w s → (∀ y ∈ o.op.operands, q9 Γ (ρ y) (a.eval y)) → s9 X.P o a w (o9 Γ w s v)
def OkR (X : Cx) (ops : Array Oper) (base s : S) (o : Oper) (r : Res) : Prop :=
 (q2z ops s o = some false ∧ r.t = 0 ∧ r.v = .tup []) ∨
 (q2z ops s o = some true ∧ (
  (r.t = 0 ∧ y3l X o (w8 X.gl s) r.v) ∨
  (r.t = 1 ∧ y3m X base o (w8 X.gl s) s r.v r.lo r.tn ∧ z8w s r.lo r.tn) ∨
  (r.t = 2 ∧ y6P X o (w8 X.gl s) s r.v r.s1)))
def Z9 (rs : Nat → Res) : Nat → Nat
 | 0 => 0
 | i + 1 => if (rs i).t = 2 then i + 1 else Z9 rs i
theorem q2f (rs : Nat → Res) : ∀ i, Z9 rs i ≤ i
 | 0 => Nat.le_refl _
 | i + 1 => by simp only [Z9]; split; exact Nat.le_refl _; exact Nat.le_succ_of_le (q2f rs i)
theorem z2n (rs : Nat → Res) : ∀ i k, k < i → (rs k).t = 2 → k < Z9 rs i
 | 0, k, h, _ => by omega
 | i + 1, k, h, ht => by
  simp only [Z9]
  split
  ·exact h
  ·rename_i hi
   refine z2n rs i k ?_ ht
   rcases Nat.lt_succ_iff_lt_or_eq.1 h with h | h
   ·exact h
   ·subst h; exact absurd ht hi
theorem z3H (rs : Nat → Res) : ∀ i, Z9 rs i = 0 ∨ ∃ k, Z9 rs i = k + 1 ∧ (rs k).t = 2
 | 0 => .inl rfl
 | i + 1 => by
  simp only [Z9]
  split
  ·exact .inr ⟨i, rfl, ‹_›⟩
  ·exact z3H rs i
structure Canon (X : Cx) (ops : List Oper) (s0 : S) (rs : Nat → Res) (c : Nat → S) : Prop where
 c0 : c 0 = s0
 cs : ∀ i o, ops[i]? = some o → c (i + 1) = (c i).step o (rs i)
 ok : ∀ i o, ops[i]? = some o → OkR X ops.toArray (c (Z9 rs i)) (c i) o (rs i)
 tri : ∀ i, (rs i).t = 0 ∨ (rs i).t = 1 ∨ (rs i).t = 2
def writes (ops : List Oper) (j t : Nat) : Prop := ∃ o, ops[j]? = some o ∧ o.dst = some t
def looks (ops : List Oper) (i t : Nat) : Prop := ∃ o, ops[i]? = some o ∧ t ∈ o.looksAt ops.toArray
structure Orders (ops : List Oper) (rs : Nat → Res) : Prop where
 lt : ∀ i j, dep ops i j → j < i
 tt : ∀ i j, i < ops.length → j < ops.length → (rs i).t = 2 → (rs j).t ≠ 0 → j ≠ i → (j < i ∧ Anc ops j i) ∨ (i < j ∧ Anc ops i j)
 W5 : ∀ i j t, j ≠ i → writes ops j t → looks ops i t → (j < i ∧ Anc ops j i) ∨ (i < j ∧ Anc ops i j)
 one : ∀ i j t, writes ops i t → writes ops j t → i = j
theorem OkR.env {X : Cx} {ops : Array Oper} {base s : S} {o : Oper} {r : Res} (h : OkR X ops base s o r) (ht : r.t = 2) : r.s1.env = s.env ∧ r.s1.A = s.A := by
 rcases h with h | ⟨_, h | h | h⟩
 ·omega
 ·omega
 ·omega
 ·exact ⟨h.2.2.1, h.2.1⟩
section
variable {X : Cx} {ops : List Oper} {s0 : S} {rs : Nat → Res} {c : Nat → S}
theorem getOp {i : Nat} (h : i < ops.length) : ∃ o, ops[i]? = some o := ⟨_, List.getElem?_eq_getElem h⟩
theorem Canon.A (K : Canon X ops s0 rs c) : ∀ i, i ≤ ops.length → (c i).A = s0.A
 | 0, _ => by rw [K.c0]
 | i + 1, h => by
  obtain ⟨o, ho⟩ := getOp (ops := ops) (i := i) (by omega)
  rw [K.cs i o ho, y8L (K.tri i) (fun ht => ((K.ok i o ho).env ht).2), K.A i (by omega)]
theorem Canon.y6H (K : Canon X ops s0 rs c) {i : Nat} {o : Oper} (ho : ops[i]? = some o) (t : Nat) : (c (i + 1)).get t = if o.dst = some t then (rs i).v else (c i).get t := by
 rw [K.cs i o ho]; exact y5J (K.tri i) (fun ht => ((K.ok i o ho).env ht).1) t
theorem Canon.y2R (K : Canon X ops s0 rs c) (Od : Orders ops rs) {j t : Nat} (hw : writes ops j t) : ∀ i, j < i → i ≤ ops.length → (c i).get t = (rs j).v
 | 0, h, _ => by omega
 | i + 1, h, hi => by
  obtain ⟨o, ho⟩ := getOp (ops := ops) (i := i) (by omega)
  rw [K.y6H ho]
  by_cases hji : j = i
  ·subst hji
   obtain ⟨o', h1, h2⟩ := hw
   rw [ho] at h1; cases h1
   rw [if_pos h2]
  ·have hd : ¬ o.dst = some t := fun e => hji (Od.one j i t hw ⟨o, ho, e⟩)
   rw [if_neg hd]
   exact K.y2R Od hw i (by omega) (by omega)
theorem Canon.z8g (K : Canon X ops s0 rs c) {t : Nat} : ∀ i, i ≤ ops.length → (∀ j, j < i → ¬ writes ops j t) → (c i).get t = s0.get t
 | 0, _, _ => by rw [K.c0]
 | i + 1, hi, hw => by
  obtain ⟨o, ho⟩ := getOp (ops := ops) (i := i) (by omega)
  have hd : ¬ o.dst = some t := fun e => hw i (by omega) ⟨o, ho, e⟩
  rw [K.y6H ho, if_neg hd]
  exact K.z8g i (by omega) (fun j hj => hw j (by omega))
theorem Canon.fresh (K : Canon X ops s0 rs c) {i : Nat} (hi : i < ops.length) (ht : (rs i).t = 1) {k : Key ⊕ Nat} {x : O ⊕ Option Nat} (h : (rs i).om k = some x) : om (c i) k = none := by
 obtain ⟨o, ho⟩ := getOp hi
 rcases K.ok i o ho with h1 | ⟨_, h1 | h1 | h1⟩
 ·omega
 ·omega
 ·have hf := h1.2.2
  cases k with
  | inl k =>
   simp only [Res.om, Option.map_eq_some_iff] at h
   obtain ⟨y, h, _⟩ := h
   simp only [om, hf.l k y h, Option.map_none]
  | inr t =>
   simp only [Res.om, Option.map_eq_some_iff] at h
   obtain ⟨y, h, _⟩ := h
   have := hf.t t y h
   simp only [S.known] at this
   simp only [om]
   cases hh : look (c i).tk t with
   | none => rfl
   | some z => rw [hh] at this; cases this
 ·omega
theorem Canon.mono (K : Canon X ops s0 rs c) {k : Key ⊕ Nat} {x : O ⊕ Option Nat} {i : Nat} : ∀ j, i ≤ j → j ≤ ops.length → (∀ m, i ≤ m → m < j → (rs m).t ≠ 2) → om (c i) k = some x → om (c j) k = some x
 | 0, h, _, _, hx => by have : i = 0 := by omega
                        subst this; exact hx
 | j + 1, h, hj, hn, hx => by
  by_cases he : i = j + 1
  ·subst he; exact hx
  ·have ih := K.mono j (by omega) (by omega) (fun m h1 h2 => hn m h1 (by omega)) hx
   obtain ⟨o, ho⟩ := getOp (ops := ops) (i := j) (by omega)
   rw [K.cs j o ho]
   rcases K.tri j with h1 | h1 | h1
   ·rw [z9a h1]; exact ih
   ·rw [z3w h1]
    cases hr : (rs j).om k with
    | none => exact ih
    | some y => have := K.fresh (by omega) h1 hr; rw [ih] at this; cases this
   ·exact absurd h1 (hn j (by omega) (by omega))
theorem Canon.obj (K : Canon X ops s0 rs c) (k : Key ⊕ Nat) : ∀ i, i ≤ ops.length →
  (∀ j x, j < i → Z9 rs i ≤ j → (rs j).t = 1 → (rs j).om k = some x → om (c i) k = some x) ∧
  ((∀ j, j < i → Z9 rs i ≤ j → (rs j).t = 1 → (rs j).om k = none) → om (c i) k = om (c (Z9 rs i)) k)
 | 0, _ => ⟨fun j x h => by omega, fun _ => rfl⟩
 | i + 1, hi => by
  obtain ⟨h1, h2⟩ := K.obj k i (by omega)
  obtain ⟨o, ho⟩ := getOp (ops := ops) (i := i) (by omega)
  simp only [Z9]
  rcases K.tri i with ht | ht | ht
  ·rw [if_neg (by omega), K.cs i o ho, z9a ht]
   refine ⟨fun j x h3 h4 h5 h6 => ?_, fun h3 => h2 fun j h4 h5 h6 => h3 j (by omega) h5 h6⟩
   rcases Nat.lt_succ_iff_lt_or_eq.1 h3 with h7 | h7
   ·exact h1 j x h7 h4 h5 h6
   ·subst h7; omega
  ·rw [if_neg (by omega), K.cs i o ho, z3w ht]
   refine ⟨fun j x h3 h4 h5 h6 => ?_, fun h3 => ?_⟩
   ·rcases Nat.lt_succ_iff_lt_or_eq.1 h3 with h7 | h7
    ·have := h1 j x h7 h4 h5 h6
     cases hr : (rs i).om k with
     | none => exact this
     | some y => have h8 := K.fresh (by omega) ht hr; rw [this] at h8; cases h8
    ·subst h7; rw [h6]
   ·rw [h3 i (by omega) (Nat.le_of_lt_succ (Nat.lt_succ_of_le (q2f rs i))) ht]
    exact h2 fun j h4 h5 h6 => h3 j (by omega) h5 h6
  ·rw [if_pos ht]
   exact ⟨fun j x h3 h4 => by omega, fun _ => rfl⟩
end
end Go.E
namespace Go.E
open Go
section
variable {X : Cx} {ops : List Oper} {s0 : S} {rs : Nat → Res} {c : Nat → S}
def q7W (X : Cx) (ops : List Oper) (s0 : S) (rs : Nat → Res) (c : Nat → S) (Γ0 : G) (n : Nat) (D : Nat → Prop) (a : Act) (w : World) : Prop :=
 ∃ Γ sD p, GLe Γ0 Γ ∧ Γ.gl = X.gl ∧ y9 Γ w sD ∧ AOk s0.A ∧ a.tmps.size = n ∧ a.defers = [] ∧
  p ≤ ops.length ∧ (p = 0 ∨ ∃ k, p = k + 1 ∧ (rs k).t = 2 ∧ D k) ∧ (∀ k, D k → (rs k).t = 2 → k < p) ∧
  (∀ k j x, D j → p ≤ j → (rs j).t = 1 → (rs j).om k = some x → om sD k = some x) ∧
  (∀ k, (∀ j, D j → p ≤ j → (rs j).t = 1 → (rs j).om k = none) → om sD k = om (c p) k) ∧
  (∀ j t, D j → writes ops j t → q9 Γ (rs j).v (a.tmps.getD t undef)) ∧
  (∀ t, (∀ j, D j → ¬ writes ops j t) → q9 Γ (s0.get t) (a.tmps.getD t undef))
theorem z6K {Γ : G} {a : Act} {s : S} {o : Oper} {b : Bool} {l : Array Oper} (h : q2z l s o = some b) (hs : ∀ t, t ∈ o.looksAt l → q9 Γ (s.get t) (a.tmps.getD t undef)) :
  Region.wanted o (yielded l a.tmps) = b := by
 unfold q2z at h
 split at h
 ·rename_i hg
  cases h
  simp [Region.wanted, hg]
 ·rename_i j want hg
  split at h
  ·cases h
  ·rename_i t ht
   have hst := hs t (by
    simp only [Oper.looksAt, hg, List.mem_append]
    right
    simp only [q2Y] at ht
    rw [ht]; simp)
   split at h
   ·rename_i b' hb
    cases h
    rw [hb] at hst
    exact z4R hg ht hst
   ·rename_i hb
    cases h
    rw [hb] at hst
    exact z3e hg ht hst
   ·cases h
theorem y22 {Γ : G} {w : World} {s s' : S} {a : Act} (hgl : Γ.gl = X.gl) (c : y9 Γ w s') {y : Operand} (hy : q76 y = true) (ht : ∀ t, y = .tmp t → q9 Γ (s.get t) (a.tmps.getD t undef)) :
  q9 Γ (w8 X.gl s y) (a.eval y) := by
 cases y with
 | tmp t => exact ht t rfl
 | const v => exact q8j (y := .const v) (s := ⟨[], [], fun _ => none, []⟩) hgl c (fun i => by simp [S.get, look, q9]) hy
 | global g => exact q8j (y := .global g) (s := ⟨[], [], fun _ => none, []⟩) (a := a) hgl c (fun i => by simp [S.get, look, q9]) hy
 | func f => exact q8j (y := .func f) (s := ⟨[], [], fun _ => none, []⟩) (a := a) hgl c (fun i => by simp [S.get, look, q9]) hy
theorem y1t {a : Act} {d : Option Nat} {v : Value} {t : Nat} (h : d ≠ some t) : (a.put d v).tmps.getD t undef = a.tmps.getD t undef := by
 cases d with
 | none => rfl
 | some e =>
  have : e ≠ t := fun he => h (by rw [he])
  simp only [Act.put, Array.getD_eq_getD_getElem?, Array.getElem?_setIfInBounds_ne this]
theorem y5m {a : Act} {t : Nat} {v : Value} (h : t < a.tmps.size) : (a.put (some t) v).tmps.getD t undef = v := by
 simp [Act.put, h]
theorem y8m {s s' : S} (h : ∀ k, om s' k = om s k) (k : Key) : s'.obj k = s.obj k := by
 have := h (.inl k)
 simp only [om] at this
 cases h1 : s'.obj k <;> cases h2 : s.obj k <;> rw [h1, h2] at this
 ·cases this
 ·cases this
 ·cases this; rfl
theorem y6y {s s' : S} (h : ∀ k, om s' k = om s k) (t : Nat) : look s'.tk t = look s.tk t := by
 have := h (.inr t)
 simp only [om] at this
 cases h1 : look s'.tk t <;> cases h2 : look s.tk t <;> rw [h1, h2] at this
 ·cases this
 ·cases this
 ·cases this; rfl
theorem y9.om {Γ : G} {w : World} {s s' : S} (c : y9 Γ w s) (h : ∀ k, Go.E.om s' k = Go.E.om s k) : y9 Γ w s' :=
 c.congr (y8m h) (z1t (y6y h)) (fun t ht => by rw [z0p (y6y h)]; exact ht)
theorem y1x {s : S} {k : Key} {o : O} : om s (.inl k) = some (.inl o) ↔ s.obj k = some o := by simp [om]
theorem y6z {s : S} {k : Key} : om s (.inl k) = none ↔ s.obj k = none := by simp [om]
variable {Γ0 : G} {n : Nat} {D : Nat → Prop}
theorem y5a (hP : u3 X.P = true) (K : Canon X ops s0 rs c) (Od : Orders ops rs) (hok : ∀ o ∈ ops, q6K n o = true) (hDl : ∀ j, D j → j < ops.length) (hD : ∀ i j, D i → dep ops i j → D j) {i : Nat} (hi : i < ops.length) (hiD : ¬ D i) (hdep : ∀ j, dep ops i j → D j)
  {a : Act} {w : World} {Q : Exit → Act → World → Prop} (h : q7W X ops s0 rs c Γ0 n D a w) : wpOp X.P ops.toArray Q i (q7W X ops s0 rs c Γ0 n (fun j => D j ∨ j = i)) a w := by
 obtain ⟨Γ, sD, p, g1, g3, hc, hA, hn, hf, hp0, hp1, hp2, ob1, ob2, ew, e0⟩ := h
 obtain ⟨o, ho⟩ := getOp hi
 -- what is before i is done; what is behind i is not
 have hD' : ∀ k j, (D k ∨ k = i) → dep ops k j → (D j ∨ j = i) := by
  rintro k j (h | rfl) hd
  ·exact .inl (hD k j h hd)
  ·exact .inl (hdep j hd)
 have before : ∀ j, j ≠ i → Anc ops j i → D j := fun j hj ha => (Anc.closed hD' ha (.inr rfl)).resolve_right hj
 have behind : ∀ k, D k → ¬ Anc ops i k := fun k hk ha => hiD (Anc.closed hD ha hk)
 have later : ∀ k, D k → (rs k).t = 2 → i < k → (rs i).t = 0 := by
  intro k hk ht hik
  by_cases h0 : (rs i).t = 0
  ·exact h0
  ·rcases Od.tt k i (hDl k hk) hi ht h0 (by omega) with ⟨_, ha⟩ | ⟨h1, _⟩
   ·exact absurd ha (behind k hk)
   ·omega
 have slot : ∀ t, looks ops i t → q9 Γ ((c i).get t) (a.tmps.getD t undef) := by
  intro t ht
  by_cases hw : ∃ j, j ≠ i ∧ writes ops j t
  ·obtain ⟨j, hj, hw⟩ := hw
   rcases Od.W5 i j t hj hw ht with ⟨hlt, ha⟩ | ⟨hlt, ha⟩
   ·rw [K.y2R Od hw i hlt (by omega)]
    exact ew j t (before j hj ha) hw
   ·have hDj : ¬ D j := fun h => behind j h ha
    have uniq : ∀ j', writes ops j' t → j' = j := fun j' h => Od.one j' j t h hw
    rw [K.z8g (t := t) i (by omega) (fun j' hj' h => by have := uniq j' h; omega)]
    exact e0 t (fun j' hj' h => hDj (uniq j' h ▸ hj'))
  ·have nw : ∀ j', writes ops j' t → j' = i := fun j' h => Classical.byContradiction fun hne => hw ⟨j', hne, h⟩
   rw [K.z8g (t := t) i (by omega) (fun j' hj' h => by have := nw j' h; omega)]
   exact e0 t (fun j' hj' h => hiD (nw j' h ▸ hj'))
 have hko := hok o (List.mem_of_getElem? ho)
 simp only [q6K, Bool.and_eq_true, Array.all_eq_true'] at hko
 have hd : ∀ t, o.dst = some t → t < a.tmps.size := by
  intro t ht
  have h2 := hko.2
  rw [ht] at h2
  rw [hn]
  exact of_decide_eq_true h2
 have hops : ∀ y ∈ o.op.operands, q9 Γ (w8 X.gl (c i) y) (a.eval y) := fun y hy => y22 g3 hc (hko.1 y hy) fun t ht => slot t ⟨o, ho, by
  subst ht
  simp only [Oper.looksAt, List.mem_append, List.mem_filterMap]
  exact .inl ⟨.tmp t, by simpa using hy, rfl⟩⟩
 have wr : ∀ j t, writes ops j t → j ≠ i → o.dst ≠ some t := fun j t hw hj hdt => hj (Od.one j i t hw ⟨o, ho, hdt⟩)
 -- what all kinds of operations share
 have fin : ∀ {u : Value} {w' : World} {Γ' : G} {sD' : S} {p' : Nat}, GLe Γ Γ' → Γ'.gl = X.gl → y9 Γ' w' sD' → p' ≤ ops.length → (p' = 0 ∨ ∃ k, p' = k + 1 ∧ (rs k).t = 2 ∧ (D k ∨ k = i)) →
   (∀ k, (D k ∨ k = i) → (rs k).t = 2 → k < p') → (∀ k j x, (D j ∨ j = i) → p' ≤ j → (rs j).t = 1 → (rs j).om k = some x → om sD' k = some x) →
   (∀ k, (∀ j, (D j ∨ j = i) → p' ≤ j → (rs j).t = 1 → (rs j).om k = none) → om sD' k = om (c p') k) →
   j7 Γ Γ' → q9 Γ' (rs i).v u →
   q7W X ops s0 rs c Γ0 n (fun j => D j ∨ j = i) (a.put o.dst u) w' := by
  intro u w' Γ' sD' p' gle hgl' c' q0 q1 q2 qo1 qo2 W2 hv
  refine ⟨Γ', sD', p', g1.trans gle, hgl', c', hA, ?_, ?_, q0, q1, q2, qo1, qo2, ?_, ?_⟩
  ·cases o.dst <;> simp [Act.put, hn]
  ·cases o.dst <;> simp [Act.put, hf]
  ·rintro j t (hj | rfl) hw
   ·have hji : j ≠ i := fun e => hiD (e ▸ hj)
    rw [y1t (wr j t hw hji)]
    exact (ew j t hj hw).b5 W2
   ·obtain ⟨o', h1, h2⟩ := hw
    rw [ho] at h1; cases h1
    rw [h2, y5m (hd t h2)]; exact hv
  ·intro t hw
   rw [y1t (fun e => hw i (.inr rfl) ⟨o, ho, e⟩)]
   exact (e0 t (fun j hj => hw j (.inl hj))).b5 W2
 -- a value alone
 have value : ∀ {u : Value} {w' : World} {Γ' : G}, (rs i).t = 0 → GLe Γ Γ' → Γ'.gl = X.gl → y9 Γ' w' sD → j7 Γ Γ' → q9 Γ' (rs i).v u →
   q7W X ops s0 rs c Γ0 n (fun j => D j ∨ j = i) (a.put o.dst u) w' := by
  intro u w' Γ' ht gle hgl' c' W2 hv
  refine fin gle hgl' c' hp0 ?_ ?_ ?_ ?_ W2 hv
  ·rcases hp1 with h | ⟨k, h1, h2, h3⟩
   ·exact .inl h
   ·exact .inr ⟨k, h1, h2, .inl h3⟩
  ·rintro k (hk | rfl) htk
   ·exact hp2 k hk htk
   ·omega
  ·rintro k j x (hj | rfl) h1 h2 h3
   ·exact ob1 k j x hj h1 h2 h3
   ·omega
  ·exact fun k h => ob2 k fun j hj h1 h2 => h j (.inl hj) h1 h2
 -- the phase
 have hpL : (rs i).t ≠ 0 → p = Z9 rs i := by
  intro hti
  have hTD : ∀ k, (rs k).t = 2 → k < i → D k := by
   intro k hk hki
   rcases Od.tt k i (by omega) hi hk hti (by omega) with ⟨h1, _⟩ | ⟨_, ha⟩
   ·omega
   ·exact before k (by omega) ha
  have h1 : p ≤ Z9 rs i := by
   rcases hp1 with h | ⟨k, h1, h2, h3⟩
   ·omega
   ·have hki : k < i := by
     rcases Nat.lt_or_ge k i with h | h
     ·exact h
     ·rcases Nat.lt_or_eq_of_le h with h | h
      ·exact absurd (later k h3 h2 h) hti
      ·subst h; exact absurd h3 hiD
    have := z2n rs i k hki h2
    omega
  have h2 : Z9 rs i ≤ p := by
   rcases z3H rs i with h | ⟨k, h3, h4⟩
   ·omega
   ·have := q2f rs i
    have := hp2 k (hTD k h4 (by omega)) h4
    omega
  omega
 have noTj : ∀ j, D j → (rs j).t ≠ 0 → ∀ m, p ≤ m → m < j → (rs m).t ≠ 2 := by
  intro j hj ht m hm hmj htm
  rcases Od.tt m j (by have := hDl j hj; omega) (hDl j hj) htm ht (by omega) with ⟨h1, _⟩ | ⟨_, ha⟩
  ·omega
  ·have := hp2 m (Anc.closed hD ha hj) htm
   omega
 have noTi : (rs i).t ≠ 0 → ∀ m, p ≤ m → m < i → (rs m).t ≠ 2 := by
  intro hti m hm hmi htm
  have := z2n rs i m hmi htm
  have := hpL hti
  omega
 -- a key is one of an operation's that is done, or stands as at the phase's start
 have split2 : ∀ k, (∃ j x, D j ∧ p ≤ j ∧ (rs j).t = 1 ∧ (rs j).om k = some x) ∨ (∀ j, D j → p ≤ j → (rs j).t = 1 → (rs j).om k = none) := by
  intro k
  by_cases h : ∃ j x, D j ∧ p ≤ j ∧ (rs j).t = 1 ∧ (rs j).om k = some x
  ·exact .inl h
  ·refine .inr fun j h1 h2 h3 => ?_
   cases hr : (rs j).om k with
   | none => rfl
   | some x => exact absurd ⟨j, x, h1, h2, h3, hr⟩ h
 simp only [wpOp, List.getElem?_toArray, ho]
 have hslots : ∀ t, t ∈ o.looksAt ops.toArray → q9 Γ ((c i).get t) (a.tmps.getD t undef) := fun t ht => slot t ⟨o, ho, ht⟩
 rcases K.ok i o ho with ⟨hw, ht, hv⟩ | ⟨hw, hrest⟩
 ·rw [z6K hw hslots]
  simp only [Bool.false_eq_true, if_false]
  exact value ht (.refl Γ) g3 hc (.refl Γ) (by rw [hv]; exact z4l)
 ·rw [z6K hw hslots]
  simp only [if_true]
  left
  rcases hrest with ⟨ht, hdo⟩ | ⟨ht, hdo, hfr⟩ | ⟨ht, hdo⟩
  ·refine hdo Γ w a sD g3 hc hops _ _ ?_
   rintro u w' ⟨Γ', gle, kp, c', hv⟩
   exact value ht gle (gle.gl.trans g3) c' kp hv
  ·have hne : (rs i).t ≠ 0 := by omega
   have hpl := hpL hne
   have hpi : p ≤ i := by rw [hpl]; exact q2f rs i
   obtain ⟨co1, co2⟩ : (∀ k j x, j < i → p ≤ j → (rs j).t = 1 → (rs j).om k = some x → om (c i) k = some x) ∧ (∀ k, (∀ j, j < i → p ≤ j → (rs j).t = 1 → (rs j).om k = none) → om (c i) k = om (c p) k) := by
    refine ⟨fun k => ?_, fun k => ?_⟩
    ·rw [hpl]; exact (K.obj k i (by omega)).1
    ·rw [hpl]; exact (K.obj k i (by omega)).2
   have freshi : ∀ k x, (rs i).om k = some x → om sD k = none := by
    intro k x hx
    have hfi := K.fresh hi ht hx
    rcases split2 k with ⟨j, y, hj, hpj, htj, hy⟩ | hB
    ·exfalso
     rcases Nat.lt_or_ge j i with hlt | hge
     ·have := co1 k j y hlt hpj htj hy
      rw [hfi] at this; cases this
     ·have hij : i ≠ j := fun e => hiD (e ▸ hj)
      have h1 : om (c (i + 1)) k = some x := by rw [K.cs i o ho, z3w ht, hx]
      have h2 := K.mono j (by omega) (Nat.le_of_lt (hDl j hj)) (fun m hm hmj => noTj j hj (by omega) m (by omega) hmj) h1
      have h3 := K.fresh (hDl j hj) htj hy
      rw [h2] at h3; cases h3
    ·rw [ob2 k hB]
     cases hcpk : om (c p) k with
     | none => rfl
     | some y =>
      have := K.mono i hpi (by omega) (noTi hne) hcpk
      rw [hfi] at this; cases this
   have hcompat : Compat sD (c i) (c (Z9 rs i)) := by
    rw [← hpl]
    refine ⟨fun k x hx hne' => ?_, fun k x hx => ?_⟩
    ·rw [← y1x] at hx ⊢
     rw [Ne, ← y6z] at hne'
     rcases split2 (.inl k) with ⟨j, y, hj, hpj, htj, hy⟩ | hB
     ·have hsD := ob1 _ j y hj hpj htj hy
      have hfj := K.fresh (hDl j hj) htj hy
      rcases Nat.lt_or_ge j i with hlt | hge
      ·have h1 := co1 _ j y hlt hpj htj hy
       rw [hx] at h1; cases h1
       exact hsD
      ·have := K.mono j hge (Nat.le_of_lt (hDl j hj)) (fun m hm hmj => noTj j hj (by omega) m (by omega) hmj) hx
       rw [hfj] at this; cases this
     ·have hsD := ob2 _ hB
      cases hcpk : om (c p) (.inl k) with
      | some y =>
       have := K.mono i hpi (by omega) (noTi hne) hcpk
       rw [hx] at this; cases this
       rw [hsD, hcpk]
      | none => rw [hcpk] at hsD; exact absurd hsD hne'
    ·rw [← y1x] at hx ⊢
     rcases split2 (.inl k) with ⟨j, y, hj, hpj, htj, hy⟩ | hB
     ·exfalso
      have hfj := K.fresh (hDl j hj) htj hy
      have := K.mono j hpj (Nat.le_of_lt (hDl j hj)) (fun m' hm hmj => noTj j hj (by omega) m' hm hmj) hx
      rw [hfj] at this; cases this
     ·rw [ob2 _ hB]; exact hx
   have hfresh : z8w sD (rs i).lo (rs i).tn := by
    refine ⟨fun k x hx => ?_, fun t x hx => ?_⟩
    ·exact y6z.1 (freshi (.inl k) (.inl x) (by simp [Res.om, hx]))
    ·have := freshi (.inr t) (.inr x) (by simp [Res.om, hx])
     simp only [om, Option.map_eq_none_iff] at this
     simp [S.known, this]
   refine hdo Γ w a sD g3 hc hcompat hfresh hops _ _ ?_
   rintro u w' ⟨Γ', gle, kp, c', hv⟩
   have hom : ∀ k, om (sD.add (rs i).lo (rs i).tn) k = match (rs i).om k with | some x => some x | none => om sD k := fun k => y3O sD _ _ k rfl rfl
   refine fin gle (gle.gl.trans g3) c' hp0 ?_ ?_ ?_ ?_ kp hv
   ·rcases hp1 with h | ⟨k, h1, h2, h3⟩
    ·exact .inl h
    ·exact .inr ⟨k, h1, h2, .inl h3⟩
   ·rintro k (hk | rfl) htk
    ·exact hp2 k hk htk
    ·omega
   ·rintro k j x (hj | rfl) h1 h2 h3
    ·rw [hom k]
     have := ob1 k j x hj h1 h2 h3
     cases hr : (rs i).om k with
     | none => exact this
     | some y => rw [freshi k y hr] at this; cases this
    ·rw [hom k, h3]
   ·intro k h
    rw [hom k, h i (.inr rfl) hpi ht]
    exact ob2 k fun j hj h1 h2 => h j (.inl hj) h1 h2
  ·have hne : (rs i).t ≠ 0 := by omega
   have hpl := hpL hne
   have hpi : p ≤ i := by rw [hpl]; exact q2f rs i
   have notD : ∀ j, D j → (rs j).t ≠ 0 → j < i := by
    intro j hj htj
    rcases Od.tt i j hi (hDl j hj) ht htj (fun e => hiD (e ▸ hj)) with ⟨h1, _⟩ | ⟨_, ha⟩
    ·exact h1
    ·exact absurd ha (behind j hj)
   have hom : ∀ k, om (c i) k = om sD k := by
    intro k
    rcases split2 k with ⟨j, y, hj, hpj, htj, hy⟩ | hB
    ·rw [ob1 k j y hj hpj htj hy]
     refine (K.obj k i (by omega)).1 j y (notD j hj (by omega)) (by rw [← hpl]; exact hpj) htj hy
    ·rw [ob2 k hB, hpl]
     refine (K.obj k i (by omega)).2 fun j hj hpj htj => ?_
     rw [← hpl] at hpj
     rcases Od.tt i j hi (by omega) ht (by omega) (by omega) with ⟨_, ha⟩ | ⟨h1, _⟩
     ·exact hB j (before j (by omega) ha) hpj htj
     ·omega
   refine hdo.2.2 Γ w a g3 (hc.om hom) hops _ _ ?_
   rintro u w' ⟨Γ', gle, kp, c', hv⟩
   refine fin (p' := i + 1) gle (gle.gl.trans g3) c' (by omega) (.inr ⟨i, rfl, ht, .inr rfl⟩) ?_ ?_ ?_ kp hv
   ·rintro k (hk | rfl) htk
    ·have := notD k hk (by omega); omega
    ·omega
   ·rintro k j x (hj | rfl) h1 h2 h3
    ·have := notD j hj (by omega); omega
    ·omega
   ·intro k _
    rw [K.cs i o ho, y5t ht]
end
end Go.E
namespace Go.E
open Go
theorem y1h {p q : Nat → Bool} {i : Nat} (hi : p i = false) (hq : ∀ j, q j = (p j || j == i)) : ∀ n, i < n → (List.range n).countP q = (List.range n).countP p + 1 := by
 have low : ∀ m, m ≤ i → (List.range m).countP q = (List.range m).countP p := by
  intro m hm
  apply List.countP_congr
  intro j hj
  have : j ≠ i := by have := List.mem_range.1 hj; omega
  simp [hq j, this]
 intro n hn
 induction n with
 | zero => omega
 | succ n ih =>
  rw [List.range_succ, List.countP_append, List.countP_append]
  by_cases h : i < n
  ·rw [ih h]
   have : n ≠ i := by omega
   simp only [List.countP_singleton, hq n]
   have hb : (n == i) = false := by simpa using this
   rw [hb, Bool.or_false]; omega
  ·have : n = i := by omega
   subst this
   rw [low n (Nat.le_refl _)]
   simp [hq n, hi]
section
variable {X : Cx} {ops : List Oper} {s0 : S} {rs : Nat → Res} {c : Nat → S} {Γ0 : G} {n : Nat}
theorem q7W.congr {D D' : Nat → Prop} (h : ∀ j, D j ↔ D' j) {a : Act} {w : World} (hi : q7W X ops s0 rs c Γ0 n D a w) : q7W X ops s0 rs c Γ0 n D' a w := by
 have : D = D' := funext fun j => propext (h j)
 rw [← this]; exact hi
theorem z4q {listed : Array Bool} {i : Nat} (hsz : listed.size = ops.length) (h : i ∈ Region.ready .any ops.toArray listed) :
  i < ops.length ∧ listed.getD i false = false ∧ ∀ j, dep ops i j → listed.getD j false = true := by
 simp only [Region.ready, List.size_toArray, List.mem_filter, List.mem_range, Bool.and_eq_true, Bool.not_eq_true', List.getElem?_toArray] at h
 obtain ⟨h1, h2, h3⟩ := h
 refine ⟨h1, ?_, ?_⟩
 ·have : i < listed.size := by omega
  simpa [Array.getD, this] using h2
 ·rintro j ⟨o, ho, e, he, hb, rfl⟩
  rw [ho] at h3
  simp only [Option.map_some, Option.getD_some, Array.all_eq_true'] at h3
  have := h3 e he
  rw [hb] at this
  simpa using this
theorem y3L (Od : Orders ops rs) {listed : Array Bool} (hsz : listed.size = ops.length) (h : Region.ready .any ops.toArray listed = []) : ∀ i, i < ops.length → listed.getD i false = true := by
 intro i
 induction i using Nat.strongRecOn with
 | _ i ih =>
  intro hi
  cases hl : listed.getD i false with
  | true => rfl
  | false =>
   exfalso
   have : i ∈ Region.ready .any ops.toArray listed := by
    simp only [Region.ready, List.size_toArray, List.mem_filter, List.mem_range, Bool.and_eq_true, Bool.not_eq_true', List.getElem?_toArray]
    have hs : i < listed.size := by omega
    refine ⟨hi, by simpa [Array.getD, hs] using hl, ?_⟩
    rw [List.getElem?_eq_getElem hi]
    simp only [Option.map_some, Option.getD_some, Array.all_eq_true']
    intro e he
    cases hb : Region.binds .any e with
    | false => rfl
    | true =>
     have hd : dep ops i e.on := ⟨_, List.getElem?_eq_getElem hi, e, he, hb, rfl⟩
     have hlt := Od.lt i e.on hd
     simp only [Bool.not_true, Bool.false_or]
     exact ih e.on hlt (by omega)
   rw [h] at this
   cases this
theorem y4O (hP : u3 X.P = true) (K : Canon X ops s0 rs c) (Od : Orders ops rs) (hok : ∀ o ∈ ops, q6K n o = true) {Q : Exit → Act → World → Prop}
  (hQ : ∀ a w, q7W X ops s0 rs c Γ0 n (fun j => j < ops.length) a w → Q .normal a w) :
  ∀ (fuel : Nat) (listed : Array Bool) (a : Act) (w : World), listed.size = ops.length → fuel + (List.range ops.length).countP (fun j => listed.getD j false) = ops.length →
   (∀ i j, i < ops.length → listed.getD i false = true → dep ops i j → listed.getD j false = true) →
   q7W X ops s0 rs c Γ0 n (fun j => j < ops.length ∧ listed.getD j false = true) a w → wpAny X.P .any ops.toArray Q fuel listed a w := by
 intro fuel
 induction fuel with
 | zero =>
  intro listed a w hsz hc hcl hI
  have hall : ∀ j, j < ops.length → listed.getD j false = true := by
   have : (List.range ops.length).countP (fun j => listed.getD j false) = (List.range ops.length).length := by rw [List.length_range]; omega
   rw [List.countP_eq_length] at this
   exact fun j hj => this j (List.mem_range.2 hj)
  refine ⟨?_, hQ a w (hI.congr fun j => ⟨fun h => h.1, fun h => ⟨h, hall j h⟩⟩)⟩
  apply List.eq_nil_iff_forall_not_mem.2
  intro i hi
  obtain ⟨h1, h2, _⟩ := z4q hsz hi
  rw [hall i h1] at h2; cases h2
 | succ fuel ih =>
  intro listed a w hsz hc hcl hI
  refine ⟨fun hr => hQ a w (hI.congr fun j => ⟨fun h => h.1, fun h => ⟨h, y3L Od hsz hr j h⟩⟩), fun i hi => ?_⟩
  obtain ⟨h1, h2, h3⟩ := z4q hsz hi
  have hD : ∀ i j, (i < ops.length ∧ listed.getD i false = true) → dep ops i j → (j < ops.length ∧ listed.getD j false = true) :=
   fun i j h hd => ⟨by have := Od.lt i j hd; omega, hcl i j h.1 h.2 hd⟩
  have hstep := y5a (Q := Q) hP K Od hok (fun j h => h.1) hD h1 (fun h => by rw [h2] at h; cases h.2) (fun j hd => ⟨by have := Od.lt i j hd; omega, h3 j hd⟩) hI
  refine wpOp_mono ?_ hstep
  intro a' w' hI'
  have hset : ∀ j, (listed.setIfInBounds i true).getD j false = (listed.getD j false || j == i) := by
   intro j
   simp only [Array.getD_eq_getD_getElem?, Array.getElem?_setIfInBounds]
   by_cases hji : i = j
   ·subst hji
    have : i < listed.size := by omega
    simp [this]
   ·have : (j == i) = false := by simpa using fun e => hji e.symm
    simp [hji, this]
  refine ih _ a' w' (by simp [hsz]) ?_ ?_ (hI'.congr fun j => ?_)
  ·have := y1h (p := fun j => listed.getD j false) (q := fun j => (listed.setIfInBounds i true).getD j false) (i := i) h2 hset ops.length h1
   omega
  ·intro k j hk hlk hd
   rw [hset] at hlk ⊢
   rcases Bool.or_eq_true_iff.1 hlk with h | h
   ·rw [hcl k j hk h hd]; rfl
   ·have : k = i := by simpa using h
    subst this
    rw [h3 j hd]; rfl
  ·rw [hset]
   constructor
   ·rintro (h | rfl)
    ·exact ⟨h.1, by rw [h.2]; rfl⟩
    ·exact ⟨h1, by simp⟩
   ·rintro ⟨ha, hb⟩
    rcases Bool.or_eq_true_iff.1 hb with h | h
    ·exact .inl ⟨ha, h⟩
    ·exact .inr (by simpa using h)
theorem y4a (K : Canon X ops s0 rs c) {a : Act} {w : World} (h : At X n Γ0 s0 a w) : q7W X ops s0 rs c Γ0 n (fun j => j < ops.length ∧ (Array.replicate ops.length false).getD j false = true) a w := by
 obtain ⟨Γ, g1, g3, hc, hs, hn, hf, hA⟩ := h
 have no : ∀ j, ¬ (j < ops.length ∧ (Array.replicate ops.length false).getD j false = true) := by
  rintro j ⟨h1, h2⟩
  simp [Array.getD, h1] at h2
 exact ⟨Γ, s0, 0, g1, g3, hc, hA, hn, hf, Nat.zero_le _, .inl rfl, fun k h => absurd h (no k), fun k j x h => absurd h (no j), fun k _ => by rw [K.c0], fun j t h => absurd h (no j), fun t _ => hs t⟩
theorem y7r (K : Canon X ops s0 rs c) (Od : Orders ops rs) {a : Act} {w : World} (h : q7W X ops s0 rs c Γ0 n (fun j => j < ops.length) a w) : At X n Γ0 (c ops.length) a w := by
 obtain ⟨Γ, sD, p, g1, g3, hc, hA, hn, hf, hp0, hp1, hp2, ob1, ob2, ew, e0⟩ := h
 have hpl : p = Z9 rs ops.length := by
  have h1 : p ≤ Z9 rs ops.length := by
   rcases hp1 with h | ⟨k, h1, h2, h3⟩
   ·omega
   ·have := z2n rs ops.length k h3 h2; omega
  have h2 : Z9 rs ops.length ≤ p := by
   rcases z3H rs ops.length with h | ⟨k, h3, h4⟩
   ·omega
   ·have := q2f rs ops.length
    have := hp2 k (by omega) h4
    omega
  omega
 have hom : ∀ k, om (c ops.length) k = om sD k := by
  intro k
  by_cases h : ∃ j x, j < ops.length ∧ p ≤ j ∧ (rs j).t = 1 ∧ (rs j).om k = some x
  ·obtain ⟨j, x, h1, h2, h3, h4⟩ := h
   rw [ob1 k j x h1 h2 h3 h4]
   exact (K.obj k _ (Nat.le_refl _)).1 j x h1 (by rw [← hpl]; exact h2) h3 h4
  ·have hn : ∀ j, j < ops.length → p ≤ j → (rs j).t = 1 → (rs j).om k = none := by
    intro j h1 h2 h3
    cases hr : (rs j).om k with
    | none => rfl
    | some x => exact absurd ⟨j, x, h1, h2, h3, hr⟩ h
   rw [ob2 k hn, hpl]
   exact (K.obj k _ (Nat.le_refl _)).2 fun j h1 h2 h3 => hn j h1 (by rw [hpl]; exact h2) h3
 refine ⟨Γ, g1, g3, hc.om hom, fun t => ?_, hn, hf, by rw [K.A _ (Nat.le_refl _)]; exact hA⟩
 by_cases hw : ∃ j, j < ops.length ∧ writes ops j t
 ·obtain ⟨j, hj, hw⟩ := hw
  rw [K.y2R Od hw _ hj (Nat.le_refl _)]
  exact ew j t hj hw
 ·rw [K.z8g (t := t) _ (Nat.le_refl _) (fun j hj h => hw ⟨j, hj, h⟩)]
  exact e0 t (fun j hj h => hw ⟨j, hj, h⟩)
theorem y8E (hP : u3 X.P = true) (hm : X.P.follows .mixedOrders = true) {id : Nat} {Ψ : Exit → S → Prop} (K : Canon X ops s0 rs c) (Od : Orders ops rs) (hok : ∀ o ∈ ops, q6K n o = true) (h : Ψ .normal (c ops.length)) :
  DC X n (.region id ops.toArray true) s0 Ψ := by
 intro Γ0 a w hat
 obtain ⟨Γ, g1, g3, hc, hs, hn, hf⟩ := hat
 have hat' : At X n Γ0 s0 a { w with drawn := w.drawn + 1 } := by
  exact ⟨Γ, g1, g3, hc.ext (Ext.drew w), hs, hn, hf⟩
 refine wp_region_any hm ?_
 refine y4O hP K Od hok (fun a w hI => ⟨c ops.length, h, y7r K Od hI⟩) ops.length (Array.replicate ops.length false) a _ (by simp) ?_ ?_ (y4a K hat')
 ·have : (List.range ops.length).countP (fun j => (Array.replicate ops.length false).getD j false) = 0 := by
   apply List.countP_eq_zero.2
   intro j hj
   simp [Array.getD, List.mem_range.1 hj]
  omega
 ·intro i j hi hl
  simp [Array.getD, hi] at hl
end
end Go.E
namespace Go.E
open Go
def q9n (o : Oper) : List Nat := (o.after.toList.filter (Region.binds .any)).map (·.on)
def y8q (acc : List Nat) (ds : List Nat) : Nat := ds.foldl (fun m k => m ||| 2 ^ k ||| acc.getD k 0) 0
def z6F : List Oper → List Nat → List Nat
 | [], acc => acc
 | o :: rest, acc => z6F rest (acc ++ [y8q acc (q9n o)])
def y99 (ops : List Oper) (j i : Nat) : Bool := ((z6F ops []).getD i 0).testBit j
theorem z0T (acc : List Nat) (j : Nat) : ∀ (ds : List Nat) (m : Nat), (ds.foldl (fun m k => m ||| 2 ^ k ||| acc.getD k 0) m).testBit j = true → m.testBit j = true ∨ ∃ k ∈ ds, j = k ∨ (acc.getD k 0).testBit j = true
 | [], m, h => .inl h
 | k :: ds, m, h => by
  rcases z0T acc j ds _ h with h1 | ⟨k', hk, h1⟩
  ·simp only [Nat.testBit_or, Bool.or_eq_true, Nat.testBit_two_pow, decide_eq_true_eq] at h1
   rcases h1 with (h1 | h1) | h1
   ·exact .inl h1
   ·exact .inr ⟨k, by simp, .inl h1.symm⟩
   ·exact .inr ⟨k, by simp, .inr h1⟩
  ·exact .inr ⟨k', by simp [hk], h1⟩
theorem y2D {ops : List Oper} {i k : Nat} {o : Oper} (ho : ops[i]? = some o) (h : k ∈ q9n o) : dep ops i k := by
 simp only [q9n, List.mem_map, List.mem_filter] at h
 obtain ⟨e, ⟨h1, h2⟩, h3⟩ := h
 exact ⟨o, ho, e, by simpa using h1, h2, h3⟩
theorem y3b {ops : List Oper} {i k : Nat} {o : Oper} (ho : ops[i]? = some o) (h : dep ops i k) : k ∈ q9n o := by
 obtain ⟨o', h1, e, h2, h3, h4⟩ := h
 rw [ho] at h1; cases h1
 simp only [q9n, List.mem_map, List.mem_filter]
 exact ⟨e, ⟨by simpa using h2, h3⟩, h4⟩
theorem z5A (ops : List Oper) : ∀ (rest done : List Oper) (acc : List Nat), ops = done ++ rest → acc.length = done.length → (∀ i j, (acc.getD i 0).testBit j = true → Anc ops j i) →
  ∀ i j, ((z6F rest acc).getD i 0).testBit j = true → Anc ops j i
 | [], _, acc, _, _, h => h
 | o :: rest, done, acc, he, hl, h => by
  refine z5A ops rest (done ++ [o]) _ (by simp [he]) (by simp [hl]) ?_
  intro i j hij
  have ho : ops[acc.length]? = some o := by rw [he, hl]; simp
  simp only [List.getD_eq_getElem?_getD] at hij
  by_cases hi : i < acc.length
  ·rw [List.getElem?_append_left hi] at hij
   exact h i j (by simpa [List.getD_eq_getElem?_getD] using hij)
  ·by_cases hi2 : i = acc.length
   ·subst hi2
    simp only [List.getElem?_concat_length, Option.getD_some] at hij
    rcases z0T acc j _ _ hij with h1 | ⟨k, hk, h1⟩
    ·simp at h1
    ·have hd := y2D ho hk
     rcases h1 with rfl | h1
     ·exact .one hd
     ·exact .step hd (h k j h1)
   ·rw [List.getElem?_eq_none (by simp; omega)] at hij
    simp at hij
theorem z5B {ops : List Oper} {j i : Nat} (h : y99 ops j i = true) : Anc ops j i :=
 z5A ops ops [] [] rfl rfl (fun i j h => by simp at h) i j h
def tmpsOf : List Operand → List Nat
 | [] => []
 | .tmp t :: l => t :: tmpsOf l
 | _ :: l => tmpsOf l
def lk (ops : Array Oper) (o : Oper) : List Nat :=
 tmpsOf o.op.operands.toList ++ (match o.guard with
  | some (g, _) => (match q2Y ops g with | some t => [t] | none => [])
  | none => [])
theorem z4C {t : Nat} : ∀ {l : List Operand}, Operand.tmp t ∈ l → t ∈ tmpsOf l
 | [], h => by simp at h
 | y :: l, h => by
  rcases List.mem_cons.1 h with h1 | h1
  ·subst h1; simp [tmpsOf]
  ·have := z4C h1
   cases y <;> simp [tmpsOf, this]
theorem y8p {ops : Array Oper} {o : Oper} {t : Nat} (h : t ∈ o.looksAt ops) : t ∈ lk ops o := by
 simp only [Oper.looksAt, List.mem_append, List.mem_filterMap] at h
 simp only [lk, List.mem_append]
 rcases h with ⟨y, hy, ht⟩ | h
 ·left
  cases y <;> simp at ht
  subst ht
  exact z4C hy
 ·right
  cases hg : o.guard with
  | none => simp [hg] at h
  | some x =>
   obtain ⟨g, b⟩ := x
   simp only [hg] at h ⊢
   simp only [q2Y]
   cases hs : (ops[g]?).bind (·.dst) with
   | none => simp [hs] at h
   | some t' => simpa [hs] using h
def z86 (ops : List Oper) (ts : List Nat) : Bool :=
 let m := z6F ops []
 let anc := fun j i => (m.getD i 0).testBit j
 let ix := List.range ops.length
 let both := fun i j => (decide (j < i) && anc j i) || (decide (i < j) && anc i j)
 (ix.all fun i => match ops[i]? with | some o => (q9n o).all fun k => decide (k < i) | none => true) &&
 (ix.all fun i => ts.getD i 0 != 2 || ix.all fun j => ts.getD j 0 == 0 || j == i || both i j) &&
 (ix.all fun j => match (ops[j]?).bind (·.dst) with
  | none => true
  | some t => ix.all fun i => j == i || ((match (ops[i]?).bind (·.dst) with | some t' => t' != t | none => true) &&
    (match ops[i]? with | some o => !(lk ops.toArray o).contains t || both i j | none => true)))
def s00 : S := ⟨[], [], fun _ => none, []⟩
theorem z5N (k : Key) : s00.obj k = none := by cases k <;> rfl
noncomputable def kop (X : Cx) (md : List (Nat × Nat)) (k : Option Nat) (base s : S) (o : Oper) (K0 : V → Prop) (K1 : V → List (Key × O) → List (Nat × Option Nat) → Prop) (K2 : V → S → Prop) : Prop :=
 match k with
 | some 0 => iop X md s00 (w9 o) o (w8 X.gl s) s00 (fun v lo tn => lo = [] ∧ tn = [] ∧ K0 v) ∨ fop X o (w8 X.gl s) K0
 | some 1 => iop X md base (w9 o) o (w8 X.gl s) s K1
 | some 2 => top X md (w9 o) o (w8 X.gl s) s K2
 | _ => False
noncomputable def vd (X : Cx) (md : List (Nat × Nat)) (ops : Array Oper) (Φ : S → Prop) : List Oper → List Nat → S → S → Prop
 | [], _, _, s => Φ s
 | o :: rest, ts, base, s =>
  match o.guard with
  | none => kop X md ts.head? base s o (fun v => vd X md ops Φ rest ts.tail base (s.set o.dst v))
    (fun v lo tn => q2u s lo ∧ q2t s tn ∧ vd X md ops Φ rest ts.tail base ((s.add lo tn).set o.dst v))
    (fun v s' => vd X md ops Φ rest ts.tail (s'.set o.dst v) (s'.set o.dst v))
  | some (j, want) => gx (gv ops s j) want (kop X md ts.head? base s o (fun v => vd X md ops Φ rest ts.tail base (s.set o.dst v))
          (fun v lo tn => q2u s lo ∧ q2t s tn ∧ vd X md ops Φ rest ts.tail base ((s.add lo tn).set o.dst v))
          (fun v s' => vd X md ops Φ rest ts.tail (s'.set o.dst v) (s'.set o.dst v)))
     (vd X md ops Φ rest ts.tail base (s.set o.dst (.tup [])))
end Go.E
namespace Go.E
open Go
def y8k : Res := ⟨0, .any, [], [], s00⟩
def U6 (rl : List Res) (i : Nat) : Res := rl.getD i y8k
def cst (s0 : S) (ops : List Oper) (rl : List Res) : Nat → S
 | 0 => s0
 | i + 1 => match ops[i]? with
  | some o => (cst s0 ops rl i).step o (U6 rl i)
  | none => cst s0 ops rl i
theorem q8p {rl q : List Res} {i : Nat} (h : i < rl.length) : U6 (rl ++ q) i = U6 rl i := by
 simp only [U6, List.getD_eq_getElem?_getD, List.getElem?_append_left h]
theorem z04 (rl : List Res) (r : Res) : U6 (rl ++ [r]) rl.length = r := by
 simp [U6, List.getD_eq_getElem?_getD]
theorem q68 {s0 : S} {ops : List Oper} {rl q : List Res} : ∀ i, i ≤ rl.length → cst s0 ops (rl ++ q) i = cst s0 ops rl i
 | 0, _ => rfl
 | i + 1, h => by
  simp only [cst]
  rw [q68 i (by omega), q8p (by omega)]
theorem q7I {rl q : List Res} : ∀ i, i ≤ rl.length → Z9 (U6 (rl ++ q)) i = Z9 (U6 rl) i
 | 0, _ => rfl
 | i + 1, h => by
  simp only [Z9]
  rw [q7I i (by omega), q8p (by omega)]
section
variable {X : Cx} {ops : List Oper} {s0 : S} {Φ : S → Prop} {ts0 : List Nat} {md : List (Nat × Nat)}
structure Pre (X : Cx) (ops : List Oper) (s0 : S) (ts0 : List Nat) (pre : List Res) : Prop where
 ok : ∀ i o, i < pre.length → ops[i]? = some o → OkR X ops.toArray (cst s0 ops pre (Z9 (U6 pre) i)) (cst s0 ops pre i) o (U6 pre i)
 kind : ∀ i, i < pre.length → (U6 pre i).t = 0 ∨ (U6 pre i).t = ts0.getD i 0
 tri : ∀ i, (U6 pre i).t = 0 ∨ (U6 pre i).t = 1 ∨ (U6 pre i).t = 2
theorem Pre.snoc {pre : List Res} (p : Pre X ops s0 ts0 pre) {o : Oper} (ho : ops[pre.length]? = some o) {r : Res}
  (hok : OkR X ops.toArray (cst s0 ops pre (Z9 (U6 pre) pre.length)) (cst s0 ops pre pre.length) o r) (hk : r.t = 0 ∨ r.t = ts0.getD pre.length 0) (htri : r.t = 0 ∨ r.t = 1 ∨ r.t = 2) : Pre X ops s0 ts0 (pre ++ [r]) := by
 have rl : ∀ i, i < pre.length → U6 (pre ++ [r]) i = U6 pre i := fun i h => q8p h
 have cl : ∀ i, i ≤ pre.length → cst s0 ops (pre ++ [r]) i = cst s0 ops pre i := fun i h => q68 i h
 have tl : ∀ i, i ≤ pre.length → Z9 (U6 (pre ++ [r])) i = Z9 (U6 pre) i := fun i h => q7I i h
 have rlast : U6 (pre ++ [r]) pre.length = r := z04 pre r
 have cases_ : ∀ i, i < (pre ++ [r]).length → i < pre.length ∨ i = pre.length := by intro i h; simp at h; omega
 refine ⟨?_, ?_, ?_⟩
 ·intro i o' hi ho'
  rcases cases_ i hi with h | rfl
  ·rw [rl i h, cl i (by omega), tl i (by omega), cl _ (by have := q2f (U6 pre) i; omega)]
   exact p.ok i o' h ho'
  ·rw [ho] at ho'; cases ho'
   rw [rlast, cl _ (Nat.le_refl _), tl _ (Nat.le_refl _), cl _ (q2f _ _)]
   exact hok
 ·intro i hi
  rcases cases_ i hi with h | rfl
  ·rw [rl i h]; exact p.kind i h
  ·rw [rlast]; exact hk
 ·intro i
  by_cases h : i < pre.length
  ·rw [rl i h]; exact p.tri i
  ·by_cases h2 : i = pre.length
   ·subst h2; rw [rlast]; exact htri
   ·left
    simp only [U6, List.getD_eq_getElem?_getD]
    rw [List.getElem?_eq_none (by simp; omega)]
    rfl
theorem y3t (hP : u3 X.P = true) : ∀ (rest : List Oper) (ts : List Nat) (pre : List Res) (done : List Oper),
  ops = done ++ rest → pre.length = done.length → ts = ts0.drop pre.length → Pre X ops s0 ts0 pre →
  vd X md ops.toArray Φ rest ts (cst s0 ops pre (Z9 (U6 pre) pre.length)) (cst s0 ops pre pre.length) →
  ∃ rl, rl.length = ops.length ∧ Pre X ops s0 ts0 rl ∧ Φ (cst s0 ops rl ops.length)
 | [], ts, pre, done, he, hl, _, p, h => by
  have : pre.length = ops.length := by rw [he, hl]; simp
  exact ⟨pre, this, p, by rw [← this]; simpa [vd] using h⟩
 | o :: rest, ts, pre, done, he, hl, hts, p, h => by
  have ho : ops[pre.length]? = some o := by rw [he, hl]; simp
  have next : ∀ (r : Res), Pre X ops s0 ts0 (pre ++ [r]) →
    vd X md ops.toArray Φ rest ts.tail (if r.t = 2 then (cst s0 ops pre pre.length).step o r else cst s0 ops pre (Z9 (U6 pre) pre.length)) ((cst s0 ops pre pre.length).step o r) →
    ∃ rl, rl.length = ops.length ∧ Pre X ops s0 ts0 rl ∧ Φ (cst s0 ops rl ops.length) := by
   intro r p' hv
   refine y3t hP rest ts.tail (pre ++ [r]) (done ++ [o]) (by simp [he]) (by simp [hl]) ?_ p' ?_
   ·rw [hts]; simp
   ·have e1 : cst s0 ops (pre ++ [r]) (pre ++ [r]).length = (cst s0 ops pre pre.length).step o r := by
     rw [List.length_append]
     simp only [List.length_cons, List.length_nil, Nat.zero_add, cst, ho]
     rw [q68 _ (Nat.le_refl _), z04]
    have e2 : cst s0 ops (pre ++ [r]) (Z9 (U6 (pre ++ [r])) (pre ++ [r]).length) = if r.t = 2 then (cst s0 ops pre pre.length).step o r else cst s0 ops pre (Z9 (U6 pre) pre.length) := by
     have e3 : (pre ++ [r]).length = pre.length + 1 := by simp
     rw [e3]
     simp only [Z9, z04]
     split
     ·rw [← e3]; exact e1
     ·rw [q7I _ (Nat.le_refl _), q68 _ (q2f _ _)]
    rw [e1, e2]
    exact hv
  have kind : ∀ k, ts.head? = some k → k = ts0.getD pre.length 0 := by
   intro k hk
   rw [hts, List.head?_drop] at hk
   simp [List.getD_eq_getElem?_getD, hk]
  simp only [vd] at h
  generalize hs : cst s0 ops pre pre.length = s at *
  have skip : q2z ops.toArray s o = some false → vd X md ops.toArray Φ rest ts.tail (cst s0 ops pre (Z9 (U6 pre) pre.length)) (s.set o.dst (.tup [])) →
    ∃ rl, rl.length = ops.length ∧ Pre X ops s0 ts0 rl ∧ Φ (cst s0 ops rl ops.length) := by
   intro hw hv
   exact next ⟨0, .tup [], [], [], s00⟩ (p.snoc ho (.inl ⟨by rw [hs]; exact hw, rfl, rfl⟩) (.inl rfl) (.inl rfl)) hv
  have go : q2z ops.toArray s o = some true → kop X md ts.head? (cst s0 ops pre (Z9 (U6 pre) pre.length)) s o
      (fun v => vd X md ops.toArray Φ rest ts.tail (cst s0 ops pre (Z9 (U6 pre) pre.length)) (s.set o.dst v))
      (fun v lo tn => q2u s lo ∧ q2t s tn ∧ vd X md ops.toArray Φ rest ts.tail (cst s0 ops pre (Z9 (U6 pre) pre.length)) ((s.add lo tn).set o.dst v))
      (fun v s' => vd X md ops.toArray Φ rest ts.tail (s'.set o.dst v) (s'.set o.dst v)) → ∃ rl, rl.length = ops.length ∧ Pre X ops s0 ts0 rl ∧ Φ (cst s0 ops rl ops.length) := by
   intro hw hr
   unfold kop at hr
   split at hr
   ·rcases hr with hr | hr
    rotate_left
    ·obtain ⟨v, hv, hI⟩ := z7p hP hr
     have hd : y3l X o (w8 X.gl s) v := fun Γ w a s' hgl c hops => hI Γ w a s' c hops
     exact next ⟨0, v, [], [], s00⟩ (p.snoc ho (.inr ⟨by rw [hs]; exact hw, .inl ⟨rfl, by rw [hs]; exact hd⟩⟩) (.inl rfl) (.inl rfl)) hv
    obtain ⟨v, lo, tn, ⟨rfl, rfl, hv⟩, hI⟩ := q8i hP hr
    have hd : y3l X o (w8 X.gl s) v := fun Γ w a s' hgl c hops =>
     hI Γ w a s' hgl c ⟨fun k o h => (by rw [z5N] at h; cases h), fun k o h => (by rw [z5N] at h; cases h)⟩ ⟨fun k o h => (by simp [z7] at h), fun t x h => (by simp [look] at h)⟩ hops
    exact next ⟨0, v, [], [], s00⟩ (p.snoc ho (.inr ⟨by rw [hs]; exact hw, .inl ⟨rfl, by rw [hs]; exact hd⟩⟩) (.inl rfl) (.inl rfl)) hv
   ·rename_i hk
    obtain ⟨v, lo, tn, ⟨hf1, hf2, hv⟩, hI⟩ := q8i hP hr
    exact next ⟨1, v, lo, tn, s00⟩ (p.snoc ho (.inr ⟨by rw [hs]; exact hw, .inr (.inl ⟨rfl, by rw [hs]; exact hI, by rw [hs]; exact z3L hf1 hf2⟩)⟩) (.inr (kind 1 hk)) (.inr (.inl rfl))) hv
   ·rename_i hk
    obtain ⟨v, s1, hv, hT⟩ := z0R hP hr
    exact next ⟨2, v, [], [], s1⟩ (p.snoc ho (.inr ⟨by rw [hs]; exact hw, .inr (.inr ⟨rfl, by rw [hs]; exact hT⟩)⟩) (.inr (kind 2 hk)) (.inr (.inr rfl))) hv
   ·exact hr.elim
  split at h
  ·rename_i hg
   exact go (by simp [q2z, hg]) h
  ·rename_i j want hg
   cases ht : q2Y ops.toArray j with
   | none => simp [gv, ht, gx] at h
   | some t =>
    simp only [gv, ht] at h
    unfold gx at h
    split at h
    ·rename_i cb hb
     by_cases hbw : cb.toBool = want
     ·exact go (by simp [q2z, hg, ht, hb, hbw]) (h.1 hbw)
     ·exact skip (by simp [q2z, hg, ht, hb, hbw]) (h.2 hbw)
    ·rename_i hb
     exact skip (by simp [q2z, hg, ht, hb]) h
    ·exact h.elim
end
section
variable {X : Cx} {n : Nat} {s : S} {Ψ : Exit → S → Prop}
theorem y1Y {ops : List Oper} {i j : Nat} (h : ((decide (j < i) && ((z6F ops []).getD i 0).testBit j) || (decide (i < j) && ((z6F ops []).getD j 0).testBit i)) = true) : (j < i ∧ Anc ops j i) ∨ (i < j ∧ Anc ops i j) := by
 simp only [Bool.or_eq_true, Bool.and_eq_true, decide_eq_true_eq] at h
 rcases h with ⟨h1, h2⟩ | ⟨h1, h2⟩
 ·exact .inl ⟨h1, z5B h2⟩
 ·exact .inr ⟨h1, z5B h2⟩
theorem y3N {ops : List Oper} {ts : List Nat} {s0 : S} {rl : List Res} (hl : rl.length = ops.length) (p : Pre X ops s0 ts rl) (h : z86 ops ts = true) :
  Orders ops (U6 rl) := by
 simp only [z86, Bool.and_eq_true, List.all_eq_true, List.mem_range] at h
 obtain ⟨⟨h1, h2⟩, h3⟩ := h
 refine ⟨?_, ?_, ?_, ?_⟩
 ·intro i j hd
  obtain ⟨o, ho, _⟩ := id hd
  have hi : i < ops.length := (List.getElem?_eq_some_iff.1 ho).1
  have := h1 i hi
  rw [ho] at this
  simp only [List.all_eq_true, decide_eq_true_eq] at this
  exact this j (y3b ho hd)
 ·intro i j hi hj ht htj hji
  have hk := p.kind i (by omega)
  have hti : ts.getD i 0 = 2 := by rcases hk with h | h <;> omega
  have htj' : ts.getD j 0 ≠ 0 := by
   rcases p.kind j (by omega) with h | h
   ·exact absurd h htj
   ·rw [← h]; exact htj
  have := h2 i hi
  rw [hti] at this
  simp only [bne_self_eq_false, Bool.false_or, List.all_eq_true, List.mem_range] at this
  have := this j hj
  have e1 : (ts.getD j 0 == 0) = false := by simpa using htj'
  have e2 : (j == i) = false := by simpa using hji
  rw [e1, e2] at this
  simp only [Bool.false_or] at this
  exact y1Y this
 ·rintro i j t hji ⟨o, ho, hd⟩ ⟨o', ho', hl'⟩
  have hj : j < ops.length := (List.getElem?_eq_some_iff.1 ho).1
  have hi : i < ops.length := (List.getElem?_eq_some_iff.1 ho').1
  have := h3 j hj
  rw [ho] at this
  simp only [Option.bind_some, hd, List.all_eq_true, List.mem_range] at this
  have := this i hi
  have e2 : (j == i) = false := by simpa using hji
  rw [e2, ho'] at this
  have e3 : (lk ops.toArray o').contains t = true := by simpa using y8p hl'
  simp only [Bool.false_or, Bool.and_eq_true, e3, Bool.not_true] at this
  exact y1Y this.2
 ·rintro i j t ⟨o, ho, hd⟩ ⟨o', ho', hd'⟩
  refine Classical.byContradiction fun hne => ?_
  have hi : i < ops.length := (List.getElem?_eq_some_iff.1 ho).1
  have hj : j < ops.length := (List.getElem?_eq_some_iff.1 ho').1
  have := h3 j hj
  rw [ho'] at this
  simp only [Option.bind_some, hd', List.all_eq_true, List.mem_range] at this
  have := this i hi
  have e2 : (j == i) = false := by simpa using fun e => hne e.symm
  rw [e2, ho] at this
  simp [hd] at this
theorem y59 (hP : u3 X.P = true) (hm : X.P.follows .mixedOrders = true) (md : List (Nat × Nat)) {id : Nat} {l : List Oper} (ts : List Nat) (hok : l.all (q6K n) = true) (hord : z86 l ts = true)
  (h : vd X md l.toArray (fun s' => Ψ .normal s') l ts s s) : DC X n (.region id l.toArray true) s Ψ := by
 have p0 : Pre X l s ts [] := ⟨fun i o h => by simp at h, fun i h => by simp at h, fun i => .inl (by simp [U6, y8k])⟩
 obtain ⟨rl, hl, p, hΦ⟩ := y3t hP l ts [] [] rfl rfl (by simp) p0 h
 have K : Canon X l s (U6 rl) (cst s l rl) := ⟨rfl, fun i o ho => by simp only [cst, ho], fun i o ho => p.ok i o (by rw [hl]; exact (List.getElem?_eq_some_iff.1 ho).1) ho, p.tri⟩
 exact y8E hP hm K (y3N hl p hord) (fun o ho => List.all_eq_true.1 hok o ho) hΦ
end
end Go.E
namespace Go.E
open Go
noncomputable def q04 (P : Program) (T : TypeId) (τ : Ty) (op : BinOp) (x y : V) (K : V → Prop) : Prop :=
 match τ with
 | .int k => x.isInt k ∧ (if BinOp.q3J op then y.Z7 ∧ q9y op k x.toInt y.toInt K else y.isInt k ∧ q4X op k x.toInt y.toInt K)
 | .bool => x.isBool ∧ y.isBool ∧ (match op with
   | .eql => K (.d .bool (.bool (x.toBool == y.toBool)))
   | .neq => K (.d .bool (.bool (!(x.toBool == y.toBool))))
   | _ => False)
 | .str => x.isStr ∧ y.isStr ∧ q5Z op x.toStr y.toStr K
 | .ptr => (match op, x.q3Q, y.q3Q with
   | .eql, some a, some true => K (.d .bool (.bool a))
   | .neq, some a, some true => K (.d .bool (.bool (!a)))
   | .eql, some true, some b => K (.d .bool (.bool b))
   | .neq, some true, some b => K (.d .bool (.bool (!b)))
   | _, _, _ => False)
 | .arr n e => H3 P T = true ∧ x.Z1 (.arr n e) ∧ y.Z1 (.arr n e) ∧ q38 op (C.eqb x.toC y.toC) K
 | .struct sz os fs => H3 P T = true ∧ x.Z1 (.struct sz os fs) ∧ y.Z1 (.struct sz os fs) ∧ q38 op (C.eqb x.toC y.toC) K
 | .slice _ _ => (match op, x.z6b, y with
   | .eql, some r, .nilc => K (q5r r)
   | .neq, some r, .nilc => K (q5r (r.map (!·)))
   | _, _, _ => False)
 | _ => False
section
variable {P : Program} {T : TypeId} {x y : V} {K : V → Prop} {op : BinOp}
theorem y5l : z2h P op T x y K = q04 P T (ty P T) op x y K := rfl
theorem y2o {k : IntKind} : q04 P T (.int k) op x y K = (x.isInt k ∧ (if BinOp.q3J op then y.Z7 ∧ q9y op k x.toInt y.toInt K else y.isInt k ∧ q4X op k x.toInt y.toInt K)) := rfl
theorem y2q : q04 P T .bool .eql x y K = (x.isBool ∧ y.isBool ∧ K (.d .bool (.bool (x.toBool == y.toBool)))) := rfl
theorem y2p : q04 P T .bool .neq x y K = (x.isBool ∧ y.isBool ∧ K (.d .bool (.bool (!(x.toBool == y.toBool))))) := rfl
theorem y2n : q04 P T .str op x y K = (x.isStr ∧ y.isStr ∧ q5Z op x.toStr y.toStr K) := rfl
theorem z7O {k : Key} {q : List Nat} {τ : Ty} : q04 P T .ptr .eql (.ptr k q τ) (.d .ptr .nil) K = K (.d .bool (.bool false)) := rfl
theorem z7N {k : Key} {q : List Nat} {τ : Ty} : q04 P T .ptr .neq (.ptr k q τ) (.d .ptr .nil) K = K (.d .bool (.bool true)) := rfl
theorem z7Q : q04 P T .ptr .eql (.d .ptr .nil) (.d .ptr .nil) K = K (.d .bool (.bool true)) := rfl
theorem z7P : q04 P T .ptr .neq (.d .ptr .nil) (.d .ptr .nil) K = K (.d .bool (.bool false)) := rfl
theorem z8S {eb : Nat} {e : Ty} {cs : List C} {t eb' : Nat} {e' : Ty} : q04 P T (.slice eb e) .eql (.sl eb' e' cs t) .nilc K = K (q5r (bif cs.isEmpty then none else some false)) := rfl
theorem z8T {eb : Nat} {e : Ty} {c : C} {eb' : Nat} {e' : Ty} : q04 P T (.slice eb e) .eql (.d (.slice eb' e') c) .nilc K = K (q5r (bif c.elems.isEmpty then none else some false)) := rfl
theorem z8R {eb : Nat} {e : Ty} {k : Key} {q : List Nat} {lo n : Nat} {cp : Option Nat} {eb' : Nat} {e' : Ty} : q04 P T (.slice eb e) .eql (.sr k q lo n cp eb' e') .nilc K = K (q5r (bif n == 0 then none else some false)) := rfl
theorem z7R {eb : Nat} {e : Ty} {eb' : Nat} {e' : Ty} : q04 P T (.slice eb e) .eql (.emp eb' e') .nilc K = K (.top .bool) := rfl
theorem z5Z {eb : Nat} {e : Ty} : q04 P T (.slice eb e) .eql .nilc .nilc K = K (.d .bool (.bool true)) := rfl
theorem y2r {n : Nat} {e : Ty} : q04 P T (.arr n e) op x y K = (H3 P T = true ∧ x.Z1 (.arr n e) ∧ y.Z1 (.arr n e) ∧ q38 op (C.eqb x.toC y.toC) K) := rfl
end
theorem u2 (n : Int) : (C.int n).toInt = n := rfl
theorem Z4 (b : Bool) : (C.bool b).toBool = b := rfl
theorem J0 (l : List UInt8) : (C.str l).toStr = l := rfl
theorem p9 (cs : List C) : (C.slice cs).elems = cs := rfl
theorem z8q (cs : List C) : (C.agg cs).elems = cs := rfl
theorem y4J (cs : List C) (i : Nat) : (C.agg cs).get i = cs.getD i .nil := rfl
theorem y5K (i j : Nat) (x : V) (e : List (Nat × V)) (l : List (Key × O)) (A : Key → Option O) (tk : List (Nat × Option Nat)) : (S.mk ((i, x) :: e) l A tk).get j = if i = j then x else (S.mk e l A tk).get j := by
 simp only [S.get, look]
 split <;> rfl
theorem get_nil (j : Nat) (l : List (Key × O)) (A : Key → Option O) (tk : List (Nat × Option Nat)) : (S.mk [] l A tk).get j = .any := rfl
theorem y5d (e : List (Nat × V)) (l : List (Key × O)) (A : Key → Option O) (tk : List (Nat × Option Nat)) (d : Nat) (x : V) : (S.mk e l A tk).set (some d) x = S.mk (z3s e d x) l A tk := rfl
theorem y5e (s : S) (x : V) : s.set none x = s := rfl
theorem y8l (e : List (Nat × V)) (l : List (Key × O)) (A : Key → Option O) (tk : List (Nat × Option Nat)) (k : Key) (o : O) : (S.mk e l A tk).put k o = S.mk e (z8V l k o) A tk := rfl
theorem y77 (e : List (Nat × V)) (l : List (Key × O)) (A : Key → Option O) (tk : List (Nat × Option Nat)) (t : Nat) (x : Option Nat) : (S.mk e l A tk).tok t x = S.mk e l A (z3s tk t x) := rfl
theorem y8J (e : List (Nat × V)) (l : List (Key × O)) (A : Key → Option O) (tk : List (Nat × Option Nat)) (lo : List (Key × O)) (tn : List (Nat × Option Nat)) : (S.mk e l A tk).add lo tn = S.mk e (lo ++ l) A (tn ++ tk) := rfl
theorem y2y (e : List (Nat × V)) (A : Key → Option O) (tk : List (Nat × Option Nat)) (k : Key) : (S.mk e [] A tk).obj (.g k) = A k := rfl
theorem z9i (e : List (Nat × V)) (A : Key → Option O) (tk : List (Nat × Option Nat)) (n : Nat) : (S.mk e [] A tk).obj (.l n) = none := rfl
theorem y0X (e : List (Nat × V)) (l : List (Key × O)) (A : Key → Option O) (tk : List (Nat × Option Nat)) (j k : Key) (o : O) : (S.mk e ((j, o) :: l) A tk).obj k = if j = k then some o else (S.mk e l A tk).obj k := by
 simp only [S.obj, Z3, z7]
 by_cases h : j = k <;> simp [h]
theorem y7j (e : List (Nat × V)) (l : List (Key × O)) (A : Key → Option O) (tk : List (Nat × Option Nat)) (t : Nat) : (S.mk e l A tk).live t = F4 tk t := rfl
theorem y3T (t : Nat) : F4 [] t = none := rfl
theorem y2G (u : Nat) (x : Option Nat) (tk : List (Nat × Option Nat)) (t : Nat) : F4 ((u, x) :: tk) t = if u = t then x else F4 tk t := by
 simp only [F4, look]
 by_cases h : u = t
 ·simp only [if_pos h]; cases x <;> rfl
 ·simp only [if_neg h]
theorem z9H (e : List (Nat × V)) (l : List (Key × O)) (A : Key → Option O) (t : Nat) : (S.mk e l A []).known t = false := rfl
theorem y73 (τ : Ty) (c : C) (i : Nat) : (V.d τ c).get i = .d (τ.get i) (c.get i) := rfl
theorem y4X (τ : Ty) (vs : List V) (i : Nat) : (V.agg τ vs).get i = vs.getD i .any := rfl
theorem y6U (x : V) : x.at [] = x := by cases x <;> rfl
theorem y41 (x : V) (i : Nat) (q : List Nat) : x.at (i :: q) = (x.get i).at q := by rfl
theorem y6Y (τ : Ty) (c : C) : (V.d τ c).toInt = c.toInt := rfl
theorem y45 (τ : Ty) (c : C) : (V.d τ c).toBool = c.toBool := rfl
theorem y6X (τ : Ty) (c : C) : (V.d τ c).toStr = c.toStr := rfl
theorem y9a (τ : Ty) (c : C) : (V.d τ c).toC = c := rfl
theorem y7U (n : Nat) (e : Ty) (i : Nat) : (Ty.arr n e).get i = e := rfl
theorem y89 (e : List (Nat × V)) (l : List (Key × O)) (A : Key → Option O) (tk : List (Nat × Option Nat)) (k : Key) : (S.mk e l A tk).up k = ((S.mk e l A tk).obj k).map (O.ren .g) := rfl
theorem y30 (k : IntKind) : (Ty.int k).known = true := rfl
theorem y38 (k : IntKind) : (Ty.int k).isAgg = false := rfl
theorem y2I  : (Ty.bool).known = true := rfl
theorem y2O  : (Ty.bool).isAgg = false := rfl
theorem y3X  : (Ty.str).known = true := rfl
theorem y35  : (Ty.str).isAgg = false := rfl
theorem y05 (n : Nat) (e : Ty) : (Ty.slice n e).known = true := rfl
theorem y07 (n : Nat) (e : Ty) : (Ty.slice n e).isAgg = false := rfl
theorem y31 (n : Nat) (e : Ty) : (Ty.arr n e).known = true := rfl
theorem y39 (n : Nat) (e : Ty) : (Ty.arr n e).isAgg = true := rfl
theorem y3Y  : (Ty.ptr).known = true := rfl
theorem y36  : (Ty.ptr).isAgg = false := rfl
theorem y3Z  : (Ty.map).known = true := rfl
theorem y37  : (Ty.map).isAgg = false := rfl
theorem y2H  : (Ty.func).known = true := rfl
theorem y2N  : (Ty.func).isAgg = false := rfl
theorem y06  : (Ty.iface).known = true := rfl
theorem y08  : (Ty.iface).isAgg = false := rfl
theorem y4F (n : Nat) (e : Ty) (i : Nat) : (Ty.arr n e).child i = if i < n then some (i * e.size, e) else none := rfl
theorem y2J (n : Nat) (e : Ty) : (Ty.arr n e).q2r = List.replicate n e := rfl
theorem y3z (n : Nat) (e : Ty) (i : Nat) : (Ty.slice n e).get i = e := rfl
theorem y2C (d : Nat) : c5 [] d = 0 := rfl
noncomputable def vcR (X : Cx) (md : List (Nat × Nat)) (ops : Array Oper) (Φ : S → Prop) (l : List Oper) (s : S) : Prop := vc X md ops Φ l s
noncomputable def vcN (X : Cx) (md : List (Nat × Nat)) (ops : Array Oper) (Φ : S → Prop) : List Unit → List Oper → S → Prop
 | _, [], s => Φ s
 | [], l, s => vcR X md ops Φ l s
 | _ :: n, o :: rest, s => match o.guard with
  | none => sop X md (w9 o) o s fun v s' => vcN X md ops Φ n rest (s'.set o.dst v)
  | some (j, want) => gx (gv ops s j) want (sop X md (w9 o) o s fun v s' => vcN X md ops Φ n rest (s'.set o.dst v)) (vcN X md ops Φ n rest (s.set o.dst (.tup [])))
theorem z8A {X : Cx} {md : List (Nat × Nat)} {ops : Array Oper} {Φ : S → Prop} : ∀ (n : List Unit) (l : List Oper), vcN X md ops Φ n l = vc X md ops Φ l
 | [], [] => by funext s; simp only [vcN, vc]
 | [], o :: rest => by funext s; simp only [vcN, vcR]
 | _ :: n, [] => by funext s; simp only [vcN, vc]
 | _ :: n, o :: rest => by funext s; simp only [vcN, vc, z8A n rest] <;> rfl
theorem q9u {X : Cx} {md : List (Nat × Nat)} {ops : Array Oper} {Φ : S → Prop} (n : List Unit) {l : List Oper} {s : S} (h : vcN X md ops Φ n l s) : vc X md ops Φ l s := by rw [← z8A n]; exact h
noncomputable def vcO (X : Cx) (md : List (Nat × Nat)) (ops : Array Oper) (Φ : S → Prop) (n : List Unit) (o : Oper) (rest : List Oper) (s : S) : Prop := sop X md (w9 o) o s fun v s' => vcN X md ops Φ n rest (s'.set o.dst v)
section
variable {X : Cx} {md : List (Nat × Nat)} {ops : Array Oper} {Φ : S → Prop} {o : Oper} {rest : List Oper} {s : S}
theorem q4y (n : List Unit) (hg : o.guard = none) (h : vcO X md ops Φ n o rest s) : vcR X md ops Φ (o :: rest) s := by
 unfold vcO at h
 rw [z8A n] at h
 unfold vcR
 simp only [vc, hg]
 exact h
theorem p8.mono {f : FuncId} {xs : List V} {A A' : Key → Option O} {v : V} {L : List (Key × O)} (h : p8 X f xs A v L) (hA : ∀ k o, A k = some o → A' k = some o) : p8 X f xs A' v L :=
 fun A'' Γ w args hAA => h A'' Γ w args fun k o hk => hAA k o (hA k o hk)
theorem q16 (n : List Unit) {f : FuncId} {args : Array Operand} {ts : Array TypeId} {xs : List V} {v : V} {L : List (Key × O)} (D : p8 X f xs s.up v L) (ho : o.op = .call { callee := .value (.func f), args := args, argTypes := ts }) (hc : W7 X.P f = true) (hl : ts.toList.length = args.toList.length)
  (hx : Z2 X.P (c5 md (w9 o) == 1) s ts.toList (args.toList.map (w8 X.gl s)) = xs) (hnd : q0q (Q5 (c5 md (w9 o) == 1) s (args.toList.map (w8 X.gl s))) = true)
  (hg : gOk s (w9 o) L) (ht : tOk s (w9 o) (v.tkR 2000)) (h : vcN X md ops Φ n rest ((s.ret (c5 md (w9 o) == 1) (args.toList.map (w8 X.gl s)) (w9 o) v L).set o.dst ((v.X3 2000).ren (dn (w9 o)) (rk (w9 o))))) :
  vcO X md ops Φ n o rest s := by
 unfold vcO sop top
 right; right; left
 rw [ho]
 simp only [w8, Q9, q3v, List.append_nil, List.length_nil, List.replicate_zero]
 exact ⟨hc, hl, hnd, v, L, by rw [hx]; exact D, hg, ht, h⟩
end
section
variable {X : Cx} {md : List (Nat × Nat)} {ops : Array Oper} {Φ : S → Prop} {o : Oper} {rest : List Oper} {ts : List Nat} {base s : S}
end
end Go.E
namespace Go.E
open Go
section
variable {X : Cx} {md : List (Nat × Nat)} {ops : Array Oper} {Φ : S → Prop} {n : List Unit} {u : Unit} {o : Oper} {rest : List Oper} {ts : List Nat} {base s s' : S} {dst : Option Nat} {lo : List (Key × O)} {tn : List (Nat × Option Nat)} {d : Option Nat} {op : Op} {T : TypeId} {ps : String} {af : Array Edge} {j : Nat} {want : Bool}
theorem x4 {x : V} {p q : Prop} (h : x = .d .bool (.bool true)) : gx x true p q = p := by subst h; exact y5 p q
theorem x5 {x : V} {p q : Prop} (h : x = .d .bool (.bool true)) : gx x false p q = q := by subst h; exact y6 p q
theorem x6 {x : V} {p q : Prop} (h : x = .d .bool (.bool false)) : gx x true p q = q := by subst h; exact y7 p q
theorem x7 {x : V} {p q : Prop} (h : x = .d .bool (.bool false)) : gx x false p q = p := by subst h; exact y8 p q
theorem x3 {x : V} {want : Bool} {p q : Prop} (h : x = .tup []) : gx x want p q = q := by subst h; rfl
noncomputable def vcK (X : Cx) (md : List (Nat × Nat)) (ops : Array Oper) (Φ : S → Prop) (rest : List Oper) (dst : Option Nat) (v : V) (s : S) : Prop := vc X md ops Φ rest (s.set dst v)
@[go_sem] theorem x0f : vc X md ops Φ [] s = Φ s := id rfl
@[go_sem] theorem x0m : vc X md ops Φ (⟨d, op, T, ps, af, none⟩ :: rest) s = sop X md (w9 ⟨d, op, T, ps, af, none⟩) ⟨d, op, T, ps, af, none⟩ s (vcK X md ops Φ rest d) := by simp only [vc]; exact id rfl
@[go_sem] theorem x0l : vc X md ops Φ (⟨d, op, T, ps, af, some (j, want)⟩ :: rest) s = gx (gv ops s j) want (sop X md (w9 ⟨d, op, T, ps, af, some (j, want)⟩) ⟨d, op, T, ps, af, some (j, want)⟩ s (vcK X md ops Φ rest d)) (vc X md ops Φ rest (s.set d (.tup []))) := by simp only [vc]; exact id rfl
@[go_sem] theorem x0n (τ : Ty) (c : C) : vcK X md ops Φ rest dst (.d τ c) s = vc X md ops Φ rest (s.set dst (.d τ c)) := id rfl
@[go_sem] theorem x0i (eb : Nat) (e : Ty) (cs : List C) (t : Nat) : vcK X md ops Φ rest dst (.sl eb e cs t) s = vc X md ops Φ rest (s.set dst (.sl eb e cs t)) := id rfl
@[go_sem] theorem y9X  : vcK X md ops Φ rest dst .nilc s = vc X md ops Φ rest (s.set dst .nilc) := id rfl
@[go_sem] theorem x0d (k : Key) (q : List Nat) (τ : Ty) : vcK X md ops Φ rest dst (.ptr k q τ) s = vc X md ops Φ rest (s.set dst (.ptr k q τ)) := id rfl
@[go_sem] theorem y9Y (τ : Ty) (c : C) : vcK X md ops Φ rest dst (.cptr τ c) s = vc X md ops Φ rest (s.set dst (.cptr τ c)) := id rfl
@[go_sem] theorem x0h (k : Key) (q : List Nat) (l0 m : Nat) (cp : Option Nat) (eb : Nat) (e : Ty) : vcK X md ops Φ rest dst (.sr k q l0 m cp eb e) s = vc X md ops Φ rest (s.set dst (.sr k q l0 m cp eb e)) := id rfl
@[go_sem] theorem x0j (k : Key) : vcK X md ops Φ rest dst (.mp k) s = vc X md ops Φ rest (s.set dst (.mp k)) := id rfl
@[go_sem] theorem x0c (vs : List V) : vcK X md ops Φ rest dst (.tup vs) s = vc X md ops Φ rest (s.set dst (.tup vs)) := id rfl
@[go_sem] theorem x0e  : vcK X md ops Φ rest dst .any s = vc X md ops Φ rest (s.set dst .any) := id rfl
noncomputable def y40 (X : Cx) (md : List (Nat × Nat)) (ops : Array Oper) (Φ : S → Prop) (n : List Unit) (rest : List Oper) (dst : Option Nat) (v : V) (s : S) : Prop := vcN X md ops Φ n rest (s.set dst v)
@[go_sem] theorem x0b : vcN X md ops Φ n [] s = Φ s := by simp only [vcN]
@[go_sem] theorem y9W : vcN X md ops Φ [] (o :: rest) s = vcR X md ops Φ (o :: rest) s := by simp only [vcN]
@[go_sem] theorem x0g : vcN X md ops Φ (u :: n) (⟨d, op, T, ps, af, none⟩ :: rest) s = sop X md (w9 ⟨d, op, T, ps, af, none⟩) ⟨d, op, T, ps, af, none⟩ s (y40 X md ops Φ n rest d) := by simp only [vcN]; exact id rfl
@[go_sem] theorem x0k (τ : Ty) (c : C) : y40 X md ops Φ n rest dst (.d τ c) s = vcN X md ops Φ n rest (s.set dst (.d τ c)) := id rfl
@[go_sem] theorem y9Z (vs : List V) : y40 X md ops Φ n rest dst (.tup vs) s = vcN X md ops Φ n rest (s.set dst (.tup vs)) := id rfl
end
end Go.E
namespace Go.E
open Go
mutual
def C.wf : Ty → C → Prop
 | .int k, c => c = .int c.toInt ∧ k.min ≤ c.toInt ∧ c.toInt ≤ k.max
 | .bool, c => c = .bool c.toBool
 | .str, c => c = .str c.toStr ∧ c.toStr.length ≤ 140737488355328
 | .slice eb e, c => c = .slice c.elems ∧ c.elems.length * eb ≤ 140737488355328 ∧ c.elems.length ≤ 9223372036854775807 ∧ ∀ x ∈ c.elems, C.wf e x
 | .arr n e, c => c = .agg c.elems ∧ c.elems.length = n ∧ ∀ x ∈ c.elems, C.wf e x
 | .struct _ _ fs, c => c = .agg c.elems ∧ C.wfs fs c.elems
 | .opq _, _ => False
 | .iface, c => c = .nil ∨ c = .bool true
 | _, c => c = .nil
def C.wfs : List Ty → List C → Prop
 | [], cs => cs = []
 | f :: fs, cs => ∃ c cs', cs = c :: cs' ∧ C.wf f c ∧ C.wfs fs cs'
end
theorem C.y6S {eb : Nat} {e : Ty} {c : C} {i : Nat} (h : C.wf (.slice eb e) c) (hi : i < c.elems.length) : C.wf e (c.elems.getD i .nil) := by
 simp only [C.wf] at h
 rw [List.getD_eq_getElem?_getD, List.getElem?_eq_getElem hi]
 exact h.2.2.2 _ (List.getElem_mem hi)
mutual
theorem y4.wf {H : Hp} : ∀ {τ : Ty} {vs : List Value} {c : C}, y4 H τ vs c → C.wf τ c
 | .int k, vs, c, h => by
  simp only [y4] at h
  obtain ⟨n, rfl, _, h1, h2⟩ := h
  exact ⟨rfl, h1, h2⟩
 | .bool, vs, c, h => by
  simp only [y4] at h
  obtain ⟨n, rfl, _⟩ := h
  rfl
 | .str, vs, c, h => by
  simp only [y4] at h
  obtain ⟨n, rfl, _, h1⟩ := h
  exact ⟨rfl, h1⟩
 | .slice eb e, vs, c, h => by
  simp only [y4] at h
  obtain ⟨a, n, cap, cs, rfl, rfl, h1, h2, h3, h4, h5⟩ := h
  simp only [C.wf, C.elems]
  refine ⟨trivial, by rw [h1]; exact h4, by unfold maxLen at h3; omega, fun x hx => ?_⟩
  obtain ⟨i, hi⟩ := List.getElem?_of_mem hx
  rcases h5 with h5 | ⟨b, off, l, _, _, _, hr⟩
  ·subst h5; have := (List.getElem?_eq_some_iff.1 hi).1; omega
  ·exact y4.wf (hr i x hi)
 | .arr n e, vs, c, h => by
  simp only [y4] at h
  obtain ⟨cs, rfl, h1, h2, h4, h3⟩ := h
  simp only [C.wf, C.elems]
  refine ⟨trivial, h1, fun x hx => ?_⟩
  obtain ⟨i, hi⟩ := List.getElem?_of_mem hx
  exact y4.wf (h3 i x hi)
 | .struct sz os fs, vs, c, h => by
  simp only [y4] at h
  obtain ⟨cs, rfl, _, _, h2⟩ := h
  simp only [C.wf, C.elems]
  exact ⟨trivial, k9.wf h2⟩
 | .ptr, vs, c, h | .map, vs, c, h | .func, vs, c, h => by
  simp only [y4] at h
  simp only [C.wf]; exact h.1
 | .iface, vs, c, h => by
  simp only [y4] at h
  simp only [C.wf]
  rcases h with h | h
  ·exact .inl h.1
  ·exact .inr h.1
 | .opq _, _, _, h => by simp only [y4] at h
theorem k9.wf {H : Hp} : ∀ {fs : List Ty} {os : List Nat} {vs : List Value} {cs : List C}, k9 H fs os vs cs → C.wfs fs cs
 | [], _, _, _, h => by simp only [k9] at h; simp only [C.wfs]; exact h
 | f :: fs, o :: os, vs, cs, h => by
  simp only [k9] at h
  obtain ⟨c, cs', rfl, _, h2, h3⟩ := h
  simp only [C.wfs]
  exact ⟨c, cs', rfl, y4.wf h2, k9.wf h3⟩
 | _ :: _, [], _, _, h => by simp [k9] at h
end
mutual
def V.wf : V → Prop
 | .d τ c => C.wf τ c
 | .sl eb e cs _ => C.wf (.slice eb e) (.slice cs)
 | .ts eb e cs => C.wf (.slice eb e) (.slice cs)
 | .sr _ _ _ n _ eb _ => n * eb ≤ 140737488355328 ∧ n ≤ 9223372036854775807
 | .cptr τ c => C.wf τ c
 | .agg _ vs => V.wfs vs
 | _ => True
def V.wfs : List V → Prop
 | [] => True
 | x :: xs => x.wf ∧ V.wfs xs
end
mutual
theorem q8.wf {Γ : G} {hm : Option Key} : ∀ {x : V} {p : List Nat} {vs : List Value}, q8 Γ hm p x vs → x.wf
 | .d τ c, _, _, h => by simp only [q8] at h; exact h.wf
 | .sl eb e cs t, _, _, h => by simp only [q8] at h; obtain ⟨a, n, cap, _, h, _⟩ := h; exact h.wf
 | .ts eb e cs, _, _, h => by simp only [q8] at h; obtain ⟨a, n, cap, k, _, _, h, _⟩ := h; exact h.wf
 | .sr _ _ _ n _ eb _, _, _, h => by
  simp only [q8] at h
  rcases h with ⟨_, rfl, _⟩ | ⟨b, τ0, o, m, cap, _, _, _, _, h1, h2, h3, _⟩
  ·exact ⟨by rw [Nat.zero_mul]; exact Nat.zero_le _, Nat.zero_le _⟩
  exact ⟨h3, by unfold maxLen at h2; omega⟩
 | .cptr τ c, _, _, h => by simp only [q8] at h; obtain ⟨b, off, l, _, _, _, h⟩ := h; exact h.wf
 | .agg _ vs, _, _, h => by simp only [q8] at h; exact x9.wf h.2.2.2.2
 | .emp _ _, _, _, _ | .nilc, _, _, _ | .ptr _ _ _, _, _, _ | .mp _, _, _, _ | .fn _ _, _, _, _ | .tup _, _, _, _ | .top _, _, _, _ | .any, _, _, _ => by simp only [V.wf]
theorem x9.wf {Γ : G} {hm : Option Key} : ∀ {xs : List V} {p : List Nat} {i : Nat} {τ : Ty} {vs : List Value}, x9 Γ hm p i τ xs vs → V.wfs xs
 | [], _, _, _, _, _ => by simp only [V.wfs]
 | x :: xs, _, _, _, _, h => by
  simp only [x9] at h
  obtain ⟨⟨o, f, _, _, _, h1⟩, h2⟩ := h
  exact ⟨q8.wf h1, x9.wf h2⟩
end
def V.wfT : V → Prop
 | .tup xs => V.wfs xs
 | x => x.wf
theorem v8.wf {Γ : G} : ∀ {xs : List V} {vs : List Value}, v8 Γ xs vs → V.wfs xs
 | [], _, _ => by simp only [V.wfs]
 | x :: xs, _, h => by
  simp only [v8] at h
  obtain ⟨v, vs', _, h1, _, h2⟩ := h
  exact ⟨q8.wf h1, v8.wf h2⟩
theorem q9.wf {Γ : G} {x : V} {v : Value} (h : q9 Γ x v) : x.wfT := by
 cases x
 case any => simp only [V.wfT, V.wf]
 case tup xs => obtain ⟨vs, _, h⟩ := h; exact h.wf
 all_goals exact q8.wf h.1
def O.wf : O → Prop
 | .box x => x.wf
 | .map _ _ es => ∀ c ∈ es, c.2.wf
 | .it _ _ | .dead _ => True
structure WF (s : S) : Prop where
 slot : ∀ t, (s.get t).wfT
 obj : ∀ k x, s.obj k = some (.box x) → x.wf
section
variable {X : Cx} {n : Nat} {s : S} {Ψ : Exit → S → Prop} {c : Code}
theorem At.wf {Γ0 : G} {a : Act} {w : World} (h : At X n Γ0 s a w) : WF s := by
 obtain ⟨Γ, _, _, c, hs, _⟩ := h
 refine ⟨fun t => (hs t).wf, fun k x hk => ?_⟩
 rcases c.obj k _ hk with ⟨_, e, rfl⟩ | ⟨b, cells, T, _, _, _, _, _, h, _⟩
 ·simp [V.wf, C.wf, C.elems]
 exact h.wf
theorem z3V (h : WF s → DC X n c s Ψ) : DC X n c s Ψ := fun Γ0 a w hat => h hat.wf Γ0 a w hat
theorem WF.at {t : Nat} {x : V} (h : WF s) (ht : s.get t = x) : x.wfT := ht ▸ h.slot t
end
theorem q2y {k : IntKind} {n : Int} (h1 : k.min ≤ n) (h2 : n ≤ k.max) : k.wrap n = n := by
 cases k <;> simp [IntKind.wrap, IntKind.min, IntKind.max, IntKind.bits, IntKind.signed] at h1 h2 ⊢ <;> omega
end Go.E
namespace Go.E
open Go
attribute [go_sem] eq_self Option.bind_some Option.bind_none Option.map_some Option.map_none Bool.not_true Bool.not_false decide_true decide_false forall_const true_implies false_implies
attribute [go_sem] implies_true not_true not_false_iff sop iop kop fop sl3 y0y q6j z5s lk List.head?_cons List.tail_cons List.head?_nil
attribute [go_sem] strOf Ty.z9I Op.operands Call.operands q2u q2t top y2C pv q2F z2g z8Q q7x
attribute [go_sem] q55 q2E q7d o8 V.q1l cut y5l y2o y2q y2p y2n z7O
attribute [go_sem] z7N z7Q z7P z8S z8T z8R z7R z5Z q5r y2r Bool.false_eq_true if_true if_false q4X q5Z q9y q38 BinOp.q3J
attribute [go_sem] w9 w8 y0r q5q W5 V.slot q1G V.q0D V.X3 V.tkR S.start y5K
attribute [go_sem] get_nil y5d y5e y8l y77 y8J y2y z9i y0X y7j y3T y2G
attribute [go_sem] z9H y89 O.ren V.ren V.q0f z3s z1G q73 z8V z1H z4k
attribute [go_sem] E.look z7 Nat.zero_ne_one Nat.one_ne_zero Z2 H8 Y0 Q5 q0q Q9 q3v gOk
attribute [go_sem] tOk S.ret q3O q4H q4m dn rk dnL dnT F6 q6D Y3
attribute [go_sem] V.sites V.z0Y V.j9 V.q2s V.okH V.z9g V.j5 V.q0M q2Y Option.getD_some Option.getD_none or_false
attribute [go_sem] false_or and_true true_and and_self or_true true_or or_self List.nil_append List.cons_append List.append_nil V.isInt V.Z7
attribute [go_sem] V.isBool V.isStr V.Z1 y6Y y45 y6X y9a u2 Z4 J0 p9 z8q
attribute [go_sem] y4J y6U y41 y73 y4X y7U V.setAt V.set C.set U8 Q2 q36
attribute [go_sem] q5A V.ty V.plain V.r8 V.Y8 V.q3Q view views b9 q0i List.map_cons List.map_nil
attribute [go_sem] List.getD_cons_zero List.getD_cons_succ List.set_cons_zero List.set_cons_succ List.all_cons List.all_nil Array.getD_eq_getD_getElem? ne_eq not_false_eq_true not_true_eq_false Ty.size y30
attribute [go_sem] y38 y2I y2O y3X y35 y05 y07 y31 y39 y3Y y36 y3Z
attribute [go_sem] y37 y2H y2N y06 y08 y4F y2J y3z Option.isSome_some Option.isSome_none List.getElem?_toArray List.getElem?_cons_zero
attribute [go_sem] List.getElem?_cons_succ List.size_toArray List.length_cons List.length_nil Nat.lt_add_one Nat.zero_lt_succ Bool.and_true Bool.true_and Bool.or_true Bool.true_or Bool.or_false Bool.false_or
attribute [go_sem] cond_true cond_false Key.l.injEq Key.g.injEq Bool.and_eq_true List.contains_nil List.contains_cons Bool.and_self decide_eq_true_eq Nat.not_lt_zero List.replicate List.replicate_zero
@[go_sem] theorem y9B (k : IntKind) : Y6 (.int k) = .int 0 := rfl
@[go_sem] theorem y87 : Y6 .bool = .bool false := rfl
@[go_sem] theorem y9y : Y6 .str = .str [] := rfl
@[go_sem] theorem y8M (eb : Nat) (e : Ty) : Y6 (.slice eb e) = .slice [] := rfl
@[go_sem] theorem y9z : Y6 .ptr = .nil := rfl
@[go_sem] theorem y9A : Y6 .map = .nil := rfl
@[go_sem] theorem y86 : Y6 .func = .nil := rfl
@[go_sem] theorem y8N : Y6 .iface = .nil := rfl
attribute [go_sem] j3 V.d.injEq V.emp.injEq
attribute [go_sem] false_and and_false z5N y5 y8 y6 y7 gv
attribute [go_sem] q3S q1g q7V q7c q8U q18 q9C q9B q0E q0w q1v q4B V.o6 V.q1L O.o6 V.ok V.oks V.q0S q0W O.okB O.ok Z6 j8 List.isEmpty_nil List.isEmpty_cons Option.isSome_some Option.isSome_none
section
variable {X : Cx} {n : Nat} {c : Code} {Ψ : Exit → S → Prop} {md : List (Nat × Nat)} {ops : Array Oper} {Φ : S → Prop} {m : List Unit} {l : List Oper} {ts : List Nat} {dst : Nat} {o : Oper} {K : V → S → Prop} {s s' b b' : S}
theorem y8C : ((0 : Nat) = 100) = False := by simp
attribute [go_sem] lop y8C false_or false_and
end
end Go.E
namespace Go.E
open Go
section
variable {X : Cx} {n : Nat} {s : S} {Ψ : Exit → S → Prop}
theorem z3G {Γ0 : G} {ι : Type} (I : ι → S) (μ : ι → Nat) {a : Act} {w : World} (h : ∃ i, At X n Γ0 (I i) a w) : ∃ m, ∃ i, At X n Γ0 (I i) a w ∧ μ i = m ∧ ∀ j, At X n Γ0 (I j) a w → m ≤ μ j := by
 obtain ⟨i, hi⟩ := h
 have : ∀ m i, μ i = m → At X n Γ0 (I i) a w → ∃ m, ∃ i, At X n Γ0 (I i) a w ∧ μ i = m ∧ ∀ j, At X n Γ0 (I j) a w → m ≤ μ j := by
  intro m
  induction m using Nat.strongRecOn with
  | _ m ih =>
   intro i hm hi
   by_cases h : ∃ j, At X n Γ0 (I j) a w ∧ μ j < m
   ·obtain ⟨j, hj, hlt⟩ := h
    exact ih _ hlt j rfl hj
   ·exact ⟨m, i, hi, hm, fun j hj => Nat.le_of_not_lt fun hlt => h ⟨j, hj, hlt⟩⟩
 exact this _ i rfl hi
theorem y58 {c rest : Code} (l : Nat) (hf : findLabel c l = some rest) {ι : Type} (I : ι → S) (μ : ι → Nat)
  (first : DC X n c s fun e s' => match e with | .goto l' => l' = l ∧ ∃ i, F0 X n s' (I i) | e => Ψ e s')
  (pass : ∀ i, DC X n rest (I i) fun e s' => match e with | .goto l' => l' = l ∧ ∃ j, F0 X n s' (I j) ∧ μ j < μ i | e => Ψ e s') : DC X n (.scope c) s Ψ := by
 intro Γ0 a w hat
 open Classical in
 refine wp_scope_jumps l (fun a w => ∃ i, At X n Γ0 (I i) a w) (fun a w => if h : ∃ i, At X n Γ0 (I i) a w then Classical.choose (z3G I μ h) else 0) hf ?_ ?_
 ·refine wp_mono (first Γ0 a w hat) ?_
  rintro e a' w' ⟨s', h1, h2⟩
  cases e with
  | goto l' =>
   obtain ⟨e1, i, hi⟩ := h1
   exact ⟨e1, i, hi Γ0 a' w' h2⟩
  | normal | exit _ | ret | panic _ | outgrown => exact ⟨s', h1, h2⟩
 ·intro a w hI
  obtain ⟨i, hi, hm, hmin⟩ := Classical.choose_spec (z3G I μ hI)
  refine wp_mono (pass i Γ0 a w hi) ?_
  rintro e a' w' ⟨s', h1, h2⟩
  cases e with
  | goto l' =>
   obtain ⟨e1, j, hj, hlt⟩ := h1
   have hat' := hj Γ0 a' w' h2
   have hI' : ∃ i, At X n Γ0 (I i) a' w' := ⟨j, hat'⟩
   refine ⟨e1, hI', ?_⟩
   obtain ⟨i', hi', hm', hmin'⟩ := Classical.choose_spec (z3G I μ hI')
   have := hmin' j hat'
   rw [dif_pos hI', dif_pos hI]
   omega
  | normal | exit _ | ret | panic _ | outgrown => exact ⟨s', h1, h2⟩
theorem q3T {c : Code} (h : DC X n c s fun e s' => match e with | .goto _ => False | e => Ψ e s') : DC X n (.scope c) s Ψ := by
 intro Γ0 a w hat
 refine wp_scope_straight (wp_mono (h Γ0 a w hat) ?_)
 rintro e a' w' ⟨s', h1, h2⟩
 cases e with
 | goto l' => exact h1.elim
 | normal | exit _ | ret | panic _ | outgrown => exact ⟨s', h1, h2⟩
theorem z8y {t u eb : Nat} {e : Ty} (hu : s.known u = false) (ht : s.get t = .nilc ∨ s.get t = .emp eb e) : F0 X n s (S.set { s with tk := (u, some 0) :: s.tk } (some t) (.sl eb e [] u)) := by
 rintro Γ0 a w ⟨Γ, g1, g3, c, hs, hn, hf, hA⟩
 obtain ⟨c1, p1, g2⟩ := c.W4 hu (x := none) (L := 0) (fun _ _ _ h => by cases h)
 refine ⟨Γ.W4 u none 0, g1.trans g2, g2.gl.trans g3, q7R c1 _ _, fun i => ?_, hn, hf, hA⟩
 rw [q3K]
 split
 ·rename_i e1
  cases e1
  have h0 := hs t
  obtain ⟨a0, ha⟩ : ∃ a0, a.tmps.getD t undef = .slice a0 0 0 := by
   rcases ht with h | h
   ·rw [h] at h0; exact ⟨none, X7 h0⟩
   ·rw [h] at h0
    obtain ⟨h1, _⟩ := (s5 rfl rfl).1 h0
    simp only [q8] at h1
    obtain ⟨a0, h1⟩ := h1
    exact ⟨a0, by simpa using h1⟩
  rw [ha]
  refine (s5 rfl rfl).2 ⟨?_, rfl⟩
  simp only [q8]
  exact ⟨a0, 0, 0, rfl, r6 rfl (Nat.le_refl _) (Nat.zero_le _) (by rw [Nat.zero_mul]; exact Nat.zero_le _) (.inl rfl), none, 0, by simp [G.W4, Q8], Nat.le_refl _, fun _ => rfl⟩
 ·exact (hs i).b5 p1
theorem q94 {c : Code} (I : Nat → S) (m : Nat) (p : Nat → Prop) (h0 : F0 X n s (I 0)) (hp : p 0)
  (round : ∀ i, i ≤ m → p i → DC X n c (I i) fun e s' => match e with | .normal => i < m ∧ p (i + 1) ∧ F0 X n s' (I (i + 1)) | e => Ψ e s') : DC X n (.loop c) s Ψ := by
 refine y1V (ι := { i : Nat // i ≤ m ∧ p i }) (fun i => I i.1) (fun i => m - i.1) ⟨0, Nat.zero_le _, hp⟩ h0 ?_
 rintro ⟨i, hi, hpi⟩
 refine (round i hi hpi).mono ?_
 intro e s' h
 cases e with
 | normal => exact ⟨⟨i + 1, h.1, h.2.1⟩, h.2.2, by have := h.1; simp only; omega⟩
 | goto _ | exit _ | ret | panic _ | outgrown => exact h
theorem y0l {c : Code} {ι : Type} (I : ι → S) (μ : ι → Nat) (p : ι → Prop) (i0 : ι) (h0 : F0 X n s (I i0)) (hp : p i0)
  (round : ∀ i, p i → DC X n c (I i) fun e s' => match e with | .normal => ∃ j, p j ∧ μ j < μ i ∧ F0 X n s' (I j) | e => Ψ e s') : DC X n (.loop c) s Ψ := by
 refine y1V (ι := { i : ι // p i }) (fun i => I i.1) (fun i => μ i.1) ⟨i0, hp⟩ h0 ?_
 rintro ⟨i, hpi⟩
 refine (round i hpi).mono ?_
 intro e s' h
 cases e with
 | normal => obtain ⟨j, h1, h2, h3⟩ := h; exact ⟨⟨j, h1⟩, h3, h2⟩
 | goto _ | exit _ | ret | panic _ | outgrown => exact h
end
attribute [go_sem] q6Q tkW H2
end Go.E
namespace Go.E
open Go
theorem C.y5X (a b : C) : C.eqb a b = C.eqb b a := by
 rw [Bool.eq_iff_iff, C.q0b, C.q0b]; exact eq_comm
theorem z7c {α : Type} : ∀ (es : List (C × α)) (c : C) (v : α) (c' : C), q1f (q0G es c v) c' = if C.eqb c' c = true then some v else q1f es c'
 | [], c, v, c' => by simp only [q0G, q1f]
 | (k, u) :: es, c, v, c' => by
  simp only [q0G]
  by_cases h : C.eqb c k = true
  ·rw [if_pos h]
   have := C.q0b.1 h
   subst this
   simp only [q1f]
   split <;> rfl
  ·rw [if_neg h]
   simp only [q1f]
   by_cases h' : C.eqb c' k = true
   ·rw [if_pos h', if_pos h']
    have := C.q0b.1 h'
    subst this
    have : C.eqb c' c = false := by
     cases hh : C.eqb c' c with
     | false => rfl
     | true => rw [C.y5X] at hh; exact absurd hh h
    rw [this]; simp
   ·rw [if_neg h', if_neg h', z7c es c v c']
noncomputable def y13 (nx : C → C) (c v : C) : C → C := fun c' => if C.eqb c' c = true then v else nx c'
structure z2a (P : Program) (et : TypeId) (τ : Ty) (es : List (C × V)) (nx : C → C) : Prop where
 look : ∀ c, q2V P et es c = .d τ (nx c)
 all : ∀ f g, V.q0S f g es = true
 dat : q0W τ es = true
theorem z9d {f g : Nat → Bool} : ∀ {es : List (C × V)} {c : C} {v : V}, V.q0S f g es = true → v.ok f g = true → V.q0S f g (q0G es c v) = true
 | [], c, v, _, hv => by simp only [q0G, V.q0S, hv, Bool.and_true]
 | (k, u) :: es, c, v, h, hv => by
  simp only [V.q0S, Bool.and_eq_true] at h
  simp only [q0G]
  split
  ·simp only [V.q0S, hv, h.2, Bool.and_true]
  ·simp only [V.q0S, h.1, z9d h.2 hv, Bool.and_true]
theorem z7A {τ : Ty} : ∀ {es : List (C × V)} {c v : C}, q0W τ es = true → q0W τ (q0G es c (.d τ v)) = true
 | [], c, v, _ => by simp only [q0G, q0W, (Ty.beq_iff τ τ).2 rfl, Bool.and_true]
 | (k, u) :: es, c, v, h => by
  simp only [q0W, Bool.and_eq_true] at h
  simp only [q0G]
  split
  ·simp only [q0W, (Ty.beq_iff τ τ).2 rfl, h.2, Bool.and_true]
  ·simp only [q0W, h.1, z7A h.2, Bool.and_true]
theorem z2a.put {P : Program} {et : TypeId} {τ : Ty} {es : List (C × V)} {nx : C → C} (h : z2a P et τ es nx) (c v : C) : z2a P et τ (q0G es c (.d τ v)) (y13 nx c v) := by
 refine ⟨fun c' => ?_, fun f g => z9d (h.all f g) rfl, z7A h.dat⟩
 have := h.look c'
 unfold q2V at this ⊢
 rw [z7c]
 unfold y13
 by_cases e : C.eqb c' c = true
 ·rw [if_pos e, if_pos e]; rfl
 ·rw [if_neg e, if_neg e]; exact this
theorem z2a.nil {P : Program} {et : TypeId} {τ : Ty} (h : j3 (ty P et) = .d τ (Y6 τ)) : z2a P et τ [] (fun _ => Y6 τ) := ⟨fun c => by
 unfold q2V; simp only [q1f, Option.getD_none]; exact h, fun _ _ => rfl, rfl⟩
section
variable {X : Cx} {n : Nat} {s : S} {Ψ : Exit → S → Prop}
end
attribute [go_sem] Ty.flat V.j5 V.q0M
end Go.E
namespace Go.E
open Go
mutual
def V.q1k : V → V
 | .emp eb e => .ts eb e []
 | .agg τ vs => .agg τ (V.q5T vs)
 | x => x
def V.q5T : List V → List V
 | [] => []
 | x :: xs => x.q1k :: V.q5T xs
end
theorem V.z2y (x : V) : x.q1k.ty = x.ty := by cases x <;> simp [V.q1k, V.ty]
theorem V.y24 (x : V) : x.q1k.plain = x.plain := by cases x <;> simp [V.q1k, V.plain]
theorem V.z1N : ∀ xs : List V, (V.q5T xs).length = xs.length
 | [] => rfl
 | x :: xs => by simp [V.q5T, V.z1N xs]
mutual
theorem V.z7t : ∀ x : V, x.q1k.r8 = x.r8
 | .agg τ vs => by simp only [V.q1k, V.r8]; exact V.z5d vs
 | .emp _ _ | .sl _ _ _ _ | .ptr _ _ _ | .sr _ _ _ _ _ _ _ | .mp _ | .d _ _ | .ts _ _ _ | .nilc | .cptr _ _ | .top _ | .any | .fn _ _ | .tup _ => by simp [V.q1k, V.r8]
theorem V.z5d : ∀ xs : List V, V.Y8 (V.q5T xs) = V.Y8 xs
 | [] => rfl
 | x :: xs => by simp only [V.q5T, V.Y8, V.z7t x, V.z5d xs]
end
section
variable {Γ : G} {k : Key}
mutual
theorem q8.q1k : ∀ (x : V) {p : List Nat} {vs : List Value}, q8 Γ (some k) p x vs → q8 Γ (some k) p x.q1k vs
 | .emp eb e, p, vs, h => by
  simp only [q8, V.q1k] at h ⊢
  obtain ⟨a, rfl⟩ := h
  exact ⟨a, 0, 0, k, rfl, rfl, r6 rfl (Nat.le_refl _) (Nat.zero_le _) (by rw [Nat.zero_mul]; exact Nat.zero_le _) (.inl rfl), .inl rfl⟩
 | .agg τ xs, p, vs, h => by
  simp only [q8, V.q1k] at h ⊢
  exact ⟨h.1, h.2.1, by rw [V.z1N]; exact h.2.2.1, h.2.2.2.1, x9.q1k xs h.2.2.2.2⟩
 | .sl _ _ _ _, _, _, h | .ptr _ _ _, _, _, h | .sr _ _ _ _ _ _ _, _, _, h | .mp _, _, _, h | .d _ _, _, _, h | .ts _ _ _, _, _, h | .nilc, _, _, h | .cptr _ _, _, _, h | .top _, _, _, h | .any, _, _, h | .fn _ _, _, _, h | .tup _, _, _, h => h
theorem x9.q1k : ∀ (xs : List V) {p : List Nat} {i : Nat} {τ : Ty} {vs : List Value}, x9 Γ (some k) p i τ xs vs → x9 Γ (some k) p i τ (V.q5T xs) vs
 | [], _, _, _, _, _ => by simp only [V.q5T, x9]
 | x :: xs, _, _, _, _, h => by
  simp only [x9, V.q5T, V.z2y] at h ⊢
  obtain ⟨⟨o, f, h1, h2, h3, h4⟩, h5⟩ := h
  exact ⟨⟨o, f, h1, h2, h3, q8.q1k x h4⟩, x9.q1k xs h5⟩
end
end
theorem y3s {X : Cx} {n : Nat} {s : S} {k : Key} {x : V} (h : s.obj k = some (.box x)) : F0 X n s (s.put k (.box x.q1k)) := by
 rintro Γ0 a w ⟨Γ, g1, g3, c, hs, hn, hf, hA⟩
 refine ⟨Γ, g1, g3, ⟨c.hH, c.hZ, c.hκ, fun j o hj => ?_, fun j hj => ?_, c.z1C (fun j hj => ?_), c.tok, c.tdom, c.hgl, c.hoo, c.hσ⟩, hs, hn, hf, hA⟩
 ·rw [Y7] at hj
  split at hj
  ·rename_i e
   subst e; cases hj
   rcases c.obj _ _ h with ⟨hn, e, rfl⟩ | ⟨b, cells, T, h1, h2, h3, h4, h5, h6, h7, h8⟩
   ·exact .inl ⟨hn, e, rfl⟩
   exact .inr ⟨b, cells, T, by rw [V.z2y]; exact h1, h2, h3, h4, by rw [V.z2y]; exact h5, by rw [V.z2y]; exact q8.q1k x h6, by rw [V.y24]; exact h7, by rw [V.z7t]; exact h8⟩
  ·exact c.obj j o hj
 ·rw [Y7]
  split
  ·simp
  ·exact c.dom j hj
 ·unfold S.c6 at hj ⊢
  rw [Y7]
  split
  ·rename_i e; subst e; rw [h] at hj; cases hj
  ·exact hj
attribute [go_sem] V.q1k V.q5T
end Go.E
namespace Go.E
open Go
theorem y6W {X : Cx} {n : Nat} {s s' : S} {Γ0 Γ : G} {a : Act} {w : World} (g1 : GLe Γ0 Γ) (g3 : Γ.gl = X.gl) (c : y9 Γ w s) (hs : q2l Γ s a.tmps) (hn : a.tmps.size = n) (hf : a.defers = []) (hAok : AOk s.A) (hA : s'.A = s.A) (hloc : q3S s s'.loc) (hlok : q1g (Z6 s'.loc) (H2 s'.tk) s'.loc = true) (hg : q7V s'.loc s.A s.loc)
  (htk : tkW s s'.tk) (henv : q6Q (Z6 s'.loc) (H2 s'.tk) s s'.env) : GLe Γ0 (Γ.part (Z6 s'.loc) (H2 s'.tk)) ∧ (Γ.part (Z6 s'.loc) (H2 s'.tk)).gl = X.gl ∧ y9 (Γ.part (Z6 s'.loc) (H2 s'.tk)) w s' ∧ q2l (Γ.part (Z6 s'.loc) (H2 s'.tk)) s' a.tmps ∧ a.tmps.size = n ∧ a.defers = [] ∧ AOk s'.A := by
 have sub : Sub Γ (Γ.part (Z6 s'.loc) (H2 s'.tk)) (Z6 s'.loc) (H2 s'.tk) :=
  ⟨rfl, rfl, rfl, rfl, rfl, fun _ => rfl, fun n h => by simp [G.part, h], fun t h => by simp [G.part, h], fun _ _ _ _ _ => rfl⟩
 refine ⟨⟨g1.H, g1.Z, g1.ZH, g1.g, g1.gl, g1.oo, g1.σ, g1.gn⟩, g3, c.sub sub rfl (fun n h => by simp [G.part, h]) hA hAok hloc hlok hg (fun b o sz h => ⟨o, h, fun _ h => h⟩) (fun t L h => ?_) (fun t h => ?_), fun i => ?_, hn, hf, by rw [hA]; exact hAok⟩
 ·unfold S.live F4 at h
  cases hl : look s'.tk t with
  | none => simp [hl] at h
  | some x =>
   cases x with
   | none => simp [hl] at h
   | some M =>
    simp [hl] at h; subst h
    have hlive : s.live t = some M := z3m htk hl
    obtain ⟨x, a1, a2⟩ := c.tok t M hlive
    exact ⟨x, by simp [G.part, H2, hl, a1], fun b pos sz hx => a2 b pos sz hx⟩
 ·cases hh : H2 s'.tk t with
  | true => exact hh
  | false => simp [G.part, hh] at h
 ·cases hl : look s'.env i with
  | none => simp [S.get, hl, q9]
  | some x =>
   obtain ⟨e1, e2, e3⟩ := z1L henv hl
   have hget : s'.get i = x := by simp [S.get, hl]
   rw [hget]
   by_cases hx : x = .any
   ·subst hx; trivial
   ·have hr := hs i
    have e3 := e3.resolve_left hx
    refine q9.sub sub e2 ?_
    cases hsi : s.get i with
    | any =>
     rw [hsi] at e1
     cases x <;> simp [V.o6, b9] at e1 hx
    | tup us =>
     rw [hsi] at e1 hr
     cases x <;> simp [V.o6, b9] at e1 hx
     subst e1; exact hr
    | _ =>
     rw [hsi] at e1 hr e3
     have hpl : q8 Γ none [] _ (a.tmps.getD i undef).cells.toList ∧ _ := hr
     obtain ⟨r1, r2⟩ := q8.o6 x _ e1 hpl.1
     have hxp := V.q28 r1 hx
     exact (u0 hxp).2 ⟨r1, by rw [e3]; exact hpl.2⟩
theorem y0J {X : Cx} {n : Nat} {s s' : S} {t j : Nat} {τ : Ty} {x : V} {cc : C} (hslot : s.get t = .ptr (.l j) [] τ) (hobj : s.obj (.l j) = some (.box x)) (hcl : b9 x = some cc) (hτ : x.ty = τ) (hj : Z6 s'.loc j = false)
  (hA : s'.A = s.A) (hloc : q3S s s'.loc) (hlok : q1g (Z6 s'.loc) (H2 s'.tk) s'.loc = true) (hg : q7V s'.loc s.A s.loc)
  (htk : tkW s s'.tk) (henv : q6Q (Z6 s'.loc) (H2 s'.tk) s s'.env) : F0 X n s (s'.set (some t) (.cptr τ cc)) := by
 rintro Γ0 a w ⟨Γ, g1, g3, c, hs, hn, hf, hAok⟩
 obtain ⟨p1, p2, p3, p4, p5, p6, p7⟩ := y6W (X := X) (n := n) (s' := s') g1 g3 c hs hn hf hAok hA hloc hlok hg htk henv
 have hst := hs t
 rw [hslot] at hst
 obtain ⟨b, τ0, off, e1, i2, hv⟩ := q0e hst
 obtain ⟨b2, cells, T, i1, e2, e3, e4, e5, e6, e7, e8⟩ := c.own e1 hobj
 rw [e1] at i1; cases i1
 simp only [Ty.walk, Option.some.injEq, Prod.mk.injEq] at i2
 obtain ⟨rfl, _⟩ := i2
 have hdl : ∀ k o, s'.obj k = some o → s.c6 k = true → o.H4 = true := by
  intro k o ho hd
  unfold S.obj Z3 at ho
  cases hl : z7 s'.loc k with
  | some o1 =>
   rw [hl] at ho; cases ho
   obtain ⟨o0, h1, h2⟩ := q8c hloc hl
   rw [Y5 h1] at hd
   exact O.z7l h2 hd
  | none =>
   cases k with
   | l n => rw [hl] at ho; cases ho
   | g k =>
    have := z2k hA hg hl
    unfold S.c6 at hd
    rw [← this] at hd
    have h2 : S.obj s' (.g k) = some o := by unfold S.obj Z3; exact ho
    rw [h2] at hd; exact hd
 have hno : ∀ k τ o, (Γ.part (Z6 s'.loc) (H2 s'.tk)).ι k = some (b, τ) → s'.obj k = some o → o.H4 = true := by
  intro k τ' o hk hko
  have hk' : Γ.ι k = some (b, τ') ∧ k ≠ .l j := by
   cases k with
   | g k => exact ⟨hk, by simp⟩
   | l m =>
    simp only [G.part] at hk
    split at hk
    ·rename_i hm
     refine ⟨hk, fun e => ?_⟩
     cases e; rw [hj] at hm; cases hm
    ·cases hk
  rcases c.inj k (.l j) b _ _ hk'.1 e1 with e | ⟨e | e, _⟩
  ·exact absurd e hk'.2
  ·exact hdl k o hko e
  ·rw [Y5 hobj] at e; cases e
 obtain ⟨q1, q2, q3⟩ := p3.freeze e4 e2 hno
 have hrc : y4 Γ.H x.ty (chunk cells.toList 0 x.ty.size) cc := q2j _ e6 hcl
 refine ⟨_, ⟨Hp.le_trans p1.H q3, p1.Z, fun b' hb' => ?_, p1.g, p1.gl, p1.oo, p1.σ, p1.gn⟩, p2, q7R q1 _ _, fun i => ?_, p5, p6, p7⟩
 ·refine (U5 _ _ fun e => ?_).trans (p1.ZH b' hb')
  subst e
  exact hb' (by rw [← g1.Z]; exact e3)
 ·rw [q3K]
  split
  ·rename_i e
   cases e
   rw [hv]
   refine q02 (l := cells.toList) (k7 _ _ _) (by rw [← hτ]; simpa using e5) ?_
   rw [← hτ]
   exact hrc.mono q3
  ·exact (p4 i).b5 q2
end Go.E
namespace Go.E
open Go Go.ChangeShapes Go.WideShapes
def q4Y (w : World) : Hp := fun b => match w.heap[b]? with
 | some (.cells c _ _) => some c.toList
 | _ => none
theorem z1E {w : World} {a : Addr} {v : Value} (h : w.cell? a = some v) : ∃ l, q4Y w a.block = some l ∧ l[a.off]? = some v ∧ a.spot = none := by
 unfold World.cell? at h
 unfold q4Y
 split at h
 ·rename_i c _ _ hc
  split at h
  ·cases h
  ·rename_i hs
   refine ⟨c.toList, by simp [hc], by simpa using h, ?_⟩
   cases hh : a.spot <;> simp_all
 ·cases h
mutual
def Ty.dat : Ty → Bool
 | .int _ | .bool | .str => true
 | .slice _ e => e.dat && decide (0 < e.size)
 | .arr _ e => e.dat && decide (0 < e.size)
 | .struct sz os fs => Ty.y0n fs && decide (os.length = fs.length) && (List.range sz).all fun i => (List.range fs.length).any fun j => match os[j]?, fs[j]? with | some o, some f => decide (o ≤ i) && decide (i < o + f.size) | _, _ => false
 | _ => false
def Ty.y0n : List Ty → Bool
 | [] => true
 | f :: fs => f.dat && Ty.y0n fs
end
theorem y0m : ∀ {fs : List Ty} {i : Nat} {f : Ty}, Ty.y0n fs = true → fs[i]? = some f → f.dat = true
 | [], _, _, _, h => by simp at h
 | g :: fs, 0, f, hd, h => by simp [Ty.y0n] at hd h; rw [← h]; exact hd.1
 | g :: fs, i + 1, f, hd, h => by simp [Ty.y0n] at hd; exact y0m hd.2 (by simpa using h)
theorem q5s {α β : Type} {f : α → Option β} : ∀ {l : List α} {r : List β}, l.mapM f = some r → ∀ i : Nat, l[i]?.bind f = r[i]?
 | [], r, h, i => by simp at h; subst h; simp
 | x :: l, r, h, i => by
  rw [List.mapM_cons] at h
  cases hx : f x with
  | none => simp [hx] at h
  | some y =>
   cases hl : l.mapM f with
   | none => simp [hx, hl] at h
   | some ys =>
    simp [hx, hl] at h
    subst h
    cases i with
    | zero => simp [hx]
    | succ i => simpa using q5s hl i
theorem q7C {α β : Type} {f : α → Option β} : ∀ {l : List α} {r : List β}, l.mapM f = some r → r.length = l.length
 | [], r, h => by simp at h; subst h; rfl
 | x :: l, r, h => by
  rw [List.mapM_cons] at h
  cases hx : f x with
  | none => simp [hx] at h
  | some y =>
   cases hl : l.mapM f with
   | none => simp [hx, hl] at h
   | some ys =>
    simp [hx, hl] at h
    subst h
    simp [q7C hl]
theorem z3k {w : World} {base : Nat} {a : Addr} {n : Nat} {cs : List Value} (h : w.cells? base a n = some cs) (hn : 0 < n) :
  ∃ l, q4Y w a.block = some l ∧ a.spot = none ∧ a.off + n ≤ l.length ∧ cs = chunk l a.off n := by
 unfold World.cells? at h
 split at h
 ·have hl := q7C h
  simp at hl
  have hg := q5s h
  have h0 := hg 0
  cases hc : cs[0]? with
  | none => simp at hc; subst hc; simp at hl; omega
  | some v0 =>
   rw [hc] at h0
   simp [List.getElem?_range hn] at h0
   have e0 : a.add 0 = a := by simp [Addr.add]
   rw [e0] at h0
   obtain ⟨l, h1, h2, h3⟩ := z1E h0
   refine ⟨l, h1, h3, ?_, ?_⟩
   ·have hlast := hg (n - 1)
    cases hc' : cs[n - 1]? with
    | none => simp at hc'; omega
    | some v1 =>
     rw [hc'] at hlast
     simp [List.getElem?_range (show n - 1 < n by omega)] at hlast
     obtain ⟨l', g1, g2, _⟩ := z1E hlast
     have eb : (a.add (n - 1)).block = a.block := by unfold Addr.add; split <;> rfl
     have eo : (a.add (n - 1)).off = a.off + (n - 1) := by unfold Addr.add; split <;> simp_all
     rw [eb, h1] at g1; cases g1
     rw [eo] at g2
     have := (List.getElem?_eq_some_iff.1 g2).1
     omega
   ·apply List.ext_getElem?
    intro i
    by_cases hi : i < n
    ·have := hg i
     simp [List.getElem?_range hi] at this
     cases hc' : cs[i]? with
     | none => simp at hc'; omega
     | some v1 =>
      rw [hc'] at this
      obtain ⟨l', g1, g2, _⟩ := z1E this
      have eb : (a.add i).block = a.block := by unfold Addr.add; split <;> rfl
      have eo : (a.add i).off = a.off + i := by unfold Addr.add; split <;> simp_all
      rw [eb, h1] at g1; cases g1
      rw [eo] at g2
      simp [chunk, List.getElem?_take, hi, g2]
    ·rw [List.getElem?_eq_none (by omega)]
     simp [chunk, List.getElem?_take, hi]
 ·cases h
theorem q2x {a b : List Nat} (h : (a ++ b).all (· ≤ reachBytes) = true) : a.all (· ≤ reachBytes) = true ∧ b.all (· ≤ reachBytes) = true := by
 simpa [List.all_append] using h
theorem q5g {H : Type} {P : Program} {e : TypeId} : ∀ {l : List (DataW H)} {i : Nat} {d : DataW H}, l[i]? = some d → (DataW.weightsAll P e l).all (· ≤ reachBytes) = true → (d.weights P e).all (· ≤ reachBytes) = true
 | [], i, d, h, _ => by simp at h
 | x :: l, 0, d, h, hw => by
  simp at h; subst h
  simp only [DataW.weightsAll] at hw
  exact (q2x hw).1
 | x :: l, i + 1, d, h, hw => by
  simp only [DataW.weightsAll] at hw
  exact q5g (by simpa using h) (q2x hw).2
theorem q4x {H : Type} {P : Program} : ∀ {ts : List TypeId} {l : List (DataW H)} {i : Nat} {t : TypeId} {d : DataW H}, ts[i]? = some t → l[i]? = some d → (DataW.weightsEach P ts l).all (· ≤ reachBytes) = true → (d.weights P t).all (· ≤ reachBytes) = true
 | [], _, i, t, d, h, _, _ => by simp at h
 | _ :: _, [], i, t, d, _, h, _ => by simp at h
 | t :: ts, x :: l, 0, t', d, ht, h, hw => by
  simp at ht h; subst ht; subst h
  simp only [DataW.weightsEach] at hw
  exact (q2x hw).1
 | t :: ts, x :: l, i + 1, t', d, ht, h, hw => by
  simp only [DataW.weightsEach] at hw
  exact q4x (by simpa using ht) (by simpa using h) (q2x hw).2
theorem z0l {vs : List Value} (h : ∀ i : Nat, i < vs.length → ∃ o m, o ≤ i ∧ i < o + m ∧ q0K (chunk vs o m)) : q0K vs := by
 intro v hv
 obtain ⟨i, hi, rfl⟩ := List.getElem_of_mem hv
 obtain ⟨o, m, h1, h2, h3⟩ := h i hi
 refine h3 _ ?_
 refine List.mem_of_getElem? (i := i - o) ?_
 simp only [chunk, List.getElem?_take, List.getElem?_drop]
 rw [if_pos (by omega), show o + (i - o) = i by omega, List.getElem?_eq_getElem hi]
mutual
def cOf {H : Type} : DataW H → C
 | .lit (.bool b) => .bool b
 | .lit (.int _ n) => .int n
 | .lit (.string l) => .str l
 | .nil => .slice []
 | .slice es _ => .slice (q8K es)
 | .agg ps => .agg (q8K ps)
 | _ => .nil
def q8K {H : Type} : List (DataW H) → List C
 | [] => []
 | d :: ds => cOf d :: q8K ds
end
theorem z0a {H : Type} : ∀ {ds : List (DataW H)} {i : Nat}, (q8K ds)[i]? = (ds[i]?).map cOf
 | [], i => by simp [q8K]
 | d :: ds, 0 => by simp [q8K]
 | d :: ds, i + 1 => by simp [q8K, z0a]
theorem q99 {H : Type} : ∀ {ds : List (DataW H)}, (q8K ds).length = ds.length
 | [] => rfl
 | d :: ds => by simp [q8K, q99]
section
variable {H : Type} {enc : TypeId × Value → H} {P : Program} {w : World}
theorem q30 (hP : u3 P = true) {base : Nat} {held : Bool} {sp : Nat → Bool} (hsp : ∀ b, sp b = true) : ∀ (fuel f : Nat) {t : TypeId} {cs : List Value} {d : DataW H} {ps : List MemPlace}, t < P.types.size → (tyF P f t).dat = true →
  DataW.trod enc P w base sp held fuel t cs = some (d, ps) → (d.weights P t).all (· ≤ reachBytes) = true → y4 (q4Y w) (tyF P f t) cs (cOf d)
 | 0, f, t, cs, d, ps, _, _, h, _ => by simp [DataW.trod] at h
 | fuel + 1, 0, t, cs, d, ps, _, hf, h, _ => by simp [tyF, Ty.dat] at hf
 | fuel + 1, f + 1, t, cs, d, ps, ht, hf, h, hw => by
  have hok := q3a hP ht
  unfold okT at hok
  unfold tyF at hf ⊢
  rw [if_pos ht] at hf ⊢
  cases hu : P.underlying t with
  | none => simp [hu, Ty.dat] at hf
  | some desc =>
   simp only [hu] at hf hok ⊢
   cases desc with
   | bool =>
    unfold DataW.trod at h
    simp only [hu] at h
    split at h <;> simp_all
    rw [← h.1]
    simp [y4, cOf]
   | int k =>
    unfold DataW.trod at h
    simp only [hu] at h
    split at h <;> simp_all
    obtain ⟨⟨rfl, hh⟩, hd, _⟩ := h
    simp [Lit.wf] at hh
    rw [← hd]
    simp [y4, cOf]; omega
   | string =>
    unfold DataW.trod at h
    simp only [hu] at h
    split at h <;> simp_all
    obtain ⟨hh, rfl, _⟩ := h
    simp [DataW.weights, reachBytes] at hw
    simp only [y4, cOf]
    exact ⟨_, rfl, by simp, by simp; omega⟩
   | slice e =>
    simp only [Ty.dat, Bool.and_eq_true, decide_eq_true_eq] at hf
    simp only [Bool.and_eq_true, beq_iff_eq, decide_eq_true_eq] at hok
    have hsz : (tyF P f e).size = P.cellsOf e := b8 hP f e
    unfold DataW.trod at h
    simp only [hu] at h
    split at h <;> try (simp_all; done)
    ·simp only [Option.some.injEq, Prod.mk.injEq] at h
     rw [← h.1]
     simp only [y4, cOf]
     exact ⟨none, 0, 0, [], rfl, rfl, rfl, Nat.le_refl _, by simp [maxLen], by simp, .inl rfl⟩
    ·rename_i e' a len cap he
     simp at he; subst he
     split at h
     ·rename_i hc
      simp only [Option.bind_eq_some_iff, Option.map_eq_some_iff] at h
      obtain ⟨elems, he1, rest, he2, he3⟩ := h
      simp only [Prod.mk.injEq] at he3
      obtain ⟨rfl, _⟩ := he3
      simp only [DataW.weights, hu, List.all_cons, Bool.and_eq_true, decide_eq_true_eq] at hw
      obtain ⟨hw1, hw2⟩ := hw
      obtain ⟨hw2, hw3⟩ := q2x hw2
      have hl := q7C he1
      simp at hl
      have hbound : len * P.bytesOf e ≤ 140737488355328 := by
       have : len * P.bytesOf e ≤ (elems.length + rest.length) * P.bytesOf e := Nat.mul_le_mul_right _ (by omega)
       simp [reachBytes] at hw1
       omega
      by_cases hz : len = 0
      ·subst hz
       have : elems = [] := by cases elems <;> simp_all
       subst this
       simp only [y4, cOf, List.map_nil, q8K]
       exact ⟨some a, 0, cap, [], rfl, rfl, rfl, Nat.zero_le _, hc.2.2, by simp, .inl rfl⟩
      ·have key : ∀ i, i < len → ∃ l, q4Y w a.block = some l ∧ a.spot = none ∧ (a.off + i * P.cellsOf e) + P.cellsOf e ≤ l.length ∧ ∀ x, elems[i]? = some x → y4 (q4Y w) (tyF P f e) (chunk l (a.off + i * P.cellsOf e) (P.cellsOf e)) (cOf x.1) := by
        intro i hi
        have hg := q5s he1 i
        rw [List.getElem?_range hi] at hg
        have hi' : i < elems.length := by omega
        rw [List.getElem?_eq_getElem hi'] at hg
        simp only [Option.bind_some, Option.bind_eq_some_iff] at hg
        obtain ⟨cs, hc1, hc2⟩ := hg
        obtain ⟨l, q1, q2, q3, q4⟩ := z3k hc1 (by rw [← hsz]; exact hf.2)
        have eb : (a.add (i * P.cellsOf e)).block = a.block := by unfold Addr.add; split <;> rfl
        have eo : (a.add (i * P.cellsOf e)).off = a.off + i * P.cellsOf e := by unfold Addr.add; split <;> simp_all
        have h0 : a.spot = none := by
         have hg0 := q5s he1 0
         rw [List.getElem?_range (by omega), List.getElem?_eq_getElem (by omega)] at hg0
         simp only [Option.bind_some, Option.bind_eq_some_iff] at hg0
         obtain ⟨cs0, hc01, _⟩ := hg0
         obtain ⟨_, _, q, _⟩ := z3k hc01 (by rw [← hsz]; exact hf.2)
         simpa [Addr.add] using q
        rw [eb] at q1; rw [eo] at q3 q4
        subst q4
        have hcr := q30 hP hsp fuel f hok.2 hf.1 hc2 (q5g (i := i) (by simp [List.getElem?_map, List.getElem?_eq_getElem hi']) hw2)
        exact ⟨l, q1, h0, q3, fun x hx => by rw [List.getElem?_eq_getElem hi'] at hx; cases hx; exact hcr⟩
       obtain ⟨l, hl1, hl2, _, _⟩ := key 0 (by omega)
       simp only [y4, cOf]
       refine ⟨some a, len, cap, _, rfl, rfl, by simp [q99, hl], hc.2.1, hc.2.2, hbound, .inr ⟨a.block, a.off, l, ?_, hl1, ?_, fun i c hi => ?_⟩⟩
       ·cases a; simp_all
       ·rw [hsz]
        obtain ⟨l', q1, _, q3, _⟩ := key (len - 1) (by omega)
        rw [hl1] at q1; cases q1
        have : len * P.cellsOf e = (len - 1) * P.cellsOf e + P.cellsOf e := by
         rw [← Nat.succ_mul]; congr 1; omega
        omega
       ·simp only [z0a, List.getElem?_map, Option.map_map, Option.map_eq_some_iff] at hi
        obtain ⟨x, hx, rfl⟩ := hi
        have hi' : i < len := by
         have := (List.getElem?_eq_some_iff.1 hx).1
         omega
        rw [hsz]
        obtain ⟨l', q1, _, _, q4⟩ := key i hi'
        rw [hl1] at q1; cases q1
        exact q4 x hx
     ·cases h
   | array n e =>
    simp only [Ty.dat, Bool.and_eq_true, decide_eq_true_eq] at hf
    simp only [Bool.and_eq_true, beq_iff_eq, decide_eq_true_eq] at hok
    have hsz : (tyF P f e).size = P.cellsOf e := b8 hP f e
    unfold DataW.trod at h
    simp only [hu] at h
    split at h
    ·rename_i hlen
     simp only [Option.map_eq_some_iff] at h
     obtain ⟨elems, he1, he3⟩ := h
     simp only [Prod.mk.injEq] at he3
     obtain ⟨rfl, _⟩ := he3
     simp only [DataW.weights, hu] at hw
     have hl := q7C he1
     simp at hl
     have key : ∀ i x, elems[i]? = some x → y4 (q4Y w) (tyF P f e) (chunk cs (i * P.cellsOf e) (P.cellsOf e)) (cOf x.1) := by
      intro i x hx
      have hg := q5s he1 i
      have hi : i < n := by have := (List.getElem?_eq_some_iff.1 hx).1; omega
      rw [List.getElem?_range hi, hx] at hg
      simp only [Option.bind_some] at hg
      exact q30 hP hsp fuel f hok.2 hf.1 hg (q5g (i := i) (by simp [List.getElem?_map, hx]) hw)
     simp only [y4, cOf]
     refine ⟨_, rfl, by simp [q99, hl], by rw [hsz, hlen, hok.1], z0l fun i hi => ?_, fun i c hi => ?_⟩
     ·have hi2 : i / P.cellsOf e < n := by
       rw [Nat.div_lt_iff_lt_mul (by omega)]
       omega
      have hc := key (i / P.cellsOf e) _ (List.getElem?_eq_getElem (by omega))
      refine ⟨_, _, ?_, ?_, hc.one⟩
      ·exact Nat.div_mul_le_self _ _
      ·have := Nat.lt_div_mul_add (a := i) (b := P.cellsOf e) (by omega)
       omega
     ·simp only [z0a, List.getElem?_map, Option.map_map, Option.map_eq_some_iff] at hi
      obtain ⟨x, hx, rfl⟩ := hi
      rw [hsz]
      exact key i x hx
    ·cases h
   | struct fs =>
    simp only [Ty.dat, Bool.and_eq_true, decide_eq_true_eq, List.all_eq_true, List.any_eq_true, List.mem_range] at hf
    simp only [List.all_eq_true, Bool.and_eq_true, decide_eq_true_eq] at hok
    obtain ⟨⟨hf1, hf2⟩, hf3⟩ := hf
    unfold DataW.trod at h
    simp only [hu] at h
    split at h
    ·rename_i hlen
     simp only [Option.map_eq_some_iff] at h
     obtain ⟨elems, he1, he3⟩ := h
     simp only [Prod.mk.injEq] at he3
     obtain ⟨rfl, _⟩ := he3
     simp only [DataW.weights, hu] at hw
     have hl := q7C he1
     have key : ∀ (i : Nat) g x, fs.toList[i]? = some g → elems[i]? = some x → y4 (q4Y w) (tyF P f g.type) (chunk cs g.offset (P.cellsOf g.type)) (cOf x.1) := by
      intro i g x hi he
      have hg := q5s he1 i
      rw [hi, he] at hg
      simp only [Option.bind_some] at hg
      exact q30 hP hsp fuel f (hok g (List.mem_of_getElem? hi)).1 (y0m (i := i) hf1 (by simp only [List.getElem?_map, hi, Option.map_some])) hg
        (q4x (i := i) (by simp only [List.getElem?_map, hi, Option.map_some]) (by simp only [List.getElem?_map, he, Option.map_some]) hw)
     simp only [y4, cOf]
     refine ⟨_, rfl, hlen, z0l fun i hi => ?_, k9.q57 (by simp [q99, hl]) fun i F c hF hc => ?_⟩
     ·obtain ⟨j, hj, hj2⟩ := hf3 i (by omega)
      split at hj2
      ·rename_i o F ho hF
       simp at hj2
       simp only [List.getElem?_map, Option.map_eq_some_iff] at ho hF
       obtain ⟨g, hg, rfl⟩ := ho
       obtain ⟨g', hg', rfl⟩ := hF
       rw [hg] at hg'; cases hg'
       have hjl := (List.getElem?_eq_some_iff.1 hg).1
       have hc := key j g _ hg (List.getElem?_eq_getElem (by omega))
       rw [b8 hP] at hj2
       exact ⟨_, _, hj2.1, hj2.2, hc.one⟩
      ·cases hj2
     ·simp only [List.getElem?_map, z0a, Option.map_map, Option.map_eq_some_iff] at hF hc
      obtain ⟨g, hg, rfl⟩ := hF
      obtain ⟨x, hx, rfl⟩ := hc
      refine ⟨g.offset, by simp only [List.getElem?_map, hg, Option.map_some], ?_, ?_⟩
      ·rw [b8 hP, hlen]
       exact (hok g (List.mem_of_getElem? hg)).2
      ·rw [b8 hP]
       exact key i g x hg hx
    ·cases h
   | _ => simp [Ty.dat] at hf
end
end Go.E
namespace Go.E
open Go Go.ChangeShapes Go.WideShapes Go.RowKit
def z3n (P : Program) : Bool := (List.range P.types.size).all fun t => match P.underlying t with
 | some (.slice e) => decide (0 < P.cellsOf e)
 | _ => true
def z6I (w : World) (gl : Nat → Option (Ty × C)) : Prop := ∀ g τ c, gl g = some (τ, c) → ∃ l, q4Y w g = some l ∧ τ.size ≤ l.length ∧ y4 (q4Y w) τ (chunk l 0 τ.size) c
def G.start (w : World) (gl : Nat → Option (Ty × C)) : G :=
 { H := q4Y w, Z := fun b => w.heap[b]?, ι := fun _ => none, τ := fun _ => none, κ := fun _ => none, gl := gl, oo := oof w, σ := fun _ => none }
theorem z4z (n : Nat) : ∀ (ts : List Ty) (cs : List C), q1G n (List.zipWith V.d ts cs) = []
 | [], _ => by simp [q1G]
 | _ :: _, [] => by simp [q1G]
 | t :: ts, c :: cs => by simp [q1G, V.q0D, z4z (n + 1) ts cs]
theorem y1o (n : Nat) : ∀ (ts : List Ty) (cs : List C), W5 n (List.zipWith V.d ts cs) = List.zipWith V.d ts cs
 | [], _ => by simp [W5]
 | _ :: _, [] => by simp [W5]
 | t :: ts, c :: cs => by simp [W5, V.slot, y1o (n + 1) ts cs]
theorem y3d {w : World} {gl : Nat → Option (Ty × C)} (h : z6I w gl) (ts : List Ty) (cs : List C) : y9 (G.start w gl) w (S.start (List.zipWith V.d ts cs) fun _ => none) := by
 refine ⟨fun b l hb => ?_, fun b o hb => hb, fun b o sz hb => by simp [G.start] at hb, fun k o hk => ?_, fun k hk => absurd rfl hk, fun k k' b τ τ' hk => by simp [G.start] at hk, fun t L ht => ?_, fun t ht => absurd rfl ht, h, rfl, fun b sz hb => by simp [G.start] at hb⟩
 ·simp only [G.start, q4Y] at hb
  split at hb
  ·rename_i c T fr hc
   cases hb
   exact ⟨c, T, fr, [], hc, by simp⟩
  ·cases hb
 ·cases k <;> simp [S.start, S.obj, Z3, z7] at hk
 ·simp [S.start, S.live, z4z, F4, look] at ht
theorem q8o {H : Type} {enc : TypeId × Value → H} {P : Program} {w : World} {base : Nat} {sp : Nat → Bool} {held : Bool} : ∀ {ts : List TypeId} {vs : List Value} {ds : List (DataW H)} {ps : List MemPlace},
  DataW.TrodAll enc P w base sp held ts vs ds ps → vs.length = ts.length ∧ ds.length = ts.length
 | [], vs, ds, ps, h => by obtain ⟨rfl, rfl, rfl⟩ := trodAll_nil h; simp
 | t :: ts, vs, ds, ps, h => by
  obtain ⟨v, vs, d, ds, p, q, rfl, rfl, rfl, h1, h2⟩ := trodAll_cons h
  have := q8o h2
  simp [this]
theorem z2S {H : Type} {enc : TypeId × Value → H} {P : Program} {w : World} {base : Nat} {sp : Nat → Bool} {held : Bool} : ∀ {ts : List TypeId} {vs : List Value} {ds : List (DataW H)} {ps : List MemPlace} {i : Nat} {t : TypeId} {v : Value} {d : DataW H},
  DataW.TrodAll enc P w base sp held ts vs ds ps → ts[i]? = some t → vs[i]? = some v → ds[i]? = some d → ∃ p, DataW.Trod enc P w base sp held t v d p
 | [], vs, ds, ps, i, t, v, d, h, ht, _, _ => by simp at ht
 | t :: ts, vs, ds, ps, i, t', v', d', h, ht, hv, hd => by
  obtain ⟨v, vs, d, ds, p, q, rfl, rfl, rfl, h1, h2⟩ := trodAll_cons h
  cases i with
  | zero => simp at ht hv hd; subst ht; subst hv; subst hd; exact ⟨p, h1⟩
  | succ i => exact z2S h2 (by simpa using ht) (by simpa using hv) (by simpa using hd)
theorem z0Q {H : Type} {enc : TypeId × Value → H} {P : Program} (hl : laidOutB P = true) (hm : mapsRowed P = true) (hz : z3n P = true) {w w' : World} (hh : ∀ b, b < w.heap.size → w'.heap[b]? = w.heap[b]?) {sp : Nat → Bool} :
  ∀ {ts : List TypeId} {vs : List Value} {ds : List (DataW H)} {ps : List MemPlace}, (∀ t ∈ ts, t < P.types.size) → DataW.TrodAll enc P w 0 (fun _ => true) true ts vs ds ps → (∀ p ∈ ps, sp p.block = true) → DataW.TrodAll enc P w' 0 sp true ts vs ds ps
 | [], vs, ds, ps, _, h, _ => by obtain ⟨rfl, rfl, rfl⟩ := trodAll_nil h; exact trodAll_mk0
 | t :: ts, vs, ds, ps, hts, h, hs => by
  have hlt := DataW.TrodAll.lt h
  obtain ⟨v, vs, d, ds, p, q, rfl, rfl, rfl, ⟨n, h1⟩, h2⟩ := trodAll_cons h
  refine ⟨p, q, ⟨n, DataW.trod_stays (kids_rows hl hm) (fun {t e} ht hu => ?_) (fun h => by cases h) (hts t (by simp)) h1 (fun x hx => ?_) (fun x hx => hs x (by simp [hx]))⟩,
   z0Q hl hm hz hh (fun t ht => hts t (by simp [ht])) h2 (fun x hx => hs x (by simp [hx])), rfl⟩
  ·have := List.all_eq_true.1 hz t (List.mem_range.2 ht)
   simp only [hu] at this
   simpa using this
  ·have := hlt x (by simp; exact .inl hx)
   cases x with
   | cell b off => simp only [World.sameAt, World.cell?]; rw [hh b this]
   | map b => simp only [World.sameAt]; rw [hh b this]
theorem z9f {P : Program} {W : World} {base : Nat} {t : TypeId} {v : Value} (hd : (ty P t).dat = true) (h : Value.okWide P W .any base t v) : u7 v = (ty P t).isAgg := by
 unfold ty tyF at hd ⊢
 split at hd
 ·rename_i ht
  rw [if_pos ht]
  unfold Value.okWide at h
  cases hu : P.underlying t with
  | none => simp [hu, Ty.dat] at hd
  | some d =>
   rw [hu] at h
   cases d <;> simp only [hu, Ty.dat, Ty.isAgg, Bool.false_eq_true] at hd h ⊢
   case struct => obtain ⟨cs, rfl, _⟩ := h; rfl
   case array => obtain ⟨cs, rfl, _⟩ := h; rfl
   all_goals
    unfold Cell.okWide at h
    rw [hu] at h
    cases v <;> simp [Cell.ok, hu] at h <;> rfl
 ·simp [Ty.dat] at hd
section
variable {H : Type} {enc : TypeId × Value → H} {P : Program}
theorem z9G (hP : u3 P = true) (hl : laidOutB P = true) (hm : mapsRowed P = true) (hz : z3n P = true) {f : FuncId} {fn : Func} {s : ChangeSpec} {W : World} {base : Nat} {args : Array Value} {ds gs : List (DataW H)} {before : List MemPlace} {apart fresh handsOn again : Bool}
  (hp : fn.params.toList.all (fun t => decide (t < P.types.size) && (ty P t).dat) = true) {tb : TypeId} (hr : fn.resultTypes = #[tb]) (hb : P.underlying tb = some .bool) (hvars : s.vars = [])
  (hval : ∀ (j : Nat) t v, fn.params[j]? = some t → args[j]? = some v → Value.okWide P W .any base t v)
  (hW : DataW.Whole enc P fn.params.toList s.vars apart W args.toList ds gs before)
  (hwt : (DataW.weightsEach P fn.params.toList ds).all (· ≤ reachBytes) = true) {gl : Nat → Option (Ty × C)} (hgl : z6I W gl)
  (hfr : (s.fn H (ds ++ gs)).results = [.lit (.bool true)]) (hfa : (s.fn H (ds ++ gs)).args = ds) (hfv : (s.fn H (ds ++ gs)).vars = [])
  (law : p8 ⟨P, gl⟩ f (List.zipWith V.d (fn.params.toList.map (ty P)) (ds.map cOf)) (fun _ => none) (.d .bool (.bool true)) []) :
  Calls P f args W fun e W' => ∃ v, e = .returned v ∧ s.post enc P fn apart fresh handsOn again W args v W' := by
 have hW' := hW
 obtain ⟨p, q, hA, hV, rfl, hfz, hnd⟩ := hW
 rw [hvars] at hV
 obtain ⟨rfl, rfl⟩ := trodVars_none hV
 have hlens := q8o hA
 have hpar : ∀ t ∈ fn.params.toList, t < P.types.size ∧ (ty P t).dat = true := by
  intro t ht
  have := List.all_eq_true.1 hp t ht
  simpa using this
 refine (law (fun _ => none) (G.start W gl) W args (fun _ _ h => h) rfl ⟨y3d hgl _ _, fun _ _ h => nomatch h⟩ ?_ ?_).mono ?_
 ·simp only [List.length_zipWith, List.length_map, hlens.2]
  have := hlens.1
  simp at this ⊢
  omega
 ·intro i x u hx hu
  rw [y1o, List.getElem?_zipWith] at hx
  split at hx
  ·rename_i τ c hτ hc
   cases hx
   simp only [List.getElem?_map, Option.map_eq_some_iff] at hτ hc
   obtain ⟨t, ht, rfl⟩ := hτ
   obtain ⟨d, hd, rfl⟩ := hc
   have hu' : args.toList[i]? = some u := by simpa using hu
   obtain ⟨ps, fuel, htr⟩ := z2S hA ht hu' hd
   have hm := hpar t (List.mem_of_getElem? ht)
   have hv := hval i t u (by simpa using ht) hu
   refine (u0 rfl).2 ⟨?_, ?_⟩
   ·simp only [q8]
    exact q30 hP (fun _ => rfl) fuel 12 hm.1 hm.2 htr (q4x ht hd hwt)
   ·simp only [V.ty]
    exact z9f hm.2 hv
  ·cases hx
 ·rintro e W' ⟨u, Γ', rfl, gle, c', hu⟩
  have hu' : u = .bool true := (X8 hu).1
  subst hu'
  refine ⟨_, rfl, ?_⟩
  have hold : ∀ b, b < W.heap.size → W'.heap[b]? = W.heap[b]? := by
   intro b hb
   have : Γ'.Z b = some W.heap[b] := by rw [gle.Z]; simp [G.start, hb]
   rw [c'.hZ b _ this]; simp [hb]
  have hoo : oof W' = oof W := by rw [c'.hoo, gle.oo]; rfl
  have hpl : ∀ t ∈ fn.params.toList, t < P.types.size := fun t ht => (hpar t ht).1
  have hblt : ∀ x ∈ p, x.block < W.heap.size := DataW.TrodAll.lt hA
  have hres : ∀ (b : Nat) (sp : Nat → Bool) (hd : Bool), DataW.TrodAll enc P W' b sp hd fn.resultTypes.toList ((Value.bool true).resultList fn.resultTypes.size) [.lit (.bool true)] [] := by
   intro b sp hd
   rw [hr]
   exact trodAll_mk1 (shut_bool hb _)
  have hstay : ∀ sp : Nat → Bool, (∀ x ∈ p, sp x.block = true) → DataW.TrodAll enc P W' 0 sp true fn.params.toList args.toList ds p := fun sp hs => z0Q hl hm hz hold hpl hA hs
  refine ⟨ds, [], p ++ [], [], p, [], hW', ?_, ?_, ?_, ?_, fun _ => ⟨?_, [.lit (.bool true)] ++ ds, [], ([] ++ p) ++ [], ⟨[] ++ p, [], trodAll_append (hstay _ (fun _ _ => rfl)) (hres _ _ _), by rw [hvars]; rfl, rfl, ?_, ?_⟩, ?_⟩⟩
  ·rw [hfr]; exact hres _ _ _
  ·rw [hfa]; exact hstay _ (fun x hx => by simpa using hblt x hx)
  ·rw [hfv, hvars]; rfl
  ·refine ⟨congrArg Prod.fst hoo, congrArg Prod.snd hoo, fun i hi => ?_⟩
   rw [hold i hi]
   cases hc : W.heap[i]? with
   | none => rfl
   | some o => cases o <;> simp
  ·intro j t r hj hrr
   rw [hr] at hj hrr
   cases j with
   | zero =>
    simp at hj; subst hj
    have : r = .bool true := by simpa [Value.resultList] using hrr.symm
    subst this
    exact okWide_bool_mk hb _
   | succ j => simp at hj
  ·intro b off hx
   have hx' : MemPlace.cell b off ∈ p := by simpa using hx
   have := hfz b off (by simpa using hx')
   unfold World.frozen? at this ⊢
   rw [hold b (hblt _ hx')]
   exact this
  ·intro ha
   simpa using hnd ha
  ·intro x hx _
   simpa using hx
end
end Go.E
namespace Go.E
open Go
def z8n {α : Type} : List (Nat × α) → Nat → List (Nat × α)
 | [], _ => []
 | (j, x) :: l, i => if j = i then z8n l i else (j, x) :: z8n l i
def z8o {α : Type} : List (Key × α) → Key → List (Key × α)
 | [], _ => []
 | (j, x) :: l, i => if j = i then z8o l i else (j, x) :: z8o l i
def S.less (s : S) (t j : Nat) : S := ⟨z8n s.env t, z8o s.loc (.l j), s.A, s.tk⟩
attribute [go_sem] z8n z8o S.less
end Go.E
namespace Go.E
open Go
section
variable {X : Cx} {md : List (Nat × Nat)} {ops : Array Oper} {Φ : S → Prop} {rest : List Oper} {ts : List Nat} {o : Oper} {base s : S}
end
end Go.E
namespace Go.E
open Go
def y5z : Nat → List Nat → Bool
 | _, [] => false
 | i, j :: l => if i = j then true else y5z i l
def y2K {α : Type} : List (Nat × α) → List Nat → List (Nat × α)
 | [], _ => []
 | (j, x) :: l, ks => if y5z j ks then (j, x) :: y2K l ks else y2K l ks
attribute [go_sem] y5z y2K
mutual
def C.beq : C → C → Bool
 | .int a, .int b => decide (a = b)
 | .bool a, .bool b => a == b
 | .str a, .str b => decide (a = b)
 | .agg a, .agg b => C.q46 a b
 | .slice a, .slice b => C.q46 a b
 | .nil, .nil => true
 | _, _ => false
def C.q46 : List C → List C → Bool
 | [], [] => true
 | x :: xs, y :: ys => C.beq x y && C.q46 xs ys
 | _, _ => false
end
mutual
theorem C.beq_iff : ∀ (a b : C), C.beq a b = true ↔ a = b
 | .int a, b => by cases b <;> simp [C.beq]
 | .bool a, b => by cases b <;> simp [C.beq]
 | .str a, b => by cases b <;> simp [C.beq]
 | .agg a, b => by cases b <;> simp [C.beq, C.q5C a]
 | .slice a, b => by cases b <;> simp [C.beq, C.q5C a]
 | .nil, b => by cases b <;> simp [C.beq]
theorem C.q5C : ∀ (a b : List C), C.q46 a b = true ↔ a = b
 | [], b => by cases b <;> simp [C.q46]
 | x :: xs, [] => by simp [C.q46]
 | x :: xs, y :: ys => by simp [C.q46, C.beq_iff x, C.q5C xs]
end
instance : DecidableEq C := fun a b => decidable_of_iff _ (C.beq_iff a b)
theorem C.z2x (a b : C) : C.eqb a b = C.beq a b := by
 rw [Bool.eq_iff_iff, C.q0b, C.beq_iff]
def V.isAny : V → Bool
 | .any => true
 | _ => false
theorem V.q2J {x : V} (h : x.isAny = false) : x ≠ .any := by
 intro e; subst e; cases h
instance (k : IntKind) (x : V) : Decidable (x.isInt k) := by unfold V.isInt; split <;> infer_instance
instance (x : V) : Decidable x.isBool := by unfold V.isBool; split <;> infer_instance
instance (x : V) : Decidable x.isStr := by unfold V.isStr; split <;> infer_instance
instance (x : V) : Decidable x.Z7 := by unfold V.Z7; split <;> infer_instance
instance (τ : Ty) (x : V) : Decidable (x.Z1 τ) := by unfold V.Z1; split <;> infer_instance
def y9v (op : BinOp) (k : IntKind) (a b : Int) : Option V :=
 match op with
 | .add => some (.d (.int k) (.int (k.wrap (a + b))))
 | .sub => some (.d (.int k) (.int (k.wrap (a - b))))
 | .mul => some (.d (.int k) (.int (k.wrap (a * b))))
 | .quo => if b ≠ 0 then some (.d (.int k) (.int (k.wrap (a.tdiv b)))) else none
 | .rem => if b ≠ 0 then some (.d (.int k) (.int (a.tmod b))) else none
 | .and | .or | .xor | .andNot => some (.d (.int k) (.int (q0A op k a b)))
 | .eql => some (.d .bool (.bool (decide (a = b))))
 | .neq => some (.d .bool (.bool (!decide (a = b))))
 | .lss => some (.d .bool (.bool (decide (a < b))))
 | .leq => some (.d .bool (.bool (decide (a ≤ b))))
 | .gtr => some (.d .bool (.bool (decide (b < a))))
 | .geq => some (.d .bool (.bool (decide (b ≤ a))))
 | _ => none
def y95 (op : BinOp) (k : IntKind) (a b : Int) : Option V :=
 match op with
 | .shl => if 0 ≤ b then some (.d (.int k) (.int (k.wrap (a * 2 ^ (min b.toNat k.bits))))) else none
 | .shr => if 0 ≤ b then some (.d (.int k) (.int (a.fdiv (2 ^ (min b.toNat k.bits))))) else none
 | _ => none
def y9s (op : BinOp) (a b : List UInt8) : Option V :=
 match op with
 | .add => if a.length + b.length ≤ 140737488355328 then some (.d .str (.str (a ++ b))) else none
 | .eql => some (.d .bool (.bool (a == b)))
 | .neq => some (.d .bool (.bool (!(a == b))))
 | .lss => some (.d .bool (.bool (Op.bytesLess a b)))
 | .leq => some (.d .bool (.bool (Op.bytesLess a b || a == b)))
 | .gtr => some (.d .bool (.bool (!(Op.bytesLess a b || a == b))))
 | .geq => some (.d .bool (.bool (!Op.bytesLess a b)))
 | _ => none
def y6K (op : BinOp) (b : Bool) : Option V :=
 match op with
 | .eql => some (.d .bool (.bool b))
 | .neq => some (.d .bool (.bool (!b)))
 | _ => none
def y4p (op : BinOp) (x y : Bool) : Option V :=
 match op with
 | .eql => some (.d .bool (.bool (x == y)))
 | .neq => some (.d .bool (.bool (!(x == y))))
 | _ => none
def y5V (op : BinOp) (x y : Option Bool) : Option V :=
 match op, x, y with
 | .eql, some a, some true => some (.d .bool (.bool a))
 | .neq, some a, some true => some (.d .bool (.bool (!a)))
 | .eql, some true, some b => some (.d .bool (.bool b))
 | .neq, some true, some b => some (.d .bool (.bool (!b)))
 | _, _, _ => none
def y7D (op : BinOp) (x : Option (Option Bool)) (y : V) : Option V :=
 match op, x, y with
 | .eql, some r, .nilc => some (q5r r)
 | .neq, some r, .nilc => some (q5r (r.map (!·)))
 | _, _, _ => none
def y9w (P : Program) (op : BinOp) (T : TypeId) (x y : V) : Option V :=
 match ty P T with
 | .int k => if x.isInt k then (if BinOp.q3J op then (if y.Z7 then y95 op k x.toInt y.toInt else none) else (if y.isInt k then y9v op k x.toInt y.toInt else none)) else none
 | .bool => if x.isBool ∧ y.isBool then y4p op x.toBool y.toBool else none
 | .str => if x.isStr ∧ y.isStr then y9s op x.toStr y.toStr else none
 | .ptr => y5V op x.q3Q y.q3Q
 | .arr n e => if H3 P T = true ∧ x.Z1 (.arr n e) ∧ y.Z1 (.arr n e) then y6K op (C.beq x.toC y.toC) else none
 | .struct sz os fs => if H3 P T = true ∧ x.Z1 (.struct sz os fs) ∧ y.Z1 (.struct sz os fs) then y6K op (C.beq x.toC y.toC) else none
 | .slice _ _ => y7D op x.z6b y
 | _ => none
def y7C (P : Program) (T : TypeId) (x : V) (lo hi mx : Option V) : Option V :=
 match ty P T with
 | .str => (match o8 lo 0, o8 hi x.toStr.length with
   | some l, some h => if x.isStr ∧ mx.isNone ∧ 0 ≤ l ∧ l ≤ h ∧ h ≤ x.toStr.length then some (.d .str (.str ((x.toStr.take h.toNat).drop l.toNat))) else none
   | _, _ => none)
 | .slice eb e => (match x with
   | .sr k q lo0 n cp eb' e' => if eb' = eb ∧ e' = e then (match o8 lo 0, o8 hi n, mx with
     | some l, some h, none => if 0 ≤ l ∧ l ≤ h ∧ h ≤ n then some (.sr k q (lo0 + l.toNat) (h - l).toNat (cp.map (· - l.toNat)) eb e) else none
     | some l, some h, some m => if hi.isSome = true then (match o8 (some m) 0 with
       | some m => if 0 ≤ l ∧ l = h ∧ h = m ∧ m ≤ n then some (.emp eb e) else none
       | none => none) else none
     | _, _, _ => none) else none
   | x => (match x.q1l with
    | some (eb', e', cs) => if eb' = eb ∧ e' = e then (match o8 lo 0, o8 hi cs.length, mx with
     | some l, some h, none => if 0 ≤ l ∧ l ≤ h ∧ h ≤ cs.length then some (.d (.slice eb e) (.slice (cut cs l h))) else none
     | some l, some h, some m => if hi.isSome = true then (match o8 (some m) 0 with
       | some m => if 0 ≤ l ∧ l = h ∧ h = m ∧ m ≤ cs.length then some (.emp eb e) else none
       | none => none) else none
     | _, _, _ => none) else none
    | none => none))
 | _ => (match z1b P T with
  | some (n, eb, e) => if n * eb ≤ 140737488355328 ∧ n ≤ maxLen ∧ mx.isNone then (match o8 lo 0, o8 hi n with
    | some l, some h => if 0 ≤ l ∧ l ≤ h ∧ h ≤ n then (match x with
      | .ptr k q τ => if τ = .arr n e then some (.sr k q l.toNat (h - l).toNat (some (n - l.toNat)) eb e) else none
      | .cptr τ c => if τ = .arr n e then some (.d (.slice eb e) (.slice (cut c.elems l h))) else none
      | _ => none) else none
    | _, _ => none) else none
  | none => none)
def y9u (P : Program) (T : TypeId) (x : V) : Option V :=
 match ty P T, x with
 | .str, .d τ c => if τ = .str then some (.d (.int .i64) (.int c.toStr.length)) else none
 | .slice _ _, .nilc => some (.d (.int .i64) (.int 0))
 | .slice _ _, .sr _ _ _ n _ _ _ => some (.d (.int .i64) (.int n))
 | .slice eb e, x => (match x.q1l with
   | some (eb', e', cs) => if eb' = eb ∧ e' = e then some (.d (.int .i64) (.int cs.length)) else none
   | none => none)
 | .arr n _, _ => if (n : Int) ≤ 9223372036854775807 then some (.d (.int .i64) (.int n)) else none
 | _, _ => none
def y1c (P : Program) (T : TypeId) (x i : V) : Option V :=
 if i.Z7 then
 match ty P T, x with
 | .slice eb e, .sr k q lo n _ eb' e' => if eb' = eb ∧ e' = e ∧ 0 ≤ i.toInt ∧ i.toInt < n then some (.ptr k (q ++ [lo + i.toInt.toNat]) e) else none
 | .slice eb e, x => (match x.q1l with
   | some (eb', e', cs) => if eb' = eb ∧ e' = e ∧ 0 ≤ i.toInt ∧ i.toInt < cs.length then some (.cptr e (cs.getD i.toInt.toNat .nil)) else none
   | none => none)
 | .arr n e, .ptr k q τ => if τ = .arr n e ∧ 0 ≤ i.toInt ∧ i.toInt < n then some (.ptr k (q ++ [i.toInt.toNat]) e) else none
 | .arr n e, .cptr τ c => if τ = .arr n e ∧ 0 ≤ i.toInt ∧ i.toInt < n then some (.cptr e (c.get i.toInt.toNat)) else none
 | _, _ => none
 else none
def y1d (P : Program) (T : TypeId) (x : V) (i : Nat) : Option V :=
 match x with
 | .ptr k q τ => if τ = ty P T ∧ τ.J3 = true ∧ (τ.child i).isSome = true ∧ (τ.get i).size ≠ 0 then some (.ptr k (q ++ [i]) (τ.get i)) else none
 | .cptr τ c => if τ = ty P T ∧ τ.J3 = true ∧ (τ.child i).isSome = true ∧ (τ.get i).size ≠ 0 then some (.cptr (τ.get i) (c.get i)) else none
 | _ => none
def y94 (P : Program) (op : UnOp) (T : TypeId) (x : V) : Option V :=
 match ty P T, op with
 | .bool, .not => if x.isBool then some (.d .bool (.bool (!x.toBool))) else none
 | .int k, .neg => if x.isInt k then some (.d (.int k) (.int (k.wrap (0 - x.toInt)))) else none
 | _, _ => none
def y8y (P : Program) (src dst : TypeId) (x : V) : Option V :=
 match ty P src, ty P dst with
 | .int k, .int k2 => if x.isInt k then some (.d (.int k2) (.int (k2.wrap x.toInt))) else none
 | .str, .str => if x.isStr then some x else none
 | _, _ => none
def y4o (P : Program) (b : Builtin) (ts : Array TypeId) (xs : List V) : Option V :=
 match b, xs with
 | .len, [x] => if 0 < ts.size then y9u P (ts.getD 0 0) x else none
 | .min, [x, y] => (match x with
   | .d (.int k) _ => if y.isInt k then some (.d (.int k) (.int (if y.toInt < x.toInt then y.toInt else x.toInt))) else none
   | _ => none)
 | .max, [x, y] => (match x with
   | .d (.int k) _ => if y.isInt k then some (.d (.int k) (.int (if x.toInt < y.toInt then y.toInt else x.toInt))) else none
   | _ => none)
 | _, _ => none
def z9X (P : Program) (op : Op) (ρ : Operand → V) : Option V :=
 match op with
 | .move x => some (ρ x)
 | .assign x => some (ρ x)
 | .pick c a b => if (ρ c).isBool then some (bif (ρ c).toBool then ρ a else ρ b) else none
 | .nilCheck x => if (ρ x).q3Q = some false then some (ρ x) else none
 | .binOp op T x y _ => y9w P op T (ρ x) (ρ y)
 | .unOp op T x => y94 P op T (ρ x)
 | .convert src dst x => y8y P src dst (ρ x)
 | .fieldAddr T x i => y1d P T (ρ x) i
 | .field T x i => if (ρ x).ty = ty P T ∧ (ρ x).ty.J3 = true ∧ ((ρ x).ty.child i).isSome = true ∧ ((ρ x).ty.get i).known = true ∧ (ρ x).plain = true ∧ ((ρ x).get i).isAny = false then some ((ρ x).get i) else none
 | .indexAddr T x i => y1c P T (ρ x) (ρ i)
 | .index T x i => if (ρ i).Z7 then (match ty P T with
   | .arr n e => if (ρ x).ty = .arr n e ∧ (ρ x).plain = true ∧ e.known = true ∧ 0 ≤ (ρ i).toInt ∧ (ρ i).toInt < n ∧ ((ρ x).get (ρ i).toInt.toNat).isAny = false then some ((ρ x).get (ρ i).toInt.toNat) else none
   | .str => if (ρ x).isStr ∧ 0 ≤ (ρ i).toInt ∧ (ρ i).toInt < (ρ x).toStr.length then some (.d (.int .u8) (.int ((ρ x).toStr.getD (ρ i).toInt.toNat 0).toNat)) else none
   | _ => none) else none
 | .slice T x lo hi mx => y7C P T (ρ x) (lo.map ρ) (hi.map ρ) (mx.map ρ)
 | .extract x i => (match ρ x with
   | .tup xs => xs[i]?
   | _ => none)
 | .makeFunc fn first caps => (match fn, first.toList with
   | .func f, [] => if (caps.toList.map ρ).all V.plain = true then some (.fn f (caps.toList.map ρ)) else none
   | _, _ => none)
 | .call c => (match c.callee with
   | .builtin b => y4o P b c.argTypes (c.args.toList.map ρ)
   | _ => none)
 | _ => none
def S.wA (s : S) (A : Key → Option O) : S := { s with A := A }
def leA (A A' : Key → Option O) : Prop := ∀ k o, A k = some o → A' k = some o
theorem U3 {s : S} {A' : Key → Option O} (hA : leA s.A A') {k : Key} {o : O} (h : s.obj k = some o) : (s.wA A').obj k = some o := by
 simp only [S.obj, Z3, S.wA] at h ⊢
 cases hl : z7 s.loc k with
 | some x => rw [hl] at h; exact h
 | none =>
  rw [hl] at h
  cases k with
  | l n => cases h
  | g k => exact hA _ _ h
theorem q3c (s : S) (A' : Key → Option O) (n : Nat) : (s.wA A').obj (.l n) = s.obj (.l n) := rfl
theorem F7 (gl : Nat → Option (Ty × C)) (s : S) (A' : Key → Option O) : w8 gl (s.wA A') = w8 gl s := by
 funext y; cases y <;> rfl
theorem y14 {s : S} {A' : Key → Option O} (hA : leA s.A A') : leA s.up (s.wA A').up := by
 intro k o h
 simp only [S.up, Option.map_eq_some_iff] at h ⊢
 obtain ⟨x, h1, h2⟩ := h
 exact ⟨x, U3 hA h1, h2⟩
theorem y7i (s : S) (A' : Key → Option O) (t : Nat) : (s.wA A').live t = s.live t := rfl
theorem q9Z {s : S} {A' : Key → Option O} (hA : leA s.A A') {x : V} {r : Nat × Ty × List C} (h : Y3 s x = some r) : Y3 (s.wA A') x = some r := by
 cases x <;> simp only [Y3] at h ⊢ <;> try exact h
 split at h
 ·rename_i y hy
  rw [U3 hA hy]
  exact h
 ·cases h
def y6I (P : Program) (s : S) (t' : TypeId) (eb : Nat) (e : Ty) (Y : V) : Option (List C) :=
 match ty P t' with
 | .slice _ _ => (match Y with
  | .nilc => some []
  | Y => match Y3 s Y with
   | some (eb', e', ys) => if eb' = eb ∧ e' = e then some ys else none
   | none => none)
 | .str => if e = .int .u8 ∧ eb = 1 ∧ Y.isStr then some (Y.toStr.map fun b => C.int b.toNat) else none
 | _ => none
def z14 (τ : Ty) : V → List (Nat × V) → Bool
 | _, [] => true
 | x, (i, v) :: rest => (τ.child i).isSome && decide ((Q2 (τ.get i) v).ty = τ.get i) && (Q2 (τ.get i) v).plain && !(x.at [i]).isAny && z14 τ (x.setAt [i] (Q2 (τ.get i) v)) rest
theorem z7x {τ : Ty} : ∀ {l : List (Nat × V)} {x : V}, z14 τ x l = true → q5A τ x l
 | [], _, _ => trivial
 | (i, v) :: rest, x, h => by
  simp only [z14, Bool.and_eq_true, decide_eq_true_eq, Bool.not_eq_true'] at h
  exact ⟨h.1.1.1.1, h.1.1.1.2, h.1.1.2, V.q2J h.1.2, z7x h.2⟩
abbrev RI := V × List (Key × O) × List (Nat × Option Nat)
def y5W (P : Program) (m : Nat) (dst : Nat) (s : S) (t t' : TypeId) (x y : V) : Option RI :=
 if Q0 P (v7 P t) = true then
 match ty P t with
 | .slice eb e => (match x with
  | .emp _ _ | .nilc => (match y6I P s t' eb e y with
    | some ys => if m = 3 then (if ys.isEmpty = false then some (.sr (.l dst) [] 0 ys.length none eb e, [(.l dst, .box (.d (.arr ys.length e) (.agg ys)))], []) else none) else some (.sl eb e ys dst, [], [(dst, some ys.length)])
    | none => none)
  | _ => none)
 | _ => none
 else none
def y8x (P : Program) (s : S) (T : TypeId) (k : Key) : Option V :=
 match q2c P T, s.obj k with
 | some _, some (.map _ _ es) => if es.length ≤ 9223372036854775807 then some (.d (.int .i64) (.int es.length)) else none
 | _, _ => none
def z4G {α : Type} : List (C × α) → C → Option α
 | [], _ => none
 | (k, v) :: es, c => if C.beq c k = true then some v else z4G es c
def z4t {α : Type} : List (C × α) → C → α → List (C × α)
 | [], c, v => [(c, v)]
 | (k, u) :: es, c, v => if C.beq c k = true then (k, v) :: es else (k, u) :: z4t es c v
theorem z8U {α : Type} (c : C) (v : α) : ∀ (es : List (C × α)), z4t es c v = q0G es c v
 | [] => rfl
 | (k, u) :: es => by simp only [z4t, q0G, C.z2x, z8U c v es]
def evI (X : Cx) (m : Nat) (dst : Nat) (o : Oper) (ρ : Operand → V) (s : S) : Option RI :=
 match o.op with
 | .load T x => if Nat.beq m 18 = true then none else (match ρ x with
   | .ptr k q τ => (match s.obj k with
     | some (.box y) => if (y.at q).isAny = false ∧ τ = ty X.P T ∧ τ.known = true then some (view (y.at q), [], []) else none
     | _ => none)
   | .cptr τ c => if τ = ty X.P T ∧ τ.known = true then some (.d τ c, [], []) else none
   | _ => none)
 | .alloc T => if Q0 X.P T = true then some (.ptr (.l dst) [] (ty X.P T), [(.l dst, z58 (ty X.P T) T)], []) else none
 | .box _ x => if m ≠ 5 ∧ (ρ x).plain = true ∧ (ρ x).r8 = true then some (.ptr (.l dst) [] (ρ x).ty, [(.l dst, .box (ρ x))], []) else none
 | .buildSlice t len parts => (match ty X.P t with
   | .slice eb e => (match len with
    | 0 => if parts.toList.length = 0 then some (.emp eb e, [], []) else none
    | len + 1 => if Q0 X.P (v7 X.P t) = true ∧ e.size ≠ 0 ∧ (len + 1) * e.size ≤ 16777216 ∧ (len + 1) * eb ≤ 140737488355328 ∧ parts.toList.map (·.1) = List.range (len + 1) then
      (match q0i (parts.toList.map fun x => ρ x.2) with
       | some cs => if m ≠ 4 ∧ (parts.toList.map (fun x => ρ x.2)).all (fun x => decide (x.ty = e) && x.plain) = true then some (.d (.slice eb e) (.slice cs), [], []) else none
       | none => none) else none)
   | _ => none)
 | .build T parts => if Q0 X.P T = true ∧ (ty X.P T).J4 = true ∧ (ty X.P T).isAgg = true ∧ z14 (ty X.P T) (j3 (ty X.P T)) (parts.toList.map fun p => (p.1, ρ p.2)) = true then
   some (q36 (ty X.P T) (j3 (ty X.P T)) (parts.toList.map fun p => (p.1, ρ p.2)), [], []) else none
 | .makeSlice t l c => (match ty X.P t with
   | .slice eb e => if Q0 X.P (v7 X.P t) = true ∧ (ρ l).Z7 ∧ (ρ c).Z7 ∧ 0 ≤ (ρ l).toInt ∧ (ρ l).toInt ≤ (ρ c).toInt ∧ (ρ c).toInt ≤ 9223372036854775807 ∧ (ρ c).toInt.toNat * eb ≤ 140737488355328 ∧ e.size ≠ 0 then
     some (.sr (.l dst) [] 0 (ρ l).toInt.toNat (if m = 9 then none else some (ρ c).toInt.toNat) eb e, [(.l dst, .box (.d (.arr (ρ l).toInt.toNat e) (.agg (List.replicate (ρ l).toInt.toNat (Y6 e)))))], []) else none
   | _ => none)
 | .makeMap T r => (match r, q2c X.P T with
   | none, some (kt, et) => some (.mp (.l dst), [(.l dst, .map (ty X.P kt) (ty X.P et) [])], [])
   | _, _ => none)
 | .lookup T x i ok => (match q2c X.P T, ρ x with
   | some (kt, et), .mp k => (match s.obj k with
     | some (.map kτ _ es) => if kτ = ty X.P kt ∧ H3 X.P kt = true ∧ Q0 X.P et = true ∧ (ρ i).Z1 kτ then
       some (if ok then .tup [(z4G es (ρ i).toC).getD (j3 (ty X.P et)), .d .bool (.bool (z4G es (ρ i).toC).isSome)] else (z4G es (ρ i).toC).getD (j3 (ty X.P et)), [], []) else none
     | _ => none)
   | _, _ => none)
 | .call c => (match c.callee with
   | .value _ => none
   | .builtin .append => (match c.args.toList, c.argTypes.toList with
     | [x, y], [t, t'] => y5W X.P m dst s t t' (ρ x) (ρ y)
     | _, _ => none)
   | .builtin .len => (match c.args.toList, c.argTypes.toList with
     | [x], [T] => (match ρ x with
       | .mp k => (y8x X.P s T k).map fun v => (v, [], [])
       | _ => (z9X X.P o.op ρ).map fun v => (v, [], []))
     | _, _ => (z9X X.P o.op ρ).map fun v => (v, [], []))
   | _ => (z9X X.P o.op ρ).map fun v => (v, [], []))
 | .convert src dst' x => (match strOf X.P s src dst' (ρ x) with
   | some ys => some (.d .str (.str (ys.map q69)), [], [])
   | none => (z9X X.P o.op ρ).map fun v => (v, [], []))
 | _ => (z9X X.P o.op ρ).map fun v => (v, [], [])
theorem y49 {P : Program} {s : S} {A' : Key → Option O} (hA : leA s.A A') {src dst : TypeId} {x : V} {ys : List C} (h : strOf P s src dst x = some ys) : strOf P (s.wA A') src dst x = some ys := by
 cases hel : Y3 s x with
 | some r =>
  rw [← h]
  unfold strOf
  rw [hel, q9Z hA hel]
 | none =>
  unfold strOf at h ⊢
  rw [hel] at h
  split at h
  ·split at h
   ·rename_i h0
    rw [if_pos h0]
    split at h
    ·exact h
    ·cases h
   ·cases h
  ·cases h
theorem z8D {P : Program} {s : S} {src dst : TypeId} {x : V} {ys : List C} {K : V → Prop} (h : strOf P s src dst x = some ys) : ¬ q7x P src dst x K := by
 unfold strOf at h
 split at h
 ·rename_i ht hd
  unfold q7x
  rw [ht, hd]
  exact id
 ·cases h
theorem z3I (A' : Key → Option O) : ∀ (σ : List (Nat × List Nat)) (s : S), F6 σ (s.wA A') = (F6 σ s).wA A'
 | [], _ => rfl
 | (t, _) :: σ, s => by simp only [F6]; exact z3I A' σ (s.tok t none)
theorem y1v (A' : Key → Option O) (d : Nat) : ∀ (L : List (Key × O)) (s : S), q3O d L (s.wA A') = (q3O d L s).wA A'
 | [], _ => rfl
 | (k, o) :: L, s => by simp only [q3O, y1v A' d L s]; rfl
theorem y1u (A' : Key → Option O) (d : Nat) : ∀ (L : List (Nat × Option Nat)) (s : S), q4H d L (s.wA A') = (q4H d L s).wA A'
 | [], _ => rfl
 | (k, o) :: L, s => by simp only [q4H, y1u A' d L s]; rfl
theorem y1S (A' : Key → Option O) : ∀ (L : List Nat) (s : S), q4m L (s.wA A') = (q4m L s).wA A'
 | [], _ => rfl
 | t :: L, s => by simp only [q4m, y1S A' L s]; rfl
theorem y6i (A' : Key → Option O) (tip : Bool) (s : S) (x : V) : Y0 tip (s.wA A') x = Y0 tip s x := rfl
theorem z1c (A' : Key → Option O) (tip : Bool) (s : S) : ∀ (ys : List V), Q5 tip (s.wA A') ys = Q5 tip s ys
 | [] => rfl
 | y :: ys => by simp only [Q5, z1c A' tip s ys, y6i]
theorem z7y (A' : Key → Option O) (P : Program) (tip : Bool) (s : S) : ∀ (Ts : List TypeId) (ys : List V), Z2 P tip (s.wA A') Ts ys = Z2 P tip s Ts ys
 | [], _ => rfl
 | _ :: _, [] => rfl
 | T :: Ts, y :: ys => by
  simp only [Z2, z7y A' P tip s Ts ys]
  rfl
theorem y3E (A' : Key → Option O) (s : S) (tip : Bool) (ys : List V) (d : Nat) (v : V) (L : List (Key × O)) : (s.wA A').ret tip ys d v L = (s.ret tip ys d v L).wA A' := by
 simp only [S.ret, z1c, y1v, y1S, y1u]
def q4l (s : S) (d : Nat) : List (Key × O) → Bool
 | [] => true
 | (.g k, _) :: L => (s.obj k).isSome && q4l s d L
 | (.l j, _) :: L => (s.obj (.l (rk d j))).isNone && q4l s d L
theorem z2s {s : S} {A' : Key → Option O} (hA : leA s.A A') {d : Nat} : ∀ {L : List (Key × O)}, q4l s d L = true → gOk (s.wA A') d L
 | [], _ => trivial
 | (.g k, _) :: L, h => by
  simp only [q4l, Bool.and_eq_true] at h
  obtain ⟨o, ho⟩ := Option.isSome_iff_exists.1 h.1
  exact ⟨by rw [U3 hA ho]; rfl, z2s hA h.2⟩
 | (.l j, _) :: L, h => by
  simp only [q4l, Bool.and_eq_true] at h
  exact ⟨by rw [q3c]; simpa using h.1, z2s hA h.2⟩
def q5j (s : S) (d : Nat) : List (Nat × Option Nat) → Bool
 | [] => true
 | (m, _) :: l => !s.known (rk d m) && q5j s d l
theorem z5G {s : S} {A' : Key → Option O} {d : Nat} : ∀ {L : List (Nat × Option Nat)}, q5j s d L = true → tOk (s.wA A') d L
 | [], _ => trivial
 | (m, _) :: L, h => by
  simp only [q5j, Bool.and_eq_true, Bool.not_eq_true'] at h
  exact ⟨h.1, z5G h.2⟩
def J7 (s : S) : List (Key × O) → Bool
 | [] => true
 | (.l n, _) :: l => (s.obj (.l n)).isNone && J7 s l
 | (.g _, _) :: _ => false
theorem q66 {s : S} {A' : Key → Option O} : ∀ {L : List (Key × O)}, J7 s L = true → q2u (s.wA A') L
 | [], _ => trivial
 | (.l n, _) :: L, h => by
  simp only [J7, Bool.and_eq_true] at h
  exact ⟨by rw [q3c]; simpa using h.1, q66 h.2⟩
 | (.g _, _) :: _, h => by simp [J7] at h
def q2K (s : S) : List (Nat × Option Nat) → Bool
 | [] => true
 | (t, _) :: l => !s.known t && q2K s l
theorem q65 {s : S} {A' : Key → Option O} : ∀ {L : List (Nat × Option Nat)}, q2K s L = true → q2t (s.wA A') L
 | [], _ => trivial
 | (t, _) :: L, h => by
  simp only [q2K, Bool.and_eq_true, Bool.not_eq_true'] at h
  exact ⟨h.1, q65 h.2⟩
def evT (X : Cx) (m : Nat) (dst : Nat) (o : Oper) (ρ : Operand → V) (s : S) : Option (V × S) :=
 match o.op with
 | .store T p y => (match ρ p with
   | .ptr k q τ => (match s.obj k with
     | some (.box x) => if τ = ty X.P T ∧ τ.known = true ∧ (Q2 τ (ρ y)).ty = τ ∧ (Q2 τ (ρ y)).plain = true ∧ (x.at q).isAny = false ∧ x.ty.J4 = true ∧ (Q2 τ (ρ y)).okH = true then
       some (.any, F6 ((Q2 τ (ρ y)).sites s.live q) (s.put k (.box (x.setAt q ((Q2 τ (ρ y)).j9 ((Q2 τ (ρ y)).sites s.live q) s.live q))))) else none
     | _ => none)
   | _ => none)
 | .box _ x => if (ρ x).plain = true ∧ (ρ x).okH = true ∧ (s.obj (.l dst)).isNone then
   some (.ptr (.l dst) [] (ρ x).ty, F6 ((ρ x).sites s.live []) (s.put (.l dst) (.box ((ρ x).j9 ((ρ x).sites s.live []) s.live [])))) else none
 | .load T x => (match ρ x with
   | .ptr k q τ => (match s.obj k with
     | some (.box y) => (match y.at q with
      | .ts eb e cs => if m = 1 ∧ τ = ty X.P T ∧ τ = .slice eb e ∧ y.ty.J4 = true ∧ s.known dst = false then some (.sl eb e cs dst, (s.put k (.box (y.setAt q (.d (.slice eb e) (.slice cs))))).tok dst (some cs.length)) else none
      | _ => none)
     | _ => none)
   | _ => none)
 | .mapUpdate T x i y => (match q2c X.P T, ρ x with
   | some (kt, et), .mp k => (match s.obj k with
     | some (.map kτ vτ es) => if kτ = ty X.P kt ∧ vτ = ty X.P et ∧ H3 X.P kt = true ∧ kτ.flat = true ∧ (ρ i).Z1 kτ ∧ (Q2 vτ (ρ y).j5).ty = vτ ∧ (Q2 vτ (ρ y).j5).plain = true ∧ (Q2 vτ (ρ y).j5).r8 = true then
       some (.any, s.put k (.map kτ vτ (z4t es (ρ i).toC (Q2 vτ (ρ y).j5)))) else none
     | _ => none)
   | _, _ => none)
 | .call c => (match c.callee with
   | .builtin .append => (match c.args.toList, c.argTypes.toList with
     | [x, y], [t, t'] => if Q0 X.P (v7 X.P t) = true then (match ty X.P t, ρ x with
       | .slice eb e, .sl eb' e' cs tk => if eb' = eb ∧ e' = e ∧ s.live tk = some cs.length then
         (match y6I X.P s t' eb e (ρ y) with
         | some ys => if (cs.length + ys.length) * eb ≤ 140737488355328 ∧ cs.length + ys.length ≤ maxLen then some (.sl eb e (cs ++ ys) tk, s.tok tk (some (cs.length + ys.length))) else none
         | none => none) else none
       | _, _ => none) else none
     | _, _ => none)
   | _ => none)
 | _ => none
abbrev q1C := FuncId → List V → (Key → Option O) → Option (V × List (Key × O))
abbrev q4o := FuncId → List V → Option V
def q9q (X : Cx) (call : q1C) : Prop := ∀ f xs A v L, call f xs A = some (v, L) → p8 X f xs A v L
def z2J (X : Cx) (ext : q4o) : Prop := ∀ f xs v, ext f xs = some v → q8m X f xs v
def z6o (X : Cx) (call : q1C) (tip : Bool) (dst : Nat) (o : Oper) (ρ : Operand → V) (s : S) : Option (V × S) :=
 match o.op with
 | .call c => (match c.callee with
  | .value fo => (match ρ fo with
   | .fn f caps => if W7 X.P f = true ∧ c.argTypes.toList.length = c.args.toList.length ∧ q0q (Q5 tip s (Q9 (c.args.toList.map ρ) caps)) = true then
      (match call f (Z2 X.P tip s (q3v c.argTypes.toList caps) (Q9 (c.args.toList.map ρ) caps)) s.up with
      | some (v, L) => if q4l s dst L = true ∧ q5j s dst (v.tkR 2000) = true then some ((v.X3 2000).ren (dn dst) (rk dst), s.ret tip (Q9 (c.args.toList.map ρ) caps) dst v L) else none
      | none => none) else none
   | _ => none)
  | _ => none)
 | _ => none
end Go.E
namespace Go.E
open Go
def y6J (ext : q4o) (o : Oper) (ρ : Operand → V) : Option V :=
 match o.op with
 | .call c => (match c.callee with
  | .value fo => (match ρ fo with
   | .fn f [] => ext f (c.args.toList.map ρ)
   | _ => none)
  | _ => none)
 | _ => none
def y1I (X : Cx) (call : q1C) (o : Oper) (ρ : Operand → V) (s : S) : Option (V × List (Key × O)) :=
 match o.op with
 | .call c => (match c.callee with
  | .value fo => (match ρ fo with
   | .fn f caps => if W7 X.P f = true ∧ c.argTypes.toList.length = c.args.toList.length then
      call f (Z2 X.P false s (q3v c.argTypes.toList caps) (Q9 (c.args.toList.map ρ) caps)) s.up else none
   | _ => none)
  | _ => none)
 | _ => none
def q0t (o : Oper) (ρ : Operand → V) : List V :=
 match o.op with
 | .call c => (match c.callee with
  | .value fo => (match ρ fo with
   | .fn _ caps => Q9 (c.args.toList.map ρ) caps
   | _ => [])
  | _ => [])
 | _ => []
def q49 : List Oper → List Nat
 | [] => []
 | o :: l => (match o.op with
  | .call c => (match c.callee, c.args.toList with
   | .builtin .append, (.tmp t) :: _ => [t]
   | _, _ => [])
  | _ => []) ++ q49 l
def z9v : Nat → List Nat → Bool
 | _, [] => false
 | i, j :: l => Nat.beq i j || z9v i l
def Y9 (cand : List Nat) (tbl : List (Nat × Nat)) (o : Oper) (ρ : Operand → V) (s : S) : Nat :=
 match look tbl (w9 o) with
 | some m => m
 | none => (match o.op with
  | .load _ x => if z9v (w9 o) cand = true then (match ρ x with
    | .ptr k q _ => (match s.obj k with
     | some (.box y) => (match y.at q with
      | .ts _ _ _ => 1
      | _ => 0)
     | _ => 0)
    | _ => 0) else 0
  | _ => 0)
def z2p (o : Oper) : Bool :=
 match o.op with
 | .call c => (match c.callee with | .value _ => true | _ => false)
 | _ => false
def y8w (X : Cx) (call : q1C) (ext : q4o) (m : Nat) (o : Oper) (s : S) : Option (V × S) :=
 if z2p o = true then
  (match y6J ext o (w8 X.gl s) with
  | some v => if m = 0 then some (v, s) else none
  | none => if m = 0 then (match y1I X call o (w8 X.gl s) s with
    | some (v, L) => if q4l s (w9 o) L = true ∧ q5j s (w9 o) (v.tkR 2000) = true then some ((v.X3 2000).ren (dn (w9 o)) (rk (w9 o)), s.ret false (q0t o (w8 X.gl s)) (w9 o) v L) else none
    | none => none) else z6o X call (m == 1) (w9 o) o (w8 X.gl s) s)
 else if m = 1 then evT X m (w9 o) o (w8 X.gl s) s
 else match evI X m (w9 o) o (w8 X.gl s) s with
  | some r => if J7 s r.2.1 = true ∧ q2K s r.2.2 = true then some (r.1, s.add r.2.1 r.2.2) else none
  | none => evT X m (w9 o) o (w8 X.gl s) s
section
variable {X : Cx} {call : q1C} {ext : q4o} (hc : q9q X call) (he : z2J X ext)
include hc he
end
theorem y6G (ops : Array Oper) (s : S) (A' : Key → Option O) (j : Nat) : gv ops (s.wA A') j = gv ops s j := by
 unfold gv; split <;> rfl
def gdo (x : V) (want : Bool) : Option Bool :=
 match x with
 | .d .bool (.bool b) => some (b == want)
 | .tup [] => some false
 | _ => none
def y23 (X : Cx) (call : q1C) (ext : q4o) (ops : Array Oper) (cand : List Nat) (tbl : List (Nat × Nat)) : List Oper → S → Option (List (Nat × Nat) × S)
 | [], s => some ([], s)
 | o :: rest, s =>
  match (match o.guard with | none => some true | some (j, want) => gdo (gv ops s j) want) with
  | some true => (match y8w X call ext (Y9 cand tbl o (w8 X.gl s) s) o s with
   | some (v, s1) => (match y23 X call ext ops cand tbl rest ((s1.wA s.A).set o.dst v) with
    | some (ml, s2) => some ((w9 o, Y9 cand tbl o (w8 X.gl s) s) :: ml, s2)
    | none => none)
   | none => none)
  | some false => y23 X call ext ops cand tbl rest (s.set o.dst (.tup []))
  | none => none
theorem q8S (s : S) (A' : Key → Option O) (d : Option Nat) (v : V) : (s.wA A').set d v = (s.set d v).wA A' := by cases d <;> rfl
theorem q17 (s : S) (d : Option Nat) (v : V) : (s.set d v).A = s.A := by cases d <;> rfl
section
variable {X : Cx} {call : q1C} {ext : q4o} (hc : q9q X call) (he : z2J X ext)
include hc he
end
end Go.E
namespace Go.E
open Go
def q9J {α β : Type} (l : List α) (l' : List β) : Bool := l.isEmpty && l'.isEmpty
inductive RD where
 | k0 (v : V) | k1 (v : V) (lo : List (Key × O)) (tn : List (Nat × Option Nat)) | k2 (v : V) (s : S)
def RD.kind : RD → Nat
 | .k0 _ => 0
 | .k1 _ _ _ => 1
 | .k2 _ _ => 2
def RD.post (s : S) (A' : Key → Option O) (K0 : V → Prop) (K1 : V → List (Key × O) → List (Nat × Option Nat) → Prop) (K2 : V → S → Prop) : RD → Prop
 | .k0 v => K0 v
 | .k1 v lo tn => q2u (s.wA A') lo → q2t (s.wA A') tn → J7 s lo = true → K1 v lo tn
 | .k2 v s1 => K2 v (s1.wA A')
def y96 (X : Cx) (m : Nat) (dst : Nat) (o : Oper) (ρ : Operand → V) : Option V :=
 match evI X m dst o ρ s00 with
 | some r => if q9J r.2.1 r.2.2 = true then some r.1 else none
 | none => none
def evK (X : Cx) (call : q1C) (ext : q4o) (m : Nat) (o : Oper) (base s : S) : Option RD :=
 if z2p o = true then
  (match y6J ext o (w8 X.gl s) with
  | some v => some (.k0 v)
  | none => if m = 0 then (match y1I X call o (w8 X.gl s) base with
    | some (v, L) => if q3E L = true then (if J7 s (dnL (w9 o) L) = true ∧ q2K s (dnT (w9 o) (v.tkR 2000)) = true then some (.k1 ((v.X3 2000).ren (dn (w9 o)) (rk (w9 o))) (dnL (w9 o) L) (dnT (w9 o) (v.tkR 2000))) else none)
      else if q4l s (w9 o) L = true ∧ q5j s (w9 o) (v.tkR 2000) = true then some (.k2 ((v.X3 2000).ren (dn (w9 o)) (rk (w9 o))) (s.ret false (q0t o (w8 X.gl s)) (w9 o) v L)) else none
    | none => (z6o X call (m == 1) (w9 o) o (w8 X.gl s) s).map fun r => .k2 r.1 r.2) else (z6o X call (m == 1) (w9 o) o (w8 X.gl s) s).map fun r => .k2 r.1 r.2)
 else if m = 1 then (evT X m (w9 o) o (w8 X.gl s) s).map fun r => .k2 r.1 r.2
 else match y96 X m (w9 o) o (w8 X.gl s) with
  | some v => some (.k0 v)
  | none => (match evI X m (w9 o) o (w8 X.gl s) s with
   | some r => if J7 s r.2.1 = true ∧ q2K s r.2.2 = true then some (.k1 r.1 r.2.1 r.2.2) else none
   | none => (evT X m (w9 o) o (w8 X.gl s) s).map fun r => .k2 r.1 r.2)
def z9W (X : Cx) (call : q1C) (ext : q4o) (ops : Array Oper) (cand : List Nat) (tbl : List (Nat × Nat)) : List Oper → S → S → Option (List (Nat × Nat) × List Nat × S)
 | [], _, s => some ([], [], s)
 | o :: rest, base, s =>
  match (match o.guard with | none => some true | some (j, want) => gdo (gv ops s j) want) with
  | some true => (match evK X call ext (Y9 cand tbl o (w8 X.gl s) s) o base s with
   | some (.k0 v) => (match z9W X call ext ops cand tbl rest base (s.set o.dst v) with
    | some (ml, ts, s2) => some ((w9 o, Y9 cand tbl o (w8 X.gl s) s) :: ml, 0 :: ts, s2)
    | none => none)
   | some (.k1 v lo tn) => (match z9W X call ext ops cand tbl rest base ((s.add lo tn).set o.dst v) with
    | some (ml, ts, s2) => some ((w9 o, Y9 cand tbl o (w8 X.gl s) s) :: ml, 1 :: ts, s2)
    | none => none)
   | some (.k2 v s1) => (match z9W X call ext ops cand tbl rest ((s1.wA s.A).set o.dst v) ((s1.wA s.A).set o.dst v) with
    | some (ml, ts, s2) => some ((w9 o, Y9 cand tbl o (w8 X.gl s) s) :: ml, 2 :: ts, s2)
    | none => none)
   | none => none)
  | some false => (match z9W X call ext ops cand tbl rest base (s.set o.dst (.tup [])) with
    | some (ml, ts, s2) => some (ml, 0 :: ts, s2)
    | none => none)
  | none => none
theorem z57 (s : S) (d : Option Nat) (v : V) (k : Key) : (s.set d v).obj k = s.obj k := by cases d <;> rfl
theorem z7S {s : S} {lo : List (Key × O)} {tn : List (Nat × Option Nat)} (h : J7 s lo = true) {k : Key} {o : O} (hk : s.obj k = some o) : (s.add lo tn).obj k = some o := by
 have key : ∀ {lo : List (Key × O)}, J7 s lo = true → z7 lo k = none := by
  intro lo
  induction lo with
  | nil => intro _; rfl
  | cons x lo ih =>
   obtain ⟨j, y⟩ := x
   cases j with
   | g j => intro h; simp [J7] at h
   | l n =>
    intro h
    simp only [J7, Bool.and_eq_true] at h
    simp only [z7]
    rw [if_neg, ih h.2]
    intro e
    rw [e, hk] at h
    simp at h
 have e := key h
 simp only [S.obj, Z3, S.add] at hk ⊢
 rw [q08, e]
 exact hk
section
variable {X : Cx} {call : q1C} {ext : q4o} (hc : q9q X call) (he : z2J X ext)
include hc he
end
end Go.E
namespace Go.E
open Go
mutual
theorem V.q3j : ∀ (x : V), V.o6 x x
 | .d _ _ => by simp [V.o6, b9, V.ty]
 | .emp _ _ => .inl rfl
 | .agg _ vs => ⟨rfl, V.z4P vs⟩
 | .any => trivial
 | .sl _ _ _ _ | .ts _ _ _ | .nilc | .ptr _ _ _ | .cptr _ _ | .sr _ _ _ _ _ _ _ | .mp _ | .fn _ _ | .tup _ | .top _ => by simp [V.o6]
theorem V.z4P : ∀ (xs : List V), V.q1L xs xs
 | [] => trivial
 | x :: xs => ⟨V.q3j x, rfl, V.z4P xs⟩
end
def O.y2L : O → Bool
 | .box y => y.plain && y.r8
 | .map _ _ _ => true
 | .it _ _ | .dead _ => true
theorem O.q3j {o : O} (h : o.y2L = true) : O.o6 o o := by
 cases o with
 | box y =>
  simp only [O.y2L, Bool.and_eq_true] at h
  exact ⟨V.q3j y, rfl, h.1, h.2⟩
 | map => exact ⟨rfl, rfl, rfl⟩
 | it => exact ⟨rfl, rfl⟩
 | dead => exact (rfl : _ = _)
mutual
def V.keys : V → List Nat
 | .ptr (.l k) _ _ | .mp (.l k) | .sr (.l k) _ _ _ _ _ _ => [k]
 | .agg _ vs | .fn _ vs | .tup vs => V.q5P vs
 | _ => []
def V.q5P : List V → List Nat
 | [] => []
 | x :: xs => x.keys ++ V.q5P xs
end
mutual
def V.y76 : V → List Nat
 | .sl _ _ _ t => [t]
 | .agg _ vs | .fn _ vs | .tup vs => V.y6s vs
 | _ => []
def V.y6s : List V → List Nat
 | [] => []
 | x :: xs => x.y76 ++ V.y6s xs
end
def O.keys : O → List Nat
 | .box x => x.keys
 | .map _ _ es => V.q5P (es.map (·.2))
 | .it _ _ | .dead _ => []
def reach (loc : List (Key × O)) : Nat → List Nat → List Nat → List Nat
 | 0, _, acc => acc
 | _, [], acc => acc
 | f + 1, k :: ks, acc => if z9v k acc = true then reach loc f ks acc else match z7 loc (.l k) with
  | some o => reach loc f (o.keys ++ ks) (k :: acc)
  | none => reach loc f ks acc
def q5Q : List (Key × O) → List Nat
 | [] => []
 | (.g _, o) :: l => o.keys ++ q5Q l
 | (.l _, _) :: l => q5Q l
def q2d (loc : List (Key × O)) (ks : List Nat) : List (Key × O)
 → List (Key × O)
 | [] => []
 | (.g k, _) :: l => (match z7 loc (.g k) with | some o => [(.g k, o)] | none => []) ++ q2d loc ks l
 | (.l k, _) :: l => (if z9v k ks = true then (match z7 loc (.l k) with | some o => [(.l k, o)] | none => []) else []) ++ q2d loc ks l
def q4v : List (Key × O) → Bool
 | [] => true
 | (_, o) :: l => o.y2L && q4v l
def q5a (L : List (Key × O)) : List (Key × O) → Bool
 | [] => true
 | (.g k, _) :: l => (z7 L (.g k)).isSome && q5a L l
 | (.l _, _) :: l => q5a L l
theorem q5E {L : List (Key × O)} {A : Key → Option O} : ∀ {l : List (Key × O)}, q5a L l = true → q7V L A l
 | [], _ => trivial
 | (.g k, _) :: l, h => by
  simp only [q5a, Bool.and_eq_true] at h
  exact ⟨.inl h.1, q5E h.2⟩
 | (.l _, _) :: l, h => q5E (l := l) h
theorem q5K {s : S} {k : Key} {o : O} (h : z7 s.loc k = some o) : s.obj k = some o := by
 simp only [S.obj, Z3, h]
theorem q4r {s : S} (ks : List Nat) : ∀ {l : List (Key × O)}, q4v (q2d s.loc ks l) = true → q3S s (q2d s.loc ks l)
 | [], _ => trivial
 | (.g k, _) :: l, h => by
  simp only [q2d] at h ⊢
  cases hl : z7 s.loc (.g k) with
  | none => rw [hl] at h; exact q4r ks h
  | some o =>
   rw [hl] at h
   simp only [List.cons_append, List.nil_append, q4v, Bool.and_eq_true] at h ⊢
   refine ⟨?_, q4r ks h.2⟩
   rw [q5K hl]
   exact O.q3j h.1
 | (.l k, _) :: l, h => by
  simp only [q2d] at h ⊢
  by_cases hk : z9v k ks = true
  ·rw [if_pos hk] at h ⊢
   cases hl : z7 s.loc (.l k) with
   | none => rw [hl] at h; exact q4r ks h
   | some o =>
    rw [hl] at h
    simp only [List.cons_append, List.nil_append, q4v, Bool.and_eq_true] at h ⊢
    refine ⟨?_, q4r ks h.2⟩
    rw [q5K hl]
    exact O.q3j h.1
  ·rw [if_neg hk] at h ⊢
   exact q4r ks h
def q1j (s : S) : List Nat → List (Nat × V)
 | [] => []
 | i :: l => (i, s.get i) :: q1j s l
def q37 (f g : Nat → Bool) : List (Nat × V) → Bool
 | [] => true
 | (_, x) :: l => x.ok f g && q37 f g l
theorem z6p {s : S} {f g : Nat → Bool} : ∀ {l : List Nat}, q37 f g (q1j s l) = true → q6Q f g s (q1j s l)
 | [], _ => trivial
 | i :: l, h => by
  simp only [q1j, q37, Bool.and_eq_true] at h
  exact ⟨V.q3j _, h.1, .inr rfl, z6p h.2⟩
def q0D (s : S) : List Nat → List (Nat × Option Nat)
 | [] => []
 | t :: l => (match look s.tk t with | some x => [(t, x)] | none => []) ++ q0D s l
theorem z4a {s : S} : ∀ {l : List Nat}, tkW s (q0D s l)
 | [] => trivial
 | t :: l => by
  simp only [q0D]
  cases hl : look s.tk t with
  | none => exact z4a
  | some x =>
   refine ⟨?_, z4a⟩
   cases x with
   | none => simp [S.known, hl]
   | some L => simp [S.live, F4, hl]
def y1O : List (Nat × V) → List Nat
 | [] => []
 | (_, x) :: l => x.keys ++ y1O l
def z6q : List (Nat × V) → List Nat
 | [] => []
 | (_, x) :: l => x.y76 ++ z6q l
def gcS (W2 : List Nat) (s : S) : S :=
 ⟨q1j s W2, q2d s.loc (reach s.loc 100000 (y1O (q1j s W2) ++ q5Q s.loc) []) s.loc, s.A, q0D s (z6q (q1j s W2))⟩
def gcB (W2 : List Nat) (s : S) : Bool :=
 q4v (gcS W2 s).loc && q1g (Z6 (gcS W2 s).loc) (H2 (gcS W2 s).tk) (gcS W2 s).loc && q5a (gcS W2 s).loc s.loc && q37 (Z6 (gcS W2 s).loc) (H2 (gcS W2 s).tk) (q1j s W2)
theorem y7v {X : Cx} {n : Nat} {W2 : List Nat} {s : S} (A' : Key → Option O) (h : gcB W2 s = true) : F0 X n (s.wA A') ((gcS W2 s).wA A') := by
 simp only [gcB, Bool.and_eq_true] at h
 obtain ⟨⟨⟨h1, h2⟩, h3⟩, h4⟩ := h
 refine U4 rfl ?_ h2 (q5E h3) ?_ ?_
 ·exact q4r (s := s.wA A') _ h1
 ·have : ∀ l, q0D (s.wA A') l = q0D s l := by
   intro l
   induction l with
   | nil => rfl
   | cons i l ih => simp only [q0D, ih]; rfl
  show tkW (s.wA A') (q0D s (z6q (q1j s W2)))
  rw [← this]
  exact z4a
 ·have : q1j (s.wA A') W2 = q1j s W2 := by
   generalize W2 = l
   induction l with
   | nil => rfl
   | cons i l ih => simp only [q1j, ih]; rfl
  show q6Q _ _ (s.wA A') (q1j s W2)
  rw [← this] at h4 ⊢
  exact z6p h4
def q7B (ml : List (Nat × Nat)) : List (Nat × Nat) → Bool
 | [] => true
 | (d, m) :: l => Nat.beq (c5 ml d) m && q7B ml l
theorem z1p {ml : List (Nat × Nat)} : ∀ {l : List (Nat × Nat)}, q7B ml l = true → ∀ p ∈ l, c5 ml p.1 = p.2
 | (d, m) :: l, h, p, hp => by
  simp only [q7B, Bool.and_eq_true] at h
  rcases List.mem_cons.1 hp with rfl | hp
  ·exact Nat.eq_of_beq_eq_true h.1
  ·exact z1p h.2 p hp
def y9t (X : Cx) (call : q1C) (ext : q4o) (tbl : List (Nat × Nat)) (n : Nat) (ops : List Oper) (draw : Bool) (s : S) : Option S :=
 if ops.all (q6K n) = true then
  (if draw = true then (match z9W X call ext ops.toArray (q49 ops) tbl ops s s with
   | some (ml, ts, s2) => if q7B ml ml = true ∧ z86 ops ts = true then some s2 else none
   | none => none)
  else (match y23 X call ext ops.toArray (q49 ops) tbl ops s with
   | some (ml, s2) => if q7B ml ml = true then some s2 else none
   | none => none))
 else none
def y4n (body : S → Option (Exit × S)) (W2 : List Nat) : Nat → S → Option (Exit × S)
 | 0, _ => none
 | k + 1, s => match body s with
  | some (e, s1) => (match e with
   | .normal => if gcB W2 s1 = true then y4n body W2 k (gcS W2 s1) else none
   | e => some (e, s1))
  | none => none
def slotsOf : List (Nat × V) → List Nat
 | [] => []
 | (i, _) :: l => i :: slotsOf l
def evC (X : Cx) (call : q1C) (ext : q4o) (tbl : Nat → List (Nat × Nat)) (n : Nat) : Nat → Code → S → Option (Exit × S)
 | 0, _, _ => none
 | f + 1, c, s => match ((match c with
  | .skip => some (.normal, s)
  | .region id ops draw => (match y9t X call ext (tbl id) n ops.toList draw s with
    | some s1 => some (.normal, s1)
    | none => none)
  | .seq a b => (match evC X call ext tbl n f a s with
    | some (e, s1) => (match e with
     | .normal => evC X call ext tbl n f b s1
     | e => some (e, s1))
    | none => none)
  | .cond (.tmp t) a b => (match s.get t with
    | .d .bool (.bool v) => (match v with
     | true => evC X call ext tbl n f a s
     | false => evC X call ext tbl n f b s)
    | _ => none)
  | .block id a => (match evC X call ext tbl n f a s with
    | some (e, s1) => (match e with
     | .exit i => if i = id then some (.normal, s1) else some (.exit i, s1)
     | e => some (e, s1))
    | none => none)
  | .loop a => y4n (evC X call ext tbl n f a) (slotsOf s.env) f s
  | .exit id => some (.exit id, s)
  | .scope a => (match evC X call ext tbl n f a s with
    | some (e, s1) => (match e with
     | .goto _ => none
     | e => some (e, s1))
    | none => none)
  | .label _ => some (.normal, s)
  | .goto l => some (.goto l, s)
  | .ret => some (.ret, s)
  | _ => none) : Option (Exit × S)) with
  | some (e, s1) => some (e, s1.wA s.A)
  | none => none
section
variable {X : Cx} {call : q1C} {ext : q4o} (hP : u3 X.P = true) (hmo : X.P.follows .mixedOrders = true) (hc : q9q X call) (he : z2J X ext)
include hP hmo hc he
end
end Go.E
namespace Go.E
open Go
section
variable {X : Cx} {call : q1C} {ext : q4o} (hP : u3 X.P = true) (hmo : X.P.follows .mixedOrders = true) (hc : q9q X call) (he : z2J X ext)
include hP hmo hc he
end
mutual
def V.q29 : V → V
 | .sl eb e cs _ => .d (.slice eb e) (.slice cs)
 | .agg τ vs => .agg τ (V.y2v vs)
 | x => x
def V.y2v : List V → List V
 | [] => []
 | x :: xs => x.q29 :: V.y2v xs
end
theorem V.y1w (x : V) : x.q29.ty = x.ty := by cases x <;> rfl
mutual
theorem V.z6W : ∀ (x : V), V.o6 x x.q29
 | .sl _ _ cs _ => by simp [V.q29, V.o6, b9, V.ty]
 | .agg τ vs => ⟨rfl, V.z4x vs⟩
 | .d _ _ => by simp [V.q29, V.o6, b9, V.ty]
 | .emp _ _ => .inl rfl
 | .any => trivial
 | .ts _ _ _ | .nilc | .ptr _ _ _ | .cptr _ _ | .sr _ _ _ _ _ _ _ | .mp _ | .fn _ _ | .tup _ | .top _ => by simp [V.q29, V.o6]
theorem V.z4x : ∀ (xs : List V), V.q1L xs (V.y2v xs)
 | [] => trivial
 | x :: xs => ⟨V.z6W x, V.y1w x, V.z4x xs⟩
end
def z3t (s : S) (x : V) : V :=
 match x with
 | .sl eb e cs t => if s.live t = some cs.length then .ts eb e cs else .d (.slice eb e) (.slice cs)
 | x => x.q29
def q4K (s : S) : List V → List V
 | [] => []
 | x :: xs => z3t s x :: q4K s xs
def z83 (f : Nat → Bool) : List V → Bool
 | [] => true
 | v :: vs => (match v with | .ts _ _ _ => true | v => v.ok f j8 && v.plain) && z83 f vs
def z4A : List V → Bool
 | [] => true
 | v :: vs => v.q77 && z4A vs
theorem y7b {s : S} {f : Nat → Bool} {x : V} (hx : x.q77 = true) (h : (match z3t s x with | .ts _ _ _ => true | v => v.ok f j8 && v.plain) = true) : q0w s f x (z3t s x) := by
 have gen : ∀ {x : V}, x.q29.q77 = true → (x.q29.ok f j8 && x.q29.plain) = true → q0w s f x x.q29 := by
  intro x hn h
  have : V.o6 x x.q29 ∧ x.q29.ok f j8 = true ∧ x.q29.plain = true ∧ x.q29.ty.isAgg = x.ty.isAgg := by
   simp only [Bool.and_eq_true] at h
   exact ⟨V.z6W x, h.1, h.2, by rw [V.y1w]⟩
  unfold q0w
  split
  ·rename_i e1; rw [e1] at hn; cases hn
  ·exact this
 cases x with
 | sl eb e cs t =>
  simp only [z3t] at h ⊢
  by_cases hl : s.live t = some cs.length
  ·rw [if_pos hl]; exact ⟨rfl, rfl, rfl, hl⟩
  ·rw [if_neg hl] at h ⊢
   exact gen (x := .sl eb e cs t) rfl h
 | ts => cases hx
 | agg τ vs => exact gen (x := .agg τ vs) rfl h
 | d | emp | any | nilc | ptr | cptr | sr | mp | fn | tup | top => exact gen rfl h
theorem z82 {s : S} {f : Nat → Bool} : ∀ {xs : List V}, z4A xs = true → z83 f (q4K s xs) = true → q0E s f xs (q4K s xs)
 | [], _, _ => trivial
 | x :: xs, h1, h2 => by
  simp only [z4A, Bool.and_eq_true] at h1
  simp only [q4K, z83, Bool.and_eq_true] at h2
  exact ⟨y7b h1.1 h2.1, z82 h1.2 h2.2⟩
def z5Q (X : Cx) (s : S) (r : ResultVar) : Bool :=
 match r with
 | .tmp _ => true
 | .cell a t => (match s.get a with
   | .ptr k q τ => (match s.obj k with
     | some (.box y) => decide (τ = ty X.P t) && τ.known && !(y.at q).isAny
     | _ => false)
   | _ => false)
def q7q (X : Cx) (s : S) : List ResultVar → Bool
 | [] => true
 | r :: rs => z5Q X s r && q7q X s rs
theorem y2i {X : Cx} {s : S} {A' : Key → Option O} (hA : leA s.A A') {r : ResultVar} (h : z5Q X s r = true) : q8U X (s.wA A') r ∧ q9C X (s.wA A') r = q9C X s r := by
 cases r with
 | tmp t => exact ⟨trivial, rfl⟩
 | cell a t =>
  have hg : (s.wA A').get a = s.get a := rfl
  simp only [z5Q] at h
  simp only [q8U, q9C, hg]
  split at h
  ·rename_i e0
   split at h
   ·rename_i e1
    simp only [Bool.and_eq_true, decide_eq_true_eq, Bool.not_eq_true'] at h
    simp only [e0, U3 hA e1, e1]
    exact ⟨⟨h.1.1, h.1.2, V.q2J h.2⟩, by first | rfl | trivial⟩
   ·cases h
  ·cases h
theorem z2V {X : Cx} {s : S} {A' : Key → Option O} (hA : leA s.A A') : ∀ {rs : List ResultVar}, q7q X s rs = true → q7c X (s.wA A') rs ∧ q18 X (s.wA A') rs = q18 X s rs
 | [], _ => ⟨trivial, rfl⟩
 | r :: rs, h => by
  simp only [q7q, Bool.and_eq_true] at h
  obtain ⟨h1, h2⟩ := y2i hA h.1
  obtain ⟨h3, h4⟩ := z2V hA h.2
  exact ⟨⟨h1, h3⟩, by simp only [q18, h2, h4]⟩
def y2t : List V → V
 | [x] => x
 | xs => .tup xs
theorem y3G {xs : List V} {vs : List V} (h : xs.length = vs.length) : q9B xs (y2t vs) = some vs := by
 match xs, vs, h with
 | [], [], _ => rfl
 | [_], [_], _ => rfl
 | _ :: _ :: _, _ :: _ :: _, _ => rfl
theorem z1e (s : S) : ∀ (xs : List V), (q4K s xs).length = xs.length
 | [] => rfl
 | x :: xs => by simp [q4K, z1e s xs]
def z8k (X : Cx) (fn : Func) (s : S) : Option (V × List (Key × O)) :=
 let rs := q18 X s fn.results.toList
 let vs := q4K s rs
 let L := q2d s.loc (reach s.loc 100000 (V.q5P vs ++ q5Q s.loc) []) s.loc
 if q7q X s fn.results.toList = true ∧ z4A rs = true ∧ z83 (Z6 L) vs = true ∧ q0q (q4B (q1v 2000 rs vs)) = true ∧ q4v L = true ∧ q1g (Z6 L) j8 L = true ∧ q5a L s.loc = true then some (y2t vs, L) else none
theorem y5U {X : Cx} {fn : Func} {s : S} {v : V} {L : List (Key × O)} {A' : Key → Option O} (hA : leA s.A A') (h : z8k X fn s = some (v, L)) : H5 X fn A' v L (s.wA A') := by
 simp only [z8k, Option.ite_none_right_eq_some, Option.some.injEq, Prod.mk.injEq] at h
 obtain ⟨⟨h1, h2, h3, h4, h5, h6, h7⟩, rfl, rfl⟩ := h
 obtain ⟨c1, c2⟩ := z2V hA h1
 have hL : ∀ (x : S) (xs vs : List V) f, q0E x f xs vs → q0E (x.wA A') f xs vs := by
  intro x xs
  induction xs with
  | nil => intro vs f h; cases vs <;> exact h
  | cons y ys ih =>
   intro vs f h
   cases vs with
   | nil => exact h
   | cons v vs => exact ⟨h.1, ih vs f h.2⟩
 refine ⟨rfl, q4r (s := s.wA A') _ h5, h6, q5E h7, c1, ?_⟩
 rw [c2, y3G (z1e s _).symm]
 exact ⟨hL _ _ _ _ (z82 h2 h3), h4⟩
def evF (X : Cx) (ov : q1C) (ext : q4o) (tbl : FuncId → Nat → List (Nat × Nat)) (fuel : Nat) : Nat → q1C
 | 0, _, _, _ => none
 | d + 1, f, xs, A => match ov f xs A with
  | some r => some r
  | none => (match X.P.funcs[f]? with
  | some fn => (match fn.body with
   | some c => if xs.length ≤ fn.ntmps then (match evC X (evF X ov ext tbl fuel d) ext (tbl f) fn.ntmps fuel c (S.start xs A) with
     | some (e, s) => (match e with
      | .normal | .ret => z8k X fn s
      | _ => none)
     | none => none) else none
   | none => none)
  | none => none)
section
variable {X : Cx} {ov : q1C} {ext : q4o} (hP : u3 X.P = true) (hmo : X.P.follows .mixedOrders = true) (hov : q9q X ov) (he : z2J X ext)
include hP hmo hov he
end
def A0 : Key → Option O := fun _ => none
theorem p8.any {X : Cx} {f : FuncId} {xs : List V} {v : V} {L : List (Key × O)} (h : p8 X f xs A0 v L) (A : Key → Option O) : p8 X f xs A v L := h.mono fun _ _ h => by cases h
end Go.E
