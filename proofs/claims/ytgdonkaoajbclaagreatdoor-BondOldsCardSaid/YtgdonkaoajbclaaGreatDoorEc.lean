/-
 A framework for runs of Go code over abstract data: what it needs, and that it is sound, part 3.
 Conditions: none.
-/
import Derived.Test.YtgdonkaoajbclaaGreatDoorEb
import Derived.ScopeJumps
import Derived.ProofKit
import Derived.LaidMore
import Derived.OpenShut
import Derived.Stop.Joined
import Derived.ChangeStays
import Derived.Deep.DeepHandedRow
import Derived.Lib.LaidTab
import Derived.LoopN
set_option linter.all false
namespace Go.E
open Go
def At (X : Cx) (n : Nat) (Γ0 : G) (s : S) (a : Act) (w : World) : Prop :=
 ∃ Γ, GLe Γ0 Γ ∧ Γ.gl = X.gl ∧ y9 Γ w s ∧ q3A Γ s a.tmps ∧ a.tmps.size = n ∧ a.defers = [] ∧ AOk s.A
def S.set (s : S) (d : Option Nat) (x : V) : S :=
 match d with
 | some d => { s with env := z84 s.env d x }
 | none => s
def q3P (s : S) : List (Key × O) → Prop
 | [] => True
 | (k, _) :: l => s.obj k = none ∧ q3P s l
def q3O (s : S) : List (Nat × Option Nat) → Prop
 | [] => True
 | (t, _) :: l => s.known t = false ∧ q3O s l
theorem z9s {s : S} {lo : List (Key × O)} {tn : List (Nat × Option Nat)} (h : q3P s lo) (h' : q3O s tn) : y4y s lo tn := by
 constructor
 ·induction lo with
  | nil => intro k o hk; simp [z8] at hk
  | cons x lo ih =>
   intro k o hk
   simp only [z8] at hk
   split at hk
   ·rename_i e; rw [← e]; exact h.1
   ·exact ih h.2 k o hk
 ·induction tn with
  | nil => intro k o hk; simp [look] at hk
  | cons x tn ih =>
   intro k o hk
   simp only [look] at hk
   split at hk
   ·rename_i e; rw [← e]; exact h'.1
   ·exact ih h'.2 k o hk
noncomputable def x5B (X : Cx) (dst : Nat) (o : Oper) (s : S) (K : V → S → Prop) : Prop :=
  (iop X [] (q0o (q1H (o.op.operands.toList.map (v8 X.gl s))) s) dst o (fun y => U4 s (v8 X.gl s y)) (q0o (q1H (o.op.operands.toList.map (v8 X.gl s))) s)
   (fun v lo tn => q3P (q0o (q1H (o.op.operands.toList.map (v8 X.gl s))) s) lo ∧ q3O (q0o (q1H (o.op.operands.toList.map (v8 X.gl s))) s) tn ∧ K v ((q0o (q1H (o.op.operands.toList.map (v8 X.gl s))) s).add lo tn)) ∨
  top X [] dst o (fun y => U4 s (v8 X.gl s y)) (q0o (q1H (o.op.operands.toList.map (v8 X.gl s))) s) K)
noncomputable def lop (X : Cx) (md : List (Nat × Nat)) (dst : Nat) (o : Oper) (s : S) (K : V → S → Prop) : Prop := Q6 md dst = 100 ∧ x5B X dst o s K
theorem y0p : ∀ {xs : List V} {x : V} {j : Nat}, x ∈ xs → j ∈ q2E x → j ∈ q1H xs
 | y :: ys, x, j, hx, hj => by
  simp only [q1H, List.mem_append]
  rcases List.mem_cons.1 hx with rfl | hx
  ·exact .inl hj
  ·exact .inr (y0p hx hj)
theorem q9b : ∀ (js : List Nat) (s : S), (q0o js s).env = s.env ∧ (q0o js s).A = s.A
 | [], s => ⟨rfl, rfl⟩
 | j :: l, s => by
  simp only [q0o]
  have := q9b l (match s.obj (.l j) with
   | some (.box (.d τ _)) => (match τ with
    | .arr M e => { s with loc := (.l j, .dead (.arr M e)) :: s.loc }
    | _ => s)
   | _ => s)
  refine ⟨this.1.trans ?_, this.2.trans ?_⟩ <;> (split <;> (try rfl); split <;> rfl)
noncomputable def sop (X : Cx) (md : List (Nat × Nat)) (dst : Nat) (o : Oper) (s : S) (K : V → S → Prop) : Prop :=
 lop X md dst o s K ∨ (Q6 md dst ≠ 1 ∧ iop X md s dst o (v8 X.gl s) s (fun v lo tn => q3P s lo ∧ q3O s tn ∧ K v (s.add lo tn))) ∨ top X md dst o (v8 X.gl s) s K ∨ (fop X o (v8 X.gl s) fun v => K v s) ∨ sl3 X md dst o (v8 X.gl s) s K
def q4r (ops : Array Oper) (j : Nat) : Option Nat := (ops[j]?).bind (·.dst)
def u4 (o : Oper) : Nat := o.dst.getD 0
def gk (b want : Bool) (p q : Prop) : Prop := (b = want → p) ∧ (b ≠ want → q)
theorem q0Z (p q : Prop) : gk true true p q = p := by simp [gk]
theorem q02 (p q : Prop) : gk false false p q = p := by simp [gk]
theorem q00 (p q : Prop) : gk true false p q = q := by simp [gk]
theorem q01 (p q : Prop) : gk false true p q = q := by simp [gk]
def gv (ops : Array Oper) (s : S) (j : Nat) : V := match q4r ops j with
 | none => .any
 | some t => s.get t
def gx (x : V) (want : Bool) (p q : Prop) : Prop := match x with
 | .d .bool c => gk c.toBool want p q
 | .tup [] => q
 | _ => False
noncomputable def vc (X : Cx) (md : List (Nat × Nat)) (ops : Array Oper) (Φ : S → Prop) : List Oper → S → Prop
 | [], s => Φ s
 | o :: rest, s => match o.guard with
  | none => sop X md (u4 o) o s fun v s' => vc X md ops Φ rest (s'.set o.dst v)
  | some (j, want) => gx (gv ops s j) want (sop X md (u4 o) o s fun v s' => vc X md ops Φ rest (s'.set o.dst v)) (vc X md ops Φ rest (s.set o.dst (.tup [])))
theorem z9T {Γ : G} : z7 Γ (.tup []) undef := ⟨#[], rfl, by simp [v3]⟩
theorem q5l (s : S) (d : Option Nat) (v : V) (t : Nat) : (s.set d v).get t = if d = some t then v else s.get t := by
 cases d with
 | none => simp [S.set]
 | some d =>
  simp only [S.set, S.get, z04]
  by_cases h : d = t
  ·simp [h]
  ·have : ¬ (some d = some t) := by intro e; cases e; exact h rfl
   simp [h]
section
variable {X : Cx} {n : Nat} {Γ0 : G}
theorem y9Z {Γ : G} {s : S} {a : Act} {d : Option Nat} {x : V} {v : Value} (hs : q3A Γ s a.tmps) (hd : ∀ t, d = some t → t < a.tmps.size) (hx : z7 Γ x v) :
  q3A Γ (s.set d x) (a.put d v).tmps := by
 intro i
 rw [q5l]
 cases d with
 | none => simpa [Act.put] using hs i
 | some t =>
  have := hd t rfl
  by_cases h : t = i
  ·subst h
   simp only [Act.put, if_true]
   simp [this]
   exact hx
  ·have h' : ¬ (some t = some i) := by intro e; cases e; exact h rfl
   rw [if_neg h']
   have := hs i
   simpa [Act.put, Array.getElem?_setIfInBounds_ne h] using this
theorem z1p {Γ : G} {w : World} {s : S} (c : y9 Γ w s) (d : Option Nat) (x : V) : y9 Γ w (s.set d x) := by
 cases d with
 | none => exact c
 | some t => exact c.env _
theorem z1V {Γ : G} {w : World} {s s' : S} {a : Act} (hgl : Γ.gl = X.gl) (c : y9 Γ w s') (hs : ∀ t, z7 Γ (s.get t) (a.tmps.getD t undef)) {y : Operand} (hy : z1J y = true) : z7 Γ (v8 X.gl s y) (a.eval y) := by
 cases y with
 | tmp t => exact hs t
 | func f =>
  show z7 Γ (.fn f []) (.func (.func f) #[] #[])
  exact (v5 rfl).2 ⟨by simp [z6, v3, Value.cells], by simp [V.ty, Ty.isAgg, u7]⟩
 | global g =>
  simp only [v8]
  cases hg : X.gl g with
  | none => simp [z7]
  | some x =>
   obtain ⟨τ, cc⟩ := x
   obtain ⟨l, h1, h2, h3⟩ := c.hgl g τ cc (by rw [hgl]; exact hg)
   exact q1u h1 (by simpa using h2) h3
 | const v =>
  simp only [v8, Act.eval]
  unfold y6G
  simp only [z1J] at hy
  split
  ·simp [y2f] at hy; exact k7 hy.1 hy.2
  ·exact s7
  ·simp [y2f] at hy
   rename_i str
   exact q5B (l := str.data.toList) (by simpa using hy)
  ·exact (v5 rfl).2 ⟨by simp [z6, z9, Value.cells], by simp [V.ty, Ty.isAgg, u7]⟩
  ·exact (v5 rfl).2 ⟨by simp [z6, Value.cells], by simp [V.ty, Ty.isAgg, u7]⟩
  ·exact (v5 rfl).2 ⟨by simp [z6, z9, Value.cells], by simp [V.ty, Ty.isAgg, u7]⟩
  ·exact (v5 rfl).2 ⟨by simp [z6, z9, Value.cells], by simp [V.ty, Ty.isAgg, u7]⟩
  ·exact (v5 rfl).2 ⟨by simp [z6, z9, Value.cells], by simp [V.ty, Ty.isAgg, u7]⟩
  ·simp [z7]
theorem z1q {s : S} {a : Act} {w : World} {d : Option Nat} {x : V} (hd : match d with | some d => decide (d < n) = true | none => True) {Γ : G} (h1 : GLe Γ0 Γ) (h3 : Γ.gl = X.gl) (c : y9 Γ w s) (hs : q3A Γ s a.tmps) (hn : a.tmps.size = n) (hf : a.defers = [] ∧ AOk s.A) {v : Value} (hx : z7 Γ x v) :
  At X n Γ0 (s.set d x) (a.put d v) w := by
 refine ⟨Γ, h1, h3, z1p c d x, y9Z hs (fun t ht => ?_) hx, ?_, ?_, ?_⟩
 ·subst ht; simp at hd; omega
 ·cases d <;> simp [Act.put, hn]
 ·cases d <;> simp [Act.put, hf.1]
 ·cases d <;> exact hf.2
theorem q28 {Γ : G} {s s' : S} {t : Array Value} (h : s'.env = s.env) (hs : q3A Γ s t) : q3A Γ s' t := fun i => by
 have := hs i
 simp only [S.get] at this ⊢
 rw [h]; exact this
theorem y9Y (hP : v9 X.P = true) {md : List (Nat × Nat)} {o : Oper} {s : S} {K : V → S → Prop} (hok : z0F n o = true) (h : sop X md (u4 o) o s K) {a : Act} {w : World} (hat : At X n Γ0 s a w) :
  o8 X.P o a w fun u w' => ∃ v s', K v s' ∧ At X n Γ0 (s'.set o.dst v) (a.put o.dst u) w' := by
 obtain ⟨Γ, g1, g3, c, hs, hn, hf⟩ := hat
 simp only [z0F, Bool.and_eq_true, Array.all_eq_true'] at hok
 have hd : match o.dst with | some d => decide (d < n) = true | none => True := by
  cases ho : o.dst with
  | none => trivial
  | some d => have := hok.2; rw [ho] at this; exact this
 have hops : ∀ y ∈ o.op.operands, z7 Γ (v8 X.gl s y) (a.eval y) := fun y hy => z1V g3 c hs (hok.1 y hy)
 rcases h with ⟨_, h⟩ | ⟨_, h⟩ | h | h | h
 ·obtain ⟨Γ1, gl1, p1, c1, hcv⟩ := z3J (q1H (o.op.operands.toList.map (v8 X.gl s))) s c
  have hops1 : ∀ y ∈ o.op.operands, z7 Γ1 (U4 s (v8 X.gl s y)) (a.eval y) := fun y hy =>
   hcv _ _ (hops y hy) fun j hj => y0p (List.mem_map_of_mem (by simpa using hy)) hj
  have henv := q9b (q1H (o.op.operands.toList.map (v8 X.gl s))) s
  have hs1 : q3A Γ1 (q0o (q1H (o.op.operands.toList.map (v8 X.gl s))) s) a.tmps := q28 henv.1 (hs.b5 p1)
  have g31 : Γ1.gl = X.gl := gl1.gl.trans g3
  rcases h with h | h
  ·obtain ⟨v, lo, tn, ⟨hf1, hf2, hK⟩, hI⟩ := z1U hP h
   refine (hI Γ1 w a _ g31 c1 ⟨fun _ _ h _ => h, fun _ _ h => h⟩ (z9s hf1 hf2) hops1).mono ?_
   rintro u w' ⟨Γ', gle, hp, c', hv⟩
   exact ⟨_, _, hK, z1q hd ((g1.trans gl1).trans gle) (gle.gl.trans g31) c' (q28 (s := q0o (q1H (o.op.operands.toList.map (v8 X.gl s))) s) rfl (hs1.b5 hp)) hn ⟨hf.1, by show AOk (q0o _ s).A; rw [henv.2]; exact hf.2⟩ hv⟩
  ·obtain ⟨v, s1, hK, hsA, he, hT⟩ := z5s hP h
   refine (hT Γ1 w a g31 c1 hops1).mono ?_
   rintro u w' ⟨Γ', gle, hp, c', hv⟩
   exact ⟨_, _, hK, z1q hd ((g1.trans gl1).trans gle) (gle.gl.trans g31) c' (q28 he (hs1.b5 hp)) hn ⟨hf.1, by rw [hsA, henv.2]; exact hf.2⟩ hv⟩
 ·obtain ⟨v, lo, tn, ⟨hf1, hf2, hK⟩, hI⟩ := z1U hP h
  refine (hI Γ w a s g3 c ⟨fun _ _ h _ => h, fun _ _ h => h⟩ (z9s hf1 hf2) hops).mono ?_
  rintro u w' ⟨Γ', gle, hp, c', hv⟩
  exact ⟨_, _, hK, z1q hd (g1.trans gle) (gle.gl.trans g3) c' (q28 rfl (hs.b5 hp)) hn hf hv⟩
 ·obtain ⟨v, s1, hK, hsA, he, hT⟩ := z5s hP h
  refine (hT Γ w a g3 c hops).mono ?_
  rintro u w' ⟨Γ', gle, hp, c', hv⟩
  exact ⟨_, _, hK, z1q hd (g1.trans gle) (gle.gl.trans g3) c' (q28 he (hs.b5 hp)) hn ⟨hf.1, by rw [hsA]; exact hf.2⟩ hv⟩
 ·obtain ⟨v, hK, hI⟩ := y2U hP h
  refine (hI Γ w a s c hops).mono ?_
  rintro u w' ⟨Γ', gle, hp, c', hv⟩
  exact ⟨_, _, hK, z1q hd (g1.trans gle) (gle.gl.trans g3) c' (q28 rfl (hs.b5 hp)) hn hf hv⟩
 ·obtain ⟨v, s1, hK, hsA, he, hT⟩ := y91 hP h
  refine (hT Γ w a c hops).mono ?_
  rintro u w' ⟨Γ', gle, hp, c', hv⟩
  exact ⟨_, _, hK, z1q hd (g1.trans gle) (gle.gl.trans g3) c' (q28 he (hs.b5 hp)) hn ⟨hf.1, by rw [hsA]; exact hf.2⟩ hv⟩
end
def DC (X : Cx) (n : Nat) (c : Code) (s : S) (Ψ : Exit → S → Prop) : Prop :=
 ∀ (Γ0 : G) (a : Act) (w : World), At X n Γ0 s a w → c.wp X.P (fun e a w => ∃ s', Ψ e s' ∧ At X n Γ0 s' a w) a w
def q1i (X : Cx) (n : Nat) (s s' : S) : Prop := ∀ (Γ0 : G) (a : Act) (w : World), At X n Γ0 s a w → At X n Γ0 s' a w
section
variable {X : Cx} {n : Nat} {s : S} {Ψ : Exit → S → Prop}
theorem y7A {Γ : G} {ops : Array Oper} {a : Act} {o : Oper} {j t : Nat} {want b : Bool} (hg : o.guard = some (j, want)) (ht : q4r ops j = some t)
  (hs : z7 Γ (.d .bool (.bool b)) (a.tmps.getD t undef)) : Region.wanted o (yielded ops a.tmps) = (b == want) := by
 have e2 : a.tmps.getD t undef = .bool b := (W7 hs).1
 have hsome : a.tmps[t]? = some (.bool b) := by
  rw [Array.getD_eq_getD_getElem?] at e2
  cases h : a.tmps[t]? with
  | none => rw [h] at e2; simp [undef] at e2
  | some v => rw [h] at e2; simp at e2; rw [e2]
 simp only [q4r] at ht
 simp [Region.wanted, hg, yielded, ht, hsome]
theorem y0C {Γ : G} {ops : Array Oper} {a : Act} {o : Oper} {j t : Nat} {want : Bool} {c : C} (hg : o.guard = some (j, want)) (ht : q4r ops j = some t)
  (hs : z7 Γ (.d .bool c) (a.tmps.getD t undef)) : Region.wanted o (yielded ops a.tmps) = (c.toBool == want) := by
 obtain ⟨_, e⟩ := W7 hs
 rw [e] at hs
 exact y7A hg ht hs
theorem z8I {Γ : G} {ops : Array Oper} {a : Act} {o : Oper} {j t : Nat} {want : Bool} (hg : o.guard = some (j, want)) (ht : q4r ops j = some t)
  (hs : z7 Γ (.tup []) (a.tmps.getD t undef)) : Region.wanted o (yielded ops a.tmps) = false := by
 obtain ⟨vs, e, _⟩ := hs
 have hnb : ∀ b, a.tmps[t]? ≠ some (.bool b) := by
  intro b h
  rw [Array.getD_eq_getD_getElem?, h] at e
  simp at e
 simp only [q4r] at ht
 simp only [Region.wanted, hg, yielded, ht, Option.bind_some]
 rfl
theorem z8W (hP : v9 X.P = true) {Γ0 : G} {md : List (Nat × Nat)} {ops : Array Oper} {Φ : S → Prop} {Q : Exit → Act → World → Prop} (hQ : ∀ s a w, Φ s → At X n Γ0 s a w → Q .normal a w) :
  ∀ (rest : List Oper) (s : S) (a : Act) (w : World), (∀ o ∈ rest, z0F n o = true) → vc X md ops Φ rest s → At X n Γ0 s a w → wpList X.P ops Q rest a w
 | [], s, a, w, _, h, hat => hQ s a w h hat
 | o :: rest, s, a, w, hok, h, hat => by
  have run : (sop X md (u4 o) o s fun v s' => vc X md ops Φ rest (s'.set o.dst v)) → o.wp X.P a w (wpList X.P ops Q rest) Q := by
   intro h
   refine y9Y hP (hok o (by simp)) h hat _ _ ?_
   rintro u w' ⟨v, s', hv, hat'⟩
   exact z8W hP hQ rest _ _ _ (fun o ho => hok o (by simp [ho])) hv hat'
  have skip : vc X md ops Φ rest (s.set o.dst (.tup [])) → wpList X.P ops Q rest (a.put o.dst undef) w := by
   intro h
   obtain ⟨Γ, g1, g3, c, hs, hn, hf⟩ := hat
   have hd : match o.dst with | some d => decide (d < n) = true | none => True := by
    have := hok o (by simp)
    simp only [z0F, Bool.and_eq_true] at this
    cases ho : o.dst with
    | none => trivial
    | some d => have := this.2; rw [ho] at this; exact this
   exact z8W hP hQ rest _ _ _ (fun o ho => hok o (by simp [ho])) h (z1q hd g1 g3 c hs hn hf z9T)
  simp only [vc] at h
  simp only [wpList]
  split at h
  ·rename_i hg
   have : Region.wanted o (yielded ops a.tmps) = true := by simp [Region.wanted, hg]
   rw [if_pos this]
   exact .inl (run h)
  ·rename_i j want hg
   cases ht : q4r ops j with
   | none => simp [gv, ht, gx] at h
   | some t =>
    simp only [gv, ht] at h
    unfold gx at h
    obtain ⟨Γ, g1, g3, c, hs, hn, hf⟩ := id hat
    have hst := hs t
    split at h
    ·rename_i cb hb
     rw [hb] at hst
     rw [y0C hg ht hst]
     by_cases hbw : cb.toBool = want
     ·rw [if_pos (by simp [hbw])]
      exact .inl (run (h.1 hbw))
     ·rw [if_neg (by simp [hbw])]
      exact skip (h.2 hbw)
    ·rename_i hb
     rw [hb] at hst
     rw [if_neg (by rw [z8I hg ht hst]; simp)]
     exact skip h
    ·exact h.elim
theorem DC.mono {c : Code} {Ψ' : Exit → S → Prop} (h : DC X n c s Ψ) (hq : ∀ e s, Ψ e s → Ψ' e s) : DC X n c s Ψ' :=
 fun Γ0 a w hat => wp_mono (h Γ0 a w hat) fun e a w ⟨s', h1, h2⟩ => ⟨s', hq _ _ h1, h2⟩
theorem DC.z5j {c : Code} {s' : S} (hw : q1i X n s s') (h : DC X n c s' Ψ) : DC X n c s Ψ :=
 fun Γ0 a w hat => h Γ0 a w (hw Γ0 a w hat)
theorem q1i.refl (s : S) : q1i X n s s := fun _ _ _ h => h
theorem q1i.trans {s s' s'' : S} (h : q1i X n s s') (h' : q1i X n s' s'') : q1i X n s s'' := fun Γ0 a w hat => h' Γ0 a w (h Γ0 a w hat)
theorem q0P (hP : v9 X.P = true) (md : List (Nat × Nat)) {id : Nat} {l : List Oper} (hok : l.all (z0F n) = true) (h : vc X md l.toArray (fun s' => Ψ .normal s') l s) : DC X n (.region id l.toArray false) s Ψ := by
 intro Γ0 a w hat
 refine wp_region_lit (z8W hP (fun s' a w hΨ hat => ⟨s', hΨ, hat⟩) l s a w (fun o ho => List.all_eq_true.1 hok o ho) h hat)
theorem q0r {c c' : Code} (h : DC X n c s fun e s' => match e with | .normal => DC X n c' s' Ψ | e => Ψ e s') : DC X n (c.seq c') s Ψ := by
 intro Γ0 a w hat
 refine wp_seq (wp_mono (h Γ0 a w hat) ?_)
 rintro e a w ⟨s', h1, h2⟩
 cases e with
 | normal => exact h1 Γ0 a w h2
 | exit _ | goto _ | ret | panic _ | outgrown => exact ⟨s', h1, h2⟩
theorem z0l (h : Ψ .normal s) : DC X n .skip s Ψ := fun _ _ _ hat => wp_skip ⟨s, h, hat⟩
theorem y6B {l : Nat} (h : Ψ .normal s) : DC X n (.label l) s Ψ := fun _ _ _ hat => wp_label ⟨s, h, hat⟩
theorem z1n (h : Ψ .ret s) : DC X n .ret s Ψ := fun _ _ _ hat => wp_ret ⟨s, h, hat⟩
theorem x36 {id : Nat} (h : Ψ (.exit id) s) : DC X n (.exit id) s Ψ := fun _ _ _ hat => wp_exit ⟨s, h, hat⟩
theorem x35 {id : Nat} (h : Ψ (.goto id) s) : DC X n (.goto id) s Ψ := fun _ _ _ hat => wp_goto ⟨s, h, hat⟩
theorem z39 {id : Nat} {c : Code} (h : DC X n c s fun e s' => match e with | .exit id' => if id' = id then Ψ .normal s' else Ψ (.exit id') s' | e => Ψ e s') : DC X n (.block id c) s Ψ := by
 intro Γ0 a w hat
 refine wp_block (wp_mono (h Γ0 a w hat) ?_)
 rintro e a w ⟨s', h1, h2⟩
 cases e with
 | exit id' =>
  simp only [Exit.inBlock] at h1 ⊢
  split
  ·rename_i hid; rw [if_pos hid] at h1; exact ⟨s', h1, h2⟩
  ·rename_i hid; rw [if_neg hid] at h1; exact ⟨s', h1, h2⟩
 | normal | goto _ | ret | panic _ | outgrown => exact ⟨s', h1, h2⟩
theorem x4d {Γ0 : G} {a : Act} {w : World} {t : Nat} {b : Bool} (hat : At X n Γ0 s a w) (h : s.get t = .d .bool (.bool b)) : a.eval (.tmp t) = .bool b := by
 obtain ⟨Γ, g1, g3, c, hs, hn, hf⟩ := hat
 have := hs t
 rw [h] at this
 exact (W7 this).1
theorem y8o {t : Nat} {c c' : Code} (b : Bool) (hb : s.get t = .d .bool (.bool b)) (h1 : b = true → DC X n c s Ψ) (h2 : b = false → DC X n c' s Ψ) : DC X n (.cond (.tmp t) c c') s Ψ := by
 intro Γ0 a w hat
 refine wp_cond (t := b) (x4d hat hb) ?_
 cases b with
 | true => exact h1 rfl Γ0 a w hat
 | false => exact h2 rfl Γ0 a w hat
theorem y6C {t : Nat} {c c' : Code} {v : C} (hv : s.get t = .d .bool v) (h1 : v.toBool = true → DC X n c s Ψ) (h2 : v.toBool = false → DC X n c' s Ψ) : DC X n (.cond (.tmp t) c c') s Ψ := by
 intro Γ0 a w hat
 have he : a.eval (.tmp t) = .bool v.toBool := by
  obtain ⟨Γ, g1, g3, c, hs, hn, hf⟩ := hat
  have := hs t
  rw [hv] at this
  exact (W7 this).1
 refine wp_cond (t := v.toBool) he ?_
 cases hb : v.toBool with
 | true => exact h1 hb Γ0 a w hat
 | false => exact h2 hb Γ0 a w hat
end
end Go.E
namespace Go.E
open Go
mutual
def V.k8 (x : V) : V → Prop
 | .d τ c => (match x with
  | .nilc => (∃ eb e, τ = .slice eb e) ∧ c = .slice []
  | x => Q3 x = some c ∧ x.ty = τ)
 | .emp eb e => x = .emp eb e ∨ x = .nilc
 | .agg τ ws => (match x with
  | .agg τ' vs => τ' = τ ∧ V.q2G vs ws
  | x => x = .agg τ ws)
 | .any => True
 | y => x = y
def V.q2G : List V → List V → Prop
 | [], [] => True
 | x :: xs, y :: ys => V.k8 x y ∧ y.ty = x.ty ∧ V.q2G xs ys
 | _, _ => False
end
def O.k8 : O → O → Prop
 | .box x, .box y => V.k8 x y ∧ y.ty = x.ty ∧ y.plain = true ∧ y.k6 = true
 | .map kτ vτ es, .map kτ' vτ' es' => kτ = kτ' ∧ vτ = vτ' ∧ es = es'
 | .it l p, .it l' p' => l = l' ∧ p = p'
 | o, .dead τ => τ = o.ty
 | _, _ => False
def F2 (tk : List (Nat × Option Nat)) (t : Nat) : Bool := (look tk t).isSome
def Z7 (L : List (Key × O)) (n : Nat) : Bool := (z8 L (.l n)).isSome
section
variable {Γ : G}
theorem V.z6E : ∀ {xs ys : List V}, V.q2G xs ys → xs.length = ys.length
 | [], [], _ => rfl
 | x :: xs, y :: ys, h => by simp only [V.q2G] at h; simp [V.z6E h.2.2]
 | [], _ :: _, h => by simp [V.q2G] at h
 | _ :: _, [], h => by simp [V.q2G] at h
mutual
theorem z6.k8 {hm : Option Key} : ∀ (y x : V) {p : List Nat} {vs : List Value}, V.k8 x y → z6 Γ hm p x vs → z6 Γ hm p y vs ∧ (y ≠ .any → y.ty.isAgg = x.ty.isAgg ∧ (x ≠ .nilc → y.ty = x.ty))
 | .d τ c, x, p, vs, h, hr => by
  cases x
  case nilc =>
   simp only [V.k8] at h
   obtain ⟨⟨eb, e, rfl⟩, rfl⟩ := h
   simp only [z6] at hr ⊢
   subst hr
   exact ⟨o9 rfl (Nat.le_refl _) (Nat.zero_le _) (by rw [Nat.zero_mul]; exact Nat.zero_le _) (.inl rfl), fun _ => ⟨rfl, fun h => absurd rfl h⟩⟩
  all_goals
   simp only [V.k8] at h
   obtain ⟨h1, h2⟩ := h
   have := q3u _ hr h1
   rw [h2] at this
   exact ⟨by simpa only [z6] using this, fun _ => ⟨by simp only [V.ty] at h2 ⊢; rw [h2], fun _ => by simp only [V.ty] at h2 ⊢; rw [h2]⟩⟩
 | .emp eb e, x, p, vs, h, hr => by
  simp only [V.k8] at h
  rcases h with rfl | rfl
  ·exact ⟨hr, fun _ => ⟨rfl, fun _ => rfl⟩⟩
  ·simp only [z6] at hr ⊢
   subst hr
   exact ⟨⟨none, rfl⟩, fun _ => ⟨rfl, fun h => absurd rfl h⟩⟩
 | .agg τ ws, x, p, vs, h, hr => by
  cases x
  case agg τ' us =>
   simp only [V.k8] at h
   obtain ⟨rfl, h⟩ := h
   simp only [z6] at hr ⊢
   obtain ⟨r1, r2, r3, r4, r5⟩ := hr
   exact ⟨⟨r1, r2, by rw [← V.z6E h]; exact r3, r4, w5.k8 ws us h r5⟩, fun _ => ⟨rfl, fun _ => rfl⟩⟩
  all_goals (simp only [V.k8] at h; cases h)
 | .any, x, p, vs, _, _ => ⟨by simp only [z6], fun h => absurd rfl h⟩
 | .sl eb e cs t, x, p, vs, h, hr => by simp only [V.k8] at h; subst h; exact ⟨hr, fun _ => ⟨rfl, fun _ => rfl⟩⟩
 | .ts eb e cs, x, p, vs, h, hr => by simp only [V.k8] at h; subst h; exact ⟨hr, fun _ => ⟨rfl, fun _ => rfl⟩⟩
 | .nilc, x, p, vs, h, hr => by simp only [V.k8] at h; subst h; exact ⟨hr, fun _ => ⟨rfl, fun _ => rfl⟩⟩
 | .ptr k q τ, x, p, vs, h, hr => by simp only [V.k8] at h; subst h; exact ⟨hr, fun _ => ⟨rfl, fun _ => rfl⟩⟩
 | .cptr τ c, x, p, vs, h, hr => by simp only [V.k8] at h; subst h; exact ⟨hr, fun _ => ⟨rfl, fun _ => rfl⟩⟩
 | .sr k q lo n cp eb e, x, p, vs, h, hr => by simp only [V.k8] at h; subst h; exact ⟨hr, fun _ => ⟨rfl, fun _ => rfl⟩⟩
 | .mp k, x, p, vs, h, hr => by simp only [V.k8] at h; subst h; exact ⟨hr, fun _ => ⟨rfl, fun _ => rfl⟩⟩
 | .fn f caps, x, p, vs, h, hr => by simp only [V.k8] at h; subst h; exact ⟨hr, fun _ => ⟨rfl, fun _ => rfl⟩⟩
 | .tup us, x, p, vs, h, hr => by simp only [V.k8] at h; subst h; exact ⟨hr, fun _ => ⟨rfl, fun _ => rfl⟩⟩
 | .top τ, x, p, vs, h, hr => by simp only [V.k8] at h; subst h; exact ⟨hr, fun _ => ⟨rfl, fun _ => rfl⟩⟩
theorem w5.k8 {hm : Option Key} : ∀ (ys xs : List V) {p : List Nat} {i : Nat} {τ : Ty} {vs : List Value}, V.q2G xs ys → w5 Γ hm p i τ xs vs → w5 Γ hm p i τ ys vs
 | [], [], _, _, _, _, _, h => h
 | y :: ys, x :: xs, p, i, τ, vs, h, hr => by
  simp only [V.q2G] at h
  simp only [w5] at hr ⊢
  obtain ⟨⟨o, f, h1, h2, h3, h4⟩, h5⟩ := hr
  obtain ⟨k1, k2⟩ := z6.k8 y x h.1 h4
  exact ⟨⟨o, f, h1, h.2.1.trans h2, h3, k1⟩, w5.k8 ys xs h.2.2 h5⟩
 | [], _ :: _, _, _, _, _, h, _ => by simp [V.q2G] at h
 | _ :: _, [], _, _, _, _, h, _ => by simp [V.q2G] at h
end
mutual
theorem V.z20 {f g f' g' : Nat → Bool} (hf : ∀ n, f n = true → f' n = true) (hg : ∀ n, g n = true → g' n = true) : ∀ x : V, x.ok f g = true → x.ok f' g' = true
 | .ptr (.l k) _ _, h | .mp (.l k), h | .sr (.l k) _ _ _ _ _ _, h => by simp only [V.ok] at h ⊢; exact hf _ h
 | .sl _ _ _ t, h => by simp only [V.ok] at h ⊢; exact hg _ h
 | .agg _ vs, h | .fn _ vs, h | .tup vs, h => by simp only [V.ok] at h ⊢; exact V.y5k hf hg vs h
 | .ptr (.g _) _ _, _ | .mp (.g _), _ | .sr (.g _) _ _ _ _ _ _, _ | .d _ _, _ | .ts _ _ _, _ | .emp _ _, _ | .nilc, _ | .cptr _ _, _ | .top _, _ | .any, _ => by simp [V.ok]
theorem V.y5k {f g f' g' : Nat → Bool} (hf : ∀ n, f n = true → f' n = true) (hg : ∀ n, g n = true → g' n = true) : ∀ xs : List V, V.oks f g xs = true → V.oks f' g' xs = true
 | [], _ => rfl
 | x :: xs, h => by simp only [V.oks, Bool.and_eq_true] at h ⊢; exact ⟨V.z20 hf hg x h.1, V.y5k hf hg xs h.2⟩
end
theorem V.y2A {f g f' g' : Nat → Bool} (hf : ∀ n, f n = true → f' n = true) (hg : ∀ n, g n = true → g' n = true) : ∀ xs : List (C × V), V.q1f f g xs = true → V.q1f f' g' xs = true
 | [], _ => rfl
 | x :: xs, h => by simp only [V.q1f, Bool.and_eq_true] at h ⊢; exact ⟨V.z20 hf hg x.2 h.1, V.y2A hf hg xs h.2⟩
theorem O.z20 {f g f' g' : Nat → Bool} (hf : ∀ n, f n = true → f' n = true) (hg : ∀ n, g n = true → g' n = true) (o : O) (h : o.ok f g = true) : o.ok f' g' = true := by
 cases o with
 | box x => exact V.z20 hf hg x h
 | map => exact V.y2A hf hg _ h
 | it => rfl
 | dead => rfl
structure Sub (Γ Γ' : G) (f g : Nat → Bool) : Prop where
 oo : Γ'.oo = Γ.oo
 σ : Γ'.σ = Γ.σ
 H : Γ'.H = Γ.H
 Z : Γ'.Z = Γ.Z
 gl : Γ'.gl = Γ.gl
 ιg : ∀ k, Γ'.ι (.g k) = Γ.ι (.g k)
 ιl : ∀ n, f n = true → Γ'.ι (.l n) = Γ.ι (.l n)
 τ : ∀ t, g t = true → Γ'.τ t = Γ.τ t
 κ : ∀ b k p sz, Γ.κ b = some (.home k p, sz) → Γ'.κ b = Γ.κ b
variable {Γ' : G} {f g : Nat → Bool}
mutual
theorem z6.sub (hs : Sub Γ Γ' f g) {hm : Option Key} : ∀ (x : V) {p : List Nat} {vs : List Value}, x.ok f g = true → z6 Γ hm p x vs → z6 Γ' hm p x vs
 | .d _ _, _, _, _, h => by simp only [z6] at h ⊢; rw [hs.H]; exact h
 | .sl eb e cs t, _, _, ho, h => by
  simp only [z6] at h ⊢
  obtain ⟨a, n, cap, h1, h2, x, L, h3, h4⟩ := h
  exact ⟨a, n, cap, h1, by rw [hs.H]; exact h2, x, L, by rw [hs.τ t (by simpa [V.ok] using ho)]; exact h3, h4⟩
 | .ts eb e cs, _, _, _, h => by
  simp only [z6] at h ⊢
  obtain ⟨a, n, cap, k, h0, h1, h2, h3⟩ := h
  refine ⟨a, n, cap, k, h0, h1, by rw [hs.H]; exact h2, ?_⟩
  rcases h3 with h3 | ⟨b, l, sz, a1, a2, a3, a4, a5⟩
  ·exact .inl h3
  ·exact .inr ⟨b, l, sz, a1, by rw [hs.H]; exact a2, a3, by rw [hs.κ b k _ sz a4]; exact a4, a5⟩
 | .emp _ _, _, _, _, h => by simpa only [z6] using h
 | .nilc, _, _, _, h => by simpa only [z6] using h
 | .ptr (.l k) q τ, _, _, ho, h => by
  simp only [z6] at h ⊢
  rw [hs.ιl k (by simpa [V.ok] using ho)]; exact h
 | .ptr (.g k) q τ, _, _, _, h => by
  simp only [z6] at h ⊢
  rw [hs.ιg]; exact h
 | .cptr τ c, _, _, _, h => by
  simp only [z6] at h ⊢
  rw [hs.H]; exact h
 | .sr (.l k) _ _ _ _ _ _, _, _, ho, h => by
  simp only [z6] at h ⊢
  rw [hs.ιl k (by simpa [V.ok] using ho), hs.σ]; exact h
 | .sr (.g k) _ _ _ _ _ _, _, _, _, h => by
  simp only [z6] at h ⊢
  rw [hs.ιg, hs.σ]; exact h
 | .mp (.l k), _, _, ho, h => by
  simp only [z6] at h ⊢
  rw [hs.ιl k (by simpa [V.ok] using ho)]; exact h
 | .mp (.g k), _, _, _, h => by
  simp only [z6] at h ⊢
  rw [hs.ιg]; exact h
 | .agg τ xs, _, _, ho, h => by
  simp only [z6] at h ⊢
  exact ⟨h.1, h.2.1, h.2.2.1, h.2.2.2.1, w5.sub hs xs (by simpa [V.ok] using ho) h.2.2.2.2⟩
 | .fn _ caps, _, _, ho, h => by
  simp only [z6] at h ⊢
  obtain ⟨cv, h1, h2⟩ := h
  exact ⟨cv, h1, v3.sub hs caps (by simpa [V.ok] using ho) h2⟩
 | .tup _, _, _, _, h => by simp only [z6] at h
 | .top _, _, _, _, h => by simpa only [z6] using h
 | .any, _, _, _, _ => by simp only [z6]
theorem w5.sub (hs : Sub Γ Γ' f g) {hm : Option Key} : ∀ (xs : List V) {p : List Nat} {i : Nat} {τ : Ty} {vs : List Value}, V.oks f g xs = true → w5 Γ hm p i τ xs vs → w5 Γ' hm p i τ xs vs
 | [], _, _, _, _, _, _ => by simp only [w5]
 | x :: xs, _, _, _, _, ho, h => by
  simp only [w5] at h ⊢
  simp only [V.oks, Bool.and_eq_true] at ho
  obtain ⟨⟨o, ff, h1, h2, h3, h4⟩, h5⟩ := h
  exact ⟨⟨o, ff, h1, h2, h3, z6.sub hs x ho.1 h4⟩, w5.sub hs xs ho.2 h5⟩
theorem v3.sub (hs : Sub Γ Γ' f g) : ∀ (xs : List V) {vs : List Value}, V.oks f g xs = true → v3 Γ xs vs → v3 Γ' xs vs
 | [], _, _, h => by simpa only [v3] using h
 | x :: xs, _, ho, h => by
  simp only [v3] at h ⊢
  simp only [V.oks, Bool.and_eq_true] at ho
  obtain ⟨v, vs', h1, h2, h3, h4⟩ := h
  exact ⟨v, vs', h1, z6.sub hs x ho.1 h2, h3, v3.sub hs xs ho.2 h4⟩
end
theorem z7.sub (hs : Sub Γ Γ' f g) {x : V} {v : Value} (ho : x.ok f g = true) (h : z7 Γ x v) : z7 Γ' x v := by
 cases x
 case any => trivial
 case tup us => obtain ⟨vs, h1, h2⟩ := h; exact ⟨vs, h1, v3.sub hs _ (by simpa [V.ok] using ho) h2⟩
 all_goals exact ⟨z6.sub hs _ ho h.1, h.2⟩
theorem y5m {f g : Nat → Bool} : ∀ {es : List (C × V)} {i : Nat} {c : C × V}, V.q1f f g es = true → es[i]? = some c → c.2.ok f g = true
 | [], _, _, _, h => by simp at h
 | x :: xs, 0, c, h, hc => by simp [V.q1f] at h; simp at hc; subst hc; exact h.1
 | x :: xs, i + 1, c, h, hc => by simp [V.q1f] at h; exact y5m h.2 (by simpa using hc)
theorem Own.sub (hs : Sub Γ Γ' f g) {w : World} {k : Key} {o : O} (hk : Γ'.ι k = Γ.ι k) (ho : o.ok f g = true) (h : Own Γ w k o) : Own Γ' w k o := by
 cases o with
 | box x =>
  obtain ⟨b, cells, T, h1, h2, h3, h4, h5, h6, h7⟩ := h
  exact ⟨b, cells, T, by rw [hk]; exact h1, by rw [hs.H]; exact h2, by rw [hs.Z]; exact h3, h4, h5, z6.sub hs x ho h6, h7⟩
 | map kτ vτ es =>
  obtain ⟨b, ms, clock, h1, h2, h3, h4, h5, h6, h7⟩ := h
  refine ⟨b, ms, clock, by rw [hk]; exact h1, by rw [hs.H]; exact h2, by rw [hs.Z]; exact h3, h4, h5, fun i m c hm hc => ?_, h7⟩
  obtain ⟨a1, a2, a3, a4⟩ := h6 i m c hm hc
  exact ⟨by rw [hs.H]; exact a1, a2, z6.sub hs _ (y5m ho hc) a3, a4⟩
 | it l pos =>
  obtain ⟨b, h1, h2, h3, h4⟩ := h
  exact ⟨b, by rw [hk]; exact h1, by rw [hs.H]; exact h2, by rw [hs.Z]; exact h3, h4⟩
 | dead τ =>
  obtain ⟨b, h1, h4⟩ := h
  exact ⟨b, by rw [hk]; exact h1, h4⟩
theorem Own.k8 {w : World} {k : Key} {o o' : O} (hi : O.k8 o o') (h : Own Γ w k o) : Own Γ w k o' := by
 cases o' with
 | dead τ =>
  have e : τ = o.ty := by cases o <;> exact hi
  obtain ⟨b, τ', h1, _, h4, h5⟩ := h.block
  exact ⟨b, by rw [e, ← h5]; exact h1, h4⟩
 | box y => cases o with
  | box x =>
   obtain ⟨b, cells, T, h1, h2, h3, h4, h5, h6, h7, h8⟩ := h
   obtain ⟨i1, ht, i2, i3⟩ := hi
   obtain ⟨r1, _⟩ := z6.k8 y x i1 h6
   exact ⟨b, cells, T, by rw [ht]; exact h1, h2, h3, h4, by rw [ht]; exact h5, by rw [ht]; exact r1, i2, i3⟩
  | _ => exact hi.elim
 | map kτ vτ es => cases o with
  | map => obtain ⟨rfl, rfl, rfl⟩ := hi; exact h
  | _ => exact hi.elim
 | it l p => cases o with
  | it => obtain ⟨rfl, rfl⟩ := hi; exact h
  | _ => exact hi.elim
theorem O.x0H {o o' : O} (hi : O.k8 o o') (h : o.z15) : o'.z15 := by
 cases o' with
 | dead => trivial
 | box y => cases o with
  | box x =>
   obtain ⟨e, rfl⟩ := h
   obtain ⟨i1, _, i2, _⟩ := hi
   cases y <;> simp only [V.k8, V.plain, reduceCtorEq, or_self, Bool.false_eq_true] at i1 i2
   obtain ⟨h1, rfl⟩ := i1
   simp only [Q3, Option.some.injEq] at h1
   subst h1
   exact ⟨e, rfl⟩
  | _ => exact hi.elim
 | map kτ vτ es => cases o with
  | map => exact h.elim
  | _ => exact hi.elim
 | it l p => cases o with
  | it => exact h.elim
  | _ => exact hi.elim
theorem O.y2P {o o' : O} (hi : O.k8 o o') (h : o.q0c = true) : o'.q0c = true := by
 cases o <;> simp [O.q0c] at h
 cases o' <;> first | rfl | exact hi.elim
end
end Go.E
namespace Go.E
open Go
def q5v (s : S) : List (Key × O) → Prop
 | [] => True
 | (k, o) :: l => (match s.obj k with | some o0 => O.k8 o0 o | none => False) ∧ q5v s l
def q1O (f g : Nat → Bool) : List (Key × O) → Bool
 | [] => true
 | (_, o) :: l => o.ok f g && q1O f g l
def z1r (L : List (Key × O)) (A : Key → Option O) : List (Key × O) → Prop
 | [] => True
 | (.g k, o) :: l => ((z8 L (.g k)).isSome = true ∨ A k = some o) ∧ z1r L A l
 | (.l _, _) :: l => z1r L A l
def q9B (f g : Nat → Bool) (s : S) : List (Nat × V) → Prop
 | [] => True
 | (i, x) :: l => V.k8 (s.get i) x ∧ x.ok f g = true ∧ (x = .any ∨ x.ty.isAgg = (s.get i).ty.isAgg) ∧ q9B f g s l
def tkW (s : S) : List (Nat × Option Nat) → Prop
 | [] => True
 | (t, x) :: l => (match x with | some L => s.live t = some L | none => s.known t = true) ∧ tkW s l
theorem z1P {s : S} : ∀ {l : List (Key × O)} {k : Key} {o : O}, q5v s l → z8 l k = some o → ∃ o0, s.obj k = some o0 ∧ O.k8 o0 o
 | [], _, _, _, h => by simp [z8] at h
 | (j, p) :: l, k, o, hw, h => by
  simp only [z8] at h
  split at h
  ·rename_i e
   cases h; subst e
   have := hw.1
   split at this
   ·rename_i o0 ho; exact ⟨o0, ho, this⟩
   ·exact this.elim
  ·exact z1P hw.2 h
theorem y0t {f g : Nat → Bool} : ∀ {l : List (Key × O)} {k : Key} {o : O}, q1O f g l = true → z8 l k = some o → o.ok f g = true
 | [], _, _, _, h => by simp [z8] at h
 | (j, p) :: l, k, o, hw, h => by
  simp only [z8] at h
  simp only [q1O, Bool.and_eq_true] at hw
  split at h
  ·cases h; exact hw.1
  ·exact y0t hw.2 h
theorem z66 {L : List (Key × O)} {A : Key → Option O} : ∀ {l : List (Key × O)} {k : Key} {o : O}, z1r L A l → z8 l (.g k) = some o → (z8 L (.g k)).isSome = true ∨ A k = some o
 | [], _, _, _, h => by simp [z8] at h
 | (.l j, p) :: l, k, o, hw, h => by simp [z8] at h; exact z66 (l := l) hw h
 | (.g j, p) :: l, k, o, hw, h => by
  simp only [z8] at h
  split at h
  ·rename_i e; cases e; cases h; exact hw.1
  ·exact z66 hw.2 h
theorem z6M {f g : Nat → Bool} {s : S} : ∀ {l : List (Nat × V)} {i : Nat} {x : V}, q9B f g s l → look l i = some x → V.k8 (s.get i) x ∧ x.ok f g = true ∧ (x = .any ∨ x.ty.isAgg = (s.get i).ty.isAgg)
 | [], _, _, _, h => by simp [look] at h
 | (j, y) :: l, i, x, hw, h => by
  simp only [look] at h
  split at h
  ·rename_i e; cases h; subst e; exact ⟨hw.1, hw.2.1, hw.2.2.1⟩
  ·exact z6M hw.2.2.2 h
theorem z8X {s : S} : ∀ {l : List (Nat × Option Nat)} {t : Nat} {x : Option Nat}, tkW s l → look l t = some x → match x with | some L => s.live t = some L | none => s.known t = true
 | [], _, _, _, h => by simp [look] at h
 | (j, y) :: l, t, x, hw, h => by
  simp only [look] at h
  split at h
  ·rename_i e; cases h; subst e; exact hw.1
  ·exact z8X hw.2 h
section
variable {Γ : G} {w : World} {s : S}
theorem z7k {s' : S} (hA : s'.A = s.A) (hg : z1r s'.loc s.A s.loc) {k : Key} (h : z8 s'.loc (.g k) = none) : s'.obj (.g k) = s.obj (.g k) := by
 unfold S.obj Z8
 rw [h]
 simp only
 cases ho : z8 s.loc (.g k) with
 | none => rw [hA]
 | some o =>
  rcases z66 hg ho with h1 | h1
  ·rw [h] at h1; cases h1
  ·rw [hA]; exact h1
theorem y9.sub (c : y9 Γ w s) {Γ' : G} {f g : Nat → Bool} {s' : S} (hs : Sub Γ Γ' f g) (hf : f = Z7 s'.loc) (hι : ∀ n, f n = false → Γ'.ι (.l n) = none) (hA : s'.A = s.A) (hAok : AOk s.A)
  (hloc : q5v s s'.loc) (hlok : q1O f g s'.loc = true) (hg : z1r s'.loc s.A s.loc)
  (hκ : ∀ b o sz, Γ'.κ b = some (o, sz) → ∃ o', Γ.κ b = some (o', sz))
  (tok : ∀ t L, s'.live t = some L → ∃ x, Γ'.τ t = some (x, L) ∧ ∀ b pos sz, x = some (b, pos, sz) → (∃ l, Γ.H b = some l ∧ l.length = pos) ∧ Γ'.κ b = some (.tok t, sz))
  (tdom : ∀ t, Γ'.τ t ≠ none → s'.known t = true) : y9 Γ' w s' := by
 subst hf
 have hfl : ∀ n, Z7 s'.loc n = true ↔ z8 s'.loc (.l n) ≠ none := by
  intro n; unfold Z7; cases z8 s'.loc (.l n) <;> simp
 have keyok : ∀ k o, s'.obj k = some o → Γ'.ι k = Γ.ι k := by
  intro k o h
  cases k with
  | g k => exact hs.ιg k
  | l n =>
   refine hs.ιl n ?_
   rw [hfl]
   unfold S.obj Z8 at h
   intro e
   rw [e] at h; cases h
 refine ⟨fun b l h => c.hH b l (by rw [← hs.H]; exact h), fun b o h => c.hZ b o (by rw [← hs.Z]; exact h), fun b o sz h => ?_, fun k o h => ?_, fun k h => ?_, fun k k' b τ τ' h1 h2 => ?_, fun t L h => ?_, tdom, fun gg τ cc h => ?_, by rw [hs.oo]; exact c.hoo, fun b sz h => c.hσ b sz (by rw [← hs.σ]; exact h)⟩
 ·obtain ⟨o', h'⟩ := hκ b o sz h
  obtain ⟨a1, a2, a3⟩ := c.hκ b o' sz h'
  exact ⟨by rw [hs.Z]; exact a1, by rw [hs.H]; exact a2, a3⟩
 ·have hk := keyok k o h
  cases hl : z8 s'.loc k with
  | some o1 =>
   have : o1 = o := by unfold S.obj Z8 at h; rw [hl] at h; cases h; rfl
   subst this
   obtain ⟨o0, ho, hi⟩ := z1P hloc hl
   exact (c.obj k o0 ho).imp (fun h => ⟨hk.trans h.1, O.x0H hi h.2⟩) fun hown => (hown.k8 hi).sub hs hk (y0t hlok hl)
  | none =>
   cases k with
   | l n => unfold S.obj Z8 at h; rw [hl] at h; cases h
   | g k =>
    have h' : s.obj (.g k) = some o := by rw [← z7k hA hg hl]; exact h
    have hAk : s.A k = some o := by
     have h2 : s'.A k = some o := by unfold S.obj Z8 at h; rw [hl] at h; exact h
     rw [← hA]; exact h2
    exact (c.obj _ o h').imp (fun h => ⟨hk.trans h.1, h.2⟩) fun hown => hown.sub hs hk (O.z20 (by simp [c5]) (by simp [c5]) o (hAok k o hAk))
 ·cases k with
  | l n =>
   cases hh : Z7 s'.loc n with
   | false => exact absurd (hι n hh) h
   | true =>
    have := (hfl n).1 hh
    unfold S.obj Z8
    cases hl : z8 s'.loc (.l n) with
    | none => exact absurd hl this
    | some o => simp
  | g k =>
   rw [hs.ιg] at h
   have := c.dom _ h
   cases hl : z8 s'.loc (.g k) with
   | some o => unfold S.obj Z8; rw [hl]; simp
   | none => rw [z7k hA hg hl]; exact this
 ·have back : ∀ k x, Γ'.ι k = some x → Γ.ι k = some x := by
   intro k x h
   cases k with
   | g k => rw [← hs.ιg]; exact h
   | l n =>
    cases hh : Z7 s'.loc n with
    | false => rw [hι n hh] at h; cases h
    | true => rw [← hs.ιl n hh]; exact h
  have hdead : ∀ k x, Γ'.ι k = some x → s.c8 k = true → s'.c8 k = true := by
   intro k x hx h
   cases hl : z8 s'.loc k with
   | some o1 =>
    obtain ⟨o0, ho, hi⟩ := z1P hloc hl
    rw [Y9 ho] at h
    have e : s'.obj k = some o1 := by unfold S.obj Z8; rw [hl]
    rw [Y9 e]
    exact O.y2P hi h
   | none =>
    cases k with
    | g k => unfold S.c8 at h ⊢; rw [z7k hA hg hl]; exact h
    | l n =>
     cases hh : Z7 s'.loc n with
     | false => rw [hι n hh] at hx; cases hx
     | true => exact absurd hl ((hfl n).1 hh)
  exact (c.inj k k' b τ τ' (back _ _ h1) (back _ _ h2)).imp id (And.imp (Or.imp (hdead _ _ h1) (hdead _ _ h2)) id)
 ·obtain ⟨x, a1, a2⟩ := tok t L h
  refine ⟨x, a1, fun b pos sz hx => ?_⟩
  obtain ⟨a3, a4⟩ := a2 b pos sz hx
  exact ⟨by rw [hs.H]; exact a3, a4⟩
 ·rw [hs.H]; exact c.hgl gg τ cc (by rw [← hs.gl]; exact h)
end
def G.part (Γ : G) (f g : Nat → Bool) : G :=
 { Γ with ι := fun k => match k with | .l n => if f n then Γ.ι (.l n) else none | .g k => Γ.ι (.g k), τ := fun t => if g t then Γ.τ t else none }
theorem y7P {X : Cx} {n : Nat} {s s' : S} (hA : s'.A = s.A) (hloc : q5v s s'.loc) (hlok : q1O (Z7 s'.loc) (F2 s'.tk) s'.loc = true) (hg : z1r s'.loc s.A s.loc)
  (htk : tkW s s'.tk) (henv : q9B (Z7 s'.loc) (F2 s'.tk) s s'.env) : q1i X n s s' := by
 rintro Γ0 a w ⟨Γ, g1, g3, c, hs, hn, hf, hAok⟩
 have sub : Sub Γ (Γ.part (Z7 s'.loc) (F2 s'.tk)) (Z7 s'.loc) (F2 s'.tk) :=
  ⟨rfl, rfl, rfl, rfl, rfl, fun _ => rfl, fun n h => by simp [G.part, h], fun t h => by simp [G.part, h], fun _ _ _ _ _ => rfl⟩
 refine ⟨Γ.part (Z7 s'.loc) (F2 s'.tk), ⟨g1.H, g1.Z, g1.ZH, g1.g, g1.gl, g1.oo, g1.σ, g1.gn⟩, g3, c.sub sub rfl (fun n h => by simp [G.part, h]) hA hAok hloc hlok hg (fun b o sz h => ⟨o, h⟩) (fun t L h => ?_) (fun t h => ?_), fun i => ?_, hn, hf, by rw [hA]; exact hAok⟩
 ·unfold S.live q0n at h
  cases hl : look s'.tk t with
  | none => simp [hl] at h
  | some x =>
   cases x with
   | none => simp [hl] at h
   | some M =>
    simp [hl] at h; subst h
    have hlive : s.live t = some M := z8X htk hl
    obtain ⟨x, a1, a2⟩ := c.tok t M hlive
    exact ⟨x, by simp [G.part, F2, hl, a1], fun b pos sz hx => a2 b pos sz hx⟩
 ·cases hh : F2 s'.tk t with
  | true => exact hh
  | false => simp [G.part, hh] at h
 ·cases hl : look s'.env i with
  | none => simp [S.get, hl, z7]
  | some x =>
   obtain ⟨e1, e2, e3⟩ := z6M henv hl
   have hget : s'.get i = x := by simp [S.get, hl]
   rw [hget]
   by_cases hx : x = .any
   ·subst hx; trivial
   ·have hr := hs i
    have e3 := e3.resolve_left hx
    refine z7.sub sub e2 ?_
    cases hsi : s.get i with
    | any =>
     rw [hsi] at e1
     cases x <;> simp [V.k8, Q3] at e1 hx
    | tup us =>
     rw [hsi] at e1 hr
     cases x <;> simp [V.k8, Q3] at e1 hx
     subst e1; exact hr
    | _ =>
     rw [hsi] at e1 hr e3
     have hpl : z6 Γ none [] _ (a.tmps.getD i undef).cells.toList ∧ _ := hr
     obtain ⟨r1, r2⟩ := z6.k8 x _ e1 hpl.1
     have hxp := V.q4D r1 hx
     exact (v5 hxp).2 ⟨r1, by rw [e3]; exact hpl.2⟩
end Go.E
namespace Go.E
open Go
def z3u (X : Cx) (s : S) (r : ResultVar) : V :=
 match r with
 | .tmp t => s.get t
 | .cell a t => (match s.get a with
   | .ptr k q τ => (match s.obj k with
     | some (.box y) => view (y.at q)
     | _ => .any)
   | _ => .any)
def q3c (X : Cx) (s : S) : List ResultVar → List V
 | [] => []
 | r :: rs => z3u X s r :: q3c X s rs
def z2H (X : Cx) (s : S) (r : ResultVar) : Prop :=
 match r with
 | .tmp _ => True
 | .cell a t => (match s.get a with
   | .ptr k q τ => (match s.obj k with
     | some (.box y) => τ = ty X.P t ∧ τ.known = true ∧ y.at q ≠ .any
     | _ => False)
   | _ => False)
def z0d (X : Cx) (s : S) : List ResultVar → Prop
 | [] => True
 | r :: rs => z2H X s r ∧ z0d X s rs
def q0S (s : S) (f : Nat → Bool) (x : V) (v : V) : Prop :=
 match v with
 | .ts eb e cs => (match x with
  | .sl eb' e' cs' t => eb' = eb ∧ e' = e ∧ cs' = cs ∧ s.live t = some cs.length
  | .emp eb' e' => eb' = eb ∧ e' = e ∧ cs = []
  | .nilc => cs = []
  | _ => False)
 | v => V.k8 x v ∧ v.ok f c5 = true ∧ v.plain = true ∧ v.ty.isAgg = x.ty.isAgg
def q06 (s : S) (f : Nat → Bool) : List V → List V → Prop
 | [], [] => True
 | x :: xs, v :: vs => q0S s f x v ∧ q06 s f xs vs
 | _, _ => False
def z3t : List V → V → Option (List V)
 | [_], v => some [v]
 | _, .tup vs => some vs
 | _, _ => none
def q2a : Nat → List V → List V → List (Nat × Option Nat)
 | m, x :: xs, v :: vs => (match v, x with
  | .ts _ _ _, .sl _ _ _ t => [(m, some t)]
  | .ts _ _ _, _ => [(m, none)]
  | _, _ => []) ++ q2a (m + 1) xs vs
 | _, _, _ => []
def q6F : List (Nat × Option Nat) → List Nat
 | [] => []
 | (_, some t) :: l => t :: q6F l
 | (_, none) :: l => q6F l
def q8h (X : Cx) (fn : Func) (A : Key → Option O) (v : V) (L : List (Key × O)) (s : S) : Prop :=
 s.A = A ∧ q5v s L ∧ q1O (Z7 L) c5 L = true ∧ z1r L A s.loc ∧ z0d X s fn.results.toList ∧
  (match z3t (q3c X s fn.results.toList) v with
   | some vs => q06 s (Z7 L) (q3c X s fn.results.toList) vs ∧ q1D (q6F (q2a 2000 (q3c X s fn.results.toList) vs)) = true
   | none => False)
def z2Z : List (Nat × Option Nat) → Nat → Option Nat
 | [], _ => none
 | (m, some t) :: l, u => if t = u then some m else z2Z l u
 | (_, none) :: l, u => z2Z l u
theorem z3A : ∀ {l : List (Nat × Option Nat)} {m t : Nat}, q1D (q6F l) = true → look l m = some (some t) → z2Z l t = some m
 | [], _, _, _, h => by simp [look] at h
 | (j, y) :: l, m, t, hn, h => by
  simp only [look] at h
  split at h
  ·rename_i e; cases h; subst e; simp [z2Z]
  ·cases y with
   | none => exact z3A (l := l) hn h
   | some u =>
    simp only [q6F, q1D, Bool.and_eq_true, Bool.not_eq_true'] at hn
    have ih := z3A hn.2 h
    have hne : u ≠ t := by
     intro e; subst e
     have hm : ∀ {l : List (Nat × Option Nat)} {m : Nat}, look l m = some (some u) → u ∈ q6F l := by
      intro l
      induction l with
      | nil => intro m h; simp [look] at h
      | cons z l ih =>
       obtain ⟨j', y'⟩ := z
       intro m h
       simp only [look] at h
       split at h
       ·cases h; simp [q6F]
       ·cases y' with
        | none => exact ih h
        | some t' => simp [q6F, ih h]
     have := hm h
     simp [this] at hn
    simp [z2Z, hne, ih]
def G.fin (Γ : G) (f : Nat → Bool) (pairs : List (Nat × Option Nat)) : G :=
 { Γ with
   ι := fun k => match k with | .l n => if f n then Γ.ι (.l n) else none | .g k => Γ.ι (.g k)
   τ := fun m => match look pairs m with
    | some (some t) => Γ.τ t
    | some none => some (none, 0)
    | none => none
   κ := fun b => match Γ.κ b with
    | some (.tok t, sz) => match z2Z pairs t with
     | some m => some (.tok m, sz)
     | none => none
    | x => x }
theorem q9W : ∀ {n : Nat} {xs vs : List V} {m : Nat}, look (q2a n xs vs) m = if n ≤ m then (match xs[m - n]?, vs[m - n]? with
  | some (.sl _ _ _ t), some (.ts _ _ _) => some (some t)
  | some _, some (.ts _ _ _) => some none
  | _, _ => none) else none
 | n, [], vs, m => by simp [q2a, look]
 | n, x :: xs, [], m => by simp only [q2a, look]; split <;> simp
 | n, x :: xs, v :: vs, m => by
  simp only [q2a, q2w]
  have ih := q9W (n := n + 1) (xs := xs) (vs := vs) (m := m)
  by_cases h1 : n = m
  ·subst h1
   have hr : look (q2a (n + 1) xs vs) n = none := by rw [ih, if_neg (by omega)]
   cases v <;> cases x <;> simp [look, hr]
  ·have h0 : look (match v, x with
     | .ts _ _ _, .sl _ _ _ t => [(n, some t)]
     | .ts _ _ _, _ => [(n, none)]
     | _, _ => []) m = none := by
    cases v <;> cases x <;> simp [look, h1]
   rw [h0, ih]
   by_cases h2 : n ≤ m
   ·rw [if_pos h2, if_pos (by omega), show m - n = (m - (n + 1)) + 1 by omega]
    simp only [List.getElem?_cons_succ]
   ·rw [if_neg h2, if_neg (by omega)]
section
variable {X : Cx} {n : Nat} {s : S}
def q8S (a : Act) : ResultVar → Sem Value
 | .tmp t => pure (a.tmps.getD t undef)
 | .cell b t => do loadVar t (← asAddr (a.tmps.getD b undef))
theorem y8E (fn : Func) (a : Act) : results fn a.tmps = (do
  let vs ← fn.results.mapM (q8S a)
  pure (if h : vs.size = 1 then vs[0] else .tuple vs)) := by
 unfold results
 congr 2
theorem y8C (hP : v9 X.P = true) {Γ : G} {w : World} {a : Act} (c : y9 Γ w s) (hs : q3A Γ s a.tmps) {r : ResultVar} (hch : z2H X s r) :
  ∃ v, (q8S a r).run X.P w = .ok v w ∧ z7 Γ (z3u X s r) v := by
 cases r with
 | tmp t => exact ⟨_, rfl, hs t⟩
 | cell b t =>
  have hb := hs b
  simp only [z2H] at hch
  split at hch
  ·rename_i k q τ hk
   rw [hk] at hb
   split at hch
   ·rename_i y hy
    obtain ⟨u, h1, h2⟩ := z9k hP c hb hy hch.2.2 hch.1 hch.2.1
    obtain ⟨b', τ0, o, _, _, hv⟩ := q1t hb
    refine ⟨u, ?_, ?_⟩
    ·rw [hv] at h1
     simp only [q8S, hv]
     simpa [Instr.loadAt, Instr.sureAddr, asAddr] using h1
    ·simp only [z3u, hk, hy]
     exact h2
   ·exact hch.elim
  ·exact hch.elim
theorem z76 (hP : v9 X.P = true) {Γ : G} {w : World} {a : Act} (c : y9 Γ w s) (hs : q3A Γ s a.tmps) : ∀ (rs : List ResultVar), z0d X s rs →
  ∃ vs : List Value, (rs.mapM (q8S a)).run X.P w = .ok vs w ∧ vs.length = rs.length ∧
   ∀ (i : Nat) x v, (q3c X s rs)[i]? = some x → vs[i]? = some v → z7 Γ x v
 | [], _ => ⟨[], by simp, rfl, by simp [q3c]⟩
 | r :: rs, hpl => by
  simp only [z0d] at hpl
  obtain ⟨v, h1, h2⟩ := y8C hP c hs hpl.1
  obtain ⟨vs, h3, h4, h5⟩ := z76 hP c hs rs hpl.2
  refine ⟨v :: vs, ?_, by simp [h4], ?_⟩
  ·rw [List.mapM_cons]
   simp only [Sem.run_bind]
   rw [h1]
   simp only [Result.andThen_ok, Sem.run_bind]
   rw [h3]
   simp
  ·intro i x u hx hu
   cases i with
   | zero => simp [q3c] at hx hu; subst hx; subst hu; exact h2
   | succ i => exact h5 i x u (by simpa [q3c] using hx) (by simpa using hu)
theorem z77 : ∀ (rs : List ResultVar), (q3c X s rs).length = rs.length
 | [] => rfl
 | r :: rs => by simp [q3c, z77 rs]
theorem q2O {f : Nat → Bool} : ∀ {xs vs : List V} {i : Nat} {v : V}, q06 s f xs vs → vs[i]? = some v → ∃ x, xs[i]? = some x ∧ q0S s f x v
 | [], [], _, _, _, h => by simp at h
 | x :: xs, v :: vs, 0, v', hr, h => by simp at h; subst h; exact ⟨x, rfl, hr.1⟩
 | x :: xs, v :: vs, i + 1, v', hr, h => by
  obtain ⟨y, h1, h2⟩ := q2O hr.2 (show vs[i]? = some v' by simpa using h)
  exact ⟨y, by simpa using h1, h2⟩
 | [], _ :: _, _, _, hr, _ => by simp [q06] at hr
 | _ :: _, [], _, _, hr, _ => by simp [q06] at hr
theorem z5F {f : Nat → Bool} : ∀ {xs vs : List V}, q06 s f xs vs → xs.length = vs.length
 | [], [], _ => rfl
 | x :: xs, v :: vs, h => by simp [z5F h.2]
 | [], _ :: _, hr => by simp [q06] at hr
 | _ :: _, [], hr => by simp [q06] at hr
theorem y6Z {Γ : G} {w : World} (c : y9 Γ w s) {f : Nat → Bool} {pairs : List (Nat × Option Nat)} {m : Nat} {x v : V} {u : Value} (hsub : Sub Γ (Γ.fin f pairs) f c5) (hr : z7 Γ x u) (hi : q0S s f x v)
  (hp : ∀ eb e cs, v = .ts eb e cs → match x with | .sl _ _ _ t => look pairs m = some (some t) | _ => look pairs m = some none) : z7 (Γ.fin f pairs) (v.slot m) u := by
 have other : v.z1K = true → V.k8 x v ∧ v.ok f c5 = true ∧ v.plain = true ∧ v.ty.isAgg = x.ty.isAgg → z7 (Γ.fin f pairs) (v.slot m) u := by
  intro hn ⟨h1, h2, h3, h4⟩
  have hvs : v.slot m = v := by cases v <;> simp [V.slot]; simp [V.z1K] at hn
  rw [hvs]
  refine z7.sub hsub h2 ?_
  cases x with
  | any =>
   cases v <;> simp [V.k8, Q3, V.plain] at h1 h3
  | tup us =>
   cases v <;> simp [V.k8, Q3, V.plain] at h1 h3
  | _ =>
   obtain ⟨q1, q2⟩ := hr
   obtain ⟨r1, _⟩ := z6.k8 v _ h1 q1
   exact (v5 h3).2 ⟨r1, by rw [h4]; exact q2⟩
 cases v
 case ts eb e cs =>
  have hp := hp eb e cs rfl
  simp only [q0S] at hi
  cases x <;> simp only at hi hp
  case sl eb' e' cs' t =>
   obtain ⟨rfl, rfl, rfl, hl⟩ := hi
   obtain ⟨h1, _⟩ := (s6 rfl rfl).1 hr
   simp only [z6] at h1
   obtain ⟨a, n, cap, hv, hrc, y, L, h2, h3, h4⟩ := h1
   simp at hv; subst hv
   simp only [V.slot]
   refine (s6 rfl rfl).2 ⟨?_, rfl⟩
   simp only [z6]
   exact ⟨a, n, cap, rfl, hrc, y, L, by simp [G.fin, hp, h2], h3, h4⟩
  case emp eb' e' =>
   obtain ⟨rfl, rfl, rfl⟩ := hi
   obtain ⟨h1, _⟩ := (s6 rfl rfl).1 hr
   simp only [z6] at h1
   obtain ⟨a, hv⟩ := h1
   simp at hv; subst hv
   simp only [V.slot]
   refine (s6 rfl rfl).2 ⟨?_, rfl⟩
   simp only [z6]
   exact ⟨a, 0, 0, rfl, o9 rfl (Nat.le_refl _) (Nat.zero_le _) (by rw [Nat.zero_mul]; exact Nat.zero_le _) (.inl rfl), none, 0, by simp [G.fin, hp], Nat.le_refl _, fun _ => rfl⟩
  case nilc =>
   subst hi
   have hp2 : look pairs m = some none := by assumption
   rw [W6 hr]
   simp only [V.slot]
   refine (s6 rfl rfl).2 ⟨?_, rfl⟩
   simp only [z6]
   exact ⟨none, 0, 0, rfl, o9 rfl (Nat.le_refl _) (Nat.zero_le _) (by rw [Nat.zero_mul]; exact Nat.zero_le _) (.inl rfl), none, 0, by simp [G.fin, hp2], Nat.le_refl _, fun _ => rfl⟩
 all_goals exact other rfl (by simpa only [q0S] using hi)
theorem x4a {Γ : G} : ∀ (xs : List V) (vs : List Value), xs.length = vs.length → (∀ (i : Nat) x, xs[i]? = some x → x.plain = true) → (∀ (i : Nat) x v, xs[i]? = some x → vs[i]? = some v → z7 Γ x v) → v3 Γ xs vs :=
 fun xs vs hl hp hr => q6I hl fun i x v hx hv => ⟨hp i x hx, hr i x v hx hv⟩
theorem z4N : ∀ (xs : List V) (i j : Nat), look (q7T i xs) j = if i ≤ j then xs[j - i]? else none
 | [], i, j => by simp [q7T, look]
 | x :: xs, i, j => by
  simp only [q7T, look, z4N xs (i + 1) j]
  by_cases h1 : i = j
  ·subst h1; simp
  ·rw [if_neg h1]
   by_cases h2 : i ≤ j
   ·rw [if_pos h2, if_pos (by omega), show j - i = (j - (i + 1)) + 1 by omega, List.getElem?_cons_succ]
   ·rw [if_neg h2, if_neg (by omega)]
theorem z1m (hP : v9 X.P = true) {f : FuncId} {fn : Func} {c : Code} {xs : List V} {A : Key → Option O} {v : V} {L : List (Key × O)}
  (hf : X.P.funcs[f]? = some fn) (hb : fn.body = some c) (hn : fn.ntmps = n) (hlen : xs.length ≤ n)
  (h : ∀ A', (∀ k o, A k = some o → A' k = some o) → DC X n c (S.start xs A') fun e s' => (e = .normal ∨ e = .ret) ∧ q8h X fn A' v L s') : Q0 X f xs A v L := by
 intro A' Γ w args hAA hgl ⟨c0, hA0⟩ hargs hrep
 subst hn
 refine calls_of_wp hf hb ?_
 refine wp_mono (h A' hAA Γ { tmps := args ++ Array.replicate (fn.ntmps - args.size) undef, defers := [] } w ⟨Γ, .refl Γ, hgl, c0, ?_, by simp; omega, rfl, hA0⟩) ?_
 ·intro i
  have hget : (S.start xs A').get i = ((U1 1000 xs)[i]?).getD .any := by
   simp only [S.get, S.start, z4N, Nat.zero_le, if_true, Nat.sub_zero]
  rw [hget]
  cases hx : (U1 1000 xs)[i]? with
  | none => simp [z7]
  | some x =>
   have hi : i < args.size := by rw [← hargs, ← z0o 1000 xs]; exact (List.getElem?_eq_some_iff.1 hx).1
   have hv : args[i]? = some args[i] := Array.getElem?_eq_getElem hi
   have := hrep i x _ hx hv
   rw [Array.getD_eq_getD_getElem?, Array.getElem?_append_left hi, hv]
   simpa using this
 ·rintro e a w' ⟨s', ⟨he, hA, hL, hLok, hall, hch, hres⟩, Γ', g1, g3, c', hs, hn, hfr, hAok⟩
  obtain ⟨us, hvs, hvl, hvr⟩ := z76 hP c' hs _ hch
  split at hres
  ·rename_i vs hretV
   obtain ⟨hri, hnd⟩ := hres
   generalize hxs : q3c X s' fn.results.toList = rs at *
   have hrl : rs.length = fn.results.toList.length := by rw [← hxs]; exact z77 _
   have hsub : Sub Γ' (Γ'.fin (Z7 L) (q2a 2000 rs vs)) (Z7 L) c5 :=
    ⟨rfl, rfl, rfl, rfl, rfl, fun _ => rfl, fun n h => by simp [G.fin, h], fun t h => by simp [c5] at h, fun b k p sz h => by simp [G.fin, h]⟩
   have hvlen := z5F hri
   have hul : us.length = rs.length := by rw [hvl, hrl]
   -- what the places of the result's tokens are
   have htk : ∀ m, look (v.tkR 2000) m = if 2000 ≤ m then (match vs[m - 2000]? with | some (.ts _ _ cs) => some (some cs.length) | _ => none) else none := by
    intro m
    cases rs with
    | nil => cases v <;> simp [z3t] at hretV; subst hretV; simp only [V.tkR, q6C] <;> rfl
    | cons x1 rs1 => cases rs1 with
     | nil =>
      simp only [z3t] at hretV
      cases hretV
      obtain ⟨x', _, hi'⟩ := q2O hri (i := 0) (v := v) rfl
      have hnt : v.tkR 2000 = v.q05 2000 := by
       cases v <;> simp [V.tkR]
       simp [q0S, V.plain] at hi'
      rw [hnt, y2t]
      by_cases hm : 2000 = m
      ·subst hm; simp; cases v <;> rfl
      ·rw [if_neg hm]
       by_cases hm2 : 2000 ≤ m
       ·rw [if_pos hm2, show m - 2000 = (m - 2001) + 1 by omega]; simp
       ·rw [if_neg hm2]
     | cons x2 rs2 => cases v <;> simp [z3t] at hretV; subst hretV; simp only [V.tkR, q6C] <;> rfl
   have cfin : y9 (Γ'.fin (Z7 L) (q2a 2000 rs vs)) w' (S.fin v L A') := by
    refine c'.sub (s' := S.fin v L A') hsub rfl (fun n h => by simp [G.fin, show Z7 L n = false from h]) hA.symm hAok hL hLok (hA ▸ hall) (fun b o sz h => ?_) (fun m M h => ?_) (fun m h => ?_)
    ·simp only [G.fin] at h
     cases hk : Γ'.κ b with
     | none => simp [hk] at h
     | some y =>
      obtain ⟨o', sz'⟩ := y
      cases o' with
      | home k p => simp [hk] at h; exact ⟨_, by rw [h.2]⟩
      | tok t =>
       simp only [hk] at h
       split at h
       ·simp at h; exact ⟨_, by rw [h.2]⟩
       ·cases h
    ·-- a live token of the result
     have h : look (v.tkR 2000) m = some (some M) := by
      unfold S.live q0n at h
      change (match look (v.tkR 2000) m with | some (some L) => some L | _ => none) = some M at h
      cases hl : look (v.tkR 2000) m with
      | none => simp [hl] at h
      | some y => cases y with
       | none => simp [hl] at h
       | some M' => simp [hl] at h; rw [h]
     rw [htk] at h
     by_cases hm : 2000 ≤ m
     ·rw [if_pos hm] at h
      cases hv : vs[m - 2000]? with
      | none => simp [hv] at h
      | some v1 =>
       obtain ⟨x1, hx1, hi1⟩ := q2O hri hv
       cases v1 <;> simp [hv] at h
       rename_i eb e cs
       subst h
       have hlook := q9W (n := 2000) (xs := rs) (vs := vs) (m := m)
       rw [if_pos hm, hx1, hv] at hlook
       simp only [q0S] at hi1
       cases x1 <;> simp only at hi1 hlook
       ·obtain ⟨rfl, rfl, rfl, hlive⟩ := hi1
        rename_i cs' t
        obtain ⟨y, a1, a2⟩ := c'.tok t _ hlive
        refine ⟨y, by simp [G.fin, hlook, a1], fun b pos sz hy => ?_⟩
        obtain ⟨a3, a4⟩ := a2 b pos sz hy
        exact ⟨a3, by simp [G.fin, a4, z3A hnd hlook]⟩
       ·obtain ⟨rfl, rfl, rfl⟩ := hi1
        exact ⟨none, by simp [G.fin, hlook], fun b pos sz h => by cases h⟩
       ·subst hi1
        exact ⟨none, by simp [G.fin, hlook], fun b pos sz h => by cases h⟩
     ·rw [if_neg hm] at h; cases h
    ·-- tokens known
     have : look (q2a 2000 rs vs) m ≠ none := by
      intro e; simp [G.fin, e] at h
     rw [q9W] at this
     unfold S.known
     change (look (v.tkR 2000) m).isSome = true
     rw [htk]
     by_cases hm : 2000 ≤ m
     ·rw [if_pos hm] at this ⊢
      cases hv : vs[m - 2000]? with
      | none => rw [hv] at this; cases hx1 : rs[m - 2000]? with
       | none => simp [hx1] at this
       | some x1 => simp [hx1] at this
      | some v1 =>
       rw [hv] at this
       cases v1
       case ts => rfl
       all_goals (exfalso; cases hx1 : rs[m - 2000]? with
        | none => simp [hx1] at this
        | some x1 => simp [hx1] at this)
     ·rw [if_neg hm] at this; exact absurd rfl this
   have hres' : (results fn a.tmps).run X.P w' = .ok (if h : us.length = 1 then us[0] else .tuple us.toArray) w' := by
    have hmap : (fn.results.mapM (q8S a)).run X.P w' = .ok us.toArray w' := by
     rw [Array.mapM_eq_mapM_toList]
     simp only [Sem.run_map] at hvs ⊢
     rw [hvs]
     rfl
    rw [y8E]
    simp only [Sem.run_bind]
    rw [hmap]
    simp only [Result.andThen_ok, Sem.run_pure, List.size_toArray]
    split <;> simp
   have hone : ∀ (i : Nat) (v1 : V) (u : Value), vs[i]? = some v1 → us[i]? = some u → z7 (Γ'.fin (Z7 L) (q2a 2000 rs vs)) (v1.slot (2000 + i)) u := by
    intro i v1 u hv1 hu
    obtain ⟨x1, hx1, hi1⟩ := q2O hri hv1
    refine y6Z c' hsub (hvr i x1 u hx1 hu) hi1 fun eb e cs hts => ?_
    subst hts
    have hlook := q9W (n := 2000) (xs := rs) (vs := vs) (m := 2000 + i)
    rw [if_pos (by omega), show 2000 + i - 2000 = i by omega, hx1, hv1] at hlook
    simp only [q0S] at hi1
    cases x1 <;> simp only at hi1 hlook ⊢ <;> exact hlook
   have hpl : ∀ (i : Nat) (x : V), (U1 2000 vs)[i]? = some x → x.plain = true := by
    intro i x hx
    rw [q8Q] at hx
    cases hv1 : vs[i]? with
    | none => simp [hv1] at hx
    | some v1 =>
     simp [hv1] at hx
     subst hx
     obtain ⟨x1, _, hi1⟩ := q2O hri hv1
     cases v1 <;> simp only [q0S] at hi1 <;> first | rfl | (exact hi1.2.2.1)
   have hrv : z7 (Γ'.fin (Z7 L) (q2a 2000 rs vs)) (v.U5 2000) (if h : us.length = 1 then us[0] else .tuple us.toArray) := by
    by_cases h1 : us.length = 1
    ·rw [dif_pos h1]
     cases rs with
     | nil => rw [hul] at h1; simp at h1
     | cons x1 rs1 => cases rs1 with
      | nil =>
       simp only [z3t] at hretV; cases hretV
       have := hone 0 v us[0] rfl (List.getElem?_eq_getElem (by omega))
       have hsr : v.U5 2000 = v.slot 2000 := by
        cases v <;> simp [V.U5]
        obtain ⟨x', _, hi'⟩ := q2O hri (i := 0) rfl
        simp [q0S, V.plain] at hi'
       rw [hsr]; exact this
      | cons x2 rs2 => rw [hul] at h1; simp at h1
    ·rw [dif_neg h1]
     have hcap : v3 (Γ'.fin (Z7 L) (q2a 2000 rs vs)) (U1 2000 vs) us := x4a _ _ (by rw [z0o]; omega) hpl fun i x u hx hu => by
      rw [q8Q] at hx
      cases hv1 : vs[i]? with
      | none => simp [hv1] at hx
      | some v1 => simp [hv1] at hx; subst hx; exact hone i v1 u hv1 hu
     have hvt : v = .tup vs := by
      cases rs with
      | nil => cases v <;> simp [z3t] at hretV; rw [hretV]
      | cons x1 rs1 => cases rs1 with
       | nil => exact absurd hul h1
       | cons x2 rs2 => cases v <;> simp [z3t] at hretV; rw [hretV]
     subst hvt
     exact ⟨_, rfl, by simpa using hcap⟩
   have gfin : GLe Γ' (Γ'.fin (Z7 L) (q2a 2000 rs vs)) := ⟨Hp.le_refl _, rfl, fun _ _ => rfl, fun _ _ h => h, rfl, rfl, fun _ _ h => h, fun _ h => h⟩
   rcases he with rfl | rfl
   ·exact ⟨hfr, _, hres', _, _, rfl, g1.trans gfin, cfin, hrv⟩
   ·exact ⟨hfr, _, hres', _, _, rfl, g1.trans gfin, cfin, hrv⟩
  ·exact hres.elim
end
end Go.E
namespace Go.E
open Go
def dep (ops : List Oper) (i j : Nat) : Prop := ∃ o, ops[i]? = some o ∧ ∃ e ∈ o.after, Region.binds .any e = true ∧ e.on = j
inductive Anc (ops : List Oper) : Nat → Nat → Prop where
 | one {i j : Nat} : dep ops i j → Anc ops j i
 | step {i j k : Nat} : dep ops i k → Anc ops j k → Anc ops j i
theorem Anc.closed {ops : List Oper} {D : Nat → Prop} (hD : ∀ i j, D i → dep ops i j → D j) {i j : Nat} (h : Anc ops j i) (hi : D i) : D j := by
 induction h with
 | one h => exact hD _ _ hi h
 | step h _ ih => exact ih (hD _ _ hi h)
structure Res where
 t : Nat
 v : V
 lo : List (Key × O)
 tn : List (Nat × Option Nat)
 s1 : S
def om (s : S) : Key ⊕ Nat → Option (O ⊕ Option Nat)
 | .inl k => (s.obj k).map .inl
 | .inr t => (look s.tk t).map .inr
def Res.om (r : Res) : Key ⊕ Nat → Option (O ⊕ Option Nat)
 | .inl k => (z8 r.lo k).map .inl
 | .inr t => (look r.tn t).map .inr
def S.step (s : S) (o : Oper) (r : Res) : S :=
 bif r.t == 0 then s.set o.dst r.v else bif r.t == 1 then (s.add r.lo r.tn).set o.dst r.v else r.s1.set o.dst r.v
theorem y5j (s : S) (d : Option Nat) (v : V) : om (s.set d v) = om s := by cases d <;> rfl
theorem y9O (s : S) (d : Option Nat) (v : V) : (s.set d v).A = s.A := by cases d <;> rfl
theorem x0j (s : S) (lo : List (Key × O)) (tn : List (Nat × Option Nat)) (k : Key ⊕ Nat) {r : Res} (h1 : r.lo = lo) (h2 : r.tn = tn) : om (s.add lo tn) k = match r.om k with | some x => some x | none => om s k := by
 subst h1; subst h2
 cases k with
 | inl k =>
  simp only [om, Res.om, S.add, S.obj, Z8, q1G]
  cases z8 r.lo k <;> rfl
 | inr t =>
  simp only [om, Res.om, S.add, q2w]
  cases look r.tn t <;> rfl
theorem y5i {s : S} {o : Oper} {r : Res} (h : r.t = 0) : om (s.step o r) = om s := by unfold S.step; rw [h]; exact y5j _ _ _
theorem z86 {s : S} {o : Oper} {r : Res} (h : r.t = 1) (k : Key ⊕ Nat) : om (s.step o r) k = match r.om k with | some x => some x | none => om s k := by
 unfold S.step; rw [h]
 exact (congrFun (y5j _ _ _) k).trans (x0j s _ _ k rfl rfl)
theorem x1T {s : S} {o : Oper} {r : Res} (h : r.t = 2) : om (s.step o r) = om r.s1 := by unfold S.step; rw [h]; exact y5j _ _ _
theorem x2a {s : S} {o : Oper} {r : Res} (h3 : r.t = 0 ∨ r.t = 1 ∨ r.t = 2) (h2 : r.t = 2 → r.s1.env = s.env) (t : Nat) : (s.step o r).get t = if o.dst = some t then r.v else s.get t := by
 unfold S.step
 rcases h3 with h | h | h
 ·rw [h]; exact q5l _ _ _ _
 ·rw [h]; exact q5l _ _ _ _
 ·have e : r.s1.get t = s.get t := by simp only [S.get, h2 h]
  rw [h, ← e]; exact q5l _ _ _ _
theorem x5O {s : S} {o : Oper} {r : Res} (h3 : r.t = 0 ∨ r.t = 1 ∨ r.t = 2) (h2 : r.t = 2 → r.s1.A = s.A) : (s.step o r).A = s.A := by
 unfold S.step
 rcases h3 with h | h | h
 ·rw [h]; exact y9O _ _ _
 ·rw [h]; exact y9O _ _ _
 ·rw [h, ← h2 h]; exact y9O _ _ _
def q3T (ops : Array Oper) (s : S) (o : Oper) : Option Bool :=
 match o.guard with
 | none => some true
 | some (j, want) => match q4r ops j with
  | none => none
  | some t => match s.get t with
   | .d .bool c => some (c.toBool == want)
   | .tup [] => some false
   | _ => none
def y9K (X : Cx) (o : Oper) (ρ : Operand → V) (v : V) : Prop :=
 ∀ (Γ : G) (w : World) (a : Act) (s : S), Γ.gl = X.gl → y9 Γ w s → (∀ y ∈ o.op.operands, z7 Γ (ρ y) (a.eval y)) → o8 X.P o a w (j4 Γ w s v)
def OkR (X : Cx) (ops : Array Oper) (base s : S) (o : Oper) (r : Res) : Prop :=
 (q3T ops s o = some false ∧ r.t = 0 ∧ r.v = .tup []) ∨
 (q3T ops s o = some true ∧ (
  (r.t = 0 ∧ y9K X o (v8 X.gl s) r.v) ∨
  (r.t = 1 ∧ y9M X base o (v8 X.gl s) s r.v r.lo r.tn ∧ y4y s r.lo r.tn) ∨
  (r.t = 2 ∧ x28 X o (v8 X.gl s) s r.v r.s1)))
def Y3 (rs : Nat → Res) : Nat → Nat
 | 0 => 0
 | i + 1 => if (rs i).t = 2 then i + 1 else Y3 rs i
theorem q3o (rs : Nat → Res) : ∀ i, Y3 rs i ≤ i
 | 0 => Nat.le_refl _
 | i + 1 => by simp only [Y3]; split; exact Nat.le_refl _; exact Nat.le_succ_of_le (q3o rs i)
theorem z7o (rs : Nat → Res) : ∀ i k, k < i → (rs k).t = 2 → k < Y3 rs i
 | 0, k, h, _ => by omega
 | i + 1, k, h, ht => by
  simp only [Y3]
  split
  ·exact h
  ·rename_i hi
   refine z7o rs i k ?_ ht
   rcases Nat.lt_succ_iff_lt_or_eq.1 h with h | h
   ·exact h
   ·subst h; exact absurd ht hi
theorem z9o (rs : Nat → Res) : ∀ i, Y3 rs i = 0 ∨ ∃ k, Y3 rs i = k + 1 ∧ (rs k).t = 2
 | 0 => .inl rfl
 | i + 1 => by
  simp only [Y3]
  split
  ·exact .inr ⟨i, rfl, ‹_›⟩
  ·exact z9o rs i
structure Canon (X : Cx) (ops : List Oper) (s0 : S) (rs : Nat → Res) (c : Nat → S) : Prop where
 c0 : c 0 = s0
 cs : ∀ i o, ops[i]? = some o → c (i + 1) = (c i).step o (rs i)
 ok : ∀ i o, ops[i]? = some o → OkR X ops.toArray (c (Y3 rs i)) (c i) o (rs i)
 tri : ∀ i, (rs i).t = 0 ∨ (rs i).t = 1 ∨ (rs i).t = 2
def writes (ops : List Oper) (j t : Nat) : Prop := ∃ o, ops[j]? = some o ∧ o.dst = some t
def looks (ops : List Oper) (i t : Nat) : Prop := ∃ o, ops[i]? = some o ∧ t ∈ o.looksAt ops.toArray
structure Orders (ops : List Oper) (rs : Nat → Res) : Prop where
 lt : ∀ i j, dep ops i j → j < i
 tt : ∀ i j, i < ops.length → j < ops.length → (rs i).t = 2 → (rs j).t ≠ 0 → j ≠ i → (j < i ∧ Anc ops j i) ∨ (i < j ∧ Anc ops i j)
 U1 : ∀ i j t, j ≠ i → writes ops j t → looks ops i t → (j < i ∧ Anc ops j i) ∨ (i < j ∧ Anc ops i j)
 one : ∀ i j t, writes ops i t → writes ops j t → i = j
theorem OkR.env {X : Cx} {ops : Array Oper} {base s : S} {o : Oper} {r : Res} (h : OkR X ops base s o r) (ht : r.t = 2) : r.s1.env = s.env ∧ r.s1.A = s.A := by
 rcases h with h | ⟨_, h | h | h⟩
 ·omega
 ·omega
 ·omega
 ·exact ⟨h.2.2.1, h.2.1⟩
section
variable {X : Cx} {ops : List Oper} {s0 : S} {rs : Nat → Res} {c : Nat → S}
theorem getOp {i : Nat} (h : i < ops.length) : ∃ o, ops[i]? = some o := ⟨_, List.getElem?_eq_getElem h⟩
theorem Canon.A (K : Canon X ops s0 rs c) : ∀ i, i ≤ ops.length → (c i).A = s0.A
 | 0, _ => by rw [K.c0]
 | i + 1, h => by
  obtain ⟨o, ho⟩ := getOp (ops := ops) (i := i) (by omega)
  rw [K.cs i o ho, x5O (K.tri i) (fun ht => ((K.ok i o ho).env ht).2), K.A i (by omega)]
theorem Canon.x23 (K : Canon X ops s0 rs c) {i : Nat} {o : Oper} (ho : ops[i]? = some o) (t : Nat) : (c (i + 1)).get t = if o.dst = some t then (rs i).v else (c i).get t := by
 rw [K.cs i o ho]; exact x2a (K.tri i) (fun ht => ((K.ok i o ho).env ht).1) t
theorem Canon.y9h (K : Canon X ops s0 rs c) (Od : Orders ops rs) {j t : Nat} (hw : writes ops j t) : ∀ i, j < i → i ≤ ops.length → (c i).get t = (rs j).v
 | 0, h, _ => by omega
 | i + 1, h, hi => by
  obtain ⟨o, ho⟩ := getOp (ops := ops) (i := i) (by omega)
  rw [K.x23 ho]
  by_cases hji : j = i
  ·subst hji
   obtain ⟨o', h1, h2⟩ := hw
   rw [ho] at h1; cases h1
   rw [if_pos h2]
  ·have hd : ¬ o.dst = some t := fun e => hji (Od.one j i t hw ⟨o, ho, e⟩)
   rw [if_neg hd]
   exact K.y9h Od hw i (by omega) (by omega)
theorem Canon.y4m (K : Canon X ops s0 rs c) {t : Nat} : ∀ i, i ≤ ops.length → (∀ j, j < i → ¬ writes ops j t) → (c i).get t = s0.get t
 | 0, _, _ => by rw [K.c0]
 | i + 1, hi, hw => by
  obtain ⟨o, ho⟩ := getOp (ops := ops) (i := i) (by omega)
  have hd : ¬ o.dst = some t := fun e => hw i (by omega) ⟨o, ho, e⟩
  rw [K.x23 ho, if_neg hd]
  exact K.y4m i (by omega) (fun j hj => hw j (by omega))
theorem Canon.fresh (K : Canon X ops s0 rs c) {i : Nat} (hi : i < ops.length) (ht : (rs i).t = 1) {k : Key ⊕ Nat} {x : O ⊕ Option Nat} (h : (rs i).om k = some x) : om (c i) k = none := by
 obtain ⟨o, ho⟩ := getOp hi
 rcases K.ok i o ho with h1 | ⟨_, h1 | h1 | h1⟩
 ·omega
 ·omega
 ·have hf := h1.2.2
  cases k with
  | inl k =>
   simp only [Res.om, Option.map_eq_some_iff] at h
   obtain ⟨y, h, _⟩ := h
   simp only [om, hf.l k y h, Option.map_none]
  | inr t =>
   simp only [Res.om, Option.map_eq_some_iff] at h
   obtain ⟨y, h, _⟩ := h
   have := hf.t t y h
   simp only [S.known] at this
   simp only [om]
   cases hh : look (c i).tk t with
   | none => rfl
   | some z => rw [hh] at this; cases this
 ·omega
theorem Canon.mono (K : Canon X ops s0 rs c) {k : Key ⊕ Nat} {x : O ⊕ Option Nat} {i : Nat} : ∀ j, i ≤ j → j ≤ ops.length → (∀ m, i ≤ m → m < j → (rs m).t ≠ 2) → om (c i) k = some x → om (c j) k = some x
 | 0, h, _, _, hx => by have : i = 0 := by omega
                        subst this; exact hx
 | j + 1, h, hj, hn, hx => by
  by_cases he : i = j + 1
  ·subst he; exact hx
  ·have ih := K.mono j (by omega) (by omega) (fun m h1 h2 => hn m h1 (by omega)) hx
   obtain ⟨o, ho⟩ := getOp (ops := ops) (i := j) (by omega)
   rw [K.cs j o ho]
   rcases K.tri j with h1 | h1 | h1
   ·rw [y5i h1]; exact ih
   ·rw [z86 h1]
    cases hr : (rs j).om k with
    | none => exact ih
    | some y => have := K.fresh (by omega) h1 hr; rw [ih] at this; cases this
   ·exact absurd h1 (hn j (by omega) (by omega))
theorem Canon.obj (K : Canon X ops s0 rs c) (k : Key ⊕ Nat) : ∀ i, i ≤ ops.length →
  (∀ j x, j < i → Y3 rs i ≤ j → (rs j).t = 1 → (rs j).om k = some x → om (c i) k = some x) ∧
  ((∀ j, j < i → Y3 rs i ≤ j → (rs j).t = 1 → (rs j).om k = none) → om (c i) k = om (c (Y3 rs i)) k)
 | 0, _ => ⟨fun j x h => by omega, fun _ => rfl⟩
 | i + 1, hi => by
  obtain ⟨h1, h2⟩ := K.obj k i (by omega)
  obtain ⟨o, ho⟩ := getOp (ops := ops) (i := i) (by omega)
  simp only [Y3]
  rcases K.tri i with ht | ht | ht
  ·rw [if_neg (by omega), K.cs i o ho, y5i ht]
   refine ⟨fun j x h3 h4 h5 h6 => ?_, fun h3 => h2 fun j h4 h5 h6 => h3 j (by omega) h5 h6⟩
   rcases Nat.lt_succ_iff_lt_or_eq.1 h3 with h7 | h7
   ·exact h1 j x h7 h4 h5 h6
   ·subst h7; omega
  ·rw [if_neg (by omega), K.cs i o ho, z86 ht]
   refine ⟨fun j x h3 h4 h5 h6 => ?_, fun h3 => ?_⟩
   ·rcases Nat.lt_succ_iff_lt_or_eq.1 h3 with h7 | h7
    ·have := h1 j x h7 h4 h5 h6
     cases hr : (rs i).om k with
     | none => exact this
     | some y => have h8 := K.fresh (by omega) ht hr; rw [this] at h8; cases h8
    ·subst h7; rw [h6]
   ·rw [h3 i (by omega) (Nat.le_of_lt_succ (Nat.lt_succ_of_le (q3o rs i))) ht]
    exact h2 fun j h4 h5 h6 => h3 j (by omega) h5 h6
  ·rw [if_pos ht]
   exact ⟨fun j x h3 h4 => by omega, fun _ => rfl⟩
end
end Go.E
namespace Go.E
open Go
section
variable {X : Cx} {ops : List Oper} {s0 : S} {rs : Nat → Res} {c : Nat → S}
def z1s (X : Cx) (ops : List Oper) (s0 : S) (rs : Nat → Res) (c : Nat → S) (Γ0 : G) (n : Nat) (D : Nat → Prop) (a : Act) (w : World) : Prop :=
 ∃ Γ sD p, GLe Γ0 Γ ∧ Γ.gl = X.gl ∧ y9 Γ w sD ∧ AOk s0.A ∧ a.tmps.size = n ∧ a.defers = [] ∧
  p ≤ ops.length ∧ (p = 0 ∨ ∃ k, p = k + 1 ∧ (rs k).t = 2 ∧ D k) ∧ (∀ k, D k → (rs k).t = 2 → k < p) ∧
  (∀ k j x, D j → p ≤ j → (rs j).t = 1 → (rs j).om k = some x → om sD k = some x) ∧
  (∀ k, (∀ j, D j → p ≤ j → (rs j).t = 1 → (rs j).om k = none) → om sD k = om (c p) k) ∧
  (∀ j t, D j → writes ops j t → z7 Γ (rs j).v (a.tmps.getD t undef)) ∧
  (∀ t, (∀ j, D j → ¬ writes ops j t) → z7 Γ (s0.get t) (a.tmps.getD t undef))
theorem y2p {Γ : G} {a : Act} {s : S} {o : Oper} {b : Bool} {l : Array Oper} (h : q3T l s o = some b) (hs : ∀ t, t ∈ o.looksAt l → z7 Γ (s.get t) (a.tmps.getD t undef)) :
  Region.wanted o (yielded l a.tmps) = b := by
 unfold q3T at h
 split at h
 ·rename_i hg
  cases h
  simp [Region.wanted, hg]
 ·rename_i j want hg
  split at h
  ·cases h
  ·rename_i t ht
   have hst := hs t (by
    simp only [Oper.looksAt, hg, List.mem_append]
    right
    simp only [q4r] at ht
    rw [ht]; simp)
   split at h
   ·rename_i b' hb
    cases h
    rw [hb] at hst
    exact y0C hg ht hst
   ·rename_i hb
    cases h
    rw [hb] at hst
    exact z8I hg ht hst
   ·cases h
theorem y9o {Γ : G} {w : World} {s s' : S} {a : Act} (hgl : Γ.gl = X.gl) (c : y9 Γ w s') {y : Operand} (hy : z1J y = true) (ht : ∀ t, y = .tmp t → z7 Γ (s.get t) (a.tmps.getD t undef)) :
  z7 Γ (v8 X.gl s y) (a.eval y) := by
 cases y with
 | tmp t => exact ht t rfl
 | const v => exact z1V (y := .const v) (s := ⟨[], [], fun _ => none, []⟩) hgl c (fun i => by simp [S.get, look, z7]) hy
 | global g => exact z1V (y := .global g) (s := ⟨[], [], fun _ => none, []⟩) (a := a) hgl c (fun i => by simp [S.get, look, z7]) hy
 | func f => exact z1V (y := .func f) (s := ⟨[], [], fun _ => none, []⟩) (a := a) hgl c (fun i => by simp [S.get, look, z7]) hy
theorem y7W {a : Act} {d : Option Nat} {v : Value} {t : Nat} (h : d ≠ some t) : (a.put d v).tmps.getD t undef = a.tmps.getD t undef := by
 cases d with
 | none => rfl
 | some e =>
  have : e ≠ t := fun he => h (by rw [he])
  simp only [Act.put, Array.getD_eq_getD_getElem?, Array.getElem?_setIfInBounds_ne this]
theorem x1P {a : Act} {t : Nat} {v : Value} (h : t < a.tmps.size) : (a.put (some t) v).tmps.getD t undef = v := by
 simp [Act.put, h]
theorem x5x {s s' : S} (h : ∀ k, om s' k = om s k) (k : Key) : s'.obj k = s.obj k := by
 have := h (.inl k)
 simp only [om] at this
 cases h1 : s'.obj k <;> cases h2 : s.obj k <;> rw [h1, h2] at this
 ·cases this
 ·cases this
 ·cases this; rfl
theorem x2U {s s' : S} (h : ∀ k, om s' k = om s k) (t : Nat) : look s'.tk t = look s.tk t := by
 have := h (.inr t)
 simp only [om] at this
 cases h1 : look s'.tk t <;> cases h2 : look s.tk t <;> rw [h1, h2] at this
 ·cases this
 ·cases this
 ·cases this; rfl
theorem y9.om {Γ : G} {w : World} {s s' : S} (c : y9 Γ w s) (h : ∀ k, Go.E.om s' k = Go.E.om s k) : y9 Γ w s' :=
 c.congr (x5x h) (z6x (x2U h)) (fun t ht => by rw [z4Y (x2U h)]; exact ht)
theorem y70 {s : S} {k : Key} {o : O} : om s (.inl k) = some (.inl o) ↔ s.obj k = some o := by simp [om]
theorem x2V {s : S} {k : Key} : om s (.inl k) = none ↔ s.obj k = none := by simp [om]
variable {Γ0 : G} {n : Nat} {D : Nat → Prop}
theorem x1z (hP : v9 X.P = true) (K : Canon X ops s0 rs c) (Od : Orders ops rs) (hok : ∀ o ∈ ops, z0F n o = true) (hDl : ∀ j, D j → j < ops.length) (hD : ∀ i j, D i → dep ops i j → D j) {i : Nat} (hi : i < ops.length) (hiD : ¬ D i) (hdep : ∀ j, dep ops i j → D j)
  {a : Act} {w : World} {Q : Exit → Act → World → Prop} (h : z1s X ops s0 rs c Γ0 n D a w) : wpOp X.P ops.toArray Q i (z1s X ops s0 rs c Γ0 n (fun j => D j ∨ j = i)) a w := by
 obtain ⟨Γ, sD, p, g1, g3, hc, hA, hn, hf, hp0, hp1, hp2, ob1, ob2, ew, e0⟩ := h
 obtain ⟨o, ho⟩ := getOp hi
 -- what is before i is done; what is behind i is not
 have hD' : ∀ k j, (D k ∨ k = i) → dep ops k j → (D j ∨ j = i) := by
  rintro k j (h | rfl) hd
  ·exact .inl (hD k j h hd)
  ·exact .inl (hdep j hd)
 have before : ∀ j, j ≠ i → Anc ops j i → D j := fun j hj ha => (Anc.closed hD' ha (.inr rfl)).resolve_right hj
 have behind : ∀ k, D k → ¬ Anc ops i k := fun k hk ha => hiD (Anc.closed hD ha hk)
 have later : ∀ k, D k → (rs k).t = 2 → i < k → (rs i).t = 0 := by
  intro k hk ht hik
  by_cases h0 : (rs i).t = 0
  ·exact h0
  ·rcases Od.tt k i (hDl k hk) hi ht h0 (by omega) with ⟨_, ha⟩ | ⟨h1, _⟩
   ·exact absurd ha (behind k hk)
   ·omega
 have slot : ∀ t, looks ops i t → z7 Γ ((c i).get t) (a.tmps.getD t undef) := by
  intro t ht
  by_cases hw : ∃ j, j ≠ i ∧ writes ops j t
  ·obtain ⟨j, hj, hw⟩ := hw
   rcases Od.U1 i j t hj hw ht with ⟨hlt, ha⟩ | ⟨hlt, ha⟩
   ·rw [K.y9h Od hw i hlt (by omega)]
    exact ew j t (before j hj ha) hw
   ·have hDj : ¬ D j := fun h => behind j h ha
    have uniq : ∀ j', writes ops j' t → j' = j := fun j' h => Od.one j' j t h hw
    rw [K.y4m (t := t) i (by omega) (fun j' hj' h => by have := uniq j' h; omega)]
    exact e0 t (fun j' hj' h => hDj (uniq j' h ▸ hj'))
  ·have nw : ∀ j', writes ops j' t → j' = i := fun j' h => Classical.byContradiction fun hne => hw ⟨j', hne, h⟩
   rw [K.y4m (t := t) i (by omega) (fun j' hj' h => by have := nw j' h; omega)]
   exact e0 t (fun j' hj' h => hiD (nw j' h ▸ hj'))
 have hko := hok o (List.mem_of_getElem? ho)
 simp only [z0F, Bool.and_eq_true, Array.all_eq_true'] at hko
 have hd : ∀ t, o.dst = some t → t < a.tmps.size := by
  intro t ht
  have h2 := hko.2
  rw [ht] at h2
  rw [hn]
  exact of_decide_eq_true h2
 have hops : ∀ y ∈ o.op.operands, z7 Γ (v8 X.gl (c i) y) (a.eval y) := fun y hy => y9o g3 hc (hko.1 y hy) fun t ht => slot t ⟨o, ho, by
  subst ht
  simp only [Oper.looksAt, List.mem_append, List.mem_filterMap]
  exact .inl ⟨.tmp t, by simpa using hy, rfl⟩⟩
 have wr : ∀ j t, writes ops j t → j ≠ i → o.dst ≠ some t := fun j t hw hj hdt => hj (Od.one j i t hw ⟨o, ho, hdt⟩)
 -- what all kinds of operations share
 have fin : ∀ {u : Value} {w' : World} {Γ' : G} {sD' : S} {p' : Nat}, GLe Γ Γ' → Γ'.gl = X.gl → y9 Γ' w' sD' → p' ≤ ops.length → (p' = 0 ∨ ∃ k, p' = k + 1 ∧ (rs k).t = 2 ∧ (D k ∨ k = i)) →
   (∀ k, (D k ∨ k = i) → (rs k).t = 2 → k < p') → (∀ k j x, (D j ∨ j = i) → p' ≤ j → (rs j).t = 1 → (rs j).om k = some x → om sD' k = some x) →
   (∀ k, (∀ j, (D j ∨ j = i) → p' ≤ j → (rs j).t = 1 → (rs j).om k = none) → om sD' k = om (c p') k) →
   g9 Γ Γ' → z7 Γ' (rs i).v u →
   z1s X ops s0 rs c Γ0 n (fun j => D j ∨ j = i) (a.put o.dst u) w' := by
  intro u w' Γ' sD' p' gle hgl' c' q0 q1 q2 qo1 qo2 keep hv
  refine ⟨Γ', sD', p', g1.trans gle, hgl', c', hA, ?_, ?_, q0, q1, q2, qo1, qo2, ?_, ?_⟩
  ·cases o.dst <;> simp [Act.put, hn]
  ·cases o.dst <;> simp [Act.put, hf]
  ·rintro j t (hj | rfl) hw
   ·have hji : j ≠ i := fun e => hiD (e ▸ hj)
    rw [y7W (wr j t hw hji)]
    exact (ew j t hj hw).b5 keep
   ·obtain ⟨o', h1, h2⟩ := hw
    rw [ho] at h1; cases h1
    rw [h2, x1P (hd t h2)]; exact hv
  ·intro t hw
   rw [y7W (fun e => hw i (.inr rfl) ⟨o, ho, e⟩)]
   exact (e0 t (fun j hj => hw j (.inl hj))).b5 keep
 -- a value alone
 have value : ∀ {u : Value} {w' : World} {Γ' : G}, (rs i).t = 0 → GLe Γ Γ' → Γ'.gl = X.gl → y9 Γ' w' sD → g9 Γ Γ' → z7 Γ' (rs i).v u →
   z1s X ops s0 rs c Γ0 n (fun j => D j ∨ j = i) (a.put o.dst u) w' := by
  intro u w' Γ' ht gle hgl' c' keep hv
  refine fin gle hgl' c' hp0 ?_ ?_ ?_ ?_ keep hv
  ·rcases hp1 with h | ⟨k, h1, h2, h3⟩
   ·exact .inl h
   ·exact .inr ⟨k, h1, h2, .inl h3⟩
  ·rintro k (hk | rfl) htk
   ·exact hp2 k hk htk
   ·omega
  ·rintro k j x (hj | rfl) h1 h2 h3
   ·exact ob1 k j x hj h1 h2 h3
   ·omega
  ·exact fun k h => ob2 k fun j hj h1 h2 => h j (.inl hj) h1 h2
 -- the phase
 have hpL : (rs i).t ≠ 0 → p = Y3 rs i := by
  intro hti
  have hTD : ∀ k, (rs k).t = 2 → k < i → D k := by
   intro k hk hki
   rcases Od.tt k i (by omega) hi hk hti (by omega) with ⟨h1, _⟩ | ⟨_, ha⟩
   ·omega
   ·exact before k (by omega) ha
  have h1 : p ≤ Y3 rs i := by
   rcases hp1 with h | ⟨k, h1, h2, h3⟩
   ·omega
   ·have hki : k < i := by
     rcases Nat.lt_or_ge k i with h | h
     ·exact h
     ·rcases Nat.lt_or_eq_of_le h with h | h
      ·exact absurd (later k h3 h2 h) hti
      ·subst h; exact absurd h3 hiD
    have := z7o rs i k hki h2
    omega
  have h2 : Y3 rs i ≤ p := by
   rcases z9o rs i with h | ⟨k, h3, h4⟩
   ·omega
   ·have := q3o rs i
    have := hp2 k (hTD k h4 (by omega)) h4
    omega
  omega
 have noTj : ∀ j, D j → (rs j).t ≠ 0 → ∀ m, p ≤ m → m < j → (rs m).t ≠ 2 := by
  intro j hj ht m hm hmj htm
  rcases Od.tt m j (by have := hDl j hj; omega) (hDl j hj) htm ht (by omega) with ⟨h1, _⟩ | ⟨_, ha⟩
  ·omega
  ·have := hp2 m (Anc.closed hD ha hj) htm
   omega
 have noTi : (rs i).t ≠ 0 → ∀ m, p ≤ m → m < i → (rs m).t ≠ 2 := by
  intro hti m hm hmi htm
  have := z7o rs i m hmi htm
  have := hpL hti
  omega
 -- a key is one of an operation's that is done, or stands as at the phase's start
 have split2 : ∀ k, (∃ j x, D j ∧ p ≤ j ∧ (rs j).t = 1 ∧ (rs j).om k = some x) ∨ (∀ j, D j → p ≤ j → (rs j).t = 1 → (rs j).om k = none) := by
  intro k
  by_cases h : ∃ j x, D j ∧ p ≤ j ∧ (rs j).t = 1 ∧ (rs j).om k = some x
  ·exact .inl h
  ·refine .inr fun j h1 h2 h3 => ?_
   cases hr : (rs j).om k with
   | none => rfl
   | some x => exact absurd ⟨j, x, h1, h2, h3, hr⟩ h
 simp only [wpOp, List.getElem?_toArray, ho]
 have hslots : ∀ t, t ∈ o.looksAt ops.toArray → z7 Γ ((c i).get t) (a.tmps.getD t undef) := fun t ht => slot t ⟨o, ho, ht⟩
 rcases K.ok i o ho with ⟨hw, ht, hv⟩ | ⟨hw, hrest⟩
 ·rw [y2p hw hslots]
  simp only [Bool.false_eq_true, if_false]
  exact value ht (.refl Γ) g3 hc (.refl Γ) (by rw [hv]; exact z9T)
 ·rw [y2p hw hslots]
  simp only [if_true]
  left
  rcases hrest with ⟨ht, hdo⟩ | ⟨ht, hdo, hfr⟩ | ⟨ht, hdo⟩
  ·refine hdo Γ w a sD g3 hc hops _ _ ?_
   rintro u w' ⟨Γ', gle, kp, c', hv⟩
   exact value ht gle (gle.gl.trans g3) c' kp hv
  ·have hne : (rs i).t ≠ 0 := by omega
   have hpl := hpL hne
   have hpi : p ≤ i := by rw [hpl]; exact q3o rs i
   obtain ⟨co1, co2⟩ : (∀ k j x, j < i → p ≤ j → (rs j).t = 1 → (rs j).om k = some x → om (c i) k = some x) ∧ (∀ k, (∀ j, j < i → p ≤ j → (rs j).t = 1 → (rs j).om k = none) → om (c i) k = om (c p) k) := by
    refine ⟨fun k => ?_, fun k => ?_⟩
    ·rw [hpl]; exact (K.obj k i (by omega)).1
    ·rw [hpl]; exact (K.obj k i (by omega)).2
   have freshi : ∀ k x, (rs i).om k = some x → om sD k = none := by
    intro k x hx
    have hfi := K.fresh hi ht hx
    rcases split2 k with ⟨j, y, hj, hpj, htj, hy⟩ | hB
    ·exfalso
     rcases Nat.lt_or_ge j i with hlt | hge
     ·have := co1 k j y hlt hpj htj hy
      rw [hfi] at this; cases this
     ·have hij : i ≠ j := fun e => hiD (e ▸ hj)
      have h1 : om (c (i + 1)) k = some x := by rw [K.cs i o ho, z86 ht, hx]
      have h2 := K.mono j (by omega) (Nat.le_of_lt (hDl j hj)) (fun m hm hmj => noTj j hj (by omega) m (by omega) hmj) h1
      have h3 := K.fresh (hDl j hj) htj hy
      rw [h2] at h3; cases h3
    ·rw [ob2 k hB]
     cases hcpk : om (c p) k with
     | none => rfl
     | some y =>
      have := K.mono i hpi (by omega) (noTi hne) hcpk
      rw [hfi] at this; cases this
   have hcompat : Compat sD (c i) (c (Y3 rs i)) := by
    rw [← hpl]
    refine ⟨fun k x hx hne' => ?_, fun k x hx => ?_⟩
    ·rw [← y70] at hx ⊢
     rw [Ne, ← x2V] at hne'
     rcases split2 (.inl k) with ⟨j, y, hj, hpj, htj, hy⟩ | hB
     ·have hsD := ob1 _ j y hj hpj htj hy
      have hfj := K.fresh (hDl j hj) htj hy
      rcases Nat.lt_or_ge j i with hlt | hge
      ·have h1 := co1 _ j y hlt hpj htj hy
       rw [hx] at h1; cases h1
       exact hsD
      ·have := K.mono j hge (Nat.le_of_lt (hDl j hj)) (fun m hm hmj => noTj j hj (by omega) m (by omega) hmj) hx
       rw [hfj] at this; cases this
     ·have hsD := ob2 _ hB
      cases hcpk : om (c p) (.inl k) with
      | some y =>
       have := K.mono i hpi (by omega) (noTi hne) hcpk
       rw [hx] at this; cases this
       rw [hsD, hcpk]
      | none => rw [hcpk] at hsD; exact absurd hsD hne'
    ·rw [← y70] at hx ⊢
     rcases split2 (.inl k) with ⟨j, y, hj, hpj, htj, hy⟩ | hB
     ·exfalso
      have hfj := K.fresh (hDl j hj) htj hy
      have := K.mono j hpj (Nat.le_of_lt (hDl j hj)) (fun m' hm hmj => noTj j hj (by omega) m' hm hmj) hx
      rw [hfj] at this; cases this
     ·rw [ob2 _ hB]; exact hx
   have hfresh : y4y sD (rs i).lo (rs i).tn := by
    refine ⟨fun k x hx => ?_, fun t x hx => ?_⟩
    ·exact x2V.1 (freshi (.inl k) (.inl x) (by simp [Res.om, hx]))
    ·have := freshi (.inr t) (.inr x) (by simp [Res.om, hx])
     simp only [om, Option.map_eq_none_iff] at this
     simp [S.known, this]
   refine hdo Γ w a sD g3 hc hcompat hfresh hops _ _ ?_
   rintro u w' ⟨Γ', gle, kp, c', hv⟩
   have hom : ∀ k, om (sD.add (rs i).lo (rs i).tn) k = match (rs i).om k with | some x => some x | none => om sD k := fun k => x0j sD _ _ k rfl rfl
   refine fin gle (gle.gl.trans g3) c' hp0 ?_ ?_ ?_ ?_ kp hv
   ·rcases hp1 with h | ⟨k, h1, h2, h3⟩
    ·exact .inl h
    ·exact .inr ⟨k, h1, h2, .inl h3⟩
   ·rintro k (hk | rfl) htk
    ·exact hp2 k hk htk
    ·omega
   ·rintro k j x (hj | rfl) h1 h2 h3
    ·rw [hom k]
     have := ob1 k j x hj h1 h2 h3
     cases hr : (rs i).om k with
     | none => exact this
     | some y => rw [freshi k y hr] at this; cases this
    ·rw [hom k, h3]
   ·intro k h
    rw [hom k, h i (.inr rfl) hpi ht]
    exact ob2 k fun j hj h1 h2 => h j (.inl hj) h1 h2
  ·have hne : (rs i).t ≠ 0 := by omega
   have hpl := hpL hne
   have hpi : p ≤ i := by rw [hpl]; exact q3o rs i
   have notD : ∀ j, D j → (rs j).t ≠ 0 → j < i := by
    intro j hj htj
    rcases Od.tt i j hi (hDl j hj) ht htj (fun e => hiD (e ▸ hj)) with ⟨h1, _⟩ | ⟨_, ha⟩
    ·exact h1
    ·exact absurd ha (behind j hj)
   have hom : ∀ k, om (c i) k = om sD k := by
    intro k
    rcases split2 k with ⟨j, y, hj, hpj, htj, hy⟩ | hB
    ·rw [ob1 k j y hj hpj htj hy]
     refine (K.obj k i (by omega)).1 j y (notD j hj (by omega)) (by rw [← hpl]; exact hpj) htj hy
    ·rw [ob2 k hB, hpl]
     refine (K.obj k i (by omega)).2 fun j hj hpj htj => ?_
     rw [← hpl] at hpj
     rcases Od.tt i j hi (by omega) ht (by omega) (by omega) with ⟨_, ha⟩ | ⟨h1, _⟩
     ·exact hB j (before j (by omega) ha) hpj htj
     ·omega
   refine hdo.2.2 Γ w a g3 (hc.om hom) hops _ _ ?_
   rintro u w' ⟨Γ', gle, kp, c', hv⟩
   refine fin (p' := i + 1) gle (gle.gl.trans g3) c' (by omega) (.inr ⟨i, rfl, ht, .inr rfl⟩) ?_ ?_ ?_ kp hv
   ·rintro k (hk | rfl) htk
    ·have := notD k hk (by omega); omega
    ·omega
   ·rintro k j x (hj | rfl) h1 h2 h3
    ·have := notD j hj (by omega); omega
    ·omega
   ·intro k _
    rw [K.cs i o ho, x1T ht]
end
end Go.E
namespace Go.E
open Go
theorem y7K {p q : Nat → Bool} {i : Nat} (hi : p i = false) (hq : ∀ j, q j = (p j || j == i)) : ∀ n, i < n → (List.range n).countP q = (List.range n).countP p + 1 := by
 have low : ∀ m, m ≤ i → (List.range m).countP q = (List.range m).countP p := by
  intro m hm
  apply List.countP_congr
  intro j hj
  have : j ≠ i := by have := List.mem_range.1 hj; omega
  simp [hq j, this]
 intro n hn
 induction n with
 | zero => omega
 | succ n ih =>
  rw [List.range_succ, List.countP_append, List.countP_append]
  by_cases h : i < n
  ·rw [ih h]
   have : n ≠ i := by omega
   simp only [List.countP_singleton, hq n]
   have hb : (n == i) = false := by simpa using this
   rw [hb, Bool.or_false]; omega
  ·have : n = i := by omega
   subst this
   rw [low n (Nat.le_refl _)]
   simp [hq n, hi]
section
variable {X : Cx} {ops : List Oper} {s0 : S} {rs : Nat → Res} {c : Nat → S} {Γ0 : G} {n : Nat}
theorem z1s.congr {D D' : Nat → Prop} (h : ∀ j, D j ↔ D' j) {a : Act} {w : World} (hi : z1s X ops s0 rs c Γ0 n D a w) : z1s X ops s0 rs c Γ0 n D' a w := by
 have : D = D' := funext fun j => propext (h j)
 rw [← this]; exact hi
theorem z91 {listed : Array Bool} {i : Nat} (hsz : listed.size = ops.length) (h : i ∈ Region.ready .any ops.toArray listed) :
  i < ops.length ∧ listed.getD i false = false ∧ ∀ j, dep ops i j → listed.getD j false = true := by
 simp only [Region.ready, List.size_toArray, List.mem_filter, List.mem_range, Bool.and_eq_true, Bool.not_eq_true', List.getElem?_toArray] at h
 obtain ⟨h1, h2, h3⟩ := h
 refine ⟨h1, ?_, ?_⟩
 ·have : i < listed.size := by omega
  simpa [Array.getD, this] using h2
 ·rintro j ⟨o, ho, e, he, hb, rfl⟩
  rw [ho] at h3
  simp only [Option.map_some, Option.getD_some, Array.all_eq_true'] at h3
  have := h3 e he
  rw [hb] at this
  simpa using this
theorem x0c (Od : Orders ops rs) {listed : Array Bool} (hsz : listed.size = ops.length) (h : Region.ready .any ops.toArray listed = []) : ∀ i, i < ops.length → listed.getD i false = true := by
 intro i
 induction i using Nat.strongRecOn with
 | _ i ih =>
  intro hi
  cases hl : listed.getD i false with
  | true => rfl
  | false =>
   exfalso
   have : i ∈ Region.ready .any ops.toArray listed := by
    simp only [Region.ready, List.size_toArray, List.mem_filter, List.mem_range, Bool.and_eq_true, Bool.not_eq_true', List.getElem?_toArray]
    have hs : i < listed.size := by omega
    refine ⟨hi, by simpa [Array.getD, hs] using hl, ?_⟩
    rw [List.getElem?_eq_getElem hi]
    simp only [Option.map_some, Option.getD_some, Array.all_eq_true']
    intro e he
    cases hb : Region.binds .any e with
    | false => rfl
    | true =>
     have hd : dep ops i e.on := ⟨_, List.getElem?_eq_getElem hi, e, he, hb, rfl⟩
     have hlt := Od.lt i e.on hd
     simp only [Bool.not_true, Bool.false_or]
     exact ih e.on hlt (by omega)
   rw [h] at this
   cases this
theorem x1c (hP : v9 X.P = true) (K : Canon X ops s0 rs c) (Od : Orders ops rs) (hok : ∀ o ∈ ops, z0F n o = true) {Q : Exit → Act → World → Prop}
  (hQ : ∀ a w, z1s X ops s0 rs c Γ0 n (fun j => j < ops.length) a w → Q .normal a w) :
  ∀ (fuel : Nat) (listed : Array Bool) (a : Act) (w : World), listed.size = ops.length → fuel + (List.range ops.length).countP (fun j => listed.getD j false) = ops.length →
   (∀ i j, i < ops.length → listed.getD i false = true → dep ops i j → listed.getD j false = true) →
   z1s X ops s0 rs c Γ0 n (fun j => j < ops.length ∧ listed.getD j false = true) a w → wpAny X.P .any ops.toArray Q fuel listed a w := by
 intro fuel
 induction fuel with
 | zero =>
  intro listed a w hsz hc hcl hI
  have hall : ∀ j, j < ops.length → listed.getD j false = true := by
   have : (List.range ops.length).countP (fun j => listed.getD j false) = (List.range ops.length).length := by rw [List.length_range]; omega
   rw [List.countP_eq_length] at this
   exact fun j hj => this j (List.mem_range.2 hj)
  refine ⟨?_, hQ a w (hI.congr fun j => ⟨fun h => h.1, fun h => ⟨h, hall j h⟩⟩)⟩
  apply List.eq_nil_iff_forall_not_mem.2
  intro i hi
  obtain ⟨h1, h2, _⟩ := z91 hsz hi
  rw [hall i h1] at h2; cases h2
 | succ fuel ih =>
  intro listed a w hsz hc hcl hI
  refine ⟨fun hr => hQ a w (hI.congr fun j => ⟨fun h => h.1, fun h => ⟨h, x0c Od hsz hr j h⟩⟩), fun i hi => ?_⟩
  obtain ⟨h1, h2, h3⟩ := z91 hsz hi
  have hD : ∀ i j, (i < ops.length ∧ listed.getD i false = true) → dep ops i j → (j < ops.length ∧ listed.getD j false = true) :=
   fun i j h hd => ⟨by have := Od.lt i j hd; omega, hcl i j h.1 h.2 hd⟩
  have hstep := x1z (Q := Q) hP K Od hok (fun j h => h.1) hD h1 (fun h => by rw [h2] at h; cases h.2) (fun j hd => ⟨by have := Od.lt i j hd; omega, h3 j hd⟩) hI
  refine wpOp_mono ?_ hstep
  intro a' w' hI'
  have hset : ∀ j, (listed.setIfInBounds i true).getD j false = (listed.getD j false || j == i) := by
   intro j
   simp only [Array.getD_eq_getD_getElem?, Array.getElem?_setIfInBounds]
   by_cases hji : i = j
   ·subst hji
    have : i < listed.size := by omega
    simp [this]
   ·have : (j == i) = false := by simpa using fun e => hji e.symm
    simp [hji, this]
  refine ih _ a' w' (by simp [hsz]) ?_ ?_ (hI'.congr fun j => ?_)
  ·have := y7K (p := fun j => listed.getD j false) (q := fun j => (listed.setIfInBounds i true).getD j false) (i := i) h2 hset ops.length h1
   omega
  ·intro k j hk hlk hd
   rw [hset] at hlk ⊢
   rcases Bool.or_eq_true_iff.1 hlk with h | h
   ·rw [hcl k j hk h hd]; rfl
   ·have : k = i := by simpa using h
    subst this
    rw [h3 j hd]; rfl
  ·rw [hset]
   constructor
   ·rintro (h | rfl)
    ·exact ⟨h.1, by rw [h.2]; rfl⟩
    ·exact ⟨h1, by simp⟩
   ·rintro ⟨ha, hb⟩
    rcases Bool.or_eq_true_iff.1 hb with h | h
    ·exact .inl ⟨ha, h⟩
    ·exact .inr (by simpa using h)
theorem x0G (K : Canon X ops s0 rs c) {a : Act} {w : World} (h : At X n Γ0 s0 a w) : z1s X ops s0 rs c Γ0 n (fun j => j < ops.length ∧ (Array.replicate ops.length false).getD j false = true) a w := by
 obtain ⟨Γ, g1, g3, hc, hs, hn, hf, hA⟩ := h
 have no : ∀ j, ¬ (j < ops.length ∧ (Array.replicate ops.length false).getD j false = true) := by
  rintro j ⟨h1, h2⟩
  simp [Array.getD, h1] at h2
 exact ⟨Γ, s0, 0, g1, g3, hc, hA, hn, hf, Nat.zero_le _, .inl rfl, fun k h => absurd h (no k), fun k j x h => absurd h (no j), fun k _ => by rw [K.c0], fun j t h => absurd h (no j), fun t _ => hs t⟩
theorem x3K (K : Canon X ops s0 rs c) (Od : Orders ops rs) {a : Act} {w : World} (h : z1s X ops s0 rs c Γ0 n (fun j => j < ops.length) a w) : At X n Γ0 (c ops.length) a w := by
 obtain ⟨Γ, sD, p, g1, g3, hc, hA, hn, hf, hp0, hp1, hp2, ob1, ob2, ew, e0⟩ := h
 have hpl : p = Y3 rs ops.length := by
  have h1 : p ≤ Y3 rs ops.length := by
   rcases hp1 with h | ⟨k, h1, h2, h3⟩
   ·omega
   ·have := z7o rs ops.length k h3 h2; omega
  have h2 : Y3 rs ops.length ≤ p := by
   rcases z9o rs ops.length with h | ⟨k, h3, h4⟩
   ·omega
   ·have := q3o rs ops.length
    have := hp2 k (by omega) h4
    omega
  omega
 have hom : ∀ k, om (c ops.length) k = om sD k := by
  intro k
  by_cases h : ∃ j x, j < ops.length ∧ p ≤ j ∧ (rs j).t = 1 ∧ (rs j).om k = some x
  ·obtain ⟨j, x, h1, h2, h3, h4⟩ := h
   rw [ob1 k j x h1 h2 h3 h4]
   exact (K.obj k _ (Nat.le_refl _)).1 j x h1 (by rw [← hpl]; exact h2) h3 h4
  ·have hn : ∀ j, j < ops.length → p ≤ j → (rs j).t = 1 → (rs j).om k = none := by
    intro j h1 h2 h3
    cases hr : (rs j).om k with
    | none => rfl
    | some x => exact absurd ⟨j, x, h1, h2, h3, hr⟩ h
   rw [ob2 k hn, hpl]
   exact (K.obj k _ (Nat.le_refl _)).2 fun j h1 h2 h3 => hn j h1 (by rw [hpl]; exact h2) h3
 refine ⟨Γ, g1, g3, hc.om hom, fun t => ?_, hn, hf, by rw [K.A _ (Nat.le_refl _)]; exact hA⟩
 by_cases hw : ∃ j, j < ops.length ∧ writes ops j t
 ·obtain ⟨j, hj, hw⟩ := hw
  rw [K.y9h Od hw _ hj (Nat.le_refl _)]
  exact ew j t hj hw
 ·rw [K.y4m (t := t) _ (Nat.le_refl _) (fun j hj h => hw ⟨j, hj, h⟩)]
  exact e0 t (fun j hj h => hw ⟨j, hj, h⟩)
theorem x5K (hP : v9 X.P = true) (hm : X.P.follows .mixedOrders = true) {id : Nat} {Ψ : Exit → S → Prop} (K : Canon X ops s0 rs c) (Od : Orders ops rs) (hok : ∀ o ∈ ops, z0F n o = true) (h : Ψ .normal (c ops.length)) :
  DC X n (.region id ops.toArray true) s0 Ψ := by
 intro Γ0 a w hat
 obtain ⟨Γ, g1, g3, hc, hs, hn, hf⟩ := hat
 have hat' : At X n Γ0 s0 a { w with drawn := w.drawn + 1 } := by
  exact ⟨Γ, g1, g3, hc.ext (Ext.drew w), hs, hn, hf⟩
 refine wp_region_any hm ?_
 refine x1c hP K Od hok (fun a w hI => ⟨c ops.length, h, x3K K Od hI⟩) ops.length (Array.replicate ops.length false) a _ (by simp) ?_ ?_ (x0G K hat')
 ·have : (List.range ops.length).countP (fun j => (Array.replicate ops.length false).getD j false) = 0 := by
   apply List.countP_eq_zero.2
   intro j hj
   simp [Array.getD, List.mem_range.1 hj]
  omega
 ·intro i j hi hl
  simp [Array.getD, hi] at hl
end
end Go.E
namespace Go.E
open Go
def z3k (o : Oper) : List Nat := (o.after.toList.filter (Region.binds .any)).map (·.on)
def x5A (acc : List Nat) (ds : List Nat) : Nat := ds.foldl (fun m k => m ||| 2 ^ k ||| acc.getD k 0) 0
def y2j : List Oper → List Nat → List Nat
 | [], acc => acc
 | o :: rest, acc => y2j rest (acc ++ [x5A acc (z3k o)])
def x8c (ops : List Oper) (j i : Nat) : Bool := ((y2j ops []).getD i 0).testBit j
theorem z5u (acc : List Nat) (j : Nat) : ∀ (ds : List Nat) (m : Nat), (ds.foldl (fun m k => m ||| 2 ^ k ||| acc.getD k 0) m).testBit j = true → m.testBit j = true ∨ ∃ k ∈ ds, j = k ∨ (acc.getD k 0).testBit j = true
 | [], m, h => .inl h
 | k :: ds, m, h => by
  rcases z5u acc j ds _ h with h1 | ⟨k', hk, h1⟩
  ·simp only [Nat.testBit_or, Bool.or_eq_true, Nat.testBit_two_pow, decide_eq_true_eq] at h1
   rcases h1 with (h1 | h1) | h1
   ·exact .inl h1
   ·exact .inr ⟨k, by simp, .inl h1.symm⟩
   ·exact .inr ⟨k, by simp, .inr h1⟩
  ·exact .inr ⟨k', by simp [hk], h1⟩
theorem y83 {ops : List Oper} {i k : Nat} {o : Oper} (ho : ops[i]? = some o) (h : k ∈ z3k o) : dep ops i k := by
 simp only [z3k, List.mem_map, List.mem_filter] at h
 obtain ⟨e, ⟨h1, h2⟩, h3⟩ := h
 exact ⟨o, ho, e, by simpa using h1, h2, h3⟩
theorem y9x {ops : List Oper} {i k : Nat} {o : Oper} (ho : ops[i]? = some o) (h : dep ops i k) : k ∈ z3k o := by
 obtain ⟨o', h1, e, h2, h3, h4⟩ := h
 rw [ho] at h1; cases h1
 simp only [z3k, List.mem_map, List.mem_filter]
 exact ⟨e, ⟨by simpa using h2, h3⟩, h4⟩
theorem y1c (ops : List Oper) : ∀ (rest done : List Oper) (acc : List Nat), ops = done ++ rest → acc.length = done.length → (∀ i j, (acc.getD i 0).testBit j = true → Anc ops j i) →
  ∀ i j, ((y2j rest acc).getD i 0).testBit j = true → Anc ops j i
 | [], _, acc, _, _, h => h
 | o :: rest, done, acc, he, hl, h => by
  refine y1c ops rest (done ++ [o]) _ (by simp [he]) (by simp [hl]) ?_
  intro i j hij
  have ho : ops[acc.length]? = some o := by rw [he, hl]; simp
  simp only [List.getD_eq_getElem?_getD] at hij
  by_cases hi : i < acc.length
  ·rw [List.getElem?_append_left hi] at hij
   exact h i j (by simpa [List.getD_eq_getElem?_getD] using hij)
  ·by_cases hi2 : i = acc.length
   ·subst hi2
    simp only [List.getElem?_concat_length, Option.getD_some] at hij
    rcases z5u acc j _ _ hij with h1 | ⟨k, hk, h1⟩
    ·simp at h1
    ·have hd := y83 ho hk
     rcases h1 with rfl | h1
     ·exact .one hd
     ·exact .step hd (h k j h1)
   ·rw [List.getElem?_eq_none (by simp; omega)] at hij
    simp at hij
theorem y1d {ops : List Oper} {j i : Nat} (h : x8c ops j i = true) : Anc ops j i :=
 y1c ops ops [] [] rfl rfl (fun i j h => by simp at h) i j h
def tmpsOf : List Operand → List Nat
 | [] => []
 | .tmp t :: l => t :: tmpsOf l
 | _ :: l => tmpsOf l
def lk (ops : Array Oper) (o : Oper) : List Nat :=
 tmpsOf o.op.operands.toList ++ (match o.guard with
  | some (g, _) => (match q4r ops g with | some t => [t] | none => [])
  | none => [])
theorem y0o {t : Nat} : ∀ {l : List Operand}, Operand.tmp t ∈ l → t ∈ tmpsOf l
 | [], h => by simp at h
 | y :: l, h => by
  rcases List.mem_cons.1 h with h1 | h1
  ·subst h1; simp [tmpsOf]
  ·have := y0o h1
   cases y <;> simp [tmpsOf, this]
theorem x5z {ops : Array Oper} {o : Oper} {t : Nat} (h : t ∈ o.looksAt ops) : t ∈ lk ops o := by
 simp only [Oper.looksAt, List.mem_append, List.mem_filterMap] at h
 simp only [lk, List.mem_append]
 rcases h with ⟨y, hy, ht⟩ | h
 ·left
  cases y <;> simp at ht
  subst ht
  exact y0o hy
 ·right
  cases hg : o.guard with
  | none => simp [hg] at h
  | some x =>
   obtain ⟨g, b⟩ := x
   simp only [hg] at h ⊢
   simp only [q4r]
   cases hs : (ops[g]?).bind (·.dst) with
   | none => simp [hs] at h
   | some t' => simpa [hs] using h
def y8V (ops : List Oper) (ts : List Nat) : Bool :=
 let m := y2j ops []
 let anc := fun j i => (m.getD i 0).testBit j
 let ix := List.range ops.length
 let both := fun i j => (decide (j < i) && anc j i) || (decide (i < j) && anc i j)
 (ix.all fun i => match ops[i]? with | some o => (z3k o).all fun k => decide (k < i) | none => true) &&
 (ix.all fun i => ts.getD i 0 != 2 || ix.all fun j => ts.getD j 0 == 0 || j == i || both i j) &&
 (ix.all fun j => match (ops[j]?).bind (·.dst) with
  | none => true
  | some t => ix.all fun i => j == i || ((match (ops[i]?).bind (·.dst) with | some t' => t' != t | none => true) &&
    (match ops[i]? with | some o => !(lk ops.toArray o).contains t || both i j | none => true)))
def s00 : S := ⟨[], [], fun _ => none, []⟩
theorem y1l (k : Key) : s00.obj k = none := by cases k <;> rfl
noncomputable def kop (X : Cx) (md : List (Nat × Nat)) (k : Option Nat) (base s : S) (o : Oper) (K0 : V → Prop) (K1 : V → List (Key × O) → List (Nat × Option Nat) → Prop) (K2 : V → S → Prop) : Prop :=
 match k with
 | some 0 => iop X md s00 (u4 o) o (v8 X.gl s) s00 (fun v lo tn => lo = [] ∧ tn = [] ∧ K0 v) ∨ fop X o (v8 X.gl s) K0
 | some 1 => iop X md base (u4 o) o (v8 X.gl s) s K1
 | some 2 => top X md (u4 o) o (v8 X.gl s) s K2
 | _ => False
noncomputable def vd (X : Cx) (md : List (Nat × Nat)) (ops : Array Oper) (Φ : S → Prop) : List Oper → List Nat → S → S → Prop
 | [], _, _, s => Φ s
 | o :: rest, ts, base, s =>
  match o.guard with
  | none => kop X md ts.head? base s o (fun v => vd X md ops Φ rest ts.tail base (s.set o.dst v))
    (fun v lo tn => q3P s lo ∧ q3O s tn ∧ vd X md ops Φ rest ts.tail base ((s.add lo tn).set o.dst v))
    (fun v s' => vd X md ops Φ rest ts.tail (s'.set o.dst v) (s'.set o.dst v))
  | some (j, want) => gx (gv ops s j) want (kop X md ts.head? base s o (fun v => vd X md ops Φ rest ts.tail base (s.set o.dst v))
          (fun v lo tn => q3P s lo ∧ q3O s tn ∧ vd X md ops Φ rest ts.tail base ((s.add lo tn).set o.dst v))
          (fun v s' => vd X md ops Φ rest ts.tail (s'.set o.dst v) (s'.set o.dst v)))
     (vd X md ops Φ rest ts.tail base (s.set o.dst (.tup [])))
end Go.E
namespace Go.E
open Go
def x5v : Res := ⟨0, .any, [], [], s00⟩
def J0 (rl : List Res) (i : Nat) : Res := rl.getD i x5v
def cst (s0 : S) (ops : List Oper) (rl : List Res) : Nat → S
 | 0 => s0
 | i + 1 => match ops[i]? with
  | some o => (cst s0 ops rl i).step o (J0 rl i)
  | none => cst s0 ops rl i
theorem z19 {rl q : List Res} {i : Nat} (h : i < rl.length) : J0 (rl ++ q) i = J0 rl i := by
 simp only [J0, List.getD_eq_getElem?_getD, List.getElem?_append_left h]
theorem z5C (rl : List Res) (r : Res) : J0 (rl ++ [r]) rl.length = r := by
 simp [J0, List.getD_eq_getElem?_getD]
theorem z0a {s0 : S} {ops : List Oper} {rl q : List Res} : ∀ i, i ≤ rl.length → cst s0 ops (rl ++ q) i = cst s0 ops rl i
 | 0, _ => rfl
 | i + 1, h => by
  simp only [cst]
  rw [z0a i (by omega), z19 (by omega)]
theorem z1b {rl q : List Res} : ∀ i, i ≤ rl.length → Y3 (J0 (rl ++ q)) i = Y3 (J0 rl) i
 | 0, _ => rfl
 | i + 1, h => by
  simp only [Y3]
  rw [z1b i (by omega), z19 (by omega)]
section
variable {X : Cx} {ops : List Oper} {s0 : S} {Φ : S → Prop} {ts0 : List Nat} {md : List (Nat × Nat)}
structure Pre (X : Cx) (ops : List Oper) (s0 : S) (ts0 : List Nat) (pre : List Res) : Prop where
 ok : ∀ i o, i < pre.length → ops[i]? = some o → OkR X ops.toArray (cst s0 ops pre (Y3 (J0 pre) i)) (cst s0 ops pre i) o (J0 pre i)
 kind : ∀ i, i < pre.length → (J0 pre i).t = 0 ∨ (J0 pre i).t = ts0.getD i 0
 tri : ∀ i, (J0 pre i).t = 0 ∨ (J0 pre i).t = 1 ∨ (J0 pre i).t = 2
theorem Pre.snoc {pre : List Res} (p : Pre X ops s0 ts0 pre) {o : Oper} (ho : ops[pre.length]? = some o) {r : Res}
  (hok : OkR X ops.toArray (cst s0 ops pre (Y3 (J0 pre) pre.length)) (cst s0 ops pre pre.length) o r) (hk : r.t = 0 ∨ r.t = ts0.getD pre.length 0) (htri : r.t = 0 ∨ r.t = 1 ∨ r.t = 2) : Pre X ops s0 ts0 (pre ++ [r]) := by
 have rl : ∀ i, i < pre.length → J0 (pre ++ [r]) i = J0 pre i := fun i h => z19 h
 have cl : ∀ i, i ≤ pre.length → cst s0 ops (pre ++ [r]) i = cst s0 ops pre i := fun i h => z0a i h
 have tl : ∀ i, i ≤ pre.length → Y3 (J0 (pre ++ [r])) i = Y3 (J0 pre) i := fun i h => z1b i h
 have rlast : J0 (pre ++ [r]) pre.length = r := z5C pre r
 have cases_ : ∀ i, i < (pre ++ [r]).length → i < pre.length ∨ i = pre.length := by intro i h; simp at h; omega
 refine ⟨?_, ?_, ?_⟩
 ·intro i o' hi ho'
  rcases cases_ i hi with h | rfl
  ·rw [rl i h, cl i (by omega), tl i (by omega), cl _ (by have := q3o (J0 pre) i; omega)]
   exact p.ok i o' h ho'
  ·rw [ho] at ho'; cases ho'
   rw [rlast, cl _ (Nat.le_refl _), tl _ (Nat.le_refl _), cl _ (q3o _ _)]
   exact hok
 ·intro i hi
  rcases cases_ i hi with h | rfl
  ·rw [rl i h]; exact p.kind i h
  ·rw [rlast]; exact hk
 ·intro i
  by_cases h : i < pre.length
  ·rw [rl i h]; exact p.tri i
  ·by_cases h2 : i = pre.length
   ·subst h2; rw [rlast]; exact htri
   ·left
    simp only [J0, List.getD_eq_getElem?_getD]
    rw [List.getElem?_eq_none (by simp; omega)]
    rfl
theorem y9U (hP : v9 X.P = true) : ∀ (rest : List Oper) (ts : List Nat) (pre : List Res) (done : List Oper),
  ops = done ++ rest → pre.length = done.length → ts = ts0.drop pre.length → Pre X ops s0 ts0 pre →
  vd X md ops.toArray Φ rest ts (cst s0 ops pre (Y3 (J0 pre) pre.length)) (cst s0 ops pre pre.length) →
  ∃ rl, rl.length = ops.length ∧ Pre X ops s0 ts0 rl ∧ Φ (cst s0 ops rl ops.length)
 | [], ts, pre, done, he, hl, _, p, h => by
  have : pre.length = ops.length := by rw [he, hl]; simp
  exact ⟨pre, this, p, by rw [← this]; simpa [vd] using h⟩
 | o :: rest, ts, pre, done, he, hl, hts, p, h => by
  have ho : ops[pre.length]? = some o := by rw [he, hl]; simp
  have next : ∀ (r : Res), Pre X ops s0 ts0 (pre ++ [r]) →
    vd X md ops.toArray Φ rest ts.tail (if r.t = 2 then (cst s0 ops pre pre.length).step o r else cst s0 ops pre (Y3 (J0 pre) pre.length)) ((cst s0 ops pre pre.length).step o r) →
    ∃ rl, rl.length = ops.length ∧ Pre X ops s0 ts0 rl ∧ Φ (cst s0 ops rl ops.length) := by
   intro r p' hv
   refine y9U hP rest ts.tail (pre ++ [r]) (done ++ [o]) (by simp [he]) (by simp [hl]) ?_ p' ?_
   ·rw [hts]; simp
   ·have e1 : cst s0 ops (pre ++ [r]) (pre ++ [r]).length = (cst s0 ops pre pre.length).step o r := by
     rw [List.length_append]
     simp only [List.length_cons, List.length_nil, Nat.zero_add, cst, ho]
     rw [z0a _ (Nat.le_refl _), z5C]
    have e2 : cst s0 ops (pre ++ [r]) (Y3 (J0 (pre ++ [r])) (pre ++ [r]).length) = if r.t = 2 then (cst s0 ops pre pre.length).step o r else cst s0 ops pre (Y3 (J0 pre) pre.length) := by
     have e3 : (pre ++ [r]).length = pre.length + 1 := by simp
     rw [e3]
     simp only [Y3, z5C]
     split
     ·rw [← e3]; exact e1
     ·rw [z1b _ (Nat.le_refl _), z0a _ (q3o _ _)]
    rw [e1, e2]
    exact hv
  have kind : ∀ k, ts.head? = some k → k = ts0.getD pre.length 0 := by
   intro k hk
   rw [hts, List.head?_drop] at hk
   simp [List.getD_eq_getElem?_getD, hk]
  simp only [vd] at h
  generalize hs : cst s0 ops pre pre.length = s at *
  have skip : q3T ops.toArray s o = some false → vd X md ops.toArray Φ rest ts.tail (cst s0 ops pre (Y3 (J0 pre) pre.length)) (s.set o.dst (.tup [])) →
    ∃ rl, rl.length = ops.length ∧ Pre X ops s0 ts0 rl ∧ Φ (cst s0 ops rl ops.length) := by
   intro hw hv
   exact next ⟨0, .tup [], [], [], s00⟩ (p.snoc ho (.inl ⟨by rw [hs]; exact hw, rfl, rfl⟩) (.inl rfl) (.inl rfl)) hv
  have go : q3T ops.toArray s o = some true → kop X md ts.head? (cst s0 ops pre (Y3 (J0 pre) pre.length)) s o
      (fun v => vd X md ops.toArray Φ rest ts.tail (cst s0 ops pre (Y3 (J0 pre) pre.length)) (s.set o.dst v))
      (fun v lo tn => q3P s lo ∧ q3O s tn ∧ vd X md ops.toArray Φ rest ts.tail (cst s0 ops pre (Y3 (J0 pre) pre.length)) ((s.add lo tn).set o.dst v))
      (fun v s' => vd X md ops.toArray Φ rest ts.tail (s'.set o.dst v) (s'.set o.dst v)) → ∃ rl, rl.length = ops.length ∧ Pre X ops s0 ts0 rl ∧ Φ (cst s0 ops rl ops.length) := by
   intro hw hr
   unfold kop at hr
   split at hr
   ·rcases hr with hr | hr
    rotate_left
    ·obtain ⟨v, hv, hI⟩ := y2U hP hr
     have hd : y9K X o (v8 X.gl s) v := fun Γ w a s' hgl c hops => hI Γ w a s' c hops
     exact next ⟨0, v, [], [], s00⟩ (p.snoc ho (.inr ⟨by rw [hs]; exact hw, .inl ⟨rfl, by rw [hs]; exact hd⟩⟩) (.inl rfl) (.inl rfl)) hv
    obtain ⟨v, lo, tn, ⟨rfl, rfl, hv⟩, hI⟩ := z1U hP hr
    have hd : y9K X o (v8 X.gl s) v := fun Γ w a s' hgl c hops =>
     hI Γ w a s' hgl c ⟨fun k o h => (by rw [y1l] at h; cases h), fun k o h => (by rw [y1l] at h; cases h)⟩ ⟨fun k o h => (by simp [z8] at h), fun t x h => (by simp [look] at h)⟩ hops
    exact next ⟨0, v, [], [], s00⟩ (p.snoc ho (.inr ⟨by rw [hs]; exact hw, .inl ⟨rfl, by rw [hs]; exact hd⟩⟩) (.inl rfl) (.inl rfl)) hv
   ·rename_i hk
    obtain ⟨v, lo, tn, ⟨hf1, hf2, hv⟩, hI⟩ := z1U hP hr
    exact next ⟨1, v, lo, tn, s00⟩ (p.snoc ho (.inr ⟨by rw [hs]; exact hw, .inr (.inl ⟨rfl, by rw [hs]; exact hI, by rw [hs]; exact z9s hf1 hf2⟩)⟩) (.inr (kind 1 hk)) (.inr (.inl rfl))) hv
   ·rename_i hk
    obtain ⟨v, s1, hv, hT⟩ := z5s hP hr
    exact next ⟨2, v, [], [], s1⟩ (p.snoc ho (.inr ⟨by rw [hs]; exact hw, .inr (.inr ⟨rfl, by rw [hs]; exact hT⟩)⟩) (.inr (kind 2 hk)) (.inr (.inr rfl))) hv
   ·exact hr.elim
  split at h
  ·rename_i hg
   exact go (by simp [q3T, hg]) h
  ·rename_i j want hg
   cases ht : q4r ops.toArray j with
   | none => simp [gv, ht, gx] at h
   | some t =>
    simp only [gv, ht] at h
    unfold gx at h
    split at h
    ·rename_i cb hb
     by_cases hbw : cb.toBool = want
     ·exact go (by simp [q3T, hg, ht, hb, hbw]) (h.1 hbw)
     ·exact skip (by simp [q3T, hg, ht, hb, hbw]) (h.2 hbw)
    ·rename_i hb
     exact skip (by simp [q3T, hg, ht, hb]) h
    ·exact h.elim
end
section
variable {X : Cx} {n : Nat} {s : S} {Ψ : Exit → S → Prop}
theorem y8q {ops : List Oper} {i j : Nat} (h : ((decide (j < i) && ((y2j ops []).getD i 0).testBit j) || (decide (i < j) && ((y2j ops []).getD j 0).testBit i)) = true) : (j < i ∧ Anc ops j i) ∨ (i < j ∧ Anc ops i j) := by
 simp only [Bool.or_eq_true, Bool.and_eq_true, decide_eq_true_eq] at h
 rcases h with ⟨h1, h2⟩ | ⟨h1, h2⟩
 ·exact .inl ⟨h1, y1d h2⟩
 ·exact .inr ⟨h1, y1d h2⟩
theorem x0h {ops : List Oper} {ts : List Nat} {s0 : S} {rl : List Res} (hl : rl.length = ops.length) (p : Pre X ops s0 ts rl) (h : y8V ops ts = true) :
  Orders ops (J0 rl) := by
 simp only [y8V, Bool.and_eq_true, List.all_eq_true, List.mem_range] at h
 obtain ⟨⟨h1, h2⟩, h3⟩ := h
 refine ⟨?_, ?_, ?_, ?_⟩
 ·intro i j hd
  obtain ⟨o, ho, _⟩ := id hd
  have hi : i < ops.length := (List.getElem?_eq_some_iff.1 ho).1
  have := h1 i hi
  rw [ho] at this
  simp only [List.all_eq_true, decide_eq_true_eq] at this
  exact this j (y9x ho hd)
 ·intro i j hi hj ht htj hji
  have hk := p.kind i (by omega)
  have hti : ts.getD i 0 = 2 := by rcases hk with h | h <;> omega
  have htj' : ts.getD j 0 ≠ 0 := by
   rcases p.kind j (by omega) with h | h
   ·exact absurd h htj
   ·rw [← h]; exact htj
  have := h2 i hi
  rw [hti] at this
  simp only [bne_self_eq_false, Bool.false_or, List.all_eq_true, List.mem_range] at this
  have := this j hj
  have e1 : (ts.getD j 0 == 0) = false := by simpa using htj'
  have e2 : (j == i) = false := by simpa using hji
  rw [e1, e2] at this
  simp only [Bool.false_or] at this
  exact y8q this
 ·rintro i j t hji ⟨o, ho, hd⟩ ⟨o', ho', hl'⟩
  have hj : j < ops.length := (List.getElem?_eq_some_iff.1 ho).1
  have hi : i < ops.length := (List.getElem?_eq_some_iff.1 ho').1
  have := h3 j hj
  rw [ho] at this
  simp only [Option.bind_some, hd, List.all_eq_true, List.mem_range] at this
  have := this i hi
  have e2 : (j == i) = false := by simpa using hji
  rw [e2, ho'] at this
  have e3 : (lk ops.toArray o').contains t = true := by simpa using x5z hl'
  simp only [Bool.false_or, Bool.and_eq_true, e3, Bool.not_true] at this
  exact y8q this.2
 ·rintro i j t ⟨o, ho, hd⟩ ⟨o', ho', hd'⟩
  refine Classical.byContradiction fun hne => ?_
  have hi : i < ops.length := (List.getElem?_eq_some_iff.1 ho).1
  have hj : j < ops.length := (List.getElem?_eq_some_iff.1 ho').1
  have := h3 j hj
  rw [ho'] at this
  simp only [Option.bind_some, hd', List.all_eq_true, List.mem_range] at this
  have := this i hi
  have e2 : (j == i) = false := by simpa using fun e => hne e.symm
  rw [e2, ho] at this
  simp [hd] at this
theorem x2v (hP : v9 X.P = true) (hm : X.P.follows .mixedOrders = true) (md : List (Nat × Nat)) {id : Nat} {l : List Oper} (ts : List Nat) (hok : l.all (z0F n) = true) (hord : y8V l ts = true)
  (h : vd X md l.toArray (fun s' => Ψ .normal s') l ts s s) : DC X n (.region id l.toArray true) s Ψ := by
 have p0 : Pre X l s ts [] := ⟨fun i o h => by simp at h, fun i h => by simp at h, fun i => .inl (by simp [J0, x5v])⟩
 obtain ⟨rl, hl, p, hΦ⟩ := y9U hP l ts [] [] rfl rfl (by simp) p0 h
 have K : Canon X l s (J0 rl) (cst s l rl) := ⟨rfl, fun i o ho => by simp only [cst, ho], fun i o ho => p.ok i o (by rw [hl]; exact (List.getElem?_eq_some_iff.1 ho).1) ho, p.tri⟩
 exact x5K hP hm K (x0h hl p hord) (fun o ho => List.all_eq_true.1 hok o ho) hΦ
end
end Go.E
namespace Go.E
open Go
noncomputable def q1x (P : Program) (T : TypeId) (τ : Ty) (op : BinOp) (x y : V) (K : V → Prop) : Prop :=
 match τ with
 | .int k => x.isInt k ∧ (if BinOp.q6t op then y.U2 ∧ z3r op k x.toInt y.toInt K else y.isInt k ∧ q7n op k x.toInt y.toInt K)
 | .bool => x.isBool ∧ y.isBool ∧ (match op with
   | .eql => K (.d .bool (.bool (x.toBool == y.toBool)))
   | .neq => K (.d .bool (.bool (!(x.toBool == y.toBool))))
   | _ => False)
 | .str => x.isStr ∧ y.isStr ∧ q8O op x.toStr y.toStr K
 | .ptr => (match op, x.q7U, y.q7U with
   | .eql, some a, some true => K (.d .bool (.bool a))
   | .neq, some a, some true => K (.d .bool (.bool (!a)))
   | .eql, some true, some b => K (.d .bool (.bool b))
   | .neq, some true, some b => K (.d .bool (.bool (!b)))
   | _, _, _ => False)
 | .arr n e => W2 P T = true ∧ x.W1 (.arr n e) ∧ y.W1 (.arr n e) ∧ q5K op (C.eqb x.toC y.toC) K
 | .struct sz os fs => W2 P T = true ∧ x.W1 (.struct sz os fs) ∧ y.W1 (.struct sz os fs) ∧ q5K op (C.eqb x.toC y.toC) K
 | .slice _ _ => (match op, x.y5x, y with
   | .eql, some r, .nilc => K (z0S r)
   | .neq, some r, .nilc => K (z0S (r.map (!·)))
   | _, _, _ => False)
 | _ => False
section
variable {P : Program} {T : TypeId} {x y : V} {K : V → Prop} {op : BinOp}
theorem x1O : z7h P op T x y K = q1x P T (ty P T) op x y K := rfl
theorem y8M {k : IntKind} : q1x P T (.int k) op x y K = (x.isInt k ∧ (if BinOp.q6t op then y.U2 ∧ z3r op k x.toInt y.toInt K else y.isInt k ∧ q7n op k x.toInt y.toInt K)) := rfl
theorem y8O : q1x P T .bool .eql x y K = (x.isBool ∧ y.isBool ∧ K (.d .bool (.bool (x.toBool == y.toBool)))) := rfl
theorem y8N : q1x P T .bool .neq x y K = (x.isBool ∧ y.isBool ∧ K (.d .bool (.bool (!(x.toBool == y.toBool))))) := rfl
theorem y8L : q1x P T .str op x y K = (x.isStr ∧ y.isStr ∧ q8O op x.toStr y.toStr K) := rfl
theorem y3B {k : Key} {q : List Nat} {τ : Ty} : q1x P T .ptr .eql (.ptr k q τ) (.d .ptr .nil) K = K (.d .bool (.bool false)) := rfl
theorem y3A {k : Key} {q : List Nat} {τ : Ty} : q1x P T .ptr .neq (.ptr k q τ) (.d .ptr .nil) K = K (.d .bool (.bool true)) := rfl
theorem y3D : q1x P T .ptr .eql (.d .ptr .nil) (.d .ptr .nil) K = K (.d .bool (.bool true)) := rfl
theorem y3C : q1x P T .ptr .neq (.d .ptr .nil) (.d .ptr .nil) K = K (.d .bool (.bool false)) := rfl
theorem y4Z {eb : Nat} {e : Ty} {cs : List C} {t eb' : Nat} {e' : Ty} : q1x P T (.slice eb e) .eql (.sl eb' e' cs t) .nilc K = K (z0S (bif cs.isEmpty then none else some false)) := rfl
theorem y40 {eb : Nat} {e : Ty} {c : C} {eb' : Nat} {e' : Ty} : q1x P T (.slice eb e) .eql (.d (.slice eb' e') c) .nilc K = K (z0S (bif c.elems.isEmpty then none else some false)) := rfl
theorem y4Y {eb : Nat} {e : Ty} {k : Key} {q : List Nat} {lo n : Nat} {cp : Option Nat} {eb' : Nat} {e' : Ty} : q1x P T (.slice eb e) .eql (.sr k q lo n cp eb' e') .nilc K = K (z0S (bif n == 0 then none else some false)) := rfl
theorem y3E {eb : Nat} {e : Ty} {eb' : Nat} {e' : Ty} : q1x P T (.slice eb e) .eql (.emp eb' e') .nilc K = K (.top .bool) := rfl
theorem y1G {eb : Nat} {e : Ty} : q1x P T (.slice eb e) .eql .nilc .nilc K = K (.d .bool (.bool true)) := rfl
theorem y8P {n : Nat} {e : Ty} : q1x P T (.arr n e) op x y K = (W2 P T = true ∧ x.W1 (.arr n e) ∧ y.W1 (.arr n e) ∧ q5K op (C.eqb x.toC y.toC) K) := rfl
end
theorem y8 (n : Int) : (C.int n).toInt = n := rfl
theorem p9 (b : Bool) : (C.bool b).toBool = b := rfl
theorem x7N (l : List UInt8) : (C.str l).toStr = l := rfl
theorem y7 (cs : List C) : (C.slice cs).elems = cs := rfl
theorem q3v (cs : List C) : (C.agg cs).elems = cs := rfl
theorem y26 (cs : List C) (i : Nat) : (C.agg cs).get i = cs.getD i .nil := rfl
theorem x2b (i j : Nat) (x : V) (e : List (Nat × V)) (l : List (Key × O)) (A : Key → Option O) (tk : List (Nat × Option Nat)) : (S.mk ((i, x) :: e) l A tk).get j = if i = j then x else (S.mk e l A tk).get j := by
 simp only [S.get, look]
 split <;> rfl
theorem get_nil (j : Nat) (l : List (Key × O)) (A : Key → Option O) (tk : List (Nat × Option Nat)) : (S.mk [] l A tk).get j = .any := rfl
theorem x1E (e : List (Nat × V)) (l : List (Key × O)) (A : Key → Option O) (tk : List (Nat × Option Nat)) (d : Nat) (x : V) : (S.mk e l A tk).set (some d) x = S.mk (z84 e d x) l A tk := rfl
theorem x1F (s : S) (x : V) : s.set none x = s := rfl
theorem x5w (e : List (Nat × V)) (l : List (Key × O)) (A : Key → Option O) (tk : List (Nat × Option Nat)) (k : Key) (o : O) : (S.mk e l A tk).put k o = S.mk e (y42 l k o) A tk := rfl
theorem x4F (e : List (Nat × V)) (l : List (Key × O)) (A : Key → Option O) (tk : List (Nat × Option Nat)) (t : Nat) (x : Option Nat) : (S.mk e l A tk).tok t x = S.mk e l A (z84 tk t x) := rfl
theorem x5N (e : List (Nat × V)) (l : List (Key × O)) (A : Key → Option O) (tk : List (Nat × Option Nat)) (lo : List (Key × O)) (tn : List (Nat × Option Nat)) : (S.mk e l A tk).add lo tn = S.mk e (lo ++ l) A (tn ++ tk) := rfl
theorem y8Y (e : List (Nat × V)) (A : Key → Option O) (tk : List (Nat × Option Nat)) (k : Key) : (S.mk e [] A tk).obj (.g k) = A k := rfl
theorem y5q (e : List (Nat × V)) (A : Key → Option O) (tk : List (Nat × Option Nat)) (n : Nat) : (S.mk e [] A tk).obj (.l n) = none := rfl
theorem x3I (e : List (Nat × V)) (l : List (Key × O)) (A : Key → Option O) (tk : List (Nat × Option Nat)) (t : Nat) : (S.mk e l A tk).live t = q0n tk t := rfl
theorem x0q (t : Nat) : q0n [] t = none := rfl
theorem y86 (u : Nat) (x : Option Nat) (tk : List (Nat × Option Nat)) (t : Nat) : q0n ((u, x) :: tk) t = if u = t then x else q0n tk t := by
 simp only [q0n, look]
 by_cases h : u = t
 ·simp only [if_pos h]; cases x <;> rfl
 ·simp only [if_neg h]
theorem y51 (e : List (Nat × V)) (l : List (Key × O)) (A : Key → Option O) (t : Nat) : (S.mk e l A []).known t = false := rfl
theorem x4A (τ : Ty) (c : C) (i : Nat) : (V.d τ c).get i = .d (τ.get i) (c.get i) := rfl
theorem x1n (τ : Ty) (vs : List V) (i : Nat) : (V.agg τ vs).get i = vs.getD i .any := rfl
theorem x1q (x : V) (i : Nat) (q : List Nat) : x.at (i :: q) = (x.get i).at q := by rfl
theorem x3g (τ : Ty) (c : C) : (V.d τ c).toInt = c.toInt := rfl
theorem x1u (τ : Ty) (c : C) : (V.d τ c).toBool = c.toBool := rfl
theorem x3f (τ : Ty) (c : C) : (V.d τ c).toStr = c.toStr := rfl
theorem x6G (τ : Ty) (c : C) : (V.d τ c).toC = c := rfl
theorem x4e (n : Nat) (e : Ty) (i : Nat) : (Ty.arr n e).get i = e := rfl
theorem x6F (e : List (Nat × V)) (l : List (Key × O)) (A : Key → Option O) (tk : List (Nat × Option Nat)) (k : Key) : (S.mk e l A tk).up k = ((S.mk e l A tk).obj k).map (O.ren .g) := rfl
theorem x0x (k : IntKind) : (Ty.int k).known = true := rfl
theorem x0E (k : IntKind) : (Ty.int k).isAgg = false := rfl
theorem y89  : (Ty.bool).known = true := rfl
theorem y9e  : (Ty.bool).isAgg = false := rfl
theorem x0u  : (Ty.str).known = true := rfl
theorem x0B  : (Ty.str).isAgg = false := rfl
theorem y7v (n : Nat) (e : Ty) : (Ty.slice n e).known = true := rfl
theorem y7x (n : Nat) (e : Ty) : (Ty.slice n e).isAgg = false := rfl
theorem x0y (n : Nat) (e : Ty) : (Ty.arr n e).known = true := rfl
theorem x0F (n : Nat) (e : Ty) : (Ty.arr n e).isAgg = true := rfl
theorem x0v  : (Ty.ptr).known = true := rfl
theorem x0C  : (Ty.ptr).isAgg = false := rfl
theorem x0w  : (Ty.map).known = true := rfl
theorem x0D  : (Ty.map).isAgg = false := rfl
theorem y88  : (Ty.func).known = true := rfl
theorem y9d  : (Ty.func).isAgg = false := rfl
theorem y7w  : (Ty.iface).known = true := rfl
theorem y7y  : (Ty.iface).isAgg = false := rfl
theorem x03 (n : Nat) (e : Ty) (i : Nat) : (Ty.arr n e).child i = if i < n then some (i * e.size, e) else none := rfl
theorem y9a (n : Nat) (e : Ty) : (Ty.arr n e).H8 = List.replicate n e := rfl
theorem y90 (n : Nat) (e : Ty) (i : Nat) : (Ty.slice n e).get i = e := rfl
theorem y82 (d : Nat) : Q6 [] d = 0 := rfl
section
variable {X : Cx} {md : List (Nat × Nat)} {ops : Array Oper} {Φ : S → Prop} {o : Oper} {rest : List Oper} {s : S}
theorem Q0.mono {f : FuncId} {xs : List V} {A A' : Key → Option O} {v : V} {L : List (Key × O)} (h : Q0 X f xs A v L) (hA : ∀ k o, A k = some o → A' k = some o) : Q0 X f xs A' v L :=
 fun A'' Γ w args hAA => h A'' Γ w args fun k o hk => hAA k o (hA k o hk)
end
section
variable {X : Cx} {md : List (Nat × Nat)} {ops : Array Oper} {Φ : S → Prop} {o : Oper} {rest : List Oper} {ts : List Nat} {base s : S}
end
end Go.E
namespace Go.E
open Go
section
variable {X : Cx} {md : List (Nat × Nat)} {ops : Array Oper} {Φ : S → Prop} {n : List Unit} {u : Unit} {o : Oper} {rest : List Oper} {ts : List Nat} {base s s' : S} {dst : Option Nat} {lo : List (Key × O)} {tn : List (Nat × Option Nat)} {d : Option Nat} {op : Op} {T : TypeId} {ps : String} {af : Array Edge} {j : Nat} {want : Bool}
theorem q1R {x : V} {p q : Prop} (h : x = .d .bool (.bool true)) : gx x true p q = p := by subst h; exact q0Z p q
theorem q1S {x : V} {p q : Prop} (h : x = .d .bool (.bool true)) : gx x false p q = q := by subst h; exact q00 p q
theorem q1T {x : V} {p q : Prop} (h : x = .d .bool (.bool false)) : gx x true p q = q := by subst h; exact q01 p q
theorem q1U {x : V} {p q : Prop} (h : x = .d .bool (.bool false)) : gx x false p q = p := by subst h; exact q02 p q
theorem q1Q {x : V} {want : Bool} {p q : Prop} (h : x = .tup []) : gx x want p q = q := by subst h; rfl
noncomputable def vcK (X : Cx) (md : List (Nat × Nat)) (ops : Array Oper) (Φ : S → Prop) (rest : List Oper) (dst : Option Nat) (v : V) (s : S) : Prop := vc X md ops Φ rest (s.set dst v)
@[go_sem] theorem x8h : vc X md ops Φ [] s = Φ s := id rfl
@[go_sem] theorem x8l : vc X md ops Φ (⟨d, op, T, ps, af, none⟩ :: rest) s = sop X md (u4 ⟨d, op, T, ps, af, none⟩) ⟨d, op, T, ps, af, none⟩ s (vcK X md ops Φ rest d) := by simp only [vc]; exact id rfl
@[go_sem] theorem x8m (τ : Ty) (c : C) : vcK X md ops Φ rest dst (.d τ c) s = vc X md ops Φ rest (s.set dst (.d τ c)) := id rfl
@[go_sem] theorem x8i (eb : Nat) (e : Ty) (cs : List C) (t : Nat) : vcK X md ops Φ rest dst (.sl eb e cs t) s = vc X md ops Φ rest (s.set dst (.sl eb e cs t)) := id rfl
@[go_sem] theorem x8e (eb : Nat) (e : Ty) : vcK X md ops Φ rest dst (.emp eb e) s = vc X md ops Φ rest (s.set dst (.emp eb e)) := id rfl
@[go_sem] theorem x8a  : vcK X md ops Φ rest dst .nilc s = vc X md ops Φ rest (s.set dst .nilc) := id rfl
@[go_sem] theorem x8d (τ : Ty) : vcK X md ops Φ rest dst (.top τ) s = vc X md ops Φ rest (s.set dst (.top τ)) := id rfl
end
end Go.E
namespace Go.E
open Go
mutual
def C.wf : Ty → C → Prop
 | .int k, c => c = .int c.toInt ∧ k.min ≤ c.toInt ∧ c.toInt ≤ k.max
 | .bool, c => c = .bool c.toBool
 | .str, c => c = .str c.toStr ∧ c.toStr.length ≤ 140737488355328
 | .slice eb e, c => c = .slice c.elems ∧ c.elems.length * eb ≤ 140737488355328 ∧ c.elems.length ≤ 9223372036854775807 ∧ ∀ x ∈ c.elems, C.wf e x
 | .arr n e, c => c = .agg c.elems ∧ c.elems.length = n ∧ ∀ x ∈ c.elems, C.wf e x
 | .struct _ _ fs, c => c = .agg c.elems ∧ C.wfs fs c.elems
 | .opq _, _ => False
 | .iface, c => c = .nil ∨ c = .bool true
 | _, c => c = .nil
def C.wfs : List Ty → List C → Prop
 | [], cs => cs = []
 | f :: fs, cs => ∃ c cs', cs = c :: cs' ∧ C.wf f c ∧ C.wfs fs cs'
end
theorem C.z9G : ∀ {fs : List Ty} {cs : List C}, C.wfs fs cs → cs.length = fs.length
 | [], _, h => by simp only [C.wfs] at h; simp [h]
 | f :: fs, cs, h => by
  simp only [C.wfs] at h
  obtain ⟨c, cs', rfl, _, h⟩ := h
  simp [C.z9G h]
theorem C.y7O : ∀ {fs : List Ty} {cs : List C} {i : Nat} {f : Ty}, C.wfs fs cs → fs[i]? = some f → C.wf f (cs.getD i .nil)
 | [], _, _, _, _, h => by simp at h
 | g :: fs, cs, i, f, h, hi => by
  simp only [C.wfs] at h
  obtain ⟨c, cs', rfl, h1, h2⟩ := h
  cases i with
  | zero => simp at hi; subst hi; simpa using h1
  | succ i => simpa using C.y7O h2 (show fs[i]? = some f by simpa using hi)
theorem C.q4u {sz : Nat} {os : List Nat} {fs : List Ty} {c : C} {i : Nat} {f : Ty} (h : C.wf (.struct sz os fs) c) (hi : fs[i]? = some f) : C.wf f (c.get i) := by
 simp only [C.wf] at h
 rw [h.1]
 exact C.y7O h.2 hi
theorem C.z7a {n : Nat} {e : Ty} {c : C} {i : Nat} (h : C.wf (.arr n e) c) (hi : i < n) : C.wf e (c.get i) := by
 simp only [C.wf] at h
 obtain ⟨h1, h2, h3⟩ := h
 rw [h1]
 simp only [y26]
 have : i < c.elems.length := by omega
 rw [List.getD_eq_getElem?_getD, List.getElem?_eq_getElem this]
 exact h3 _ (List.getElem_mem this)
mutual
theorem z9.wf {H : Hp} : ∀ {τ : Ty} {vs : List Value} {c : C}, z9 H τ vs c → C.wf τ c
 | .int k, vs, c, h => by
  simp only [z9] at h
  obtain ⟨n, rfl, _, h1, h2⟩ := h
  exact ⟨rfl, h1, h2⟩
 | .bool, vs, c, h => by
  simp only [z9] at h
  obtain ⟨n, rfl, _⟩ := h
  rfl
 | .str, vs, c, h => by
  simp only [z9] at h
  obtain ⟨n, rfl, _, h1⟩ := h
  exact ⟨rfl, h1⟩
 | .slice eb e, vs, c, h => by
  simp only [z9] at h
  obtain ⟨a, n, cap, cs, rfl, rfl, h1, h2, h3, h4, h5⟩ := h
  simp only [C.wf, C.elems]
  refine ⟨trivial, by rw [h1]; exact h4, by unfold maxLen at h3; omega, fun x hx => ?_⟩
  obtain ⟨i, hi⟩ := List.getElem?_of_mem hx
  rcases h5 with h5 | ⟨b, off, l, _, _, _, hr⟩
  ·subst h5; have := (List.getElem?_eq_some_iff.1 hi).1; omega
  ·exact z9.wf (hr i x hi)
 | .arr n e, vs, c, h => by
  simp only [z9] at h
  obtain ⟨cs, rfl, h1, h2, h4, h3⟩ := h
  simp only [C.wf, C.elems]
  refine ⟨trivial, h1, fun x hx => ?_⟩
  obtain ⟨i, hi⟩ := List.getElem?_of_mem hx
  exact z9.wf (h3 i x hi)
 | .struct sz os fs, vs, c, h => by
  simp only [z9] at h
  obtain ⟨cs, rfl, _, _, h2⟩ := h
  simp only [C.wf, C.elems]
  exact ⟨trivial, j7.wf h2⟩
 | .ptr, vs, c, h | .map, vs, c, h | .func, vs, c, h => by
  simp only [z9] at h
  simp only [C.wf]; exact h.1
 | .iface, vs, c, h => by
  simp only [z9] at h
  simp only [C.wf]
  rcases h with h | h
  ·exact .inl h.1
  ·exact .inr h.1
 | .opq _, _, _, h => by simp only [z9] at h
theorem j7.wf {H : Hp} : ∀ {fs : List Ty} {os : List Nat} {vs : List Value} {cs : List C}, j7 H fs os vs cs → C.wfs fs cs
 | [], _, _, _, h => by simp only [j7] at h; simp only [C.wfs]; exact h
 | f :: fs, o :: os, vs, cs, h => by
  simp only [j7] at h
  obtain ⟨c, cs', rfl, _, h2, h3⟩ := h
  simp only [C.wfs]
  exact ⟨c, cs', rfl, z9.wf h2, j7.wf h3⟩
 | _ :: _, [], _, _, h => by simp [j7] at h
end
mutual
def V.wf : V → Prop
 | .d τ c => C.wf τ c
 | .sl eb e cs _ => C.wf (.slice eb e) (.slice cs)
 | .ts eb e cs => C.wf (.slice eb e) (.slice cs)
 | .sr _ _ _ n _ eb _ => n * eb ≤ 140737488355328 ∧ n ≤ 9223372036854775807
 | .cptr τ c => C.wf τ c
 | .agg _ vs => V.wfs vs
 | _ => True
def V.wfs : List V → Prop
 | [] => True
 | x :: xs => x.wf ∧ V.wfs xs
end
mutual
theorem z6.wf {Γ : G} {hm : Option Key} : ∀ {x : V} {p : List Nat} {vs : List Value}, z6 Γ hm p x vs → x.wf
 | .d τ c, _, _, h => by simp only [z6] at h; exact h.wf
 | .sl eb e cs t, _, _, h => by simp only [z6] at h; obtain ⟨a, n, cap, _, h, _⟩ := h; exact h.wf
 | .ts eb e cs, _, _, h => by simp only [z6] at h; obtain ⟨a, n, cap, k, _, _, h, _⟩ := h; exact h.wf
 | .sr _ _ _ n _ eb _, _, _, h => by
  simp only [z6] at h
  rcases h with ⟨_, rfl, _⟩ | ⟨b, τ0, o, m, cap, _, _, _, _, h1, h2, h3, _⟩
  ·exact ⟨by rw [Nat.zero_mul]; exact Nat.zero_le _, Nat.zero_le _⟩
  exact ⟨h3, by unfold maxLen at h2; omega⟩
 | .cptr τ c, _, _, h => by simp only [z6] at h; obtain ⟨b, off, l, _, _, _, h⟩ := h; exact h.wf
 | .agg _ vs, _, _, h => by simp only [z6] at h; exact w5.wf h.2.2.2.2
 | .emp _ _, _, _, _ | .nilc, _, _, _ | .ptr _ _ _, _, _, _ | .mp _, _, _, _ | .fn _ _, _, _, _ | .tup _, _, _, _ | .top _, _, _, _ | .any, _, _, _ => by simp only [V.wf]
theorem w5.wf {Γ : G} {hm : Option Key} : ∀ {xs : List V} {p : List Nat} {i : Nat} {τ : Ty} {vs : List Value}, w5 Γ hm p i τ xs vs → V.wfs xs
 | [], _, _, _, _, _ => by simp only [V.wfs]
 | x :: xs, _, _, _, _, h => by
  simp only [w5] at h
  obtain ⟨⟨o, f, _, _, _, h1⟩, h2⟩ := h
  exact ⟨z6.wf h1, w5.wf h2⟩
end
def V.wfT : V → Prop
 | .tup xs => V.wfs xs
 | x => x.wf
theorem v3.wf {Γ : G} : ∀ {xs : List V} {vs : List Value}, v3 Γ xs vs → V.wfs xs
 | [], _, _ => by simp only [V.wfs]
 | x :: xs, _, h => by
  simp only [v3] at h
  obtain ⟨v, vs', _, h1, _, h2⟩ := h
  exact ⟨z6.wf h1, v3.wf h2⟩
theorem z7.wf {Γ : G} {x : V} {v : Value} (h : z7 Γ x v) : x.wfT := by
 cases x
 case any => simp only [V.wfT, V.wf]
 case tup xs => obtain ⟨vs, _, h⟩ := h; exact h.wf
 all_goals exact z6.wf h.1
def O.wf : O → Prop
 | .box x => x.wf
 | .map _ _ es => ∀ c ∈ es, c.2.wf
 | .it _ _ | .dead _ => True
structure WF (s : S) : Prop where
 slot : ∀ t, (s.get t).wfT
 obj : ∀ k x, s.obj k = some (.box x) → x.wf
section
variable {X : Cx} {n : Nat} {s : S} {Ψ : Exit → S → Prop} {c : Code}
theorem At.wf {Γ0 : G} {a : Act} {w : World} (h : At X n Γ0 s a w) : WF s := by
 obtain ⟨Γ, _, _, c, hs, _⟩ := h
 refine ⟨fun t => (hs t).wf, fun k x hk => ?_⟩
 rcases c.obj k _ hk with ⟨_, e, rfl⟩ | ⟨b, cells, T, _, _, _, _, _, h, _⟩
 ·simp [V.wf, C.wf, C.elems]
 exact h.wf
theorem WF.at {t : Nat} {x : V} (h : WF s) (ht : s.get t = x) : x.wfT := ht ▸ h.slot t
end
theorem x3b {k : IntKind} {n : Int} (h1 : k.min ≤ n) (h2 : n ≤ k.max) : k.wrap n = n := by
 cases k <;> simp [IntKind.wrap, IntKind.min, IntKind.max, IntKind.bits, IntKind.signed] at h1 h2 ⊢ <;> omega
end Go.E
namespace Go.E
open Go
attribute [go_sem] eq_self Option.bind_some Option.bind_none Option.map_some Option.map_none Bool.not_true Bool.not_false decide_true decide_false forall_const true_implies false_implies
attribute [go_sem] implies_true not_true not_false_iff sop iop kop fop sl3 y6K q9e y04 lk List.head?_cons List.tail_cons List.head?_nil
attribute [go_sem] strOf Ty.y52 Op.operands Call.operands q3P q3O top y82 pv q31 z7g y4X z0C
attribute [go_sem] q8X q30 z0f Q4 V.q3y cut x1O y8M y8O y8N y8L y3B
attribute [go_sem] y3A y3D y3C y4Z y40 y4Y y3E y1G z0S y8P Bool.false_eq_true if_true if_false q7n q8O z3r q5K BinOp.q6t
attribute [go_sem] u4 v8 y6G q7T U1 V.slot q2z V.q05 V.U5 V.tkR S.start x2b
attribute [go_sem] get_nil x1E x1F x5w x4F x5N y8Y y5q x3I x0q y86
attribute [go_sem] y51 x6F O.ren V.ren V.q0B z84 z6I z1C y42 z6J z9S
attribute [go_sem] E.look z8 Nat.zero_ne_one Nat.one_ne_zero Z9 q0g Y4 Z2 q1D X2 q7r gOk
attribute [go_sem] tOk S.ret q5r q2s q6k dn rk dnL dnT q0I q9n X5
attribute [go_sem] V.sites V.z5x V.b6 V.q3N V.okH V.y5o V.b8 V.q1c q4r Option.getD_some Option.getD_none or_false
attribute [go_sem] false_or and_true true_and and_self or_true true_or or_self List.nil_append List.cons_append List.append_nil V.isInt V.U2
attribute [go_sem] V.isBool V.isStr V.W1 x3g x1u x3f x6G y8 p9 x7N y7 q3v
attribute [go_sem] y26 x1q x4A x1n x4e V.setAt V.set C.set J2 X1 q7s
attribute [go_sem] q79 V.ty V.plain V.k6 V.X4 V.q7U view views Q3 q03 List.map_cons List.map_nil
attribute [go_sem] List.getD_cons_zero List.getD_cons_succ List.set_cons_zero List.set_cons_succ List.all_cons List.all_nil Array.getD_eq_getD_getElem? ne_eq not_false_eq_true not_true_eq_false Ty.size x0x
attribute [go_sem] x0E y89 y9e x0u x0B y7v y7x x0y x0F x0v x0C x0w
attribute [go_sem] x0D y88 y9d y7w y7y x03 y9a y90 Option.isSome_some Option.isSome_none List.getElem?_toArray List.getElem?_cons_zero
attribute [go_sem] List.getElem?_cons_succ List.size_toArray List.length_cons List.length_nil Nat.lt_add_one Nat.zero_lt_succ Bool.and_true Bool.true_and Bool.or_true Bool.true_or Bool.or_false Bool.false_or
attribute [go_sem] cond_true cond_false Key.l.injEq Key.g.injEq Bool.and_eq_true List.contains_nil List.contains_cons Bool.and_self decide_eq_true_eq Nat.not_lt_zero List.replicate List.replicate_zero
@[go_sem] theorem x7S (k : IntKind) : z0 (.int k) = .int 0 := rfl
@[go_sem] theorem x6D : z0 .bool = .bool false := rfl
@[go_sem] theorem x7P : z0 .str = .str [] := rfl
@[go_sem] theorem x5P (eb : Nat) (e : Ty) : z0 (.slice eb e) = .slice [] := rfl
@[go_sem] theorem x7Q : z0 .ptr = .nil := rfl
@[go_sem] theorem x7R : z0 .map = .nil := rfl
@[go_sem] theorem x6C : z0 .func = .nil := rfl
@[go_sem] theorem x5Q : z0 .iface = .nil := rfl
attribute [go_sem] u2 V.d.injEq V.emp.injEq
attribute [go_sem] false_and and_false y1l q0Z q02 q00 q01 gv
attribute [go_sem] q5v q1O z1r z0d z2H q3c z3u z3t q06 q0S q2a q6F V.k8 V.q2G O.k8 V.ok V.oks V.q1f O.ok Z7 c5 List.isEmpty_nil List.isEmpty_cons Option.isSome_some Option.isSome_none
section
variable {X : Cx} {n : Nat} {c : Code} {Ψ : Exit → S → Prop} {md : List (Nat × Nat)} {ops : Array Oper} {Φ : S → Prop} {m : List Unit} {l : List Oper} {ts : List Nat} {dst : Nat} {o : Oper} {K : V → S → Prop} {s s' b b' : S}
theorem x5I : ((0 : Nat) = 100) = False := by simp
attribute [go_sem] lop x5I false_or false_and
end
end Go.E
namespace Go.E
open Go
section
variable {X : Cx} {n : Nat} {s : S} {Ψ : Exit → S → Prop}
theorem z9n {Γ0 : G} {ι : Type} (I : ι → S) (μ : ι → Nat) {a : Act} {w : World} (h : ∃ i, At X n Γ0 (I i) a w) : ∃ m, ∃ i, At X n Γ0 (I i) a w ∧ μ i = m ∧ ∀ j, At X n Γ0 (I j) a w → m ≤ μ j := by
 obtain ⟨i, hi⟩ := h
 have : ∀ m i, μ i = m → At X n Γ0 (I i) a w → ∃ m, ∃ i, At X n Γ0 (I i) a w ∧ μ i = m ∧ ∀ j, At X n Γ0 (I j) a w → m ≤ μ j := by
  intro m
  induction m using Nat.strongRecOn with
  | _ m ih =>
   intro i hm hi
   by_cases h : ∃ j, At X n Γ0 (I j) a w ∧ μ j < m
   ·obtain ⟨j, hj, hlt⟩ := h
    exact ih _ hlt j rfl hj
   ·exact ⟨m, i, hi, hm, fun j hj => Nat.le_of_not_lt fun hlt => h ⟨j, hj, hlt⟩⟩
 exact this _ i rfl hi
theorem x2u {c rest : Code} (l : Nat) (hf : findLabel c l = some rest) {ι : Type} (I : ι → S) (μ : ι → Nat)
  (first : DC X n c s fun e s' => match e with | .goto l' => l' = l ∧ ∃ i, q1i X n s' (I i) | e => Ψ e s')
  (pass : ∀ i, DC X n rest (I i) fun e s' => match e with | .goto l' => l' = l ∧ ∃ j, q1i X n s' (I j) ∧ μ j < μ i | e => Ψ e s') : DC X n (.scope c) s Ψ := by
 intro Γ0 a w hat
 open Classical in
 refine wp_scope_jumps l (fun a w => ∃ i, At X n Γ0 (I i) a w) (fun a w => if h : ∃ i, At X n Γ0 (I i) a w then Classical.choose (z9n I μ h) else 0) hf ?_ ?_
 ·refine wp_mono (first Γ0 a w hat) ?_
  rintro e a' w' ⟨s', h1, h2⟩
  cases e with
  | goto l' =>
   obtain ⟨e1, i, hi⟩ := h1
   exact ⟨e1, i, hi Γ0 a' w' h2⟩
  | normal | exit _ | ret | panic _ | outgrown => exact ⟨s', h1, h2⟩
 ·intro a w hI
  obtain ⟨i, hi, hm, hmin⟩ := Classical.choose_spec (z9n I μ hI)
  refine wp_mono (pass i Γ0 a w hi) ?_
  rintro e a' w' ⟨s', h1, h2⟩
  cases e with
  | goto l' =>
   obtain ⟨e1, j, hj, hlt⟩ := h1
   have hat' := hj Γ0 a' w' h2
   have hI' : ∃ i, At X n Γ0 (I i) a' w' := ⟨j, hat'⟩
   refine ⟨e1, hI', ?_⟩
   obtain ⟨i', hi', hm', hmin'⟩ := Classical.choose_spec (z9n I μ hI')
   have := hmin' j hat'
   rw [dif_pos hI', dif_pos hI]
   omega
  | normal | exit _ | ret | panic _ | outgrown => exact ⟨s', h1, h2⟩
theorem q9K {c : Code} (h : DC X n c s fun e s' => match e with | .goto _ => False | e => Ψ e s') : DC X n (.scope c) s Ψ := by
 intro Γ0 a w hat
 refine wp_scope_straight (wp_mono (h Γ0 a w hat) ?_)
 rintro e a' w' ⟨s', h1, h2⟩
 cases e with
 | goto l' => exact h1.elim
 | normal | exit _ | ret | panic _ | outgrown => exact ⟨s', h1, h2⟩
theorem z8T {t : Nat} {c c' : Code} (hb : s.get t = .top .bool) (h1 : DC X n c s Ψ) (h2 : DC X n c' s Ψ) : DC X n (.cond (.tmp t) c c') s Ψ := by
 intro Γ0 a w hat
 have key : ∃ b, a.eval (.tmp t) = .bool b := by
  obtain ⟨Γ, _, _, _, hs, _⟩ := hat
  have := hs t
  rw [hb] at this
  obtain ⟨h1, h2⟩ := (v5 rfl).1 this
  rw [v7 (by simpa [V.ty, Ty.isAgg] using h2)] at h1
  simp only [z6] at h1
  obtain ⟨b, hv⟩ := h1.2.2 trivial
  exact ⟨b, by simp only [List.cons.injEq, and_true] at hv; exact hv⟩
 obtain ⟨b, hv⟩ := key
 refine wp_cond (t := b) hv ?_
 cases b with
 | true => exact h1 Γ0 a w hat
 | false => exact h2 Γ0 a w hat
theorem x1j {t u eb : Nat} {e : Ty} (hu : s.known u = false) (ht : s.get t = .nilc ∨ s.get t = .emp eb e) : q1i X n s (S.set { s with tk := (u, some 0) :: s.tk } (some t) (.sl eb e [] u)) := by
 rintro Γ0 a w ⟨Γ, g1, g3, c, hs, hn, hf, hA⟩
 obtain ⟨c1, p1, g2⟩ := c.U0 hu (x := none) (L := 0) (fun _ _ _ h => by cases h)
 refine ⟨Γ.U0 u none 0, g1.trans g2, g2.gl.trans g3, z1p c1 _ _, fun i => ?_, hn, hf, hA⟩
 rw [q5l]
 split
 ·rename_i e1
  cases e1
  have h0 := hs t
  obtain ⟨a0, ha⟩ : ∃ a0, a.tmps.getD t undef = .slice a0 0 0 := by
   rcases ht with h | h
   ·rw [h] at h0; exact ⟨none, W6 h0⟩
   ·rw [h] at h0
    obtain ⟨h1, _⟩ := (s6 rfl rfl).1 h0
    simp only [z6] at h1
    obtain ⟨a0, h1⟩ := h1
    exact ⟨a0, by simpa using h1⟩
  rw [ha]
  refine (s6 rfl rfl).2 ⟨?_, rfl⟩
  simp only [z6]
  exact ⟨a0, 0, 0, rfl, o9 rfl (Nat.le_refl _) (Nat.zero_le _) (by rw [Nat.zero_mul]; exact Nat.zero_le _) (.inl rfl), none, 0, by simp [G.U0, Z1], Nat.le_refl _, fun _ => rfl⟩
 ·exact (hs i).b5 p1
end
attribute [go_sem] q9B tkW F2
end Go.E
namespace Go.E
open Go
theorem C.x2h (a b : C) : C.eqb a b = C.eqb b a := by
 rw [Bool.eq_iff_iff, C.q0D, C.q0D]; exact eq_comm
theorem y2G {α : Type} : ∀ (es : List (C × α)) (c : C) (v : α) (c' : C), q1N (q4g es c v) c' = if C.eqb c' c = true then some v else q1N es c'
 | [], c, v, c' => by simp only [q4g, q1N]
 | (k, u) :: es, c, v, c' => by
  simp only [q4g]
  by_cases h : C.eqb c k = true
  ·rw [if_pos h]
   have := C.q0D.1 h
   subst this
   simp only [q1N]
   split <;> rfl
  ·rw [if_neg h]
   simp only [q1N]
   by_cases h' : C.eqb c' k = true
   ·rw [if_pos h', if_pos h']
    have := C.q0D.1 h'
    subst this
    have : C.eqb c' c = false := by
     cases hh : C.eqb c' c with
     | false => rfl
     | true => rw [C.x2h] at hh; exact absurd hh h
    rw [this]; simp
   ·rw [if_neg h', if_neg h', y2G es c v c']
noncomputable def x4C (nx : C → C) (c v : C) : C → C := fun c' => if C.eqb c' c = true then v else nx c'
structure y6S (P : Program) (et : TypeId) (τ : Ty) (es : List (C × V)) (nx : C → C) : Prop where
 look : ∀ c, q5f P et es c = .d τ (nx c)
 all : ∀ f g, V.q1f f g es = true
theorem y5l {f g : Nat → Bool} : ∀ {es : List (C × V)} {c : C} {v : V}, V.q1f f g es = true → v.ok f g = true → V.q1f f g (q4g es c v) = true
 | [], c, v, _, hv => by simp only [q4g, V.q1f, hv, Bool.and_true]
 | (k, u) :: es, c, v, h, hv => by
  simp only [V.q1f, Bool.and_eq_true] at h
  simp only [q4g]
  split
  ·simp only [V.q1f, hv, h.2, Bool.and_true]
  ·simp only [V.q1f, h.1, y5l h.2 hv, Bool.and_true]
theorem y6S.put {P : Program} {et : TypeId} {τ : Ty} {es : List (C × V)} {nx : C → C} (h : y6S P et τ es nx) (c v : C) : y6S P et τ (q4g es c (.d τ v)) (x4C nx c v) := by
 refine ⟨fun c' => ?_, fun f g => y5l (h.all f g) rfl⟩
 have := h.look c'
 unfold q5f at this ⊢
 rw [y2G]
 unfold x4C
 by_cases e : C.eqb c' c = true
 ·rw [if_pos e, if_pos e]; rfl
 ·rw [if_neg e, if_neg e]; exact this
theorem y6S.nil {P : Program} {et : TypeId} {τ : Ty} (h : u2 (ty P et) = .d τ (z0 τ)) : y6S P et τ [] (fun _ => z0 τ) := ⟨fun c => by
 unfold q5f; simp only [q1N, Option.getD_none]; exact h, fun _ _ => rfl⟩
section
variable {X : Cx} {n : Nat} {s : S} {Ψ : Exit → S → Prop}
end
attribute [go_sem] Ty.flat V.b8 V.q1c
end Go.E
namespace Go.E
open Go
mutual
def V.q11 : V → V
 | .emp eb e => .ts eb e []
 | .agg τ vs => .agg τ (V.q8H vs)
 | x => x
def V.q8H : List V → List V
 | [] => []
 | x :: xs => x.q11 :: V.q8H xs
end
theorem V.z7z (x : V) : x.q11.ty = x.ty := by cases x <;> simp [V.q11, V.ty]
theorem V.y9q (x : V) : x.q11.plain = x.plain := by cases x <;> simp [V.q11, V.plain]
theorem V.z6O : ∀ xs : List V, (V.q8H xs).length = xs.length
 | [] => rfl
 | x :: xs => by simp [V.q8H, V.z6O xs]
mutual
theorem V.y2Z : ∀ x : V, x.q11.k6 = x.k6
 | .agg τ vs => by simp only [V.q11, V.k6]; exact V.y0Q vs
 | .emp _ _ | .sl _ _ _ _ | .ptr _ _ _ | .sr _ _ _ _ _ _ _ | .mp _ | .d _ _ | .ts _ _ _ | .nilc | .cptr _ _ | .top _ | .any | .fn _ _ | .tup _ => by simp [V.q11, V.k6]
theorem V.y0Q : ∀ xs : List V, V.X4 (V.q8H xs) = V.X4 xs
 | [] => rfl
 | x :: xs => by simp only [V.q8H, V.X4, V.y2Z x, V.y0Q xs]
end
section
variable {Γ : G} {k : Key}
mutual
theorem z6.q11 : ∀ (x : V) {p : List Nat} {vs : List Value}, z6 Γ (some k) p x vs → z6 Γ (some k) p x.q11 vs
 | .emp eb e, p, vs, h => by
  simp only [z6, V.q11] at h ⊢
  obtain ⟨a, rfl⟩ := h
  exact ⟨a, 0, 0, k, rfl, rfl, o9 rfl (Nat.le_refl _) (Nat.zero_le _) (by rw [Nat.zero_mul]; exact Nat.zero_le _) (.inl rfl), .inl rfl⟩
 | .agg τ xs, p, vs, h => by
  simp only [z6, V.q11] at h ⊢
  exact ⟨h.1, h.2.1, by rw [V.z6O]; exact h.2.2.1, h.2.2.2.1, w5.q11 xs h.2.2.2.2⟩
 | .sl _ _ _ _, _, _, h | .ptr _ _ _, _, _, h | .sr _ _ _ _ _ _ _, _, _, h | .mp _, _, _, h | .d _ _, _, _, h | .ts _ _ _, _, _, h | .nilc, _, _, h | .cptr _ _, _, _, h | .top _, _, _, h | .any, _, _, h | .fn _ _, _, _, h | .tup _, _, _, h => h
theorem w5.q11 : ∀ (xs : List V) {p : List Nat} {i : Nat} {τ : Ty} {vs : List Value}, w5 Γ (some k) p i τ xs vs → w5 Γ (some k) p i τ (V.q8H xs) vs
 | [], _, _, _, _, _ => by simp only [V.q8H, w5]
 | x :: xs, _, _, _, _, h => by
  simp only [w5, V.q8H, V.z7z] at h ⊢
  obtain ⟨⟨o, f, h1, h2, h3, h4⟩, h5⟩ := h
  exact ⟨⟨o, f, h1, h2, h3, z6.q11 x h4⟩, w5.q11 xs h5⟩
end
end
theorem y9T {X : Cx} {n : Nat} {s : S} {k : Key} {x : V} (h : s.obj k = some (.box x)) : q1i X n s (s.put k (.box x.q11)) := by
 rintro Γ0 a w ⟨Γ, g1, g3, c, hs, hn, hf, hA⟩
 refine ⟨Γ, g1, g3, ⟨c.hH, c.hZ, c.hκ, fun j o hj => ?_, fun j hj => ?_, c.z6F (fun j hj => ?_), c.tok, c.tdom, c.hgl, c.hoo, c.hσ⟩, hs, hn, hf, hA⟩
 ·rw [X3] at hj
  split at hj
  ·rename_i e
   subst e; cases hj
   rcases c.obj _ _ h with ⟨hn, e, rfl⟩ | ⟨b, cells, T, h1, h2, h3, h4, h5, h6, h7, h8⟩
   ·exact .inl ⟨hn, e, rfl⟩
   exact .inr ⟨b, cells, T, by rw [V.z7z]; exact h1, h2, h3, h4, by rw [V.z7z]; exact h5, by rw [V.z7z]; exact z6.q11 x h6, by rw [V.y9q]; exact h7, by rw [V.y2Z]; exact h8⟩
  ·exact c.obj j o hj
 ·rw [X3]
  split
  ·simp
  ·exact c.dom j hj
 ·unfold S.c8 at hj ⊢
  rw [X3]
  split
  ·rename_i e; subst e; rw [h] at hj; cases hj
  ·exact hj
attribute [go_sem] V.q11 V.q8H
end Go.E
namespace Go.E
open Go
theorem x3e {X : Cx} {n : Nat} {s s' : S} {Γ0 Γ : G} {a : Act} {w : World} (g1 : GLe Γ0 Γ) (g3 : Γ.gl = X.gl) (c : y9 Γ w s) (hs : q3A Γ s a.tmps) (hn : a.tmps.size = n) (hf : a.defers = []) (hAok : AOk s.A) (hA : s'.A = s.A) (hloc : q5v s s'.loc) (hlok : q1O (Z7 s'.loc) (F2 s'.tk) s'.loc = true) (hg : z1r s'.loc s.A s.loc)
  (htk : tkW s s'.tk) (henv : q9B (Z7 s'.loc) (F2 s'.tk) s s'.env) : GLe Γ0 (Γ.part (Z7 s'.loc) (F2 s'.tk)) ∧ (Γ.part (Z7 s'.loc) (F2 s'.tk)).gl = X.gl ∧ y9 (Γ.part (Z7 s'.loc) (F2 s'.tk)) w s' ∧ q3A (Γ.part (Z7 s'.loc) (F2 s'.tk)) s' a.tmps ∧ a.tmps.size = n ∧ a.defers = [] ∧ AOk s'.A := by
 have sub : Sub Γ (Γ.part (Z7 s'.loc) (F2 s'.tk)) (Z7 s'.loc) (F2 s'.tk) :=
  ⟨rfl, rfl, rfl, rfl, rfl, fun _ => rfl, fun n h => by simp [G.part, h], fun t h => by simp [G.part, h], fun _ _ _ _ _ => rfl⟩
 refine ⟨⟨g1.H, g1.Z, g1.ZH, g1.g, g1.gl, g1.oo, g1.σ, g1.gn⟩, g3, c.sub sub rfl (fun n h => by simp [G.part, h]) hA hAok hloc hlok hg (fun b o sz h => ⟨o, h⟩) (fun t L h => ?_) (fun t h => ?_), fun i => ?_, hn, hf, by rw [hA]; exact hAok⟩
 ·unfold S.live q0n at h
  cases hl : look s'.tk t with
  | none => simp [hl] at h
  | some x =>
   cases x with
   | none => simp [hl] at h
   | some M =>
    simp [hl] at h; subst h
    have hlive : s.live t = some M := z8X htk hl
    obtain ⟨x, a1, a2⟩ := c.tok t M hlive
    exact ⟨x, by simp [G.part, F2, hl, a1], fun b pos sz hx => a2 b pos sz hx⟩
 ·cases hh : F2 s'.tk t with
  | true => exact hh
  | false => simp [G.part, hh] at h
 ·cases hl : look s'.env i with
  | none => simp [S.get, hl, z7]
  | some x =>
   obtain ⟨e1, e2, e3⟩ := z6M henv hl
   have hget : s'.get i = x := by simp [S.get, hl]
   rw [hget]
   by_cases hx : x = .any
   ·subst hx; trivial
   ·have hr := hs i
    have e3 := e3.resolve_left hx
    refine z7.sub sub e2 ?_
    cases hsi : s.get i with
    | any =>
     rw [hsi] at e1
     cases x <;> simp [V.k8, Q3] at e1 hx
    | tup us =>
     rw [hsi] at e1 hr
     cases x <;> simp [V.k8, Q3] at e1 hx
     subst e1; exact hr
    | _ =>
     rw [hsi] at e1 hr e3
     have hpl : z6 Γ none [] _ (a.tmps.getD i undef).cells.toList ∧ _ := hr
     obtain ⟨r1, r2⟩ := z6.k8 x _ e1 hpl.1
     have hxp := V.q4D r1 hx
     exact (v5 hxp).2 ⟨r1, by rw [e3]; exact hpl.2⟩
theorem y6U {X : Cx} {n : Nat} {s s' : S} {t j : Nat} {τ : Ty} {x : V} {cc : C} (hslot : s.get t = .ptr (.l j) [] τ) (hobj : s.obj (.l j) = some (.box x)) (hcl : Q3 x = some cc) (hτ : x.ty = τ) (hj : Z7 s'.loc j = false)
  (hA : s'.A = s.A) (hloc : q5v s s'.loc) (hlok : q1O (Z7 s'.loc) (F2 s'.tk) s'.loc = true) (hg : z1r s'.loc s.A s.loc)
  (htk : tkW s s'.tk) (henv : q9B (Z7 s'.loc) (F2 s'.tk) s s'.env) : q1i X n s (s'.set (some t) (.cptr τ cc)) := by
 rintro Γ0 a w ⟨Γ, g1, g3, c, hs, hn, hf, hAok⟩
 obtain ⟨p1, p2, p3, p4, p5, p6, p7⟩ := x3e (X := X) (n := n) (s' := s') g1 g3 c hs hn hf hAok hA hloc hlok hg htk henv
 have hst := hs t
 rw [hslot] at hst
 obtain ⟨b, τ0, off, e1, i2, hv⟩ := q1t hst
 obtain ⟨b2, cells, T, i1, e2, e3, e4, e5, e6, e7, e8⟩ := c.own e1 hobj
 rw [e1] at i1; cases i1
 simp only [Ty.walk, Option.some.injEq, Prod.mk.injEq] at i2
 obtain ⟨rfl, _⟩ := i2
 have hdl : ∀ k o, s'.obj k = some o → s.c8 k = true → o.q0c = true := by
  intro k o ho hd
  unfold S.obj Z8 at ho
  cases hl : z8 s'.loc k with
  | some o1 =>
   rw [hl] at ho; cases ho
   obtain ⟨o0, h1, h2⟩ := z1P hloc hl
   rw [Y9 h1] at hd
   exact O.y2P h2 hd
  | none =>
   cases k with
   | l n => rw [hl] at ho; cases ho
   | g k =>
    have := z7k hA hg hl
    unfold S.c8 at hd
    rw [← this] at hd
    have h2 : S.obj s' (.g k) = some o := by unfold S.obj Z8; exact ho
    rw [h2] at hd; exact hd
 have hno : ∀ k τ o, (Γ.part (Z7 s'.loc) (F2 s'.tk)).ι k = some (b, τ) → s'.obj k = some o → o.q0c = true := by
  intro k τ' o hk hko
  have hk' : Γ.ι k = some (b, τ') ∧ k ≠ .l j := by
   cases k with
   | g k => exact ⟨hk, by simp⟩
   | l m =>
    simp only [G.part] at hk
    split at hk
    ·rename_i hm
     refine ⟨hk, fun e => ?_⟩
     cases e; rw [hj] at hm; cases hm
    ·cases hk
  rcases c.inj k (.l j) b _ _ hk'.1 e1 with e | ⟨e | e, _⟩
  ·exact absurd e hk'.2
  ·exact hdl k o hko e
  ·rw [Y9 hobj] at e; cases e
 obtain ⟨q1, q2, q3⟩ := p3.freeze e4 e2 hno
 have hrc : z9 Γ.H x.ty (chunk cells.toList 0 x.ty.size) cc := q3u _ e6 hcl
 refine ⟨_, ⟨Hp.le_trans p1.H q3, p1.Z, fun b' hb' => ?_, p1.g, p1.gl, p1.oo, p1.σ, p1.gn⟩, p2, z1p q1 _ _, fun i => ?_, p5, p6, p7⟩
 ·refine (U8 _ _ fun e => ?_).trans (p1.ZH b' hb')
  subst e
  exact hb' (by rw [← g1.Z]; exact e3)
 ·rw [q5l]
  split
  ·rename_i e
   cases e
   rw [hv]
   refine q1u (l := cells.toList) (j5 _ _ _) (by rw [← hτ]; simpa using e5) ?_
   rw [← hτ]
   exact hrc.mono q3
  ·exact (p4 i).b5 q2
theorem C.x11 : ∀ (cs : List C) (n : Nat), cs.length = n → cs = (List.range n).map fun i => cs.getD i .nil := by
 intro cs n h
 subst h
 refine List.ext_getElem (by simp) fun i h1 h2 => ?_
 simp [List.getElem?_eq_getElem h1]
theorem C.y9S {sz : Nat} {os : List Nat} {fs : List Ty} {c : C} (h : C.wf (.struct sz os fs) c) : .agg ((List.range fs.length).map c.get) = c := by
 simp only [C.wf] at h
 obtain ⟨h1, h2⟩ := h
 have hl := C.z9G h2
 rw [h1]
 congr 1
 rw [← hl]
 exact (C.x11 c.elems _ rfl).symm
end Go.E
namespace Go.E
open Go Go.ChangeShapes Go.WideShapes
def q7Z (w : World) : Hp := fun b => match w.heap[b]? with
 | some (.cells c _ _) => some c.toList
 | _ => none
theorem z6G {w : World} {a : Addr} {v : Value} (h : w.cell? a = some v) : ∃ l, q7Z w a.block = some l ∧ l[a.off]? = some v ∧ a.spot = none := by
 unfold World.cell? at h
 unfold q7Z
 split at h
 ·rename_i c _ _ hc
  split at h
  ·cases h
  ·rename_i hs
   refine ⟨c.toList, by simp [hc], by simpa using h, ?_⟩
   cases hh : a.spot <;> simp_all
 ·cases h
mutual
def Ty.dat : Ty → Bool
 | .int _ | .bool | .str => true
 | .slice _ e => e.dat && decide (0 < e.size)
 | .arr _ e => e.dat && decide (0 < e.size)
 | .struct sz os fs => Ty.y6E fs && decide (os.length = fs.length) && (List.range sz).all fun i => (List.range fs.length).any fun j => match os[j]?, fs[j]? with | some o, some f => decide (o ≤ i) && decide (i < o + f.size) | _, _ => false
 | _ => false
def Ty.y6E : List Ty → Bool
 | [] => true
 | f :: fs => f.dat && Ty.y6E fs
end
theorem y6D : ∀ {fs : List Ty} {i : Nat} {f : Ty}, Ty.y6E fs = true → fs[i]? = some f → f.dat = true
 | [], _, _, _, h => by simp at h
 | g :: fs, 0, f, hd, h => by simp [Ty.y6E] at hd h; rw [← h]; exact hd.1
 | g :: fs, i + 1, f, hd, h => by simp [Ty.y6E] at hd; exact y6D hd.2 (by simpa using h)
theorem q7W {α β : Type} {f : α → Option β} : ∀ {l : List α} {r : List β}, l.mapM f = some r → ∀ i : Nat, l[i]?.bind f = r[i]?
 | [], r, h, i => by simp at h; subst h; simp
 | x :: l, r, h, i => by
  rw [List.mapM_cons] at h
  cases hx : f x with
  | none => simp [hx] at h
  | some y =>
   cases hl : l.mapM f with
   | none => simp [hx, hl] at h
   | some ys =>
    simp [hx, hl] at h
    subst h
    cases i with
    | zero => simp [hx]
    | succ i => simpa using q7W hl i
theorem z03 {α β : Type} {f : α → Option β} : ∀ {l : List α} {r : List β}, l.mapM f = some r → r.length = l.length
 | [], r, h => by simp at h; subst h; rfl
 | x :: l, r, h => by
  rw [List.mapM_cons] at h
  cases hx : f x with
  | none => simp [hx] at h
  | some y =>
   cases hl : l.mapM f with
   | none => simp [hx, hl] at h
   | some ys =>
    simp [hx, hl] at h
    subst h
    simp [z03 hl]
theorem z8V {w : World} {base : Nat} {a : Addr} {n : Nat} {cs : List Value} (h : w.cells? base a n = some cs) (hn : 0 < n) :
  ∃ l, q7Z w a.block = some l ∧ a.spot = none ∧ a.off + n ≤ l.length ∧ cs = chunk l a.off n := by
 unfold World.cells? at h
 split at h
 ·have hl := z03 h
  simp at hl
  have hg := q7W h
  have h0 := hg 0
  cases hc : cs[0]? with
  | none => simp at hc; subst hc; simp at hl; omega
  | some v0 =>
   rw [hc] at h0
   simp [List.getElem?_range hn] at h0
   have e0 : a.add 0 = a := by simp [Addr.add]
   rw [e0] at h0
   obtain ⟨l, h1, h2, h3⟩ := z6G h0
   refine ⟨l, h1, h3, ?_, ?_⟩
   ·have hlast := hg (n - 1)
    cases hc' : cs[n - 1]? with
    | none => simp at hc'; omega
    | some v1 =>
     rw [hc'] at hlast
     simp [List.getElem?_range (show n - 1 < n by omega)] at hlast
     obtain ⟨l', g1, g2, _⟩ := z6G hlast
     have eb : (a.add (n - 1)).block = a.block := by unfold Addr.add; split <;> rfl
     have eo : (a.add (n - 1)).off = a.off + (n - 1) := by unfold Addr.add; split <;> simp_all
     rw [eb, h1] at g1; cases g1
     rw [eo] at g2
     have := (List.getElem?_eq_some_iff.1 g2).1
     omega
   ·apply List.ext_getElem?
    intro i
    by_cases hi : i < n
    ·have := hg i
     simp [List.getElem?_range hi] at this
     cases hc' : cs[i]? with
     | none => simp at hc'; omega
     | some v1 =>
      rw [hc'] at this
      obtain ⟨l', g1, g2, _⟩ := z6G this
      have eb : (a.add i).block = a.block := by unfold Addr.add; split <;> rfl
      have eo : (a.add i).off = a.off + i := by unfold Addr.add; split <;> simp_all
      rw [eb, h1] at g1; cases g1
      rw [eo] at g2
      simp [chunk, List.getElem?_take, hi, g2]
    ·rw [List.getElem?_eq_none (by omega)]
     simp [chunk, List.getElem?_take, hi]
 ·cases h
theorem q3Q {a b : List Nat} (h : (a ++ b).all (· ≤ reachBytes) = true) : a.all (· ≤ reachBytes) = true ∧ b.all (· ≤ reachBytes) = true := by
 simpa [List.all_append] using h
theorem q7M {H : Type} {P : Program} {e : TypeId} : ∀ {l : List (DataW H)} {i : Nat} {d : DataW H}, l[i]? = some d → (DataW.weightsAll P e l).all (· ≤ reachBytes) = true → (d.weights P e).all (· ≤ reachBytes) = true
 | [], i, d, h, _ => by simp at h
 | x :: l, 0, d, h, hw => by
  simp at h; subst h
  simp only [DataW.weightsAll] at hw
  exact (q3Q hw).1
 | x :: l, i + 1, d, h, hw => by
  simp only [DataW.weightsAll] at hw
  exact q7M (by simpa using h) (q3Q hw).2
theorem q6B {H : Type} {P : Program} : ∀ {ts : List TypeId} {l : List (DataW H)} {i : Nat} {t : TypeId} {d : DataW H}, ts[i]? = some t → l[i]? = some d → (DataW.weightsEach P ts l).all (· ≤ reachBytes) = true → (d.weights P t).all (· ≤ reachBytes) = true
 | [], _, i, t, d, h, _, _ => by simp at h
 | _ :: _, [], i, t, d, _, h, _ => by simp at h
 | t :: ts, x :: l, 0, t', d, ht, h, hw => by
  simp at ht h; subst ht; subst h
  simp only [DataW.weightsEach] at hw
  exact (q3Q hw).1
 | t :: ts, x :: l, i + 1, t', d, ht, h, hw => by
  simp only [DataW.weightsEach] at hw
  exact q6B (by simpa using ht) (by simpa using h) (q3Q hw).2
theorem z4J {vs : List Value} (h : ∀ i : Nat, i < vs.length → ∃ o m, o ≤ i ∧ i < o + m ∧ q1a (chunk vs o m)) : q1a vs := by
 intro v hv
 obtain ⟨i, hi, rfl⟩ := List.getElem_of_mem hv
 obtain ⟨o, m, h1, h2, h3⟩ := h i hi
 refine h3 _ ?_
 refine List.mem_of_getElem? (i := i - o) ?_
 simp only [chunk, List.getElem?_take, List.getElem?_drop]
 rw [if_pos (by omega), show o + (i - o) = i by omega, List.getElem?_eq_getElem hi]
mutual
def cOf {H : Type} : DataW H → C
 | .lit (.bool b) => .bool b
 | .lit (.int _ n) => .int n
 | .lit (.string l) => .str l
 | .nil => .slice []
 | .slice es _ => .slice (z2y es)
 | .agg ps => .agg (z2y ps)
 | _ => .nil
def z2y {H : Type} : List (DataW H) → List C
 | [] => []
 | d :: ds => cOf d :: z2y ds
end
theorem z4d {H : Type} : ∀ {ds : List (DataW H)} {i : Nat}, (z2y ds)[i]? = (ds[i]?).map cOf
 | [], i => by simp [z2y]
 | d :: ds, 0 => by simp [z2y]
 | d :: ds, i + 1 => by simp [z2y, z4d]
theorem z4c {H : Type} : ∀ {ds : List (DataW H)}, (z2y ds).length = ds.length
 | [] => rfl
 | d :: ds => by simp [z2y, z4c]
section
variable {H : Type} {enc : TypeId × Value → H} {P : Program} {w : World}
theorem q5A (hP : v9 P = true) {base : Nat} {held : Bool} {sp : Nat → Bool} (hsp : ∀ b, sp b = true) : ∀ (fuel f : Nat) {t : TypeId} {cs : List Value} {d : DataW H} {ps : List MemPlace}, t < P.types.size → (tyF P f t).dat = true →
  DataW.trod enc P w base sp held fuel t cs = some (d, ps) → (d.weights P t).all (· ≤ reachBytes) = true → z9 (q7Z w) (tyF P f t) cs (cOf d)
 | 0, f, t, cs, d, ps, _, _, h, _ => by simp [DataW.trod] at h
 | fuel + 1, 0, t, cs, d, ps, _, hf, h, _ => by simp [tyF, Ty.dat] at hf
 | fuel + 1, f + 1, t, cs, d, ps, ht, hf, h, hw => by
  have hok := q4H hP ht
  unfold okT at hok
  unfold tyF at hf ⊢
  rw [if_pos ht] at hf ⊢
  cases hu : P.underlying t with
  | none => simp [hu, Ty.dat] at hf
  | some desc =>
   simp only [hu] at hf hok ⊢
   cases desc with
   | bool =>
    unfold DataW.trod at h
    simp only [hu] at h
    split at h <;> simp_all
    rw [← h.1]
    simp [z9, cOf]
   | int k =>
    unfold DataW.trod at h
    simp only [hu] at h
    split at h <;> simp_all
    obtain ⟨⟨rfl, hh⟩, hd, _⟩ := h
    simp [Lit.wf] at hh
    rw [← hd]
    simp [z9, cOf]; omega
   | string =>
    unfold DataW.trod at h
    simp only [hu] at h
    split at h <;> simp_all
    obtain ⟨hh, rfl, _⟩ := h
    simp [DataW.weights, reachBytes] at hw
    simp only [z9, cOf]
    exact ⟨_, rfl, by simp, by simp; omega⟩
   | slice e =>
    simp only [Ty.dat, Bool.and_eq_true, decide_eq_true_eq] at hf
    simp only [Bool.and_eq_true, beq_iff_eq, decide_eq_true_eq] at hok
    have hsz : (tyF P f e).size = P.cellsOf e := Q1 hP f e
    unfold DataW.trod at h
    simp only [hu] at h
    split at h <;> try (simp_all; done)
    ·simp only [Option.some.injEq, Prod.mk.injEq] at h
     rw [← h.1]
     simp only [z9, cOf]
     exact ⟨none, 0, 0, [], rfl, rfl, rfl, Nat.le_refl _, by simp [maxLen], by simp, .inl rfl⟩
    ·rename_i e' a len cap he
     simp at he; subst he
     split at h
     ·rename_i hc
      simp only [Option.bind_eq_some_iff, Option.map_eq_some_iff] at h
      obtain ⟨elems, he1, rest, he2, he3⟩ := h
      simp only [Prod.mk.injEq] at he3
      obtain ⟨rfl, _⟩ := he3
      simp only [DataW.weights, hu, List.all_cons, Bool.and_eq_true, decide_eq_true_eq] at hw
      obtain ⟨hw1, hw2⟩ := hw
      obtain ⟨hw2, hw3⟩ := q3Q hw2
      have hl := z03 he1
      simp at hl
      have hbound : len * P.bytesOf e ≤ 140737488355328 := by
       have : len * P.bytesOf e ≤ (elems.length + rest.length) * P.bytesOf e := Nat.mul_le_mul_right _ (by omega)
       simp [reachBytes] at hw1
       omega
      by_cases hz : len = 0
      ·subst hz
       have : elems = [] := by cases elems <;> simp_all
       subst this
       simp only [z9, cOf, List.map_nil, z2y]
       exact ⟨some a, 0, cap, [], rfl, rfl, rfl, Nat.zero_le _, hc.2.2, by simp, .inl rfl⟩
      ·have key : ∀ i, i < len → ∃ l, q7Z w a.block = some l ∧ a.spot = none ∧ (a.off + i * P.cellsOf e) + P.cellsOf e ≤ l.length ∧ ∀ x, elems[i]? = some x → z9 (q7Z w) (tyF P f e) (chunk l (a.off + i * P.cellsOf e) (P.cellsOf e)) (cOf x.1) := by
        intro i hi
        have hg := q7W he1 i
        rw [List.getElem?_range hi] at hg
        have hi' : i < elems.length := by omega
        rw [List.getElem?_eq_getElem hi'] at hg
        simp only [Option.bind_some, Option.bind_eq_some_iff] at hg
        obtain ⟨cs, hc1, hc2⟩ := hg
        obtain ⟨l, q1, q2, q3, q4⟩ := z8V hc1 (by rw [← hsz]; exact hf.2)
        have eb : (a.add (i * P.cellsOf e)).block = a.block := by unfold Addr.add; split <;> rfl
        have eo : (a.add (i * P.cellsOf e)).off = a.off + i * P.cellsOf e := by unfold Addr.add; split <;> simp_all
        have h0 : a.spot = none := by
         have hg0 := q7W he1 0
         rw [List.getElem?_range (by omega), List.getElem?_eq_getElem (by omega)] at hg0
         simp only [Option.bind_some, Option.bind_eq_some_iff] at hg0
         obtain ⟨cs0, hc01, _⟩ := hg0
         obtain ⟨_, _, q, _⟩ := z8V hc01 (by rw [← hsz]; exact hf.2)
         simpa [Addr.add] using q
        rw [eb] at q1; rw [eo] at q3 q4
        subst q4
        have hcr := q5A hP hsp fuel f hok.2 hf.1 hc2 (q7M (i := i) (by simp [List.getElem?_map, List.getElem?_eq_getElem hi']) hw2)
        exact ⟨l, q1, h0, q3, fun x hx => by rw [List.getElem?_eq_getElem hi'] at hx; cases hx; exact hcr⟩
       obtain ⟨l, hl1, hl2, _, _⟩ := key 0 (by omega)
       simp only [z9, cOf]
       refine ⟨some a, len, cap, _, rfl, rfl, by simp [z4c, hl], hc.2.1, hc.2.2, hbound, .inr ⟨a.block, a.off, l, ?_, hl1, ?_, fun i c hi => ?_⟩⟩
       ·cases a; simp_all
       ·rw [hsz]
        obtain ⟨l', q1, _, q3, _⟩ := key (len - 1) (by omega)
        rw [hl1] at q1; cases q1
        have : len * P.cellsOf e = (len - 1) * P.cellsOf e + P.cellsOf e := by
         rw [← Nat.succ_mul]; congr 1; omega
        omega
       ·simp only [z4d, List.getElem?_map, Option.map_map, Option.map_eq_some_iff] at hi
        obtain ⟨x, hx, rfl⟩ := hi
        have hi' : i < len := by
         have := (List.getElem?_eq_some_iff.1 hx).1
         omega
        rw [hsz]
        obtain ⟨l', q1, _, _, q4⟩ := key i hi'
        rw [hl1] at q1; cases q1
        exact q4 x hx
     ·cases h
   | array n e =>
    simp only [Ty.dat, Bool.and_eq_true, decide_eq_true_eq] at hf
    simp only [Bool.and_eq_true, beq_iff_eq, decide_eq_true_eq] at hok
    have hsz : (tyF P f e).size = P.cellsOf e := Q1 hP f e
    unfold DataW.trod at h
    simp only [hu] at h
    split at h
    ·rename_i hlen
     simp only [Option.map_eq_some_iff] at h
     obtain ⟨elems, he1, he3⟩ := h
     simp only [Prod.mk.injEq] at he3
     obtain ⟨rfl, _⟩ := he3
     simp only [DataW.weights, hu] at hw
     have hl := z03 he1
     simp at hl
     have key : ∀ i x, elems[i]? = some x → z9 (q7Z w) (tyF P f e) (chunk cs (i * P.cellsOf e) (P.cellsOf e)) (cOf x.1) := by
      intro i x hx
      have hg := q7W he1 i
      have hi : i < n := by have := (List.getElem?_eq_some_iff.1 hx).1; omega
      rw [List.getElem?_range hi, hx] at hg
      simp only [Option.bind_some] at hg
      exact q5A hP hsp fuel f hok.2 hf.1 hg (q7M (i := i) (by simp [List.getElem?_map, hx]) hw)
     simp only [z9, cOf]
     refine ⟨_, rfl, by simp [z4c, hl], by rw [hsz, hlen, hok.1], z4J fun i hi => ?_, fun i c hi => ?_⟩
     ·have hi2 : i / P.cellsOf e < n := by
       rw [Nat.div_lt_iff_lt_mul (by omega)]
       omega
      have hc := key (i / P.cellsOf e) _ (List.getElem?_eq_getElem (by omega))
      refine ⟨_, _, ?_, ?_, hc.one⟩
      ·exact Nat.div_mul_le_self _ _
      ·have := Nat.lt_div_mul_add (a := i) (b := P.cellsOf e) (by omega)
       omega
     ·simp only [z4d, List.getElem?_map, Option.map_map, Option.map_eq_some_iff] at hi
      obtain ⟨x, hx, rfl⟩ := hi
      rw [hsz]
      exact key i x hx
    ·cases h
   | struct fs =>
    simp only [Ty.dat, Bool.and_eq_true, decide_eq_true_eq, List.all_eq_true, List.any_eq_true, List.mem_range] at hf
    simp only [List.all_eq_true, Bool.and_eq_true, decide_eq_true_eq] at hok
    obtain ⟨⟨hf1, hf2⟩, hf3⟩ := hf
    unfold DataW.trod at h
    simp only [hu] at h
    split at h
    ·rename_i hlen
     simp only [Option.map_eq_some_iff] at h
     obtain ⟨elems, he1, he3⟩ := h
     simp only [Prod.mk.injEq] at he3
     obtain ⟨rfl, _⟩ := he3
     simp only [DataW.weights, hu] at hw
     have hl := z03 he1
     have key : ∀ (i : Nat) g x, fs.toList[i]? = some g → elems[i]? = some x → z9 (q7Z w) (tyF P f g.type) (chunk cs g.offset (P.cellsOf g.type)) (cOf x.1) := by
      intro i g x hi he
      have hg := q7W he1 i
      rw [hi, he] at hg
      simp only [Option.bind_some] at hg
      exact q5A hP hsp fuel f (hok g (List.mem_of_getElem? hi)).1 (y6D (i := i) hf1 (by simp only [List.getElem?_map, hi, Option.map_some])) hg
        (q6B (i := i) (by simp only [List.getElem?_map, hi, Option.map_some]) (by simp only [List.getElem?_map, he, Option.map_some]) hw)
     simp only [z9, cOf]
     refine ⟨_, rfl, hlen, z4J fun i hi => ?_, j7.q8Y (by simp [z4c, hl]) fun i F c hF hc => ?_⟩
     ·obtain ⟨j, hj, hj2⟩ := hf3 i (by omega)
      split at hj2
      ·rename_i o F ho hF
       simp at hj2
       simp only [List.getElem?_map, Option.map_eq_some_iff] at ho hF
       obtain ⟨g, hg, rfl⟩ := ho
       obtain ⟨g', hg', rfl⟩ := hF
       rw [hg] at hg'; cases hg'
       have hjl := (List.getElem?_eq_some_iff.1 hg).1
       have hc := key j g _ hg (List.getElem?_eq_getElem (by omega))
       rw [Q1 hP] at hj2
       exact ⟨_, _, hj2.1, hj2.2, hc.one⟩
      ·cases hj2
     ·simp only [List.getElem?_map, z4d, Option.map_map, Option.map_eq_some_iff] at hF hc
      obtain ⟨g, hg, rfl⟩ := hF
      obtain ⟨x, hx, rfl⟩ := hc
      refine ⟨g.offset, by simp only [List.getElem?_map, hg, Option.map_some], ?_, ?_⟩
      ·rw [Q1 hP, hlen]
       exact (hok g (List.mem_of_getElem? hg)).2
      ·rw [Q1 hP]
       exact key i g x hg hx
    ·cases h
   | _ => simp [Ty.dat] at hf
end
end Go.E
namespace Go.E
open Go Go.ChangeShapes Go.WideShapes Go.RowKit
def z8Z (P : Program) : Bool := (List.range P.types.size).all fun t => match P.underlying t with
 | some (.slice e) => decide (0 < P.cellsOf e)
 | _ => true
def y2l (w : World) (gl : Nat → Option (Ty × C)) : Prop := ∀ g τ c, gl g = some (τ, c) → ∃ l, q7Z w g = some l ∧ τ.size ≤ l.length ∧ z9 (q7Z w) τ (chunk l 0 τ.size) c
def y55 (P : Program) : List (String × DataW Unit) → Nat → Option (Ty × C)
 | [], _ => none
 | (n, d) :: r, g => if P.globalNamed n = some g then (match (P.globals[g]?).map (·.type) with | some t => some (ty P t, cOf d) | none => none) else y55 P r g
def y0x (P : Program) (l : List (String × DataW Unit)) : Bool := l.all fun x => match P.globalNamed x.1 with
 | some g => match (P.globals[g]?).map (·.type) with
  | some t => decide (t < P.types.size) && (ty P t).dat && (x.2.weights P t).all (· ≤ reachBytes)
  | none => false
 | none => false
theorem y2R {P : Program} (hP : v9 P = true) {w : World} : ∀ {l : List (String × DataW Unit)} {ps : List MemPlace}, y0x P l = true → DataW.LaidVars P w l ps → y2l w (y55 P l)
 | [], _, _, _ => fun g τ c h => by simp [y55] at h
 | (n, d) :: r, ps, hk, h => by
  obtain ⟨g0, t, cs, fuel, p, q, hg, ht, hv, hd, hr, _⟩ := h
  simp only [y0x, List.all_cons, Bool.and_eq_true, hg, ht, decide_eq_true_eq] at hk
  obtain ⟨⟨⟨k1, k2⟩, k3⟩, k4⟩ := hk
  intro g τ c h
  simp only [y55] at h
  split at h
  ·rename_i e
   rw [hg] at e; cases e
   rw [ht] at h
   simp at h
   obtain ⟨rfl, rfl⟩ := h
   have hrep := q5A hP (fun _ => rfl) fuel 12 k1 k2 hd k3
   simp only [World.var?, hg, Option.bind_some] at hv
   split at hv
   ·rename_i c T fr hc
    cases hv
    have hl := hrep.length
    refine ⟨cs.toList, by simp [q7Z, hc], by show (tyF P 12 t).size ≤ _; omega, ?_⟩
    have : chunk cs.toList 0 (ty P t).size = cs.toList := by
     show chunk cs.toList 0 (tyF P 12 t).size = _
     rw [← hl]; exact q6x _
    rw [this]
    exact hrep
   ·cases hv
  ·exact y2R hP k4 hr g τ c h
theorem x19 {P : Program} (hP : v9 P = true) {w : World} {l : List (String × DataW Unit)} (hk : y0x P l = true) (hn : (l.all fun x => x.2.handleName?.isNone) = true) (h : laidMetH P l w) : y2l w (y55 P l) := by
 rw [MakeChecks.laidMetH_plain _ _ _ hn] at h
 obtain ⟨ps, h1, _⟩ := h
 exact y2R hP hk h1
def G.start (w : World) (gl : Nat → Option (Ty × C)) : G :=
 { H := q7Z w, Z := fun b => w.heap[b]?, ι := fun _ => none, τ := fun _ => none, κ := fun _ => none, gl := gl, oo := oof w, σ := fun _ => none }
theorem y0g (n : Nat) : ∀ (ts : List Ty) (cs : List C), q2z n (List.zipWith V.d ts cs) = []
 | [], _ => by simp [q2z]
 | _ :: _, [] => by simp [q2z]
 | t :: ts, c :: cs => by simp [q2z, V.q05, y0g (n + 1) ts cs]
theorem y7S (n : Nat) : ∀ (ts : List Ty) (cs : List C), U1 n (List.zipWith V.d ts cs) = List.zipWith V.d ts cs
 | [], _ => by simp [U1]
 | _ :: _, [] => by simp [U1]
 | t :: ts, c :: cs => by simp [U1, V.slot, y7S (n + 1) ts cs]
theorem y9y {w : World} {gl : Nat → Option (Ty × C)} (h : y2l w gl) (ts : List Ty) (cs : List C) : y9 (G.start w gl) w (S.start (List.zipWith V.d ts cs) fun _ => none) := by
 refine ⟨fun b l hb => ?_, fun b o hb => hb, fun b o sz hb => by simp [G.start] at hb, fun k o hk => ?_, fun k hk => absurd rfl hk, fun k k' b τ τ' hk => by simp [G.start] at hk, fun t L ht => ?_, fun t ht => absurd rfl ht, h, rfl, fun b sz hb => by simp [G.start] at hb⟩
 ·simp only [G.start, q7Z] at hb
  split at hb
  ·rename_i c T fr hc
   cases hb
   exact ⟨c, T, fr, [], hc, by simp⟩
  ·cases hb
 ·cases k <;> simp [S.start, S.obj, Z8, z8] at hk
 ·simp [S.start, S.live, y0g, q0n, look] at ht
theorem z16 {H : Type} {enc : TypeId × Value → H} {P : Program} {w : World} {base : Nat} {sp : Nat → Bool} {held : Bool} : ∀ {ts : List TypeId} {vs : List Value} {ds : List (DataW H)} {ps : List MemPlace},
  DataW.TrodAll enc P w base sp held ts vs ds ps → vs.length = ts.length ∧ ds.length = ts.length
 | [], vs, ds, ps, h => by obtain ⟨rfl, rfl, rfl⟩ := trodAll_nil h; simp
 | t :: ts, vs, ds, ps, h => by
  obtain ⟨v, vs, d, ds, p, q, rfl, rfl, rfl, h1, h2⟩ := trodAll_cons h
  have := z16 h2
  simp [this]
theorem z75 {H : Type} {enc : TypeId × Value → H} {P : Program} {w : World} {base : Nat} {sp : Nat → Bool} {held : Bool} : ∀ {ts : List TypeId} {vs : List Value} {ds : List (DataW H)} {ps : List MemPlace} {i : Nat} {t : TypeId} {v : Value} {d : DataW H},
  DataW.TrodAll enc P w base sp held ts vs ds ps → ts[i]? = some t → vs[i]? = some v → ds[i]? = some d → ∃ p, DataW.Trod enc P w base sp held t v d p
 | [], vs, ds, ps, i, t, v, d, h, ht, _, _ => by simp at ht
 | t :: ts, vs, ds, ps, i, t', v', d', h, ht, hv, hd => by
  obtain ⟨v, vs, d, ds, p, q, rfl, rfl, rfl, h1, h2⟩ := trodAll_cons h
  cases i with
  | zero => simp at ht hv hd; subst ht; subst hv; subst hd; exact ⟨p, h1⟩
  | succ i => exact z75 h2 (by simpa using ht) (by simpa using hv) (by simpa using hd)
theorem z5r {H : Type} {enc : TypeId × Value → H} {P : Program} (hl : laidOutB P = true) (hm : mapsRowed P = true) (hz : z8Z P = true) {w w' : World} (hh : ∀ b, b < w.heap.size → w'.heap[b]? = w.heap[b]?) {sp : Nat → Bool} :
  ∀ {ts : List TypeId} {vs : List Value} {ds : List (DataW H)} {ps : List MemPlace}, (∀ t ∈ ts, t < P.types.size) → DataW.TrodAll enc P w 0 (fun _ => true) true ts vs ds ps → (∀ p ∈ ps, sp p.block = true) → DataW.TrodAll enc P w' 0 sp true ts vs ds ps
 | [], vs, ds, ps, _, h, _ => by obtain ⟨rfl, rfl, rfl⟩ := trodAll_nil h; exact trodAll_mk0
 | t :: ts, vs, ds, ps, hts, h, hs => by
  have hlt := DataW.TrodAll.lt h
  obtain ⟨v, vs, d, ds, p, q, rfl, rfl, rfl, ⟨n, h1⟩, h2⟩ := trodAll_cons h
  refine ⟨p, q, ⟨n, DataW.trod_stays (kids_rows hl hm) (fun {t e} ht hu => ?_) (fun h => by cases h) (hts t (by simp)) h1 (fun x hx => ?_) (fun x hx => hs x (by simp [hx]))⟩,
   z5r hl hm hz hh (fun t ht => hts t (by simp [ht])) h2 (fun x hx => hs x (by simp [hx])), rfl⟩
  ·have := List.all_eq_true.1 hz t (List.mem_range.2 ht)
   simp only [hu] at this
   simpa using this
  ·have := hlt x (by simp; exact .inl hx)
   cases x with
   | cell b off => simp only [World.sameAt, World.cell?]; rw [hh b this]
   | map b => simp only [World.sameAt]; rw [hh b this]
theorem y5n {P : Program} {W : World} {base : Nat} {t : TypeId} {v : Value} (hd : (ty P t).dat = true) (h : Value.okWide P W .any base t v) : u7 v = (ty P t).isAgg := by
 unfold ty tyF at hd ⊢
 split at hd
 ·rename_i ht
  rw [if_pos ht]
  unfold Value.okWide at h
  cases hu : P.underlying t with
  | none => simp [hu, Ty.dat] at hd
  | some d =>
   rw [hu] at h
   cases d <;> simp only [hu, Ty.dat, Ty.isAgg, Bool.false_eq_true] at hd h ⊢
   case struct => obtain ⟨cs, rfl, _⟩ := h; rfl
   case array => obtain ⟨cs, rfl, _⟩ := h; rfl
   all_goals
    unfold Cell.okWide at h
    rw [hu] at h
    cases v <;> simp [Cell.ok, hu] at h <;> rfl
 ·simp [Ty.dat] at hd
section
variable {H : Type} {enc : TypeId × Value → H} {P : Program}
theorem y5S (hP : v9 P = true) (hl : laidOutB P = true) (hm : mapsRowed P = true) (hz : z8Z P = true) {f : FuncId} {fn : Func} {s : ChangeSpec} {W : World} {base : Nat} {args : Array Value} {ds gs : List (DataW H)} {before : List MemPlace} {apart fresh handsOn again : Bool}
  (hp : fn.params.toList.all (fun t => decide (t < P.types.size) && (ty P t).dat) = true) {tb : TypeId} (hr : fn.resultTypes = #[tb]) (hb : P.underlying tb = some .bool) (hvars : s.vars = [])
  (hval : ∀ (j : Nat) t v, fn.params[j]? = some t → args[j]? = some v → Value.okWide P W .any base t v)
  (hW : DataW.Whole enc P fn.params.toList s.vars apart W args.toList ds gs before)
  (hwt : (DataW.weightsEach P fn.params.toList ds).all (· ≤ reachBytes) = true) {gl : Nat → Option (Ty × C)} (hgl : y2l W gl)
  (hfr : (s.fn H (ds ++ gs)).results = [.lit (.bool true)]) (hfa : (s.fn H (ds ++ gs)).args = ds) (hfv : (s.fn H (ds ++ gs)).vars = [])
  (law : Q0 ⟨P, gl⟩ f (List.zipWith V.d (fn.params.toList.map (ty P)) (ds.map cOf)) (fun _ => none) (.d .bool (.bool true)) []) :
  Calls P f args W fun e W' => ∃ v, e = .returned v ∧ s.post enc P fn apart fresh handsOn again W args v W' := by
 have hW' := hW
 obtain ⟨p, q, hA, hV, rfl, hfz, hnd⟩ := hW
 rw [hvars] at hV
 obtain ⟨rfl, rfl⟩ := trodVars_none hV
 have hlens := z16 hA
 have hpar : ∀ t ∈ fn.params.toList, t < P.types.size ∧ (ty P t).dat = true := by
  intro t ht
  have := List.all_eq_true.1 hp t ht
  simpa using this
 refine (law (fun _ => none) (G.start W gl) W args (fun _ _ h => h) rfl ⟨y9y hgl _ _, fun _ _ h => nomatch h⟩ ?_ ?_).mono ?_
 ·simp only [List.length_zipWith, List.length_map, hlens.2]
  have := hlens.1
  simp at this ⊢
  omega
 ·intro i x u hx hu
  rw [y7S, List.getElem?_zipWith] at hx
  split at hx
  ·rename_i τ c hτ hc
   cases hx
   simp only [List.getElem?_map, Option.map_eq_some_iff] at hτ hc
   obtain ⟨t, ht, rfl⟩ := hτ
   obtain ⟨d, hd, rfl⟩ := hc
   have hu' : args.toList[i]? = some u := by simpa using hu
   obtain ⟨ps, fuel, htr⟩ := z75 hA ht hu' hd
   have hm := hpar t (List.mem_of_getElem? ht)
   have hv := hval i t u (by simpa using ht) hu
   refine (v5 rfl).2 ⟨?_, ?_⟩
   ·simp only [z6]
    exact q5A hP (fun _ => rfl) fuel 12 hm.1 hm.2 htr (q6B ht hd hwt)
   ·simp only [V.ty]
    exact y5n hm.2 hv
  ·cases hx
 ·rintro e W' ⟨u, Γ', rfl, gle, c', hu⟩
  have hu' : u = .bool true := (W7 hu).1
  subst hu'
  refine ⟨_, rfl, ?_⟩
  have hold : ∀ b, b < W.heap.size → W'.heap[b]? = W.heap[b]? := by
   intro b hb
   have : Γ'.Z b = some W.heap[b] := by rw [gle.Z]; simp [G.start, hb]
   rw [c'.hZ b _ this]; simp [hb]
  have hoo : oof W' = oof W := by rw [c'.hoo, gle.oo]; rfl
  have hpl : ∀ t ∈ fn.params.toList, t < P.types.size := fun t ht => (hpar t ht).1
  have hblt : ∀ x ∈ p, x.block < W.heap.size := DataW.TrodAll.lt hA
  have hres : ∀ (b : Nat) (sp : Nat → Bool) (hd : Bool), DataW.TrodAll enc P W' b sp hd fn.resultTypes.toList ((Value.bool true).resultList fn.resultTypes.size) [.lit (.bool true)] [] := by
   intro b sp hd
   rw [hr]
   exact trodAll_mk1 (shut_bool hb _)
  have hstay : ∀ sp : Nat → Bool, (∀ x ∈ p, sp x.block = true) → DataW.TrodAll enc P W' 0 sp true fn.params.toList args.toList ds p := fun sp hs => z5r hl hm hz hold hpl hA hs
  refine ⟨ds, [], p ++ [], [], p, [], hW', ?_, ?_, ?_, ?_, fun _ => ⟨?_, [.lit (.bool true)] ++ ds, [], ([] ++ p) ++ [], ⟨[] ++ p, [], trodAll_append (hstay _ (fun _ _ => rfl)) (hres _ _ _), by rw [hvars]; rfl, rfl, ?_, ?_⟩, ?_⟩⟩
  ·rw [hfr]; exact hres _ _ _
  ·rw [hfa]; exact hstay _ (fun x hx => by simpa using hblt x hx)
  ·rw [hfv, hvars]; rfl
  ·refine ⟨congrArg Prod.fst hoo, congrArg Prod.snd hoo, fun i hi => ?_⟩
   rw [hold i hi]
   cases hc : W.heap[i]? with
   | none => rfl
   | some o => cases o <;> simp
  ·intro j t r hj hrr
   rw [hr] at hj hrr
   cases j with
   | zero =>
    simp at hj; subst hj
    have : r = .bool true := by simpa [Value.resultList] using hrr.symm
    subst this
    exact okWide_bool_mk hb _
   | succ j => simp at hj
  ·intro b off hx
   have hx' : MemPlace.cell b off ∈ p := by simpa using hx
   have := hfz b off (by simpa using hx')
   unfold World.frozen? at this ⊢
   rw [hold b (hblt _ hx')]
   exact this
  ·intro ha
   simpa using hnd ha
  ·intro x hx _
   simpa using hx
end
end Go.E
namespace Go.E
open Go
def y4r {α : Type} : List (Nat × α) → Nat → List (Nat × α)
 | [], _ => []
 | (j, x) :: l, i => if j = i then y4r l i else (j, x) :: y4r l i
def y4s {α : Type} : List (Key × α) → Key → List (Key × α)
 | [], _ => []
 | (j, x) :: l, i => if j = i then y4s l i else (j, x) :: y4s l i
def S.less (s : S) (t j : Nat) : S := ⟨y4r s.env t, y4s s.loc (.l j), s.A, s.tk⟩
attribute [go_sem] y4r y4s S.less
end Go.E
namespace Go.E
open Go
section
variable {X : Cx} {md : List (Nat × Nat)} {ops : Array Oper} {Φ : S → Prop} {rest : List Oper} {ts : List Nat} {o : Oper} {base s : S}
end
end Go.E
namespace Go.E
open Go
def x1Y : Nat → List Nat → Bool
 | _, [] => false
 | i, j :: l => if i = j then true else x1Y i l
def y9b {α : Type} : List (Nat × α) → List Nat → List (Nat × α)
 | [], _ => []
 | (j, x) :: l, ks => if x1Y j ks then (j, x) :: y9b l ks else y9b l ks
attribute [go_sem] x1Y y9b
mutual
def C.beq : C → C → Bool
 | .int a, .int b => decide (a = b)
 | .bool a, .bool b => a == b
 | .str a, .str b => decide (a = b)
 | .agg a, .agg b => C.q7u a b
 | .slice a, .slice b => C.q7u a b
 | .nil, .nil => true
 | _, _ => false
def C.q7u : List C → List C → Bool
 | [], [] => true
 | x :: xs, y :: ys => C.beq x y && C.q7u xs ys
 | _, _ => false
end
mutual
theorem C.beq_iff : ∀ (a b : C), C.beq a b = true ↔ a = b
 | .int a, b => by cases b <;> simp [C.beq]
 | .bool a, b => by cases b <;> simp [C.beq]
 | .str a, b => by cases b <;> simp [C.beq]
 | .agg a, b => by cases b <;> simp [C.beq, C.q8a a]
 | .slice a, b => by cases b <;> simp [C.beq, C.q8a a]
 | .nil, b => by cases b <;> simp [C.beq]
theorem C.q8a : ∀ (a b : List C), C.q7u a b = true ↔ a = b
 | [], b => by cases b <;> simp [C.q7u]
 | x :: xs, [] => by simp [C.q7u]
 | x :: xs, y :: ys => by simp [C.q7u, C.beq_iff x, C.q8a xs]
end
instance : DecidableEq C := fun a b => decidable_of_iff _ (C.beq_iff a b)
theorem C.z7y (a b : C) : C.eqb a b = C.beq a b := by
 rw [Bool.eq_iff_iff, C.q0D, C.beq_iff]
def V.isAny : V → Bool
 | .any => true
 | _ => false
theorem V.q4a {x : V} (h : x.isAny = false) : x ≠ .any := by
 intro e; subst e; cases h
instance (k : IntKind) (x : V) : Decidable (x.isInt k) := by unfold V.isInt; split <;> infer_instance
instance (x : V) : Decidable x.isBool := by unfold V.isBool; split <;> infer_instance
instance (x : V) : Decidable x.isStr := by unfold V.isStr; split <;> infer_instance
instance (x : V) : Decidable x.U2 := by unfold V.U2; split <;> infer_instance
instance (τ : Ty) (x : V) : Decidable (x.W1 τ) := by unfold V.W1; split <;> infer_instance
def S.wA (s : S) (A : Key → Option O) : S := { s with A := A }
def leA (A A' : Key → Option O) : Prop := ∀ k o, A k = some o → A' k = some o
theorem J3 {s : S} {A' : Key → Option O} (hA : leA s.A A') {k : Key} {o : O} (h : s.obj k = some o) : (s.wA A').obj k = some o := by
 simp only [S.obj, Z8, S.wA] at h ⊢
 cases hl : z8 s.loc k with
 | some x => rw [hl] at h; exact h
 | none =>
  rw [hl] at h
  cases k with
  | l n => cases h
  | g k => exact hA _ _ h
theorem q4J (s : S) (A' : Key → Option O) (n : Nat) : (s.wA A').obj (.l n) = s.obj (.l n) := rfl
theorem q0q (gl : Nat → Option (Ty × C)) (s : S) (A' : Key → Option O) : v8 gl (s.wA A') = v8 gl s := by
 funext y; cases y <;> rfl
theorem y8u {s : S} {A' : Key → Option O} (hA : leA s.A A') : leA s.up (s.wA A').up := by
 intro k o h
 simp only [S.up, Option.map_eq_some_iff] at h ⊢
 obtain ⟨x, h1, h2⟩ := h
 exact ⟨x, J3 hA h1, h2⟩
theorem x3H (s : S) (A' : Key → Option O) (t : Nat) : (s.wA A').live t = s.live t := rfl
theorem z3Z {s : S} {A' : Key → Option O} (hA : leA s.A A') {x : V} {r : Nat × Ty × List C} (h : X5 s x = some r) : X5 (s.wA A') x = some r := by
 cases x <;> simp only [X5] at h ⊢ <;> try exact h
 split at h
 ·rename_i y hy
  rw [J3 hA hy]
  exact h
 ·cases h
def y09 (τ : Ty) : V → List (Nat × V) → Bool
 | _, [] => true
 | x, (i, v) :: rest => (τ.child i).isSome && decide ((X1 (τ.get i) v).ty = τ.get i) && (X1 (τ.get i) v).plain && !(x.at [i]).isAny && y09 τ (x.setAt [i] (X1 (τ.get i) v)) rest
theorem y27 {τ : Ty} : ∀ {l : List (Nat × V)} {x : V}, y09 τ x l = true → q79 τ x l
 | [], _, _ => trivial
 | (i, v) :: rest, x, h => by
  simp only [y09, Bool.and_eq_true, decide_eq_true_eq, Bool.not_eq_true'] at h
  exact ⟨h.1.1.1.1, h.1.1.1.2, h.1.1.2, V.q4a h.1.2, y27 h.2⟩
abbrev RI := V × List (Key × O) × List (Nat × Option Nat)
def y4i {α : Type} : List (C × α) → C → α → List (C × α)
 | [], c, v => [(c, v)]
 | (k, u) :: es, c, v => if C.beq c k = true then (k, v) :: es else (k, u) :: y4i es c v
theorem y41 {α : Type} (c : C) (v : α) : ∀ (es : List (C × α)), y4i es c v = q4g es c v
 | [] => rfl
 | (k, u) :: es => by simp only [y4i, q4g, C.z7y, y41 c v es]
theorem x1y {P : Program} {s : S} {A' : Key → Option O} (hA : leA s.A A') {src dst : TypeId} {x : V} {ys : List C} (h : strOf P s src dst x = some ys) : strOf P (s.wA A') src dst x = some ys := by
 cases hel : X5 s x with
 | some r =>
  rw [← h]
  unfold strOf
  rw [hel, z3Z hA hel]
 | none =>
  unfold strOf at h ⊢
  rw [hel] at h
  split at h
  ·split at h
   ·rename_i h0
    rw [if_pos h0]
    split at h
    ·exact h
    ·cases h
   ·cases h
  ·cases h
theorem y4D {P : Program} {s : S} {src dst : TypeId} {x : V} {ys : List C} {K : V → Prop} (h : strOf P s src dst x = some ys) : ¬ z0C P src dst x K := by
 unfold strOf at h
 split at h
 ·rename_i ht hd
  unfold z0C
  rw [ht, hd]
  exact id
 ·cases h
theorem z9r (A' : Key → Option O) : ∀ (σ : List (Nat × List Nat)) (s : S), q0I σ (s.wA A') = (q0I σ s).wA A'
 | [], _ => rfl
 | (t, _) :: σ, s => by simp only [q0I]; exact z9r A' σ (s.tok t none)
theorem y7Y (A' : Key → Option O) (d : Nat) : ∀ (L : List (Key × O)) (s : S), q5r d L (s.wA A') = (q5r d L s).wA A'
 | [], _ => rfl
 | (k, o) :: L, s => by simp only [q5r, y7Y A' d L s]; rfl
theorem y7X (A' : Key → Option O) (d : Nat) : ∀ (L : List (Nat × Option Nat)) (s : S), q2s d L (s.wA A') = (q2s d L s).wA A'
 | [], _ => rfl
 | (k, o) :: L, s => by simp only [q2s, y7X A' d L s]; rfl
theorem y8n (A' : Key → Option O) : ∀ (L : List Nat) (s : S), q6k L (s.wA A') = (q6k L s).wA A'
 | [], _ => rfl
 | t :: L, s => by simp only [q6k, y8n A' L s]; rfl
theorem x2A (A' : Key → Option O) (tip : Bool) (s : S) (x : V) : Y4 tip (s.wA A') x = Y4 tip s x := rfl
theorem z5Q (A' : Key → Option O) (tip : Bool) (s : S) : ∀ (ys : List V), Z2 tip (s.wA A') ys = Z2 tip s ys
 | [] => rfl
 | y :: ys => by simp only [Z2, z5Q A' tip s ys, x2A]
theorem y28 (A' : Key → Option O) (P : Program) (tip : Bool) (s : S) : ∀ (Ts : List TypeId) (ys : List V), Z9 P tip (s.wA A') Ts ys = Z9 P tip s Ts ys
 | [], _ => rfl
 | _ :: _, [] => rfl
 | T :: Ts, y :: ys => by
  simp only [Z9, y28 A' P tip s Ts ys]
  rfl
theorem y95 (A' : Key → Option O) (s : S) (tip : Bool) (ys : List V) (d : Nat) (v : V) (L : List (Key × O)) : (s.wA A').ret tip ys d v L = (s.ret tip ys d v L).wA A' := by
 simp only [S.ret, z5Q, y7Y, y8n, y7X]
def q9y (s : S) (d : Nat) : List (Key × O) → Bool
 | [] => true
 | (.g k, _) :: L => (s.obj k).isSome && q9y s d L
 | (.l j, _) :: L => (s.obj (.l (rk d j))).isNone && q9y s d L
theorem z7r {s : S} {A' : Key → Option O} (hA : leA s.A A') {d : Nat} : ∀ {L : List (Key × O)}, q9y s d L = true → gOk (s.wA A') d L
 | [], _ => trivial
 | (.g k, _) :: L, h => by
  simp only [q9y, Bool.and_eq_true] at h
  obtain ⟨o, ho⟩ := Option.isSome_iff_exists.1 h.1
  exact ⟨by rw [J3 hA ho]; rfl, z7r hA h.2⟩
 | (.l j, _) :: L, h => by
  simp only [q9y, Bool.and_eq_true] at h
  exact ⟨by rw [q4J]; simpa using h.1, z7r hA h.2⟩
def z17 (s : S) (d : Nat) : List (Nat × Option Nat) → Bool
 | [] => true
 | (m, _) :: l => !s.known (rk d m) && z17 s d l
theorem y1h {s : S} {A' : Key → Option O} {d : Nat} : ∀ {L : List (Nat × Option Nat)}, z17 s d L = true → tOk (s.wA A') d L
 | [], _ => trivial
 | (m, _) :: L, h => by
  simp only [z17, Bool.and_eq_true, Bool.not_eq_true'] at h
  exact ⟨h.1, y1h h.2⟩
def q0C (s : S) : List (Key × O) → Bool
 | [] => true
 | (.l n, _) :: l => (s.obj (.l n)).isNone && q0C s l
 | (.g _, _) :: _ => false
theorem q98 {s : S} {A' : Key → Option O} : ∀ {L : List (Key × O)}, q0C s L = true → q3P (s.wA A') L
 | [], _ => trivial
 | (.l n, _) :: L, h => by
  simp only [q0C, Bool.and_eq_true] at h
  exact ⟨by rw [q4J]; simpa using h.1, q98 h.2⟩
 | (.g _, _) :: _, h => by simp [q0C] at h
def q73 (s : S) : List (Nat × Option Nat) → Bool
 | [] => true
 | (t, _) :: l => !s.known t && q73 s l
theorem q97 {s : S} {A' : Key → Option O} : ∀ {L : List (Nat × Option Nat)}, q73 s L = true → q3O (s.wA A') L
 | [], _ => trivial
 | (t, _) :: L, h => by
  simp only [q73, Bool.and_eq_true, Bool.not_eq_true'] at h
  exact ⟨h.1, q97 h.2⟩
abbrev z14 := FuncId → List V → (Key → Option O) → Option (V × List (Key × O))
abbrev z68 := FuncId → List V → Option V
def z3n (X : Cx) (call : z14) : Prop := ∀ f xs A v L, call f xs A = some (v, L) → Q0 X f xs A v L
def z7K (X : Cx) (ext : z68) : Prop := ∀ f xs v, ext f xs = some v → z7L X f xs v
end Go.E
namespace Go.E
open Go
def x8n (ext : z68) (o : Oper) (ρ : Operand → V) : Option V :=
 match o.op with
 | .call c => (match c.callee with
  | .value fo => (match ρ fo with
   | .fn f [] => ext f (c.args.toList.map ρ)
   | _ => none)
  | _ => none)
 | _ => none
def x8g (X : Cx) (call : z14) (o : Oper) (ρ : Operand → V) (s : S) : Option (V × List (Key × O)) :=
 match o.op with
 | .call c => (match c.callee with
  | .value fo => (match ρ fo with
   | .fn f caps => if q2y X.P f = true ∧ c.argTypes.toList.length = c.args.toList.length then
      call f (Z9 X.P false s (q7r c.argTypes.toList caps) (X2 (c.args.toList.map ρ) caps)) s.up else none
   | _ => none)
  | _ => none)
 | _ => none
def q1J (o : Oper) (ρ : Operand → V) : List V :=
 match o.op with
 | .call c => (match c.callee with
  | .value fo => (match ρ fo with
   | .fn _ caps => X2 (c.args.toList.map ρ) caps
   | _ => [])
  | _ => [])
 | _ => []
def z4g : List Oper → List Nat
 | [] => []
 | o :: l => (match o.op with
  | .call c => (match c.callee, c.args.toList with
   | .builtin .append, (.tmp t) :: _ => [t]
   | _, _ => [])
  | _ => []) ++ z4g l
def y5I : Nat → List Nat → Bool
 | _, [] => false
 | i, j :: l => Nat.beq i j || y5I i l
def H4 (cand : List Nat) (tbl : List (Nat × Nat)) (o : Oper) (ρ : Operand → V) (s : S) : Nat :=
 match look tbl (u4 o) with
 | some m => m
 | none => (match o.op with
  | .load _ x => if y5I (u4 o) cand = true then (match ρ x with
    | .ptr k q _ => (match s.obj k with
     | some (.box y) => (match y.at q with
      | .ts _ _ _ => 1
      | _ => 0)
     | _ => 0)
    | _ => 0) else 0
  | _ => 0)
def y76 (o : Oper) : Bool :=
 match o.op with
 | .call c => (match c.callee with | .value _ => true | _ => false)
 | _ => false
section
variable {X : Cx} {call : z14} {ext : z68} (hc : z3n X call) (he : z7K X ext)
include hc he
end
theorem x22 (ops : Array Oper) (s : S) (A' : Key → Option O) (j : Nat) : gv ops (s.wA A') j = gv ops s j := by
 unfold gv; split <;> rfl
theorem z2D (s : S) (A' : Key → Option O) (d : Option Nat) (v : V) : (s.wA A').set d v = (s.set d v).wA A' := by cases d <;> rfl
theorem q3b (s : S) (d : Option Nat) (v : V) : (s.set d v).A = s.A := by cases d <;> rfl
section
variable {X : Cx} {call : z14} {ext : z68} (hc : z3n X call) (he : z7K X ext)
include hc he
end
end Go.E
namespace Go.E
open Go
def z7m {α β : Type} (l : List α) (l' : List β) : Bool := l.isEmpty && l'.isEmpty
inductive RD where
 | k0 (v : V) | k1 (v : V) (lo : List (Key × O)) (tn : List (Nat × Option Nat)) | k2 (v : V) (s : S)
def RD.kind : RD → Nat
 | .k0 _ => 0
 | .k1 _ _ _ => 1
 | .k2 _ _ => 2
def RD.post (s : S) (A' : Key → Option O) (K0 : V → Prop) (K1 : V → List (Key × O) → List (Nat × Option Nat) → Prop) (K2 : V → S → Prop) : RD → Prop
 | .k0 v => K0 v
 | .k1 v lo tn => q3P (s.wA A') lo → q3O (s.wA A') tn → q0C s lo = true → K1 v lo tn
 | .k2 v s1 => K2 v (s1.wA A')
theorem y1L (s : S) (d : Option Nat) (v : V) (k : Key) : (s.set d v).obj k = s.obj k := by cases d <;> rfl
theorem y3O {s : S} {lo : List (Key × O)} {tn : List (Nat × Option Nat)} (h : q0C s lo = true) {k : Key} {o : O} (hk : s.obj k = some o) : (s.add lo tn).obj k = some o := by
 have key : ∀ {lo : List (Key × O)}, q0C s lo = true → z8 lo k = none := by
  intro lo
  induction lo with
  | nil => intro _; rfl
  | cons x lo ih =>
   obtain ⟨j, y⟩ := x
   cases j with
   | g j => intro h; simp [q0C] at h
   | l n =>
    intro h
    simp only [q0C, Bool.and_eq_true] at h
    simp only [z8]
    rw [if_neg, ih h.2]
    intro e
    rw [e, hk] at h
    simp at h
 have e := key h
 simp only [S.obj, Z8, S.add] at hk ⊢
 rw [q1G, e]
 exact hk
section
variable {X : Cx} {call : z14} {ext : z68} (hc : z3n X call) (he : z7K X ext)
include hc he
end
end Go.E
namespace Go.E
open Go
mutual
theorem V.q4S : ∀ (x : V), V.k8 x x
 | .d _ _ => by simp [V.k8, Q3, V.ty]
 | .emp _ _ => .inl rfl
 | .agg _ vs => ⟨rfl, V.y0A vs⟩
 | .any => trivial
 | .sl _ _ _ _ | .ts _ _ _ | .nilc | .ptr _ _ _ | .cptr _ _ | .sr _ _ _ _ _ _ _ | .mp _ | .fn _ _ | .tup _ | .top _ => by simp [V.k8]
theorem V.y0A : ∀ (xs : List V), V.q2G xs xs
 | [] => trivial
 | x :: xs => ⟨V.q4S x, rfl, V.y0A xs⟩
end
def O.y9c : O → Bool
 | .box y => y.plain && y.k6
 | .map _ _ _ => true
 | .it _ _ | .dead _ => true
theorem O.q4S {o : O} (h : o.y9c = true) : O.k8 o o := by
 cases o with
 | box y =>
  simp only [O.y9c, Bool.and_eq_true] at h
  exact ⟨V.q4S y, rfl, h.1, h.2⟩
 | map => exact ⟨rfl, rfl, rfl⟩
 | it => exact ⟨rfl, rfl⟩
 | dead => exact (rfl : _ = _)
mutual
def V.keys : V → List Nat
 | .ptr (.l k) _ _ | .mp (.l k) | .sr (.l k) _ _ _ _ _ _ => [k]
 | .agg _ vs | .fn _ vs | .tup vs => V.q8D vs
 | _ => []
def V.q8D : List V → List Nat
 | [] => []
 | x :: xs => x.keys ++ V.q8D xs
end
mutual
def V.x4E : V → List Nat
 | .sl _ _ _ t => [t]
 | .agg _ vs | .fn _ vs | .tup vs => V.x2L vs
 | _ => []
def V.x2L : List V → List Nat
 | [] => []
 | x :: xs => x.x4E ++ V.x2L xs
end
def O.keys : O → List Nat
 | .box x => x.keys
 | .map _ _ es => V.q8D (es.map (·.2))
 | .it _ _ | .dead _ => []
def reach (loc : List (Key × O)) : Nat → List Nat → List Nat → List Nat
 | 0, _, acc => acc
 | _, [], acc => acc
 | f + 1, k :: ks, acc => if y5I k acc = true then reach loc f ks acc else match z8 loc (.l k) with
  | some o => reach loc f (o.keys ++ ks) (k :: acc)
  | none => reach loc f ks acc
def q8E : List (Key × O) → List Nat
 | [] => []
 | (.g _, o) :: l => o.keys ++ q8E l
 | (.l _, _) :: l => q8E l
def q3l (loc : List (Key × O)) (ks : List Nat) : List (Key × O)
 → List (Key × O)
 | [] => []
 | (.g k, _) :: l => (match z8 loc (.g k) with | some o => [(.g k, o)] | none => []) ++ q3l loc ks l
 | (.l k, _) :: l => (if y5I k ks = true then (match z8 loc (.l k) with | some o => [(.l k, o)] | none => []) else []) ++ q3l loc ks l
def q6y : List (Key × O) → Bool
 | [] => true
 | (_, o) :: l => o.y9c && q6y l
def q7x (L : List (Key × O)) : List (Key × O) → Bool
 | [] => true
 | (.g k, _) :: l => (z8 L (.g k)).isSome && q7x L l
 | (.l _, _) :: l => q7x L l
theorem q8c {L : List (Key × O)} {A : Key → Option O} : ∀ {l : List (Key × O)}, q7x L l = true → z1r L A l
 | [], _ => trivial
 | (.g k, _) :: l, h => by
  simp only [q7x, Bool.and_eq_true] at h
  exact ⟨.inl h.1, q8c h.2⟩
 | (.l _, _) :: l, h => q8c (l := l) h
theorem q8k {s : S} {k : Key} {o : O} (h : z8 s.loc k = some o) : s.obj k = some o := by
 simp only [S.obj, Z8, h]
theorem q6s {s : S} (ks : List Nat) : ∀ {l : List (Key × O)}, q6y (q3l s.loc ks l) = true → q5v s (q3l s.loc ks l)
 | [], _ => trivial
 | (.g k, _) :: l, h => by
  simp only [q3l] at h ⊢
  cases hl : z8 s.loc (.g k) with
  | none => rw [hl] at h; exact q6s ks h
  | some o =>
   rw [hl] at h
   simp only [List.cons_append, List.nil_append, q6y, Bool.and_eq_true] at h ⊢
   refine ⟨?_, q6s ks h.2⟩
   rw [q8k hl]
   exact O.q4S h.1
 | (.l k, _) :: l, h => by
  simp only [q3l] at h ⊢
  by_cases hk : y5I k ks = true
  ·rw [if_pos hk] at h ⊢
   cases hl : z8 s.loc (.l k) with
   | none => rw [hl] at h; exact q6s ks h
   | some o =>
    rw [hl] at h
    simp only [List.cons_append, List.nil_append, q6y, Bool.and_eq_true] at h ⊢
    refine ⟨?_, q6s ks h.2⟩
    rw [q8k hl]
    exact O.q4S h.1
  ·rw [if_neg hk] at h ⊢
   exact q6s ks h
def q1W (s : S) : List Nat → List (Nat × V)
 | [] => []
 | i :: l => (i, s.get i) :: q1W s l
def q5J (f g : Nat → Bool) : List (Nat × V) → Bool
 | [] => true
 | (_, x) :: l => x.ok f g && q5J f g l
theorem y16 {s : S} {f g : Nat → Bool} : ∀ {l : List Nat}, q5J f g (q1W s l) = true → q9B f g s (q1W s l)
 | [], _ => trivial
 | i :: l, h => by
  simp only [q1W, q5J, Bool.and_eq_true] at h
  exact ⟨V.q4S _, h.1, .inr rfl, y16 h.2⟩
def q05 (s : S) : List Nat → List (Nat × Option Nat)
 | [] => []
 | t :: l => (match look s.tk t with | some x => [(t, x)] | none => []) ++ q05 s l
theorem z9J {s : S} : ∀ {l : List Nat}, tkW s (q05 s l)
 | [] => trivial
 | t :: l => by
  simp only [q05]
  cases hl : look s.tk t with
  | none => exact z9J
  | some x =>
   refine ⟨?_, z9J⟩
   cases x with
   | none => simp [S.known, hl]
   | some L => simp [S.live, q0n, hl]
def y8k : List (Nat × V) → List Nat
 | [] => []
 | (_, x) :: l => x.keys ++ y8k l
def y17 : List (Nat × V) → List Nat
 | [] => []
 | (_, x) :: l => x.x4E ++ y17 l
def gcS (keep : List Nat) (s : S) : S :=
 ⟨q1W s keep, q3l s.loc (reach s.loc 100000 (y8k (q1W s keep) ++ q8E s.loc) []) s.loc, s.A, q05 s (y17 (q1W s keep))⟩
def gcB (keep : List Nat) (s : S) : Bool :=
 q6y (gcS keep s).loc && q1O (Z7 (gcS keep s).loc) (F2 (gcS keep s).tk) (gcS keep s).loc && q7x (gcS keep s).loc s.loc && q5J (Z7 (gcS keep s).loc) (F2 (gcS keep s).tk) (q1W s keep)
theorem x3P {X : Cx} {n : Nat} {keep : List Nat} {s : S} (A' : Key → Option O) (h : gcB keep s = true) : q1i X n (s.wA A') ((gcS keep s).wA A') := by
 simp only [gcB, Bool.and_eq_true] at h
 obtain ⟨⟨⟨h1, h2⟩, h3⟩, h4⟩ := h
 refine y7P rfl ?_ h2 (q8c h3) ?_ ?_
 ·exact q6s (s := s.wA A') _ h1
 ·have : ∀ l, q05 (s.wA A') l = q05 s l := by
   intro l
   induction l with
   | nil => rfl
   | cons i l ih => simp only [q05, ih]; rfl
  show tkW (s.wA A') (q05 s (y17 (q1W s keep)))
  rw [← this]
  exact z9J
 ·have : q1W (s.wA A') keep = q1W s keep := by
   generalize keep = l
   induction l with
   | nil => rfl
   | cons i l ih => simp only [q1W, ih]; rfl
  show q9B _ _ (s.wA A') (q1W s keep)
  rw [← this] at h4 ⊢
  exact y16 h4
def z6l (ml : List (Nat × Nat)) : List (Nat × Nat) → Bool
 | [] => true
 | (d, m) :: l => Nat.beq (Q6 ml d) m && z6l ml l
theorem z6k {ml : List (Nat × Nat)} : ∀ {l : List (Nat × Nat)}, z6l ml l = true → ∀ p ∈ l, Q6 ml p.1 = p.2
 | (d, m) :: l, h, p, hp => by
  simp only [z6l, Bool.and_eq_true] at h
  rcases List.mem_cons.1 hp with rfl | hp
  ·exact Nat.eq_of_beq_eq_true h.1
  ·exact z6k h.2 p hp
def slotsOf : List (Nat × V) → List Nat
 | [] => []
 | (i, _) :: l => i :: slotsOf l
section
variable {X : Cx} {call : z14} {ext : z68} (hP : v9 X.P = true) (hmo : X.P.follows .mixedOrders = true) (hc : z3n X call) (he : z7K X ext)
include hP hmo hc he
end
end Go.E
namespace Go.E
open Go
section
variable {X : Cx} {call : z14} {ext : z68} (hP : v9 X.P = true) (hmo : X.P.follows .mixedOrders = true) (hc : z3n X call) (he : z7K X ext)
include hP hmo hc he
end
mutual
def V.q4G : V → V
 | .sl eb e cs _ => .d (.slice eb e) (.slice cs)
 | .agg τ vs => .agg τ (V.y8U vs)
 | x => x
def V.y8U : List V → List V
 | [] => []
 | x :: xs => x.q4G :: V.y8U xs
end
theorem V.y7Z (x : V) : x.q4G.ty = x.ty := by cases x <;> rfl
mutual
theorem V.y2z : ∀ (x : V), V.k8 x x.q4G
 | .sl _ _ cs _ => by simp [V.q4G, V.k8, Q3, V.ty]
 | .agg τ vs => ⟨rfl, V.y0d vs⟩
 | .d _ _ => by simp [V.q4G, V.k8, Q3, V.ty]
 | .emp _ _ => .inl rfl
 | .any => trivial
 | .ts _ _ _ | .nilc | .ptr _ _ _ | .cptr _ _ | .sr _ _ _ _ _ _ _ | .mp _ | .fn _ _ | .tup _ | .top _ => by simp [V.q4G, V.k8]
theorem V.y0d : ∀ (xs : List V), V.q2G xs (V.y8U xs)
 | [] => trivial
 | x :: xs => ⟨V.y2z x, V.y7Z x, V.y0d xs⟩
end
def z85 (s : S) (x : V) : V :=
 match x with
 | .sl eb e cs t => if s.live t = some cs.length then .ts eb e cs else .d (.slice eb e) (.slice cs)
 | x => x.q4G
def q61 (s : S) : List V → List V
 | [] => []
 | x :: xs => z85 s x :: q61 s xs
def y5g (f : Nat → Bool) : List V → Bool
 | [] => true
 | v :: vs => (match v with | .ts _ _ _ => true | v => v.ok f c5 && v.plain) && y5g f vs
def y0h : List V → Bool
 | [] => true
 | v :: vs => v.z1K && y0h vs
theorem x3z {s : S} {f : Nat → Bool} {x : V} (hx : x.z1K = true) (h : (match z85 s x with | .ts _ _ _ => true | v => v.ok f c5 && v.plain) = true) : q0S s f x (z85 s x) := by
 have gen : ∀ {x : V}, x.q4G.z1K = true → (x.q4G.ok f c5 && x.q4G.plain) = true → q0S s f x x.q4G := by
  intro x hn h
  have : V.k8 x x.q4G ∧ x.q4G.ok f c5 = true ∧ x.q4G.plain = true ∧ x.q4G.ty.isAgg = x.ty.isAgg := by
   simp only [Bool.and_eq_true] at h
   exact ⟨V.y2z x, h.1, h.2, by rw [V.y7Z]⟩
  unfold q0S
  split
  ·rename_i e1; rw [e1] at hn; cases hn
  ·exact this
 cases x with
 | sl eb e cs t =>
  simp only [z85] at h ⊢
  by_cases hl : s.live t = some cs.length
  ·rw [if_pos hl]; exact ⟨rfl, rfl, rfl, hl⟩
  ·rw [if_neg hl] at h ⊢
   exact gen (x := .sl eb e cs t) rfl h
 | ts => cases hx
 | agg τ vs => exact gen (x := .agg τ vs) rfl h
 | d | emp | any | nilc | ptr | cptr | sr | mp | fn | tup | top => exact gen rfl h
theorem y5f {s : S} {f : Nat → Bool} : ∀ {xs : List V}, y0h xs = true → y5g f (q61 s xs) = true → q06 s f xs (q61 s xs)
 | [], _, _ => trivial
 | x :: xs, h1, h2 => by
  simp only [y0h, Bool.and_eq_true] at h1
  simp only [q61, y5g, Bool.and_eq_true] at h2
  exact ⟨x3z h1.1 h2.1, y5f h1.2 h2.2⟩
def y1o (X : Cx) (s : S) (r : ResultVar) : Bool :=
 match r with
 | .tmp _ => true
 | .cell a t => (match s.get a with
   | .ptr k q τ => (match s.obj k with
     | some (.box y) => decide (τ = ty X.P t) && τ.known && !(y.at q).isAny
     | _ => false)
   | _ => false)
def z0t (X : Cx) (s : S) : List ResultVar → Bool
 | [] => true
 | r :: rs => y1o X s r && z0t X s rs
theorem y8F {X : Cx} {s : S} {A' : Key → Option O} (hA : leA s.A A') {r : ResultVar} (h : y1o X s r = true) : z2H X (s.wA A') r ∧ z3u X (s.wA A') r = z3u X s r := by
 cases r with
 | tmp t => exact ⟨trivial, rfl⟩
 | cell a t =>
  have hg : (s.wA A').get a = s.get a := rfl
  simp only [y1o] at h
  simp only [z2H, z3u, hg]
  split at h
  ·rename_i e0
   split at h
   ·rename_i e1
    simp only [Bool.and_eq_true, decide_eq_true_eq, Bool.not_eq_true'] at h
    simp only [e0, J3 hA e1, e1]
    exact ⟨⟨h.1.1, h.1.2, V.q4a h.2⟩, by first | rfl | trivial⟩
   ·cases h
  ·cases h
theorem z78 {X : Cx} {s : S} {A' : Key → Option O} (hA : leA s.A A') : ∀ {rs : List ResultVar}, z0t X s rs = true → z0d X (s.wA A') rs ∧ q3c X (s.wA A') rs = q3c X s rs
 | [], _ => ⟨trivial, rfl⟩
 | r :: rs, h => by
  simp only [z0t, Bool.and_eq_true] at h
  obtain ⟨h1, h2⟩ := y8F hA h.1
  obtain ⟨h3, h4⟩ := z78 hA h.2
  exact ⟨⟨h1, h3⟩, by simp only [q3c, h2, h4]⟩
def y8S : List V → V
 | [x] => x
 | xs => .tup xs
theorem y97 {xs : List V} {vs : List V} (h : xs.length = vs.length) : z3t xs (y8S vs) = some vs := by
 match xs, vs, h with
 | [], [], _ => rfl
 | [_], [_], _ => rfl
 | _ :: _ :: _, _ :: _ :: _, _ => rfl
theorem z54 (s : S) : ∀ (xs : List V), (q61 s xs).length = xs.length
 | [] => rfl
 | x :: xs => by simp [q61, z54 s xs]
def y9p (X : Cx) (fn : Func) (s : S) : Option (V × List (Key × O)) :=
 let rs := q3c X s fn.results.toList
 let vs := q61 s rs
 let L := q3l s.loc (reach s.loc 100000 (V.q8D vs ++ q8E s.loc) []) s.loc
 if z0t X s fn.results.toList = true ∧ y0h rs = true ∧ y5g (Z7 L) vs = true ∧ q1D (q6F (q2a 2000 rs vs)) = true ∧ q6y L = true ∧ q1O (Z7 L) c5 L = true ∧ q7x L s.loc = true then some (y8S vs, L) else none
theorem x2g {X : Cx} {fn : Func} {s : S} {v : V} {L : List (Key × O)} {A' : Key → Option O} (hA : leA s.A A') (h : y9p X fn s = some (v, L)) : q8h X fn A' v L (s.wA A') := by
 simp only [y9p, Option.ite_none_right_eq_some, Option.some.injEq, Prod.mk.injEq] at h
 obtain ⟨⟨h1, h2, h3, h4, h5, h6, h7⟩, rfl, rfl⟩ := h
 obtain ⟨c1, c2⟩ := z78 hA h1
 have hL : ∀ (x : S) (xs vs : List V) f, q06 x f xs vs → q06 (x.wA A') f xs vs := by
  intro x xs
  induction xs with
  | nil => intro vs f h; cases vs <;> exact h
  | cons y ys ih =>
   intro vs f h
   cases vs with
   | nil => exact h
   | cons v vs => exact ⟨h.1, ih vs f h.2⟩
 refine ⟨rfl, q6s (s := s.wA A') _ h5, h6, q8c h7, c1, ?_⟩
 rw [c2, y97 (z54 s _).symm]
 exact ⟨hL _ _ _ _ (y5f h2 h3), h4⟩
section
variable {X : Cx} {ov : z14} {ext : z68} (hP : v9 X.P = true) (hmo : X.P.follows .mixedOrders = true) (hov : z3n X ov) (he : z7K X ext)
include hP hmo hov he
end
def A0 : Key → Option O := fun _ => none
theorem Q0.any {X : Cx} {f : FuncId} {xs : List V} {v : V} {L : List (Key × O)} (h : Q0 X f xs A0 v L) (A : Key → Option O) : Q0 X f xs A v L := h.mono fun _ _ h => by cases h
end Go.E
namespace Go.E
open Go
def z7D {R : Type} (op : BinOp) (k : IntKind) (a b : Int) (K : V → Option R) : Option R :=
 match op with
 | .add => K (.d (.int k) (.int (k.wrap (a + b))))
 | .sub => K (.d (.int k) (.int (k.wrap (a - b))))
 | .mul => K (.d (.int k) (.int (k.wrap (a * b))))
 | .quo => if b ≠ 0 then K (.d (.int k) (.int (k.wrap (a.tdiv b)))) else none
 | .rem => if b ≠ 0 then K (.d (.int k) (.int (a.tmod b))) else none
 | .and | .or | .xor | .andNot => K (.d (.int k) (.int (u1 op k a b)))
 | .eql => K (.d .bool (.bool (decide (a = b))))
 | .neq => K (.d .bool (.bool (!decide (a = b))))
 | .lss => K (.d .bool (.bool (decide (a < b))))
 | .leq => K (.d .bool (.bool (decide (a ≤ b))))
 | .gtr => K (.d .bool (.bool (decide (b < a))))
 | .geq => K (.d .bool (.bool (decide (b ≤ a))))
 | _ => none
theorem x2p {R : Type} {r : R} {Kr : V → Option R} {op : BinOp} {k : IntKind} {a b : Int}  {K : V → Prop} (h : z7D op k a b Kr = some r) (hK : ∀ v, Kr v = some r → K v) : q7n op k a b K := by
 cases op <;> simp only [z7D, q7n, Option.some.injEq, Option.ite_none_right_eq_some, reduceCtorEq] at h ⊢ <;>
  first | exact hK _ h | (obtain ⟨h1, h⟩ := h; exact ⟨h1, hK _ h⟩)
def y19 {R : Type} (op : BinOp) (k : IntKind) (a b : Int) (K : V → Option R) : Option R :=
 match op with
 | .shl => if 0 ≤ b then K (.d (.int k) (.int (k.wrap (a * 2 ^ (min b.toNat k.bits))))) else none
 | .shr => if 0 ≤ b then K (.d (.int k) (.int (a.fdiv (2 ^ (min b.toNat k.bits))))) else none
 | _ => none
theorem x3X {R : Type} {r : R} {Kr : V → Option R} {op : BinOp} {k : IntKind} {a b : Int}  {K : V → Prop} (h : y19 op k a b Kr = some r) (hK : ∀ v, Kr v = some r → K v) : z3r op k a b K := by
 cases op <;> simp only [y19, z3r, Option.some.injEq, Option.ite_none_right_eq_some, reduceCtorEq] at h ⊢ <;>
  (obtain ⟨h1, h⟩ := h; exact ⟨h1, hK _ h⟩)
def z7B {R : Type} (op : BinOp) (a b : List UInt8) (K : V → Option R) : Option R :=
 match op with
 | .add => if a.length + b.length ≤ 140737488355328 then K (.d .str (.str (a ++ b))) else none
 | .eql => K (.d .bool (.bool (a == b)))
 | .neq => K (.d .bool (.bool (!(a == b))))
 | .lss => K (.d .bool (.bool (Op.bytesLess a b)))
 | .leq => K (.d .bool (.bool (Op.bytesLess a b || a == b)))
 | .gtr => K (.d .bool (.bool (!(Op.bytesLess a b || a == b))))
 | .geq => K (.d .bool (.bool (!Op.bytesLess a b)))
 | _ => none
theorem x2j {R : Type} {r : R} {Kr : V → Option R} {op : BinOp} {a b : List UInt8}  {K : V → Prop} (h : z7B op a b Kr = some r) (hK : ∀ v, Kr v = some r → K v) : q8O op a b K := by
 cases op <;> simp only [z7B, q8O, Option.some.injEq, Option.ite_none_right_eq_some, reduceCtorEq] at h ⊢ <;>
  first | exact hK _ h | (obtain ⟨h1, h⟩ := h; exact ⟨h1, hK _ h⟩)
def z32 {R : Type} (op : BinOp) (b : Bool) (K : V → Option R) : Option R :=
 match op with
 | .eql => K (.d .bool (.bool b))
 | .neq => K (.d .bool (.bool (!b)))
 | _ => none
theorem y6s {R : Type} {r : R} {Kr : V → Option R} {op : BinOp} {b : Bool}  {K : V → Prop} (h : z32 op b Kr = some r) (hK : ∀ v, Kr v = some r → K v) : q5K op b K := by
 cases op <;> simp only [z32, q5K, reduceCtorEq] at h ⊢ <;> exact hK _ h
def q9i {R : Type} (op : BinOp) (x y : Bool) (K : V → Option R) : Option R :=
 match op with
 | .eql => K (.d .bool (.bool (x == y)))
 | .neq => K (.d .bool (.bool (!(x == y))))
 | _ => none
def z1k {R : Type} (op : BinOp) (x y : Option Bool) (K : V → Option R) : Option R :=
 match op, x, y with
 | .eql, some a, some true => K (.d .bool (.bool a))
 | .neq, some a, some true => K (.d .bool (.bool (!a)))
 | .eql, some true, some b => K (.d .bool (.bool b))
 | .neq, some true, some b => K (.d .bool (.bool (!b)))
 | _, _, _ => none
def z3g {R : Type} (op : BinOp) (x : Option (Option Bool)) (y : V) (K : V → Option R) : Option R :=
 match op, x, y with
 | .eql, some r, .nilc => K (z0S r)
 | .neq, some r, .nilc => K (z0S (r.map (!·)))
 | _, _, _ => none
def z7E {R : Type} (P : Program) (op : BinOp) (T : TypeId) (x y : V) (K : V → Option R) : Option R :=
 match ty P T with
 | .int k => if x.isInt k then (if BinOp.q6t op then (if y.U2 then y19 op k x.toInt y.toInt K else none) else (if y.isInt k then z7D op k x.toInt y.toInt K else none)) else none
 | .bool => if x.isBool ∧ y.isBool then q9i op x.toBool y.toBool K else none
 | .str => if x.isStr ∧ y.isStr then z7B op x.toStr y.toStr K else none
 | .ptr => z1k op x.q7U y.q7U K
 | .arr n e => if W2 P T = true ∧ x.W1 (.arr n e) ∧ y.W1 (.arr n e) then z32 op (C.beq x.toC y.toC) K else none
 | .struct sz os fs => if W2 P T = true ∧ x.W1 (.struct sz os fs) ∧ y.W1 (.struct sz os fs) then z32 op (C.beq x.toC y.toC) K else none
 | .slice _ _ => z3g op x.y5x y K
 | _ => none
theorem x2q {R : Type} {r : R} {Kr : V → Option R} {P : Program} {op : BinOp} {T : TypeId} {x y : V} {K : V → Prop} (h : z7E P op T x y Kr = some r) (hK : ∀ v, Kr v = some r → K v) : z7h P op T x y K := by
 unfold z7E at h
 unfold z7h
 generalize ty P T = τ at h ⊢
 split at h
 ·simp only [Option.ite_none_right_eq_some] at h
  obtain ⟨h1, h2⟩ := h
  refine ⟨h1, ?_⟩
  split at h2
  ·rename_i hs
   rw [if_pos hs]
   simp only [Option.ite_none_right_eq_some] at h2
   exact ⟨h2.1, x3X h2.2 hK⟩
  ·rename_i hs
   rw [if_neg hs]
   simp only [Option.ite_none_right_eq_some] at h2
   exact ⟨h2.1, x2p h2.2 hK⟩
 ·simp only [Option.ite_none_right_eq_some] at h
  obtain ⟨⟨h1, h2⟩, h3⟩ := h
  refine ⟨h1, h2, ?_⟩
  cases op <;> simp only [q9i, reduceCtorEq] at h3 ⊢ <;> exact hK _ h3
 ·simp only [Option.ite_none_right_eq_some] at h
  exact ⟨h.1.1, h.1.2, x2j h.2 hK⟩
 ·simp only [z1k] at h
  split at h <;> (try (cases h)) <;> simp_all
 ·simp only [Option.ite_none_right_eq_some] at h
  exact ⟨h.1.1, h.1.2.1, h.1.2.2, by rw [C.z7y]; exact y6s h.2 hK⟩
 ·simp only [Option.ite_none_right_eq_some] at h
  exact ⟨h.1.1, h.1.2.1, h.1.2.2, by rw [C.z7y]; exact y6s h.2 hK⟩
 ·simp only [z3g] at h
  split at h <;> (try (cases h)) <;> simp_all
 ·cases h
def z0i {R : Type} (P : Program) (T : TypeId) (x : V) (lo hi mx : Option V) (K : V → Option R) : Option R :=
 match ty P T with
 | .str => (match Q4 lo 0, Q4 hi x.toStr.length with
   | some l, some h => if x.isStr ∧ mx.isNone then (if 0 ≤ l ∧ l ≤ h ∧ h ≤ x.toStr.length then K (.d .str (.str ((x.toStr.take h.toNat).drop l.toNat))) else none) else none
   | _, _ => none)
 | .slice eb e => (match x with
   | .sr k q lo0 n cp eb' e' => if eb' = eb ∧ e' = e then (match Q4 lo 0, Q4 hi n, mx with
     | some l, some h, none => if 0 ≤ l ∧ l ≤ h ∧ h ≤ n then K (.sr k q (lo0 + l.toNat) (h - l).toNat (cp.map (· - l.toNat)) eb e) else none
     | some l, some h, some m => if hi.isSome = true then (match Q4 (some m) 0 with
       | some m => if 0 ≤ l ∧ l = h ∧ h = m ∧ m ≤ n then K (.emp eb e) else none
       | none => none) else none
     | _, _, _ => none) else none
   | x => (match x.q3y with
    | some (eb', e', cs) => if eb' = eb ∧ e' = e then (match Q4 lo 0, Q4 hi cs.length, mx with
     | some l, some h, none => if 0 ≤ l ∧ l ≤ h ∧ h ≤ cs.length then K (.d (.slice eb e) (.slice (cut cs l h))) else none
     | some l, some h, some m => if hi.isSome = true then (match Q4 (some m) 0 with
       | some m => if 0 ≤ l ∧ l = h ∧ h = m ∧ m ≤ cs.length then K (.emp eb e) else none
       | none => none) else none
     | _, _, _ => none) else none
    | none => none))
 | _ => (match z96 P T with
  | some (n, eb, e) => if n * eb ≤ 140737488355328 ∧ n ≤ maxLen ∧ mx.isNone then (match Q4 lo 0, Q4 hi n with
    | some l, some h => if 0 ≤ l ∧ l ≤ h ∧ h ≤ n then (match x with
      | .ptr k q τ => if τ = .arr n e then K (.sr k q l.toNat (h - l).toNat (some (n - l.toNat)) eb e) else none
      | .cptr τ c => if τ = .arr n e then K (.d (.slice eb e) (.slice (cut c.elems l h))) else none
      | _ => none) else none
    | _, _ => none) else none
  | none => none)
theorem y9r {R : Type} {r : R} {Kr : V → Option R} {P : Program} {T : TypeId} {x : V} {lo hi mx : Option V} {K : V → Prop} (h : z0i P T x lo hi mx Kr = some r) (hK : ∀ v, Kr v = some r → K v) : z0f P T x lo hi mx K := by
 unfold z0i at h
 unfold z0f
 generalize ty P T = τ at h ⊢
 split at h
 ·split at h
  ·rename_i l hh e1 e2
   simp only [Option.ite_none_right_eq_some] at h
   obtain ⟨⟨h1, h2⟩, h3, h⟩ := h
   refine ⟨h1, by simpa using h2, ?_⟩
   rw [e1, e2]
   exact ⟨h3.1, h3.2.1, h3.2.2, hK _ h⟩
  ·cases h
 ·split at h
  ·simp only [Option.ite_none_right_eq_some] at h
   obtain ⟨⟨h1, h2⟩, h⟩ := h
   refine ⟨h1, h2, ?_⟩
   split at h
   ·rename_i e1 e2
    simp only [Option.ite_none_right_eq_some] at h
    obtain ⟨h3, h⟩ := h
    rw [e1, e2]
    exact ⟨h3.1, h3.2.1, h3.2.2, hK _ h⟩
   ·rename_i e1 e2
    simp only [Option.ite_none_right_eq_some] at h
    obtain ⟨h3, h⟩ := h
    rw [e1, e2]
    refine ⟨h3, ?_⟩
    split at h
    ·rename_i e3
     simp only [Option.ite_none_right_eq_some] at h
     obtain ⟨h4, h⟩ := h
     rw [e3]
     exact ⟨h4.1, h4.2.1, h4.2.2.1, h4.2.2.2, hK _ h⟩
    ·cases h
   ·cases h
  ·rename_i x' hx'
   cases x <;> (try exact (hx' _ _ _ _ _ _ _ rfl).elim) <;> (
    split at h
    ·rename_i e0
     simp only [e0]
     simp only [Option.ite_none_right_eq_some] at h
     obtain ⟨⟨h1, h2⟩, h⟩ := h
     refine ⟨h1, h2, ?_⟩
     split at h
     ·rename_i e1 e2
      simp only [Option.ite_none_right_eq_some] at h
      obtain ⟨h3, h⟩ := h
      rw [e1, e2]
      exact ⟨h3.1, h3.2.1, h3.2.2, hK _ h⟩
     ·rename_i e1 e2
      simp only [Option.ite_none_right_eq_some] at h
      obtain ⟨h3, h⟩ := h
      rw [e1, e2]
      refine ⟨h3, ?_⟩
      split at h
      ·rename_i e3
       simp only [Option.ite_none_right_eq_some] at h
       obtain ⟨h4, h⟩ := h
       rw [e3]
       exact ⟨h4.1, h4.2.1, h4.2.2.1, h4.2.2.2, hK _ h⟩
      ·cases h
     ·cases h
    ·cases h)
 ·rename_i hn1 hn2
  split at h
  ·rename_i e0
   split <;> first | exact (hn1 rfl).elim | exact (hn2 _ _ rfl).elim | skip
   rw [e0]
   simp only [Option.ite_none_right_eq_some] at h
   obtain ⟨⟨h1, h2, h3⟩, h⟩ := h
   refine ⟨h1, h2, by simpa using h3, ?_⟩
   split at h
   ·rename_i e1 e2
    rw [e1, e2]
    simp only [Option.ite_none_right_eq_some] at h
    obtain ⟨h4, h⟩ := h
    refine ⟨h4.1, h4.2.1, h4.2.2, ?_⟩
    split at h
    ·simp only [Option.ite_none_right_eq_some] at h
     obtain ⟨h5, h⟩ := h
     exact ⟨h5, hK _ h⟩
    ·simp only [Option.ite_none_right_eq_some] at h
     obtain ⟨h5, h⟩ := h
     exact ⟨h5, hK _ h⟩
    ·cases h
   ·cases h
  ·cases h
def z7C {R : Type} (P : Program) (T : TypeId) (x : V) (K : V → Option R) : Option R :=
 match ty P T, x with
 | .str, .d τ c => if τ = .str then K (.d (.int .i64) (.int c.toStr.length)) else none
 | .slice _ _, .nilc => K (.d (.int .i64) (.int 0))
 | .slice _ _, .sr _ _ _ n _ _ _ => K (.d (.int .i64) (.int n))
 | .slice eb e, x => (match x.q3y with
   | some (eb', e', cs) => if eb' = eb ∧ e' = e then K (.d (.int .i64) (.int cs.length)) else none
   | none => none)
 | .arr n _, _ => if (n : Int) ≤ 9223372036854775807 then K (.d (.int .i64) (.int n)) else none
 | _, _ => none
theorem x2o {R : Type} {r : R} {Kr : V → Option R} {P : Program} {T : TypeId} {x : V} {K : V → Prop} (h : z7C P T x Kr = some r) (hK : ∀ v, Kr v = some r → K v) : z7g P T x K := by
 unfold z7C at h
 unfold z7g
 generalize ty P T = τ at h ⊢
 cases τ <;> (try (cases h; done)) <;> cases x <;> (try (cases h; done)) <;> simp only [Option.ite_none_right_eq_some] at h ⊢ <;>
  first
  | exact hK _ h
  | (obtain ⟨h1, h⟩ := h; exact ⟨h1, hK _ h⟩)
  | (split at h
     ·rename_i e0
      simp only [Option.ite_none_right_eq_some] at h
      obtain ⟨h1, h⟩ := h
      rw [e0]
      exact ⟨h1.1, h1.2, hK _ h⟩
     ·cases h)
def q4c {R : Type} (P : Program) (T : TypeId) (x i : V) (K : V → Option R) : Option R :=
 if i.U2 then
 match ty P T, x with
 | .slice eb e, .sr k q lo n _ eb' e' => if eb' = eb ∧ e' = e then (if 0 ≤ i.toInt ∧ i.toInt < n then K (.ptr k (q ++ [lo + i.toInt.toNat]) e) else none) else none
 | .slice eb e, x => (match x.q3y with
   | some (eb', e', cs) => if eb' = eb ∧ e' = e then (if 0 ≤ i.toInt ∧ i.toInt < cs.length then K (.cptr e (cs.getD i.toInt.toNat .nil)) else none) else none
   | none => none)
 | .arr n e, .ptr k q τ => if τ = .arr n e then (if 0 ≤ i.toInt ∧ i.toInt < n then K (.ptr k (q ++ [i.toInt.toNat]) e) else none) else none
 | .arr n e, .cptr τ c => if τ = .arr n e then (if 0 ≤ i.toInt ∧ i.toInt < n then K (.cptr e (c.get i.toInt.toNat)) else none) else none
 | _, _ => none
 else none
theorem y2a {R : Type} {r : R} {Kr : V → Option R} {P : Program} {T : TypeId} {x i : V} {K : V → Prop} (h : q4c P T x i Kr = some r) (hK : ∀ v, Kr v = some r → K v) : q30 P T x i K := by
 unfold q4c at h
 unfold q30
 simp only [Option.ite_none_right_eq_some] at h
 obtain ⟨h0, h⟩ := h
 refine ⟨h0, ?_⟩
 generalize ty P T = τ at h ⊢
 cases τ <;> (try (cases h; done)) <;> cases x <;> (try (cases h; done)) <;> simp only [Option.ite_none_right_eq_some] at h ⊢ <;>
  first
  | (obtain ⟨h1, h2, h⟩ := h; exact ⟨h1.1, h1.2, h2.1, h2.2, hK _ h⟩)
  | (obtain ⟨h1, h2, h⟩ := h; exact ⟨h1, h2.1, h2.2, hK _ h⟩)
  | (split at h
     ·rename_i e0
      simp only [Option.ite_none_right_eq_some] at h
      obtain ⟨h1, h2, h⟩ := h
      rw [e0]
      exact ⟨h1.1, h1.2, h2.1, h2.2, hK _ h⟩
     ·cases h)
def q4d {R : Type} (P : Program) (T : TypeId) (x : V) (i : Nat) (K : V → Option R) : Option R :=
 match x with
 | .ptr k q τ => if τ = ty P T ∧ τ.Y5 = true ∧ (τ.child i).isSome = true ∧ (τ.get i).size ≠ 0 then K (.ptr k (q ++ [i]) (τ.get i)) else none
 | .cptr τ c => if τ = ty P T ∧ τ.Y5 = true ∧ (τ.child i).isSome = true ∧ (τ.get i).size ≠ 0 then K (.cptr (τ.get i) (c.get i)) else none
 | _ => none
theorem y2b {R : Type} {r : R} {Kr : V → Option R} {P : Program} {T : TypeId} {x : V} {i : Nat} {K : V → Prop} (h : q4d P T x i Kr = some r) (hK : ∀ v, Kr v = some r → K v) : q31 P T x i K := by
 unfold q4d at h
 unfold q31
 split at h
 ·simp only [Option.ite_none_right_eq_some] at h
  obtain ⟨h1, h⟩ := h
  exact ⟨h1.1, h1.2.1, h1.2.2.1, h1.2.2.2, hK _ h⟩
 ·simp only [Option.ite_none_right_eq_some] at h
  obtain ⟨h1, h⟩ := h
  exact ⟨h1.1, h1.2.1, h1.2.2.1, h1.2.2.2, hK _ h⟩
 ·cases h
def y18 {R : Type} (P : Program) (op : UnOp) (T : TypeId) (x : V) (K : V → Option R) : Option R :=
 match ty P T, op with
 | .bool, .not => if x.isBool then K (.d .bool (.bool (!x.toBool))) else none
 | .int k, .neg => if x.isInt k then K (.d (.int k) (.int (k.wrap (0 - x.toInt)))) else none
 | _, _ => none
theorem x3V {R : Type} {r : R} {Kr : V → Option R} {P : Program} {op : UnOp} {T : TypeId} {x : V} {K : V → Prop} (h : y18 P op T x Kr = some r) (hK : ∀ v, Kr v = some r → K v) : y4X P op T x K := by
 unfold y18 at h
 unfold y4X
 generalize ty P T = τ at h ⊢
 split at h
 ·simp only [Option.ite_none_right_eq_some] at h
  obtain ⟨h1, h⟩ := h
  exact ⟨h1, hK _ h⟩
 ·simp only [Option.ite_none_right_eq_some] at h
  obtain ⟨h1, h⟩ := h
  exact ⟨h1, hK _ h⟩
 ·cases h
def z3i {R : Type} (P : Program) (src dst : TypeId) (x : V) (K : V → Option R) : Option R :=
 match ty P src, ty P dst with
 | .int k, .int k2 => if x.isInt k then K (.d (.int k2) (.int (k2.wrap x.toInt))) else none
 | .str, .str => if x.isStr then K x else none
 | _, _ => none
theorem x0X {R : Type} {r : R} {Kr : V → Option R} {P : Program} {src dst : TypeId} {x : V} {K : V → Prop} (h : z3i P src dst x Kr = some r) (hK : ∀ v, Kr v = some r → K v) : z0C P src dst x K := by
 unfold z3i at h
 unfold z0C
 generalize ty P src = τ at h ⊢
 generalize ty P dst = τ2 at h ⊢
 split at h
 ·simp only [Option.ite_none_right_eq_some] at h
  obtain ⟨h1, h⟩ := h
  exact ⟨h1, hK _ h⟩
 ·simp only [Option.ite_none_right_eq_some] at h
  obtain ⟨h1, h⟩ := h
  exact ⟨h1, hK _ h⟩
 ·cases h
def q6w {R : Type} (P : Program) (b : Builtin) (ts : Array TypeId) (xs : List V) (K : V → Option R) : Option R :=
 match b, xs with
 | .len, [x] => if 0 < ts.size then z7C P (ts.getD 0 0) x K else none
 | .min, [x, y] => (match x with
   | .d (.int k) _ => if y.isInt k then K (.d (.int k) (.int (if y.toInt < x.toInt then y.toInt else x.toInt))) else none
   | _ => none)
 | .max, [x, y] => (match x with
   | .d (.int k) _ => if y.isInt k then K (.d (.int k) (.int (if x.toInt < y.toInt then y.toInt else x.toInt))) else none
   | _ => none)
 | _, _ => none
theorem y6q {R : Type} {r : R} {Kr : V → Option R} {P : Program} {b : Builtin} {ts : Array TypeId} {xs : List V}  {K : V → Prop} (h : q6w P b ts xs Kr = some r) (hK : ∀ v, Kr v = some r → K v) : q8X P b ts xs K := by
 unfold q6w at h
 unfold q8X
 split at h
 ·simp only [Option.ite_none_right_eq_some] at h
  exact ⟨h.1, x2o h.2 hK⟩
 ·split at h
  ·simp only [Option.ite_none_right_eq_some] at h
   obtain ⟨h1, h⟩ := h
   exact ⟨h1, hK _ h⟩
  ·cases h
 ·split at h
  ·simp only [Option.ite_none_right_eq_some] at h
   obtain ⟨h1, h⟩ := h
   exact ⟨h1, hK _ h⟩
  ·cases h
 ·cases h
def q76 {R : Type} (P : Program) (op : Op) (ρ : Operand → V) (K : V → Option R) : Option R :=
 match op with
 | .move x => K (ρ x)
 | .assign x => K (ρ x)
 | .pick c a b => if (ρ c).isBool then (bif (ρ c).toBool then K (ρ a) else K (ρ b)) else none
 | .nilCheck x => if (ρ x).q7U = some false then K (ρ x) else none
 | .binOp op T x y _ => z7E P op T (ρ x) (ρ y) K
 | .unOp op T x => y18 P op T (ρ x) K
 | .convert src dst x => z3i P src dst (ρ x) K
 | .fieldAddr T x i => q4d P T (ρ x) i K
 | .field T x i => if (ρ x).ty = ty P T ∧ (ρ x).ty.Y5 = true ∧ ((ρ x).ty.child i).isSome = true ∧ ((ρ x).ty.get i).known = true ∧ (ρ x).plain = true ∧ ((ρ x).get i).isAny = false then K ((ρ x).get i) else none
 | .indexAddr T x i => q4c P T (ρ x) (ρ i) K
 | .index T x i => if (ρ i).U2 then (match ty P T with
   | .arr n e => if (ρ x).ty = .arr n e ∧ (ρ x).plain = true ∧ e.known = true then (if 0 ≤ (ρ i).toInt ∧ (ρ i).toInt < n then (if ((ρ x).get (ρ i).toInt.toNat).isAny = false then K ((ρ x).get (ρ i).toInt.toNat) else none) else none) else none
   | .str => if (ρ x).isStr then (if 0 ≤ (ρ i).toInt ∧ (ρ i).toInt < (ρ x).toStr.length then K (.d (.int .u8) (.int ((ρ x).toStr.getD (ρ i).toInt.toNat 0).toNat)) else none) else none
   | _ => none) else none
 | .slice T x lo hi mx => z0i P T (ρ x) (lo.map ρ) (hi.map ρ) (mx.map ρ) K
 | .extract x i => (match ρ x with
   | .tup xs => (match xs[i]? with | some y => K y | none => none)
   | _ => none)
 | .sliceToArrayPointer T x => (match ty P T, (ρ x).q3y with
   | .arr n e, some (_, e', cs) => if e' = e ∧ 0 < n then (if n ≤ cs.length then K (.cptr (.arr n e) (.agg (cs.take n))) else none) else none
   | _, _ => none)
 | .makeFunc fn first caps => (match fn, first.toList with
   | .func f, [] => if (caps.toList.map ρ).all V.plain = true then K (.fn f (caps.toList.map ρ)) else none
   | _, _ => none)
 | .call c => (match c.callee with
   | .builtin b => q6w P b c.argTypes (c.args.toList.map ρ) K
   | _ => none)
 | _ => none
theorem z3h {R : Type} {r : R} {Kr : V → Option R} {P : Program} {op : Op} {ρ : Operand → V}  {K : V → Prop} (h : q76 P op ρ Kr = some r) (hK : ∀ v, Kr v = some r → K v) : pv P op ρ K := by
 unfold q76 at h
 unfold pv
 split at h
 ·exact hK _ h
 ·exact hK _ h
 ·simp only [Option.ite_none_right_eq_some] at h
  obtain ⟨h1, h⟩ := h
  refine ⟨h1, fun e => ?_, fun e => ?_⟩ <;> rw [e] at h <;> exact hK _ h
 ·simp only [Option.ite_none_right_eq_some] at h
  obtain ⟨h1, h⟩ := h
  exact ⟨h1, hK _ h⟩
 ·exact x2q h hK
 ·exact x3V h hK
 ·exact x0X h hK
 ·exact y2b h hK
 ·simp only [Option.ite_none_right_eq_some] at h
  obtain ⟨h1, h⟩ := h
  exact ⟨h1.1, h1.2.1, h1.2.2.1, h1.2.2.2.1, h1.2.2.2.2.1, V.q4a h1.2.2.2.2.2, hK _ h⟩
 ·exact y2a h hK
 ·simp only [Option.ite_none_right_eq_some] at h
  obtain ⟨h0, h⟩ := h
  refine ⟨h0, ?_⟩
  rename_i T _ _
  generalize ty P T = τ at h ⊢
  split at h
  ·simp only [Option.ite_none_right_eq_some] at h
   obtain ⟨h1, h2, h3, h⟩ := h
   exact ⟨h1.1, h1.2.1, h1.2.2, h2.1, h2.2, V.q4a h3, hK _ h⟩
  ·simp only [Option.ite_none_right_eq_some] at h
   obtain ⟨h1, h2, h⟩ := h
   exact ⟨h1, h2.1, h2.2, hK _ h⟩
  ·cases h
 ·exact y9r h hK
 ·split at h
  ·rename_i e0
   simp only [e0]
   split at h
   ·rename_i e1; simp only [e1]; exact hK _ h
   ·cases h
  ·cases h
 ·split at h
  ·rename_i e0 e1
   simp only [e0, e1]
   simp only [Option.ite_none_right_eq_some] at h
   obtain ⟨h1, h2, h⟩ := h
   exact ⟨h1.1, h1.2, h2, hK _ h⟩
  ·cases h
 ·split at h
  ·rename_i e0
   simp only [e0]
   simp only [Option.ite_none_right_eq_some] at h
   obtain ⟨h1, h⟩ := h
   exact ⟨h1, hK _ h⟩
  ·cases h
 ·split at h
  ·rename_i e0
   simp only [e0]
   exact y6q h hK
  ·cases h
 ·cases h
def q7o {R : Type} (P : Program) (s : S) (t' : TypeId) (eb : Nat) (e : Ty) (Y : V) (K : List C → Option R) : Option R :=
 match ty P t' with
 | .slice _ _ => (match Y with
  | .nilc => K []
  | Y => match X5 s Y with
   | some (eb', e', ys) => if eb' = eb ∧ e' = e then K ys else none
   | none => none)
 | .str => if e = .int .u8 ∧ eb = 1 ∧ Y.isStr then K (Y.toStr.map fun b => C.int b.toNat) else none
 | _ => none
theorem z30 {R : Type} {r : R} {Kr : List C → Option R} {P : Program} {s : S} {A' : Key → Option O} (hA : leA s.A A') {t' : TypeId} {eb : Nat} {e : Ty} {Y : V} {K : List C → Prop} (h : q7o P s t' eb e Y Kr = some r) (hK : ∀ ys, Kr ys = some r → K ys) : q9n P (s.wA A') t' eb e Y K := by
 unfold q7o at h
 unfold q9n
 generalize ty P t' = τ at h ⊢
 cases τ <;> (try (cases h; done))
 ·simp only [Option.ite_none_right_eq_some] at h
  obtain ⟨h1, h⟩ := h
  exact ⟨h1.1, h1.2.1, h1.2.2, hK _ h⟩
 ·cases Y <;> simp only at h ⊢ <;> first
   | exact hK _ h
   | (split at h
      ·rename_i e0
       simp only [Option.ite_none_right_eq_some] at h
       obtain ⟨h1, h⟩ := h
       rw [z3Z hA e0]
       exact ⟨h1.1, h1.2, hK _ h⟩
      ·cases h)
abbrev K3 (R : Type) := V → List (Key × O) → List (Nat × Option Nat) → Option R
def q77 {R : Type} (P : Program) (m : Nat) (dst : Nat) (s : S) (t t' : TypeId) (x y : V) (K : K3 R) : Option R :=
 if Y0 P (w8 P t) = true then
 match ty P t with
 | .slice eb e => (match x with
  | .emp _ _ | .nilc => q7o P s t' eb e y fun ys =>
    if m = 3 then (if ys.isEmpty = false then K (.sr (.l dst) [] 0 ys.length none eb e) [(.l dst, .box (.d (.arr ys.length e) (.agg ys)))] [] else none) else K (.sl eb e ys dst) [] [(dst, some ys.length)]
  | _ => none)
 | _ => none
 else none
def z6R {R : Type} (P : Program) (s : S) (T : TypeId) (k : Key) (K : V → Option R) : Option R :=
 match q7V P T, s.obj k with
 | some _, some (.map _ _ es) => if es.length ≤ 9223372036854775807 then K (.d (.int .i64) (.int es.length)) else none
 | _, _ => none
def y10 : List (C × V) → C → Bool
 | [], _ => false
 | (k, _) :: l, c => bif C.beq c k then true else y10 l c
def y9i : List (C × V) → C → C
 | [], _ => .nil
 | (k, v) :: l, c => bif C.beq c k then (match v with | .d _ x => x | _ => .nil) else y9i l c
def z7I (τ : Ty) : List (C × V) → Bool
 | [] => true
 | (_, v) :: l => (match v with | .d τ' _ => Ty.beq τ' τ | _ => false) && z7I τ l
theorem y78 {τ : Ty} {c : C} : ∀ {es : List (C × V)}, z7I τ es = true → q1N es c = bif y10 es c then some (.d τ (y9i es c)) else none
 | [], _ => rfl
 | (k, v) :: l, h => by
  simp only [z7I, Bool.and_eq_true] at h
  simp only [q1N, C.z7y, y10, y9i]
  cases hb : C.beq c k with
  | true =>
   simp only [cond_true, if_true]
   obtain ⟨h1, _⟩ := h
   split at h1
   ·rw [Ty.beq_iff] at h1; subst h1; rfl
   ·cases h1
  | false =>
   simp only [cond_false, Bool.false_eq_true, if_false]
   exact y78 h.2
def z0j {R : Type} (τ : Ty) (es : List (C × V)) (c : C) (K : Option V → Option R) : Option R :=
 bif z7I τ es then (bif y10 es c then K (some (.d τ (y9i es c))) else K none) else none
theorem y9u {R : Type} {r : R} {τ : Ty} {c : C} {Kr : Option V → Option R} {es : List (C × V)} (h : z0j τ es c Kr = some r) : Kr (q1N es c) = some r := by
 unfold z0j at h
 cases ha : z7I τ es with
 | false => rw [ha] at h; cases h
 | true =>
  rw [ha] at h
  rw [y78 ha]
  cases hb : y10 es c <;> rw [hb] at h <;> exact h
def ekI {R : Type} (X : Cx) (m : Nat) (dst : Nat) (o : Oper) (ρ : Operand → V) (s : S) (K : K3 R) : Option R :=
 match o.op with
 | .load T x => (match ρ x with
   | .ptr k q τ => (match s.obj k with
     | some (.box y) => if (y.at q).isAny = false ∧ τ = ty X.P T ∧ τ.known = true then K (view (y.at q)) [] [] else none
     | _ => none)
   | .cptr τ c => if τ = ty X.P T ∧ τ.known = true then K (.d τ c) [] [] else none
   | _ => none)
 | .alloc T => if Y0 X.P T = true then K (.ptr (.l dst) [] (ty X.P T)) [(.l dst, .box (u2 (ty X.P T)))] [] else none
 | .box _ x => if m = 5 then (if (ρ x).plain = true then (match Q3 (ρ x) with
    | some cc => K (.cptr (ρ x).ty cc) [] []
    | none => none) else none)
   else if (ρ x).plain = true ∧ (ρ x).k6 = true then K (.ptr (.l dst) [] (ρ x).ty) [(.l dst, .box (ρ x))] [] else none
 | .buildSlice t len parts => (match ty X.P t with
   | .slice eb e => (match len with
    | 0 => if parts.toList.length = 0 then K (.emp eb e) [] [] else none
    | len + 1 => if Y0 X.P (w8 X.P t) = true ∧ e.size ≠ 0 ∧ (len + 1) * e.size ≤ 16777216 ∧ (len + 1) * eb ≤ 140737488355328 ∧ parts.toList.map (·.1) = List.range (len + 1) then
      (match q03 (parts.toList.map fun x => ρ x.2) with
       | some cs => if (parts.toList.map (fun x => ρ x.2)).all (fun x => decide (x.ty = e) && x.plain) = true then (if m = 4 then K (.sl eb e cs dst) [] [(dst, some cs.length)] else K (.d (.slice eb e) (.slice cs)) [] []) else none
       | none => none) else none)
   | _ => none)
 | .build T parts => if Y0 X.P T = true ∧ (ty X.P T).W9 = true ∧ (ty X.P T).isAgg = true ∧ y09 (ty X.P T) (u2 (ty X.P T)) (parts.toList.map fun p => (p.1, ρ p.2)) = true then
   K (q7s (ty X.P T) (u2 (ty X.P T)) (parts.toList.map fun p => (p.1, ρ p.2))) [] [] else none
 | .makeSlice t l c => (match ty X.P t with
   | .slice eb e => if Y0 X.P (w8 X.P t) = true ∧ (ρ l).U2 ∧ (ρ c).U2 ∧ e.size ≠ 0 then (if 0 ≤ (ρ l).toInt ∧ (ρ l).toInt ≤ (ρ c).toInt ∧ (ρ c).toInt ≤ 9223372036854775807 ∧ (ρ c).toInt.toNat * eb ≤ 140737488355328 then
     K (.sr (.l dst) [] 0 (ρ l).toInt.toNat (if m = 9 then none else some (ρ c).toInt.toNat) eb e) [(.l dst, .box (.d (.arr (ρ l).toInt.toNat e) (.agg (List.replicate (ρ l).toInt.toNat (z0 e)))))] [] else none) else none
   | _ => none)
 | .makeMap T r => (match r, q7V X.P T with
   | none, some (kt, et) => K (.mp (.l dst)) [(.l dst, .map (ty X.P kt) (ty X.P et) [])] []
   | _, _ => none)
 | .lookup T x i ok => (match q7V X.P T, ρ x with
   | some (kt, et), .mp k => (match s.obj k with
     | some (.map kτ _ es) => if kτ = ty X.P kt ∧ W2 X.P kt = true ∧ Y0 X.P et = true ∧ (ρ i).W1 kτ then
       z0j (ty X.P et) es (ρ i).toC (fun r => K (if ok then .tup [r.getD (u2 (ty X.P et)), .d .bool (.bool r.isSome)] else r.getD (u2 (ty X.P et))) [] []) else none
     | _ => none)
   | _, _ => none)
 | .call c => (match c.callee with
   | .value _ => none
   | .builtin .append => (match c.args.toList, c.argTypes.toList with
     | [x, y], [t, t'] => q77 X.P m dst s t t' (ρ x) (ρ y) K
     | _, _ => none)
   | .builtin .len => (match c.args.toList, c.argTypes.toList with
     | [x], [T] => (match ρ x with
       | .mp k => z6R X.P s T k fun v => K v [] []
       | _ => q76 X.P o.op ρ fun v => K v [] [])
     | _, _ => q76 X.P o.op ρ fun v => K v [] [])
   | _ => q76 X.P o.op ρ fun v => K v [] [])
 | .convert src dst' x => (match strOf X.P s src dst' (ρ x) with
   | some ys => K (.d .str (.str (ys.map z13))) [] []
   | none => q76 X.P o.op ρ fun v => K v [] [])
 | _ => q76 X.P o.op ρ fun v => K v [] []
theorem y7D {P : Program} {md : List (Nat × Nat)} {m dst : Nat} (hm : Q6 md dst = m) {s : S} {A' : Key → Option O} (hA : leA s.A A') {t t' : TypeId} {x y : V} {R : Type} {r : R} {Kr : K3 R} {K : V → List (Key × O) → List (Nat × Option Nat) → Prop} :
  q77 P m dst s t t' x y Kr = some r → (∀ v lo tn, Kr v lo tn = some r → K v lo tn) → Y0 P (w8 P t) = true ∧ (match ty P t, x with
       | .slice eb e, .emp _ _ => q9n P (s.wA A') t' eb e y fun ys => if Q6 md dst = 3 then ys ≠ [] ∧ K (.sr (.l dst) [] 0 ys.length none eb e) [(.l dst, .box (.d (.arr ys.length e) (.agg ys)))] [] else K (.sl eb e ys dst) [] [(dst, some ys.length)]
       | .slice eb e, .nilc => q9n P (s.wA A') t' eb e y fun ys => if Q6 md dst = 3 then ys ≠ [] ∧ K (.sr (.l dst) [] 0 ys.length none eb e) [(.l dst, .box (.d (.arr ys.length e) (.agg ys)))] [] else K (.sl eb e ys dst) [] [(dst, some ys.length)]
       | _, _ => False) := by
 intro h hK
 unfold q77 at h
 simp only [Option.ite_none_right_eq_some] at h
 obtain ⟨h0, h⟩ := h
 refine ⟨h0, ?_⟩
 generalize ty P t = τ at h ⊢
 cases τ <;> (try (cases h; done))
 cases x <;> (try (cases h; done)) <;> simp only at h ⊢ <;>
  (refine z30 hA h fun ys h => ?_
   split at h
   ·rename_i hm3
    rw [if_pos (hm.trans hm3)]
    simp only [Option.ite_none_right_eq_some] at h
    obtain ⟨h1, h⟩ := h
    exact ⟨by intro e1; subst e1; simp at h1, hK _ _ _ h⟩
   ·rename_i hm3
    rw [if_neg (by rw [hm]; exact hm3)]
    exact hK _ _ _ h)
theorem x5H {X : Cx} {md : List (Nat × Nat)} {m dst : Nat} (hm : Q6 md dst = m) {o : Oper} {ρ : Operand → V} {s base : S} {A' : Key → Option O} (hA : leA s.A A') {R : Type} {r : R} {Kr : K3 R} {K : V → List (Key × O) → List (Nat × Option Nat) → Prop} (h : ekI X m dst o ρ s Kr = some r) (hK : ∀ v lo tn, Kr v lo tn = some r → K v lo tn) :
  iop X md base dst o ρ (s.wA A') K := by
 unfold ekI at h
 unfold iop
 generalize o.op = op at h ⊢
 split at h
 ·split at h
  ·rename_i e0
   simp only [e0]
   split at h
   ·rename_i e1
    simp only [J3 hA e1]
    simp only [Option.ite_none_right_eq_some] at h
    obtain ⟨h1, h⟩ := h
    exact ⟨V.q4a h1.1, h1.2.1, h1.2.2, hK _ _ _ h⟩
   ·cases h
  ·rename_i e0
   simp only [e0]
   simp only [Option.ite_none_right_eq_some] at h
   obtain ⟨h1, h⟩ := h
   exact ⟨h1.1, h1.2, hK _ _ _ h⟩
  ·cases h
 ·simp only [Option.ite_none_right_eq_some] at h
  obtain ⟨h1, h⟩ := h
  exact ⟨h1, hK _ _ _ h⟩
 ·dsimp only
  split at h
  ·rename_i hm5
   rw [if_pos (hm.trans hm5)]
   simp only [Option.ite_none_right_eq_some] at h
   obtain ⟨h1, h⟩ := h
   split at h
   ·rename_i cc hcc
    rw [hcc]
    exact ⟨h1, hK _ _ _ h⟩
   ·cases h
  ·rename_i hm5
   rw [if_neg (by rw [hm]; exact hm5)]
   simp only [Option.ite_none_right_eq_some] at h
   obtain ⟨h1, h⟩ := h
   exact ⟨h1.1, h1.2, hK _ _ _ h⟩
 ·rename_i t len parts
  dsimp only
  generalize ty X.P t = τ at h ⊢
  cases τ <;> (try (cases h; done))
  cases len with
  | zero =>
   simp only [Option.ite_none_right_eq_some] at h
   obtain ⟨h1, h⟩ := h
   exact ⟨h1, hK _ _ _ h⟩
  | succ len =>
   simp only [Option.ite_none_right_eq_some] at h
   obtain ⟨h1, h⟩ := h
   refine ⟨h1.1, h1.2.1, h1.2.2.1, h1.2.2.2.1, h1.2.2.2.2, ?_⟩
   split at h
   ·rename_i e0
    rw [e0]
    simp only [Option.ite_none_right_eq_some] at h
    obtain ⟨h2, h⟩ := h
    refine ⟨fun x hx => ?_, ?_⟩
    ·have := List.all_eq_true.1 h2 x hx
     simpa using this
    ·rw [hm]
     split at h
     ·rename_i e4; rw [if_pos e4]; exact hK _ _ _ h
     ·rename_i e4; rw [if_neg e4]; exact hK _ _ _ h
   ·cases h
 ·simp only [Option.ite_none_right_eq_some] at h
  obtain ⟨h1, h⟩ := h
  exact ⟨h1.1, h1.2.1, h1.2.2.1, y27 h1.2.2.2, hK _ _ _ h⟩
 ·rename_i t _ _
  dsimp only
  generalize ty X.P t = τ at h ⊢
  cases τ <;> (try (cases h; done))
  simp only [Option.ite_none_right_eq_some] at h
  obtain ⟨h1, h⟩ := h
  obtain ⟨h2, h⟩ := h
  exact ⟨h1.1, h1.2.1, h1.2.2.1, h2.1, h2.2.1, h2.2.2.1, h2.2.2.2, h1.2.2.2, by rw [hm]; exact hK _ _ _ h⟩
 ·split at h
  ·rename_i e0
   simp only [e0]
   exact hK _ _ _ h
  ·cases h
 ·split at h
  ·rename_i e0 e1
   simp only [e0, e1]
   split at h
   ·rename_i e2
    simp only [J3 hA e2]
    simp only [Option.ite_none_right_eq_some] at h
    obtain ⟨h1, h⟩ := h
    refine ⟨h1.1, h1.2.1, h1.2.2.1, h1.2.2.2, ?_⟩
    exact hK _ _ _ (y9u h)
   ·cases h
  ·cases h
 ·split at h
  ·cases h
  ·rename_i e0
   simp only [e0]
   split at h
   ·rename_i e1 e2
    simp only [e1, e2]
    exact y7D hm hA h hK
   ·cases h
  ·rename_i e0
   simp only [e0]
   split at h
   ·rename_i e1 e2
    simp only [e1, e2]
    split at h
    ·rename_i e3
     simp only [e3]
     unfold z6R at h
     split at h
     ·rename_i e4 e5
      simp only [Option.ite_none_right_eq_some] at h
      obtain ⟨h2, h⟩ := h
      simp only [e4, J3 hA e5]
      exact ⟨h2, hK _ _ _ h⟩
     ·cases h
    ·rename_i hx
     split
     ·rename_i k hk
      exact (hx k hk).elim
     ·exact z3h h (fun v h => hK _ _ _ h)
   ·rename_i hx
    split
    ·rename_i a b hk hk2
     exact (hx _ _ hk hk2).elim
    ·exact z3h h (fun v h => hK _ _ _ h)
  ·rename_i h1 h2 h3
   dsimp only
   split
   ·rename_i e; exact (h1 _ e).elim
   ·rename_i e; exact (h2 e).elim
   ·rename_i e; exact (h3 e).elim
   ·exact z3h h (fun v h => hK _ _ _ h)
 ·split at h
  ·rename_i e0
   simp only [x1y hA e0]
   exact hK _ _ _ h
  ·have hp := z3h (K := fun y => K y [] []) h (fun v h => hK _ _ _ h)
   dsimp only
   split
   ·rename_i e1
    exact (y4D (K := fun y => K y [] []) e1 hp).elim
   ·exact hp
 ·split <;> first
   | exact z3h h (fun v h => hK _ _ _ h)
   | (rename_i hx; exact (hx _ rfl).elim)
   | (rename_i hx _; exact (hx _ _ rfl).elim)
   | (rename_i hx _ _ _ _; exact (hx _ _ _ _ rfl).elim)
   | (rename_i hx _ _ _ _ _; exact (hx _ _ _ _ rfl).elim)
   | (exfalso; simp [q76] at h; done)
   | simp_all
end Go.E
