/-
 A framework for runs of Go code over abstract data: what it needs, and that it is sound, part 4.
 Conditions: none.
-/
import Derived.Test.YtefppgmopnnphaaDoorEc
set_option linter.all false
namespace Go.E
open Go
mutual
def Ty.J6 : Ty → Bool
 | .int _ | .bool | .str => true
 | .arr _ e => e.J6
 | .struct _ _ fs => Ty.z4R fs
 | _ => false
def Ty.z4R : List Ty → Bool
 | [] => true
 | t :: ts => t.J6 && Ty.z4R ts
end
mutual
theorem z6.J6 {H H' : Hp} : ∀ {τ : Ty} {vs : List Value} {c : C}, τ.J6 = true → z6 H τ vs c → z6 H' τ vs c
 | .int _, _, _, _, r => by simpa [z6] using r
 | .bool, _, _, _, r => by simpa [z6] using r
 | .str, _, _, _, r => by simpa [z6] using r
 | .arr n e, vs, c, h, r => by
  simp only [z6] at r ⊢
  obtain ⟨cs, rfl, h1, h2, h4, h3⟩ := r
  exact ⟨cs, rfl, h1, h2, h4, fun i c hi => z6.J6 (by simpa [Ty.J6] using h) (h3 i c hi)⟩
 | .struct sz os fs, vs, c, h, r => by
  simp only [z6] at r ⊢
  obtain ⟨cs, rfl, h1, h4, h2⟩ := r
  exact ⟨cs, rfl, h1, h4, r6.J6 (by simpa [Ty.J6] using h) h2⟩
 | .slice _ _, _, _, h, _ | .ptr, _, _, h, _ | .map, _, _, h, _ | .func, _, _, h, _ | .iface, _, _, h, _ | .opq _, _, _, h, _ => by simp [Ty.J6] at h
theorem r6.J6 {H H' : Hp} : ∀ {fs : List Ty} {os : List Nat} {vs : List Value} {cs : List C}, Ty.z4R fs = true → r6 H fs os vs cs → r6 H' fs os vs cs
 | [], _, _, _, _, r => by simpa [r6] using r
 | f :: fs, o :: os, vs, cs, h, r => by
  simp only [Ty.z4R, Bool.and_eq_true] at h
  simp only [r6] at r ⊢
  obtain ⟨c, cs', rfl, h1, h2, h3⟩ := r
  exact ⟨c, cs', rfl, h1, z6.J6 h.1 h2, r6.J6 h.2 h3⟩
 | _ :: _, [], _, _, _, r => by simp [r6] at r
end
def V.q9a : List V → Bool
 | [] => true
 | x :: xs => (match x with | .d τ _ => τ.J6 | _ => false) && V.q9a xs
def V.J6 : V → Bool
 | .d τ _ => τ.J6
 | .tup vs => V.q9a vs
 | _ => false
theorem z0A {Γ Γ' : G} : ∀ {xs : List V} {vs : List Value}, V.q9a xs = true → y9 Γ xs vs → y9 Γ' xs vs
 | [], vs, _, h => by simpa [y9] using h
 | x :: xs, vs, hx, h => by
  simp only [V.q9a, Bool.and_eq_true] at hx
  simp only [y9] at h ⊢
  obtain ⟨v, vs', rfl, h1, h2, h3⟩ := h
  refine ⟨v, vs', rfl, ?_, h2, z0A hx.2 h3⟩
  cases x <;> simp at hx
  simp only [q8] at h1 ⊢
  exact h1.J6 hx.1
theorem y25 {Γ Γ' : G} {x : V} {v : Value} (hx : x.J6 = true) (h : q9 Γ x v) : q9 Γ' x v := by
 cases x <;> simp [V.J6] at hx
 ·rw [j6] at h ⊢
  exact ⟨h.1.J6 hx, h.2⟩
 ·simp only [q9] at h ⊢
  obtain ⟨vs, rfl, h⟩ := h
  exact ⟨vs, rfl, z0A hx h⟩
theorem y1n {x : V} (hx : x.J6 = true) (n : Nat) : x.X9 n = x := by
 cases x <;> simp [V.J6] at hx
 ·rfl
 ·rename_i vs
  simp only [V.X9]
  congr 1
  have : ∀ (l : List V) (n : Nat), V.q9a l = true → X3 n l = l := by
   intro l
   induction l with
   | nil => intros; rfl
   | cons x xs ih =>
    intro n h
    simp only [V.q9a, Bool.and_eq_true] at h
    simp only [X3]
    rw [ih _ h.2]
    cases x <;> simp at h <;> rfl
  exact this vs n hx
def G.q5r (w : World) (gl : Nat → Option (Ty × C)) : G where
 H b := match w.heap[b]? with
  | some (.cells arr _ _) => some arr.toList
  | _ => none
 Z b := w.heap[b]?
 ι _ := none
 τ _ := none
 κ _ := none
 gl := gl
 oo := oof w
 σ _ := none
def q0V (s : S) : V → V
 | .sr k q lo n cp eb e => (match Z9 s (.sr k q lo n cp eb e) with
  | some (eb', e', cs) => .d (.slice eb' e') (.slice cs)
  | none => .any)
 | x => bif x.plain then (match c6 x with
  | some c => .d x.ty c
  | none => .any) else .any
def q2s : List V → Bool
 | [] => true
 | x :: xs => (match x with | .d _ _ => true | _ => false) && q2s xs
section
variable {P : Program} {Γ : G} {w : World} {s : S}
theorem z2y (c : z8 Γ w s) (gl : Nat → Option (Ty × C)) : Γ.H.le (G.q5r w gl).H := by
 intro b l h
 obtain ⟨arr, T, fr, r, h1, h2⟩ := c.hH b l h
 exact ⟨r, by simp only [G.q5r, h1, h2]⟩
theorem z5u (c : z8 Γ w s) (gl : Nat → Option (Ty × C)) {Y : V} {v : Value} {eb : Nat} {e : Ty} {ys : List C} (hr : q9 Γ Y v) (he : Z9 s Y = some (eb, e, ys)) :
  q9 (G.q5r w gl) (.d (.slice eb e) (.slice ys)) v := by
 have hle := z2y c gl
 have frozen : ∀ {eb : Nat} {e : Ty} {ys : List C}, Y.q2r = some (eb, e, ys) → q9 (G.q5r w gl) (.d (.slice eb e) (.slice ys)) v := by
  intro eb e ys he
  obtain ⟨a, n, cap, rfl, h1, h2, h3, h4, h5⟩ := q01 hr he
  exact j6.2 ⟨h5.mono hle, rfl⟩
 cases Y <;> (try exact frozen he)
 case sr k q lo n cp eb' e' =>
  simp only [Z9] at he
  cases ho : s.obj k with
  | none => simp [ho] at he
  | some o =>
   cases o with
   | map => simp [ho] at he
   | it => simp [ho] at he
   | dead => simp [ho] at he
   | box x =>
    simp only [ho] at he
    cases hx : x.at q with
    | d τ cc =>
     simp only [hx, Option.some.injEq, Prod.mk.injEq] at he
     obtain ⟨rfl, rfl, rfl⟩ := he
     rcases q0A hr with ⟨_, rfl, a, rfl⟩ | ⟨b, τ0, o0, m, cap, a, a1, a2, a3, rfl, a4, a5, a6, a7, _⟩
     ·exact j6.2 ⟨u6 (by simp) (Nat.le_refl _) (Nat.zero_le _) (by rw [Nat.zero_mul]; exact Nat.zero_le _) (.inl rfl), rfl⟩
     obtain ⟨b', cells, T, g1, g2, g3, g4, g5, g6, g7, _⟩ := c.own a1 ho
     rw [a1] at g1; cases g1
     obtain ⟨q1, q2, q3⟩ := g6.at_ a2 (by rw [hx]; simp) g7
     rw [hx] at q1 q3
     simp only [V.ty] at q1
     subst q1
     simp only [q8, z6] at q3
     obtain ⟨cs, rfl, r1, r2, r3, r4⟩ := q3
     simp only [C.elems]
     rw [r7 _ _ _ (by simpa using g5)] at q2
     have hlen : ((cs.drop lo).take n).length = n := by simp; omega
     have hmul : (lo + n) * e'.size ≤ m * e'.size := Nat.mul_le_mul_right _ a3
     rw [Nat.add_mul] at hmul
     simp only [Ty.size] at q2 r2 r4
     have hall : o0 + lo * e'.size + n * e'.size ≤ cells.toList.length := by simp; omega
     refine j6.2 ⟨u6 hlen a5 a6 a7 ?_, rfl⟩
     rcases Nat.eq_zero_or_pos n with h0 | h0
     ·exact .inl h0
     ·have ha : a = some ⟨b, o0 + lo * e'.size, none⟩ := by rcases a4 with h | h; · omega
                                                            ·exact h
      refine .inr ⟨b, o0 + lo * e'.size, cells.toList, ha, by simp only [G.q5r, g4], hall, fun i c' hi => ?_⟩
      rw [List.getElem?_take] at hi
      split at hi
      ·rename_i hin
       rw [List.getElem?_drop] at hi
       have := r4 _ _ hi
       have hle2 : (lo + i + 1) * e'.size ≤ m * e'.size := Nat.mul_le_mul_right _ (by omega)
       rw [Nat.add_mul, Nat.add_mul] at hle2
       rw [Nat.add_mul] at this
       rw [o9 _ _ _ _ _ (by omega), o9 _ _ _ _ _ (by omega)] at this
       rw [show 0 + (o0 + (lo * e'.size + i * e'.size)) = o0 + lo * e'.size + i * e'.size by omega] at this
       exact this.mono hle
      ·cases hi
    | _ => simp [hx] at he
theorem y6h (c : z8 Γ w s) (gl : Nat → Option (Ty × C)) {x : V} {v : Value} {τ : Ty} {cc : C} (hr : q9 Γ x v) (h : q0V s x = .d τ cc) : q9 (G.q5r w gl) (.d τ cc) v := by
 have other : ∀ {τ : Ty} {cc : C}, (bif x.plain then (match c6 x with
  | some c => V.d x.ty c
  | none => .any) else .any) = .d τ cc → q9 (G.q5r w gl) (.d τ cc) v := by
  intro τ cc h
  cases hp : x.plain with
  | false => rw [hp] at h; cases h
  | true =>
   rw [hp] at h
   simp only [cond_true] at h
   split at h
   ·rename_i c0 hc0
    cases h
    obtain ⟨h1, h2⟩ := (x3 hp).1 hr
    exact j6.2 ⟨(q2q x h1 hc0).mono (z2y c gl), h2⟩
   ·cases h
 cases x <;> first
  | exact other h
  | (simp only [q0V] at h
     split at h
     ·rename_i he
      cases h
      exact z5u c gl hr he
     ·cases h)
theorem y5m (hgl : ∃ gl0, Γ.gl = gl0) (c : z8 Γ w s) {xs : List V} (hx : q2s xs = true) : z8 (G.q5r w Γ.gl) w (S.start xs fun _ => none) := by
 have htk : ∀ (l : List V) (n : Nat), q2s l = true → q1Q n l = [] := by
  intro l
  induction l with
  | nil => intros; rfl
  | cons x xs ih =>
   intro n h
   simp only [q2s, Bool.and_eq_true] at h
   simp only [q1Q]
   rw [ih _ h.2]
   cases x <;> simp at h <;> rfl
 refine ⟨fun b l h => ?_, fun b o h => h, fun b o sz h => (by cases h), fun k o h => ?_, fun k h => absurd rfl h, fun k k' b τ τ' h _ => (by cases h), fun t L h => ?_, fun t h => absurd rfl h, fun g τ cc h => ?_, rfl, fun b sz h => (by cases h)⟩
 ·simp only [G.q5r] at h
  split at h
  ·rename_i arr T fr hw
   cases h
   exact ⟨arr, T, fr, [], hw, by simp⟩
  ·cases h
 ·exfalso
  cases k <;> simp [S.start, S.obj, Q2, z7] at h
 ·exfalso
  simp [S.start, S.live, H7, htk xs 1000 hx, look] at h
 ·obtain ⟨l, h1, h2, h3⟩ := c.hgl g τ cc h
  obtain ⟨r, hr⟩ := z2y c Γ.gl g l h1
  refine ⟨l ++ r, hr, by simp; omega, ?_⟩
  rw [q2e _ _ _ _ (by omega)]
  exact h3.mono (z2y c Γ.gl)
theorem y7s : AOk fun _ => none := fun _ _ h => by cases h
theorem y6T {w' : World} {gl : Nat → Option (Ty × C)} {Γ' : G} {s' : S} (gle : GLe (G.q5r w gl) Γ') (c' : z8 Γ' w' s') : Ext w w' := by
 have old : ∀ b, b < w.heap.size → w'.heap[b]? = w.heap[b]? := fun b hb => by
  have h1 : w.heap[b]? = some w.heap[b] := Array.getElem?_eq_getElem hb
  rw [h1]
  exact c'.hZ b _ (by rw [gle.Z]; exact h1)
 refine ⟨?_, old, ?_⟩
 ·rcases Nat.eq_zero_or_pos w.heap.size with h | h
  ·omega
  ·have h1 := old (w.heap.size - 1) (by omega)
   rw [Array.getElem?_eq_getElem (show w.heap.size - 1 < w.heap.size by omega)] at h1
   have := lt_of_heap h1
   omega
 ·rw [c'.hoo, gle.oo]; rfl
theorem y8M {X : Cx} (hgl : Γ.gl = X.gl) (c : z8 Γ w s) {o : Oper} {a : Act} {fo : Operand} {f : FuncId} {as : Array Operand} {ts : Array TypeId} {xs : List V} {v : V}
  (ho : o.op = .call { callee := .value fo, args := as, argTypes := ts }) (hcal : q1O X.P f = true) (hf : q9 Γ (.fn f []) (a.eval fo))
  (hlen : xs.length = as.toList.length) (hr : ∀ (i : Nat) x y, xs[i]? = some x → as.toList[i]? = some y → q9 (G.q5r w Γ.gl) x (a.eval y)) (hx : q2s xs = true) (D : j7 X f xs (fun _ => none) v []) (hv : v.J6 = true) :
  u5 X.P o a w (s9 Γ w s v) := by
 obtain ⟨cv, hfv, hcl, _⟩ := z2l hf
 have hcv : cv = #[] := by
  apply Array.eq_empty_of_size_eq_zero
  simpa using hcl.symm
 subst hcv
 have run : (execOp a.eval o).run X.P w = .ok (.enter f (as.map a.eval)) w := by
  unfold execOp
  simp [ho, resolve, hfv, Deferred.ofValue, invoke, z1c hcal]
 have hsl : ∀ (l : List V) (n : Nat), q2s l = true → X3 n l = l := by
  intro l
  induction l with
  | nil => intros; rfl
  | cons x xs ih =>
   intro n h
   simp only [q2s, Bool.and_eq_true] at h
   simp only [X3]
   rw [ih _ h.2]
   cases x <;> simp at h <;> rfl
 refine u5.enter run ?_
 refine (D (fun _ => none) (G.q5r w Γ.gl) w (as.map a.eval) (fun _ _ h => h) hgl ⟨y5m ⟨_, rfl⟩ c hx, y7s⟩ (by simpa using hlen) fun i x u hx' hu => ?_).mono ?_
 ·rw [hsl xs 1000 hx] at hx'
  rw [Array.getElem?_map] at hu
  cases hy : as[i]? with
  | none => rw [hy] at hu; cases hu
  | some y =>
   rw [hy] at hu
   cases hu
   exact hr i x y hx' (by simpa using hy)
 ·rintro e w' ⟨u, Γ', rfl, gle, c', hv'⟩
  rw [y1n hv] at hv'
  exact ⟨u, rfl, s9.ext c (y6T gle c') (y25 hv hv')⟩
end
end Go.E
namespace Go.E
open Go
def y02 : Value → V
 | .int k n => .d (.int k) (.int n)
 | .bool b => .d .bool (.bool b)
 | .string s => .d .str (.str s.data.toList)
 | .pointer none => .d .ptr .nil
 | .slice none 0 0 => .nilc
 | .map none => .d .map .nil
 | .nilFunc => .d .func .nil
 | .nilIface => .d .iface .nil
 | _ => .any
def z6S : Value → Bool
 | .int k n => decide (k.min ≤ n ∧ n ≤ k.max)
 | .string s => decide (s.data.toList.length ≤ 140737488355328)
 | _ => true
def q8a : Operand → Bool
 | .const v => z6S v
 | _ => true
def q7q (n : Nat) (o : Oper) : Bool :=
 o.op.operands.all q8a && (match o.dst with | some d => decide (d < n) | none => true)
def x7 (gl : Nat → Option (Ty × C)) (s : S) : Operand → V
 | .tmp t => s.get t
 | .const v => y02 v
 | .global g => match gl g with
  | some (τ, c) => .cptr τ c
  | none => .any
 | .func f => .fn f []
def c5 (md : List (Nat × Nat)) (d : Nat) : Nat := (look md d).getD 0
def S.add (s : S) (lo : List (Key × O)) (tn : List (Nat × Option Nat)) : S := { s with loc := lo ++ s.loc, tk := tn ++ s.tk }
def q37 : List (Key × O) → Bool
 | [] => true
 | (.l _, _) :: l => q37 l
 | (.g _, _) :: _ => false
def q6r (P : Program) (s : S) (t' : TypeId) (eb : Nat) (e : Ty) (Y : V) (K : List C → Prop) : Prop :=
 match ty P t' with
 | .slice _ _ => (match Y with
  | .nilc => K []
  | Y => match Z9 s Y with
   | some (eb', e', ys) => eb' = eb ∧ e' = e ∧ K ys
   | none => False)
 | .str => e = .int .u8 ∧ eb = 1 ∧ Y.isStr ∧ K (Y.toStr.map fun b => C.int b.toNat)
 | _ => False
theorem q55 {P : Program} (hP : x6 P = true) {s : S} {t' : TypeId} {eb : Nat} {e : Ty} {Y : V} {K : List C → Prop} (h : q6r P s t' eb e Y K) : ∃ ys, K ys ∧ q6M P s t' eb e Y ys := by
 unfold q6r at h
 split at h
 ·rename_i eb0 e0 ht
  obtain ⟨E, hu, _⟩ := q09 hP ht
  split at h
  ·exact ⟨[], h, .inl ⟨⟨E, hu⟩, .inr ⟨rfl, rfl⟩⟩⟩
  ·split at h
   ·rename_i eb' e' ys he
    obtain ⟨rfl, rfl, hK⟩ := h
    exact ⟨ys, hK, .inl ⟨⟨E, hu⟩, .inl he⟩⟩
   ·exact h.elim
 ·rename_i ht
  obtain ⟨h1, h2, h3, hK⟩ := h
  exact ⟨_, hK, .inr ⟨q53 ht, h3, h1, h2, rfl⟩⟩
 ·exact h.elim
def q8o (X : Cx) (f : FuncId) (xs : List V) (v : V) : Prop :=
 ∀ (Γ : G) (w : World) (args : Array Value), xs.length = args.size → (∀ (i : Nat) x u, xs[i]? = some x → args[i]? = some u → q9 Γ x u) → ∃ u, (callFunc f args).run X.P w = .ok (.value u) w ∧ q9 Γ v u
mutual
def V.pks : V → List Key
 | .ptr k _ _ | .mp k => [k]
 | .sr k _ _ _ (some _) _ _ => [k]
 | .agg _ vs => V.q4M vs
 | _ => []
def V.q4M : List V → List Key
 | [] => []
 | x :: xs => x.pks ++ V.q4M xs
end
def q3L : Nat → List (Key × O) → List Key → List (Key × O)
 | 0, _, _ => []
 | n + 1, loc, ks => ks.flatMap fun k => match z7 loc k with
  | some o => (k, o) :: (match o with | .box x => q3L n loc x.pks | _ => [])
  | none => []
def S.see (base s : S) (xs : List V) : S := { base with loc := q3L 3 s.loc (V.q4M xs) ++ base.loc }
def y6d (y : V) (q : List Nat) (t τ : Ty) (K : V → Prop) : Prop :=
 match y, t with
 | .d (.arr M e) c, .arr m e' => q ≠ [] ∧ e' = e ∧ τ = e ∧ (Ty.arr m e).known = true ∧ q.getLastD 0 + m ≤ M ∧ K (.d (.arr m e) (.agg ((c.elems.drop (q.getLastD 0)).take m)))
 | _, _ => False
noncomputable def iop (X : Cx) (md : List (Nat × Nat)) (base : S) (dst : Nat) (o : Oper) (ρ : Operand → V) (s : S) (K : V → List (Key × O) → List (Nat × Option Nat) → Prop) : Prop :=
 match o.op with
 | .load T x => if c5 md dst = 18 then (match ρ x with
   | .ptr k q τ => (match s.obj k with
     | some (.box y) => y6d (y.at q.dropLast) q (ty X.P T) τ fun v => K v [] []
     | _ => False)
   | _ => False)
  else (match ρ x with
   | .ptr k q τ => (match s.obj k with
     | some (.box y) => y.at q ≠ .any ∧ τ = ty X.P T ∧ τ.known = true ∧ K (view (y.at q)) [] []
     | _ => False)
   | .cptr τ c => τ = ty X.P T ∧ τ.known = true ∧ K (.d τ c) [] []
   | _ => False)
 | .alloc T => Q7 X.P T = true ∧ K (.ptr (.l dst) [] (ty X.P T)) [(.l dst, z9Q (ty X.P T) T)] []
 | .box _ x => if c5 md dst = 5 then (ρ x).plain = true ∧ (match c6 (ρ x) with
    | some cc => K (.cptr (ρ x).ty cc) [] []
    | none => False)
   else (ρ x).plain = true ∧ (ρ x).u7 = true ∧ K (.ptr (.l dst) [] (ρ x).ty) [(.l dst, .box (ρ x))] []
 | .buildSlice t len parts => (match ty X.P t with
   | .slice eb e => (match len with
    | 0 => parts.toList.length = 0 ∧ K (.emp eb e) [] []
    | len + 1 => Q7 X.P (x4 X.P t) = true ∧ e.size ≠ 0 ∧ (len + 1) * e.size ≤ 16777216 ∧ (len + 1) * eb ≤ 140737488355328 ∧ parts.toList.map (·.1) = List.range (len + 1) ∧
      (match q0H (parts.toList.map fun x => ρ x.2) with
       | some cs => (∀ x ∈ parts.toList.map (fun x => ρ x.2), x.ty = e ∧ x.plain = true) ∧ (if c5 md dst = 4 then K (.sl eb e cs dst) [] [(dst, some cs.length)] else K (.d (.slice eb e) (.slice cs)) [] [])
       | none => False))
   | _ => False)
 | .build T parts => Q7 X.P T = true ∧ (ty X.P T).H0 = true ∧ (ty X.P T).isAgg = true ∧ q5A (ty X.P T) (j9 (ty X.P T)) (parts.toList.map fun p => (p.1, ρ p.2)) ∧
   K (q49 (ty X.P T) (j9 (ty X.P T)) (parts.toList.map fun p => (p.1, ρ p.2))) [] []
 | .makeSlice t l c => (match ty X.P t with
   | .slice eb e => Q7 X.P (x4 X.P t) = true ∧ (ρ l).X7 ∧ (ρ c).X7 ∧ 0 ≤ (ρ l).toInt ∧ (ρ l).toInt ≤ (ρ c).toInt ∧ (ρ c).toInt ≤ 9223372036854775807 ∧ (ρ c).toInt.toNat * eb ≤ 140737488355328 ∧ e.size ≠ 0 ∧
     K (.sr (.l dst) [] 0 (ρ l).toInt.toNat (if c5 md dst = 9 then none else some (ρ c).toInt.toNat) eb e) [(.l dst, .box (.d (.arr (ρ l).toInt.toNat e) (.agg (List.replicate (ρ l).toInt.toNat (Q1 e)))))] []
   | _ => False)
 | .makeMap T r => (match r, q5n X.P T with
   | none, some (kt, et) => K (.mp (.l dst)) [(.l dst, .map (ty X.P kt) (ty X.P et) [])] []
   | _, _ => False)
 | .lookup T x i ok => (match q5n X.P T, ρ x with
   | some (kt, et), .mp k => (match s.obj k with
     | some (.map kτ _ es) => kτ = ty X.P kt ∧ q0M X.P kt = true ∧ Q7 X.P et = true ∧ (ρ i).Y4 kτ ∧
       K (if ok then .tup [q3r X.P et es (ρ i).toC, .d .bool (.bool (q1n es (ρ i).toC).isSome)] else q3r X.P et es (ρ i).toC) [] []
     | _ => False)
   | _, _ => False)
 | .call c => (match c.callee with
   | .value fo => (match ρ fo with
     | .fn f caps => (q1O X.P f = true ∧ c.argTypes.toList.length = c.args.toList.length ∧
      ∃ b v L, (b = base ∨ b = base.see s (Z6 (c.args.toList.map ρ) caps)) ∧ j7 X f (Q6 X.P false s (q48 c.argTypes.toList caps) (Z6 (c.args.toList.map ρ) caps)) b.up v L ∧ q37 L = true ∧
       K ((v.X9 2000).ren (dn dst) (rk dst)) (dnL dst L) (dnT dst (v.tkR 2000))) ∨
      (caps = [] ∧ ∃ v, q8o X f (c.args.toList.map ρ) v ∧ K v [] []) ∨
      (caps = [] ∧ q1O X.P f = true ∧ ∃ v, q2s (c.args.toList.map fun y => q0V s (ρ y)) = true ∧ j7 X f (c.args.toList.map fun y => q0V s (ρ y)) (fun _ => none) v [] ∧ v.J6 = true ∧ K v [] [])
     | _ => False)
   | .builtin .append => (match c.args.toList, c.argTypes.toList with
     | [x, y], [t, t'] => Q7 X.P (x4 X.P t) = true ∧ (match ty X.P t, ρ x with
       | .slice eb e, .emp _ _ => q6r X.P s t' eb e (ρ y) fun ys => if c5 md dst = 3 then ys ≠ [] ∧ K (.sr (.l dst) [] 0 ys.length none eb e) [(.l dst, .box (.d (.arr ys.length e) (.agg ys)))] [] else K (.sl eb e ys dst) [] [(dst, some ys.length)]
       | .slice eb e, .nilc => q6r X.P s t' eb e (ρ y) fun ys => if c5 md dst = 3 then ys ≠ [] ∧ K (.sr (.l dst) [] 0 ys.length none eb e) [(.l dst, .box (.d (.arr ys.length e) (.agg ys)))] [] else K (.sl eb e ys dst) [] [(dst, some ys.length)]
       | _, _ => False)
     | _, _ => False)
   | .builtin .len => (match c.args.toList, c.argTypes.toList with
     | [x], [T] => (match ρ x with
       | .mp k => (match q5n X.P T, s.obj k with
         | some _, some (.map _ _ es) => es.length ≤ 9223372036854775807 ∧ K (.d (.int .i64) (.int es.length)) [] []
         | _, _ => False)
       | _ => pv X.P o.op ρ fun y => K y [] [])
     | _, _ => pv X.P o.op ρ fun y => K y [] [])
   | _ => pv X.P o.op ρ fun y => K y [] [])
 | .convert src dst' x => (match strOf X.P s src dst' (ρ x) with
   | some ys => K (.d .str (.str (ys.map q8n))) [] []
   | none => pv X.P o.op ρ fun y => K y [] [])
 | _ => pv X.P o.op ρ fun y => K y [] []
structure Compat (s' s base : S) : Prop where
 obj : ∀ k o, s.obj k = some o → s'.obj k ≠ none → s'.obj k = some o
 base : ∀ k o, base.obj k = some o → s'.obj k = some o
structure z8T (s : S) (lo : List (Key × O)) (tn : List (Nat × Option Nat)) : Prop where
 l : ∀ k o, z7 lo k = some o → s.obj k = none
 t : ∀ t x, look tn t = some x → s.known t = false
section
variable {X : Cx} {Γ : G} {w : World} {s : S}
theorem Compat.getObj {s' base : S} (h : Compat s' s base) (c : z8 Γ w s') {k : Key} {o : O} (hι : Γ.ι k ≠ none) (ho : s.obj k = some o) : s'.obj k = some o := h.obj k o ho (c.dom k hι)
theorem q5v {s' base : S} (h : Compat s' s base) (c : z8 Γ w s') {x : V} {v : Value} {r : Nat × Ty × List C} (hr : q9 Γ x v) (he : Z9 s x = some r) : ∃ x', q9 Γ x' v ∧ (x' = .nilc → x = .nilc) ∧ Z9 s' x' = some r := by
 cases x <;> (try exact ⟨_, hr, id, he⟩)
 case sr k q lo n cp eb e =>
  rcases q0A hr with ⟨_, rfl, a, rfl⟩ | ⟨b, τ0, o, m, cap, a, hι, _⟩
  ·refine ⟨.emp eb e, q2E, (fun h => by cases h), ?_⟩
   simp only [Z9] at he
   split at he
   ·split at he
    ·rw [← he]; simp [Z9, V.q2r]
    ·cases he
   ·cases he
  ·refine ⟨_, hr, id, ?_⟩
   simp only [Z9] at he ⊢
   cases ho : s.obj k with
   | none => simp [ho] at he
   | some o =>
    rw [h.getObj c (by rw [hι]; simp) ho]
    rw [ho] at he; exact he
theorem z89 {P : Program} {s' base : S} (h : Compat s' s base) (c : z8 Γ w s') {src dst : TypeId} {Y : V} {v : Value} {ys : List C} (hr : q9 Γ Y v) (he : strOf P s src dst Y = some ys) : ∃ Y', q9 Γ Y' v ∧ strOf P s' src dst Y' = some ys := by
 cases hel : Z9 s Y with
 | some r =>
  obtain ⟨Y', h1, h2, h3⟩ := q5v h c hr hel
  by_cases hY : Y = .nilc
  ·subst hY; exact ⟨_, hr, he⟩
  refine ⟨Y', h1, ?_⟩
  rw [← he]
  unfold strOf
  have hY' : Y' ≠ .nilc := fun e => hY (h2 e)
  rw [hel, h3]
  cases Y <;> first | exact absurd rfl hY | (cases Y' <;> first | exact absurd rfl hY' | rfl)
 | none =>
  refine ⟨_, hr, ?_⟩
  unfold strOf at he ⊢
  rw [hel] at he
  split at he
  ·split at he
   ·rename_i h0
    rw [if_pos h0]
    split at he
    ·exact he
    ·cases he
   ·cases he
  ·cases he
theorem q4B {P : Program} {s' base : S} (h : Compat s' s base) (c : z8 Γ w s') {t' : TypeId} {eb : Nat} {e : Ty} {Y : V} {v : Value} {ys : List C} (hr : q9 Γ Y v) (he : q6M P s t' eb e Y ys) : ∃ Y', q9 Γ Y' v ∧ q6M P s' t' eb e Y' ys := by
 rcases he with ⟨h1, h2 | h2⟩ | h1
 ·obtain ⟨Y', a, _, b⟩ := q5v h c hr h2
  exact ⟨Y', a, .inl ⟨h1, .inl b⟩⟩
 ·exact ⟨_, hr, .inl ⟨h1, .inr h2⟩⟩
 ·exact ⟨_, hr, .inr h1⟩
theorem y1S {P : Program} (s s' : S) (T : TypeId) (x : V) : J8 P false s T x = J8 P false s' T x := by
 cases x <;> simp [J8]
theorem q5c {P : Program} (s s' : S) : ∀ (Ts : List TypeId) (xs : List V), Q6 P false s Ts xs = Q6 P false s' Ts xs
 | [], _ => rfl
 | _ :: _, [] => rfl
 | T :: Ts, x :: xs => by simp only [Q6, y1S s s', q5c s s' Ts xs]
theorem q4N (s : S) : ∀ (xs : List V), b7 false s xs = []
 | [] => rfl
 | x :: xs => by
  have : Z1 false s x = none := by cases x <;> simp [Z1]
  simp [b7, this, q4N s xs]
theorem z4O : ∀ {L : List (Key × O)} {k : Key} {o : O}, q37 L = true → z7 L (.g k) = some o → False
 | [], _, _, _, h => by simp [z7] at h
 | (.l n, _) :: L, k, o, hl, h => by simp [z7] at h; exact z4O (L := L) (by simpa [q37] using hl) h
 | (.g _, _) :: _, _, _, hl, _ => by simp [q37] at hl
theorem z9F (d : Nat) : ∀ {L : List (Key × O)} {j : Nat} {o : O}, q37 L = true → z7 L (.l j) = some o → z7 (dnL d L) (.l (rk d j)) = some (o.ren (dn d))
 | [], _, _, _, h => by simp [z7] at h
 | (.l n, o') :: L, j, o, hl, h => by
  simp only [z7] at h
  simp only [dnL, z7, dn]
  by_cases e : n = j
  ·subst e; simp at h; subst h; simp
  ·have e1 : Key.l n ≠ .l j := by intro h; cases h; exact e rfl
   have e2 : Key.l (rk d n) ≠ .l (rk d j) := by intro h; simp [rk] at h; exact e h
   rw [if_neg e1] at h
   rw [if_neg e2]
   exact z9F d (L := L) (by simpa [q37] using hl) h
 | (.g _, _) :: _, _, _, hl, _ => by simp [q37] at hl
theorem y1y (d : Nat) (l : List (Nat × Option Nat)) (m : Nat) : look (dnT d l) (rk d m) = look l m := by rw [q90, q5k]
def y4a (X : Cx) (base : S) (o : Oper) (ρ : Operand → V) (s : S) (v : V) (lo : List (Key × O)) (tn : List (Nat × Option Nat)) : Prop :=
 ∀ (Γ : G) (w : World) (a : Act) (s' : S), Γ.gl = X.gl → z8 Γ w s' → Compat s' s base → z8T s' lo tn → (∀ y ∈ o.op.operands, q9 Γ (ρ y) (a.eval y)) → u5 X.P o a w (s9 Γ w (s'.add lo tn) v)
theorem y8L (hP : x6 X.P = true) {o : Oper} {ρa : Operand → V} {K : V → Prop} (h : pv X.P o.op ρa K) :
  ∃ v, K v ∧ ∀ (Γ : G) (w : World) (a : Act) (s' : S), z8 Γ w s' → (∀ y ∈ o.op.operands, q9 Γ (ρa y) (a.eval y)) → u5 X.P o a w (s9 Γ w s' v) := by
 obtain ⟨v, hK, hs⟩ := y6q hP h
 refine ⟨v, hK, fun Γ w a s' c hr => ?_⟩
 obtain ⟨u, h1, h2⟩ := hs Γ w a.eval hr
 exact u5.val h1 (s9.same c h2)
mutual
theorem z6m {Γ : G} : ∀ {x : V} {hm : Option Key} {p : List Nat} {vs : List Value}, q8 Γ hm p x vs → ∀ k ∈ x.pks, Γ.ι k ≠ none
 | .ptr k0 q τ, _, _, _, h, k, hk => by
  simp only [V.pks, List.mem_singleton] at hk; subst hk
  simp only [q8] at h
  obtain ⟨b, τ0, o, h1, _⟩ := h
  rw [h1]; simp
 | .mp k0, _, _, _, h, k, hk => by
  simp only [V.pks, List.mem_singleton] at hk; subst hk
  simp only [q8] at h
  obtain ⟨b, h1, _⟩ := h
  rw [h1]; simp
 | .sr k0 q lo n (some c) eb e, _, _, _, h, k, hk => by
  simp only [V.pks, List.mem_singleton] at hk; subst hk
  simp only [q8] at h
  rcases h with ⟨h, _⟩ | ⟨b, τ0, o, m, cap, h1, _⟩
  ·cases h
  ·rw [h1]; simp
 | .agg τ xs, _, _, _, h, k, hk => by
  simp only [V.pks] at hk
  simp only [q8] at h
  exact z9B h.2.2.2.2 k hk
 | .sr _ _ _ _ none _ _, _, _, _, _, k, hk | .d _ _, _, _, _, _, k, hk | .sl _ _ _ _, _, _, _, _, k, hk | .ts _ _ _, _, _, _, _, k, hk | .emp _ _, _, _, _, _, k, hk | .nilc, _, _, _, _, k, hk | .cptr _ _, _, _, _, _, k, hk | .fn _ _, _, _, _, _, k, hk | .tup _, _, _, _, _, k, hk | .top _, _, _, _, _, k, hk | .any, _, _, _, _, k, hk => by simp [V.pks] at hk
theorem z9B {Γ : G} : ∀ {xs : List V} {hm : Option Key} {p : List Nat} {i : Nat} {τ : Ty} {vs : List Value}, y6 Γ hm p i τ xs vs → ∀ k ∈ V.q4M xs, Γ.ι k ≠ none
 | [], _, _, _, _, _, _, k, hk => by simp [V.q4M] at hk
 | x :: xs, _, _, _, _, _, h, k, hk => by
  simp only [V.q4M, List.mem_append] at hk
  simp only [y6] at h
  obtain ⟨⟨o, f, _, _, _, h1⟩, h2⟩ := h
  rcases hk with hk | hk
  ·exact z6m h1 k hk
  ·exact z9B h2 k hk
end
theorem y6v {Γ : G} {x : V} {v : Value} (h : q9 Γ x v) : ∀ k ∈ x.pks, Γ.ι k ≠ none := by
 cases x with
 | any => intro k hk; simp [V.pks] at hk
 | tup => intro k hk; simp [V.pks] at hk
 | _ => exact z6m h.1
theorem z9C : ∀ {xs : List V} {k : Key}, k ∈ V.q4M xs → ∃ x ∈ xs, k ∈ x.pks
 | [], _, h => by simp [V.q4M] at h
 | x :: xs, k, h => by
  simp only [V.q4M, List.mem_append] at h
  rcases h with h | h
  ·exact ⟨x, by simp, h⟩
  ·obtain ⟨y, h1, h2⟩ := z9C h
   exact ⟨y, by simp [h1], h2⟩
theorem z7v {s : S} {k : Key} {o : O} (h : z7 s.loc k = some o) : s.obj k = some o := by
 unfold S.obj Q2; rw [h]
theorem q92 : ∀ {l : List (Key × O)} {k : Key} {o : O}, z7 l k = some o → (k, o) ∈ l
 | [], _, _, h => by simp [z7] at h
 | (j, x) :: l, k, o, h => by
  simp only [z7] at h
  split at h
  ·rename_i e; subst e; cases h; exact List.mem_cons_self ..
  ·exact List.mem_cons_of_mem _ (q92 h)
theorem z7i {s' base : S} (hc : Compat s' s base) (c : z8 Γ w s') : ∀ (n : Nat) (ks : List Key), (∀ k ∈ ks, Γ.ι k ≠ none) → ∀ p ∈ q3L n s.loc ks, s'.obj p.1 = some p.2
 | 0, _, _, p, hp => by simp [q3L] at hp
 | n + 1, ks, hk, p, hp => by
  simp only [q3L, List.mem_flatMap] at hp
  obtain ⟨k, h1, hp⟩ := hp
  split at hp
  ·rename_i o ho
   have hs : s'.obj k = some o := hc.getObj c (hk k h1) (z7v ho)
   rcases List.mem_cons.1 hp with rfl | hp
   ·exact hs
   ·cases o with
    | box x =>
     have hks : ∀ k ∈ x.pks, Γ.ι k ≠ none := by
      rcases c.obj k _ hs with ⟨_, e, hv⟩ | ⟨b, cells, T, _, _, _, _, _, hr, _⟩
      ·subst hv; intro k hk; simp [V.pks] at hk
      ·exact z6m hr
     exact z7i hc c n x.pks hks p hp
    | _ => simp at hp
  ·simp at hp
theorem y9r {s' base : S} (hc : Compat s' s base) (c : z8 Γ w s') {xs : List V} (hx : ∀ x ∈ xs, ∃ v, q9 Γ x v) {k : Key} {o : O} (h : (base.see s xs).obj k = some o) : s'.obj k = some o := by
 unfold S.obj S.see Q2 at h
 simp only [q1g] at h
 cases hl : z7 (q3L 3 s.loc (V.q4M xs)) k with
 | some o' =>
  rw [hl] at h
  cases h
  refine z7i hc c 3 (V.q4M xs) (fun k hk => ?_) (k, o) (q92 hl)
  obtain ⟨x, h1, h2⟩ := z9C hk
  obtain ⟨v, hv⟩ := hx x h1
  exact y6v hv k h2
 | none =>
  rw [hl] at h
  exact hc.base k o h
theorem z7X : ∀ {l : List V} {i : Nat} {x : V}, q2s l = true → l[i]? = some x → ∃ τ c, x = .d τ c
 | [], i, x, _, h => by simp at h
 | y :: l, 0, x, hl, h => by
  simp only [q2s, Bool.and_eq_true] at hl
  simp at h; subst h
  cases y <;> simp at hl
  exact ⟨_, _, rfl⟩
 | y :: l, i + 1, x, hl, h => by
  simp only [q2s, Bool.and_eq_true] at hl
  exact z7X hl.2 (by simpa using h)
theorem y8a {s' base : S} (hc : Compat s' s base) (c : z8 Γ w s') {gl : Nat → Option (Ty × C)} {x : V} {v : Value} (hr : q9 Γ x v) (hd : ∃ τ cc, q0V s x = .d τ cc) : q9 (G.q5r w gl) (q0V s x) v := by
 obtain ⟨τ, cc, hd⟩ := hd
 rw [hd]
 cases x <;> first
  | exact y6h (s := s') c gl hr hd
  | (simp only [q0V] at hd
     split at hd
     ·rename_i he
      cases hd
      obtain ⟨x', h1, _, h2⟩ := q5v hc c hr he
      exact z5u c gl h1 h2
     ·cases hd)
theorem q8k (hP : x6 X.P = true) {md : List (Nat × Nat)} {base : S} {dst : Nat} {o : Oper} {ρa : Operand → V} {K : V → List (Key × O) → List (Nat × Option Nat) → Prop} (h : iop X md base dst o ρa s K) :
  ∃ v lo tn, K v lo tn ∧ y4a X base o ρa s v lo tn := by
 have viaPv : (pv X.P o.op ρa fun y => K y [] []) → ∃ v lo tn, K v lo tn ∧ y4a X base o ρa s v lo tn := by
  intro h
  obtain ⟨v, hK, hd⟩ := y8L hP h
  exact ⟨v, [], [], hK, fun Γ w a s' _ c _ _ hr => hd Γ w a s' c hr⟩
 unfold iop at h
 split at h
 ·-- load
  rename_i T x ho
  split at h
  ·split at h
   ·rename_i k q τ hx
    split at h
    ·rename_i y hobj
     unfold y6d at h
     split at h
     ·rename_i y0 t0 M e cc m e' hat ht
      obtain ⟨hq, rfl, rfl, hk, hlo, hK⟩ := h
      refine ⟨_, _, _, hK, fun Γ w a s' _ c hc _ hr => ?_⟩
      have hxr := hr x (by rw [ho]; simp [Op.operands])
      rw [hx] at hxr
      obtain ⟨b, τ0, o0, hι, _⟩ := H4 hxr
      have hq2 : q = q.dropLast ++ [q.getLastD 0] := by
       rw [List.getLastD_eq_getLast?, List.getLast?_eq_some_getLast hq, Option.getD_some]
       exact (List.dropLast_concat_getLast hq).symm
      rw [hq2] at hxr
      obtain ⟨u, r1, r2⟩ := y6H (T := T) hP c hxr (hc.getObj c (by rw [hι]; simp) hobj) hat ht hk hlo
      exact u5.val (by unfold execOp; simp [ho, r1]) (s9.same c r2)
     ·exact h.elim
    ·exact h.elim
   ·exact h.elim
  split at h
  ·rename_i k q τ hx
   split at h
   ·rename_i y hobj
    obtain ⟨h1, h2, h3, hK⟩ := h
    refine ⟨_, _, _, hK, fun Γ w a s' _ c hc _ hr => ?_⟩
    have hxr := hr x (by rw [ho]; simp [Op.operands])
    rw [hx] at hxr
    obtain ⟨b, τ0, o0, hι, _⟩ := H4 hxr
    obtain ⟨u, r1, r2⟩ := z3I (T := T) hP c hxr (hc.getObj c (by rw [hι]; simp) hobj) h1 h2 h3
    exact u5.val (by unfold execOp; simp [ho, r1]) (s9.same c r2)
   ·exact h.elim
  ·rename_i τ cc hx
   obtain ⟨h2, h3, hK⟩ := h
   refine ⟨_, _, _, hK, fun Γ w a s' _ c hc _ hr => ?_⟩
   have hxr := hr x (by rw [ho]; simp [Op.operands])
   rw [hx] at hxr
   obtain ⟨u, r1, r2⟩ := y4U (T := T) hP c hxr h2 h3
   exact u5.val (by unfold execOp; simp [ho, r1]) (s9.same c r2)
  ·exact h.elim
 ·rename_i T ho
  obtain ⟨h1, hK⟩ := h
  exact ⟨_, _, _, hK, fun Γ w a s' _ c _ hf _ => y7f c ho (hf.l _ _ (q0B _ _ _)) h1⟩
 ·rename_i T x ho
  split at h
  ·obtain ⟨h1, h⟩ := h
   split at h
   ·rename_i cc hcc
    exact ⟨_, _, _, h, fun Γ w a s' _ c _ hf hr => y8Q c ho (hr x (by rw [ho]; simp [Op.operands])) h1 hcc⟩
   ·exact h.elim
  ·obtain ⟨h1, h2, hK⟩ := h
   exact ⟨_, _, _, hK, fun Γ w a s' _ c _ hf hr => y9K c ho (hf.l _ _ (q0B _ _ _)) (hr x (by rw [ho]; simp [Op.operands])) h1 h2⟩
 ·-- buildSlice
  rename_i t len parts ho
  split at h
  ·rename_i eb e ht
   split at h
   ·obtain ⟨h1, hK⟩ := h
    have hp0 : parts = #[] := by apply Array.eq_empty_of_size_eq_zero; simpa using h1
    subst hp0
    exact ⟨_, _, _, hK, fun Γ w a s' _ c _ _ _ => z6P hP c ho ht⟩
   ·rename_i len
    obtain ⟨h1, h2, h3, h4, h5, h⟩ := h
    split at h
    ·rename_i cs hcs
     obtain ⟨h6, hK⟩ := h
     obtain ⟨l1, l2⟩ := q8Q hcs
     have hl : cs.length = len + 1 := by rw [l1]; have := congrArg List.length h5; simpa using this
     have key : ∀ (Γ : G) (w : World) (a : Act) (s' : S), Γ.gl = X.gl → z8 Γ w s' → (∀ y ∈ o.op.operands, q9 Γ (ρa y) (a.eval y)) → ∀ (i : Nat) (x : Nat × Operand) (cc : C), parts.toList[i]? = some x → cs[i]? = some cc → q9 Γ (.d e cc) (a.eval x.2) := by
      intro Γ w a s' _ c hr i x cc hx hcc
      have hxm : (parts.toList.map fun x => ρa x.2)[i]? = some (ρa x.2) := by simp only [List.getElem?_map, hx]; rfl
      obtain ⟨t1, t2⟩ := h6 _ (List.mem_of_getElem? hxm)
      have hmem : x ∈ parts.toList := List.mem_of_getElem? hx
      have hrx := hr x.2 (by rw [ho]; simp only [Op.operands]; exact List.mem_toArray.2 (List.mem_map.2 ⟨x, hmem, rfl⟩))
      obtain ⟨q1, q2⟩ := (x3 t2).1 hrx
      have := q2q _ q1 (l2 i _ cc hxm hcc)
      rw [t1] at this q2
      exact j6.2 ⟨this, q2⟩
     split at hK
     ·exact ⟨_, _, _, hK, fun Γ w a s' hg c _ hf hr => z6O hP c (hf.t _ _ (q3q _ _ _)) ho ht h1 (by omega) h2 h3 h4 h5 hl (key Γ w a s' hg c hr)⟩
     ·exact ⟨_, _, _, hK, fun Γ w a s' hg c _ _ hr => z8u hP c ho ht h1 (by omega) h2 h3 h4 h5 hl (key Γ w a s' hg c hr)⟩
    ·exact h.elim
  ·exact h.elim
 ·-- build
  rename_i T parts ho
  obtain ⟨h1, h2, h3, h4, hK⟩ := h
  refine ⟨_, _, _, hK, fun Γ w a s' _ c _ _ hr => ?_⟩
  obtain ⟨u, r1, r2⟩ := y7e (Γ := Γ) (w := w) (ev := a.eval) hP h1 h2 h3 (fun p hp => hr p.2 (by rw [ho]; simp only [Op.operands]; exact List.mem_toArray.2 (List.mem_map.2 ⟨p, hp, rfl⟩))) h4
  refine u5.val (v := u) (w' := w) ?_ (s9.same c r2)
  unfold execOp
  simp only [ho, Sem.run_bind, r1, Result.andThen_ok, Sem.run_pure]
 ·-- makeSlice
  rename_i t l cp ho
  split at h
  ·rename_i eb e ht
   obtain ⟨h1, h2, h3, h4, h5, h6, h7, h8, hK⟩ := h
   refine ⟨_, _, _, hK, fun Γ w a s' _ c _ hf hr => ?_⟩
   obtain ⟨k1, e1⟩ := z2d h2 (hr l (by rw [ho]; simp [Op.operands]))
   obtain ⟨k2, e2⟩ := z2d h3 (hr cp (by rw [ho]; simp [Op.operands]))
   exact y0Q (L := ρa l) (Cp := ρa cp) (k1 := k1) (k2 := k2) (nl := (ρa l).toInt.toNat) (nc := (ρa cp).toInt.toNat) hP c ho ht h1 (hf.l _ _ (q0B _ _ _)) (by rw [e1, Int.toNat_of_nonneg h4]) (by rw [e2, Int.toNat_of_nonneg (by omega)]) (by omega) (by unfold maxLen; omega) h7 h8 (fun c h => by split at h <;> cases h; rfl)
  ·exact h.elim
 ·-- makeMap
  rename_i T r ho
  split at h
  ·rename_i kt et hT
   exact ⟨_, _, _, h, fun Γ w a s' _ c _ hf _ => y3Q c ho (hf.l _ _ (q0B _ _ _))⟩
  ·exact h.elim
 ·-- lookup
  rename_i T x i ok ho
  split at h
  ·rename_i kt et k hT hx
   split at h
   ·rename_i kτ vτ es hobj
    obtain ⟨rfl, h1, h2, h3, hK⟩ := h
    refine ⟨_, _, _, hK, fun Γ w a s' _ c hc _ hr => ?_⟩
    have hxr := hr x (by rw [ho]; simp [Op.operands])
    rw [hx] at hxr
    obtain ⟨b, hι, _⟩ := q62 hxr
    have hir := hr i (by rw [ho]; simp [Op.operands])
    have hd : ρa i = .d (ty X.P kt) (ρa i).toC := by
     cases hi : ρa i <;> simp [hi, V.Y4] at h3
     subst h3; rfl
    rw [hd] at hir
    have := y5y hP c ho hT hxr hir (hc.getObj c (by rw [hι]; simp) hobj) h1 h2
    exact this
   ·exact h.elim
  ·exact h.elim
 ·-- calls
  rename_i cl ho
  obtain ⟨callee, args, ts⟩ := cl
  split at h
  ·rename_i fo hfo
   simp only at hfo h
   subst hfo
   split at h
   ·rename_i f caps hf
    rcases h with ⟨h1, h2, b, v, L, hB, D, hL, hK⟩ | ⟨rfl, v, E, hK⟩ | ⟨rfl, h1, v, hx, D, hv, hK⟩
    rotate_left
    ·refine ⟨_, _, _, hK, fun Γ w a s' hgl c hc hfr hr => ?_⟩
     have hrf := hr fo (by rw [ho]; simp [Op.operands, Call.operands])
     rw [hf] at hrf
     obtain ⟨cv, hfv, hcl, _⟩ := z2l hrf
     have hcv : cv = #[] := by apply Array.eq_empty_of_size_eq_zero; simpa using hcl.symm
     subst hcv
     obtain ⟨u, e1, e2⟩ := E Γ w (args.map a.eval) (by simp) fun i x u hx hu => by
      simp only [List.getElem?_map, Array.getElem?_map] at hx hu
      cases hy : args[i]? with
      | none => rw [hy] at hu; cases hu
      | some y =>
       have hy' : args.toList[i]? = some y := by simpa using hy
       rw [hy] at hu; rw [hy'] at hx
       cases hu; cases hx
       exact hr y (by rw [ho]; simp only [Op.operands, Call.operands]; exact Array.mem_append_right _ (Array.mem_of_getElem? hy))
     refine u5.val (v := u) (w' := w) ?_ (s9.same c e2)
     unfold execOp
     simp [ho, resolve, hfv, Deferred.ofValue, invoke, e1]
    ·refine ⟨_, _, _, hK, fun Γ w a s' hgl c hc hfr hr => ?_⟩
     have hrf := hr fo (by rw [ho]; simp [Op.operands, Call.operands])
     rw [hf] at hrf
     refine y8M hgl c ho h1 hrf (by simp) (fun i x y hx' hy => ?_) hx D hv
     simp only [List.getElem?_map] at hx'
     have hx2 := hx'
     rw [hy] at hx'
     cases hx'
     refine y8a hc c (hr y (by rw [ho]; simp only [Op.operands, Call.operands]; exact Array.mem_append_right _ (Array.mem_toList_iff.1 (List.mem_of_getElem? hy)))) (z7X hx (i := i) ?_)
     simp only [List.getElem?_map]
     exact hx2
    refine ⟨_, _, _, hK, fun Γ w a s' hgl c hc hfr hr => ?_⟩
    have hrf := hr fo (by rw [ho]; simp [Op.operands, Call.operands])
    rw [hf] at hrf
    rw [q5c s s'] at D
    have hbb : ∀ k o, b.obj k = some o → s'.obj k = some o := by
     intro k ob hk
     rcases hB with rfl | rfl
     ·exact hc.base k ob hk
     ·refine y9r hc c (fun x hx => ?_) hk
      simp only [Z6, List.mem_append, List.mem_map] at hx
      rcases hx with ⟨y, hy, rfl⟩ | hx
      ·exact ⟨_, hr y (by rw [ho]; simp only [Op.operands, Call.operands]; exact Array.mem_append_right _ (Array.mem_toList_iff.1 hy))⟩
      ·obtain ⟨cv, _, q1, q2⟩ := z2l hrf
       obtain ⟨i, hi⟩ := List.mem_iff_getElem?.1 hx
       have hlt : i < cv.toList.length := by rw [← q1]; exact (List.getElem?_eq_some_iff.1 hi).1
       exact ⟨_, q2 i x _ hi (List.getElem?_eq_getElem hlt)⟩
    have := y2A (tip := false) (A := b.up) (d := dst) rfl hgl c ho h1 h2 hrf (fun y hy => hr y (by rw [ho]; simp only [Op.operands, Call.operands]; exact Array.mem_append_right _ (Array.mem_toList_iff.1 hy))) (by rw [q4N]; rfl) D
     (fun k o hk => by
      simp only [S.up] at hk ⊢
      cases hb : b.obj k with
      | none => simp [hb] at hk
      | some ob => rw [hbb k ob hb]; rw [hb] at hk; exact hk)
     (fun k o hk => (z4O hL hk).elim) (fun j o hj => hfr.l _ _ (z9F dst hL hj)) (fun m x hm => hfr.t _ x (by rw [y1y]; exact hm))
    have e : S.back s' false (Z6 (args.toList.map ρa) caps) dst v L = s'.add (dnL dst L) (dnT dst (v.tkR 2000)) := by
     simp [S.back, S.add, q4N, q3y]
    rw [← e]
    exact this
   ·exact h.elim
  ·rename_i hb
   simp only at hb h
   subst hb
   split at h
   ·rename_i x y t t' hargs hts
    have hargs' : args = #[x, y] := by cases args; simpa using hargs
    have hts' : ts = #[t, t'] := by cases ts; simpa using hts
    subst hargs'; subst hts'
    obtain ⟨h1, h⟩ := h
    split at h
    ·rename_i eb e eb0 e0 ht hx
     obtain ⟨ys, hK, hs⟩ := q55 hP h
     split at hK
     ·obtain ⟨hne, hK⟩ := hK
      refine ⟨_, _, _, hK, fun Γ w a s' _ c hc hf hr => ?_⟩
      have hyr := hr y (by rw [ho]; simp [Op.operands, Call.operands])
      have hxr := hr x (by rw [ho]; simp [Op.operands, Call.operands])
      obtain ⟨Y', hyr', hs'⟩ := q4B hc c hyr hs
      exact z0L hP c ho ht h1 (hf.l _ _ (q0B _ _ _)) hxr (.inr ⟨_, _, hx⟩) hyr' hs' hne
     ·refine ⟨_, _, _, hK, fun Γ w a s' _ c hc hf hr => ?_⟩
      have hyr := hr y (by rw [ho]; simp [Op.operands, Call.operands])
      have hxr := hr x (by rw [ho]; simp [Op.operands, Call.operands])
      obtain ⟨Y', hyr', hs'⟩ := q4B hc c hyr hs
      exact q8m hP c ho ht h1 (hf.t dst _ (q3q _ _ _)) hxr (.inr ⟨_, _, hx⟩) hyr' hs'
    ·rename_i eb e ht hx
     obtain ⟨ys, hK, hs⟩ := q55 hP h
     split at hK
     ·obtain ⟨hne, hK⟩ := hK
      refine ⟨_, _, _, hK, fun Γ w a s' _ c hc hf hr => ?_⟩
      have hyr := hr y (by rw [ho]; simp [Op.operands, Call.operands])
      have hxr := hr x (by rw [ho]; simp [Op.operands, Call.operands])
      obtain ⟨Y', hyr', hs'⟩ := q4B hc c hyr hs
      exact z0L hP c ho ht h1 (hf.l _ _ (q0B _ _ _)) hxr (.inl hx) hyr' hs' hne
     ·refine ⟨_, _, _, hK, fun Γ w a s' _ c hc hf hr => ?_⟩
      have hyr := hr y (by rw [ho]; simp [Op.operands, Call.operands])
      have hxr := hr x (by rw [ho]; simp [Op.operands, Call.operands])
      obtain ⟨Y', hyr', hs'⟩ := q4B hc c hyr hs
      exact q8m hP c ho ht h1 (hf.t dst _ (q3q _ _ _)) hxr (.inl hx) hyr' hs'
    ·exact h.elim
   ·exact h.elim
  ·rename_i hb
   simp only at hb h
   subst hb
   split at h
   ·rename_i x T hargs hts
    have hargs' : args = #[x] := by cases args; simpa using hargs
    have hts' : ts = #[T] := by cases ts; simpa using hts
    subst hargs'; subst hts'
    split at h
    ·rename_i k hx
     split at h
     ·rename_i pr kτ vτ es hT hobj
      obtain ⟨h1, hK⟩ := h
      refine ⟨_, _, _, hK, fun Γ w a s' _ c hc _ hr => ?_⟩
      have hxr := hr x (by rw [ho]; simp [Op.operands, Call.operands])
      rw [hx] at hxr
      obtain ⟨b, hι, _⟩ := q62 hxr
      exact y5z c ho (kt := pr.1) (et := pr.2) hT hxr (hc.getObj c (by rw [hι]; simp) hobj) h1
     ·exact h.elim
    ·exact viaPv h
   ·exact viaPv h
  ·exact viaPv h
 ·-- a string of bytes
  rename_i src dst' x ho
  split at h
  ·rename_i ys hys
   refine ⟨_, _, _, h, fun Γ w a s' _ c hc _ hr => ?_⟩
   have hxr := hr x (by rw [ho]; simp [Op.operands])
   obtain ⟨Y', hxr', hys'⟩ := z89 hc c hxr hys
   exact y7d hP c ho hys' hxr'
  ·exact viaPv h
 ·exact viaPv h
end
end Go.E
namespace Go.E
open Go
def C.isNil : C → Bool
 | .nil => true
 | _ => false
def q6k : Operand → Bool
 | .const .nilIface => true
 | _ => false
def y07 (P : Program) (src dst : TypeId) (x : V) : Option (List C) :=
 match ty P src, ty P dst with
 | .str, .slice eb e => if e.y0m = true ∧ eb = 1 then (match x with
  | .d .str c => some (c.toStr.map fun b => C.int b.toNat)
  | _ => none) else none
 | _, _ => none
def z5F (P : Program) (T : TypeId) : Bool :=
 match ty P T with
 | .iface | .opq _ => false
 | _ => true
noncomputable def fop (X : Cx) (o : Oper) (ρ : Operand → V) (K : V → Prop) : Prop :=
 match o.op with
 | .convert src dst x => (match y07 X.P src dst (ρ x) with
  | some ys => K (.d (.slice 1 (.int .u8)) (.slice ys))
  | none => False)
 | .makeInterface T _ => z5F X.P T = true ∧ K (.d .iface (.bool true))
 | .binOp op T x y _ => q6k y = true ∧ ty X.P T = .iface ∧ (match op, ρ x with
  | .eql, .d .iface c => K (.d .bool (.bool c.isNil))
  | .neq, .d .iface c => K (.d .bool (.bool (!c.isNil)))
  | _, _ => False)
 | _ => False
noncomputable def sl3 (X : Cx) (md : List (Nat × Nat)) (dst : Nat) (o : Oper) (ρ : Operand → V) (s : S) (K : V → S → Prop) : Prop :=
 match o.op with
 | .slice T x lo hi mx => c5 md dst = 4 ∧ s.known dst = false ∧ hi.isSome = true ∧ mx.isSome = true ∧ (match ty X.P T with
  | .slice eb e => (match (ρ x).q2r with
   | some (eb', e', cs) => eb' = eb ∧ e' = e ∧ (match c7 (lo.map ρ) 0, c7 (hi.map ρ) 0, c7 (mx.map ρ) 0 with
    | some l, some h, some m => l = 0 ∧ 0 ≤ h ∧ h = m ∧ m ≤ cs.length ∧ K (.sl eb e (cs.take h.toNat) dst) { s with tk := (dst, some (cs.take h.toNat).length) :: s.tk }
    | _, _, _ => False)
   | none => False)
  | _ => False)
 | _ => False
section
variable {X : Cx} {Γ : G} {w : World} {s : S}
theorem y1l {P : Program} {f : Nat} {T : TypeId} (h : tyF P (f + 1) T = .iface) : ∃ ms, P.underlying T = some (.interface ms) := by
 unfold tyF at h
 split at h
 ·cases hu : P.underlying T with
  | none => simp [hu] at h
  | some d => cases d <;> simp [hu] at h ⊢
 ·cases h
theorem y2R {P : Program} {T : TypeId} (h : z5F P T = true) : ∃ d, P.underlying T = some d ∧ ∀ ms, d ≠ .interface ms := by
 unfold z5F ty tyF at h
 split at h
 ·cases h
 ·cases h
 ·rename_i h1 h2
  split at h1
  ·cases hu : P.underlying T with
   | none => simp [hu] at h2
   | some d => exact ⟨d, rfl, fun ms e => by subst e; simp [hu] at h1⟩
  ·rename_i hn
   simp [hn] at h2
theorem z4D {c : C} {v : Value} (h : q9 Γ (.d .iface c) v) : (c = .nil ∧ v = .nilIface) ∨ (c = .bool true ∧ ∃ t u, v = .iface t u) := by
 obtain ⟨h1, h2⟩ := j6.1 h
 rw [x5 (by simpa [Ty.isAgg] using h2)] at h1
 simp only [z6] at h1
 rcases h1 with ⟨rfl, h1⟩ | ⟨rfl, t, u, h1⟩
 ·simp at h1; exact .inl ⟨rfl, h1⟩
 ·simp at h1; exact .inr ⟨rfl, t, u, h1⟩
theorem z4x {P : Program} {T : TypeId} {ms : Array (String × TypeId)} (hu : P.underlying T = some (.interface ms)) {v : Value} (hv : v = .nilIface ∨ ∃ t u, v = .iface t u) (w : World) :
  (Op.equal T v .nilIface).run P w = .ok (match v with | .nilIface => true | _ => false) w := by
 unfold Op.equal Op.maxDepth
 rw [show (10000 : Nat) = 9999 + 1 from rfl, Op.equalIn, Sem.run_bind, run_underlying hu]
 rcases hv with rfl | ⟨t, u, rfl⟩ <;> rfl
theorem q5K {P : Program} {T : TypeId} {ms : Array (String × TypeId)} (hu : P.underlying T = some (.interface ms)) {x y : Operand} (hy : q6k y = true) {v : Value} (hv : v = .nilIface ∨ ∃ t u, v = .iface t u) (w : World) :
  ((do eqGuard .eql T x y v .nilIface; binOp .eql T v .nilIface) : Sem Value).run P w = .ok (.bool (match v with | .nilIface => true | _ => false)) w ∧
  ((do eqGuard .neq T x y v .nilIface; binOp .neq T v .nilIface) : Sem Value).run P w = .ok (.bool (!(match v with | .nilIface => true | _ => false))) w := by
 obtain ⟨z, rfl⟩ : ∃ z, y = .const z := by
  cases y with
  | const z => exact ⟨z, rfl⟩
  | _ => simp [q6k] at hy
 have he := z4x hu hv w
 rcases hv with rfl | ⟨t, u, rfl⟩
 ·constructor
  ·rw [eqGuard_nil_constR]
   show (do pure (.bool (← Op.equal T .nilIface .nilIface)) : Sem Value).run P w = _
   rw [Sem.run_bind, he]; rfl
  ·rw [eqGuard_nil_constR]
   show (do pure (.bool (!(← Op.equal T .nilIface .nilIface))) : Sem Value).run P w = _
   rw [Sem.run_bind, he]; rfl
 ·constructor
  ·show (do pure (.bool (← Op.equal T (.iface t u) .nilIface)) : Sem Value).run P w = _
   rw [Sem.run_bind, he]; rfl
  ·show (do pure (.bool (!(← Op.equal T (.iface t u) .nilIface))) : Sem Value).run P w = _
   rw [Sem.run_bind, he]; rfl
theorem y8O {P : Program} (hP : x6 P = true) (c : z8 Γ w s) {o : Oper} {a : Act} {src dst : TypeId} {x : Operand} (ho : o.op = .convert src dst x) {Y : V} {ys : List C} (h : y07 P src dst Y = some ys)
  (hr : q9 Γ Y (a.eval x)) : u5 P o a w (s9 Γ w s (.d (.slice 1 (.int .u8)) (.slice ys))) := by
 unfold y07 at h
 split at h
 ·rename_i eb e hs ht
  obtain ⟨E, hu, hE, _, _⟩ := q09 hP ht
  have hs' := q53 hs
  split at h
  ·rename_i hc0
   obtain ⟨h0, rfl⟩ := hc0
   obtain rfl := Ty.z6z h0
   have hEu : P.underlying E = some (.int .u8) := z7c hE.symm
   split at h
   ·rename_i cc
    cases h
    obtain ⟨hv, _, hl⟩ := X5 hr
    have run := run_bytes_of_string (P := P) w src dst E ⟨cc.toStr.toArray⟩ hs' hu hEu
    have hsz : (⟨cc.toStr.toArray⟩ : ByteArray).size = cc.toStr.length := by simp [ByteArray.size]
    rw [hsz] at run
    have hge := grownCap_ge w cc.toStr.length 0 E
    have hcm := grownCap_le_maxLen w cc.toStr.length 0 E (by unfold maxLen; omega)
    generalize grownCap w cc.toStr.length 0 E = cap at run hge hcm
    have hrow : (bytesRow ⟨cc.toStr.toArray⟩ cap).toList = cc.toStr.map (fun b => Value.int .u8 b.toNat) ++ (List.replicate (cap - cc.toStr.length) (Value.int .u8 0)) := by
     simp [bytesRow, hsz]
    have hext : Ext w (w.drew.alloc (.cells (bytesRow ⟨cc.toStr.toArray⟩ cap) E ((bytesRow ⟨cc.toStr.toArray⟩ cap).size, (bytesRow ⟨cc.toStr.toArray⟩ cap).size + 1))) := (Ext.drew w).trans (Ext.alloc _ _)
    have hnew := heap_alloc_new w.drew (.cells (bytesRow ⟨cc.toStr.toArray⟩ cap) E ((bytesRow ⟨cc.toStr.toArray⟩ cap).size, (bytesRow ⟨cc.toStr.toArray⟩ cap).size + 1))
    obtain ⟨c1, p1, g1⟩ := c.q0N hext hnew hrow
    refine u5.val (v := .slice (some ⟨w.heap.size, 0, none⟩) cc.toStr.length cap) (w' := w.drew.alloc (.cells (bytesRow ⟨cc.toStr.toArray⟩ cap) E ((bytesRow ⟨cc.toStr.toArray⟩ cap).size, (bytesRow ⟨cc.toStr.toArray⟩ cap).size + 1))) ?_ ⟨_, g1, p1, c1, ?_⟩
    ·unfold execOp
     simp only [ho, hv, Sem.run_bind, run, Result.andThen_ok, Sem.run_pure]
    ·refine j6.2 ⟨u6 (by simp) hge hcm (by omega) (.inr ⟨w.heap.size, 0, _, rfl, w9 _ _ _, by simp [Ty.size], fun i c' hi => ?_⟩), rfl⟩
     simp only [List.getElem?_map] at hi
     cases hb : cc.toStr[i]? with
     | none => rw [hb] at hi; cases hi
     | some b =>
      rw [hb] at hi
      cases hi
      have : chunk (cc.toStr.map (fun b => Value.int .u8 b.toNat)) (0 + i * (Ty.int IntKind.u8).size) (Ty.int IntKind.u8).size = [.int .u8 b.toNat] := by
       apply List.ext_getElem?
       intro j
       rw [u0]
       by_cases hj : j < 1
       ·have : j = 0 := by omega
        subst this
        simp [Ty.size, hb]
       ·simp [Ty.size, hj]
      rw [this]
      simp only [z6]
      refine ⟨_, rfl, rfl, ?_, ?_⟩
      ·have : IntKind.u8.min = 0 := by decide
       omega
      ·have : IntKind.u8.max = 255 := by decide
       have := b.toNat_lt
       omega
   ·cases h
  ·cases h
 ·cases h
theorem z7K (hP : x6 X.P = true) {o : Oper} {ρ : Operand → V} {K : V → Prop} (h : fop X o ρ K) :
  ∃ v, K v ∧ ∀ (Γ : G) (w : World) (a : Act) (s : S), z8 Γ w s → (∀ y ∈ o.op.operands, q9 Γ (ρ y) (a.eval y)) → u5 X.P o a w (s9 Γ w s v) := by
 unfold fop at h
 split at h
 ·rename_i src dst x ho
  split at h
  ·rename_i ys hys
   exact ⟨_, h, fun Γ w a s c hr => y8O hP c ho hys (hr x (by rw [ho]; simp [Op.operands]))⟩
  ·exact h.elim
 ·rename_i T x ho
  obtain ⟨h1, hK⟩ := h
  obtain ⟨d, hd, hni⟩ := y2R h1
  refine ⟨_, hK, fun Γ w a s c hr => u5.val (v := .iface T (a.eval x)) (w' := w) ?_ (s9.same c (j6.2 ⟨?_, rfl⟩))⟩
  ·unfold execOp
   simp only [ho, Sem.run_bind, Instr.makeInterface, run_underlying hd]
   cases d <;> first
    | exact absurd rfl (hni _)
    | simp [Sem.run_pure, Result.andThen]
  ·simp only [Value.cells, z6]
   exact .inr ⟨trivial, _, _, rfl⟩
 ·rename_i op T x y yT ho
  obtain ⟨hy, hT, h⟩ := h
  obtain ⟨ms, hu⟩ := y1l (f := 11) hT
  have hyv : ∀ a : Act, a.eval y = .nilIface := fun a => by
   cases y with
   | const z => cases z <;> simp [q6k] at hy; rfl
   | _ => simp [q6k] at hy
  split at h
  ·rename_i cc hx
   refine ⟨_, h, fun Γ w a s c hr => ?_⟩
   have hxr := hr x (by rw [ho]; simp [Op.operands])
   rw [hx] at hxr
   rcases z4D hxr with ⟨rfl, hv⟩ | ⟨rfl, t, u, hv⟩
   ·refine u5.val (v := .bool true) (w' := w) ?_ (s9.same c (w8))
    unfold execOp
    simp only [ho, hyv, hv]
    have := (q5K (P := X.P) hu (x := x) hy (v := .nilIface) (.inl rfl) w).1
    simp only [Sem.run_bind] at this ⊢
    rw [this]
    rfl
   ·refine u5.val (v := .bool false) (w' := w) ?_ (s9.same c (w8))
    unfold execOp
    simp only [ho, hyv, hv]
    have := (q5K (P := X.P) hu (x := x) hy (v := .iface t u) (.inr ⟨_, _, rfl⟩) w).1
    simp only [Sem.run_bind] at this ⊢
    rw [this]
    rfl
  ·rename_i cc hx
   refine ⟨_, h, fun Γ w a s c hr => ?_⟩
   have hxr := hr x (by rw [ho]; simp [Op.operands])
   rw [hx] at hxr
   rcases z4D hxr with ⟨rfl, hv⟩ | ⟨rfl, t, u, hv⟩
   ·refine u5.val (v := .bool false) (w' := w) ?_ (s9.same c (w8))
    unfold execOp
    simp only [ho, hyv, hv]
    have := (q5K (P := X.P) hu (x := x) hy (v := .nilIface) (.inl rfl) w).2
    simp only [Sem.run_bind] at this ⊢
    rw [this]
    rfl
   ·refine u5.val (v := .bool true) (w' := w) ?_ (s9.same c (w8))
    unfold execOp
    simp only [ho, hyv, hv]
    have := (q5K (P := X.P) hu (x := x) hy (v := .iface t u) (.inr ⟨_, _, rfl⟩) w).2
    simp only [Sem.run_bind] at this ⊢
    rw [this]
    rfl
  ·exact h.elim
 ·exact h.elim
theorem y4q (hP : x6 X.P = true) {md : List (Nat × Nat)} {dst : Nat} {o : Oper} {ρa : Operand → V} {K : V → S → Prop} (h : sl3 X md dst o ρa s K) :
  ∃ v s1, K v s1 ∧ s1.A = s.A ∧ s1.env = s.env ∧ ∀ (Γ : G) (w : World) (a : Act), z8 Γ w s → (∀ y ∈ o.op.operands, q9 Γ (ρa y) (a.eval y)) → u5 X.P o a w (s9 Γ w s1 v) := by
 unfold sl3 at h
 split at h
 ·rename_i T x lo hi mx ho
  obtain ⟨_, hn, hhs, hms, h⟩ := h
  split at h
  ·rename_i eb e ht
   obtain ⟨E, hu, rfl, _, hE⟩ := q09 hP ht
   split at h
   ·rename_i eb' e' cs hx
    obtain ⟨rfl, rfl, h⟩ := h
    split at h
    ·rename_i l hh m hl hhi hm
     obtain ⟨rfl, h0, rfl, h2, hK⟩ := h
     refine ⟨_, _, hK, rfl, rfl, fun Γ w a c hr => ?_⟩
     rw [ho] at hr
     have r1 := hr x (by simp [Op.operands])
     have r2 : ∀ y, lo = some y → q9 Γ (ρa y) (a.eval y) := fun y e => hr y (by subst e; simp [Op.operands])
     have r3 : ∀ y, hi = some y → q9 Γ (ρa y) (a.eval y) := fun y e => hr y (by subst e; simp [Op.operands])
     have r4 : ∀ y, mx = some y → q9 Γ (ρa y) (a.eval y) := fun y e => hr y (by subst e; simp [Op.operands])
     obtain ⟨ad, n, cap, hv, hcs, hnc, hcap, hb, hrep⟩ := q01 r1 hx
     have hhn : hh.toNat ≤ n := by omega
     have b1 : lo.map a.eval = none ∧ (0 : Nat) = 0 ∨ ∃ k, lo.map a.eval = some (.int k ((0 : Nat) : Int)) := by
      rcases q2O hl r2 with ⟨rfl, _⟩ | ⟨k, y, rfl, hy⟩
      ·exact .inl ⟨rfl, rfl⟩
      ·exact .inr ⟨k, hy⟩
     have b2 : ∃ k, hi.map a.eval = some (.int k (hh.toNat : Int)) := by
      rcases q2O hhi r3 with ⟨rfl, _⟩ | ⟨k, y, rfl, hy⟩
      ·cases hhs
      ·exact ⟨k, by rw [hy, Int.toNat_of_nonneg h0]⟩
     have b3 : ∃ k, mx.map a.eval = some (.int k (hh.toNat : Int)) := by
      rcases q2O hm r4 with ⟨rfl, _⟩ | ⟨k, y, rfl, hy⟩
      ·cases hms
      ·exact ⟨k, by rw [hy, Int.toNat_of_nonneg h0]⟩
     obtain ⟨km, b3⟩ := b3
     obtain ⟨c1, p1, g1⟩ := c.X2 hn (x := none) (L := (cs.take hh.toNat).length) (fun _ _ _ h => by cases h)
     have hlen : (cs.take hh.toNat).length = hh.toNat := by simp; omega
     have hcut := z3z hrep (Nat.zero_le hh.toNat) hhn
     have hrep' : z6 Γ.H (.slice eb' (tyF X.P 11 E)) [.slice (if hh.toNat = 0 then ad else ad.map (·.add (0 * (tyF X.P 11 E).size))) hh.toNat hh.toNat] (.slice (cs.take hh.toNat)) := by
      obtain ⟨a', n', cap', e1, _, e2, e3, e4, e5, e6⟩ := H5 hrep
      simp at e1
      obtain ⟨rfl, rfl, rfl⟩ := e1
      simp only [C.elems] at e2 e6
      refine u6 hlen (Nat.le_refl _) (by omega) (Nat.le_trans (Nat.mul_le_mul_right _ hhn) hb) ?_
      by_cases hz : hh.toNat = 0
      ·exact .inl hz
      ·rcases e6 with e6 | ⟨b, off, ll, rfl, hb', hs', hc⟩
       ·omega
       ·refine .inr ⟨b, off, ll, ?_, hb', ?_, fun i c' hi => ?_⟩
        ·rw [if_neg hz]
         simp [Addr.add]
        ·have : hh.toNat * (tyF X.P 11 E).size ≤ n * (tyF X.P 11 E).size := Nat.mul_le_mul_right _ hhn
         omega
        ·rw [List.getElem?_take] at hi
         split at hi
         ·exact hc _ _ hi
         ·cases hi
     refine u5.val (v := .slice (if hh.toNat = 0 then ad else ad.map (·.add (0 * (tyF X.P 11 E).size))) hh.toNat hh.toNat) (w' := w) ?_ ⟨_, g1, p1, c1, (w7 rfl rfl).2 ⟨?_, rfl⟩⟩
     ·unfold execOp
      simp only [ho, hv, Instr.sliceAt, Sem.run_bind, run_underlying hu, Result.andThen_ok, Instr.slice, b3]
      rw [q7h (n := n) (l := 0) (h := hh.toNat) (m := hh.toNat) b1 b2 (Nat.zero_le _) (Nat.le_refl _) (by omega)]
      simp [q0v (f := 11) hP (w := w) hE]
     ·simp only [q8]
      refine ⟨_, hh.toNat, hh.toNat, rfl, hrep'.mono p1.1, none, _, by simp [G.X2, o6], Nat.le_refl _, fun _ => rfl⟩
    ·exact h.elim
   ·exact h.elim
  ·exact h.elim
 ·exact h.elim
end
end Go.E
namespace Go.E
open Go
def z1O {α : Type} : List (Key × α) → Key → Bool
 | [], _ => false
 | (j, _) :: l, k => decide (j = k) || z1O l k
def z4B {α : Type} : List (Key × α) → Key → α → List (Key × α)
 | [], _, _ => []
 | (j, x) :: l, k, y => if j = k then (j, y) :: l else (j, x) :: z4B l k y
def z9A {α : Type} (l : List (Key × α)) (k : Key) (y : α) : List (Key × α) := bif z1O l k then z4B l k y else (k, y) :: l
def z1M {α : Type} : List (Nat × α) → Nat → Bool
 | [], _ => false
 | (j, _) :: l, k => decide (j = k) || z1M l k
def q77 {α : Type} : List (Nat × α) → Nat → α → List (Nat × α)
 | [], _, _ => []
 | (j, x) :: l, k, y => if j = k then (j, y) :: l else (j, x) :: q77 l k y
def z3B {α : Type} (l : List (Nat × α)) (k : Nat) (y : α) : List (Nat × α) := bif z1M l k then q77 l k y else (k, y) :: l
theorem z4W {α : Type} : ∀ (l : List (Key × α)) (k : Key) (y : α) (j : Key), z1O l k = true → z7 (z4B l k y) j = if k = j then some y else z7 l j
 | [], _, _, _, h => by simp [z1O] at h
 | (i, x) :: l, k, y, j, h => by
  simp only [z4B]
  by_cases e : i = k
  ·subst e; simp only [if_true, z7]; by_cases e2 : i = j <;> simp [e2]
  ·rw [if_neg e]
   simp only [z7]
   have h' : z1O l k = true := by simpa [z1O, e] using h
   rw [z4W l k y j h']
   by_cases e2 : i = j
   ·subst e2; simp [fun h : k = i => e h.symm]; intro h; exact absurd h.symm e
   ·simp [e2]
theorem y4T {α : Type} (l : List (Key × α)) (k : Key) (y : α) (j : Key) : z7 (z9A l k y) j = if k = j then some y else z7 l j := by
 unfold z9A
 cases h : z1O l k with
 | true => exact z4W l k y j h
 | false => rfl
theorem z7r {α : Type} : ∀ (l : List (Nat × α)) (k : Nat) (y : α) (j : Nat), z1M l k = true → look (q77 l k y) j = if k = j then some y else look l j
 | [], _, _, _, h => by simp [z1M] at h
 | (i, x) :: l, k, y, j, h => by
  simp only [q77]
  by_cases e : i = k
  ·subst e; simp only [if_true, look]; by_cases e2 : i = j <;> simp [e2]
  ·rw [if_neg e]
   simp only [look]
   have h' : z1M l k = true := by simpa [z1M, e] using h
   rw [z7r l k y j h']
   by_cases e2 : i = j
   ·subst e2; simp; intro h; exact absurd h.symm e
   ·simp [e2]
theorem q7t {α : Type} (l : List (Nat × α)) (k : Nat) (y : α) (j : Nat) : look (z3B l k y) j = if k = j then some y else look l j := by
 unfold z3B
 cases h : z1M l k with
 | true => exact z7r l k y j h
 | false => rfl
def S.put (s : S) (k : Key) (o : O) : S := { s with loc := z9A s.loc k o }
def S.tok (s : S) (t : Nat) (L : Option Nat) : S := { s with tk := z3B s.tk t L }
def q0q : List (Nat × List Nat) → S → S
 | [], s => s
 | (t, _) :: σ, s => q0q σ (s.tok t none)
theorem Z7 (s : S) (k j : Key) (o : O) : (s.put k o).obj j = if k = j then some o else s.obj j := by
 simp only [S.put, S.obj, Q2, y4T]
 by_cases h : k = j
 ·simp only [h, if_true]
 ·simp only [if_neg h]
theorem z3J (s : S) (t u : Nat) (L : Option Nat) : (s.tok t L).live u = if t = u then L else s.live u := by
 simp only [S.tok, S.live, H7, q7t]
 by_cases h : t = u
 ·subst h; simp only [if_true]; cases L <;> rfl
 ·simp [h]
theorem q8h (s : S) (t u : Nat) (L : Option Nat) : (s.tok t L).known u = (decide (t = u) || s.known u) := by
 simp only [S.tok, S.known, q7t]
 by_cases h : t = u
 ·subst h; simp
 ·simp [h]
theorem z9P : ∀ (σ : List (Nat × List Nat)) (s : S) (k : Key), (q0q σ s).obj k = s.obj k
 | [], _, _ => rfl
 | (t, _) :: σ, s, k => by simp only [q0q, z9P σ]; rfl
theorem z7y : ∀ (σ : List (Nat × List Nat)) (s : S) (u : Nat), (q0q σ s).live u = match look σ u with | some _ => none | none => s.live u
 | [], _, _ => rfl
 | (t, p) :: σ, s, u => by
  simp only [q0q, z7y σ, z3J, look]
  by_cases h : t = u
  ·subst h; simp; cases look σ t <;> rfl
  ·simp [h]
theorem q97 : ∀ (σ : List (Nat × List Nat)) (s : S) (u : Nat), s.known u = true → (q0q σ s).known u = true
 | [], _, _, h => h
 | (t, p) :: σ, s, u, h => by
  simp only [q0q]
  exact q97 σ _ u (by rw [q8h, h]; simp)
theorem z3e : ∀ (σ : List (Nat × List Nat)) (s : S) (u : Nat), look σ u ≠ none → (q0q σ s).known u = true
 | [], _, _, h => by simp [look] at h
 | (t, p) :: σ, s, u, h => by
  simp only [q0q]
  by_cases e : t = u
  ·subst e; exact q97 σ _ t (by rw [q8h]; simp)
  ·exact z3e σ _ u (by simpa [look, e] using h)
def X6 (d : Nat) : List (Key × O) → S → S
 | [], s => s
 | (k, o) :: L, s => (X6 d L s).put (dn d k) (o.ren (dn d))
def q4L (d : Nat) : List (Nat × Option Nat) → S → S
 | [], s => s
 | (m, x) :: l, s => (q4L d l s).tok (rk d m) x
def q4h : List Nat → S → S
 | [], s => s
 | t :: l, s => (q4h l s).tok t none
theorem z9N (d : Nat) : ∀ (L : List (Key × O)) (s : S) (k : Key), (X6 d L s).obj k = match z7 (dnL d L) k with | some o => some o | none => s.obj k
 | [], _, _ => rfl
 | (j, o) :: L, s, k => by
  simp only [X6, Z7, dnL, z7, z9N d L s k]
  split <;> rfl
theorem y1Y (d : Nat) : ∀ (L : List (Key × O)) (s : S), (X6 d L s).tk = s.tk
 | [], _ => rfl
 | (j, o) :: L, s => by simp only [X6, S.put, y1Y d L s]
theorem z7s (d : Nat) : ∀ (l : List (Nat × Option Nat)) (s : S) (t : Nat), look (q4L d l s).tk t = match look (dnT d l) t with | some x => some x | none => look s.tk t
 | [], _, _ => rfl
 | (m, x) :: l, s, t => by
  simp only [q4L, S.tok, q7t, dnT, look, z7s d l s t]
  split <;> rfl
theorem z3G (d : Nat) : ∀ (l : List (Nat × Option Nat)) (s : S), (q4L d l s).loc = s.loc ∧ (q4L d l s).A = s.A
 | [], _ => ⟨rfl, rfl⟩
 | (m, x) :: l, s => by simp only [q4L, S.tok]; exact z3G d l s
theorem z7t : ∀ (l : List Nat) (s : S) (t : Nat), look (q4h l s).tk t = match look (q3y l) t with | some x => some x | none => look s.tk t
 | [], _, _ => rfl
 | m :: l, s, t => by
  simp only [q4h, S.tok, q7t, q3y, look, z7t l s t]
  split <;> rfl
theorem z3H : ∀ (l : List Nat) (s : S), (q4h l s).loc = s.loc ∧ (q4h l s).A = s.A
 | [], _ => ⟨rfl, rfl⟩
 | m :: l, s => by simp only [q4h, S.tok]; exact z3H l s
def S.ret (s : S) (tip : Bool) (ys : List V) (d : Nat) (v : V) (L : List (Key × O)) : S := q4L d (v.tkR 2000) (q4h (b7 tip s ys) (X6 d L s))
theorem y8e (s : S) (tip : Bool) (ys : List V) (d : Nat) (v : V) (L : List (Key × O)) (k : Key) : (s.ret tip ys d v L).obj k = (s.back tip ys d v L).obj k := by
 have h1 := z3G d (v.tkR 2000) (q4h (b7 tip s ys) (X6 d L s))
 have h2 := z3H (b7 tip s ys) (X6 d L s)
 have h3 := z9N d L s k
 unfold S.obj at h3 ⊢
 simp only [S.ret, h1.1, h1.2, h2.1, h2.2, h3]
 unfold Q2 S.back
 simp only [q1g]
 cases z7 (dnL d L) k <;> rfl
theorem y4y (s : S) (tip : Bool) (ys : List V) (d : Nat) (v : V) (L : List (Key × O)) (t : Nat) : look (s.ret tip ys d v L).tk t = look (s.back tip ys d v L).tk t := by
 simp only [S.ret, z7s, z7t, y1Y, S.back, q1L]
 cases look (dnT d (v.tkR 2000)) t <;> cases look (q3y (b7 tip s ys)) t <;> rfl
def gOk (s : S) (d : Nat) : List (Key × O) → Prop
 | [] => True
 | (.g k, _) :: L => (s.obj k).isSome = true ∧ gOk s d L
 | (.l j, _) :: L => s.obj (.l (rk d j)) = none ∧ gOk s d L
def tOk (s : S) (d : Nat) : List (Nat × Option Nat) → Prop
 | [] => True
 | (m, _) :: l => s.known (rk d m) = false ∧ tOk s d l
theorem y3B {s : S} {d : Nat} : ∀ {L : List (Key × O)} {k : Key} {o : O}, gOk s d L → z7 L (.g k) = some o → s.obj k ≠ none
 | [], _, _, _, h => by simp [z7] at h
 | (.g j, o') :: L, k, o, hg, h => by
  simp only [z7] at h
  split at h
  ·rename_i e; cases e; have := hg.1; intro h'; rw [h'] at this; cases this
  ·exact y3B hg.2 h
 | (.l j, o') :: L, k, o, hg, h => by simp [z7] at h; exact y3B hg.2 h
theorem y3A {s : S} {d : Nat} : ∀ {L : List (Key × O)} {j : Nat} {o : O}, gOk s d L → z7 L (.l j) = some o → s.obj (.l (rk d j)) = none
 | [], _, _, _, h => by simp [z7] at h
 | (.l i, o') :: L, j, o, hg, h => by
  simp only [z7] at h
  split at h
  ·rename_i e; cases e; exact hg.1
  ·exact y3A hg.2 h
 | (.g i, o') :: L, j, o, hg, h => by simp [z7] at h; exact y3A hg.2 h
theorem y7B {s : S} {d : Nat} : ∀ {l : List (Nat × Option Nat)} {m : Nat} {x : Option Nat}, tOk s d l → look l m = some x → s.known (rk d m) = false
 | [], _, _, _, h => by simp [look] at h
 | (i, y) :: l, m, x, hg, h => by
  simp only [look] at h
  split at h
  ·rename_i e; subst e; exact hg.1
  ·exact y7B hg.2 h
def top (X : Cx) (md : List (Nat × Nat)) (dst : Nat) (o : Oper) (ρ : Operand → V) (s : S) (K : V → S → Prop) : Prop :=
 match o.op with
 | .store T p y => (match ρ p with
   | .ptr k q τ => (match s.obj k with
     | some (.box x) => τ = ty X.P T ∧ τ.known = true ∧ (Z5 τ (ρ y)).ty = τ ∧ (Z5 τ (ρ y)).plain = true ∧ x.at q ≠ .any ∧ x.ty.H0 = true ∧ (Z5 τ (ρ y)).okH = true ∧
       K .any (q0q ((Z5 τ (ρ y)).sites s.live q) (s.put k (.box (x.setAt q ((Z5 τ (ρ y)).k9 ((Z5 τ (ρ y)).sites s.live q) s.live q)))))
     | _ => False)
   | _ => False)
 | .box _ x => (ρ x).plain = true ∧ (ρ x).okH = true ∧ s.obj (.l dst) = none ∧
   K (.ptr (.l dst) [] (ρ x).ty) (q0q ((ρ x).sites s.live []) (s.put (.l dst) (.box ((ρ x).k9 ((ρ x).sites s.live []) s.live []))))
 | .load T x => (match ρ x with
   | .ptr k q τ => (match s.obj k with
     | some (.box y) => (match y.at q with
      | .ts eb e cs => c5 md dst = 1 ∧ τ = ty X.P T ∧ τ = .slice eb e ∧ y.ty.H0 = true ∧ s.known dst = false ∧ K (.sl eb e cs dst) ((s.put k (.box (y.setAt q (.d (.slice eb e) (.slice cs))))).tok dst (some cs.length))
      | _ => False)
     | _ => False)
   | _ => False)
 | .mapUpdate T x i y => (match q5n X.P T, ρ x with
   | some (kt, et), .mp k => (match s.obj k with
     | some (.map kτ vτ es) => kτ = ty X.P kt ∧ vτ = ty X.P et ∧ q0M X.P kt = true ∧ kτ.flat = true ∧ (ρ i).Y4 kτ ∧ (Z5 vτ (ρ y).j5).ty = vτ ∧ (Z5 vτ (ρ y).j5).plain = true ∧ (Z5 vτ (ρ y).j5).u7 = true ∧
       K .any (s.put k (.map kτ vτ (q1J es (ρ i).toC (Z5 vτ (ρ y).j5))))
     | _ => False)
   | _, _ => False)
 | .call c => (match c.callee with
   | .value fo => (match ρ fo with
     | .fn f caps => q1O X.P f = true ∧ c.argTypes.toList.length = c.args.toList.length ∧ q1f (b7 (c5 md dst == 1) s (Z6 (c.args.toList.map ρ) caps)) = true ∧
      ∃ v L, j7 X f (Q6 X.P (c5 md dst == 1) s (q48 c.argTypes.toList caps) (Z6 (c.args.toList.map ρ) caps)) s.up v L ∧ gOk s dst L ∧ tOk s dst (v.tkR 2000) ∧
       K ((v.X9 2000).ren (dn dst) (rk dst)) (s.ret (c5 md dst == 1) (Z6 (c.args.toList.map ρ) caps) dst v L)
     | _ => False)
   | .builtin .append => (match c.args.toList, c.argTypes.toList with
     | [x, y], [t, t'] => Q7 X.P (x4 X.P t) = true ∧ (match ty X.P t, ρ x with
       | .slice eb e, .sl eb' e' cs tk => eb' = eb ∧ e' = e ∧ s.live tk = some cs.length ∧
         q6r X.P s t' eb e (ρ y) fun ys => (cs.length + ys.length) * eb ≤ 140737488355328 ∧ cs.length + ys.length ≤ maxLen ∧ K (.sl eb e (cs ++ ys) tk) (s.tok tk (some (cs.length + ys.length)))
       | .slice eb e, .sr k [] 0 n none eb' e' => (match s.obj k with
         | some (.box (.d (.arr M e2) cc)) => eb' = eb ∧ e' = e ∧ e2 = e ∧ ∃ d, s.obj (.l d) = none ∧
           q6r X.P s t' eb e (ρ y) fun ys => (n + ys.length) * eb ≤ 140737488355328 ∧ n + ys.length ≤ maxLen ∧
            K (.sr (.l d) [] 0 (n + ys.length) none eb e) ((s.put k (.dead (.arr M e))).put (.l d) (.box (.d (.arr (n + ys.length) e) (.agg (cc.elems.take n ++ ys)))))
         | _ => False)
       | _, _ => False)
     | _, _ => False)
   | .builtin .copy => (match c.args.toList, c.argTypes.toList with
     | [x, y], [t, t'] => Q7 X.P (x4 X.P t) = true ∧ (match ty X.P t, ρ x with
       | .slice eb e, .sr k q lo n (some _) eb' e' => (match s.obj k with
         | some (.box Z) => (match Z.at q with
          | .d (.arr m e2) cc => eb' = eb ∧ e' = e ∧ e2 = e ∧ Z.ty.H0 = true ∧ 0 < n ∧
            q6r X.P s t' eb e (ρ y) fun ys => K (.d (.int .i64) (.int (min ys.length n : Nat))) (s.put k (.box (Z.setAt q (.d (.arr m e) (.agg (q47 cc.elems lo n ys))))))
          | _ => False)
         | _ => False)
       | _, _ => False)
     | _, _ => False)
   | _ => False)
 | _ => False
def y7U (X : Cx) (o : Oper) (ρ : Operand → V) (s : S) (v : V) (s1 : S) : Prop :=
 s1.A = s.A ∧ s1.env = s.env ∧ ∀ (Γ : G) (w : World) (a : Act), Γ.gl = X.gl → z8 Γ w s → (∀ y ∈ o.op.operands, q9 Γ (ρ y) (a.eval y)) → u5 X.P o a w (s9 Γ w s1 v)
section
variable {X : Cx} {Γ : G} {w : World} {s : S}
theorem s9.congr {s1 s2 : S} {x : V} {v : Value} {w' : World} (h : s9 Γ w s1 x v w') (h1 : ∀ k, s2.obj k = s1.obj k) (h2 : ∀ t, s2.live t = s1.live t) (h3 : ∀ t, s1.known t = true → s2.known t = true) : s9 Γ w s2 x v w' := by
 obtain ⟨Γ', a, b, c, d⟩ := h
 exact ⟨Γ', a, b, c.congr h1 h2 h3, d⟩
theorem q7M : ∀ (σ : List (Nat × List Nat)) (s : S), (q0q σ s).env = s.env ∧ (q0q σ s).A = s.A
 | [], _ => ⟨rfl, rfl⟩
 | (t, _) :: σ, s => by simp only [q0q]; exact q7M σ _
theorem z38 (d : Nat) : ∀ (L : List (Key × O)) (s : S), (X6 d L s).env = s.env ∧ (X6 d L s).A = s.A
 | [], _ => ⟨rfl, rfl⟩
 | _ :: L, s => by simp only [X6, S.put]; exact z38 d L s
theorem y0E (d : Nat) : ∀ (l : List (Nat × Option Nat)) (s : S), (q4L d l s).env = s.env
 | [], _ => rfl
 | _ :: l, s => by simp only [q4L, S.tok]; exact y0E d l s
theorem y0F : ∀ (l : List Nat) (s : S), (q4h l s).env = s.env
 | [], _ => rfl
 | _ :: l, s => by simp only [q4h, S.tok]; exact y0F l s
theorem y15 (tip : Bool) (ys : List V) (d : Nat) (v : V) (L : List (Key × O)) : (s.ret tip ys d v L).env = s.env ∧ (s.ret tip ys d v L).A = s.A := by
 unfold S.ret
 exact ⟨by rw [y0E, y0F, (z38 d L s).1], by rw [(z3G _ _ _).2, (z3H _ _).2, (z38 d L s).2]⟩
theorem z1C {s s' : S} (h : ∀ t, look s.tk t = look s'.tk t) (t : Nat) : s.live t = s'.live t := by unfold S.live H7; rw [h]
theorem z0I {s s' : S} (h : ∀ t, look s.tk t = look s'.tk t) (t : Nat) : s.known t = s'.known t := by unfold S.known; rw [h]
theorem z43 {σ : List (Nat × List Nat)} {k : Key} {o : O} {x : V} {v : Value} {w' : World} (h : s9 Γ w { s with loc := (k, o) :: s.loc, tk := q45 σ ++ s.tk } x v w') : s9 Γ w (q0q σ (s.put k o)) x v w' := by
 refine h.congr (fun j => ?_) (fun t => ?_) (fun t ht => ?_)
 ·rw [z9P, Z7]
  exact (s7 { s with tk := q45 σ ++ s.tk } k j o).symm
 ·rw [z7y]
  unfold S.live H7
  simp only [q5Q]
  cases look σ t <;> rfl
 ·unfold S.known at ht
  simp only [q5Q] at ht
  cases hs : look σ t with
  | none => rw [hs] at ht; exact q97 σ _ t ht
  | some p => exact z3e σ _ t (by rw [hs]; simp)
theorem z03 (hP : x6 X.P = true) {md : List (Nat × Nat)} {dst : Nat} {o : Oper} {ρ : Operand → V} {K : V → S → Prop} (h : top X md dst o ρ s K) : ∃ v s1, K v s1 ∧ y7U X o ρ s v s1 := by
 unfold top at h
 split at h
 ·rename_i T p y ho
  split at h
  ·rename_i k q τ hp
   split at h
   ·rename_i x hobj
    obtain ⟨h1, h2, h3, h4, h5, h6, h7, hK⟩ := h
    refine ⟨_, _, hK, by rw [(q7M _ _).2]; rfl, by rw [(q7M _ _).1]; rfl, fun Γ w a _ c hr => ?_⟩
    have hpr := hr p (by rw [ho]; simp [Op.operands])
    rw [hp] at hpr
    have := y5x (Y := ρ y) hP c ho hpr (hr y (by rw [ho]; simp [Op.operands])) hobj h1 h2 h3 h4 h5 h6 h7
    exact this.mono fun v w' hpost => z43 hpost
   ·exact h.elim
  ·exact h.elim
 ·rename_i T x ho
  obtain ⟨h1, h2, h3, hK⟩ := h
  refine ⟨_, _, hK, by rw [(q7M _ _).2]; rfl, by rw [(q7M _ _).1]; rfl, fun Γ w a _ c hr => ?_⟩
  exact (y8P c ho h3 (hr x (by rw [ho]; simp [Op.operands])) h1 h2).mono fun v w' hpost => z43 hpost
 ·rename_i T x ho
  split at h
  ·rename_i k q τ hx
   split at h
   ·rename_i y hobj
    split at h
    ·rename_i eb e cs hat
     obtain ⟨_, h2, h3, h4, h5, hK⟩ := h
     refine ⟨_, _, hK, rfl, rfl, fun Γ w a _ c hr => ?_⟩
     have hxr := hr x (by rw [ho]; simp [Op.operands])
     rw [hx] at hxr
     obtain ⟨b, τ0, o0, hι, hw, hv⟩ := H4 hxr
     obtain ⟨u, r1, r2⟩ := z3I (T := T) hP c hxr hobj (by rw [hat]; simp) h2 (by rw [h3]; rfl)
     rw [hat] at r2
     simp only [view] at r2
     obtain ⟨aa, n, cap, e1, _⟩ := q01 (eb := eb) (e := e) (cs := cs) r2 (by simp [V.q2r, C.elems])
     subst e1
     rw [h3] at hw
     have hcell : w.cell? ⟨b, o0, none⟩ = some (.slice aa n cap) := by
      have r1' := r1
      rw [hv] at r1'
      simp only [Instr.loadAt, Instr.sureAddr, Sem.run_bind, Sem.run_pure, Result.andThen_ok] at r1'
      obtain ⟨b2, cells, E, e1, _, _, e4, e5, e6, e7, _⟩ := c.own hι hobj
      rw [hι] at e1; cases e1
      obtain ⟨g1, g2, g3⟩ := e6.at_ hw (by rw [hat]; simp) e7
      have hcl : (chunk cells.toList 0 y.ty.size).length = y.ty.size := r7 _ _ _ (by simpa using e5)
      rw [hcl] at g2
      simp only [Ty.size] at g2
      obtain ⟨u', q1, q2, q3⟩ := q5L (T := T) (E := E) (fr := (0, 0)) (off := o0) hP (h2.symm.trans h3) rfl e4 (by simp only [Ty.size]; omega) (by
       have := g3.one (by rw [hat]; rfl)
       simp only [Ty.size] at this ⊢
       rwa [o9 _ _ _ _ _ (by omega), Nat.zero_add] at this)
      rw [r1'] at q1
      cases q1
      simp only [Value.cells, Ty.size] at q2
      have : (chunk cells.toList o0 1)[0]? = some (.slice aa n cap) := by rw [← q2]; rfl
      rw [u0] at this
      simp at this
      simp [World.cell?, e4, this]
     obtain ⟨Γ', t1, t2, t3, t4⟩ := c.take (t := dst) hobj hat h4 h5 hι hw hcell
     refine u5.val (v := .slice aa n cap) (w' := w) (by unfold execOp; simp [ho, r1]) ⟨Γ', t1, t2, t3.congr (fun j => ?_) (fun t => ?_) (fun t ht => ?_), t4⟩
     ·refine (Z7 s k j _).trans ?_
      exact (s7 { s with tk := (dst, some cs.length) :: s.tk } k j _).symm
     ·refine (z3J _ dst t _).trans ?_
      exact (q3c { s with loc := (k, .box (y.setAt q (.d (.slice eb e) (.slice cs)))) :: s.loc } dst t (some cs.length)).symm
     ·rw [q8h]
      exact (q2m { s with loc := (k, .box (y.setAt q (.d (.slice eb e) (.slice cs)))) :: s.loc } dst t (some cs.length)).symm.trans ht
    ·exact h.elim
   ·exact h.elim
  ·exact h.elim
 ·rename_i T x i y ho
  split at h
  ·rename_i kt et k hT hx
   split at h
   ·rename_i kτ vτ es hobj
    obtain ⟨rfl, rfl, h1, h2, h3, h4, h5, h6, hK⟩ := h
    refine ⟨_, _, hK, rfl, rfl, fun Γ w a _ c hr => ?_⟩
    have hxr := hr x (by rw [ho]; simp [Op.operands])
    rw [hx] at hxr
    have hir := hr i (by rw [ho]; simp [Op.operands])
    have hd : ρ i = .d (ty X.P kt) (ρ i).toC := by
     cases hi : ρ i <;> simp [hi, V.Y4] at h3
     subst h3; rfl
    rw [hd] at hir
    exact (y0P hP c ho hT hxr hir (z4b (hr y (by rw [ho]; simp [Op.operands])).j5) hobj h1 h2 h4 h5 h6).mono fun v w' hpost => hpost.congr (fun j => (Z7 s k j _).trans (s7 s k j _).symm) (fun _ => rfl) (fun _ h => h)
   ·exact h.elim
  ·exact h.elim
 ·rename_i cl ho
  obtain ⟨callee, args, ts⟩ := cl
  split at h
  ·rename_i fo hfo
   simp only at hfo h
   subst hfo
   split at h
   ·rename_i f caps hf
    obtain ⟨h1, h2, h3, v, L, D, hg, ht, hK⟩ := h
    refine ⟨_, _, hK, (y15 ..).2, (y15 ..).1, fun Γ w a hgl c hr => ?_⟩
    have hrf := hr fo (by rw [ho]; simp [Op.operands, Call.operands])
    rw [hf] at hrf
    have := y2A (A := s.up) (d := dst) rfl hgl c ho h1 h2 hrf (fun y hy => hr y (by rw [ho]; simp only [Op.operands, Call.operands]; exact Array.mem_append_right _ (Array.mem_toList_iff.1 hy))) h3 D (fun _ _ h => h)
     (fun k o hk => y3B hg hk) (fun j o hj => y3A hg hj) (fun m x hm => y7B ht hm)
    exact this.mono fun v' w' hpost => hpost.congr (fun k => y8e ..) (fun t => z1C (fun t => y4y ..) t) (fun t hk => by rw [z0I (fun t => y4y ..)]; exact hk)
   ·exact h.elim
  ·rename_i hb
   simp only at hb h
   subst hb
   split at h
   ·rename_i x y t t' hargs hts
    have hargs' : args = #[x, y] := by cases args; simpa using hargs
    have hts' : ts = #[t, t'] := by cases ts; simpa using hts
    subst hargs'; subst hts'
    obtain ⟨h1, h⟩ := h
    split at h
    ·rename_i eb e eb' e' cs tk htt hx
     obtain ⟨rfl, rfl, hl, h⟩ := h
     obtain ⟨ys, ⟨b1, b2, hK⟩, hs⟩ := q55 hP h
     refine ⟨_, _, hK, rfl, rfl, fun Γ w a _ c hr => ?_⟩
     have hyr := hr y (by rw [ho]; simp [Op.operands, Call.operands])
     have hxr := hr x (by rw [ho]; simp [Op.operands, Call.operands])
     rw [hx] at hxr
     exact (z8w hP c ho htt h1 hl hxr hyr hs b1 b2).mono fun v w' hpost => hpost.congr (fun _ => rfl) (fun u => (z3J s tk u _).trans (q3c s tk u _).symm) (fun u hu => by rw [q8h]; exact (q2m s tk u _).symm.trans hu)
    ·rename_i eb e k n eb' e' htt hx
     split at h
     ·rename_i M e2 cc hobj
      obtain ⟨rfl, rfl, rfl, d, hd, h⟩ := h
      obtain ⟨ys, ⟨b1, b2, hK⟩, hs⟩ := q55 hP h
      refine ⟨_, _, hK, rfl, rfl, fun Γ w a _ c hr => ?_⟩
      have hyr := hr y (by rw [ho]; simp [Op.operands, Call.operands])
      have hxr := hr x (by rw [ho]; simp [Op.operands, Call.operands])
      rw [hx] at hxr
      exact (z8v hP c ho htt h1 hd hobj hxr hyr hs b1 b2).mono fun v w' hpost => hpost.congr (fun j => by rw [Z7, Z7]; rw [show S.obj { s with loc := (Key.l d, O.box (.d (.arr (n + ys.length) _) (.agg (cc.elems.take n ++ ys)))) :: (k, O.dead _) :: s.loc } j = S.obj { ({ s with loc := (k, O.dead _) :: s.loc } : S) with loc := (Key.l d, _) :: ({ s with loc := (k, O.dead _) :: s.loc } : S).loc } j from rfl, s7, s7]) (fun u => rfl) (fun u hu => hu)
     ·exact h.elim
    ·exact h.elim
   ·exact h.elim
  ·rename_i hb
   simp only at hb h
   subst hb
   split at h
   ·rename_i x y t t' hargs hts
    have hargs' : args = #[x, y] := by cases args; simpa using hargs
    have hts' : ts = #[t, t'] := by cases ts; simpa using hts
    subst hargs'; subst hts'
    obtain ⟨h1, h⟩ := h
    split at h
    ·rename_i eb e k q lo n cp eb' e' htt hx
     split at h
     ·rename_i Z hobj
      split at h
      ·rename_i m e2 cc hZ
       obtain ⟨rfl, rfl, rfl, hd, h0, h⟩ := h
       obtain ⟨ys, hK, hs⟩ := q55 hP h
       refine ⟨_, _, hK, rfl, rfl, fun Γ w a _ c hr => ?_⟩
       have hyr := hr y (by rw [ho]; simp [Op.operands, Call.operands])
       have hxr := hr x (by rw [ho]; simp [Op.operands, Call.operands])
       rw [hx] at hxr
       exact (y8N hP c ho htt hobj hZ hd h0 h1 hxr hyr hs).mono fun v w' hpost => hpost.congr (fun j => by rw [Z7, s7]) (fun u => rfl) (fun u hu => hu)
      ·exact h.elim
     ·exact h.elim
    ·exact h.elim
   ·exact h.elim
  ·exact h.elim
 ·exact h.elim
end
end Go.E
namespace Go.E
open Go
def At (X : Cx) (n : Nat) (Γ0 : G) (s : S) (a : Act) (w : World) : Prop :=
 ∃ Γ, GLe Γ0 Γ ∧ Γ.gl = X.gl ∧ z8 Γ w s ∧ q2t Γ s a.tmps ∧ a.tmps.size = n ∧ a.defers = [] ∧ AOk s.A
def S.set (s : S) (d : Option Nat) (x : V) : S :=
 match d with
 | some d => { s with env := z3B s.env d x }
 | none => s
def q2A (s : S) : List (Key × O) → Prop
 | [] => True
 | (k, _) :: l => s.obj k = none ∧ q2A s l
def q2z (s : S) : List (Nat × Option Nat) → Prop
 | [] => True
 | (t, _) :: l => s.known t = false ∧ q2z s l
theorem z3W {s : S} {lo : List (Key × O)} {tn : List (Nat × Option Nat)} (h : q2A s lo) (h' : q2z s tn) : z8T s lo tn := by
 constructor
 ·induction lo with
  | nil => intro k o hk; simp [z7] at hk
  | cons x lo ih =>
   intro k o hk
   simp only [z7] at hk
   split at hk
   ·rename_i e; rw [← e]; exact h.1
   ·exact ih h.2 k o hk
 ·induction tn with
  | nil => intro k o hk; simp [look] at hk
  | cons x tn ih =>
   intro k o hk
   simp only [look] at hk
   split at hk
   ·rename_i e; rw [← e]; exact h'.1
   ·exact ih h'.2 k o hk
noncomputable def y9A (X : Cx) (dst : Nat) (o : Oper) (s : S) (K : V → S → Prop) : Prop :=
  (iop X [] (H8 (q1i (o.op.operands.toList.map (x7 X.gl s))) s) dst o (fun y => W1 s (x7 X.gl s y)) (H8 (q1i (o.op.operands.toList.map (x7 X.gl s))) s)
   (fun v lo tn => q2A (H8 (q1i (o.op.operands.toList.map (x7 X.gl s))) s) lo ∧ q2z (H8 (q1i (o.op.operands.toList.map (x7 X.gl s))) s) tn ∧ K v ((H8 (q1i (o.op.operands.toList.map (x7 X.gl s))) s).add lo tn)) ∨
  top X [] dst o (fun y => W1 s (x7 X.gl s y)) (H8 (q1i (o.op.operands.toList.map (x7 X.gl s))) s) K)
noncomputable def lop (X : Cx) (md : List (Nat × Nat)) (dst : Nat) (o : Oper) (s : S) (K : V → S → Prop) : Prop := c5 md dst = 100 ∧ y9A X dst o s K
theorem z4T : ∀ {xs : List V} {x : V} {j : Nat}, x ∈ xs → j ∈ q1W x → j ∈ q1i xs
 | y :: ys, x, j, hx, hj => by
  simp only [q1i, List.mem_append]
  rcases List.mem_cons.1 hx with rfl | hx
  ·exact .inl hj
  ·exact .inr (z4T hx hj)
theorem q6j : ∀ (js : List Nat) (s : S), (H8 js s).env = s.env ∧ (H8 js s).A = s.A
 | [], s => ⟨rfl, rfl⟩
 | j :: l, s => by
  simp only [H8]
  have := q6j l (match s.obj (.l j) with
   | some (.box (.d τ _)) => (match τ with
    | .arr M e => { s with loc := (.l j, .dead (.arr M e)) :: s.loc }
    | _ => s)
   | _ => s)
  refine ⟨this.1.trans ?_, this.2.trans ?_⟩ <;> (split <;> (try rfl); split <;> rfl)
noncomputable def sop (X : Cx) (md : List (Nat × Nat)) (dst : Nat) (o : Oper) (s : S) (K : V → S → Prop) : Prop :=
 lop X md dst o s K ∨ (c5 md dst ≠ 1 ∧ iop X md s dst o (x7 X.gl s) s (fun v lo tn => q2A s lo ∧ q2z s tn ∧ K v (s.add lo tn))) ∨ top X md dst o (x7 X.gl s) s K ∨ (fop X o (x7 X.gl s) fun v => K v s) ∨ sl3 X md dst o (x7 X.gl s) s K
def q2W (ops : Array Oper) (j : Nat) : Option Nat := (ops[j]?).bind (·.dst)
def w5 (o : Oper) : Nat := o.dst.getD 0
def gk (b want : Bool) (p q : Prop) : Prop := (b = want → p) ∧ (b ≠ want → q)
theorem q0D (p q : Prop) : gk true true p q = p := by simp [gk]
theorem q0G (p q : Prop) : gk false false p q = p := by simp [gk]
theorem q0E (p q : Prop) : gk true false p q = q := by simp [gk]
theorem q0F (p q : Prop) : gk false true p q = q := by simp [gk]
def gv (ops : Array Oper) (s : S) (j : Nat) : V := match q2W ops j with
 | none => .any
 | some t => s.get t
def gx (x : V) (want : Bool) (p q : Prop) : Prop := match x with
 | .d .bool c => gk c.toBool want p q
 | .tup [] => q
 | _ => False
noncomputable def vc (X : Cx) (md : List (Nat × Nat)) (ops : Array Oper) (Φ : S → Prop) : List Oper → S → Prop
 | [], s => Φ s
 | o :: rest, s => match o.guard with
  | none => sop X md (w5 o) o s fun v s' => vc X md ops Φ rest (s'.set o.dst v)
  | some (j, want) => gx (gv ops s j) want (sop X md (w5 o) o s fun v s' => vc X md ops Φ rest (s'.set o.dst v)) (vc X md ops Φ rest (s.set o.dst (.tup [])))
theorem z4C {Γ : G} : q9 Γ (.tup []) undef := ⟨#[], rfl, by simp [y9]⟩
theorem q3w (s : S) (d : Option Nat) (v : V) (t : Nat) : (s.set d v).get t = if d = some t then v else s.get t := by
 cases d with
 | none => simp [S.set]
 | some d =>
  simp only [S.set, S.get, q7t]
  by_cases h : d = t
  ·simp [h]
  ·have : ¬ (some d = some t) := by intro e; cases e; exact h rfl
   simp [h]
section
variable {X : Cx} {n : Nat} {Γ0 : G}
theorem y4o {Γ : G} {s : S} {a : Act} {d : Option Nat} {x : V} {v : Value} (hs : q2t Γ s a.tmps) (hd : ∀ t, d = some t → t < a.tmps.size) (hx : q9 Γ x v) :
  q2t Γ (s.set d x) (a.put d v).tmps := by
 intro i
 rw [q3w]
 cases d with
 | none => simpa [Act.put] using hs i
 | some t =>
  have := hd t rfl
  by_cases h : t = i
  ·subst h
   simp only [Act.put, if_true]
   simp [this]
   exact hx
  ·have h' : ¬ (some t = some i) := by intro e; cases e; exact h rfl
   rw [if_neg h']
   have := hs i
   simpa [Act.put, Array.getElem?_setIfInBounds_ne h] using this
theorem q7R {Γ : G} {w : World} {s : S} (c : z8 Γ w s) (d : Option Nat) (x : V) : z8 Γ w (s.set d x) := by
 cases d with
 | none => exact c
 | some t => exact c.env _
theorem q8l {Γ : G} {w : World} {s s' : S} {a : Act} (hgl : Γ.gl = X.gl) (c : z8 Γ w s') (hs : ∀ t, q9 Γ (s.get t) (a.tmps.getD t undef)) {y : Operand} (hy : q8a y = true) : q9 Γ (x7 X.gl s y) (a.eval y) := by
 cases y with
 | tmp t => exact hs t
 | func f =>
  show q9 Γ (.fn f []) (.func (.func f) #[] #[])
  exact (x3 rfl).2 ⟨by simp [q8, y9, Value.cells], by simp [V.ty, Ty.isAgg, w4]⟩
 | global g =>
  simp only [x7]
  cases hg : X.gl g with
  | none => simp [q9]
  | some x =>
   obtain ⟨τ, cc⟩ := x
   obtain ⟨l, h1, h2, h3⟩ := c.hgl g τ cc (by rw [hgl]; exact hg)
   exact q1b h1 (by simpa using h2) h3
 | const v =>
  simp only [x7, Act.eval]
  unfold y02
  simp only [q8a] at hy
  split
  ·simp [z6S] at hy; exact v8 hy.1 hy.2
  ·exact w8
  ·simp [z6S] at hy
   rename_i str
   exact q1H (l := str.data.toList) (by simpa using hy)
  ·exact (x3 rfl).2 ⟨by simp [q8, z6, Value.cells], by simp [V.ty, Ty.isAgg, w4]⟩
  ·exact (x3 rfl).2 ⟨by simp [q8, Value.cells], by simp [V.ty, Ty.isAgg, w4]⟩
  ·exact (x3 rfl).2 ⟨by simp [q8, z6, Value.cells], by simp [V.ty, Ty.isAgg, w4]⟩
  ·exact (x3 rfl).2 ⟨by simp [q8, z6, Value.cells], by simp [V.ty, Ty.isAgg, w4]⟩
  ·exact (x3 rfl).2 ⟨by simp [q8, z6, Value.cells], by simp [V.ty, Ty.isAgg, w4]⟩
  ·simp [q9]
theorem q7S {s : S} {a : Act} {w : World} {d : Option Nat} {x : V} (hd : match d with | some d => decide (d < n) = true | none => True) {Γ : G} (h1 : GLe Γ0 Γ) (h3 : Γ.gl = X.gl) (c : z8 Γ w s) (hs : q2t Γ s a.tmps) (hn : a.tmps.size = n) (hf : a.defers = [] ∧ AOk s.A) {v : Value} (hx : q9 Γ x v) :
  At X n Γ0 (s.set d x) (a.put d v) w := by
 refine ⟨Γ, h1, h3, q7R c d x, y4o hs (fun t ht => ?_) hx, ?_, ?_, ?_⟩
 ·subst ht; simp at hd; omega
 ·cases d <;> simp [Act.put, hn]
 ·cases d <;> simp [Act.put, hf.1]
 ·cases d <;> exact hf.2
theorem q2g {Γ : G} {s s' : S} {t : Array Value} (h : s'.env = s.env) (hs : q2t Γ s t) : q2t Γ s' t := fun i => by
 have := hs i
 simp only [S.get] at this ⊢
 rw [h]; exact this
theorem y4n (hP : x6 X.P = true) {md : List (Nat × Nat)} {o : Oper} {s : S} {K : V → S → Prop} (hok : q7q n o = true) (h : sop X md (w5 o) o s K) {a : Act} {w : World} (hat : At X n Γ0 s a w) :
  u5 X.P o a w fun u w' => ∃ v s', K v s' ∧ At X n Γ0 (s'.set o.dst v) (a.put o.dst u) w' := by
 obtain ⟨Γ, g1, g3, c, hs, hn, hf⟩ := hat
 simp only [q7q, Bool.and_eq_true, Array.all_eq_true'] at hok
 have hd : match o.dst with | some d => decide (d < n) = true | none => True := by
  cases ho : o.dst with
  | none => trivial
  | some d => have := hok.2; rw [ho] at this; exact this
 have hops : ∀ y ∈ o.op.operands, q9 Γ (x7 X.gl s y) (a.eval y) := fun y hy => q8l g3 c hs (hok.1 y hy)
 rcases h with ⟨_, h⟩ | ⟨_, h⟩ | h | h | h
 ·obtain ⟨Γ1, gl1, p1, c1, hcv⟩ := q93 (q1i (o.op.operands.toList.map (x7 X.gl s))) s c
  have hops1 : ∀ y ∈ o.op.operands, q9 Γ1 (W1 s (x7 X.gl s y)) (a.eval y) := fun y hy =>
   hcv _ _ (hops y hy) fun j hj => z4T (List.mem_map_of_mem (by simpa using hy)) hj
  have henv := q6j (q1i (o.op.operands.toList.map (x7 X.gl s))) s
  have hs1 : q2t Γ1 (H8 (q1i (o.op.operands.toList.map (x7 X.gl s))) s) a.tmps := q2g henv.1 (hs.k8 p1)
  have g31 : Γ1.gl = X.gl := gl1.gl.trans g3
  rcases h with h | h
  ·obtain ⟨v, lo, tn, ⟨hf1, hf2, hK⟩, hI⟩ := q8k hP h
   refine (hI Γ1 w a _ g31 c1 ⟨fun _ _ h _ => h, fun _ _ h => h⟩ (z3W hf1 hf2) hops1).mono ?_
   rintro u w' ⟨Γ', gle, hp, c', hv⟩
   exact ⟨_, _, hK, q7S hd ((g1.trans gl1).trans gle) (gle.gl.trans g31) c' (q2g (s := H8 (q1i (o.op.operands.toList.map (x7 X.gl s))) s) rfl (hs1.k8 hp)) hn ⟨hf.1, by show AOk (H8 _ s).A; rw [henv.2]; exact hf.2⟩ hv⟩
  ·obtain ⟨v, s1, hK, hsA, he, hT⟩ := z03 hP h
   refine (hT Γ1 w a g31 c1 hops1).mono ?_
   rintro u w' ⟨Γ', gle, hp, c', hv⟩
   exact ⟨_, _, hK, q7S hd ((g1.trans gl1).trans gle) (gle.gl.trans g31) c' (q2g he (hs1.k8 hp)) hn ⟨hf.1, by rw [hsA, henv.2]; exact hf.2⟩ hv⟩
 ·obtain ⟨v, lo, tn, ⟨hf1, hf2, hK⟩, hI⟩ := q8k hP h
  refine (hI Γ w a s g3 c ⟨fun _ _ h _ => h, fun _ _ h => h⟩ (z3W hf1 hf2) hops).mono ?_
  rintro u w' ⟨Γ', gle, hp, c', hv⟩
  exact ⟨_, _, hK, q7S hd (g1.trans gle) (gle.gl.trans g3) c' (q2g rfl (hs.k8 hp)) hn hf hv⟩
 ·obtain ⟨v, s1, hK, hsA, he, hT⟩ := z03 hP h
  refine (hT Γ w a g3 c hops).mono ?_
  rintro u w' ⟨Γ', gle, hp, c', hv⟩
  exact ⟨_, _, hK, q7S hd (g1.trans gle) (gle.gl.trans g3) c' (q2g he (hs.k8 hp)) hn ⟨hf.1, by rw [hsA]; exact hf.2⟩ hv⟩
 ·obtain ⟨v, hK, hI⟩ := z7K hP h
  refine (hI Γ w a s c hops).mono ?_
  rintro u w' ⟨Γ', gle, hp, c', hv⟩
  exact ⟨_, _, hK, q7S hd (g1.trans gle) (gle.gl.trans g3) c' (q2g rfl (hs.k8 hp)) hn hf hv⟩
 ·obtain ⟨v, s1, hK, hsA, he, hT⟩ := y4q hP h
  refine (hT Γ w a c hops).mono ?_
  rintro u w' ⟨Γ', gle, hp, c', hv⟩
  exact ⟨_, _, hK, q7S hd (g1.trans gle) (gle.gl.trans g3) c' (q2g he (hs.k8 hp)) hn ⟨hf.1, by rw [hsA]; exact hf.2⟩ hv⟩
end
def DC (X : Cx) (n : Nat) (c : Code) (s : S) (Ψ : Exit → S → Prop) : Prop :=
 ∀ (Γ0 : G) (a : Act) (w : World), At X n Γ0 s a w → c.wp X.P (fun e a w => ∃ s', Ψ e s' ∧ At X n Γ0 s' a w) a w
def q00 (X : Cx) (n : Nat) (s s' : S) : Prop := ∀ (Γ0 : G) (a : Act) (w : World), At X n Γ0 s a w → At X n Γ0 s' a w
section
variable {X : Cx} {n : Nat} {s : S} {Ψ : Exit → S → Prop}
theorem y1M {Γ : G} {ops : Array Oper} {a : Act} {o : Oper} {j t : Nat} {want b : Bool} (hg : o.guard = some (j, want)) (ht : q2W ops j = some t)
  (hs : q9 Γ (.d .bool (.bool b)) (a.tmps.getD t undef)) : Region.wanted o (yielded ops a.tmps) = (b == want) := by
 have e2 : a.tmps.getD t undef = .bool b := (Y9 hs).1
 have hsome : a.tmps[t]? = some (.bool b) := by
  rw [Array.getD_eq_getD_getElem?] at e2
  cases h : a.tmps[t]? with
  | none => rw [h] at e2; simp [undef] at e2
  | some v => rw [h] at e2; simp at e2; rw [e2]
 simp only [q2W] at ht
 simp [Region.wanted, hg, yielded, ht, hsome]
theorem z5d {Γ : G} {ops : Array Oper} {a : Act} {o : Oper} {j t : Nat} {want : Bool} {c : C} (hg : o.guard = some (j, want)) (ht : q2W ops j = some t)
  (hs : q9 Γ (.d .bool c) (a.tmps.getD t undef)) : Region.wanted o (yielded ops a.tmps) = (c.toBool == want) := by
 obtain ⟨_, e⟩ := Y9 hs
 rw [e] at hs
 exact y1M hg ht hs
theorem z3k {Γ : G} {ops : Array Oper} {a : Act} {o : Oper} {j t : Nat} {want : Bool} (hg : o.guard = some (j, want)) (ht : q2W ops j = some t)
  (hs : q9 Γ (.tup []) (a.tmps.getD t undef)) : Region.wanted o (yielded ops a.tmps) = false := by
 obtain ⟨vs, e, _⟩ := hs
 have hnb : ∀ b, a.tmps[t]? ≠ some (.bool b) := by
  intro b h
  rw [Array.getD_eq_getD_getElem?, h] at e
  simp at e
 simp only [q2W] at ht
 simp only [Region.wanted, hg, yielded, ht, Option.bind_some]
 rfl
theorem z3s (hP : x6 X.P = true) {Γ0 : G} {md : List (Nat × Nat)} {ops : Array Oper} {Φ : S → Prop} {Q : Exit → Act → World → Prop} (hQ : ∀ s a w, Φ s → At X n Γ0 s a w → Q .normal a w) :
  ∀ (rest : List Oper) (s : S) (a : Act) (w : World), (∀ o ∈ rest, q7q n o = true) → vc X md ops Φ rest s → At X n Γ0 s a w → wpList X.P ops Q rest a w
 | [], s, a, w, _, h, hat => hQ s a w h hat
 | o :: rest, s, a, w, hok, h, hat => by
  have run : (sop X md (w5 o) o s fun v s' => vc X md ops Φ rest (s'.set o.dst v)) → o.wp X.P a w (wpList X.P ops Q rest) Q := by
   intro h
   refine y4n hP (hok o (by simp)) h hat _ _ ?_
   rintro u w' ⟨v, s', hv, hat'⟩
   exact z3s hP hQ rest _ _ _ (fun o ho => hok o (by simp [ho])) hv hat'
  have skip : vc X md ops Φ rest (s.set o.dst (.tup [])) → wpList X.P ops Q rest (a.put o.dst undef) w := by
   intro h
   obtain ⟨Γ, g1, g3, c, hs, hn, hf⟩ := hat
   have hd : match o.dst with | some d => decide (d < n) = true | none => True := by
    have := hok o (by simp)
    simp only [q7q, Bool.and_eq_true] at this
    cases ho : o.dst with
    | none => trivial
    | some d => have := this.2; rw [ho] at this; exact this
   exact z3s hP hQ rest _ _ _ (fun o ho => hok o (by simp [ho])) h (q7S hd g1 g3 c hs hn hf z4C)
  simp only [vc] at h
  simp only [wpList]
  split at h
  ·rename_i hg
   have : Region.wanted o (yielded ops a.tmps) = true := by simp [Region.wanted, hg]
   rw [if_pos this]
   exact .inl (run h)
  ·rename_i j want hg
   cases ht : q2W ops j with
   | none => simp [gv, ht, gx] at h
   | some t =>
    simp only [gv, ht] at h
    unfold gx at h
    obtain ⟨Γ, g1, g3, c, hs, hn, hf⟩ := id hat
    have hst := hs t
    split at h
    ·rename_i cb hb
     rw [hb] at hst
     rw [z5d hg ht hst]
     by_cases hbw : cb.toBool = want
     ·rw [if_pos (by simp [hbw])]
      exact .inl (run (h.1 hbw))
     ·rw [if_neg (by simp [hbw])]
      exact skip (h.2 hbw)
    ·rename_i hb
     rw [hb] at hst
     rw [if_neg (by rw [z3k hg ht hst]; simp)]
     exact skip h
    ·exact h.elim
theorem DC.mono {c : Code} {Ψ' : Exit → S → Prop} (h : DC X n c s Ψ) (hq : ∀ e s, Ψ e s → Ψ' e s) : DC X n c s Ψ' :=
 fun Γ0 a w hat => wp_mono (h Γ0 a w hat) fun e a w ⟨s', h1, h2⟩ => ⟨s', hq _ _ h1, h2⟩
theorem DC.q8r {c : Code} {s' : S} (hw : q00 X n s s') (h : DC X n c s' Ψ) : DC X n c s Ψ :=
 fun Γ0 a w hat => h Γ0 a w (hw Γ0 a w hat)
theorem q00.refl (s : S) : q00 X n s s := fun _ _ _ h => h
theorem q00.trans {s s' s'' : S} (h : q00 X n s s') (h' : q00 X n s' s'') : q00 X n s s'' := fun Γ0 a w hat => h' Γ0 a w (h Γ0 a w hat)
theorem q0x (hP : x6 X.P = true) (md : List (Nat × Nat)) {id : Nat} {l : List Oper} (hok : l.all (q7q n) = true) (h : vc X md l.toArray (fun s' => Ψ .normal s') l s) : DC X n (.region id l.toArray false) s Ψ := by
 intro Γ0 a w hat
 refine wp_region_lit (z3s hP (fun s' a w hΨ hat => ⟨s', hΨ, hat⟩) l s a w (fun o ho => List.all_eq_true.1 hok o ho) h hat)
theorem U3 {c c' : Code} (h : DC X n c s fun e s' => match e with | .normal => DC X n c' s' Ψ | e => Ψ e s') : DC X n (c.seq c') s Ψ := by
 intro Γ0 a w hat
 refine wp_seq (wp_mono (h Γ0 a w hat) ?_)
 rintro e a w ⟨s', h1, h2⟩
 cases e with
 | normal => exact h1 Γ0 a w h2
 | exit _ | goto _ | ret | panic _ | outgrown => exact ⟨s', h1, h2⟩
theorem q69 (h : Ψ .normal s) : DC X n .skip s Ψ := fun _ _ _ hat => wp_skip ⟨s, h, hat⟩
theorem y0V {l : Nat} (h : Ψ .normal s) : DC X n (.label l) s Ψ := fun _ _ _ hat => wp_label ⟨s, h, hat⟩
theorem q7Q (h : Ψ .ret s) : DC X n .ret s Ψ := fun _ _ _ hat => wp_ret ⟨s, h, hat⟩
theorem y8T {id : Nat} (h : Ψ (.exit id) s) : DC X n (.exit id) s Ψ := fun _ _ _ hat => wp_exit ⟨s, h, hat⟩
theorem y8S {id : Nat} (h : Ψ (.goto id) s) : DC X n (.goto id) s Ψ := fun _ _ _ hat => wp_goto ⟨s, h, hat⟩
theorem z0n {id : Nat} {c : Code} (h : DC X n c s fun e s' => match e with | .exit id' => if id' = id then Ψ .normal s' else Ψ (.exit id') s' | e => Ψ e s') : DC X n (.block id c) s Ψ := by
 intro Γ0 a w hat
 refine wp_block (wp_mono (h Γ0 a w hat) ?_)
 rintro e a w ⟨s', h1, h2⟩
 cases e with
 | exit id' =>
  simp only [Exit.inBlock] at h1 ⊢
  split
  ·rename_i hid; rw [if_pos hid] at h1; exact ⟨s', h1, h2⟩
  ·rename_i hid; rw [if_neg hid] at h1; exact ⟨s', h1, h2⟩
 | normal | goto _ | ret | panic _ | outgrown => exact ⟨s', h1, h2⟩
theorem y80 {Γ0 : G} {a : Act} {w : World} {t : Nat} {b : Bool} (hat : At X n Γ0 s a w) (h : s.get t = .d .bool (.bool b)) : a.eval (.tmp t) = .bool b := by
 obtain ⟨Γ, g1, g3, c, hs, hn, hf⟩ := hat
 have := hs t
 rw [h] at this
 exact (Y9 this).1
theorem y2E {t : Nat} {c c' : Code} (b : Bool) (hb : s.get t = .d .bool (.bool b)) (h1 : b = true → DC X n c s Ψ) (h2 : b = false → DC X n c' s Ψ) : DC X n (.cond (.tmp t) c c') s Ψ := by
 intro Γ0 a w hat
 refine wp_cond (t := b) (y80 hat hb) ?_
 cases b with
 | true => exact h1 rfl Γ0 a w hat
 | false => exact h2 rfl Γ0 a w hat
theorem y0W {t : Nat} {c c' : Code} {v : C} (hv : s.get t = .d .bool v) (h1 : v.toBool = true → DC X n c s Ψ) (h2 : v.toBool = false → DC X n c' s Ψ) : DC X n (.cond (.tmp t) c c') s Ψ := by
 intro Γ0 a w hat
 have he : a.eval (.tmp t) = .bool v.toBool := by
  obtain ⟨Γ, g1, g3, c, hs, hn, hf⟩ := hat
  have := hs t
  rw [hv] at this
  exact (Y9 this).1
 refine wp_cond (t := v.toBool) he ?_
 cases hb : v.toBool with
 | true => exact h1 hb Γ0 a w hat
 | false => exact h2 hb Γ0 a w hat
end
end Go.E
namespace Go.E
open Go
mutual
def V.s6 (x : V) : V → Prop
 | .d τ c => (match x with
  | .nilc => (∃ eb e, τ = .slice eb e) ∧ c = .slice []
  | x => c6 x = some c ∧ x.ty = τ)
 | .emp eb e => x = .emp eb e ∨ x = .nilc
 | .agg τ ws => (match x with
  | .agg τ' vs => τ' = τ ∧ V.q1Z vs ws
  | x => x = .agg τ ws)
 | .any => True
 | y => x = y
def V.q1Z : List V → List V → Prop
 | [], [] => True
 | x :: xs, y :: ys => V.s6 x y ∧ y.ty = x.ty ∧ V.q1Z xs ys
 | _, _ => False
end
def O.s6 : O → O → Prop
 | .box x, .box y => V.s6 x y ∧ y.ty = x.ty ∧ y.plain = true ∧ y.u7 = true
 | .map kτ vτ es, .map kτ' vτ' es' => kτ = kτ' ∧ vτ = vτ' ∧ es = es'
 | .it l p, .it l' p' => l = l' ∧ p = p'
 | o, .dead τ => τ = o.ty
 | _, _ => False
def J2 (tk : List (Nat × Option Nat)) (t : Nat) : Bool := (look tk t).isSome
def Q0 (L : List (Key × O)) (n : Nat) : Bool := (z7 L (.l n)).isSome
section
variable {Γ : G}
theorem V.z1I : ∀ {xs ys : List V}, V.q1Z xs ys → xs.length = ys.length
 | [], [], _ => rfl
 | x :: xs, y :: ys, h => by simp only [V.q1Z] at h; simp [V.z1I h.2.2]
 | [], _ :: _, h => by simp [V.q1Z] at h
 | _ :: _, [], h => by simp [V.q1Z] at h
mutual
theorem q8.s6 {hm : Option Key} : ∀ (y x : V) {p : List Nat} {vs : List Value}, V.s6 x y → q8 Γ hm p x vs → q8 Γ hm p y vs ∧ (y ≠ .any → y.ty.isAgg = x.ty.isAgg ∧ (x ≠ .nilc → y.ty = x.ty))
 | .d τ c, x, p, vs, h, hr => by
  cases x
  case nilc =>
   simp only [V.s6] at h
   obtain ⟨⟨eb, e, rfl⟩, rfl⟩ := h
   simp only [q8] at hr ⊢
   subst hr
   exact ⟨u6 rfl (Nat.le_refl _) (Nat.zero_le _) (by rw [Nat.zero_mul]; exact Nat.zero_le _) (.inl rfl), fun _ => ⟨rfl, fun h => absurd rfl h⟩⟩
  all_goals
   simp only [V.s6] at h
   obtain ⟨h1, h2⟩ := h
   have := q2q _ hr h1
   rw [h2] at this
   exact ⟨by simpa only [q8] using this, fun _ => ⟨by simp only [V.ty] at h2 ⊢; rw [h2], fun _ => by simp only [V.ty] at h2 ⊢; rw [h2]⟩⟩
 | .emp eb e, x, p, vs, h, hr => by
  simp only [V.s6] at h
  rcases h with rfl | rfl
  ·exact ⟨hr, fun _ => ⟨rfl, fun _ => rfl⟩⟩
  ·simp only [q8] at hr ⊢
   subst hr
   exact ⟨⟨none, rfl⟩, fun _ => ⟨rfl, fun h => absurd rfl h⟩⟩
 | .agg τ ws, x, p, vs, h, hr => by
  cases x
  case agg τ' us =>
   simp only [V.s6] at h
   obtain ⟨rfl, h⟩ := h
   simp only [q8] at hr ⊢
   obtain ⟨r1, r2, r3, r4, r5⟩ := hr
   exact ⟨⟨r1, r2, by rw [← V.z1I h]; exact r3, r4, y6.s6 ws us h r5⟩, fun _ => ⟨rfl, fun _ => rfl⟩⟩
  all_goals (simp only [V.s6] at h; cases h)
 | .any, x, p, vs, _, _ => ⟨by simp only [q8], fun h => absurd rfl h⟩
 | .sl eb e cs t, x, p, vs, h, hr => by simp only [V.s6] at h; subst h; exact ⟨hr, fun _ => ⟨rfl, fun _ => rfl⟩⟩
 | .ts eb e cs, x, p, vs, h, hr => by simp only [V.s6] at h; subst h; exact ⟨hr, fun _ => ⟨rfl, fun _ => rfl⟩⟩
 | .nilc, x, p, vs, h, hr => by simp only [V.s6] at h; subst h; exact ⟨hr, fun _ => ⟨rfl, fun _ => rfl⟩⟩
 | .ptr k q τ, x, p, vs, h, hr => by simp only [V.s6] at h; subst h; exact ⟨hr, fun _ => ⟨rfl, fun _ => rfl⟩⟩
 | .cptr τ c, x, p, vs, h, hr => by simp only [V.s6] at h; subst h; exact ⟨hr, fun _ => ⟨rfl, fun _ => rfl⟩⟩
 | .sr k q lo n cp eb e, x, p, vs, h, hr => by simp only [V.s6] at h; subst h; exact ⟨hr, fun _ => ⟨rfl, fun _ => rfl⟩⟩
 | .mp k, x, p, vs, h, hr => by simp only [V.s6] at h; subst h; exact ⟨hr, fun _ => ⟨rfl, fun _ => rfl⟩⟩
 | .fn f caps, x, p, vs, h, hr => by simp only [V.s6] at h; subst h; exact ⟨hr, fun _ => ⟨rfl, fun _ => rfl⟩⟩
 | .tup us, x, p, vs, h, hr => by simp only [V.s6] at h; subst h; exact ⟨hr, fun _ => ⟨rfl, fun _ => rfl⟩⟩
 | .top τ, x, p, vs, h, hr => by simp only [V.s6] at h; subst h; exact ⟨hr, fun _ => ⟨rfl, fun _ => rfl⟩⟩
theorem y6.s6 {hm : Option Key} : ∀ (ys xs : List V) {p : List Nat} {i : Nat} {τ : Ty} {vs : List Value}, V.q1Z xs ys → y6 Γ hm p i τ xs vs → y6 Γ hm p i τ ys vs
 | [], [], _, _, _, _, _, h => h
 | y :: ys, x :: xs, p, i, τ, vs, h, hr => by
  simp only [V.q1Z] at h
  simp only [y6] at hr ⊢
  obtain ⟨⟨o, f, h1, h2, h3, h4⟩, h5⟩ := hr
  obtain ⟨k1, k2⟩ := q8.s6 y x h.1 h4
  exact ⟨⟨o, f, h1, h.2.1.trans h2, h3, k1⟩, y6.s6 ys xs h.2.2 h5⟩
 | [], _ :: _, _, _, _, _, h, _ => by simp [V.q1Z] at h
 | _ :: _, [], _, _, _, _, h, _ => by simp [V.q1Z] at h
end
mutual
theorem V.q89 {f g f' g' : Nat → Bool} (hf : ∀ n, f n = true → f' n = true) (hg : ∀ n, g n = true → g' n = true) : ∀ x : V, x.ok f g = true → x.ok f' g' = true
 | .ptr (.l k) _ _, h | .mp (.l k), h | .sr (.l k) _ _ _ _ _ _, h => by simp only [V.ok] at h ⊢; exact hf _ h
 | .sl _ _ _ t, h => by simp only [V.ok] at h ⊢; exact hg _ h
 | .agg _ vs, h | .fn _ vs, h | .tup vs, h => by simp only [V.ok] at h ⊢; exact V.z9I hf hg vs h
 | .ptr (.g _) _ _, _ | .mp (.g _), _ | .sr (.g _) _ _ _ _ _ _, _ | .d _ _, _ | .ts _ _ _, _ | .emp _ _, _ | .nilc, _ | .cptr _ _, _ | .top _, _ | .any, _ => by simp [V.ok]
theorem V.z9I {f g f' g' : Nat → Bool} (hf : ∀ n, f n = true → f' n = true) (hg : ∀ n, g n = true → g' n = true) : ∀ xs : List V, V.oks f g xs = true → V.oks f' g' xs = true
 | [], _ => rfl
 | x :: xs, h => by simp only [V.oks, Bool.and_eq_true] at h ⊢; exact ⟨V.q89 hf hg x h.1, V.z9I hf hg xs h.2⟩
end
theorem V.z7n {f g f' g' : Nat → Bool} (hf : ∀ n, f n = true → f' n = true) (hg : ∀ n, g n = true → g' n = true) : ∀ xs : List (C × V), V.q0X f g xs = true → V.q0X f' g' xs = true
 | [], _ => rfl
 | x :: xs, h => by simp only [V.q0X, Bool.and_eq_true] at h ⊢; exact ⟨V.q89 hf hg x.2 h.1, V.z7n hf hg xs h.2⟩
theorem O.q89 {f g f' g' : Nat → Bool} (hf : ∀ n, f n = true → f' n = true) (hg : ∀ n, g n = true → g' n = true) (o : O) (h : o.ok f g = true) : o.ok f' g' = true := by
 cases o with
 | box x => exact V.q89 hf hg x h
 | map => exact V.z7n hf hg _ h
 | it => rfl
 | dead => rfl
structure Sub (Γ Γ' : G) (f g : Nat → Bool) : Prop where
 oo : Γ'.oo = Γ.oo
 σ : Γ'.σ = Γ.σ
 H : Γ'.H = Γ.H
 Z : Γ'.Z = Γ.Z
 gl : Γ'.gl = Γ.gl
 ιg : ∀ k, Γ'.ι (.g k) = Γ.ι (.g k)
 ιl : ∀ n, f n = true → Γ'.ι (.l n) = Γ.ι (.l n)
 τ : ∀ t, g t = true → Γ'.τ t = Γ.τ t
 κ : ∀ b k p sz, Γ.κ b = some (.home k p, sz) → Γ'.κ b = Γ.κ b
variable {Γ' : G} {f g : Nat → Bool}
mutual
theorem q8.sub (hs : Sub Γ Γ' f g) {hm : Option Key} : ∀ (x : V) {p : List Nat} {vs : List Value}, x.ok f g = true → q8 Γ hm p x vs → q8 Γ' hm p x vs
 | .d _ _, _, _, _, h => by simp only [q8] at h ⊢; rw [hs.H]; exact h
 | .sl eb e cs t, _, _, ho, h => by
  simp only [q8] at h ⊢
  obtain ⟨a, n, cap, h1, h2, x, L, h3, h4⟩ := h
  exact ⟨a, n, cap, h1, by rw [hs.H]; exact h2, x, L, by rw [hs.τ t (by simpa [V.ok] using ho)]; exact h3, h4⟩
 | .ts eb e cs, _, _, _, h => by
  simp only [q8] at h ⊢
  obtain ⟨a, n, cap, k, h0, h1, h2, h3⟩ := h
  refine ⟨a, n, cap, k, h0, h1, by rw [hs.H]; exact h2, ?_⟩
  rcases h3 with h3 | ⟨b, l, sz, a1, a2, a3, a4, a5⟩
  ·exact .inl h3
  ·exact .inr ⟨b, l, sz, a1, by rw [hs.H]; exact a2, a3, by rw [hs.κ b k _ sz a4]; exact a4, a5⟩
 | .emp _ _, _, _, _, h => by simpa only [q8] using h
 | .nilc, _, _, _, h => by simpa only [q8] using h
 | .ptr (.l k) q τ, _, _, ho, h => by
  simp only [q8] at h ⊢
  rw [hs.ιl k (by simpa [V.ok] using ho)]; exact h
 | .ptr (.g k) q τ, _, _, _, h => by
  simp only [q8] at h ⊢
  rw [hs.ιg]; exact h
 | .cptr τ c, _, _, _, h => by
  simp only [q8] at h ⊢
  rw [hs.H]; exact h
 | .sr (.l k) _ _ _ _ _ _, _, _, ho, h => by
  simp only [q8] at h ⊢
  rw [hs.ιl k (by simpa [V.ok] using ho), hs.σ]; exact h
 | .sr (.g k) _ _ _ _ _ _, _, _, _, h => by
  simp only [q8] at h ⊢
  rw [hs.ιg, hs.σ]; exact h
 | .mp (.l k), _, _, ho, h => by
  simp only [q8] at h ⊢
  rw [hs.ιl k (by simpa [V.ok] using ho)]; exact h
 | .mp (.g k), _, _, _, h => by
  simp only [q8] at h ⊢
  rw [hs.ιg]; exact h
 | .agg τ xs, _, _, ho, h => by
  simp only [q8] at h ⊢
  exact ⟨h.1, h.2.1, h.2.2.1, h.2.2.2.1, y6.sub hs xs (by simpa [V.ok] using ho) h.2.2.2.2⟩
 | .fn _ caps, _, _, ho, h => by
  simp only [q8] at h ⊢
  obtain ⟨cv, h1, h2⟩ := h
  exact ⟨cv, h1, y9.sub hs caps (by simpa [V.ok] using ho) h2⟩
 | .tup _, _, _, _, h => by simp only [q8] at h
 | .top _, _, _, _, h => by simpa only [q8] using h
 | .any, _, _, _, _ => by simp only [q8]
theorem y6.sub (hs : Sub Γ Γ' f g) {hm : Option Key} : ∀ (xs : List V) {p : List Nat} {i : Nat} {τ : Ty} {vs : List Value}, V.oks f g xs = true → y6 Γ hm p i τ xs vs → y6 Γ' hm p i τ xs vs
 | [], _, _, _, _, _, _ => by simp only [y6]
 | x :: xs, _, _, _, _, ho, h => by
  simp only [y6] at h ⊢
  simp only [V.oks, Bool.and_eq_true] at ho
  obtain ⟨⟨o, ff, h1, h2, h3, h4⟩, h5⟩ := h
  exact ⟨⟨o, ff, h1, h2, h3, q8.sub hs x ho.1 h4⟩, y6.sub hs xs ho.2 h5⟩
theorem y9.sub (hs : Sub Γ Γ' f g) : ∀ (xs : List V) {vs : List Value}, V.oks f g xs = true → y9 Γ xs vs → y9 Γ' xs vs
 | [], _, _, h => by simpa only [y9] using h
 | x :: xs, _, ho, h => by
  simp only [y9] at h ⊢
  simp only [V.oks, Bool.and_eq_true] at ho
  obtain ⟨v, vs', h1, h2, h3, h4⟩ := h
  exact ⟨v, vs', h1, q8.sub hs x ho.1 h2, h3, y9.sub hs xs ho.2 h4⟩
end
theorem q9.sub (hs : Sub Γ Γ' f g) {x : V} {v : Value} (ho : x.ok f g = true) (h : q9 Γ x v) : q9 Γ' x v := by
 cases x
 case any => trivial
 case tup us => obtain ⟨vs, h1, h2⟩ := h; exact ⟨vs, h1, y9.sub hs _ (by simpa [V.ok] using ho) h2⟩
 all_goals exact ⟨q8.sub hs _ ho h.1, h.2⟩
theorem z9K {f g : Nat → Bool} : ∀ {es : List (C × V)} {i : Nat} {c : C × V}, V.q0X f g es = true → es[i]? = some c → c.2.ok f g = true
 | [], _, _, _, h => by simp at h
 | x :: xs, 0, c, h, hc => by simp [V.q0X] at h; simp at hc; subst hc; exact h.1
 | x :: xs, i + 1, c, h, hc => by simp [V.q0X] at h; exact z9K h.2 (by simpa using hc)
theorem Own.sub (hs : Sub Γ Γ' f g) {w : World} {k : Key} {o : O} (hk : Γ'.ι k = Γ.ι k) (ho : o.ok f g = true) (h : Own Γ w k o) : Own Γ' w k o := by
 cases o with
 | box x =>
  obtain ⟨b, cells, T, h1, h2, h3, h4, h5, h6, h7⟩ := h
  exact ⟨b, cells, T, by rw [hk]; exact h1, by rw [hs.H]; exact h2, by rw [hs.Z]; exact h3, h4, h5, q8.sub hs x ho h6, h7⟩
 | map kτ vτ es =>
  obtain ⟨b, ms, clock, h1, h2, h3, h4, h5, h6, h7⟩ := h
  refine ⟨b, ms, clock, by rw [hk]; exact h1, by rw [hs.H]; exact h2, by rw [hs.Z]; exact h3, h4, h5, fun i m c hm hc => ?_, h7⟩
  obtain ⟨a1, a2, a3, a4⟩ := h6 i m c hm hc
  exact ⟨by rw [hs.H]; exact a1, a2, q8.sub hs _ (z9K ho hc) a3, a4⟩
 | it l pos =>
  obtain ⟨b, adr, v, h1, h2, h3, h4, h5, h6, h7⟩ := h
  refine ⟨b, adr, v, by rw [hk]; exact h1, by rw [hs.H]; exact h2, by rw [hs.Z]; exact h3, h4, h5, h6, ?_⟩
  rcases h7 with h7 | ⟨g, cap, g1, g2, g3, g4⟩
  ·exact .inl h7
  ·exact .inr ⟨g, cap, g1, by rw [hs.H]; exact g2, by rw [hs.κ g _ _ _ g3]; exact g3, g4⟩
 | dead τ =>
  obtain ⟨b, h1, h4⟩ := h
  exact ⟨b, by rw [hk]; exact h1, h4⟩
theorem Own.s6 {w : World} {k : Key} {o o' : O} (hi : O.s6 o o') (h : Own Γ w k o) : Own Γ w k o' := by
 cases o' with
 | dead τ =>
  have e : τ = o.ty := by cases o <;> exact hi
  obtain ⟨b, τ', h1, _, h4, h5⟩ := h.block
  exact ⟨b, by rw [e, ← h5]; exact h1, h4⟩
 | box y => cases o with
  | box x =>
   obtain ⟨b, cells, T, h1, h2, h3, h4, h5, h6, h7, h8⟩ := h
   obtain ⟨i1, ht, i2, i3⟩ := hi
   obtain ⟨r1, _⟩ := q8.s6 y x i1 h6
   exact ⟨b, cells, T, by rw [ht]; exact h1, h2, h3, h4, by rw [ht]; exact h5, by rw [ht]; exact r1, i2, i3⟩
  | _ => exact hi.elim
 | map kτ vτ es => cases o with
  | map => obtain ⟨rfl, rfl, rfl⟩ := hi; exact h
  | _ => exact hi.elim
 | it l p => cases o with
  | it => obtain ⟨rfl, rfl⟩ := hi; exact h
  | _ => exact hi.elim
theorem O.y5h {o o' : O} (hi : O.s6 o o') (h : o.q8s) : o'.q8s := by
 cases o' with
 | dead => trivial
 | box y => cases o with
  | box x =>
   obtain ⟨e, rfl⟩ := h
   obtain ⟨i1, _, i2, _⟩ := hi
   cases y <;> simp only [V.s6, V.plain, reduceCtorEq, or_self, Bool.false_eq_true] at i1 i2
   obtain ⟨h1, rfl⟩ := i1
   simp only [c6, Option.some.injEq] at h1
   subst h1
   exact ⟨e, rfl⟩
  | _ => exact hi.elim
 | map kτ vτ es => cases o with
  | map => exact h.elim
  | _ => exact hi.elim
 | it l p => cases o with
  | it => exact h.elim
  | _ => exact hi.elim
theorem O.z7F {o o' : O} (hi : O.s6 o o') (h : o.U1 = true) : o'.U1 = true := by
 cases o <;> simp [O.U1] at h
 cases o' <;> first | rfl | exact hi.elim
end
end Go.E
namespace Go.E
open Go
def q3C (s : S) : List (Key × O) → Prop
 | [] => True
 | (k, o) :: l => (match s.obj k with | some o0 => O.s6 o0 o | none => False) ∧ q3C s l
def q0b (τ : Ty) : List (C × V) → Bool
 | [] => true
 | (_, v) :: l => (match v with | .d τ' _ => Ty.beq τ' τ | _ => false) && q0b τ l
theorem y1c {f g : Nat → Bool} {τ : Ty} : ∀ {es : List (C × V)}, q0b τ es = true → V.q0X f g es = true
 | [], _ => rfl
 | (_, v) :: l, h => by
  simp only [q0b, Bool.and_eq_true] at h
  simp only [V.q0X, Bool.and_eq_true]
  refine ⟨?_, y1c h.2⟩
  cases v <;> simp at h
  rfl
def O.okB (f g : Nat → Bool) : O → Bool
 | .map _ vτ es => q0b vτ es
 | o => o.ok f g
theorem O.y9w {f g : Nat → Bool} {o : O} (h : o.okB f g = true) : o.ok f g = true := by
 cases o with
 | map kτ vτ es => exact y1c h
 | _ => exact h
def q1o (f g : Nat → Bool) : List (Key × O) → Bool
 | [] => true
 | (_, o) :: l => o.okB f g && q1o f g l
def q7T (L : List (Key × O)) (A : Key → Option O) : List (Key × O) → Prop
 | [] => True
 | (.g k, o) :: l => ((z7 L (.g k)).isSome = true ∨ A k = some o) ∧ q7T L A l
 | (.l _, _) :: l => q7T L A l
def q6C (f g : Nat → Bool) (s : S) : List (Nat × V) → Prop
 | [] => True
 | (i, x) :: l => V.s6 (s.get i) x ∧ x.ok f g = true ∧ (x = .any ∨ x.ty.isAgg = (s.get i).ty.isAgg) ∧ q6C f g s l
def tkW (s : S) : List (Nat × Option Nat) → Prop
 | [] => True
 | (t, x) :: l => (match x with | some L => s.live t = some L | none => s.known t = true) ∧ tkW s l
theorem q8f {s : S} : ∀ {l : List (Key × O)} {k : Key} {o : O}, q3C s l → z7 l k = some o → ∃ o0, s.obj k = some o0 ∧ O.s6 o0 o
 | [], _, _, _, h => by simp [z7] at h
 | (j, p) :: l, k, o, hw, h => by
  simp only [z7] at h
  split at h
  ·rename_i e
   cases h; subst e
   have := hw.1
   split at this
   ·rename_i o0 ho; exact ⟨o0, ho, this⟩
   ·exact this.elim
  ·exact q8f hw.2 h
theorem z4X {f g : Nat → Bool} : ∀ {l : List (Key × O)} {k : Key} {o : O}, q1o f g l = true → z7 l k = some o → o.ok f g = true
 | [], _, _, _, h => by simp [z7] at h
 | (j, p) :: l, k, o, hw, h => by
  simp only [z7] at h
  simp only [q1o, Bool.and_eq_true] at hw
  split at h
  ·cases h; exact O.y9w hw.1
  ·exact z4X hw.2 h
theorem z2e {L : List (Key × O)} {A : Key → Option O} : ∀ {l : List (Key × O)} {k : Key} {o : O}, q7T L A l → z7 l (.g k) = some o → (z7 L (.g k)).isSome = true ∨ A k = some o
 | [], _, _, _, h => by simp [z7] at h
 | (.l j, p) :: l, k, o, hw, h => by simp [z7] at h; exact z2e (l := l) hw h
 | (.g j, p) :: l, k, o, hw, h => by
  simp only [z7] at h
  split at h
  ·rename_i e; cases e; cases h; exact hw.1
  ·exact z2e hw.2 h
theorem z1U {f g : Nat → Bool} {s : S} : ∀ {l : List (Nat × V)} {i : Nat} {x : V}, q6C f g s l → look l i = some x → V.s6 (s.get i) x ∧ x.ok f g = true ∧ (x = .any ∨ x.ty.isAgg = (s.get i).ty.isAgg)
 | [], _, _, _, h => by simp [look] at h
 | (j, y) :: l, i, x, hw, h => by
  simp only [look] at h
  split at h
  ·rename_i e; cases h; subst e; exact ⟨hw.1, hw.2.1, hw.2.2.1⟩
  ·exact z1U hw.2.2.2 h
theorem z3u {s : S} : ∀ {l : List (Nat × Option Nat)} {t : Nat} {x : Option Nat}, tkW s l → look l t = some x → match x with | some L => s.live t = some L | none => s.known t = true
 | [], _, _, _, h => by simp [look] at h
 | (j, y) :: l, t, x, hw, h => by
  simp only [look] at h
  split at h
  ·rename_i e; cases h; subst e; exact hw.1
  ·exact z3u hw.2 h
section
variable {Γ : G} {w : World} {s : S}
theorem z2p {s' : S} (hA : s'.A = s.A) (hg : q7T s'.loc s.A s.loc) {k : Key} (h : z7 s'.loc (.g k) = none) : s'.obj (.g k) = s.obj (.g k) := by
 unfold S.obj Q2
 rw [h]
 simp only
 cases ho : z7 s.loc (.g k) with
 | none => rw [hA]
 | some o =>
  rcases z2e hg ho with h1 | h1
  ·rw [h] at h1; cases h1
  ·rw [hA]; exact h1
theorem z8.sub (c : z8 Γ w s) {Γ' : G} {f g : Nat → Bool} {s' : S} (hs : Sub Γ Γ' f g) (hf : f = Q0 s'.loc) (hι : ∀ n, f n = false → Γ'.ι (.l n) = none) (hA : s'.A = s.A) (hAok : AOk s.A)
  (hloc : q3C s s'.loc) (hlok : q1o f g s'.loc = true) (hg : q7T s'.loc s.A s.loc)
  (hκ : ∀ b o sz, Γ'.κ b = some (o, sz) → ∃ o', Γ.κ b = some (o', sz) ∧ ∀ T, z4f o' T → z4f o T)
  (tok : ∀ t L, s'.live t = some L → ∃ x, Γ'.τ t = some (x, L) ∧ ∀ b pos sz, x = some (b, pos, sz) → (∃ l, Γ.H b = some l ∧ l.length = pos) ∧ Γ'.κ b = some (.tok t, sz))
  (tdom : ∀ t, Γ'.τ t ≠ none → s'.known t = true) : z8 Γ' w s' := by
 subst hf
 have hfl : ∀ n, Q0 s'.loc n = true ↔ z7 s'.loc (.l n) ≠ none := by
  intro n; unfold Q0; cases z7 s'.loc (.l n) <;> simp
 have keyok : ∀ k o, s'.obj k = some o → Γ'.ι k = Γ.ι k := by
  intro k o h
  cases k with
  | g k => exact hs.ιg k
  | l n =>
   refine hs.ιl n ?_
   rw [hfl]
   unfold S.obj Q2 at h
   intro e
   rw [e] at h; cases h
 refine ⟨fun b l h => c.hH b l (by rw [← hs.H]; exact h), fun b o h => c.hZ b o (by rw [← hs.Z]; exact h), fun b o sz h => ?_, fun k o h => ?_, fun k h => ?_, fun k k' b τ τ' h1 h2 => ?_, fun t L h => ?_, tdom, fun gg τ cc h => ?_, by rw [hs.oo]; exact c.hoo, fun b sz h => c.hσ b sz (by rw [← hs.σ]; exact h)⟩
 ·obtain ⟨o', h', hT⟩ := hκ b o sz h
  obtain ⟨a1, a2, arr, T, a3, a4, a5⟩ := c.hκ b o' sz h'
  exact ⟨by rw [hs.Z]; exact a1, by rw [hs.H]; exact a2, arr, T, a3, a4, hT T a5⟩
 ·have hk := keyok k o h
  cases hl : z7 s'.loc k with
  | some o1 =>
   have : o1 = o := by unfold S.obj Q2 at h; rw [hl] at h; cases h; rfl
   subst this
   obtain ⟨o0, ho, hi⟩ := q8f hloc hl
   exact (c.obj k o0 ho).imp (fun h => ⟨hk.trans h.1, O.y5h hi h.2⟩) fun hown => (hown.s6 hi).sub hs hk (z4X hlok hl)
  | none =>
   cases k with
   | l n => unfold S.obj Q2 at h; rw [hl] at h; cases h
   | g k =>
    have h' : s.obj (.g k) = some o := by rw [← z2p hA hg hl]; exact h
    have hAk : s.A k = some o := by
     have h2 : s'.A k = some o := by unfold S.obj Q2 at h; rw [hl] at h; exact h
     rw [← hA]; exact h2
    exact (c.obj _ o h').imp (fun h => ⟨hk.trans h.1, h.2⟩) fun hown => hown.sub hs hk (O.q89 (by simp [p8]) (by simp [p8]) o (hAok k o hAk))
 ·cases k with
  | l n =>
   cases hh : Q0 s'.loc n with
   | false => exact absurd (hι n hh) h
   | true =>
    have := (hfl n).1 hh
    unfold S.obj Q2
    cases hl : z7 s'.loc (.l n) with
    | none => exact absurd hl this
    | some o => simp
  | g k =>
   rw [hs.ιg] at h
   have := c.dom _ h
   cases hl : z7 s'.loc (.g k) with
   | some o => unfold S.obj Q2; rw [hl]; simp
   | none => rw [z2p hA hg hl]; exact this
 ·have back : ∀ k x, Γ'.ι k = some x → Γ.ι k = some x := by
   intro k x h
   cases k with
   | g k => rw [← hs.ιg]; exact h
   | l n =>
    cases hh : Q0 s'.loc n with
    | false => rw [hι n hh] at h; cases h
    | true => rw [← hs.ιl n hh]; exact h
  have hdead : ∀ k x, Γ'.ι k = some x → s.o5 k = true → s'.o5 k = true := by
   intro k x hx h
   cases hl : z7 s'.loc k with
   | some o1 =>
    obtain ⟨o0, ho, hi⟩ := q8f hloc hl
    rw [b6 ho] at h
    have e : s'.obj k = some o1 := by unfold S.obj Q2; rw [hl]
    rw [b6 e]
    exact O.z7F hi h
   | none =>
    cases k with
    | g k => unfold S.o5 at h ⊢; rw [z2p hA hg hl]; exact h
    | l n =>
     cases hh : Q0 s'.loc n with
     | false => rw [hι n hh] at hx; cases hx
     | true => exact absurd hl ((hfl n).1 hh)
  exact (c.inj k k' b τ τ' (back _ _ h1) (back _ _ h2)).imp id (And.imp (Or.imp (hdead _ _ h1) (hdead _ _ h2)) id)
 ·obtain ⟨x, a1, a2⟩ := tok t L h
  refine ⟨x, a1, fun b pos sz hx => ?_⟩
  obtain ⟨a3, a4⟩ := a2 b pos sz hx
  exact ⟨by rw [hs.H]; exact a3, a4⟩
 ·rw [hs.H]; exact c.hgl gg τ cc (by rw [← hs.gl]; exact h)
end
def G.part (Γ : G) (f g : Nat → Bool) : G :=
 { Γ with ι := fun k => match k with | .l n => if f n then Γ.ι (.l n) else none | .g k => Γ.ι (.g k), τ := fun t => if g t then Γ.τ t else none }
theorem y1U {X : Cx} {n : Nat} {s s' : S} (hA : s'.A = s.A) (hloc : q3C s s'.loc) (hlok : q1o (Q0 s'.loc) (J2 s'.tk) s'.loc = true) (hg : q7T s'.loc s.A s.loc)
  (htk : tkW s s'.tk) (henv : q6C (Q0 s'.loc) (J2 s'.tk) s s'.env) : q00 X n s s' := by
 rintro Γ0 a w ⟨Γ, g1, g3, c, hs, hn, hf, hAok⟩
 have sub : Sub Γ (Γ.part (Q0 s'.loc) (J2 s'.tk)) (Q0 s'.loc) (J2 s'.tk) :=
  ⟨rfl, rfl, rfl, rfl, rfl, fun _ => rfl, fun n h => by simp [G.part, h], fun t h => by simp [G.part, h], fun _ _ _ _ _ => rfl⟩
 refine ⟨Γ.part (Q0 s'.loc) (J2 s'.tk), ⟨g1.H, g1.Z, g1.ZH, g1.g, g1.gl, g1.oo, g1.σ, g1.gn⟩, g3, c.sub sub rfl (fun n h => by simp [G.part, h]) hA hAok hloc hlok hg (fun b o sz h => ⟨o, h, fun _ h => h⟩) (fun t L h => ?_) (fun t h => ?_), fun i => ?_, hn, hf, by rw [hA]; exact hAok⟩
 ·unfold S.live H7 at h
  cases hl : look s'.tk t with
  | none => simp [hl] at h
  | some x =>
   cases x with
   | none => simp [hl] at h
   | some M =>
    simp [hl] at h; subst h
    have hlive : s.live t = some M := z3u htk hl
    obtain ⟨x, a1, a2⟩ := c.tok t M hlive
    exact ⟨x, by simp [G.part, J2, hl, a1], fun b pos sz hx => a2 b pos sz hx⟩
 ·cases hh : J2 s'.tk t with
  | true => exact hh
  | false => simp [G.part, hh] at h
 ·cases hl : look s'.env i with
  | none => simp [S.get, hl, q9]
  | some x =>
   obtain ⟨e1, e2, e3⟩ := z1U henv hl
   have hget : s'.get i = x := by simp [S.get, hl]
   rw [hget]
   by_cases hx : x = .any
   ·subst hx; trivial
   ·have hr := hs i
    have e3 := e3.resolve_left hx
    refine q9.sub sub e2 ?_
    cases hsi : s.get i with
    | any =>
     rw [hsi] at e1
     cases x <;> simp [V.s6, c6] at e1 hx
    | tup us =>
     rw [hsi] at e1 hr
     cases x <;> simp [V.s6, c6] at e1 hx
     subst e1; exact hr
    | _ =>
     rw [hsi] at e1 hr e3
     have hpl : q8 Γ none [] _ (a.tmps.getD i undef).cells.toList ∧ _ := hr
     obtain ⟨r1, r2⟩ := q8.s6 x _ e1 hpl.1
     have hxp := V.q24 r1 hx
     exact (x3 hxp).2 ⟨r1, by rw [e3]; exact hpl.2⟩
end Go.E
namespace Go.E
open Go
def q9Q (X : Cx) (s : S) (r : ResultVar) : V :=
 match r with
 | .tmp t => s.get t
 | .cell a t => (match s.get a with
   | .ptr k q τ => (match s.obj k with
     | some (.box y) => view (y.at q)
     | _ => .any)
   | _ => .any)
def q2j (X : Cx) (s : S) : List ResultVar → List V
 | [] => []
 | r :: rs => q9Q X s r :: q2j X s rs
def q85 (X : Cx) (s : S) (r : ResultVar) : Prop :=
 match r with
 | .tmp _ => True
 | .cell a t => (match s.get a with
   | .ptr k q τ => (match s.obj k with
     | some (.box y) => τ = ty X.P t ∧ τ.known = true ∧ y.at q ≠ .any
     | _ => False)
   | _ => False)
def q61 (X : Cx) (s : S) : List ResultVar → Prop
 | [] => True
 | r :: rs => q85 X s r ∧ q61 X s rs
def q0z (s : S) (f : Nat → Bool) (x : V) (v : V) : Prop :=
 match v with
 | .ts eb e cs => (match x with
  | .sl eb' e' cs' t => eb' = eb ∧ e' = e ∧ cs' = cs ∧ s.live t = some cs.length
  | .emp eb' e' => eb' = eb ∧ e' = e ∧ cs = []
  | .nilc => cs = []
  | _ => False)
 | v => V.s6 x v ∧ v.ok f p8 = true ∧ v.plain = true ∧ v.ty.isAgg = x.ty.isAgg
def q0K (s : S) (f : Nat → Bool) : List V → List V → Prop
 | [], [] => True
 | x :: xs, v :: vs => q0z s f x v ∧ q0K s f xs vs
 | _, _ => False
def q9P : List V → V → Option (List V)
 | [_], v => some [v]
 | _, .tup vs => some vs
 | _, _ => none
def q1E : Nat → List V → List V → List (Nat × Option Nat)
 | m, x :: xs, v :: vs => (match v, x with
  | .ts _ _ _, .sl _ _ _ t => [(m, some t)]
  | .ts _ _ _, _ => [(m, none)]
  | _, _ => []) ++ q1E (m + 1) xs vs
 | _, _, _ => []
def q4C : List (Nat × Option Nat) → List Nat
 | [] => []
 | (_, some t) :: l => t :: q4C l
 | (_, none) :: l => q4C l
def q4G (X : Cx) (fn : Func) (A : Key → Option O) (v : V) (L : List (Key × O)) (s : S) : Prop :=
 s.A = A ∧ q3C s L ∧ q1o (Q0 L) p8 L = true ∧ q7T L A s.loc ∧ q61 X s fn.results.toList ∧
  (match q9P (q2j X s fn.results.toList) v with
   | some vs => q0K s (Q0 L) (q2j X s fn.results.toList) vs ∧ q1f (q4C (q1E 2000 (q2j X s fn.results.toList) vs)) = true
   | none => False)
def q88 : List (Nat × Option Nat) → Nat → Option Nat
 | [], _ => none
 | (m, some t) :: l, u => if t = u then some m else q88 l u
 | (_, none) :: l, u => q88 l u
theorem q9V : ∀ {l : List (Nat × Option Nat)} {m t : Nat}, q1f (q4C l) = true → look l m = some (some t) → q88 l t = some m
 | [], _, _, _, h => by simp [look] at h
 | (j, y) :: l, m, t, hn, h => by
  simp only [look] at h
  split at h
  ·rename_i e; cases h; subst e; simp [q88]
  ·cases y with
   | none => exact q9V (l := l) hn h
   | some u =>
    simp only [q4C, q1f, Bool.and_eq_true, Bool.not_eq_true'] at hn
    have ih := q9V hn.2 h
    have hne : u ≠ t := by
     intro e; subst e
     have hm : ∀ {l : List (Nat × Option Nat)} {m : Nat}, look l m = some (some u) → u ∈ q4C l := by
      intro l
      induction l with
      | nil => intro m h; simp [look] at h
      | cons z l ih =>
       obtain ⟨j', y'⟩ := z
       intro m h
       simp only [look] at h
       split at h
       ·cases h; simp [q4C]
       ·cases y' with
        | none => exact ih h
        | some t' => simp [q4C, ih h]
     have := hm h
     simp [this] at hn
    simp [q88, hne, ih]
def G.fin (Γ : G) (f : Nat → Bool) (pairs : List (Nat × Option Nat)) : G :=
 { Γ with
   ι := fun k => match k with | .l n => if f n then Γ.ι (.l n) else none | .g k => Γ.ι (.g k)
   τ := fun m => match look pairs m with
    | some (some t) => Γ.τ t
    | some none => some (none, 0)
    | none => none
   κ := fun b => match Γ.κ b with
    | some (.tok t, sz) => match q88 pairs t with
     | some m => some (.tok m, sz)
     | none => none
    | x => x }
theorem q6P : ∀ {n : Nat} {xs vs : List V} {m : Nat}, look (q1E n xs vs) m = if n ≤ m then (match xs[m - n]?, vs[m - n]? with
  | some (.sl _ _ _ t), some (.ts _ _ _) => some (some t)
  | some _, some (.ts _ _ _) => some none
  | _, _ => none) else none
 | n, [], vs, m => by simp [q1E, look]
 | n, x :: xs, [], m => by simp only [q1E, look]; split <;> simp
 | n, x :: xs, v :: vs, m => by
  simp only [q1E, q1L]
  have ih := q6P (n := n + 1) (xs := xs) (vs := vs) (m := m)
  by_cases h1 : n = m
  ·subst h1
   have hr : look (q1E (n + 1) xs vs) n = none := by rw [ih, if_neg (by omega)]
   cases v <;> cases x <;> simp [look, hr]
  ·have h0 : look (match v, x with
     | .ts _ _ _, .sl _ _ _ t => [(n, some t)]
     | .ts _ _ _, _ => [(n, none)]
     | _, _ => []) m = none := by
    cases v <;> cases x <;> simp [look, h1]
   rw [h0, ih]
   by_cases h2 : n ≤ m
   ·rw [if_pos h2, if_pos (by omega), show m - n = (m - (n + 1)) + 1 by omega]
    simp only [List.getElem?_cons_succ]
   ·rw [if_neg h2, if_neg (by omega)]
section
variable {X : Cx} {n : Nat} {s : S}
def q59 (a : Act) : ResultVar → Sem Value
 | .tmp t => pure (a.tmps.getD t undef)
 | .cell b t => do loadVar t (← asAddr (a.tmps.getD b undef))
theorem y22 (fn : Func) (a : Act) : results fn a.tmps = (do
  let vs ← fn.results.mapM (q59 a)
  pure (if h : vs.size = 1 then vs[0] else .tuple vs)) := by
 unfold results
 congr 2
theorem y2Z (hP : x6 X.P = true) {Γ : G} {w : World} {a : Act} (c : z8 Γ w s) (hs : q2t Γ s a.tmps) {r : ResultVar} (hch : q85 X s r) :
  ∃ v, (q59 a r).run X.P w = .ok v w ∧ q9 Γ (q9Q X s r) v := by
 cases r with
 | tmp t => exact ⟨_, rfl, hs t⟩
 | cell b t =>
  have hb := hs b
  simp only [q85] at hch
  split at hch
  ·rename_i k q τ hk
   rw [hk] at hb
   split at hch
   ·rename_i y hy
    obtain ⟨u, h1, h2⟩ := z3I hP c hb hy hch.2.2 hch.1 hch.2.1
    obtain ⟨b', τ0, o, _, _, hv⟩ := H4 hb
    refine ⟨u, ?_, ?_⟩
    ·rw [hv] at h1
     simp only [q59, hv]
     simpa [Instr.loadAt, Instr.sureAddr, asAddr] using h1
    ·simp only [q9Q, hk, hy]
     exact h2
   ·exact hch.elim
  ·exact hch.elim
theorem z2X (hP : x6 X.P = true) {Γ : G} {w : World} {a : Act} (c : z8 Γ w s) (hs : q2t Γ s a.tmps) : ∀ (rs : List ResultVar), q61 X s rs →
  ∃ vs : List Value, (rs.mapM (q59 a)).run X.P w = .ok vs w ∧ vs.length = rs.length ∧
   ∀ (i : Nat) x v, (q2j X s rs)[i]? = some x → vs[i]? = some v → q9 Γ x v
 | [], _ => ⟨[], by simp, rfl, by simp [q2j]⟩
 | r :: rs, hpl => by
  simp only [q61] at hpl
  obtain ⟨v, h1, h2⟩ := y2Z hP c hs hpl.1
  obtain ⟨vs, h3, h4, h5⟩ := z2X hP c hs rs hpl.2
  refine ⟨v :: vs, ?_, by simp [h4], ?_⟩
  ·rw [List.mapM_cons]
   simp only [Sem.run_bind]
   rw [h1]
   simp only [Result.andThen_ok, Sem.run_bind]
   rw [h3]
   simp
  ·intro i x u hx hu
   cases i with
   | zero => simp [q2j] at hx hu; subst hx; subst hu; exact h2
   | succ i => exact h5 i x u (by simpa [q2j] using hx) (by simpa using hu)
theorem z2Y : ∀ (rs : List ResultVar), (q2j X s rs).length = rs.length
 | [] => rfl
 | r :: rs => by simp [q2j, z2Y rs]
theorem q14 {f : Nat → Bool} : ∀ {xs vs : List V} {i : Nat} {v : V}, q0K s f xs vs → vs[i]? = some v → ∃ x, xs[i]? = some x ∧ q0z s f x v
 | [], [], _, _, _, h => by simp at h
 | x :: xs, v :: vs, 0, v', hr, h => by simp at h; subst h; exact ⟨x, rfl, hr.1⟩
 | x :: xs, v :: vs, i + 1, v', hr, h => by
  obtain ⟨y, h1, h2⟩ := q14 hr.2 (show vs[i]? = some v' by simpa using h)
  exact ⟨y, by simpa using h1, h2⟩
 | [], _ :: _, _, _, hr, _ => by simp [q0K] at hr
 | _ :: _, [], _, _, hr, _ => by simp [q0K] at hr
theorem z1e {f : Nat → Bool} : ∀ {xs vs : List V}, q0K s f xs vs → xs.length = vs.length
 | [], [], _ => rfl
 | x :: xs, v :: vs, h => by simp [z1e h.2]
 | [], _ :: _, hr => by simp [q0K] at hr
 | _ :: _, [], hr => by simp [q0K] at hr
theorem y1q {Γ : G} {w : World} (c : z8 Γ w s) {f : Nat → Bool} {pairs : List (Nat × Option Nat)} {m : Nat} {x v : V} {u : Value} (hsub : Sub Γ (Γ.fin f pairs) f p8) (hr : q9 Γ x u) (hi : q0z s f x v)
  (hp : ∀ eb e cs, v = .ts eb e cs → match x with | .sl _ _ _ t => look pairs m = some (some t) | _ => look pairs m = some none) : q9 (Γ.fin f pairs) (v.slot m) u := by
 have other : v.q8b = true → V.s6 x v ∧ v.ok f p8 = true ∧ v.plain = true ∧ v.ty.isAgg = x.ty.isAgg → q9 (Γ.fin f pairs) (v.slot m) u := by
  intro hn ⟨h1, h2, h3, h4⟩
  have hvs : v.slot m = v := by cases v <;> simp [V.slot]; simp [V.q8b] at hn
  rw [hvs]
  refine q9.sub hsub h2 ?_
  cases x with
  | any =>
   cases v <;> simp [V.s6, c6, V.plain] at h1 h3
  | tup us =>
   cases v <;> simp [V.s6, c6, V.plain] at h1 h3
  | _ =>
   obtain ⟨q1, q2⟩ := hr
   obtain ⟨r1, _⟩ := q8.s6 v _ h1 q1
   exact (x3 h3).2 ⟨r1, by rw [h4]; exact q2⟩
 cases v
 case ts eb e cs =>
  have hp := hp eb e cs rfl
  simp only [q0z] at hi
  cases x <;> simp only at hi hp
  case sl eb' e' cs' t =>
   obtain ⟨rfl, rfl, rfl, hl⟩ := hi
   obtain ⟨h1, _⟩ := (w7 rfl rfl).1 hr
   simp only [q8] at h1
   obtain ⟨a, n, cap, hv, hrc, y, L, h2, h3, h4⟩ := h1
   simp at hv; subst hv
   simp only [V.slot]
   refine (w7 rfl rfl).2 ⟨?_, rfl⟩
   simp only [q8]
   exact ⟨a, n, cap, rfl, hrc, y, L, by simp [G.fin, hp, h2], h3, h4⟩
  case emp eb' e' =>
   obtain ⟨rfl, rfl, rfl⟩ := hi
   obtain ⟨h1, _⟩ := (w7 rfl rfl).1 hr
   simp only [q8] at h1
   obtain ⟨a, hv⟩ := h1
   simp at hv; subst hv
   simp only [V.slot]
   refine (w7 rfl rfl).2 ⟨?_, rfl⟩
   simp only [q8]
   exact ⟨a, 0, 0, rfl, u6 rfl (Nat.le_refl _) (Nat.zero_le _) (by rw [Nat.zero_mul]; exact Nat.zero_le _) (.inl rfl), none, 0, by simp [G.fin, hp], Nat.le_refl _, fun _ => rfl⟩
  case nilc =>
   subst hi
   have hp2 : look pairs m = some none := by assumption
   rw [Y1 hr]
   simp only [V.slot]
   refine (w7 rfl rfl).2 ⟨?_, rfl⟩
   simp only [q8]
   exact ⟨none, 0, 0, rfl, u6 rfl (Nat.le_refl _) (Nat.zero_le _) (by rw [Nat.zero_mul]; exact Nat.zero_le _) (.inl rfl), none, 0, by simp [G.fin, hp2], Nat.le_refl _, fun _ => rfl⟩
 all_goals exact other rfl (by simpa only [q0z] using hi)
theorem y8Y {Γ : G} : ∀ (xs : List V) (vs : List Value), xs.length = vs.length → (∀ (i : Nat) x, xs[i]? = some x → x.plain = true) → (∀ (i : Nat) x v, xs[i]? = some x → vs[i]? = some v → q9 Γ x v) → y9 Γ xs vs :=
 fun xs vs hl hp hr => q4H hl fun i x v hx hv => ⟨hp i x hx, hr i x v hx hv⟩
theorem z0E : ∀ (xs : List V) (i j : Nat), look (q5l i xs) j = if i ≤ j then xs[j - i]? else none
 | [], i, j => by simp [q5l, look]
 | x :: xs, i, j => by
  simp only [q5l, look, z0E xs (i + 1) j]
  by_cases h1 : i = j
  ·subst h1; simp
  ·rw [if_neg h1]
   by_cases h2 : i ≤ j
   ·rw [if_pos h2, if_pos (by omega), show j - i = (j - (i + 1)) + 1 by omega, List.getElem?_cons_succ]
   ·rw [if_neg h2, if_neg (by omega)]
theorem q46 (hP : x6 X.P = true) {f : FuncId} {fn : Func} {c : Code} {xs : List V} {A : Key → Option O} {v : V} {L : List (Key × O)}
  (hf : X.P.funcs[f]? = some fn) (hb : fn.body = some c) (hn : fn.ntmps = n) (hlen : xs.length ≤ n)
  (h : ∀ A', (∀ k o, A k = some o → A' k = some o) → DC X n c (S.start xs A') fun e s' => (e = .normal ∨ e = .ret) ∧ q4G X fn A' v L s') : j7 X f xs A v L := by
 intro A' Γ w args hAA hgl ⟨c0, hA0⟩ hargs hrep
 subst hn
 refine calls_of_wp hf hb ?_
 refine wp_mono (h A' hAA Γ { tmps := args ++ Array.replicate (fn.ntmps - args.size) undef, defers := [] } w ⟨Γ, .refl Γ, hgl, c0, ?_, by simp; omega, rfl, hA0⟩) ?_
 ·intro i
  have hget : (S.start xs A').get i = ((X3 1000 xs)[i]?).getD .any := by
   simp only [S.get, S.start, z0E, Nat.zero_le, if_true, Nat.sub_zero]
  rw [hget]
  cases hx : (X3 1000 xs)[i]? with
  | none => simp [q9]
  | some x =>
   have hi : i < args.size := by rw [← hargs, ← q7d 1000 xs]; exact (List.getElem?_eq_some_iff.1 hx).1
   have hv : args[i]? = some args[i] := Array.getElem?_eq_getElem hi
   have := hrep i x _ hx hv
   rw [Array.getD_eq_getD_getElem?, Array.getElem?_append_left hi, hv]
   simpa using this
 ·rintro e a w' ⟨s', ⟨he, hA, hL, hLok, hall, hch, hres⟩, Γ', g1, g3, c', hs, hn, hfr, hAok⟩
  obtain ⟨us, hvs, hvl, hvr⟩ := z2X hP c' hs _ hch
  split at hres
  ·rename_i vs hretV
   obtain ⟨hri, hnd⟩ := hres
   generalize hxs : q2j X s' fn.results.toList = rs at *
   have hrl : rs.length = fn.results.toList.length := by rw [← hxs]; exact z2Y _
   have hsub : Sub Γ' (Γ'.fin (Q0 L) (q1E 2000 rs vs)) (Q0 L) p8 :=
    ⟨rfl, rfl, rfl, rfl, rfl, fun _ => rfl, fun n h => by simp [G.fin, h], fun t h => by simp [p8] at h, fun b k p sz h => by simp [G.fin, h]⟩
   have hvlen := z1e hri
   have hul : us.length = rs.length := by rw [hvl, hrl]
   -- what the places of the result's tokens are
   have htk : ∀ m, look (v.tkR 2000) m = if 2000 ≤ m then (match vs[m - 2000]? with | some (.ts _ _ cs) => some (some cs.length) | _ => none) else none := by
    intro m
    cases rs with
    | nil => cases v <;> simp [q9P] at hretV; subst hretV; simp only [V.tkR, q4v] <;> rfl
    | cons x1 rs1 => cases rs1 with
     | nil =>
      simp only [q9P] at hretV
      cases hretV
      obtain ⟨x', _, hi'⟩ := q14 hri (i := 0) (v := v) rfl
      have hnt : v.tkR 2000 = v.q0J 2000 := by
       cases v <;> simp [V.tkR]
       simp [q0z, V.plain] at hi'
      rw [hnt, z7d]
      by_cases hm : 2000 = m
      ·subst hm; simp; cases v <;> rfl
      ·rw [if_neg hm]
       by_cases hm2 : 2000 ≤ m
       ·rw [if_pos hm2, show m - 2000 = (m - 2001) + 1 by omega]; simp
       ·rw [if_neg hm2]
     | cons x2 rs2 => cases v <;> simp [q9P] at hretV; subst hretV; simp only [V.tkR, q4v] <;> rfl
   have cfin : z8 (Γ'.fin (Q0 L) (q1E 2000 rs vs)) w' (S.fin v L A') := by
    refine c'.sub (s' := S.fin v L A') hsub rfl (fun n h => by simp [G.fin, show Q0 L n = false from h]) hA.symm hAok hL hLok (hA ▸ hall) (fun b o sz h => ?_) (fun m M h => ?_) (fun m h => ?_)
    ·simp only [G.fin] at h
     cases hk : Γ'.κ b with
     | none => simp [hk] at h
     | some y =>
      obtain ⟨o', sz'⟩ := y
      cases o' with
      | home k p => simp [hk] at h; exact ⟨_, by rw [h.2], fun T hT => by rw [← h.1]; exact hT⟩
      | tok t =>
       simp only [hk] at h
       split at h
       ·simp at h; exact ⟨_, by rw [h.2], fun T _ => by rw [← h.1]; trivial⟩
       ·cases h
    ·-- a live token of the result
     have h : look (v.tkR 2000) m = some (some M) := by
      unfold S.live H7 at h
      change (match look (v.tkR 2000) m with | some (some L) => some L | _ => none) = some M at h
      cases hl : look (v.tkR 2000) m with
      | none => simp [hl] at h
      | some y => cases y with
       | none => simp [hl] at h
       | some M' => simp [hl] at h; rw [h]
     rw [htk] at h
     by_cases hm : 2000 ≤ m
     ·rw [if_pos hm] at h
      cases hv : vs[m - 2000]? with
      | none => simp [hv] at h
      | some v1 =>
       obtain ⟨x1, hx1, hi1⟩ := q14 hri hv
       cases v1 <;> simp [hv] at h
       rename_i eb e cs
       subst h
       have hlook := q6P (n := 2000) (xs := rs) (vs := vs) (m := m)
       rw [if_pos hm, hx1, hv] at hlook
       simp only [q0z] at hi1
       cases x1 <;> simp only at hi1 hlook
       ·obtain ⟨rfl, rfl, rfl, hlive⟩ := hi1
        rename_i cs' t
        obtain ⟨y, a1, a2⟩ := c'.tok t _ hlive
        refine ⟨y, by simp [G.fin, hlook, a1], fun b pos sz hy => ?_⟩
        obtain ⟨a3, a4⟩ := a2 b pos sz hy
        exact ⟨a3, by simp [G.fin, a4, q9V hnd hlook]⟩
       ·obtain ⟨rfl, rfl, rfl⟩ := hi1
        exact ⟨none, by simp [G.fin, hlook], fun b pos sz h => by cases h⟩
       ·subst hi1
        exact ⟨none, by simp [G.fin, hlook], fun b pos sz h => by cases h⟩
     ·rw [if_neg hm] at h; cases h
    ·-- tokens known
     have : look (q1E 2000 rs vs) m ≠ none := by
      intro e; simp [G.fin, e] at h
     rw [q6P] at this
     unfold S.known
     change (look (v.tkR 2000) m).isSome = true
     rw [htk]
     by_cases hm : 2000 ≤ m
     ·rw [if_pos hm] at this ⊢
      cases hv : vs[m - 2000]? with
      | none => rw [hv] at this; cases hx1 : rs[m - 2000]? with
       | none => simp [hx1] at this
       | some x1 => simp [hx1] at this
      | some v1 =>
       rw [hv] at this
       cases v1
       case ts => rfl
       all_goals (exfalso; cases hx1 : rs[m - 2000]? with
        | none => simp [hx1] at this
        | some x1 => simp [hx1] at this)
     ·rw [if_neg hm] at this; exact absurd rfl this
   have hres' : (results fn a.tmps).run X.P w' = .ok (if h : us.length = 1 then us[0] else .tuple us.toArray) w' := by
    have hmap : (fn.results.mapM (q59 a)).run X.P w' = .ok us.toArray w' := by
     rw [Array.mapM_eq_mapM_toList]
     simp only [Sem.run_map] at hvs ⊢
     rw [hvs]
     rfl
    rw [y22]
    simp only [Sem.run_bind]
    rw [hmap]
    simp only [Result.andThen_ok, Sem.run_pure, List.size_toArray]
    split <;> simp
   have hone : ∀ (i : Nat) (v1 : V) (u : Value), vs[i]? = some v1 → us[i]? = some u → q9 (Γ'.fin (Q0 L) (q1E 2000 rs vs)) (v1.slot (2000 + i)) u := by
    intro i v1 u hv1 hu
    obtain ⟨x1, hx1, hi1⟩ := q14 hri hv1
    refine y1q c' hsub (hvr i x1 u hx1 hu) hi1 fun eb e cs hts => ?_
    subst hts
    have hlook := q6P (n := 2000) (xs := rs) (vs := vs) (m := 2000 + i)
    rw [if_pos (by omega), show 2000 + i - 2000 = i by omega, hx1, hv1] at hlook
    simp only [q0z] at hi1
    cases x1 <;> simp only at hi1 hlook ⊢ <;> exact hlook
   have hpl : ∀ (i : Nat) (x : V), (X3 2000 vs)[i]? = some x → x.plain = true := by
    intro i x hx
    rw [q57] at hx
    cases hv1 : vs[i]? with
    | none => simp [hv1] at hx
    | some v1 =>
     simp [hv1] at hx
     subst hx
     obtain ⟨x1, _, hi1⟩ := q14 hri hv1
     cases v1 <;> simp only [q0z] at hi1 <;> first | rfl | (exact hi1.2.2.1)
   have hrv : q9 (Γ'.fin (Q0 L) (q1E 2000 rs vs)) (v.X9 2000) (if h : us.length = 1 then us[0] else .tuple us.toArray) := by
    by_cases h1 : us.length = 1
    ·rw [dif_pos h1]
     cases rs with
     | nil => rw [hul] at h1; simp at h1
     | cons x1 rs1 => cases rs1 with
      | nil =>
       simp only [q9P] at hretV; cases hretV
       have := hone 0 v us[0] rfl (List.getElem?_eq_getElem (by omega))
       have hsr : v.X9 2000 = v.slot 2000 := by
        cases v <;> simp [V.X9]
        obtain ⟨x', _, hi'⟩ := q14 hri (i := 0) rfl
        simp [q0z, V.plain] at hi'
       rw [hsr]; exact this
      | cons x2 rs2 => rw [hul] at h1; simp at h1
    ·rw [dif_neg h1]
     have hcap : y9 (Γ'.fin (Q0 L) (q1E 2000 rs vs)) (X3 2000 vs) us := y8Y _ _ (by rw [q7d]; omega) hpl fun i x u hx hu => by
      rw [q57] at hx
      cases hv1 : vs[i]? with
      | none => simp [hv1] at hx
      | some v1 => simp [hv1] at hx; subst hx; exact hone i v1 u hv1 hu
     have hvt : v = .tup vs := by
      cases rs with
      | nil => cases v <;> simp [q9P] at hretV; rw [hretV]
      | cons x1 rs1 => cases rs1 with
       | nil => exact absurd hul h1
       | cons x2 rs2 => cases v <;> simp [q9P] at hretV; rw [hretV]
     subst hvt
     exact ⟨_, rfl, by simpa using hcap⟩
   have gfin : GLe Γ' (Γ'.fin (Q0 L) (q1E 2000 rs vs)) := ⟨Hp.le_refl _, rfl, fun _ _ => rfl, fun _ _ h => h, rfl, rfl, fun _ _ h => h, fun _ h => h⟩
   rcases he with rfl | rfl
   ·exact ⟨hfr, _, hres', _, _, rfl, g1.trans gfin, cfin, hrv⟩
   ·exact ⟨hfr, _, hres', _, _, rfl, g1.trans gfin, cfin, hrv⟩
  ·exact hres.elim
end
end Go.E
