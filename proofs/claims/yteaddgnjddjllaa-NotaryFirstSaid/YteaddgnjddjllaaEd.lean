/-
  A framework for runs of Go code over abstract data: what it needs, and that it is sound, part 4.
  Conditions: none.
-/
import Derived.Test.YteaddgnjddjllaaEc
set_option linter.all false
namespace Go.E
open Go

mutual
def Ty.noRef : Ty → Bool
  | .int _ | .bool | .str => true
  | .arr _ e => e.noRef
  | .struct _ _ fs => Ty.noRefs fs
  | _ => false
def Ty.noRefs : List Ty → Bool
  | [] => true
  | t :: ts => t.noRef && Ty.noRefs ts
end
mutual
theorem RepC.noRef {H H' : Hp} : ∀ {τ : Ty} {vs : List Value} {c : C}, τ.noRef = true → RepC H τ vs c → RepC H' τ vs c
  | .int _, _, _, _, r => by simpa [RepC] using r
  | .bool, _, _, _, r => by simpa [RepC] using r
  | .str, _, _, _, r => by simpa [RepC] using r
  | .arr n e, vs, c, h, r => by
    simp only [RepC] at r ⊢
    obtain ⟨cs, rfl, h1, h2, h4, h3⟩ := r
    exact ⟨cs, rfl, h1, h2, h4, fun i c hi => RepC.noRef (by simpa [Ty.noRef] using h) (h3 i c hi)⟩
  | .struct sz os fs, vs, c, h, r => by
    simp only [RepC] at r ⊢
    obtain ⟨cs, rfl, h1, h4, h2⟩ := r
    exact ⟨cs, rfl, h1, h4, RepFs.noRef (by simpa [Ty.noRef] using h) h2⟩
  | .slice _ _, _, _, h, _ | .ptr, _, _, h, _ | .map, _, _, h, _ | .func, _, _, h, _ | .iface, _, _, h, _ | .opq _, _, _, h, _ => by simp [Ty.noRef] at h
theorem RepFs.noRef {H H' : Hp} : ∀ {fs : List Ty} {os : List Nat} {vs : List Value} {cs : List C}, Ty.noRefs fs = true → RepFs H fs os vs cs → RepFs H' fs os vs cs
  | [], _, _, _, _, r => by simpa [RepFs] using r
  | f :: fs, o :: os, vs, cs, h, r => by
    simp only [Ty.noRefs, Bool.and_eq_true] at h
    simp only [RepFs] at r ⊢
    obtain ⟨c, cs', rfl, h1, h2, h3⟩ := r
    exact ⟨c, cs', rfl, h1, RepC.noRef h.1 h2, RepFs.noRef h.2 h3⟩
  | _ :: _, [], _, _, _, r => by simp [RepFs] at r
end
def V.noRefL : List V → Bool
  | [] => true
  | x :: xs => (match x with | .d τ _ => τ.noRef | _ => false) && V.noRefL xs
def V.noRef : V → Bool
  | .d τ _ => τ.noRef
  | .tup vs => V.noRefL vs
  | _ => false
theorem repCaps_noRef {Γ Γ' : G} : ∀ {xs : List V} {vs : List Value}, V.noRefL xs = true → RepCaps Γ xs vs → RepCaps Γ' xs vs
  | [], vs, _, h => by simpa [RepCaps] using h
  | x :: xs, vs, hx, h => by
    simp only [V.noRefL, Bool.and_eq_true] at hx
    simp only [RepCaps] at h ⊢
    obtain ⟨v, vs', rfl, h1, h2, h3⟩ := h
    refine ⟨v, vs', rfl, ?_, h2, repCaps_noRef hx.2 h3⟩
    cases x <;> simp at hx
    simp only [RepX] at h1 ⊢
    exact h1.noRef hx.1
theorem repV_noRef {Γ Γ' : G} {x : V} {v : Value} (hx : x.noRef = true) (h : RepV Γ x v) : RepV Γ' x v := by
  cases x <;> simp [V.noRef] at hx
  · rw [repV_d] at h ⊢
    exact ⟨h.1.noRef hx, h.2⟩
  · simp only [RepV] at h ⊢
    obtain ⟨vs, rfl, h⟩ := h
    exact ⟨vs, rfl, repCaps_noRef hx h⟩
theorem slotR_noRef {x : V} (hx : x.noRef = true) (n : Nat) : x.slotR n = x := by
  cases x <;> simp [V.noRef] at hx
  · rfl
  · rename_i vs
    simp only [V.slotR]
    congr 1
    have : ∀ (l : List V) (n : Nat), V.noRefL l = true → slots n l = l := by
      intro l
      induction l with
      | nil => intros; rfl
      | cons x xs ih =>
        intro n h
        simp only [V.noRefL, Bool.and_eq_true] at h
        simp only [slots]
        rw [ih _ h.2]
        cases x <;> simp at h <;> rfl
    exact this vs n hx

def G.froz (w : World) (gl : Nat → Option (Ty × C)) : G where
  H b := match w.heap[b]? with
    | some (.cells arr _ _) => some arr.toList
    | _ => none
  Z b := w.heap[b]?
  ι _ := none
  τ _ := none
  κ _ := none
  gl := gl
  oo := oof w
  σ _ := none
def snapV (s : S) : V → V
  | .sr k q lo n cp eb e => (match elemsOf s (.sr k q lo n cp eb e) with
    | some (eb', e', cs) => .d (.slice eb' e') (.slice cs)
    | none => .any)
  | x => bif x.plain then (match closeV x with
    | some c => .d x.ty c
    | none => .any) else .any
def allDV : List V → Bool
  | [] => true
  | x :: xs => (match x with | .d _ _ => true | _ => false) && allDV xs
section
variable {P : Program} {Γ : G} {w : World} {s : S}
theorem froz_le (c : Conc Γ w s) (gl : Nat → Option (Ty × C)) : Γ.H.le (G.froz w gl).H := by
  intro b l h
  obtain ⟨arr, T, fr, r, h1, h2⟩ := c.hH b l h
  exact ⟨r, by simp only [G.froz, h1, h2]⟩
theorem elems_froz (c : Conc Γ w s) (gl : Nat → Option (Ty × C)) {Y : V} {v : Value} {eb : Nat} {e : Ty} {ys : List C} (hr : RepV Γ Y v) (he : elemsOf s Y = some (eb, e, ys)) :
    RepV (G.froz w gl) (.d (.slice eb e) (.slice ys)) v := by
  have hle := froz_le c gl
  have frozen : ∀ {eb : Nat} {e : Ty} {ys : List C}, Y.asSl = some (eb, e, ys) → RepV (G.froz w gl) (.d (.slice eb e) (.slice ys)) v := by
    intro eb e ys he
    obtain ⟨a, n, cap, rfl, h1, h2, h3, h4, h5⟩ := repV_asSl hr he
    exact repV_d.2 ⟨h5.mono hle, rfl⟩
  cases Y <;> (try exact frozen he)
  case sr k q lo n cp eb' e' =>
    simp only [elemsOf] at he
    cases ho : s.obj k with
    | none => simp [ho] at he
    | some o =>
      cases o with
      | map => simp [ho] at he
      | it => simp [ho] at he
      | dead => simp [ho] at he
      | box x =>
        simp only [ho] at he
        cases hx : x.at q with
        | d τ cc =>
          simp only [hx, Option.some.injEq, Prod.mk.injEq] at he
          obtain ⟨rfl, rfl, rfl⟩ := he
          rcases repV_sr hr with ⟨_, rfl, a, rfl⟩ | ⟨b, τ0, o0, m, cap, a, a1, a2, a3, rfl, a4, a5, a6, a7, _⟩
          · exact repV_d.2 ⟨repC_mk_slice (by simp) (Nat.le_refl _) (Nat.zero_le _) (by rw [Nat.zero_mul]; exact Nat.zero_le _) (.inl rfl), rfl⟩
          obtain ⟨b', cells, T, g1, g2, g3, g4, g5, g6, g7, _⟩ := c.own a1 ho
          rw [a1] at g1; cases g1
          obtain ⟨q1, q2, q3⟩ := g6.at_ a2 (by rw [hx]; simp) g7
          rw [hx] at q1 q3
          simp only [V.ty] at q1
          subst q1
          simp only [RepX, RepC] at q3
          obtain ⟨cs, rfl, r1, r2, r3, r4⟩ := q3
          simp only [C.elems]
          rw [chunk_length _ _ _ (by simpa using g5)] at q2
          have hlen : ((cs.drop lo).take n).length = n := by simp; omega
          have hmul : (lo + n) * e'.size ≤ m * e'.size := Nat.mul_le_mul_right _ a3
          rw [Nat.add_mul] at hmul
          simp only [Ty.size] at q2 r2 r4
          have hall : o0 + lo * e'.size + n * e'.size ≤ cells.toList.length := by simp; omega
          refine repV_d.2 ⟨repC_mk_slice hlen a5 a6 a7 ?_, rfl⟩
          rcases Nat.eq_zero_or_pos n with h0 | h0
          · exact .inl h0
          · have ha : a = some ⟨b, o0 + lo * e'.size, none⟩ := by rcases a4 with h | h; · omega
                                                                  · exact h
            refine .inr ⟨b, o0 + lo * e'.size, cells.toList, ha, by simp only [G.froz, g4], hall, fun i c' hi => ?_⟩
            rw [List.getElem?_take] at hi
            split at hi
            · rename_i hin
              rw [List.getElem?_drop] at hi
              have := r4 _ _ hi
              have hle2 : (lo + i + 1) * e'.size ≤ m * e'.size := Nat.mul_le_mul_right _ (by omega)
              rw [Nat.add_mul, Nat.add_mul] at hle2
              rw [Nat.add_mul] at this
              rw [chunk_chunk _ _ _ _ _ (by omega), chunk_chunk _ _ _ _ _ (by omega)] at this
              rw [show 0 + (o0 + (lo * e'.size + i * e'.size)) = o0 + lo * e'.size + i * e'.size by omega] at this
              exact this.mono hle
            · cases hi
        | _ => simp [hx] at he
theorem snap_rep (c : Conc Γ w s) (gl : Nat → Option (Ty × C)) {x : V} {v : Value} {τ : Ty} {cc : C} (hr : RepV Γ x v) (h : snapV s x = .d τ cc) : RepV (G.froz w gl) (.d τ cc) v := by
  have other : ∀ {τ : Ty} {cc : C}, (bif x.plain then (match closeV x with
    | some c => V.d x.ty c
    | none => .any) else .any) = .d τ cc → RepV (G.froz w gl) (.d τ cc) v := by
    intro τ cc h
    cases hp : x.plain with
    | false => rw [hp] at h; cases h
    | true =>
      rw [hp] at h
      simp only [cond_true] at h
      split at h
      · rename_i c0 hc0
        cases h
        obtain ⟨h1, h2⟩ := (repV_plain hp).1 hr
        exact repV_d.2 ⟨(closeV_rep x h1 hc0).mono (froz_le c gl), h2⟩
      · cases h
  cases x <;> first
    | exact other h
    | (simp only [snapV] at h
       split at h
       · rename_i he
         cases h
         exact elems_froz c gl hr he
       · cases h)
theorem froz_conc (hgl : ∃ gl0, Γ.gl = gl0) (c : Conc Γ w s) {xs : List V} (hx : allDV xs = true) : Conc (G.froz w Γ.gl) w (S.start xs fun _ => none) := by
  have htk : ∀ (l : List V) (n : Nat), allDV l = true → tksOf n l = [] := by
    intro l
    induction l with
    | nil => intros; rfl
    | cons x xs ih =>
      intro n h
      simp only [allDV, Bool.and_eq_true] at h
      simp only [tksOf]
      rw [ih _ h.2]
      cases x <;> simp at h <;> rfl
  refine ⟨fun b l h => ?_, fun b o h => h, fun b o sz h => (by cases h), fun k o h => ?_, fun k h => absurd rfl h, fun k k' b τ τ' h _ => (by cases h), fun t L h => ?_, fun t h => absurd rfl h, fun g τ cc h => ?_, rfl, fun b sz h => (by cases h)⟩
  · simp only [G.froz] at h
    split at h
    · rename_i arr T fr hw
      cases h
      exact ⟨arr, T, fr, [], hw, by simp⟩
    · cases h
  · exfalso
    cases k <;> simp [S.start, S.obj, objOf, lookK] at h
  · exfalso
    simp [S.start, S.live, liveT, htk xs 1000 hx, look] at h
  · obtain ⟨l, h1, h2, h3⟩ := c.hgl g τ cc h
    obtain ⟨r, hr⟩ := froz_le c Γ.gl g l h1
    refine ⟨l ++ r, hr, by simp; omega, ?_⟩
    rw [chunk_append _ _ _ _ (by omega)]
    exact h3.mono (froz_le c Γ.gl)
theorem aok_none : AOk fun _ => none := fun _ _ h => by cases h
theorem froz_ext {w' : World} {gl : Nat → Option (Ty × C)} {Γ' : G} {s' : S} (gle : GLe (G.froz w gl) Γ') (c' : Conc Γ' w' s') : Ext w w' := by
  have old : ∀ b, b < w.heap.size → w'.heap[b]? = w.heap[b]? := fun b hb => by
    have h1 : w.heap[b]? = some w.heap[b] := Array.getElem?_eq_getElem hb
    rw [h1]
    exact c'.hZ b _ (by rw [gle.Z]; exact h1)
  refine ⟨?_, old, ?_⟩
  · rcases Nat.eq_zero_or_pos w.heap.size with h | h
    · omega
    · have h1 := old (w.heap.size - 1) (by omega)
      rw [Array.getElem?_eq_getElem (show w.heap.size - 1 < w.heap.size by omega)] at h1
      have := lt_of_heap h1
      omega
  · rw [c'.hoo, gle.oo]; rfl
theorem do_pure {X : Cx} (hgl : Γ.gl = X.gl) (c : Conc Γ w s) {o : Oper} {a : Act} {fo : Operand} {f : FuncId} {as : Array Operand} {ts : Array TypeId} {xs : List V} {v : V}
    (ho : o.op = .call { callee := .value fo, args := as, argTypes := ts }) (hcal : callable X.P f = true) (hf : RepV Γ (.fn f []) (a.eval fo))
    (hlen : xs.length = as.toList.length) (hr : ∀ (i : Nat) x y, xs[i]? = some x → as.toList[i]? = some y → RepV (G.froz w Γ.gl) x (a.eval y)) (hx : allDV xs = true) (D : DCalls X f xs (fun _ => none) v []) (hv : v.noRef = true) :
    Does X.P o a w (Post Γ w s v) := by
  obtain ⟨cv, hfv, hcl, _⟩ := repV_fn hf
  have hcv : cv = #[] := by
    apply Array.eq_empty_of_size_eq_zero
    simpa using hcl.symm
  subst hcv
  have run : (execOp a.eval o).run X.P w = .ok (.enter f (as.map a.eval)) w := by
    unfold execOp
    simp [ho, resolve, hfv, Deferred.ofValue, invoke, run_callFunc hcal]
  have hsl : ∀ (l : List V) (n : Nat), allDV l = true → slots n l = l := by
    intro l
    induction l with
    | nil => intros; rfl
    | cons x xs ih =>
      intro n h
      simp only [allDV, Bool.and_eq_true] at h
      simp only [slots]
      rw [ih _ h.2]
      cases x <;> simp at h <;> rfl
  refine Does.enter run ?_
  refine (D (fun _ => none) (G.froz w Γ.gl) w (as.map a.eval) (fun _ _ h => h) hgl ⟨froz_conc ⟨_, rfl⟩ c hx, aok_none⟩ (by simpa using hlen) fun i x u hx' hu => ?_).mono ?_
  · rw [hsl xs 1000 hx] at hx'
    rw [Array.getElem?_map] at hu
    cases hy : as[i]? with
    | none => rw [hy] at hu; cases hu
    | some y =>
      rw [hy] at hu
      cases hu
      exact hr i x y hx' (by simpa using hy)
  · rintro e w' ⟨u, Γ', rfl, gle, c', hv'⟩
    rw [slotR_noRef hv] at hv'
    exact ⟨u, rfl, Post.ext c (froz_ext gle c') (repV_noRef hv hv')⟩
end
end Go.E


namespace Go.E
open Go

def constV : Value → V
  | .int k n => .d (.int k) (.int n)
  | .bool b => .d .bool (.bool b)
  | .string s => .d .str (.str s.data.toList)
  | .pointer none => .d .ptr .nil
  | .slice none 0 0 => .nilc
  | .map none => .d .map .nil
  | .nilFunc => .d .func .nil
  | .nilIface => .d .iface .nil
  | _ => .any
def constOk : Value → Bool
  | .int k n => decide (k.min ≤ n ∧ n ≤ k.max)
  | .string s => decide (s.data.toList.length ≤ 140737488355328)
  | _ => true
def operandOk : Operand → Bool
  | .const v => constOk v
  | _ => true
def opOk (n : Nat) (o : Oper) : Bool :=
  o.op.operands.all operandOk && (match o.dst with | some d => decide (d < n) | none => true)
def evalA (gl : Nat → Option (Ty × C)) (s : S) : Operand → V
  | .tmp t => s.get t
  | .const v => constV v
  | .global g => match gl g with
    | some (τ, c) => .cptr τ c
    | none => .any
  | .func f => .fn f []
def modeOf (md : List (Nat × Nat)) (d : Nat) : Nat := (look md d).getD 0

def S.add (s : S) (lo : List (Key × O)) (tn : List (Nat × Option Nat)) : S := { s with loc := lo ++ s.loc, tk := tn ++ s.tk }
def onlyL : List (Key × O) → Bool
  | [] => true
  | (.l _, _) :: l => onlyL l
  | (.g _, _) :: _ => false
def srcK (P : Program) (s : S) (t' : TypeId) (eb : Nat) (e : Ty) (Y : V) (K : List C → Prop) : Prop :=
  match ty P t' with
  | .slice _ _ => (match Y with
    | .nilc => K []
    | Y => match elemsOf s Y with
      | some (eb', e', ys) => eb' = eb ∧ e' = e ∧ K ys
      | none => False)
  | .str => e = .int .u8 ∧ eb = 1 ∧ Y.isStr ∧ K (Y.toStr.map fun b => C.int b.toNat)
  | _ => False
theorem srcK_spec {P : Program} (hP : allOk P = true) {s : S} {t' : TypeId} {eb : Nat} {e : Ty} {Y : V} {K : List C → Prop} (h : srcK P s t' eb e Y K) : ∃ ys, K ys ∧ srcOf P s t' eb e Y ys := by
  unfold srcK at h
  split at h
  · rename_i eb0 e0 ht
    obtain ⟨E, hu, _⟩ := ty_slice hP ht
    split at h
    · exact ⟨[], h, .inl ⟨⟨E, hu⟩, .inr ⟨rfl, rfl⟩⟩⟩
    · split at h
      · rename_i eb' e' ys he
        obtain ⟨rfl, rfl, hK⟩ := h
        exact ⟨ys, hK, .inl ⟨⟨E, hu⟩, .inl he⟩⟩
      · exact h.elim
  · rename_i ht
    obtain ⟨h1, h2, h3, hK⟩ := h
    exact ⟨_, hK, .inr ⟨ty_str ht, h3, h1, h2, rfl⟩⟩
  · exact h.elim

def EDoes (X : Cx) (f : FuncId) (xs : List V) (v : V) : Prop :=
  ∀ (Γ : G) (w : World) (args : Array Value), xs.length = args.size → (∀ (i : Nat) x u, xs[i]? = some x → args[i]? = some u → RepV Γ x u) → ∃ u, (callFunc f args).run X.P w = .ok (.value u) w ∧ RepV Γ v u
mutual
def V.pks : V → List Key
  | .ptr k _ _ | .mp k => [k]
  | .sr k _ _ _ (some _) _ _ => [k]
  | .agg _ vs => V.pkss vs
  | _ => []
def V.pkss : List V → List Key
  | [] => []
  | x :: xs => x.pks ++ V.pkss xs
end
def reachO : Nat → List (Key × O) → List Key → List (Key × O)
  | 0, _, _ => []
  | n + 1, loc, ks => ks.flatMap fun k => match lookK loc k with
    | some o => (k, o) :: (match o with | .box x => reachO n loc x.pks | _ => [])
    | none => []
def S.see (base s : S) (xs : List V) : S := { base with loc := reachO 3 s.loc (V.pkss xs) ++ base.loc }
def subP (y : V) (q : List Nat) (t τ : Ty) (K : V → Prop) : Prop :=
  match y, t with
  | .d (.arr M e) c, .arr m e' => q ≠ [] ∧ e' = e ∧ τ = e ∧ (Ty.arr m e).known = true ∧ q.getLastD 0 + m ≤ M ∧ K (.d (.arr m e) (.agg ((c.elems.drop (q.getLastD 0)).take m)))
  | _, _ => False
noncomputable def iop (X : Cx) (md : List (Nat × Nat)) (base : S) (dst : Nat) (o : Oper) (ρ : Operand → V) (s : S) (K : V → List (Key × O) → List (Nat × Option Nat) → Prop) : Prop :=
  match o.op with
  | .load T x => if modeOf md dst = 18 then (match ρ x with
      | .ptr k q τ => (match s.obj k with
          | some (.box y) => subP (y.at q.dropLast) q (ty X.P T) τ fun v => K v [] []
          | _ => False)
      | _ => False)
    else (match ρ x with
      | .ptr k q τ => (match s.obj k with
          | some (.box y) => y.at q ≠ .any ∧ τ = ty X.P T ∧ τ.known = true ∧ K (view (y.at q)) [] []
          | _ => False)
      | .cptr τ c => τ = ty X.P T ∧ τ.known = true ∧ K (.d τ c) [] []
      | _ => False)
  | .alloc T => zeroB X.P T = true ∧ K (.ptr (.l dst) [] (ty X.P T)) [(.l dst, objZ (ty X.P T) T)] []
  | .box _ x => if modeOf md dst = 5 then (ρ x).plain = true ∧ (match closeV (ρ x) with
        | some cc => K (.cptr (ρ x).ty cc) [] []
        | none => False)
      else (ρ x).plain = true ∧ (ρ x).noSl = true ∧ K (.ptr (.l dst) [] (ρ x).ty) [(.l dst, .box (ρ x))] []
  | .buildSlice t len parts => (match ty X.P t with
      | .slice eb e => (match len with
        | 0 => parts.toList.length = 0 ∧ K (.emp eb e) [] []
        | len + 1 => zeroB X.P (elemT X.P t) = true ∧ e.size ≠ 0 ∧ (len + 1) * e.size ≤ 16777216 ∧ (len + 1) * eb ≤ 140737488355328 ∧ parts.toList.map (·.1) = List.range (len + 1) ∧
            (match closeVs (parts.toList.map fun x => ρ x.2) with
              | some cs => (∀ x ∈ parts.toList.map (fun x => ρ x.2), x.ty = e ∧ x.plain = true) ∧ (if modeOf md dst = 4 then K (.sl eb e cs dst) [] [(dst, some cs.length)] else K (.d (.slice eb e) (.slice cs)) [] [])
              | none => False))
      | _ => False)
  | .build T parts => zeroB X.P T = true ∧ (ty X.P T).disj = true ∧ (ty X.P T).isAgg = true ∧ buildOk (ty X.P T) (zeroX (ty X.P T)) (parts.toList.map fun p => (p.1, ρ p.2)) ∧
      K (buildV (ty X.P T) (zeroX (ty X.P T)) (parts.toList.map fun p => (p.1, ρ p.2))) [] []
  | .makeSlice t l c => (match ty X.P t with
      | .slice eb e => zeroB X.P (elemT X.P t) = true ∧ (ρ l).isAnyInt ∧ (ρ c).isAnyInt ∧ 0 ≤ (ρ l).toInt ∧ (ρ l).toInt ≤ (ρ c).toInt ∧ (ρ c).toInt ≤ 9223372036854775807 ∧ (ρ c).toInt.toNat * eb ≤ 140737488355328 ∧ e.size ≠ 0 ∧
          K (.sr (.l dst) [] 0 (ρ l).toInt.toNat (if modeOf md dst = 9 then none else some (ρ c).toInt.toNat) eb e) [(.l dst, .box (.d (.arr (ρ l).toInt.toNat e) (.agg (List.replicate (ρ l).toInt.toNat (zeroC e)))))] []
      | _ => False)
  | .makeMap T r => (match r, mapT X.P T with
      | none, some (kt, et) => K (.mp (.l dst)) [(.l dst, .map (ty X.P kt) (ty X.P et) [])] []
      | _, _ => False)
  | .lookup T x i ok => (match mapT X.P T, ρ x with
      | some (kt, et), .mp k => (match s.obj k with
          | some (.map kτ _ es) => kτ = ty X.P kt ∧ eqOk X.P kt = true ∧ zeroB X.P et = true ∧ (ρ i).isData kτ ∧
              K (if ok then .tup [lookV X.P et es (ρ i).toC, .d .bool (.bool (lookM es (ρ i).toC).isSome)] else lookV X.P et es (ρ i).toC) [] []
          | _ => False)
      | _, _ => False)
  | .call c => (match c.callee with
      | .value fo => (match ρ fo with
          | .fn f caps => (callable X.P f = true ∧ c.argTypes.toList.length = c.args.toList.length ∧
            ∃ b v L, (b = base ∨ b = base.see s (callArgs (c.args.toList.map ρ) caps)) ∧ DCalls X f (argsOf X.P false s (callTs c.argTypes.toList caps) (callArgs (c.args.toList.map ρ) caps)) b.up v L ∧ onlyL L = true ∧
              K ((v.slotR 2000).ren (dn dst) (rk dst)) (dnL dst L) (dnT dst (v.tkR 2000))) ∨
            (caps = [] ∧ ∃ v, EDoes X f (c.args.toList.map ρ) v ∧ K v [] []) ∨
            (caps = [] ∧ callable X.P f = true ∧ ∃ v, allDV (c.args.toList.map fun y => snapV s (ρ y)) = true ∧ DCalls X f (c.args.toList.map fun y => snapV s (ρ y)) (fun _ => none) v [] ∧ v.noRef = true ∧ K v [] [])
          | _ => False)
      | .builtin .append => (match c.args.toList, c.argTypes.toList with
          | [x, y], [t, t'] => zeroB X.P (elemT X.P t) = true ∧ (match ty X.P t, ρ x with
              | .slice eb e, .emp _ _ => srcK X.P s t' eb e (ρ y) fun ys => if modeOf md dst = 3 then ys ≠ [] ∧ K (.sr (.l dst) [] 0 ys.length none eb e) [(.l dst, .box (.d (.arr ys.length e) (.agg ys)))] [] else K (.sl eb e ys dst) [] [(dst, some ys.length)]
              | .slice eb e, .nilc => srcK X.P s t' eb e (ρ y) fun ys => if modeOf md dst = 3 then ys ≠ [] ∧ K (.sr (.l dst) [] 0 ys.length none eb e) [(.l dst, .box (.d (.arr ys.length e) (.agg ys)))] [] else K (.sl eb e ys dst) [] [(dst, some ys.length)]
              | _, _ => False)
          | _, _ => False)
      | .builtin .len => (match c.args.toList, c.argTypes.toList with
          | [x], [T] => (match ρ x with
              | .mp k => (match mapT X.P T, s.obj k with
                  | some _, some (.map _ _ es) => es.length ≤ 9223372036854775807 ∧ K (.d (.int .i64) (.int es.length)) [] []
                  | _, _ => False)
              | _ => pv X.P o.op ρ fun y => K y [] [])
          | _, _ => pv X.P o.op ρ fun y => K y [] [])
      | _ => pv X.P o.op ρ fun y => K y [] [])
  | .convert src dst' x => (match strOf X.P s src dst' (ρ x) with
      | some ys => K (.d .str (.str (ys.map byteC))) [] []
      | none => pv X.P o.op ρ fun y => K y [] [])
  | _ => pv X.P o.op ρ fun y => K y [] []

structure Compat (s' s base : S) : Prop where
  obj : ∀ k o, s.obj k = some o → s'.obj k ≠ none → s'.obj k = some o
  base : ∀ k o, base.obj k = some o → s'.obj k = some o
structure Fresh (s : S) (lo : List (Key × O)) (tn : List (Nat × Option Nat)) : Prop where
  l : ∀ k o, lookK lo k = some o → s.obj k = none
  t : ∀ t x, look tn t = some x → s.known t = false
section
variable {X : Cx} {Γ : G} {w : World} {s : S}
theorem Compat.getObj {s' base : S} (h : Compat s' s base) (c : Conc Γ w s') {k : Key} {o : O} (hι : Γ.ι k ≠ none) (ho : s.obj k = some o) : s'.obj k = some o := h.obj k o ho (c.dom k hι)
theorem elemsOf_compat {s' base : S} (h : Compat s' s base) (c : Conc Γ w s') {x : V} {v : Value} {r : Nat × Ty × List C} (hr : RepV Γ x v) (he : elemsOf s x = some r) : ∃ x', RepV Γ x' v ∧ (x' = .nilc → x = .nilc) ∧ elemsOf s' x' = some r := by
  cases x <;> (try exact ⟨_, hr, id, he⟩)
  case sr k q lo n cp eb e =>
    rcases repV_sr hr with ⟨_, rfl, a, rfl⟩ | ⟨b, τ0, o, m, cap, a, hι, _⟩
    · refine ⟨.emp eb e, repV_mk_emp, (fun h => by cases h), ?_⟩
      simp only [elemsOf] at he
      split at he
      · split at he
        · rw [← he]; simp [elemsOf, V.asSl]
        · cases he
      · cases he
    · refine ⟨_, hr, id, ?_⟩
      simp only [elemsOf] at he ⊢
      cases ho : s.obj k with
      | none => simp [ho] at he
      | some o =>
        rw [h.getObj c (by rw [hι]; simp) ho]
        rw [ho] at he; exact he
theorem strOf_compat {P : Program} {s' base : S} (h : Compat s' s base) (c : Conc Γ w s') {src dst : TypeId} {Y : V} {v : Value} {ys : List C} (hr : RepV Γ Y v) (he : strOf P s src dst Y = some ys) : ∃ Y', RepV Γ Y' v ∧ strOf P s' src dst Y' = some ys := by
  cases hel : elemsOf s Y with
  | some r =>
    obtain ⟨Y', h1, h2, h3⟩ := elemsOf_compat h c hr hel
    by_cases hY : Y = .nilc
    · subst hY; exact ⟨_, hr, he⟩
    refine ⟨Y', h1, ?_⟩
    rw [← he]
    unfold strOf
    have hY' : Y' ≠ .nilc := fun e => hY (h2 e)
    rw [hel, h3]
    cases Y <;> first | exact absurd rfl hY | (cases Y' <;> first | exact absurd rfl hY' | rfl)
  | none =>
    refine ⟨_, hr, ?_⟩
    unfold strOf at he ⊢
    rw [hel] at he
    split at he
    · split at he
      · rename_i h0
        rw [if_pos h0]
        split at he
        · exact he
        · cases he
      · cases he
    · cases he
theorem srcOf_compat {P : Program} {s' base : S} (h : Compat s' s base) (c : Conc Γ w s') {t' : TypeId} {eb : Nat} {e : Ty} {Y : V} {v : Value} {ys : List C} (hr : RepV Γ Y v) (he : srcOf P s t' eb e Y ys) : ∃ Y', RepV Γ Y' v ∧ srcOf P s' t' eb e Y' ys := by
  rcases he with ⟨h1, h2 | h2⟩ | h1
  · obtain ⟨Y', a, _, b⟩ := elemsOf_compat h c hr h2
    exact ⟨Y', a, .inl ⟨h1, .inl b⟩⟩
  · exact ⟨_, hr, .inl ⟨h1, .inr h2⟩⟩
  · exact ⟨_, hr, .inr h1⟩
theorem argOf_false {P : Program} (s s' : S) (T : TypeId) (x : V) : argOf P false s T x = argOf P false s' T x := by
  cases x <;> simp [argOf]
theorem argsOf_false {P : Program} (s s' : S) : ∀ (Ts : List TypeId) (xs : List V), argsOf P false s Ts xs = argsOf P false s' Ts xs
  | [], _ => rfl
  | _ :: _, [] => rfl
  | T :: Ts, x :: xs => by simp only [argsOf, argOf_false s s', argsOf_false s s' Ts xs]
theorem passed_false (s : S) : ∀ (xs : List V), passed false s xs = []
  | [] => rfl
  | x :: xs => by
    have : argTk false s x = none := by cases x <;> simp [argTk]
    simp [passed, this, passed_false s xs]
theorem onlyL_look : ∀ {L : List (Key × O)} {k : Key} {o : O}, onlyL L = true → lookK L (.g k) = some o → False
  | [], _, _, _, h => by simp [lookK] at h
  | (.l n, _) :: L, k, o, hl, h => by simp [lookK] at h; exact onlyL_look (L := L) (by simpa [onlyL] using hl) h
  | (.g _, _) :: _, _, _, hl, _ => by simp [onlyL] at hl
theorem onlyL_dn (d : Nat) : ∀ {L : List (Key × O)} {j : Nat} {o : O}, onlyL L = true → lookK L (.l j) = some o → lookK (dnL d L) (.l (rk d j)) = some (o.ren (dn d))
  | [], _, _, _, h => by simp [lookK] at h
  | (.l n, o') :: L, j, o, hl, h => by
    simp only [lookK] at h
    simp only [dnL, lookK, dn]
    by_cases e : n = j
    · subst e; simp at h; subst h; simp
    · have e1 : Key.l n ≠ .l j := by intro h; cases h; exact e rfl
      have e2 : Key.l (rk d n) ≠ .l (rk d j) := by intro h; simp [rk] at h; exact e h
      rw [if_neg e1] at h
      rw [if_neg e2]
      exact onlyL_dn d (L := L) (by simpa [onlyL] using hl) h
  | (.g _, _) :: _, _, _, hl, _ => by simp [onlyL] at hl
theorem look_dnT_rk (d : Nat) (l : List (Nat × Option Nat)) (m : Nat) : look (dnT d l) (rk d m) = look l m := by rw [look_dnT, rkInv_rk]

def IDoes (X : Cx) (base : S) (o : Oper) (ρ : Operand → V) (s : S) (v : V) (lo : List (Key × O)) (tn : List (Nat × Option Nat)) : Prop :=
  ∀ (Γ : G) (w : World) (a : Act) (s' : S), Γ.gl = X.gl → Conc Γ w s' → Compat s' s base → Fresh s' lo tn → (∀ y ∈ o.op.operands, RepV Γ (ρ y) (a.eval y)) → Does X.P o a w (Post Γ w (s'.add lo tn) v)
theorem does_pv (hP : allOk X.P = true) {o : Oper} {ρa : Operand → V} {K : V → Prop} (h : pv X.P o.op ρa K) :
    ∃ v, K v ∧ ∀ (Γ : G) (w : World) (a : Act) (s' : S), Conc Γ w s' → (∀ y ∈ o.op.operands, RepV Γ (ρa y) (a.eval y)) → Does X.P o a w (Post Γ w s' v) := by
  obtain ⟨v, hK, hs⟩ := pv_sound hP h
  refine ⟨v, hK, fun Γ w a s' c hr => ?_⟩
  obtain ⟨u, h1, h2⟩ := hs Γ w a.eval hr
  exact Does.val h1 (Post.same c h2)

mutual
theorem pks_rep {Γ : G} : ∀ {x : V} {hm : Option Key} {p : List Nat} {vs : List Value}, RepX Γ hm p x vs → ∀ k ∈ x.pks, Γ.ι k ≠ none
  | .ptr k0 q τ, _, _, _, h, k, hk => by
    simp only [V.pks, List.mem_singleton] at hk; subst hk
    simp only [RepX] at h
    obtain ⟨b, τ0, o, h1, _⟩ := h
    rw [h1]; simp
  | .mp k0, _, _, _, h, k, hk => by
    simp only [V.pks, List.mem_singleton] at hk; subst hk
    simp only [RepX] at h
    obtain ⟨b, h1, _⟩ := h
    rw [h1]; simp
  | .sr k0 q lo n (some c) eb e, _, _, _, h, k, hk => by
    simp only [V.pks, List.mem_singleton] at hk; subst hk
    simp only [RepX] at h
    rcases h with ⟨h, _⟩ | ⟨b, τ0, o, m, cap, h1, _⟩
    · cases h
    · rw [h1]; simp
  | .agg τ xs, _, _, _, h, k, hk => by
    simp only [V.pks] at hk
    simp only [RepX] at h
    exact pkss_rep h.2.2.2.2 k hk
  | .sr _ _ _ _ none _ _, _, _, _, _, k, hk | .d _ _, _, _, _, _, k, hk | .sl _ _ _ _, _, _, _, _, k, hk | .ts _ _ _, _, _, _, _, k, hk | .emp _ _, _, _, _, _, k, hk | .nilc, _, _, _, _, k, hk | .cptr _ _, _, _, _, _, k, hk | .fn _ _, _, _, _, _, k, hk | .tup _, _, _, _, _, k, hk | .top _, _, _, _, _, k, hk | .any, _, _, _, _, k, hk => by simp [V.pks] at hk
theorem pkss_rep {Γ : G} : ∀ {xs : List V} {hm : Option Key} {p : List Nat} {i : Nat} {τ : Ty} {vs : List Value}, RepXs Γ hm p i τ xs vs → ∀ k ∈ V.pkss xs, Γ.ι k ≠ none
  | [], _, _, _, _, _, _, k, hk => by simp [V.pkss] at hk
  | x :: xs, _, _, _, _, _, h, k, hk => by
    simp only [V.pkss, List.mem_append] at hk
    simp only [RepXs] at h
    obtain ⟨⟨o, f, _, _, _, h1⟩, h2⟩ := h
    rcases hk with hk | hk
    · exact pks_rep h1 k hk
    · exact pkss_rep h2 k hk
end
theorem pks_repV {Γ : G} {x : V} {v : Value} (h : RepV Γ x v) : ∀ k ∈ x.pks, Γ.ι k ≠ none := by
  cases x with
  | any => intro k hk; simp [V.pks] at hk
  | tup => intro k hk; simp [V.pks] at hk
  | _ => exact pks_rep h.1
theorem pkss_mem : ∀ {xs : List V} {k : Key}, k ∈ V.pkss xs → ∃ x ∈ xs, k ∈ x.pks
  | [], _, h => by simp [V.pkss] at h
  | x :: xs, k, h => by
    simp only [V.pkss, List.mem_append] at h
    rcases h with h | h
    · exact ⟨x, by simp, h⟩
    · obtain ⟨y, h1, h2⟩ := pkss_mem h
      exact ⟨y, by simp [h1], h2⟩
theorem lookK_obj {s : S} {k : Key} {o : O} (h : lookK s.loc k = some o) : s.obj k = some o := by
  unfold S.obj objOf; rw [h]
theorem lookK_mem' : ∀ {l : List (Key × O)} {k : Key} {o : O}, lookK l k = some o → (k, o) ∈ l
  | [], _, _, h => by simp [lookK] at h
  | (j, x) :: l, k, o, h => by
    simp only [lookK] at h
    split at h
    · rename_i e; subst e; cases h; exact List.mem_cons_self ..
    · exact List.mem_cons_of_mem _ (lookK_mem' h)
theorem reachO_ok {s' base : S} (hc : Compat s' s base) (c : Conc Γ w s') : ∀ (n : Nat) (ks : List Key), (∀ k ∈ ks, Γ.ι k ≠ none) → ∀ p ∈ reachO n s.loc ks, s'.obj p.1 = some p.2
  | 0, _, _, p, hp => by simp [reachO] at hp
  | n + 1, ks, hk, p, hp => by
    simp only [reachO, List.mem_flatMap] at hp
    obtain ⟨k, h1, hp⟩ := hp
    split at hp
    · rename_i o ho
      have hs : s'.obj k = some o := hc.getObj c (hk k h1) (lookK_obj ho)
      rcases List.mem_cons.1 hp with rfl | hp
      · exact hs
      · cases o with
        | box x =>
          have hks : ∀ k ∈ x.pks, Γ.ι k ≠ none := by
            rcases c.obj k _ hs with ⟨_, e, hv⟩ | ⟨b, cells, T, _, _, _, _, _, hr, _⟩
            · subst hv; intro k hk; simp [V.pks] at hk
            · exact pks_rep hr
          exact reachO_ok hc c n x.pks hks p hp
        | _ => simp at hp
    · simp at hp
theorem see_ok {s' base : S} (hc : Compat s' s base) (c : Conc Γ w s') {xs : List V} (hx : ∀ x ∈ xs, ∃ v, RepV Γ x v) {k : Key} {o : O} (h : (base.see s xs).obj k = some o) : s'.obj k = some o := by
  unfold S.obj S.see objOf at h
  simp only [lookK_append] at h
  cases hl : lookK (reachO 3 s.loc (V.pkss xs)) k with
  | some o' =>
    rw [hl] at h
    cases h
    refine reachO_ok hc c 3 (V.pkss xs) (fun k hk => ?_) (k, o) (lookK_mem' hl)
    obtain ⟨x, h1, h2⟩ := pkss_mem hk
    obtain ⟨v, hv⟩ := hx x h1
    exact pks_repV hv k h2
  | none =>
    rw [hl] at h
    exact hc.base k o h
theorem allDV_get : ∀ {l : List V} {i : Nat} {x : V}, allDV l = true → l[i]? = some x → ∃ τ c, x = .d τ c
  | [], i, x, _, h => by simp at h
  | y :: l, 0, x, hl, h => by
    simp only [allDV, Bool.and_eq_true] at hl
    simp at h; subst h
    cases y <;> simp at hl
    exact ⟨_, _, rfl⟩
  | y :: l, i + 1, x, hl, h => by
    simp only [allDV, Bool.and_eq_true] at hl
    exact allDV_get hl.2 (by simpa using h)
theorem snap_ok {s' base : S} (hc : Compat s' s base) (c : Conc Γ w s') {gl : Nat → Option (Ty × C)} {x : V} {v : Value} (hr : RepV Γ x v) (hd : ∃ τ cc, snapV s x = .d τ cc) : RepV (G.froz w gl) (snapV s x) v := by
  obtain ⟨τ, cc, hd⟩ := hd
  rw [hd]
  cases x <;> first
    | exact snap_rep (s := s') c gl hr hd
    | (simp only [snapV] at hd
       split at hd
       · rename_i he
         cases hd
         obtain ⟨x', h1, _, h2⟩ := elemsOf_compat hc c hr he
         exact elems_froz c gl h1 h2
       · cases hd)
theorem iop_sound (hP : allOk X.P = true) {md : List (Nat × Nat)} {base : S} {dst : Nat} {o : Oper} {ρa : Operand → V} {K : V → List (Key × O) → List (Nat × Option Nat) → Prop} (h : iop X md base dst o ρa s K) :
    ∃ v lo tn, K v lo tn ∧ IDoes X base o ρa s v lo tn := by
  have viaPv : (pv X.P o.op ρa fun y => K y [] []) → ∃ v lo tn, K v lo tn ∧ IDoes X base o ρa s v lo tn := by
    intro h
    obtain ⟨v, hK, hd⟩ := does_pv hP h
    exact ⟨v, [], [], hK, fun Γ w a s' _ c _ _ hr => hd Γ w a s' c hr⟩
  unfold iop at h
  split at h
  · -- load
    rename_i T x ho
    split at h
    · split at h
      · rename_i k q τ hx
        split at h
        · rename_i y hobj
          unfold subP at h
          split at h
          · rename_i y0 t0 M e cc m e' hat ht
            obtain ⟨hq, rfl, rfl, hk, hlo, hK⟩ := h
            refine ⟨_, _, _, hK, fun Γ w a s' _ c hc _ hr => ?_⟩
            have hxr := hr x (by rw [ho]; simp [Op.operands])
            rw [hx] at hxr
            obtain ⟨b, τ0, o0, hι, _⟩ := repV_ptr hxr
            have hq2 : q = q.dropLast ++ [q.getLastD 0] := by
              rw [List.getLastD_eq_getLast?, List.getLast?_eq_some_getLast hq, Option.getD_some]
              exact (List.dropLast_concat_getLast hq).symm
            rw [hq2] at hxr
            obtain ⟨u, r1, r2⟩ := load_sub (T := T) hP c hxr (hc.getObj c (by rw [hι]; simp) hobj) hat ht hk hlo
            exact Does.val (by unfold execOp; simp [ho, r1]) (Post.same c r2)
          · exact h.elim
        · exact h.elim
      · exact h.elim
    split at h
    · rename_i k q τ hx
      split at h
      · rename_i y hobj
        obtain ⟨h1, h2, h3, hK⟩ := h
        refine ⟨_, _, _, hK, fun Γ w a s' _ c hc _ hr => ?_⟩
        have hxr := hr x (by rw [ho]; simp [Op.operands])
        rw [hx] at hxr
        obtain ⟨b, τ0, o0, hι, _⟩ := repV_ptr hxr
        obtain ⟨u, r1, r2⟩ := load_ptr (T := T) hP c hxr (hc.getObj c (by rw [hι]; simp) hobj) h1 h2 h3
        exact Does.val (by unfold execOp; simp [ho, r1]) (Post.same c r2)
      · exact h.elim
    · rename_i τ cc hx
      obtain ⟨h2, h3, hK⟩ := h
      refine ⟨_, _, _, hK, fun Γ w a s' _ c hc _ hr => ?_⟩
      have hxr := hr x (by rw [ho]; simp [Op.operands])
      rw [hx] at hxr
      obtain ⟨u, r1, r2⟩ := load_cptr (T := T) hP c hxr h2 h3
      exact Does.val (by unfold execOp; simp [ho, r1]) (Post.same c r2)
    · exact h.elim
  · rename_i T ho
    obtain ⟨h1, hK⟩ := h
    exact ⟨_, _, _, hK, fun Γ w a s' _ c _ hf _ => do_alloc c ho (hf.l _ _ (lookK_cons_same _ _ _)) h1⟩
  · rename_i T x ho
    split at h
    · obtain ⟨h1, h⟩ := h
      split at h
      · rename_i cc hcc
        exact ⟨_, _, _, h, fun Γ w a s' _ c _ hf hr => do_boxF c ho (hr x (by rw [ho]; simp [Op.operands])) h1 hcc⟩
      · exact h.elim
    · obtain ⟨h1, h2, hK⟩ := h
      exact ⟨_, _, _, hK, fun Γ w a s' _ c _ hf hr => do_box c ho (hf.l _ _ (lookK_cons_same _ _ _)) (hr x (by rw [ho]; simp [Op.operands])) h1 h2⟩
  · -- buildSlice
    rename_i t len parts ho
    split at h
    · rename_i eb e ht
      split at h
      · obtain ⟨h1, hK⟩ := h
        have hp0 : parts = #[] := by apply Array.eq_empty_of_size_eq_zero; simpa using h1
        subst hp0
        exact ⟨_, _, _, hK, fun Γ w a s' _ c _ _ _ => do_buildSlice0 hP c ho ht⟩
      · rename_i len
        obtain ⟨h1, h2, h3, h4, h5, h⟩ := h
        split at h
        · rename_i cs hcs
          obtain ⟨h6, hK⟩ := h
          obtain ⟨l1, l2⟩ := closeVs_get hcs
          have hl : cs.length = len + 1 := by rw [l1]; have := congrArg List.length h5; simpa using this
          have key : ∀ (Γ : G) (w : World) (a : Act) (s' : S), Γ.gl = X.gl → Conc Γ w s' → (∀ y ∈ o.op.operands, RepV Γ (ρa y) (a.eval y)) → ∀ (i : Nat) (x : Nat × Operand) (cc : C), parts.toList[i]? = some x → cs[i]? = some cc → RepV Γ (.d e cc) (a.eval x.2) := by
            intro Γ w a s' _ c hr i x cc hx hcc
            have hxm : (parts.toList.map fun x => ρa x.2)[i]? = some (ρa x.2) := by simp only [List.getElem?_map, hx]; rfl
            obtain ⟨t1, t2⟩ := h6 _ (List.mem_of_getElem? hxm)
            have hmem : x ∈ parts.toList := List.mem_of_getElem? hx
            have hrx := hr x.2 (by rw [ho]; simp only [Op.operands]; exact List.mem_toArray.2 (List.mem_map.2 ⟨x, hmem, rfl⟩))
            obtain ⟨q1, q2⟩ := (repV_plain t2).1 hrx
            have := closeV_rep _ q1 (l2 i _ cc hxm hcc)
            rw [t1] at this q2
            exact repV_d.2 ⟨this, q2⟩
          split at hK
          · exact ⟨_, _, _, hK, fun Γ w a s' hg c _ hf hr => do_buildSliceT hP c (hf.t _ _ (look_cons_same _ _ _)) ho ht h1 (by omega) h2 h3 h4 h5 hl (key Γ w a s' hg c hr)⟩
          · exact ⟨_, _, _, hK, fun Γ w a s' hg c _ _ hr => do_buildSlice hP c ho ht h1 (by omega) h2 h3 h4 h5 hl (key Γ w a s' hg c hr)⟩
        · exact h.elim
    · exact h.elim
  · -- build
    rename_i T parts ho
    obtain ⟨h1, h2, h3, h4, hK⟩ := h
    refine ⟨_, _, _, hK, fun Γ w a s' _ c _ _ hr => ?_⟩
    obtain ⟨u, r1, r2⟩ := do_build (Γ := Γ) (w := w) (ev := a.eval) hP h1 h2 h3 (fun p hp => hr p.2 (by rw [ho]; simp only [Op.operands]; exact List.mem_toArray.2 (List.mem_map.2 ⟨p, hp, rfl⟩))) h4
    refine Does.val (v := u) (w' := w) ?_ (Post.same c r2)
    unfold execOp
    simp only [ho, Sem.run_bind, r1, Result.andThen_ok, Sem.run_pure]
  · -- makeSlice
    rename_i t l cp ho
    split at h
    · rename_i eb e ht
      obtain ⟨h1, h2, h3, h4, h5, h6, h7, h8, hK⟩ := h
      refine ⟨_, _, _, hK, fun Γ w a s' _ c _ hf hr => ?_⟩
      obtain ⟨k1, e1⟩ := anyInt h2 (hr l (by rw [ho]; simp [Op.operands]))
      obtain ⟨k2, e2⟩ := anyInt h3 (hr cp (by rw [ho]; simp [Op.operands]))
      exact do_makeSlice (L := ρa l) (Cp := ρa cp) (k1 := k1) (k2 := k2) (nl := (ρa l).toInt.toNat) (nc := (ρa cp).toInt.toNat) hP c ho ht h1 (hf.l _ _ (lookK_cons_same _ _ _)) (by rw [e1, Int.toNat_of_nonneg h4]) (by rw [e2, Int.toNat_of_nonneg (by omega)]) (by omega) (by unfold maxLen; omega) h7 h8 (fun c h => by split at h <;> cases h; rfl)
    · exact h.elim
  · -- makeMap
    rename_i T r ho
    split at h
    · rename_i kt et hT
      exact ⟨_, _, _, h, fun Γ w a s' _ c _ hf _ => do_makeMap c ho (hf.l _ _ (lookK_cons_same _ _ _))⟩
    · exact h.elim
  · -- lookup
    rename_i T x i ok ho
    split at h
    · rename_i kt et k hT hx
      split at h
      · rename_i kτ vτ es hobj
        obtain ⟨rfl, h1, h2, h3, hK⟩ := h
        refine ⟨_, _, _, hK, fun Γ w a s' _ c hc _ hr => ?_⟩
        have hxr := hr x (by rw [ho]; simp [Op.operands])
        rw [hx] at hxr
        obtain ⟨b, hι, _⟩ := repV_mp hxr
        have hir := hr i (by rw [ho]; simp [Op.operands])
        have hd : ρa i = .d (ty X.P kt) (ρa i).toC := by
          cases hi : ρa i <;> simp [hi, V.isData] at h3
          subst h3; rfl
        rw [hd] at hir
        have := do_lookup hP c ho hT hxr hir (hc.getObj c (by rw [hι]; simp) hobj) h1 h2
        exact this
      · exact h.elim
    · exact h.elim
  · -- calls
    rename_i cl ho
    obtain ⟨callee, args, ts⟩ := cl
    split at h
    · rename_i fo hfo
      simp only at hfo h
      subst hfo
      split at h
      · rename_i f caps hf
        rcases h with ⟨h1, h2, b, v, L, hB, D, hL, hK⟩ | ⟨rfl, v, E, hK⟩ | ⟨rfl, h1, v, hx, D, hv, hK⟩
        rotate_left
        · refine ⟨_, _, _, hK, fun Γ w a s' hgl c hc hfr hr => ?_⟩
          have hrf := hr fo (by rw [ho]; simp [Op.operands, Call.operands])
          rw [hf] at hrf
          obtain ⟨cv, hfv, hcl, _⟩ := repV_fn hrf
          have hcv : cv = #[] := by apply Array.eq_empty_of_size_eq_zero; simpa using hcl.symm
          subst hcv
          obtain ⟨u, e1, e2⟩ := E Γ w (args.map a.eval) (by simp) fun i x u hx hu => by
            simp only [List.getElem?_map, Array.getElem?_map] at hx hu
            cases hy : args[i]? with
            | none => rw [hy] at hu; cases hu
            | some y =>
              have hy' : args.toList[i]? = some y := by simpa using hy
              rw [hy] at hu; rw [hy'] at hx
              cases hu; cases hx
              exact hr y (by rw [ho]; simp only [Op.operands, Call.operands]; exact Array.mem_append_right _ (Array.mem_of_getElem? hy))
          refine Does.val (v := u) (w' := w) ?_ (Post.same c e2)
          unfold execOp
          simp [ho, resolve, hfv, Deferred.ofValue, invoke, e1]
        · refine ⟨_, _, _, hK, fun Γ w a s' hgl c hc hfr hr => ?_⟩
          have hrf := hr fo (by rw [ho]; simp [Op.operands, Call.operands])
          rw [hf] at hrf
          refine do_pure hgl c ho h1 hrf (by simp) (fun i x y hx' hy => ?_) hx D hv
          simp only [List.getElem?_map] at hx'
          have hx2 := hx'
          rw [hy] at hx'
          cases hx'
          refine snap_ok hc c (hr y (by rw [ho]; simp only [Op.operands, Call.operands]; exact Array.mem_append_right _ (Array.mem_toList_iff.1 (List.mem_of_getElem? hy)))) (allDV_get hx (i := i) ?_)
          simp only [List.getElem?_map]
          exact hx2
        refine ⟨_, _, _, hK, fun Γ w a s' hgl c hc hfr hr => ?_⟩
        have hrf := hr fo (by rw [ho]; simp [Op.operands, Call.operands])
        rw [hf] at hrf
        rw [argsOf_false s s'] at D
        have hbb : ∀ k o, b.obj k = some o → s'.obj k = some o := by
          intro k ob hk
          rcases hB with rfl | rfl
          · exact hc.base k ob hk
          · refine see_ok hc c (fun x hx => ?_) hk
            simp only [callArgs, List.mem_append, List.mem_map] at hx
            rcases hx with ⟨y, hy, rfl⟩ | hx
            · exact ⟨_, hr y (by rw [ho]; simp only [Op.operands, Call.operands]; exact Array.mem_append_right _ (Array.mem_toList_iff.1 hy))⟩
            · obtain ⟨cv, _, q1, q2⟩ := repV_fn hrf
              obtain ⟨i, hi⟩ := List.mem_iff_getElem?.1 hx
              have hlt : i < cv.toList.length := by rw [← q1]; exact (List.getElem?_eq_some_iff.1 hi).1
              exact ⟨_, q2 i x _ hi (List.getElem?_eq_getElem hlt)⟩
        have := do_call (tip := false) (A := b.up) (d := dst) rfl hgl c ho h1 h2 hrf (fun y hy => hr y (by rw [ho]; simp only [Op.operands, Call.operands]; exact Array.mem_append_right _ (Array.mem_toList_iff.1 hy))) (by rw [passed_false]; rfl) D
          (fun k o hk => by
            simp only [S.up] at hk ⊢
            cases hb : b.obj k with
            | none => simp [hb] at hk
            | some ob => rw [hbb k ob hb]; rw [hb] at hk; exact hk)
          (fun k o hk => (onlyL_look hL hk).elim) (fun j o hj => hfr.l _ _ (onlyL_dn dst hL hj)) (fun m x hm => hfr.t _ x (by rw [look_dnT_rk]; exact hm))
        have e : S.back s' false (callArgs (args.toList.map ρa) caps) dst v L = s'.add (dnL dst L) (dnT dst (v.tkR 2000)) := by
          simp [S.back, S.add, passed_false, deadN]
        rw [← e]
        exact this
      · exact h.elim
    · rename_i hb
      simp only at hb h
      subst hb
      split at h
      · rename_i x y t t' hargs hts
        have hargs' : args = #[x, y] := by cases args; simpa using hargs
        have hts' : ts = #[t, t'] := by cases ts; simpa using hts
        subst hargs'; subst hts'
        obtain ⟨h1, h⟩ := h
        split at h
        · rename_i eb e eb0 e0 ht hx
          obtain ⟨ys, hK, hs⟩ := srcK_spec hP h
          split at hK
          · obtain ⟨hne, hK⟩ := hK
            refine ⟨_, _, _, hK, fun Γ w a s' _ c hc hf hr => ?_⟩
            have hyr := hr y (by rw [ho]; simp [Op.operands, Call.operands])
            have hxr := hr x (by rw [ho]; simp [Op.operands, Call.operands])
            obtain ⟨Y', hyr', hs'⟩ := srcOf_compat hc c hyr hs
            exact do_append_arr hP c ho ht h1 (hf.l _ _ (lookK_cons_same _ _ _)) hxr (.inr ⟨_, _, hx⟩) hyr' hs' hne
          · refine ⟨_, _, _, hK, fun Γ w a s' _ c hc hf hr => ?_⟩
            have hyr := hr y (by rw [ho]; simp [Op.operands, Call.operands])
            have hxr := hr x (by rw [ho]; simp [Op.operands, Call.operands])
            obtain ⟨Y', hyr', hs'⟩ := srcOf_compat hc c hyr hs
            exact do_append_fresh hP c ho ht h1 (hf.t dst _ (look_cons_same _ _ _)) hxr (.inr ⟨_, _, hx⟩) hyr' hs'
        · rename_i eb e ht hx
          obtain ⟨ys, hK, hs⟩ := srcK_spec hP h
          split at hK
          · obtain ⟨hne, hK⟩ := hK
            refine ⟨_, _, _, hK, fun Γ w a s' _ c hc hf hr => ?_⟩
            have hyr := hr y (by rw [ho]; simp [Op.operands, Call.operands])
            have hxr := hr x (by rw [ho]; simp [Op.operands, Call.operands])
            obtain ⟨Y', hyr', hs'⟩ := srcOf_compat hc c hyr hs
            exact do_append_arr hP c ho ht h1 (hf.l _ _ (lookK_cons_same _ _ _)) hxr (.inl hx) hyr' hs' hne
          · refine ⟨_, _, _, hK, fun Γ w a s' _ c hc hf hr => ?_⟩
            have hyr := hr y (by rw [ho]; simp [Op.operands, Call.operands])
            have hxr := hr x (by rw [ho]; simp [Op.operands, Call.operands])
            obtain ⟨Y', hyr', hs'⟩ := srcOf_compat hc c hyr hs
            exact do_append_fresh hP c ho ht h1 (hf.t dst _ (look_cons_same _ _ _)) hxr (.inl hx) hyr' hs'
        · exact h.elim
      · exact h.elim
    · rename_i hb
      simp only at hb h
      subst hb
      split at h
      · rename_i x T hargs hts
        have hargs' : args = #[x] := by cases args; simpa using hargs
        have hts' : ts = #[T] := by cases ts; simpa using hts
        subst hargs'; subst hts'
        split at h
        · rename_i k hx
          split at h
          · rename_i pr kτ vτ es hT hobj
            obtain ⟨h1, hK⟩ := h
            refine ⟨_, _, _, hK, fun Γ w a s' _ c hc _ hr => ?_⟩
            have hxr := hr x (by rw [ho]; simp [Op.operands, Call.operands])
            rw [hx] at hxr
            obtain ⟨b, hι, _⟩ := repV_mp hxr
            exact do_lenMap c ho (kt := pr.1) (et := pr.2) hT hxr (hc.getObj c (by rw [hι]; simp) hobj) h1
          · exact h.elim
        · exact viaPv h
      · exact viaPv h
    · exact viaPv h
  · -- a string of bytes
    rename_i src dst' x ho
    split at h
    · rename_i ys hys
      refine ⟨_, _, _, h, fun Γ w a s' _ c hc _ hr => ?_⟩
      have hxr := hr x (by rw [ho]; simp [Op.operands])
      obtain ⟨Y', hxr', hys'⟩ := strOf_compat hc c hxr hys
      exact do_strOf hP c ho hys' hxr'
    · exact viaPv h
  · exact viaPv h
end
end Go.E


namespace Go.E
open Go

def C.isNil : C → Bool
  | .nil => true
  | _ => false
def isNilC : Operand → Bool
  | .const .nilIface => true
  | _ => false
def byOf (P : Program) (src dst : TypeId) (x : V) : Option (List C) :=
  match ty P src, ty P dst with
  | .str, .slice eb e => if e.isU8 = true ∧ eb = 1 then (match x with
    | .d .str c => some (c.toStr.map fun b => C.int b.toNat)
    | _ => none) else none
  | _, _ => none
def concT (P : Program) (T : TypeId) : Bool :=
  match ty P T with
  | .iface | .opq _ => false
  | _ => true
noncomputable def fop (X : Cx) (o : Oper) (ρ : Operand → V) (K : V → Prop) : Prop :=
  match o.op with
  | .convert src dst x => (match byOf X.P src dst (ρ x) with
    | some ys => K (.d (.slice 1 (.int .u8)) (.slice ys))
    | none => False)
  | .makeInterface T _ => concT X.P T = true ∧ K (.d .iface (.bool true))
  | .binOp op T x y _ => isNilC y = true ∧ ty X.P T = .iface ∧ (match op, ρ x with
    | .eql, .d .iface c => K (.d .bool (.bool c.isNil))
    | .neq, .d .iface c => K (.d .bool (.bool (!c.isNil)))
    | _, _ => False)
  | _ => False
noncomputable def sl3 (X : Cx) (md : List (Nat × Nat)) (dst : Nat) (o : Oper) (ρ : Operand → V) (s : S) (K : V → S → Prop) : Prop :=
  match o.op with
  | .slice T x lo hi mx => modeOf md dst = 4 ∧ s.known dst = false ∧ hi.isSome = true ∧ mx.isSome = true ∧ (match ty X.P T with
    | .slice eb e => (match (ρ x).asSl with
      | some (eb', e', cs) => eb' = eb ∧ e' = e ∧ (match boundI (lo.map ρ) 0, boundI (hi.map ρ) 0, boundI (mx.map ρ) 0 with
        | some l, some h, some m => l = 0 ∧ 0 ≤ h ∧ h = m ∧ m ≤ cs.length ∧ K (.sl eb e (cs.take h.toNat) dst) { s with tk := (dst, some (cs.take h.toNat).length) :: s.tk }
        | _, _, _ => False)
      | none => False)
    | _ => False)
  | _ => False
section
variable {X : Cx} {Γ : G} {w : World} {s : S}
theorem under_iface {P : Program} {f : Nat} {T : TypeId} (h : tyF P (f + 1) T = .iface) : ∃ ms, P.underlying T = some (.interface ms) := by
  unfold tyF at h
  split at h
  · cases hu : P.underlying T with
    | none => simp [hu] at h
    | some d => cases d <;> simp [hu] at h ⊢
  · cases h
theorem under_conc {P : Program} {T : TypeId} (h : concT P T = true) : ∃ d, P.underlying T = some d ∧ ∀ ms, d ≠ .interface ms := by
  unfold concT ty tyF at h
  split at h
  · cases h
  · cases h
  · rename_i h1 h2
    split at h1
    · cases hu : P.underlying T with
      | none => simp [hu] at h2
      | some d => exact ⟨d, rfl, fun ms e => by subst e; simp [hu] at h1⟩
    · rename_i hn
      simp [hn] at h2
theorem repV_iface {c : C} {v : Value} (h : RepV Γ (.d .iface c) v) : (c = .nil ∧ v = .nilIface) ∨ (c = .bool true ∧ ∃ t u, v = .iface t u) := by
  obtain ⟨h1, h2⟩ := repV_d.1 h
  rw [cells_of_plain (by simpa [Ty.isAgg] using h2)] at h1
  simp only [RepC] at h1
  rcases h1 with ⟨rfl, h1⟩ | ⟨rfl, t, u, h1⟩
  · simp at h1; exact .inl ⟨rfl, h1⟩
  · simp at h1; exact .inr ⟨rfl, t, u, h1⟩
theorem run_equal_iface {P : Program} {T : TypeId} {ms : Array (String × TypeId)} (hu : P.underlying T = some (.interface ms)) {v : Value} (hv : v = .nilIface ∨ ∃ t u, v = .iface t u) (w : World) :
    (Op.equal T v .nilIface).run P w = .ok (match v with | .nilIface => true | _ => false) w := by
  unfold Op.equal Op.maxDepth
  rw [show (10000 : Nat) = 9999 + 1 from rfl, Op.equalIn, Sem.run_bind, run_underlying hu]
  rcases hv with rfl | ⟨t, u, rfl⟩ <;> rfl
theorem run_nilTest {P : Program} {T : TypeId} {ms : Array (String × TypeId)} (hu : P.underlying T = some (.interface ms)) {x y : Operand} (hy : isNilC y = true) {v : Value} (hv : v = .nilIface ∨ ∃ t u, v = .iface t u) (w : World) :
    ((do eqGuard .eql T x y v .nilIface; binOp .eql T v .nilIface) : Sem Value).run P w = .ok (.bool (match v with | .nilIface => true | _ => false)) w ∧
    ((do eqGuard .neq T x y v .nilIface; binOp .neq T v .nilIface) : Sem Value).run P w = .ok (.bool (!(match v with | .nilIface => true | _ => false))) w := by
  obtain ⟨z, rfl⟩ : ∃ z, y = .const z := by
    cases y with
    | const z => exact ⟨z, rfl⟩
    | _ => simp [isNilC] at hy
  have he := run_equal_iface hu hv w
  rcases hv with rfl | ⟨t, u, rfl⟩
  · constructor
    · rw [eqGuard_nil_constR]
      show (do pure (.bool (← Op.equal T .nilIface .nilIface)) : Sem Value).run P w = _
      rw [Sem.run_bind, he]; rfl
    · rw [eqGuard_nil_constR]
      show (do pure (.bool (!(← Op.equal T .nilIface .nilIface))) : Sem Value).run P w = _
      rw [Sem.run_bind, he]; rfl
  · constructor
    · show (do pure (.bool (← Op.equal T (.iface t u) .nilIface)) : Sem Value).run P w = _
      rw [Sem.run_bind, he]; rfl
    · show (do pure (.bool (!(← Op.equal T (.iface t u) .nilIface))) : Sem Value).run P w = _
      rw [Sem.run_bind, he]; rfl
theorem do_byOf {P : Program} (hP : allOk P = true) (c : Conc Γ w s) {o : Oper} {a : Act} {src dst : TypeId} {x : Operand} (ho : o.op = .convert src dst x) {Y : V} {ys : List C} (h : byOf P src dst Y = some ys)
    (hr : RepV Γ Y (a.eval x)) : Does P o a w (Post Γ w s (.d (.slice 1 (.int .u8)) (.slice ys))) := by
  unfold byOf at h
  split at h
  · rename_i eb e hs ht
    obtain ⟨E, hu, hE, _, _⟩ := ty_slice hP ht
    have hs' := ty_str hs
    split at h
    · rename_i hc0
      obtain ⟨h0, rfl⟩ := hc0
      obtain rfl := Ty.isU8_eq h0
      have hEu : P.underlying E = some (.int .u8) := under_int hE.symm
      split at h
      · rename_i cc
        cases h
        obtain ⟨hv, _, hl⟩ := repV_str hr
        have run := run_bytes_of_string (P := P) w src dst E ⟨cc.toStr.toArray⟩ hs' hu hEu
        have hsz : (⟨cc.toStr.toArray⟩ : ByteArray).size = cc.toStr.length := by simp [ByteArray.size]
        rw [hsz] at run
        have hge := grownCap_ge w cc.toStr.length 0 E
        have hcm := grownCap_le_maxLen w cc.toStr.length 0 E (by unfold maxLen; omega)
        generalize grownCap w cc.toStr.length 0 E = cap at run hge hcm
        have hrow : (bytesRow ⟨cc.toStr.toArray⟩ cap).toList = cc.toStr.map (fun b => Value.int .u8 b.toNat) ++ (List.replicate (cap - cc.toStr.length) (Value.int .u8 0)) := by
          simp [bytesRow, hsz]
        have hext : Ext w (w.drew.alloc (.cells (bytesRow ⟨cc.toStr.toArray⟩ cap) E ((bytesRow ⟨cc.toStr.toArray⟩ cap).size, (bytesRow ⟨cc.toStr.toArray⟩ cap).size + 1))) := (Ext.drew w).trans (Ext.alloc _ _)
        have hnew := heap_alloc_new w.drew (.cells (bytesRow ⟨cc.toStr.toArray⟩ cap) E ((bytesRow ⟨cc.toStr.toArray⟩ cap).size, (bytesRow ⟨cc.toStr.toArray⟩ cap).size + 1))
        obtain ⟨c1, p1, g1⟩ := c.addH hext hnew hrow
        refine Does.val (v := .slice (some ⟨w.heap.size, 0, none⟩) cc.toStr.length cap) (w' := w.drew.alloc (.cells (bytesRow ⟨cc.toStr.toArray⟩ cap) E ((bytesRow ⟨cc.toStr.toArray⟩ cap).size, (bytesRow ⟨cc.toStr.toArray⟩ cap).size + 1))) ?_ ⟨_, g1, p1, c1, ?_⟩
        · unfold execOp
          simp only [ho, hv, Sem.run_bind, run, Result.andThen_ok, Sem.run_pure]
        · refine repV_d.2 ⟨repC_mk_slice (by simp) hge hcm (by omega) (.inr ⟨w.heap.size, 0, _, rfl, updN_same _ _ _, by simp [Ty.size], fun i c' hi => ?_⟩), rfl⟩
          simp only [List.getElem?_map] at hi
          cases hb : cc.toStr[i]? with
          | none => rw [hb] at hi; cases hi
          | some b =>
            rw [hb] at hi
            cases hi
            have : chunk (cc.toStr.map (fun b => Value.int .u8 b.toNat)) (0 + i * (Ty.int IntKind.u8).size) (Ty.int IntKind.u8).size = [.int .u8 b.toNat] := by
              apply List.ext_getElem?
              intro j
              rw [chunk_getElem?]
              by_cases hj : j < 1
              · have : j = 0 := by omega
                subst this
                simp [Ty.size, hb]
              · simp [Ty.size, hj]
            rw [this]
            simp only [RepC]
            refine ⟨_, rfl, rfl, ?_, ?_⟩
            · have : IntKind.u8.min = 0 := by decide
              omega
            · have : IntKind.u8.max = 255 := by decide
              have := b.toNat_lt
              omega
      · cases h
    · cases h
  · cases h
theorem fop_sound (hP : allOk X.P = true) {o : Oper} {ρ : Operand → V} {K : V → Prop} (h : fop X o ρ K) :
    ∃ v, K v ∧ ∀ (Γ : G) (w : World) (a : Act) (s : S), Conc Γ w s → (∀ y ∈ o.op.operands, RepV Γ (ρ y) (a.eval y)) → Does X.P o a w (Post Γ w s v) := by
  unfold fop at h
  split at h
  · rename_i src dst x ho
    split at h
    · rename_i ys hys
      exact ⟨_, h, fun Γ w a s c hr => do_byOf hP c ho hys (hr x (by rw [ho]; simp [Op.operands]))⟩
    · exact h.elim
  · rename_i T x ho
    obtain ⟨h1, hK⟩ := h
    obtain ⟨d, hd, hni⟩ := under_conc h1
    refine ⟨_, hK, fun Γ w a s c hr => Does.val (v := .iface T (a.eval x)) (w' := w) ?_ (Post.same c (repV_d.2 ⟨?_, rfl⟩))⟩
    · unfold execOp
      simp only [ho, Sem.run_bind, Instr.makeInterface, run_underlying hd]
      cases d <;> first
        | exact absurd rfl (hni _)
        | simp [Sem.run_pure, Result.andThen]
    · simp only [Value.cells, RepC]
      exact .inr ⟨trivial, _, _, rfl⟩
  · rename_i op T x y yT ho
    obtain ⟨hy, hT, h⟩ := h
    obtain ⟨ms, hu⟩ := under_iface (f := 11) hT
    have hyv : ∀ a : Act, a.eval y = .nilIface := fun a => by
      cases y with
      | const z => cases z <;> simp [isNilC] at hy; rfl
      | _ => simp [isNilC] at hy
    split at h
    · rename_i cc hx
      refine ⟨_, h, fun Γ w a s c hr => ?_⟩
      have hxr := hr x (by rw [ho]; simp [Op.operands])
      rw [hx] at hxr
      rcases repV_iface hxr with ⟨rfl, hv⟩ | ⟨rfl, t, u, hv⟩
      · refine Does.val (v := .bool true) (w' := w) ?_ (Post.same c (repV_mk_bool))
        unfold execOp
        simp only [ho, hyv, hv]
        have := (run_nilTest (P := X.P) hu (x := x) hy (v := .nilIface) (.inl rfl) w).1
        simp only [Sem.run_bind] at this ⊢
        rw [this]
        rfl
      · refine Does.val (v := .bool false) (w' := w) ?_ (Post.same c (repV_mk_bool))
        unfold execOp
        simp only [ho, hyv, hv]
        have := (run_nilTest (P := X.P) hu (x := x) hy (v := .iface t u) (.inr ⟨_, _, rfl⟩) w).1
        simp only [Sem.run_bind] at this ⊢
        rw [this]
        rfl
    · rename_i cc hx
      refine ⟨_, h, fun Γ w a s c hr => ?_⟩
      have hxr := hr x (by rw [ho]; simp [Op.operands])
      rw [hx] at hxr
      rcases repV_iface hxr with ⟨rfl, hv⟩ | ⟨rfl, t, u, hv⟩
      · refine Does.val (v := .bool false) (w' := w) ?_ (Post.same c (repV_mk_bool))
        unfold execOp
        simp only [ho, hyv, hv]
        have := (run_nilTest (P := X.P) hu (x := x) hy (v := .nilIface) (.inl rfl) w).2
        simp only [Sem.run_bind] at this ⊢
        rw [this]
        rfl
      · refine Does.val (v := .bool true) (w' := w) ?_ (Post.same c (repV_mk_bool))
        unfold execOp
        simp only [ho, hyv, hv]
        have := (run_nilTest (P := X.P) hu (x := x) hy (v := .iface t u) (.inr ⟨_, _, rfl⟩) w).2
        simp only [Sem.run_bind] at this ⊢
        rw [this]
        rfl
    · exact h.elim
  · exact h.elim
theorem sl3_sound (hP : allOk X.P = true) {md : List (Nat × Nat)} {dst : Nat} {o : Oper} {ρa : Operand → V} {K : V → S → Prop} (h : sl3 X md dst o ρa s K) :
    ∃ v s1, K v s1 ∧ s1.A = s.A ∧ s1.env = s.env ∧ ∀ (Γ : G) (w : World) (a : Act), Conc Γ w s → (∀ y ∈ o.op.operands, RepV Γ (ρa y) (a.eval y)) → Does X.P o a w (Post Γ w s1 v) := by
  unfold sl3 at h
  split at h
  · rename_i T x lo hi mx ho
    obtain ⟨_, hn, hhs, hms, h⟩ := h
    split at h
    · rename_i eb e ht
      obtain ⟨E, hu, rfl, _, hE⟩ := ty_slice hP ht
      split at h
      · rename_i eb' e' cs hx
        obtain ⟨rfl, rfl, h⟩ := h
        split at h
        · rename_i l hh m hl hhi hm
          obtain ⟨rfl, h0, rfl, h2, hK⟩ := h
          refine ⟨_, _, hK, rfl, rfl, fun Γ w a c hr => ?_⟩
          rw [ho] at hr
          have r1 := hr x (by simp [Op.operands])
          have r2 : ∀ y, lo = some y → RepV Γ (ρa y) (a.eval y) := fun y e => hr y (by subst e; simp [Op.operands])
          have r3 : ∀ y, hi = some y → RepV Γ (ρa y) (a.eval y) := fun y e => hr y (by subst e; simp [Op.operands])
          have r4 : ∀ y, mx = some y → RepV Γ (ρa y) (a.eval y) := fun y e => hr y (by subst e; simp [Op.operands])
          obtain ⟨ad, n, cap, hv, hcs, hnc, hcap, hb, hrep⟩ := repV_asSl r1 hx
          have hhn : hh.toNat ≤ n := by omega
          have b1 : lo.map a.eval = none ∧ (0 : Nat) = 0 ∨ ∃ k, lo.map a.eval = some (.int k ((0 : Nat) : Int)) := by
            rcases boundI_spec hl r2 with ⟨rfl, _⟩ | ⟨k, y, rfl, hy⟩
            · exact .inl ⟨rfl, rfl⟩
            · exact .inr ⟨k, hy⟩
          have b2 : ∃ k, hi.map a.eval = some (.int k (hh.toNat : Int)) := by
            rcases boundI_spec hhi r3 with ⟨rfl, _⟩ | ⟨k, y, rfl, hy⟩
            · cases hhs
            · exact ⟨k, by rw [hy, Int.toNat_of_nonneg h0]⟩
          have b3 : ∃ k, mx.map a.eval = some (.int k (hh.toNat : Int)) := by
            rcases boundI_spec hm r4 with ⟨rfl, _⟩ | ⟨k, y, rfl, hy⟩
            · cases hms
            · exact ⟨k, by rw [hy, Int.toNat_of_nonneg h0]⟩
          obtain ⟨km, b3⟩ := b3
          obtain ⟨c1, p1, g1⟩ := c.addTok hn (x := none) (L := (cs.take hh.toNat).length) (fun _ _ _ h => by cases h)
          have hlen : (cs.take hh.toNat).length = hh.toNat := by simp; omega
          have hcut := repC_cut hrep (Nat.zero_le hh.toNat) hhn
          have hrep' : RepC Γ.H (.slice eb' (tyF X.P 11 E)) [.slice (if hh.toNat = 0 then ad else ad.map (·.add (0 * (tyF X.P 11 E).size))) hh.toNat hh.toNat] (.slice (cs.take hh.toNat)) := by
            obtain ⟨a', n', cap', e1, _, e2, e3, e4, e5, e6⟩ := repC_slice hrep
            simp at e1
            obtain ⟨rfl, rfl, rfl⟩ := e1
            simp only [C.elems] at e2 e6
            refine repC_mk_slice hlen (Nat.le_refl _) (by omega) (Nat.le_trans (Nat.mul_le_mul_right _ hhn) hb) ?_
            by_cases hz : hh.toNat = 0
            · exact .inl hz
            · rcases e6 with e6 | ⟨b, off, ll, rfl, hb', hs', hc⟩
              · omega
              · refine .inr ⟨b, off, ll, ?_, hb', ?_, fun i c' hi => ?_⟩
                · rw [if_neg hz]
                  simp [Addr.add]
                · have : hh.toNat * (tyF X.P 11 E).size ≤ n * (tyF X.P 11 E).size := Nat.mul_le_mul_right _ hhn
                  omega
                · rw [List.getElem?_take] at hi
                  split at hi
                  · exact hc _ _ hi
                  · cases hi
          refine Does.val (v := .slice (if hh.toNat = 0 then ad else ad.map (·.add (0 * (tyF X.P 11 E).size))) hh.toNat hh.toNat) (w' := w) ?_ ⟨_, g1, p1, c1, (repV_one rfl rfl).2 ⟨?_, rfl⟩⟩
          · unfold execOp
            simp only [ho, hv, Instr.sliceAt, Sem.run_bind, run_underlying hu, Result.andThen_ok, Instr.slice, b3]
            rw [run_sliceBounds3 (n := n) (l := 0) (h := hh.toNat) (m := hh.toNat) b1 b2 (Nat.zero_le _) (Nat.le_refl _) (by omega)]
            simp [run_sizeF (f := 11) hP (w := w) hE]
          · simp only [RepX]
            refine ⟨_, hh.toNat, hh.toNat, rfl, hrep'.mono p1.1, none, _, by simp [G.addTok, updN], Nat.le_refl _, fun _ => rfl⟩
        · exact h.elim
      · exact h.elim
    · exact h.elim
  · exact h.elim
end
end Go.E


namespace Go.E
open Go

def hasK {α : Type} : List (Key × α) → Key → Bool
  | [], _ => false
  | (j, _) :: l, k => decide (j = k) || hasK l k
def replK {α : Type} : List (Key × α) → Key → α → List (Key × α)
  | [], _, _ => []
  | (j, x) :: l, k, y => if j = k then (j, y) :: l else (j, x) :: replK l k y
def putK {α : Type} (l : List (Key × α)) (k : Key) (y : α) : List (Key × α) := bif hasK l k then replK l k y else (k, y) :: l
def hasN {α : Type} : List (Nat × α) → Nat → Bool
  | [], _ => false
  | (j, _) :: l, k => decide (j = k) || hasN l k
def replN {α : Type} : List (Nat × α) → Nat → α → List (Nat × α)
  | [], _, _ => []
  | (j, x) :: l, k, y => if j = k then (j, y) :: l else (j, x) :: replN l k y
def putN {α : Type} (l : List (Nat × α)) (k : Nat) (y : α) : List (Nat × α) := bif hasN l k then replN l k y else (k, y) :: l
theorem lookK_repl {α : Type} : ∀ (l : List (Key × α)) (k : Key) (y : α) (j : Key), hasK l k = true → lookK (replK l k y) j = if k = j then some y else lookK l j
  | [], _, _, _, h => by simp [hasK] at h
  | (i, x) :: l, k, y, j, h => by
    simp only [replK]
    by_cases e : i = k
    · subst e; simp only [if_true, lookK]; by_cases e2 : i = j <;> simp [e2]
    · rw [if_neg e]
      simp only [lookK]
      have h' : hasK l k = true := by simpa [hasK, e] using h
      rw [lookK_repl l k y j h']
      by_cases e2 : i = j
      · subst e2; simp [fun h : k = i => e h.symm]; intro h; exact absurd h.symm e
      · simp [e2]
theorem lookK_put {α : Type} (l : List (Key × α)) (k : Key) (y : α) (j : Key) : lookK (putK l k y) j = if k = j then some y else lookK l j := by
  unfold putK
  cases h : hasK l k with
  | true => exact lookK_repl l k y j h
  | false => rfl
theorem look_repl {α : Type} : ∀ (l : List (Nat × α)) (k : Nat) (y : α) (j : Nat), hasN l k = true → look (replN l k y) j = if k = j then some y else look l j
  | [], _, _, _, h => by simp [hasN] at h
  | (i, x) :: l, k, y, j, h => by
    simp only [replN]
    by_cases e : i = k
    · subst e; simp only [if_true, look]; by_cases e2 : i = j <;> simp [e2]
    · rw [if_neg e]
      simp only [look]
      have h' : hasN l k = true := by simpa [hasN, e] using h
      rw [look_repl l k y j h']
      by_cases e2 : i = j
      · subst e2; simp; intro h; exact absurd h.symm e
      · simp [e2]
theorem look_put {α : Type} (l : List (Nat × α)) (k : Nat) (y : α) (j : Nat) : look (putN l k y) j = if k = j then some y else look l j := by
  unfold putN
  cases h : hasN l k with
  | true => exact look_repl l k y j h
  | false => rfl
def S.put (s : S) (k : Key) (o : O) : S := { s with loc := putK s.loc k o }
def S.tok (s : S) (t : Nat) (L : Option Nat) : S := { s with tk := putN s.tk t L }
def killT : List (Nat × List Nat) → S → S
  | [], s => s
  | (t, _) :: σ, s => killT σ (s.tok t none)
theorem obj_put (s : S) (k j : Key) (o : O) : (s.put k o).obj j = if k = j then some o else s.obj j := by
  simp only [S.put, S.obj, objOf, lookK_put]
  by_cases h : k = j
  · simp only [h, if_true]
  · simp only [if_neg h]
theorem live_tok (s : S) (t u : Nat) (L : Option Nat) : (s.tok t L).live u = if t = u then L else s.live u := by
  simp only [S.tok, S.live, liveT, look_put]
  by_cases h : t = u
  · subst h; simp only [if_true]; cases L <;> rfl
  · simp [h]
theorem known_tok (s : S) (t u : Nat) (L : Option Nat) : (s.tok t L).known u = (decide (t = u) || s.known u) := by
  simp only [S.tok, S.known, look_put]
  by_cases h : t = u
  · subst h; simp
  · simp [h]
theorem obj_kill : ∀ (σ : List (Nat × List Nat)) (s : S) (k : Key), (killT σ s).obj k = s.obj k
  | [], _, _ => rfl
  | (t, _) :: σ, s, k => by simp only [killT, obj_kill σ]; rfl
theorem live_kill : ∀ (σ : List (Nat × List Nat)) (s : S) (u : Nat), (killT σ s).live u = match look σ u with | some _ => none | none => s.live u
  | [], _, _ => rfl
  | (t, p) :: σ, s, u => by
    simp only [killT, live_kill σ, live_tok, look]
    by_cases h : t = u
    · subst h; simp; cases look σ t <;> rfl
    · simp [h]
theorem known_kill : ∀ (σ : List (Nat × List Nat)) (s : S) (u : Nat), s.known u = true → (killT σ s).known u = true
  | [], _, _, h => h
  | (t, p) :: σ, s, u, h => by
    simp only [killT]
    exact known_kill σ _ u (by rw [known_tok, h]; simp)
theorem known_kill2 : ∀ (σ : List (Nat × List Nat)) (s : S) (u : Nat), look σ u ≠ none → (killT σ s).known u = true
  | [], _, _, h => by simp [look] at h
  | (t, p) :: σ, s, u, h => by
    simp only [killT]
    by_cases e : t = u
    · subst e; exact known_kill σ _ t (by rw [known_tok]; simp)
    · exact known_kill2 σ _ u (by simpa [look, e] using h)

def putL (d : Nat) : List (Key × O) → S → S
  | [], s => s
  | (k, o) :: L, s => (putL d L s).put (dn d k) (o.ren (dn d))
def putT (d : Nat) : List (Nat × Option Nat) → S → S
  | [], s => s
  | (m, x) :: l, s => (putT d l s).tok (rk d m) x
def dieT : List Nat → S → S
  | [], s => s
  | t :: l, s => (dieT l s).tok t none
theorem obj_putL (d : Nat) : ∀ (L : List (Key × O)) (s : S) (k : Key), (putL d L s).obj k = match lookK (dnL d L) k with | some o => some o | none => s.obj k
  | [], _, _ => rfl
  | (j, o) :: L, s, k => by
    simp only [putL, obj_put, dnL, lookK, obj_putL d L s k]
    split <;> rfl
theorem tk_putL (d : Nat) : ∀ (L : List (Key × O)) (s : S), (putL d L s).tk = s.tk
  | [], _ => rfl
  | (j, o) :: L, s => by simp only [putL, S.put, tk_putL d L s]
theorem look_putT (d : Nat) : ∀ (l : List (Nat × Option Nat)) (s : S) (t : Nat), look (putT d l s).tk t = match look (dnT d l) t with | some x => some x | none => look s.tk t
  | [], _, _ => rfl
  | (m, x) :: l, s, t => by
    simp only [putT, S.tok, look_put, dnT, look, look_putT d l s t]
    split <;> rfl
theorem loc_putT (d : Nat) : ∀ (l : List (Nat × Option Nat)) (s : S), (putT d l s).loc = s.loc ∧ (putT d l s).A = s.A
  | [], _ => ⟨rfl, rfl⟩
  | (m, x) :: l, s => by simp only [putT, S.tok]; exact loc_putT d l s
theorem look_dieT : ∀ (l : List Nat) (s : S) (t : Nat), look (dieT l s).tk t = match look (deadN l) t with | some x => some x | none => look s.tk t
  | [], _, _ => rfl
  | m :: l, s, t => by
    simp only [dieT, S.tok, look_put, deadN, look, look_dieT l s t]
    split <;> rfl
theorem loc_dieT : ∀ (l : List Nat) (s : S), (dieT l s).loc = s.loc ∧ (dieT l s).A = s.A
  | [], _ => ⟨rfl, rfl⟩
  | m :: l, s => by simp only [dieT, S.tok]; exact loc_dieT l s
def S.ret (s : S) (tip : Bool) (ys : List V) (d : Nat) (v : V) (L : List (Key × O)) : S := putT d (v.tkR 2000) (dieT (passed tip s ys) (putL d L s))
theorem ret_obj (s : S) (tip : Bool) (ys : List V) (d : Nat) (v : V) (L : List (Key × O)) (k : Key) : (s.ret tip ys d v L).obj k = (s.back tip ys d v L).obj k := by
  have h1 := loc_putT d (v.tkR 2000) (dieT (passed tip s ys) (putL d L s))
  have h2 := loc_dieT (passed tip s ys) (putL d L s)
  have h3 := obj_putL d L s k
  unfold S.obj at h3 ⊢
  simp only [S.ret, h1.1, h1.2, h2.1, h2.2, h3]
  unfold objOf S.back
  simp only [lookK_append]
  cases lookK (dnL d L) k <;> rfl
theorem ret_tk (s : S) (tip : Bool) (ys : List V) (d : Nat) (v : V) (L : List (Key × O)) (t : Nat) : look (s.ret tip ys d v L).tk t = look (s.back tip ys d v L).tk t := by
  simp only [S.ret, look_putT, look_dieT, tk_putL, S.back, look_append]
  cases look (dnT d (v.tkR 2000)) t <;> cases look (deadN (passed tip s ys)) t <;> rfl

def gOk (s : S) (d : Nat) : List (Key × O) → Prop
  | [] => True
  | (.g k, _) :: L => (s.obj k).isSome = true ∧ gOk s d L
  | (.l j, _) :: L => s.obj (.l (rk d j)) = none ∧ gOk s d L
def tOk (s : S) (d : Nat) : List (Nat × Option Nat) → Prop
  | [] => True
  | (m, _) :: l => s.known (rk d m) = false ∧ tOk s d l
theorem gOk_g {s : S} {d : Nat} : ∀ {L : List (Key × O)} {k : Key} {o : O}, gOk s d L → lookK L (.g k) = some o → s.obj k ≠ none
  | [], _, _, _, h => by simp [lookK] at h
  | (.g j, o') :: L, k, o, hg, h => by
    simp only [lookK] at h
    split at h
    · rename_i e; cases e; have := hg.1; intro h'; rw [h'] at this; cases this
    · exact gOk_g hg.2 h
  | (.l j, o') :: L, k, o, hg, h => by simp [lookK] at h; exact gOk_g hg.2 h
theorem gOk_l {s : S} {d : Nat} : ∀ {L : List (Key × O)} {j : Nat} {o : O}, gOk s d L → lookK L (.l j) = some o → s.obj (.l (rk d j)) = none
  | [], _, _, _, h => by simp [lookK] at h
  | (.l i, o') :: L, j, o, hg, h => by
    simp only [lookK] at h
    split at h
    · rename_i e; cases e; exact hg.1
    · exact gOk_l hg.2 h
  | (.g i, o') :: L, j, o, hg, h => by simp [lookK] at h; exact gOk_l hg.2 h
theorem tOk_t {s : S} {d : Nat} : ∀ {l : List (Nat × Option Nat)} {m : Nat} {x : Option Nat}, tOk s d l → look l m = some x → s.known (rk d m) = false
  | [], _, _, _, h => by simp [look] at h
  | (i, y) :: l, m, x, hg, h => by
    simp only [look] at h
    split at h
    · rename_i e; subst e; exact hg.1
    · exact tOk_t hg.2 h

def top (X : Cx) (md : List (Nat × Nat)) (dst : Nat) (o : Oper) (ρ : Operand → V) (s : S) (K : V → S → Prop) : Prop :=
  match o.op with
  | .store T p y => (match ρ p with
      | .ptr k q τ => (match s.obj k with
          | some (.box x) => τ = ty X.P T ∧ τ.known = true ∧ (asTy τ (ρ y)).ty = τ ∧ (asTy τ (ρ y)).plain = true ∧ x.at q ≠ .any ∧ x.ty.disj = true ∧ (asTy τ (ρ y)).okH = true ∧
              K .any (killT ((asTy τ (ρ y)).sites s.live q) (s.put k (.box (x.setAt q ((asTy τ (ρ y)).homed ((asTy τ (ρ y)).sites s.live q) s.live q)))))
          | _ => False)
      | _ => False)
  | .box _ x => (ρ x).plain = true ∧ (ρ x).okH = true ∧ s.obj (.l dst) = none ∧
      K (.ptr (.l dst) [] (ρ x).ty) (killT ((ρ x).sites s.live []) (s.put (.l dst) (.box ((ρ x).homed ((ρ x).sites s.live []) s.live []))))
  | .load T x => (match ρ x with
      | .ptr k q τ => (match s.obj k with
          | some (.box y) => (match y.at q with
            | .ts eb e cs => modeOf md dst = 1 ∧ τ = ty X.P T ∧ τ = .slice eb e ∧ y.ty.disj = true ∧ s.known dst = false ∧ K (.sl eb e cs dst) ((s.put k (.box (y.setAt q (.d (.slice eb e) (.slice cs))))).tok dst (some cs.length))
            | _ => False)
          | _ => False)
      | _ => False)
  | .mapUpdate T x i y => (match mapT X.P T, ρ x with
      | some (kt, et), .mp k => (match s.obj k with
          | some (.map kτ vτ es) => kτ = ty X.P kt ∧ vτ = ty X.P et ∧ eqOk X.P kt = true ∧ kτ.flat = true ∧ (ρ i).isData kτ ∧ (asTy vτ (ρ y).detok).ty = vτ ∧ (asTy vτ (ρ y).detok).plain = true ∧ (asTy vτ (ρ y).detok).noSl = true ∧
              K .any (s.put k (.map kτ vτ (putM es (ρ i).toC (asTy vτ (ρ y).detok))))
          | _ => False)
      | _, _ => False)
  | .call c => (match c.callee with
      | .value fo => (match ρ fo with
          | .fn f caps => callable X.P f = true ∧ c.argTypes.toList.length = c.args.toList.length ∧ nodupN (passed (modeOf md dst == 1) s (callArgs (c.args.toList.map ρ) caps)) = true ∧
            ∃ v L, DCalls X f (argsOf X.P (modeOf md dst == 1) s (callTs c.argTypes.toList caps) (callArgs (c.args.toList.map ρ) caps)) s.up v L ∧ gOk s dst L ∧ tOk s dst (v.tkR 2000) ∧
              K ((v.slotR 2000).ren (dn dst) (rk dst)) (s.ret (modeOf md dst == 1) (callArgs (c.args.toList.map ρ) caps) dst v L)
          | _ => False)
      | .builtin .append => (match c.args.toList, c.argTypes.toList with
          | [x, y], [t, t'] => zeroB X.P (elemT X.P t) = true ∧ (match ty X.P t, ρ x with
              | .slice eb e, .sl eb' e' cs tk => eb' = eb ∧ e' = e ∧ s.live tk = some cs.length ∧
                  srcK X.P s t' eb e (ρ y) fun ys => (cs.length + ys.length) * eb ≤ 140737488355328 ∧ cs.length + ys.length ≤ maxLen ∧ K (.sl eb e (cs ++ ys) tk) (s.tok tk (some (cs.length + ys.length)))
              | .slice eb e, .sr k [] 0 n none eb' e' => (match s.obj k with
                  | some (.box (.d (.arr M e2) cc)) => eb' = eb ∧ e' = e ∧ e2 = e ∧ ∃ d, s.obj (.l d) = none ∧
                      srcK X.P s t' eb e (ρ y) fun ys => (n + ys.length) * eb ≤ 140737488355328 ∧ n + ys.length ≤ maxLen ∧
                        K (.sr (.l d) [] 0 (n + ys.length) none eb e) ((s.put k (.dead (.arr M e))).put (.l d) (.box (.d (.arr (n + ys.length) e) (.agg (cc.elems.take n ++ ys)))))
                  | _ => False)
              | _, _ => False)
          | _, _ => False)
      | .builtin .copy => (match c.args.toList, c.argTypes.toList with
          | [x, y], [t, t'] => zeroB X.P (elemT X.P t) = true ∧ (match ty X.P t, ρ x with
              | .slice eb e, .sr k q lo n (some _) eb' e' => (match s.obj k with
                  | some (.box Z) => (match Z.at q with
                    | .d (.arr m e2) cc => eb' = eb ∧ e' = e ∧ e2 = e ∧ Z.ty.disj = true ∧ 0 < n ∧
                        srcK X.P s t' eb e (ρ y) fun ys => K (.d (.int .i64) (.int (min ys.length n : Nat))) (s.put k (.box (Z.setAt q (.d (.arr m e) (.agg (copyC cc.elems lo n ys))))))
                    | _ => False)
                  | _ => False)
              | _, _ => False)
          | _, _ => False)
      | _ => False)
  | _ => False

def TDoes (X : Cx) (o : Oper) (ρ : Operand → V) (s : S) (v : V) (s1 : S) : Prop :=
  s1.A = s.A ∧ s1.env = s.env ∧ ∀ (Γ : G) (w : World) (a : Act), Γ.gl = X.gl → Conc Γ w s → (∀ y ∈ o.op.operands, RepV Γ (ρ y) (a.eval y)) → Does X.P o a w (Post Γ w s1 v)
section
variable {X : Cx} {Γ : G} {w : World} {s : S}
theorem Post.congr {s1 s2 : S} {x : V} {v : Value} {w' : World} (h : Post Γ w s1 x v w') (h1 : ∀ k, s2.obj k = s1.obj k) (h2 : ∀ t, s2.live t = s1.live t) (h3 : ∀ t, s1.known t = true → s2.known t = true) : Post Γ w s2 x v w' := by
  obtain ⟨Γ', a, b, c, d⟩ := h
  exact ⟨Γ', a, b, c.congr h1 h2 h3, d⟩
theorem env_kill : ∀ (σ : List (Nat × List Nat)) (s : S), (killT σ s).env = s.env ∧ (killT σ s).A = s.A
  | [], _ => ⟨rfl, rfl⟩
  | (t, _) :: σ, s => by simp only [killT]; exact env_kill σ _
theorem env_putL (d : Nat) : ∀ (L : List (Key × O)) (s : S), (putL d L s).env = s.env ∧ (putL d L s).A = s.A
  | [], _ => ⟨rfl, rfl⟩
  | _ :: L, s => by simp only [putL, S.put]; exact env_putL d L s
theorem env_putT (d : Nat) : ∀ (l : List (Nat × Option Nat)) (s : S), (putT d l s).env = s.env
  | [], _ => rfl
  | _ :: l, s => by simp only [putT, S.tok]; exact env_putT d l s
theorem env_dieT : ∀ (l : List Nat) (s : S), (dieT l s).env = s.env
  | [], _ => rfl
  | _ :: l, s => by simp only [dieT, S.tok]; exact env_dieT l s
theorem ret_env (tip : Bool) (ys : List V) (d : Nat) (v : V) (L : List (Key × O)) : (s.ret tip ys d v L).env = s.env ∧ (s.ret tip ys d v L).A = s.A := by
  unfold S.ret
  exact ⟨by rw [env_putT, env_dieT, (env_putL d L s).1], by rw [(loc_putT _ _ _).2, (loc_dieT _ _).2, (env_putL d L s).2]⟩
theorem live_of_look {s s' : S} (h : ∀ t, look s.tk t = look s'.tk t) (t : Nat) : s.live t = s'.live t := by unfold S.live liveT; rw [h]
theorem known_of_look {s s' : S} (h : ∀ t, look s.tk t = look s'.tk t) (t : Nat) : s.known t = s'.known t := by unfold S.known; rw [h]
theorem kill_congr {σ : List (Nat × List Nat)} {k : Key} {o : O} {x : V} {v : Value} {w' : World} (h : Post Γ w { s with loc := (k, o) :: s.loc, tk := deadTk σ ++ s.tk } x v w') : Post Γ w (killT σ (s.put k o)) x v w' := by
  refine h.congr (fun j => ?_) (fun t => ?_) (fun t ht => ?_)
  · rw [obj_kill, obj_put]
    exact (obj_cons { s with tk := deadTk σ ++ s.tk } k j o).symm
  · rw [live_kill]
    unfold S.live liveT
    simp only [look_deadTk]
    cases look σ t <;> rfl
  · unfold S.known at ht
    simp only [look_deadTk] at ht
    cases hs : look σ t with
    | none => rw [hs] at ht; exact known_kill σ _ t ht
    | some p => exact known_kill2 σ _ t (by rw [hs]; simp)

theorem top_sound (hP : allOk X.P = true) {md : List (Nat × Nat)} {dst : Nat} {o : Oper} {ρ : Operand → V} {K : V → S → Prop} (h : top X md dst o ρ s K) : ∃ v s1, K v s1 ∧ TDoes X o ρ s v s1 := by
  unfold top at h
  split at h
  · rename_i T p y ho
    split at h
    · rename_i k q τ hp
      split at h
      · rename_i x hobj
        obtain ⟨h1, h2, h3, h4, h5, h6, h7, hK⟩ := h
        refine ⟨_, _, hK, by rw [(env_kill _ _).2]; rfl, by rw [(env_kill _ _).1]; rfl, fun Γ w a _ c hr => ?_⟩
        have hpr := hr p (by rw [ho]; simp [Op.operands])
        rw [hp] at hpr
        have := do_storeH (Y := ρ y) hP c ho hpr (hr y (by rw [ho]; simp [Op.operands])) hobj h1 h2 h3 h4 h5 h6 h7
        exact this.mono fun v w' hpost => kill_congr hpost
      · exact h.elim
    · exact h.elim
  · rename_i T x ho
    obtain ⟨h1, h2, h3, hK⟩ := h
    refine ⟨_, _, hK, by rw [(env_kill _ _).2]; rfl, by rw [(env_kill _ _).1]; rfl, fun Γ w a _ c hr => ?_⟩
    exact (do_boxH c ho h3 (hr x (by rw [ho]; simp [Op.operands])) h1 h2).mono fun v w' hpost => kill_congr hpost
  · rename_i T x ho
    split at h
    · rename_i k q τ hx
      split at h
      · rename_i y hobj
        split at h
        · rename_i eb e cs hat
          obtain ⟨_, h2, h3, h4, h5, hK⟩ := h
          refine ⟨_, _, hK, rfl, rfl, fun Γ w a _ c hr => ?_⟩
          have hxr := hr x (by rw [ho]; simp [Op.operands])
          rw [hx] at hxr
          obtain ⟨b, τ0, o0, hι, hw, hv⟩ := repV_ptr hxr
          obtain ⟨u, r1, r2⟩ := load_ptr (T := T) hP c hxr hobj (by rw [hat]; simp) h2 (by rw [h3]; rfl)
          rw [hat] at r2
          simp only [view] at r2
          obtain ⟨aa, n, cap, e1, _⟩ := repV_asSl (eb := eb) (e := e) (cs := cs) r2 (by simp [V.asSl, C.elems])
          subst e1
          rw [h3] at hw
          have hcell : w.cell? ⟨b, o0, none⟩ = some (.slice aa n cap) := by
            have r1' := r1
            rw [hv] at r1'
            simp only [Instr.loadAt, Instr.sureAddr, Sem.run_bind, Sem.run_pure, Result.andThen_ok] at r1'
            obtain ⟨b2, cells, E, e1, _, _, e4, e5, e6, e7, _⟩ := c.own hι hobj
            rw [hι] at e1; cases e1
            obtain ⟨g1, g2, g3⟩ := e6.at_ hw (by rw [hat]; simp) e7
            have hcl : (chunk cells.toList 0 y.ty.size).length = y.ty.size := chunk_length _ _ _ (by simpa using e5)
            rw [hcl] at g2
            simp only [Ty.size] at g2
            obtain ⟨u', q1, q2, q3⟩ := run_loadVar (T := T) (E := E) (fr := (0, 0)) (off := o0) hP (h2.symm.trans h3) rfl e4 (by simp only [Ty.size]; omega) (by
              have := g3.one (by rw [hat]; rfl)
              simp only [Ty.size] at this ⊢
              rwa [chunk_chunk _ _ _ _ _ (by omega), Nat.zero_add] at this)
            rw [r1'] at q1
            cases q1
            simp only [Value.cells, Ty.size] at q2
            have : (chunk cells.toList o0 1)[0]? = some (.slice aa n cap) := by rw [← q2]; rfl
            rw [chunk_getElem?] at this
            simp at this
            simp [World.cell?, e4, this]
          obtain ⟨Γ', t1, t2, t3, t4⟩ := c.take (t := dst) hobj hat h4 h5 hι hw hcell
          refine Does.val (v := .slice aa n cap) (w' := w) (by unfold execOp; simp [ho, r1]) ⟨Γ', t1, t2, t3.congr (fun j => ?_) (fun t => ?_) (fun t ht => ?_), t4⟩
          · refine (obj_put s k j _).trans ?_
            exact (obj_cons { s with tk := (dst, some cs.length) :: s.tk } k j _).symm
          · refine (live_tok _ dst t _).trans ?_
            exact (live_cons { s with loc := (k, .box (y.setAt q (.d (.slice eb e) (.slice cs)))) :: s.loc } dst t (some cs.length)).symm
          · rw [known_tok]
            exact (known_cons { s with loc := (k, .box (y.setAt q (.d (.slice eb e) (.slice cs)))) :: s.loc } dst t (some cs.length)).symm.trans ht
        · exact h.elim
      · exact h.elim
    · exact h.elim
  · rename_i T x i y ho
    split at h
    · rename_i kt et k hT hx
      split at h
      · rename_i kτ vτ es hobj
        obtain ⟨rfl, rfl, h1, h2, h3, h4, h5, h6, hK⟩ := h
        refine ⟨_, _, hK, rfl, rfl, fun Γ w a _ c hr => ?_⟩
        have hxr := hr x (by rw [ho]; simp [Op.operands])
        rw [hx] at hxr
        have hir := hr i (by rw [ho]; simp [Op.operands])
        have hd : ρ i = .d (ty X.P kt) (ρ i).toC := by
          cases hi : ρ i <;> simp [hi, V.isData] at h3
          subst h3; rfl
        rw [hd] at hir
        exact (do_mapUpdate hP c ho hT hxr hir (asTy_rep (hr y (by rw [ho]; simp [Op.operands])).detok) hobj h1 h2 h4 h5 h6).mono fun v w' hpost => hpost.congr (fun j => (obj_put s k j _).trans (obj_cons s k j _).symm) (fun _ => rfl) (fun _ h => h)
      · exact h.elim
    · exact h.elim
  · rename_i cl ho
    obtain ⟨callee, args, ts⟩ := cl
    split at h
    · rename_i fo hfo
      simp only at hfo h
      subst hfo
      split at h
      · rename_i f caps hf
        obtain ⟨h1, h2, h3, v, L, D, hg, ht, hK⟩ := h
        refine ⟨_, _, hK, (ret_env ..).2, (ret_env ..).1, fun Γ w a hgl c hr => ?_⟩
        have hrf := hr fo (by rw [ho]; simp [Op.operands, Call.operands])
        rw [hf] at hrf
        have := do_call (A := s.up) (d := dst) rfl hgl c ho h1 h2 hrf (fun y hy => hr y (by rw [ho]; simp only [Op.operands, Call.operands]; exact Array.mem_append_right _ (Array.mem_toList_iff.1 hy))) h3 D (fun _ _ h => h)
          (fun k o hk => gOk_g hg hk) (fun j o hj => gOk_l hg hj) (fun m x hm => tOk_t ht hm)
        exact this.mono fun v' w' hpost => hpost.congr (fun k => ret_obj ..) (fun t => live_of_look (fun t => ret_tk ..) t) (fun t hk => by rw [known_of_look (fun t => ret_tk ..)]; exact hk)
      · exact h.elim
    · rename_i hb
      simp only at hb h
      subst hb
      split at h
      · rename_i x y t t' hargs hts
        have hargs' : args = #[x, y] := by cases args; simpa using hargs
        have hts' : ts = #[t, t'] := by cases ts; simpa using hts
        subst hargs'; subst hts'
        obtain ⟨h1, h⟩ := h
        split at h
        · rename_i eb e eb' e' cs tk htt hx
          obtain ⟨rfl, rfl, hl, h⟩ := h
          obtain ⟨ys, ⟨b1, b2, hK⟩, hs⟩ := srcK_spec hP h
          refine ⟨_, _, hK, rfl, rfl, fun Γ w a _ c hr => ?_⟩
          have hyr := hr y (by rw [ho]; simp [Op.operands, Call.operands])
          have hxr := hr x (by rw [ho]; simp [Op.operands, Call.operands])
          rw [hx] at hxr
          exact (do_append_tok hP c ho htt h1 hl hxr hyr hs b1 b2).mono fun v w' hpost => hpost.congr (fun _ => rfl) (fun u => (live_tok s tk u _).trans (live_cons s tk u _).symm) (fun u hu => by rw [known_tok]; exact (known_cons s tk u _).symm.trans hu)
        · rename_i eb e k n eb' e' htt hx
          split at h
          · rename_i M e2 cc hobj
            obtain ⟨rfl, rfl, rfl, d, hd, h⟩ := h
            obtain ⟨ys, ⟨b1, b2, hK⟩, hs⟩ := srcK_spec hP h
            refine ⟨_, _, hK, rfl, rfl, fun Γ w a _ c hr => ?_⟩
            have hyr := hr y (by rw [ho]; simp [Op.operands, Call.operands])
            have hxr := hr x (by rw [ho]; simp [Op.operands, Call.operands])
            rw [hx] at hxr
            exact (do_append_vec hP c ho htt h1 hd hobj hxr hyr hs b1 b2).mono fun v w' hpost => hpost.congr (fun j => by rw [obj_put, obj_put]; rw [show S.obj { s with loc := (Key.l d, O.box (.d (.arr (n + ys.length) _) (.agg (cc.elems.take n ++ ys)))) :: (k, O.dead _) :: s.loc } j = S.obj { ({ s with loc := (k, O.dead _) :: s.loc } : S) with loc := (Key.l d, _) :: ({ s with loc := (k, O.dead _) :: s.loc } : S).loc } j from rfl, obj_cons, obj_cons]) (fun u => rfl) (fun u hu => hu)
          · exact h.elim
        · exact h.elim
      · exact h.elim
    · rename_i hb
      simp only at hb h
      subst hb
      split at h
      · rename_i x y t t' hargs hts
        have hargs' : args = #[x, y] := by cases args; simpa using hargs
        have hts' : ts = #[t, t'] := by cases ts; simpa using hts
        subst hargs'; subst hts'
        obtain ⟨h1, h⟩ := h
        split at h
        · rename_i eb e k q lo n cp eb' e' htt hx
          split at h
          · rename_i Z hobj
            split at h
            · rename_i m e2 cc hZ
              obtain ⟨rfl, rfl, rfl, hd, h0, h⟩ := h
              obtain ⟨ys, hK, hs⟩ := srcK_spec hP h
              refine ⟨_, _, hK, rfl, rfl, fun Γ w a _ c hr => ?_⟩
              have hyr := hr y (by rw [ho]; simp [Op.operands, Call.operands])
              have hxr := hr x (by rw [ho]; simp [Op.operands, Call.operands])
              rw [hx] at hxr
              exact (do_copy hP c ho htt hobj hZ hd h0 h1 hxr hyr hs).mono fun v w' hpost => hpost.congr (fun j => by rw [obj_put, obj_cons]) (fun u => rfl) (fun u hu => hu)
            · exact h.elim
          · exact h.elim
        · exact h.elim
      · exact h.elim
    · exact h.elim
  · exact h.elim
end
end Go.E


namespace Go.E
open Go


def At (X : Cx) (n : Nat) (Γ0 : G) (s : S) (a : Act) (w : World) : Prop :=
  ∃ Γ, GLe Γ0 Γ ∧ Γ.gl = X.gl ∧ Conc Γ w s ∧ Slots Γ s a.tmps ∧ a.tmps.size = n ∧ a.defers = [] ∧ AOk s.A
def S.set (s : S) (d : Option Nat) (x : V) : S :=
  match d with
  | some d => { s with env := putN s.env d x }
  | none => s
def freshL (s : S) : List (Key × O) → Prop
  | [] => True
  | (k, _) :: l => s.obj k = none ∧ freshL s l
def freshT (s : S) : List (Nat × Option Nat) → Prop
  | [] => True
  | (t, _) :: l => s.known t = false ∧ freshT s l
theorem fresh_of {s : S} {lo : List (Key × O)} {tn : List (Nat × Option Nat)} (h : freshL s lo) (h' : freshT s tn) : Fresh s lo tn := by
  constructor
  · induction lo with
    | nil => intro k o hk; simp [lookK] at hk
    | cons x lo ih =>
      intro k o hk
      simp only [lookK] at hk
      split at hk
      · rename_i e; rw [← e]; exact h.1
      · exact ih h.2 k o hk
  · induction tn with
    | nil => intro k o hk; simp [look] at hk
    | cons x tn ih =>
      intro k o hk
      simp only [look] at hk
      split at hk
      · rename_i e; rw [← e]; exact h'.1
      · exact ih h'.2 k o hk
noncomputable def lopB (X : Cx) (dst : Nat) (o : Oper) (s : S) (K : V → S → Prop) : Prop :=
    (iop X [] (lendS (lendKs (o.op.operands.toList.map (evalA X.gl s))) s) dst o (fun y => lendV s (evalA X.gl s y)) (lendS (lendKs (o.op.operands.toList.map (evalA X.gl s))) s)
      (fun v lo tn => freshL (lendS (lendKs (o.op.operands.toList.map (evalA X.gl s))) s) lo ∧ freshT (lendS (lendKs (o.op.operands.toList.map (evalA X.gl s))) s) tn ∧ K v ((lendS (lendKs (o.op.operands.toList.map (evalA X.gl s))) s).add lo tn)) ∨
    top X [] dst o (fun y => lendV s (evalA X.gl s y)) (lendS (lendKs (o.op.operands.toList.map (evalA X.gl s))) s) K)
noncomputable def lop (X : Cx) (md : List (Nat × Nat)) (dst : Nat) (o : Oper) (s : S) (K : V → S → Prop) : Prop := modeOf md dst = 100 ∧ lopB X dst o s K
theorem mem_lendKs : ∀ {xs : List V} {x : V} {j : Nat}, x ∈ xs → j ∈ lendK x → j ∈ lendKs xs
  | y :: ys, x, j, hx, hj => by
    simp only [lendKs, List.mem_append]
    rcases List.mem_cons.1 hx with rfl | hx
    · exact .inl hj
    · exact .inr (mem_lendKs hx hj)
theorem lendS_env : ∀ (js : List Nat) (s : S), (lendS js s).env = s.env ∧ (lendS js s).A = s.A
  | [], s => ⟨rfl, rfl⟩
  | j :: l, s => by
    simp only [lendS]
    have := lendS_env l (match s.obj (.l j) with
      | some (.box (.d τ _)) => (match τ with
        | .arr M e => { s with loc := (.l j, .dead (.arr M e)) :: s.loc }
        | _ => s)
      | _ => s)
    refine ⟨this.1.trans ?_, this.2.trans ?_⟩ <;> (split <;> (try rfl); split <;> rfl)
noncomputable def sop (X : Cx) (md : List (Nat × Nat)) (dst : Nat) (o : Oper) (s : S) (K : V → S → Prop) : Prop :=
  lop X md dst o s K ∨ (modeOf md dst ≠ 1 ∧ iop X md s dst o (evalA X.gl s) s (fun v lo tn => freshL s lo ∧ freshT s tn ∧ K v (s.add lo tn))) ∨ top X md dst o (evalA X.gl s) s K ∨ (fop X o (evalA X.gl s) fun v => K v s) ∨ sl3 X md dst o (evalA X.gl s) s K
def gslot (ops : Array Oper) (j : Nat) : Option Nat := (ops[j]?).bind (·.dst)
def dstN (o : Oper) : Nat := o.dst.getD 0
def gk (b want : Bool) (p q : Prop) : Prop := (b = want → p) ∧ (b ≠ want → q)
def gv (ops : Array Oper) (s : S) (j : Nat) : V := match gslot ops j with
  | none => .any
  | some t => s.get t
def gx (x : V) (want : Bool) (p q : Prop) : Prop := match x with
  | .d .bool c => gk c.toBool want p q
  | .tup [] => q
  | _ => False
noncomputable def vc (X : Cx) (md : List (Nat × Nat)) (ops : Array Oper) (Φ : S → Prop) : List Oper → S → Prop
  | [], s => Φ s
  | o :: rest, s => match o.guard with
    | none => sop X md (dstN o) o s fun v s' => vc X md ops Φ rest (s'.set o.dst v)
    | some (j, want) => gx (gv ops s j) want (sop X md (dstN o) o s fun v s' => vc X md ops Φ rest (s'.set o.dst v)) (vc X md ops Φ rest (s.set o.dst (.tup [])))
theorem repV_undef {Γ : G} : RepV Γ (.tup []) undef := ⟨#[], rfl, by simp [RepCaps]⟩
theorem get_set (s : S) (d : Option Nat) (v : V) (t : Nat) : (s.set d v).get t = if d = some t then v else s.get t := by
  cases d with
  | none => simp [S.set]
  | some d =>
    simp only [S.set, S.get, look_put]
    by_cases h : d = t
    · simp [h]
    · have : ¬ (some d = some t) := by intro e; cases e; exact h rfl
      simp [h]

section
variable {X : Cx} {n : Nat} {Γ0 : G}
theorem slots_put {Γ : G} {s : S} {a : Act} {d : Option Nat} {x : V} {v : Value} (hs : Slots Γ s a.tmps) (hd : ∀ t, d = some t → t < a.tmps.size) (hx : RepV Γ x v) :
    Slots Γ (s.set d x) (a.put d v).tmps := by
  intro i
  rw [get_set]
  cases d with
  | none => simpa [Act.put] using hs i
  | some t =>
    have := hd t rfl
    by_cases h : t = i
    · subst h
      simp only [Act.put, if_true]
      simp [this]
      exact hx
    · have h' : ¬ (some t = some i) := by intro e; cases e; exact h rfl
      rw [if_neg h']
      have := hs i
      simpa [Act.put, Array.getElem?_setIfInBounds_ne h] using this
theorem conc_set {Γ : G} {w : World} {s : S} (c : Conc Γ w s) (d : Option Nat) (x : V) : Conc Γ w (s.set d x) := by
  cases d with
  | none => exact c
  | some t => exact c.env _
theorem evalA_rep {Γ : G} {w : World} {s s' : S} {a : Act} (hgl : Γ.gl = X.gl) (c : Conc Γ w s') (hs : ∀ t, RepV Γ (s.get t) (a.tmps.getD t undef)) {y : Operand} (hy : operandOk y = true) : RepV Γ (evalA X.gl s y) (a.eval y) := by
  cases y with
  | tmp t => exact hs t
  | func f =>
    show RepV Γ (.fn f []) (.func (.func f) #[] #[])
    exact (repV_plain rfl).2 ⟨by simp [RepX, RepCaps, Value.cells], by simp [V.ty, Ty.isAgg, isAggV]⟩
  | global g =>
    simp only [evalA]
    cases hg : X.gl g with
    | none => simp [RepV]
    | some x =>
      obtain ⟨τ, cc⟩ := x
      obtain ⟨l, h1, h2, h3⟩ := c.hgl g τ cc (by rw [hgl]; exact hg)
      exact repV_mk_cptr h1 (by simpa using h2) h3
  | const v =>
    simp only [evalA, Act.eval]
    unfold constV
    simp only [operandOk] at hy
    split
    · simp [constOk] at hy; exact repV_mk_int hy.1 hy.2
    · exact repV_mk_bool
    · simp [constOk] at hy
      rename_i str
      exact repV_mk_str (l := str.data.toList) (by simpa using hy)
    · exact (repV_plain rfl).2 ⟨by simp [RepX, RepC, Value.cells], by simp [V.ty, Ty.isAgg, isAggV]⟩
    · exact (repV_plain rfl).2 ⟨by simp [RepX, Value.cells], by simp [V.ty, Ty.isAgg, isAggV]⟩
    · exact (repV_plain rfl).2 ⟨by simp [RepX, RepC, Value.cells], by simp [V.ty, Ty.isAgg, isAggV]⟩
    · exact (repV_plain rfl).2 ⟨by simp [RepX, RepC, Value.cells], by simp [V.ty, Ty.isAgg, isAggV]⟩
    · exact (repV_plain rfl).2 ⟨by simp [RepX, RepC, Value.cells], by simp [V.ty, Ty.isAgg, isAggV]⟩
    · simp [RepV]
theorem at_put {s : S} {a : Act} {w : World} {d : Option Nat} {x : V} (hd : match d with | some d => decide (d < n) = true | none => True) {Γ : G} (h1 : GLe Γ0 Γ) (h3 : Γ.gl = X.gl) (c : Conc Γ w s) (hs : Slots Γ s a.tmps) (hn : a.tmps.size = n) (hf : a.defers = [] ∧ AOk s.A) {v : Value} (hx : RepV Γ x v) :
    At X n Γ0 (s.set d x) (a.put d v) w := by
  refine ⟨Γ, h1, h3, conc_set c d x, slots_put hs (fun t ht => ?_) hx, ?_, ?_, ?_⟩
  · subst ht; simp at hd; omega
  · cases d <;> simp [Act.put, hn]
  · cases d <;> simp [Act.put, hf.1]
  · cases d <;> exact hf.2
theorem slots_env {Γ : G} {s s' : S} {t : Array Value} (h : s'.env = s.env) (hs : Slots Γ s t) : Slots Γ s' t := fun i => by
  have := hs i
  simp only [S.get] at this ⊢
  rw [h]; exact this
theorem sop_sound (hP : allOk X.P = true) {md : List (Nat × Nat)} {o : Oper} {s : S} {K : V → S → Prop} (hok : opOk n o = true) (h : sop X md (dstN o) o s K) {a : Act} {w : World} (hat : At X n Γ0 s a w) :
    Does X.P o a w fun u w' => ∃ v s', K v s' ∧ At X n Γ0 (s'.set o.dst v) (a.put o.dst u) w' := by
  obtain ⟨Γ, g1, g3, c, hs, hn, hf⟩ := hat
  simp only [opOk, Bool.and_eq_true, Array.all_eq_true'] at hok
  have hd : match o.dst with | some d => decide (d < n) = true | none => True := by
    cases ho : o.dst with
    | none => trivial
    | some d => have := hok.2; rw [ho] at this; exact this
  have hops : ∀ y ∈ o.op.operands, RepV Γ (evalA X.gl s y) (a.eval y) := fun y hy => evalA_rep g3 c hs (hok.1 y hy)
  rcases h with ⟨_, h⟩ | ⟨_, h⟩ | h | h | h
  · obtain ⟨Γ1, gl1, p1, c1, hcv⟩ := lendS_ok (lendKs (o.op.operands.toList.map (evalA X.gl s))) s c
    have hops1 : ∀ y ∈ o.op.operands, RepV Γ1 (lendV s (evalA X.gl s y)) (a.eval y) := fun y hy =>
      hcv _ _ (hops y hy) fun j hj => mem_lendKs (List.mem_map_of_mem (by simpa using hy)) hj
    have henv := lendS_env (lendKs (o.op.operands.toList.map (evalA X.gl s))) s
    have hs1 : Slots Γ1 (lendS (lendKs (o.op.operands.toList.map (evalA X.gl s))) s) a.tmps := slots_env henv.1 (hs.pres p1)
    have g31 : Γ1.gl = X.gl := gl1.gl.trans g3
    rcases h with h | h
    · obtain ⟨v, lo, tn, ⟨hf1, hf2, hK⟩, hI⟩ := iop_sound hP h
      refine (hI Γ1 w a _ g31 c1 ⟨fun _ _ h _ => h, fun _ _ h => h⟩ (fresh_of hf1 hf2) hops1).mono ?_
      rintro u w' ⟨Γ', gle, hp, c', hv⟩
      exact ⟨_, _, hK, at_put hd ((g1.trans gl1).trans gle) (gle.gl.trans g31) c' (slots_env (s := lendS (lendKs (o.op.operands.toList.map (evalA X.gl s))) s) rfl (hs1.pres hp)) hn ⟨hf.1, by show AOk (lendS _ s).A; rw [henv.2]; exact hf.2⟩ hv⟩
    · obtain ⟨v, s1, hK, hsA, he, hT⟩ := top_sound hP h
      refine (hT Γ1 w a g31 c1 hops1).mono ?_
      rintro u w' ⟨Γ', gle, hp, c', hv⟩
      exact ⟨_, _, hK, at_put hd ((g1.trans gl1).trans gle) (gle.gl.trans g31) c' (slots_env he (hs1.pres hp)) hn ⟨hf.1, by rw [hsA, henv.2]; exact hf.2⟩ hv⟩
  · obtain ⟨v, lo, tn, ⟨hf1, hf2, hK⟩, hI⟩ := iop_sound hP h
    refine (hI Γ w a s g3 c ⟨fun _ _ h _ => h, fun _ _ h => h⟩ (fresh_of hf1 hf2) hops).mono ?_
    rintro u w' ⟨Γ', gle, hp, c', hv⟩
    exact ⟨_, _, hK, at_put hd (g1.trans gle) (gle.gl.trans g3) c' (slots_env rfl (hs.pres hp)) hn hf hv⟩
  · obtain ⟨v, s1, hK, hsA, he, hT⟩ := top_sound hP h
    refine (hT Γ w a g3 c hops).mono ?_
    rintro u w' ⟨Γ', gle, hp, c', hv⟩
    exact ⟨_, _, hK, at_put hd (g1.trans gle) (gle.gl.trans g3) c' (slots_env he (hs.pres hp)) hn ⟨hf.1, by rw [hsA]; exact hf.2⟩ hv⟩
  · obtain ⟨v, hK, hI⟩ := fop_sound hP h
    refine (hI Γ w a s c hops).mono ?_
    rintro u w' ⟨Γ', gle, hp, c', hv⟩
    exact ⟨_, _, hK, at_put hd (g1.trans gle) (gle.gl.trans g3) c' (slots_env rfl (hs.pres hp)) hn hf hv⟩
  · obtain ⟨v, s1, hK, hsA, he, hT⟩ := sl3_sound hP h
    refine (hT Γ w a c hops).mono ?_
    rintro u w' ⟨Γ', gle, hp, c', hv⟩
    exact ⟨_, _, hK, at_put hd (g1.trans gle) (gle.gl.trans g3) c' (slots_env he (hs.pres hp)) hn ⟨hf.1, by rw [hsA]; exact hf.2⟩ hv⟩
end

def DC (X : Cx) (n : Nat) (c : Code) (s : S) (Ψ : Exit → S → Prop) : Prop :=
  ∀ (Γ0 : G) (a : Act) (w : World), At X n Γ0 s a w → c.wp X.P (fun e a w => ∃ s', Ψ e s' ∧ At X n Γ0 s' a w) a w
def Weak (X : Cx) (n : Nat) (s s' : S) : Prop := ∀ (Γ0 : G) (a : Act) (w : World), At X n Γ0 s a w → At X n Γ0 s' a w
section
variable {X : Cx} {n : Nat} {s : S} {Ψ : Exit → S → Prop}
theorem guard_bool0 {Γ : G} {ops : Array Oper} {a : Act} {o : Oper} {j t : Nat} {want b : Bool} (hg : o.guard = some (j, want)) (ht : gslot ops j = some t)
    (hs : RepV Γ (.d .bool (.bool b)) (a.tmps.getD t undef)) : Region.wanted o (yielded ops a.tmps) = (b == want) := by
  have e2 : a.tmps.getD t undef = .bool b := (repV_bool hs).1
  have hsome : a.tmps[t]? = some (.bool b) := by
    rw [Array.getD_eq_getD_getElem?] at e2
    cases h : a.tmps[t]? with
    | none => rw [h] at e2; simp [undef] at e2
    | some v => rw [h] at e2; simp at e2; rw [e2]
  simp only [gslot] at ht
  simp [Region.wanted, hg, yielded, ht, hsome]

theorem guard_bool {Γ : G} {ops : Array Oper} {a : Act} {o : Oper} {j t : Nat} {want : Bool} {c : C} (hg : o.guard = some (j, want)) (ht : gslot ops j = some t)
    (hs : RepV Γ (.d .bool c) (a.tmps.getD t undef)) : Region.wanted o (yielded ops a.tmps) = (c.toBool == want) := by
  obtain ⟨_, e⟩ := repV_bool hs
  rw [e] at hs
  exact guard_bool0 hg ht hs

theorem guard_undef {Γ : G} {ops : Array Oper} {a : Act} {o : Oper} {j t : Nat} {want : Bool} (hg : o.guard = some (j, want)) (ht : gslot ops j = some t)
    (hs : RepV Γ (.tup []) (a.tmps.getD t undef)) : Region.wanted o (yielded ops a.tmps) = false := by
  obtain ⟨vs, e, _⟩ := hs
  have hnb : ∀ b, a.tmps[t]? ≠ some (.bool b) := by
    intro b h
    rw [Array.getD_eq_getD_getElem?, h] at e
    simp at e
  simp only [gslot] at ht
  simp only [Region.wanted, hg, yielded, ht, Option.bind_some]
  rfl

theorem vc_sound (hP : allOk X.P = true) {Γ0 : G} {md : List (Nat × Nat)} {ops : Array Oper} {Φ : S → Prop} {Q : Exit → Act → World → Prop} (hQ : ∀ s a w, Φ s → At X n Γ0 s a w → Q .normal a w) :
    ∀ (rest : List Oper) (s : S) (a : Act) (w : World), (∀ o ∈ rest, opOk n o = true) → vc X md ops Φ rest s → At X n Γ0 s a w → wpList X.P ops Q rest a w
  | [], s, a, w, _, h, hat => hQ s a w h hat
  | o :: rest, s, a, w, hok, h, hat => by
    have run : (sop X md (dstN o) o s fun v s' => vc X md ops Φ rest (s'.set o.dst v)) → o.wp X.P a w (wpList X.P ops Q rest) Q := by
      intro h
      refine sop_sound hP (hok o (by simp)) h hat _ _ ?_
      rintro u w' ⟨v, s', hv, hat'⟩
      exact vc_sound hP hQ rest _ _ _ (fun o ho => hok o (by simp [ho])) hv hat'
    have skip : vc X md ops Φ rest (s.set o.dst (.tup [])) → wpList X.P ops Q rest (a.put o.dst undef) w := by
      intro h
      obtain ⟨Γ, g1, g3, c, hs, hn, hf⟩ := hat
      have hd : match o.dst with | some d => decide (d < n) = true | none => True := by
        have := hok o (by simp)
        simp only [opOk, Bool.and_eq_true] at this
        cases ho : o.dst with
        | none => trivial
        | some d => have := this.2; rw [ho] at this; exact this
      exact vc_sound hP hQ rest _ _ _ (fun o ho => hok o (by simp [ho])) h (at_put hd g1 g3 c hs hn hf repV_undef)
    simp only [vc] at h
    simp only [wpList]
    split at h
    · rename_i hg
      have : Region.wanted o (yielded ops a.tmps) = true := by simp [Region.wanted, hg]
      rw [if_pos this]
      exact .inl (run h)
    · rename_i j want hg
      cases ht : gslot ops j with
      | none => simp [gv, ht, gx] at h
      | some t =>
        simp only [gv, ht] at h
        unfold gx at h
        obtain ⟨Γ, g1, g3, c, hs, hn, hf⟩ := id hat
        have hst := hs t
        split at h
        · rename_i cb hb
          rw [hb] at hst
          rw [guard_bool hg ht hst]
          by_cases hbw : cb.toBool = want
          · rw [if_pos (by simp [hbw])]
            exact .inl (run (h.1 hbw))
          · rw [if_neg (by simp [hbw])]
            exact skip (h.2 hbw)
        · rename_i hb
          rw [hb] at hst
          rw [if_neg (by rw [guard_undef hg ht hst]; simp)]
          exact skip h
        · exact h.elim

theorem DC.mono {c : Code} {Ψ' : Exit → S → Prop} (h : DC X n c s Ψ) (hq : ∀ e s, Ψ e s → Ψ' e s) : DC X n c s Ψ' :=
  fun Γ0 a w hat => wp_mono (h Γ0 a w hat) fun e a w ⟨s', h1, h2⟩ => ⟨s', hq _ _ h1, h2⟩
theorem DC.weak {c : Code} {s' : S} (hw : Weak X n s s') (h : DC X n c s' Ψ) : DC X n c s Ψ :=
  fun Γ0 a w hat => h Γ0 a w (hw Γ0 a w hat)
theorem Weak.refl (s : S) : Weak X n s s := fun _ _ _ h => h
theorem Weak.trans {s s' s'' : S} (h : Weak X n s s') (h' : Weak X n s' s'') : Weak X n s s'' := fun Γ0 a w hat => h' Γ0 a w (h Γ0 a w hat)

theorem dc_region (hP : allOk X.P = true) (md : List (Nat × Nat)) {id : Nat} {l : List Oper} (hok : l.all (opOk n) = true) (h : vc X md l.toArray (fun s' => Ψ .normal s') l s) : DC X n (.region id l.toArray false) s Ψ := by
  intro Γ0 a w hat
  refine wp_region_lit (vc_sound hP (fun s' a w hΨ hat => ⟨s', hΨ, hat⟩) l s a w (fun o ho => List.all_eq_true.1 hok o ho) h hat)

theorem dc_seq {c c' : Code} (h : DC X n c s fun e s' => match e with | .normal => DC X n c' s' Ψ | e => Ψ e s') : DC X n (c.seq c') s Ψ := by
  intro Γ0 a w hat
  refine wp_seq (wp_mono (h Γ0 a w hat) ?_)
  rintro e a w ⟨s', h1, h2⟩
  cases e with
  | normal => exact h1 Γ0 a w h2
  | exit _ | goto _ | ret | panic _ | outgrown => exact ⟨s', h1, h2⟩

theorem dc_skip (h : Ψ .normal s) : DC X n .skip s Ψ := fun _ _ _ hat => wp_skip ⟨s, h, hat⟩
theorem dc_label {l : Nat} (h : Ψ .normal s) : DC X n (.label l) s Ψ := fun _ _ _ hat => wp_label ⟨s, h, hat⟩
theorem dc_ret (h : Ψ .ret s) : DC X n .ret s Ψ := fun _ _ _ hat => wp_ret ⟨s, h, hat⟩
theorem dc_exit {id : Nat} (h : Ψ (.exit id) s) : DC X n (.exit id) s Ψ := fun _ _ _ hat => wp_exit ⟨s, h, hat⟩
theorem dc_goto {id : Nat} (h : Ψ (.goto id) s) : DC X n (.goto id) s Ψ := fun _ _ _ hat => wp_goto ⟨s, h, hat⟩

theorem dc_block {id : Nat} {c : Code} (h : DC X n c s fun e s' => match e with | .exit id' => if id' = id then Ψ .normal s' else Ψ (.exit id') s' | e => Ψ e s') : DC X n (.block id c) s Ψ := by
  intro Γ0 a w hat
  refine wp_block (wp_mono (h Γ0 a w hat) ?_)
  rintro e a w ⟨s', h1, h2⟩
  cases e with
  | exit id' =>
    simp only [Exit.inBlock] at h1 ⊢
    split
    · rename_i hid; rw [if_pos hid] at h1; exact ⟨s', h1, h2⟩
    · rename_i hid; rw [if_neg hid] at h1; exact ⟨s', h1, h2⟩
  | normal | goto _ | ret | panic _ | outgrown => exact ⟨s', h1, h2⟩

theorem dc_condC {t : Nat} {c c' : Code} {v : C} (hv : s.get t = .d .bool v) (h1 : v.toBool = true → DC X n c s Ψ) (h2 : v.toBool = false → DC X n c' s Ψ) : DC X n (.cond (.tmp t) c c') s Ψ := by
  intro Γ0 a w hat
  have he : a.eval (.tmp t) = .bool v.toBool := by
    obtain ⟨Γ, g1, g3, c, hs, hn, hf⟩ := hat
    have := hs t
    rw [hv] at this
    exact (repV_bool this).1
  refine wp_cond (t := v.toBool) he ?_
  cases hb : v.toBool with
  | true => exact h1 hb Γ0 a w hat
  | false => exact h2 hb Γ0 a w hat

end
end Go.E


namespace Go.E
open Go

mutual
def V.into (x : V) : V → Prop
  | .d τ c => (match x with
    | .nilc => (∃ eb e, τ = .slice eb e) ∧ c = .slice []
    | x => closeV x = some c ∧ x.ty = τ)
  | .emp eb e => x = .emp eb e ∨ x = .nilc
  | .agg τ ws => (match x with
    | .agg τ' vs => τ' = τ ∧ V.intos vs ws
    | x => x = .agg τ ws)
  | .any => True
  | y => x = y
def V.intos : List V → List V → Prop
  | [], [] => True
  | x :: xs, y :: ys => V.into x y ∧ y.ty = x.ty ∧ V.intos xs ys
  | _, _ => False
end
def O.into : O → O → Prop
  | .box x, .box y => V.into x y ∧ y.ty = x.ty ∧ y.plain = true ∧ y.noSl = true
  | .map kτ vτ es, .map kτ' vτ' es' => kτ = kτ' ∧ vτ = vτ' ∧ es = es'
  | .it l p, .it l' p' => l = l' ∧ p = p'
  | o, .dead τ => τ = o.ty
  | _, _ => False
def hasT (tk : List (Nat × Option Nat)) (t : Nat) : Bool := (look tk t).isSome
def hasL (L : List (Key × O)) (n : Nat) : Bool := (lookK L (.l n)).isSome

section
variable {Γ : G}
theorem V.intos_length : ∀ {xs ys : List V}, V.intos xs ys → xs.length = ys.length
  | [], [], _ => rfl
  | x :: xs, y :: ys, h => by simp only [V.intos] at h; simp [V.intos_length h.2.2]
  | [], _ :: _, h => by simp [V.intos] at h
  | _ :: _, [], h => by simp [V.intos] at h
mutual
theorem RepX.into {hm : Option Key} : ∀ (y x : V) {p : List Nat} {vs : List Value}, V.into x y → RepX Γ hm p x vs → RepX Γ hm p y vs ∧ (y ≠ .any → y.ty.isAgg = x.ty.isAgg ∧ (x ≠ .nilc → y.ty = x.ty))
  | .d τ c, x, p, vs, h, hr => by
    cases x
    case nilc =>
      simp only [V.into] at h
      obtain ⟨⟨eb, e, rfl⟩, rfl⟩ := h
      simp only [RepX] at hr ⊢
      subst hr
      exact ⟨repC_mk_slice rfl (Nat.le_refl _) (Nat.zero_le _) (by rw [Nat.zero_mul]; exact Nat.zero_le _) (.inl rfl), fun _ => ⟨rfl, fun h => absurd rfl h⟩⟩
    all_goals
      simp only [V.into] at h
      obtain ⟨h1, h2⟩ := h
      have := closeV_rep _ hr h1
      rw [h2] at this
      exact ⟨by simpa only [RepX] using this, fun _ => ⟨by simp only [V.ty] at h2 ⊢; rw [h2], fun _ => by simp only [V.ty] at h2 ⊢; rw [h2]⟩⟩
  | .emp eb e, x, p, vs, h, hr => by
    simp only [V.into] at h
    rcases h with rfl | rfl
    · exact ⟨hr, fun _ => ⟨rfl, fun _ => rfl⟩⟩
    · simp only [RepX] at hr ⊢
      subst hr
      exact ⟨⟨none, rfl⟩, fun _ => ⟨rfl, fun h => absurd rfl h⟩⟩
  | .agg τ ws, x, p, vs, h, hr => by
    cases x
    case agg τ' us =>
      simp only [V.into] at h
      obtain ⟨rfl, h⟩ := h
      simp only [RepX] at hr ⊢
      obtain ⟨r1, r2, r3, r4, r5⟩ := hr
      exact ⟨⟨r1, r2, by rw [← V.intos_length h]; exact r3, r4, RepXs.into ws us h r5⟩, fun _ => ⟨rfl, fun _ => rfl⟩⟩
    all_goals (simp only [V.into] at h; cases h)
  | .any, x, p, vs, _, _ => ⟨by simp only [RepX], fun h => absurd rfl h⟩
  | .sl eb e cs t, x, p, vs, h, hr => by simp only [V.into] at h; subst h; exact ⟨hr, fun _ => ⟨rfl, fun _ => rfl⟩⟩
  | .ts eb e cs, x, p, vs, h, hr => by simp only [V.into] at h; subst h; exact ⟨hr, fun _ => ⟨rfl, fun _ => rfl⟩⟩
  | .nilc, x, p, vs, h, hr => by simp only [V.into] at h; subst h; exact ⟨hr, fun _ => ⟨rfl, fun _ => rfl⟩⟩
  | .ptr k q τ, x, p, vs, h, hr => by simp only [V.into] at h; subst h; exact ⟨hr, fun _ => ⟨rfl, fun _ => rfl⟩⟩
  | .cptr τ c, x, p, vs, h, hr => by simp only [V.into] at h; subst h; exact ⟨hr, fun _ => ⟨rfl, fun _ => rfl⟩⟩
  | .sr k q lo n cp eb e, x, p, vs, h, hr => by simp only [V.into] at h; subst h; exact ⟨hr, fun _ => ⟨rfl, fun _ => rfl⟩⟩
  | .mp k, x, p, vs, h, hr => by simp only [V.into] at h; subst h; exact ⟨hr, fun _ => ⟨rfl, fun _ => rfl⟩⟩
  | .fn f caps, x, p, vs, h, hr => by simp only [V.into] at h; subst h; exact ⟨hr, fun _ => ⟨rfl, fun _ => rfl⟩⟩
  | .tup us, x, p, vs, h, hr => by simp only [V.into] at h; subst h; exact ⟨hr, fun _ => ⟨rfl, fun _ => rfl⟩⟩
  | .top τ, x, p, vs, h, hr => by simp only [V.into] at h; subst h; exact ⟨hr, fun _ => ⟨rfl, fun _ => rfl⟩⟩
theorem RepXs.into {hm : Option Key} : ∀ (ys xs : List V) {p : List Nat} {i : Nat} {τ : Ty} {vs : List Value}, V.intos xs ys → RepXs Γ hm p i τ xs vs → RepXs Γ hm p i τ ys vs
  | [], [], _, _, _, _, _, h => h
  | y :: ys, x :: xs, p, i, τ, vs, h, hr => by
    simp only [V.intos] at h
    simp only [RepXs] at hr ⊢
    obtain ⟨⟨o, f, h1, h2, h3, h4⟩, h5⟩ := hr
    obtain ⟨k1, k2⟩ := RepX.into y x h.1 h4
    exact ⟨⟨o, f, h1, h.2.1.trans h2, h3, k1⟩, RepXs.into ys xs h.2.2 h5⟩
  | [], _ :: _, _, _, _, _, h, _ => by simp [V.intos] at h
  | _ :: _, [], _, _, _, _, h, _ => by simp [V.intos] at h
end
mutual
theorem V.ok_mono {f g f' g' : Nat → Bool} (hf : ∀ n, f n = true → f' n = true) (hg : ∀ n, g n = true → g' n = true) : ∀ x : V, x.ok f g = true → x.ok f' g' = true
  | .ptr (.l k) _ _, h | .mp (.l k), h | .sr (.l k) _ _ _ _ _ _, h => by simp only [V.ok] at h ⊢; exact hf _ h
  | .sl _ _ _ t, h => by simp only [V.ok] at h ⊢; exact hg _ h
  | .agg _ vs, h | .fn _ vs, h | .tup vs, h => by simp only [V.ok] at h ⊢; exact V.oks_mono hf hg vs h
  | .ptr (.g _) _ _, _ | .mp (.g _), _ | .sr (.g _) _ _ _ _ _ _, _ | .d _ _, _ | .ts _ _ _, _ | .emp _ _, _ | .nilc, _ | .cptr _ _, _ | .top _, _ | .any, _ => by simp [V.ok]
theorem V.oks_mono {f g f' g' : Nat → Bool} (hf : ∀ n, f n = true → f' n = true) (hg : ∀ n, g n = true → g' n = true) : ∀ xs : List V, V.oks f g xs = true → V.oks f' g' xs = true
  | [], _ => rfl
  | x :: xs, h => by simp only [V.oks, Bool.and_eq_true] at h ⊢; exact ⟨V.ok_mono hf hg x h.1, V.oks_mono hf hg xs h.2⟩
end
theorem V.oksM_mono {f g f' g' : Nat → Bool} (hf : ∀ n, f n = true → f' n = true) (hg : ∀ n, g n = true → g' n = true) : ∀ xs : List (C × V), V.oksM f g xs = true → V.oksM f' g' xs = true
  | [], _ => rfl
  | x :: xs, h => by simp only [V.oksM, Bool.and_eq_true] at h ⊢; exact ⟨V.ok_mono hf hg x.2 h.1, V.oksM_mono hf hg xs h.2⟩
theorem O.ok_mono {f g f' g' : Nat → Bool} (hf : ∀ n, f n = true → f' n = true) (hg : ∀ n, g n = true → g' n = true) (o : O) (h : o.ok f g = true) : o.ok f' g' = true := by
  cases o with
  | box x => exact V.ok_mono hf hg x h
  | map => exact V.oksM_mono hf hg _ h
  | it => rfl
  | dead => rfl

structure Sub (Γ Γ' : G) (f g : Nat → Bool) : Prop where
  oo : Γ'.oo = Γ.oo
  σ : Γ'.σ = Γ.σ
  H : Γ'.H = Γ.H
  Z : Γ'.Z = Γ.Z
  gl : Γ'.gl = Γ.gl
  ιg : ∀ k, Γ'.ι (.g k) = Γ.ι (.g k)
  ιl : ∀ n, f n = true → Γ'.ι (.l n) = Γ.ι (.l n)
  τ : ∀ t, g t = true → Γ'.τ t = Γ.τ t
  κ : ∀ b k p sz, Γ.κ b = some (.home k p, sz) → Γ'.κ b = Γ.κ b
variable {Γ' : G} {f g : Nat → Bool}
mutual
theorem RepX.sub (hs : Sub Γ Γ' f g) {hm : Option Key} : ∀ (x : V) {p : List Nat} {vs : List Value}, x.ok f g = true → RepX Γ hm p x vs → RepX Γ' hm p x vs
  | .d _ _, _, _, _, h => by simp only [RepX] at h ⊢; rw [hs.H]; exact h
  | .sl eb e cs t, _, _, ho, h => by
    simp only [RepX] at h ⊢
    obtain ⟨a, n, cap, h1, h2, x, L, h3, h4⟩ := h
    exact ⟨a, n, cap, h1, by rw [hs.H]; exact h2, x, L, by rw [hs.τ t (by simpa [V.ok] using ho)]; exact h3, h4⟩
  | .ts eb e cs, _, _, _, h => by
    simp only [RepX] at h ⊢
    obtain ⟨a, n, cap, k, h0, h1, h2, h3⟩ := h
    refine ⟨a, n, cap, k, h0, h1, by rw [hs.H]; exact h2, ?_⟩
    rcases h3 with h3 | ⟨b, l, sz, a1, a2, a3, a4, a5⟩
    · exact .inl h3
    · exact .inr ⟨b, l, sz, a1, by rw [hs.H]; exact a2, a3, by rw [hs.κ b k _ sz a4]; exact a4, a5⟩
  | .emp _ _, _, _, _, h => by simpa only [RepX] using h
  | .nilc, _, _, _, h => by simpa only [RepX] using h
  | .ptr (.l k) q τ, _, _, ho, h => by
    simp only [RepX] at h ⊢
    rw [hs.ιl k (by simpa [V.ok] using ho)]; exact h
  | .ptr (.g k) q τ, _, _, _, h => by
    simp only [RepX] at h ⊢
    rw [hs.ιg]; exact h
  | .cptr τ c, _, _, _, h => by
    simp only [RepX] at h ⊢
    rw [hs.H]; exact h
  | .sr (.l k) _ _ _ _ _ _, _, _, ho, h => by
    simp only [RepX] at h ⊢
    rw [hs.ιl k (by simpa [V.ok] using ho), hs.σ]; exact h
  | .sr (.g k) _ _ _ _ _ _, _, _, _, h => by
    simp only [RepX] at h ⊢
    rw [hs.ιg, hs.σ]; exact h
  | .mp (.l k), _, _, ho, h => by
    simp only [RepX] at h ⊢
    rw [hs.ιl k (by simpa [V.ok] using ho)]; exact h
  | .mp (.g k), _, _, _, h => by
    simp only [RepX] at h ⊢
    rw [hs.ιg]; exact h
  | .agg τ xs, _, _, ho, h => by
    simp only [RepX] at h ⊢
    exact ⟨h.1, h.2.1, h.2.2.1, h.2.2.2.1, RepXs.sub hs xs (by simpa [V.ok] using ho) h.2.2.2.2⟩
  | .fn _ caps, _, _, ho, h => by
    simp only [RepX] at h ⊢
    obtain ⟨cv, h1, h2⟩ := h
    exact ⟨cv, h1, RepCaps.sub hs caps (by simpa [V.ok] using ho) h2⟩
  | .tup _, _, _, _, h => by simp only [RepX] at h
  | .top _, _, _, _, h => by simpa only [RepX] using h
  | .any, _, _, _, _ => by simp only [RepX]
theorem RepXs.sub (hs : Sub Γ Γ' f g) {hm : Option Key} : ∀ (xs : List V) {p : List Nat} {i : Nat} {τ : Ty} {vs : List Value}, V.oks f g xs = true → RepXs Γ hm p i τ xs vs → RepXs Γ' hm p i τ xs vs
  | [], _, _, _, _, _, _ => by simp only [RepXs]
  | x :: xs, _, _, _, _, ho, h => by
    simp only [RepXs] at h ⊢
    simp only [V.oks, Bool.and_eq_true] at ho
    obtain ⟨⟨o, ff, h1, h2, h3, h4⟩, h5⟩ := h
    exact ⟨⟨o, ff, h1, h2, h3, RepX.sub hs x ho.1 h4⟩, RepXs.sub hs xs ho.2 h5⟩
theorem RepCaps.sub (hs : Sub Γ Γ' f g) : ∀ (xs : List V) {vs : List Value}, V.oks f g xs = true → RepCaps Γ xs vs → RepCaps Γ' xs vs
  | [], _, _, h => by simpa only [RepCaps] using h
  | x :: xs, _, ho, h => by
    simp only [RepCaps] at h ⊢
    simp only [V.oks, Bool.and_eq_true] at ho
    obtain ⟨v, vs', h1, h2, h3, h4⟩ := h
    exact ⟨v, vs', h1, RepX.sub hs x ho.1 h2, h3, RepCaps.sub hs xs ho.2 h4⟩
end
theorem RepV.sub (hs : Sub Γ Γ' f g) {x : V} {v : Value} (ho : x.ok f g = true) (h : RepV Γ x v) : RepV Γ' x v := by
  cases x
  case any => trivial
  case tup us => obtain ⟨vs, h1, h2⟩ := h; exact ⟨vs, h1, RepCaps.sub hs _ (by simpa [V.ok] using ho) h2⟩
  all_goals exact ⟨RepX.sub hs _ ho h.1, h.2⟩
theorem oksM_get {f g : Nat → Bool} : ∀ {es : List (C × V)} {i : Nat} {c : C × V}, V.oksM f g es = true → es[i]? = some c → c.2.ok f g = true
  | [], _, _, _, h => by simp at h
  | x :: xs, 0, c, h, hc => by simp [V.oksM] at h; simp at hc; subst hc; exact h.1
  | x :: xs, i + 1, c, h, hc => by simp [V.oksM] at h; exact oksM_get h.2 (by simpa using hc)
theorem Own.sub (hs : Sub Γ Γ' f g) {w : World} {k : Key} {o : O} (hk : Γ'.ι k = Γ.ι k) (ho : o.ok f g = true) (h : Own Γ w k o) : Own Γ' w k o := by
  cases o with
  | box x =>
    obtain ⟨b, cells, T, h1, h2, h3, h4, h5, h6, h7⟩ := h
    exact ⟨b, cells, T, by rw [hk]; exact h1, by rw [hs.H]; exact h2, by rw [hs.Z]; exact h3, h4, h5, RepX.sub hs x ho h6, h7⟩
  | map kτ vτ es =>
    obtain ⟨b, ms, clock, h1, h2, h3, h4, h5, h6, h7⟩ := h
    refine ⟨b, ms, clock, by rw [hk]; exact h1, by rw [hs.H]; exact h2, by rw [hs.Z]; exact h3, h4, h5, fun i m c hm hc => ?_, h7⟩
    obtain ⟨a1, a2, a3, a4⟩ := h6 i m c hm hc
    exact ⟨by rw [hs.H]; exact a1, a2, RepX.sub hs _ (oksM_get ho hc) a3, a4⟩
  | it l pos =>
    obtain ⟨b, adr, v, h1, h2, h3, h4, h5, h6, h7⟩ := h
    refine ⟨b, adr, v, by rw [hk]; exact h1, by rw [hs.H]; exact h2, by rw [hs.Z]; exact h3, h4, h5, h6, ?_⟩
    rcases h7 with h7 | ⟨g, cap, g1, g2, g3, g4⟩
    · exact .inl h7
    · exact .inr ⟨g, cap, g1, by rw [hs.H]; exact g2, by rw [hs.κ g _ _ _ g3]; exact g3, g4⟩
  | dead τ =>
    obtain ⟨b, h1, h4⟩ := h
    exact ⟨b, by rw [hk]; exact h1, h4⟩
theorem Own.into {w : World} {k : Key} {o o' : O} (hi : O.into o o') (h : Own Γ w k o) : Own Γ w k o' := by
  cases o' with
  | dead τ =>
    have e : τ = o.ty := by cases o <;> exact hi
    obtain ⟨b, τ', h1, _, h4, h5⟩ := h.block
    exact ⟨b, by rw [e, ← h5]; exact h1, h4⟩
  | box y => cases o with
    | box x =>
      obtain ⟨b, cells, T, h1, h2, h3, h4, h5, h6, h7, h8⟩ := h
      obtain ⟨i1, ht, i2, i3⟩ := hi
      obtain ⟨r1, _⟩ := RepX.into y x i1 h6
      exact ⟨b, cells, T, by rw [ht]; exact h1, h2, h3, h4, by rw [ht]; exact h5, by rw [ht]; exact r1, i2, i3⟩
    | _ => exact hi.elim
  | map kτ vτ es => cases o with
    | map => obtain ⟨rfl, rfl, rfl⟩ := hi; exact h
    | _ => exact hi.elim
  | it l p => cases o with
    | it => obtain ⟨rfl, rfl⟩ := hi; exact h
    | _ => exact hi.elim
theorem O.into_virt {o o' : O} (hi : O.into o o') (h : o.virt) : o'.virt := by
  cases o' with
  | dead => trivial
  | box y => cases o with
    | box x =>
      obtain ⟨e, rfl⟩ := h
      obtain ⟨i1, _, i2, _⟩ := hi
      cases y <;> simp only [V.into, V.plain, reduceCtorEq, or_self, Bool.false_eq_true] at i1 i2
      obtain ⟨h1, rfl⟩ := i1
      simp only [closeV, Option.some.injEq] at h1
      subst h1
      exact ⟨e, rfl⟩
    | _ => exact hi.elim
  | map kτ vτ es => cases o with
    | map => exact h.elim
    | _ => exact hi.elim
  | it l p => cases o with
    | it => exact h.elim
    | _ => exact hi.elim
theorem O.into_dead {o o' : O} (hi : O.into o o') (h : o.isDead = true) : o'.isDead = true := by
  cases o <;> simp [O.isDead] at h
  cases o' <;> first | rfl | exact hi.elim
end
end Go.E


namespace Go.E
open Go

def locW (s : S) : List (Key × O) → Prop
  | [] => True
  | (k, o) :: l => (match s.obj k with | some o0 => O.into o0 o | none => False) ∧ locW s l
def allDB (τ : Ty) : List (C × V) → Bool
  | [] => true
  | (_, v) :: l => (match v with | .d τ' _ => Ty.beq τ' τ | _ => false) && allDB τ l
theorem allDB_ok {f g : Nat → Bool} {τ : Ty} : ∀ {es : List (C × V)}, allDB τ es = true → V.oksM f g es = true
  | [], _ => rfl
  | (_, v) :: l, h => by
    simp only [allDB, Bool.and_eq_true] at h
    simp only [V.oksM, Bool.and_eq_true]
    refine ⟨?_, allDB_ok h.2⟩
    cases v <;> simp at h
    rfl
def O.okB (f g : Nat → Bool) : O → Bool
  | .map _ vτ es => allDB vτ es
  | o => o.ok f g
theorem O.okB_ok {f g : Nat → Bool} {o : O} (h : o.okB f g = true) : o.ok f g = true := by
  cases o with
  | map kτ vτ es => exact allDB_ok h
  | _ => exact h
def locOk (f g : Nat → Bool) : List (Key × O) → Bool
  | [] => true
  | (_, o) :: l => o.okB f g && locOk f g l
def allG (L : List (Key × O)) (A : Key → Option O) : List (Key × O) → Prop
  | [] => True
  | (.g k, o) :: l => ((lookK L (.g k)).isSome = true ∨ A k = some o) ∧ allG L A l
  | (.l _, _) :: l => allG L A l
def envW (f g : Nat → Bool) (s : S) : List (Nat × V) → Prop
  | [] => True
  | (i, x) :: l => V.into (s.get i) x ∧ x.ok f g = true ∧ (x = .any ∨ x.ty.isAgg = (s.get i).ty.isAgg) ∧ envW f g s l
def tkW (s : S) : List (Nat × Option Nat) → Prop
  | [] => True
  | (t, x) :: l => (match x with | some L => s.live t = some L | none => s.known t = true) ∧ tkW s l
theorem locW_look {s : S} : ∀ {l : List (Key × O)} {k : Key} {o : O}, locW s l → lookK l k = some o → ∃ o0, s.obj k = some o0 ∧ O.into o0 o
  | [], _, _, _, h => by simp [lookK] at h
  | (j, p) :: l, k, o, hw, h => by
    simp only [lookK] at h
    split at h
    · rename_i e
      cases h; subst e
      have := hw.1
      split at this
      · rename_i o0 ho; exact ⟨o0, ho, this⟩
      · exact this.elim
    · exact locW_look hw.2 h
theorem locOk_look {f g : Nat → Bool} : ∀ {l : List (Key × O)} {k : Key} {o : O}, locOk f g l = true → lookK l k = some o → o.ok f g = true
  | [], _, _, _, h => by simp [lookK] at h
  | (j, p) :: l, k, o, hw, h => by
    simp only [lookK] at h
    simp only [locOk, Bool.and_eq_true] at hw
    split at h
    · cases h; exact O.okB_ok hw.1
    · exact locOk_look hw.2 h
theorem allG_look {L : List (Key × O)} {A : Key → Option O} : ∀ {l : List (Key × O)} {k : Key} {o : O}, allG L A l → lookK l (.g k) = some o → (lookK L (.g k)).isSome = true ∨ A k = some o
  | [], _, _, _, h => by simp [lookK] at h
  | (.l j, p) :: l, k, o, hw, h => by simp [lookK] at h; exact allG_look (l := l) hw h
  | (.g j, p) :: l, k, o, hw, h => by
    simp only [lookK] at h
    split at h
    · rename_i e; cases e; cases h; exact hw.1
    · exact allG_look hw.2 h
theorem envW_look {f g : Nat → Bool} {s : S} : ∀ {l : List (Nat × V)} {i : Nat} {x : V}, envW f g s l → look l i = some x → V.into (s.get i) x ∧ x.ok f g = true ∧ (x = .any ∨ x.ty.isAgg = (s.get i).ty.isAgg)
  | [], _, _, _, h => by simp [look] at h
  | (j, y) :: l, i, x, hw, h => by
    simp only [look] at h
    split at h
    · rename_i e; cases h; subst e; exact ⟨hw.1, hw.2.1, hw.2.2.1⟩
    · exact envW_look hw.2.2.2 h
theorem tkW_look {s : S} : ∀ {l : List (Nat × Option Nat)} {t : Nat} {x : Option Nat}, tkW s l → look l t = some x → match x with | some L => s.live t = some L | none => s.known t = true
  | [], _, _, _, h => by simp [look] at h
  | (j, y) :: l, t, x, hw, h => by
    simp only [look] at h
    split at h
    · rename_i e; cases h; subst e; exact hw.1
    · exact tkW_look hw.2 h

section
variable {Γ : G} {w : World} {s : S}
theorem obj_sub {s' : S} (hA : s'.A = s.A) (hg : allG s'.loc s.A s.loc) {k : Key} (h : lookK s'.loc (.g k) = none) : s'.obj (.g k) = s.obj (.g k) := by
  unfold S.obj objOf
  rw [h]
  simp only
  cases ho : lookK s.loc (.g k) with
  | none => rw [hA]
  | some o =>
    rcases allG_look hg ho with h1 | h1
    · rw [h] at h1; cases h1
    · rw [hA]; exact h1
theorem Conc.sub (c : Conc Γ w s) {Γ' : G} {f g : Nat → Bool} {s' : S} (hs : Sub Γ Γ' f g) (hf : f = hasL s'.loc) (hι : ∀ n, f n = false → Γ'.ι (.l n) = none) (hA : s'.A = s.A) (hAok : AOk s.A)
    (hloc : locW s s'.loc) (hlok : locOk f g s'.loc = true) (hg : allG s'.loc s.A s.loc)
    (hκ : ∀ b o sz, Γ'.κ b = some (o, sz) → ∃ o', Γ.κ b = some (o', sz) ∧ ∀ T, TipT o' T → TipT o T)
    (tok : ∀ t L, s'.live t = some L → ∃ x, Γ'.τ t = some (x, L) ∧ ∀ b pos sz, x = some (b, pos, sz) → (∃ l, Γ.H b = some l ∧ l.length = pos) ∧ Γ'.κ b = some (.tok t, sz))
    (tdom : ∀ t, Γ'.τ t ≠ none → s'.known t = true) : Conc Γ' w s' := by
  subst hf
  have hfl : ∀ n, hasL s'.loc n = true ↔ lookK s'.loc (.l n) ≠ none := by
    intro n; unfold hasL; cases lookK s'.loc (.l n) <;> simp
  have keyok : ∀ k o, s'.obj k = some o → Γ'.ι k = Γ.ι k := by
    intro k o h
    cases k with
    | g k => exact hs.ιg k
    | l n =>
      refine hs.ιl n ?_
      rw [hfl]
      unfold S.obj objOf at h
      intro e
      rw [e] at h; cases h
  refine ⟨fun b l h => c.hH b l (by rw [← hs.H]; exact h), fun b o h => c.hZ b o (by rw [← hs.Z]; exact h), fun b o sz h => ?_, fun k o h => ?_, fun k h => ?_, fun k k' b τ τ' h1 h2 => ?_, fun t L h => ?_, tdom, fun gg τ cc h => ?_, by rw [hs.oo]; exact c.hoo, fun b sz h => c.hσ b sz (by rw [← hs.σ]; exact h)⟩
  · obtain ⟨o', h', hT⟩ := hκ b o sz h
    obtain ⟨a1, a2, arr, T, a3, a4, a5⟩ := c.hκ b o' sz h'
    exact ⟨by rw [hs.Z]; exact a1, by rw [hs.H]; exact a2, arr, T, a3, a4, hT T a5⟩
  · have hk := keyok k o h
    cases hl : lookK s'.loc k with
    | some o1 =>
      have : o1 = o := by unfold S.obj objOf at h; rw [hl] at h; cases h; rfl
      subst this
      obtain ⟨o0, ho, hi⟩ := locW_look hloc hl
      exact (c.obj k o0 ho).imp (fun h => ⟨hk.trans h.1, O.into_virt hi h.2⟩) fun hown => (hown.into hi).sub hs hk (locOk_look hlok hl)
    | none =>
      cases k with
      | l n => unfold S.obj objOf at h; rw [hl] at h; cases h
      | g k =>
        have h' : s.obj (.g k) = some o := by rw [← obj_sub hA hg hl]; exact h
        have hAk : s.A k = some o := by
          have h2 : s'.A k = some o := by unfold S.obj objOf at h; rw [hl] at h; exact h
          rw [← hA]; exact h2
        exact (c.obj _ o h').imp (fun h => ⟨hk.trans h.1, h.2⟩) fun hown => hown.sub hs hk (O.ok_mono (by simp [none0]) (by simp [none0]) o (hAok k o hAk))
  · cases k with
    | l n =>
      cases hh : hasL s'.loc n with
      | false => exact absurd (hι n hh) h
      | true =>
        have := (hfl n).1 hh
        unfold S.obj objOf
        cases hl : lookK s'.loc (.l n) with
        | none => exact absurd hl this
        | some o => simp
    | g k =>
      rw [hs.ιg] at h
      have := c.dom _ h
      cases hl : lookK s'.loc (.g k) with
      | some o => unfold S.obj objOf; rw [hl]; simp
      | none => rw [obj_sub hA hg hl]; exact this
  · have back : ∀ k x, Γ'.ι k = some x → Γ.ι k = some x := by
      intro k x h
      cases k with
      | g k => rw [← hs.ιg]; exact h
      | l n =>
        cases hh : hasL s'.loc n with
        | false => rw [hι n hh] at h; cases h
        | true => rw [← hs.ιl n hh]; exact h
    have hdead : ∀ k x, Γ'.ι k = some x → s.deadK k = true → s'.deadK k = true := by
      intro k x hx h
      cases hl : lookK s'.loc k with
      | some o1 =>
        obtain ⟨o0, ho, hi⟩ := locW_look hloc hl
        rw [deadK_obj ho] at h
        have e : s'.obj k = some o1 := by unfold S.obj objOf; rw [hl]
        rw [deadK_obj e]
        exact O.into_dead hi h
      | none =>
        cases k with
        | g k => unfold S.deadK at h ⊢; rw [obj_sub hA hg hl]; exact h
        | l n =>
          cases hh : hasL s'.loc n with
          | false => rw [hι n hh] at hx; cases hx
          | true => exact absurd hl ((hfl n).1 hh)
    exact (c.inj k k' b τ τ' (back _ _ h1) (back _ _ h2)).imp id (And.imp (Or.imp (hdead _ _ h1) (hdead _ _ h2)) id)
  · obtain ⟨x, a1, a2⟩ := tok t L h
    refine ⟨x, a1, fun b pos sz hx => ?_⟩
    obtain ⟨a3, a4⟩ := a2 b pos sz hx
    exact ⟨by rw [hs.H]; exact a3, a4⟩
  · rw [hs.H]; exact c.hgl gg τ cc (by rw [← hs.gl]; exact h)
end

def G.part (Γ : G) (f g : Nat → Bool) : G :=
  { Γ with ι := fun k => match k with | .l n => if f n then Γ.ι (.l n) else none | .g k => Γ.ι (.g k), τ := fun t => if g t then Γ.τ t else none }
theorem weak_to {X : Cx} {n : Nat} {s s' : S} (hA : s'.A = s.A) (hloc : locW s s'.loc) (hlok : locOk (hasL s'.loc) (hasT s'.tk) s'.loc = true) (hg : allG s'.loc s.A s.loc)
    (htk : tkW s s'.tk) (henv : envW (hasL s'.loc) (hasT s'.tk) s s'.env) : Weak X n s s' := by
  rintro Γ0 a w ⟨Γ, g1, g3, c, hs, hn, hf, hAok⟩
  have sub : Sub Γ (Γ.part (hasL s'.loc) (hasT s'.tk)) (hasL s'.loc) (hasT s'.tk) :=
    ⟨rfl, rfl, rfl, rfl, rfl, fun _ => rfl, fun n h => by simp [G.part, h], fun t h => by simp [G.part, h], fun _ _ _ _ _ => rfl⟩
  refine ⟨Γ.part (hasL s'.loc) (hasT s'.tk), ⟨g1.H, g1.Z, g1.ZH, g1.g, g1.gl, g1.oo, g1.σ, g1.gn⟩, g3, c.sub sub rfl (fun n h => by simp [G.part, h]) hA hAok hloc hlok hg (fun b o sz h => ⟨o, h, fun _ h => h⟩) (fun t L h => ?_) (fun t h => ?_), fun i => ?_, hn, hf, by rw [hA]; exact hAok⟩
  · unfold S.live liveT at h
    cases hl : look s'.tk t with
    | none => simp [hl] at h
    | some x =>
      cases x with
      | none => simp [hl] at h
      | some M =>
        simp [hl] at h; subst h
        have hlive : s.live t = some M := tkW_look htk hl
        obtain ⟨x, a1, a2⟩ := c.tok t M hlive
        exact ⟨x, by simp [G.part, hasT, hl, a1], fun b pos sz hx => a2 b pos sz hx⟩
  · cases hh : hasT s'.tk t with
    | true => exact hh
    | false => simp [G.part, hh] at h
  · cases hl : look s'.env i with
    | none => simp [S.get, hl, RepV]
    | some x =>
      obtain ⟨e1, e2, e3⟩ := envW_look henv hl
      have hget : s'.get i = x := by simp [S.get, hl]
      rw [hget]
      by_cases hx : x = .any
      · subst hx; trivial
      · have hr := hs i
        have e3 := e3.resolve_left hx
        refine RepV.sub sub e2 ?_
        cases hsi : s.get i with
        | any =>
          rw [hsi] at e1
          cases x <;> simp [V.into, closeV] at e1 hx
        | tup us =>
          rw [hsi] at e1 hr
          cases x <;> simp [V.into, closeV] at e1 hx
          subst e1; exact hr
        | _ =>
          rw [hsi] at e1 hr e3
          have hpl : RepX Γ none [] _ (a.tmps.getD i undef).cells.toList ∧ _ := hr
          obtain ⟨r1, r2⟩ := RepX.into x _ e1 hpl.1
          have hxp := V.plain_of_rep r1 hx
          exact (repV_plain hxp).2 ⟨r1, by rw [e3]; exact hpl.2⟩
end Go.E


namespace Go.E
open Go

def resOf (X : Cx) (s : S) (r : ResultVar) : V :=
  match r with
  | .tmp t => s.get t
  | .cell a t => (match s.get a with
      | .ptr k q τ => (match s.obj k with
          | some (.box y) => view (y.at q)
          | _ => .any)
      | _ => .any)
def ress (X : Cx) (s : S) : List ResultVar → List V
  | [] => []
  | r :: rs => resOf X s r :: ress X s rs
def resChk (X : Cx) (s : S) (r : ResultVar) : Prop :=
  match r with
  | .tmp _ => True
  | .cell a t => (match s.get a with
      | .ptr k q τ => (match s.obj k with
          | some (.box y) => τ = ty X.P t ∧ τ.known = true ∧ y.at q ≠ .any
          | _ => False)
      | _ => False)
def ressChk (X : Cx) (s : S) : List ResultVar → Prop
  | [] => True
  | r :: rs => resChk X s r ∧ ressChk X s rs
def resInto (s : S) (f : Nat → Bool) (x : V) (v : V) : Prop :=
  match v with
  | .ts eb e cs => (match x with
    | .sl eb' e' cs' t => eb' = eb ∧ e' = e ∧ cs' = cs ∧ s.live t = some cs.length
    | .emp eb' e' => eb' = eb ∧ e' = e ∧ cs = []
    | .nilc => cs = []
    | _ => False)
  | v => V.into x v ∧ v.ok f none0 = true ∧ v.plain = true ∧ v.ty.isAgg = x.ty.isAgg
def resIntos (s : S) (f : Nat → Bool) : List V → List V → Prop
  | [], [] => True
  | x :: xs, v :: vs => resInto s f x v ∧ resIntos s f xs vs
  | _, _ => False
def retV : List V → V → Option (List V)
  | [_], v => some [v]
  | _, .tup vs => some vs
  | _, _ => none
def resTk : Nat → List V → List V → List (Nat × Option Nat)
  | m, x :: xs, v :: vs => (match v, x with
    | .ts _ _ _, .sl _ _ _ t => [(m, some t)]
    | .ts _ _ _, _ => [(m, none)]
    | _, _ => []) ++ resTk (m + 1) xs vs
  | _, _, _ => []
def somes : List (Nat × Option Nat) → List Nat
  | [] => []
  | (_, some t) :: l => t :: somes l
  | (_, none) :: l => somes l
def retOk (X : Cx) (fn : Func) (A : Key → Option O) (v : V) (L : List (Key × O)) (s : S) : Prop :=
  s.A = A ∧ locW s L ∧ locOk (hasL L) none0 L = true ∧ allG L A s.loc ∧ ressChk X s fn.results.toList ∧
    (match retV (ress X s fn.results.toList) v with
     | some vs => resIntos s (hasL L) (ress X s fn.results.toList) vs ∧ nodupN (somes (resTk 2000 (ress X s fn.results.toList) vs)) = true
     | none => False)

def pairIx : List (Nat × Option Nat) → Nat → Option Nat
  | [], _ => none
  | (m, some t) :: l, u => if t = u then some m else pairIx l u
  | (_, none) :: l, u => pairIx l u
theorem pairIx_mem : ∀ {l : List (Nat × Option Nat)} {m t : Nat}, nodupN (somes l) = true → look l m = some (some t) → pairIx l t = some m
  | [], _, _, _, h => by simp [look] at h
  | (j, y) :: l, m, t, hn, h => by
    simp only [look] at h
    split at h
    · rename_i e; cases h; subst e; simp [pairIx]
    · cases y with
      | none => exact pairIx_mem (l := l) hn h
      | some u =>
        simp only [somes, nodupN, Bool.and_eq_true, Bool.not_eq_true'] at hn
        have ih := pairIx_mem hn.2 h
        have hne : u ≠ t := by
          intro e; subst e
          have hm : ∀ {l : List (Nat × Option Nat)} {m : Nat}, look l m = some (some u) → u ∈ somes l := by
            intro l
            induction l with
            | nil => intro m h; simp [look] at h
            | cons z l ih =>
              obtain ⟨j', y'⟩ := z
              intro m h
              simp only [look] at h
              split at h
              · cases h; simp [somes]
              · cases y' with
                | none => exact ih h
                | some t' => simp [somes, ih h]
          have := hm h
          simp [this] at hn
        simp [pairIx, hne, ih]
def G.fin (Γ : G) (f : Nat → Bool) (pairs : List (Nat × Option Nat)) : G :=
  { Γ with
    ι := fun k => match k with | .l n => if f n then Γ.ι (.l n) else none | .g k => Γ.ι (.g k)
    τ := fun m => match look pairs m with
      | some (some t) => Γ.τ t
      | some none => some (none, 0)
      | none => none
    κ := fun b => match Γ.κ b with
      | some (.tok t, sz) => match pairIx pairs t with
        | some m => some (.tok m, sz)
        | none => none
      | x => x }
theorem resTk_look : ∀ {n : Nat} {xs vs : List V} {m : Nat}, look (resTk n xs vs) m = if n ≤ m then (match xs[m - n]?, vs[m - n]? with
    | some (.sl _ _ _ t), some (.ts _ _ _) => some (some t)
    | some _, some (.ts _ _ _) => some none
    | _, _ => none) else none
  | n, [], vs, m => by simp [resTk, look]
  | n, x :: xs, [], m => by simp only [resTk, look]; split <;> simp
  | n, x :: xs, v :: vs, m => by
    simp only [resTk, look_append]
    have ih := resTk_look (n := n + 1) (xs := xs) (vs := vs) (m := m)
    by_cases h1 : n = m
    · subst h1
      have hr : look (resTk (n + 1) xs vs) n = none := by rw [ih, if_neg (by omega)]
      cases v <;> cases x <;> simp [look, hr]
    · have h0 : look (match v, x with
          | .ts _ _ _, .sl _ _ _ t => [(n, some t)]
          | .ts _ _ _, _ => [(n, none)]
          | _, _ => []) m = none := by
        cases v <;> cases x <;> simp [look, h1]
      rw [h0, ih]
      by_cases h2 : n ≤ m
      · rw [if_pos h2, if_pos (by omega), show m - n = (m - (n + 1)) + 1 by omega]
        simp only [List.getElem?_cons_succ]
      · rw [if_neg h2, if_neg (by omega)]

section
variable {X : Cx} {n : Nat} {s : S}
def resultOne (a : Act) : ResultVar → Sem Value
  | .tmp t => pure (a.tmps.getD t undef)
  | .cell b t => do loadVar t (← asAddr (a.tmps.getD b undef))
theorem results_eq (fn : Func) (a : Act) : results fn a.tmps = (do
    let vs ← fn.results.mapM (resultOne a)
    pure (if h : vs.size = 1 then vs[0] else .tuple vs)) := by
  unfold results
  congr 2
theorem run_result (hP : allOk X.P = true) {Γ : G} {w : World} {a : Act} (c : Conc Γ w s) (hs : Slots Γ s a.tmps) {r : ResultVar} (hch : resChk X s r) :
    ∃ v, (resultOne a r).run X.P w = .ok v w ∧ RepV Γ (resOf X s r) v := by
  cases r with
  | tmp t => exact ⟨_, rfl, hs t⟩
  | cell b t =>
    have hb := hs b
    simp only [resChk] at hch
    split at hch
    · rename_i k q τ hk
      rw [hk] at hb
      split at hch
      · rename_i y hy
        obtain ⟨u, h1, h2⟩ := load_ptr hP c hb hy hch.2.2 hch.1 hch.2.1
        obtain ⟨b', τ0, o, _, _, hv⟩ := repV_ptr hb
        refine ⟨u, ?_, ?_⟩
        · rw [hv] at h1
          simp only [resultOne, hv]
          simpa [Instr.loadAt, Instr.sureAddr, asAddr] using h1
        · simp only [resOf, hk, hy]
          exact h2
      · exact hch.elim
    · exact hch.elim
theorem run_results (hP : allOk X.P = true) {Γ : G} {w : World} {a : Act} (c : Conc Γ w s) (hs : Slots Γ s a.tmps) : ∀ (rs : List ResultVar), ressChk X s rs →
    ∃ vs : List Value, (rs.mapM (resultOne a)).run X.P w = .ok vs w ∧ vs.length = rs.length ∧
      ∀ (i : Nat) x v, (ress X s rs)[i]? = some x → vs[i]? = some v → RepV Γ x v
  | [], _ => ⟨[], by simp, rfl, by simp [ress]⟩
  | r :: rs, hpl => by
    simp only [ressChk] at hpl
    obtain ⟨v, h1, h2⟩ := run_result hP c hs hpl.1
    obtain ⟨vs, h3, h4, h5⟩ := run_results hP c hs rs hpl.2
    refine ⟨v :: vs, ?_, by simp [h4], ?_⟩
    · rw [List.mapM_cons]
      simp only [Sem.run_bind]
      rw [h1]
      simp only [Result.andThen_ok, Sem.run_bind]
      rw [h3]
      simp
    · intro i x u hx hu
      cases i with
      | zero => simp [ress] at hx hu; subst hx; subst hu; exact h2
      | succ i => exact h5 i x u (by simpa [ress] using hx) (by simpa using hu)
theorem ress_length : ∀ (rs : List ResultVar), (ress X s rs).length = rs.length
  | [] => rfl
  | r :: rs => by simp [ress, ress_length rs]
theorem resIntos_get {f : Nat → Bool} : ∀ {xs vs : List V} {i : Nat} {v : V}, resIntos s f xs vs → vs[i]? = some v → ∃ x, xs[i]? = some x ∧ resInto s f x v
  | [], [], _, _, _, h => by simp at h
  | x :: xs, v :: vs, 0, v', hr, h => by simp at h; subst h; exact ⟨x, rfl, hr.1⟩
  | x :: xs, v :: vs, i + 1, v', hr, h => by
    obtain ⟨y, h1, h2⟩ := resIntos_get hr.2 (show vs[i]? = some v' by simpa using h)
    exact ⟨y, by simpa using h1, h2⟩
  | [], _ :: _, _, _, hr, _ => by simp [resIntos] at hr
  | _ :: _, [], _, _, hr, _ => by simp [resIntos] at hr
theorem resIntos_len {f : Nat → Bool} : ∀ {xs vs : List V}, resIntos s f xs vs → xs.length = vs.length
  | [], [], _ => rfl
  | x :: xs, v :: vs, h => by simp [resIntos_len h.2]
  | [], _ :: _, hr => by simp [resIntos] at hr
  | _ :: _, [], hr => by simp [resIntos] at hr
theorem resInto_rep {Γ : G} {w : World} (c : Conc Γ w s) {f : Nat → Bool} {pairs : List (Nat × Option Nat)} {m : Nat} {x v : V} {u : Value} (hsub : Sub Γ (Γ.fin f pairs) f none0) (hr : RepV Γ x u) (hi : resInto s f x v)
    (hp : ∀ eb e cs, v = .ts eb e cs → match x with | .sl _ _ _ t => look pairs m = some (some t) | _ => look pairs m = some none) : RepV (Γ.fin f pairs) (v.slot m) u := by
  have other : v.notTs = true → V.into x v ∧ v.ok f none0 = true ∧ v.plain = true ∧ v.ty.isAgg = x.ty.isAgg → RepV (Γ.fin f pairs) (v.slot m) u := by
    intro hn ⟨h1, h2, h3, h4⟩
    have hvs : v.slot m = v := by cases v <;> simp [V.slot]; simp [V.notTs] at hn
    rw [hvs]
    refine RepV.sub hsub h2 ?_
    cases x with
    | any =>
      cases v <;> simp [V.into, closeV, V.plain] at h1 h3
    | tup us =>
      cases v <;> simp [V.into, closeV, V.plain] at h1 h3
    | _ =>
      obtain ⟨q1, q2⟩ := hr
      obtain ⟨r1, _⟩ := RepX.into v _ h1 q1
      exact (repV_plain h3).2 ⟨r1, by rw [h4]; exact q2⟩
  cases v
  case ts eb e cs =>
    have hp := hp eb e cs rfl
    simp only [resInto] at hi
    cases x <;> simp only at hi hp
    case sl eb' e' cs' t =>
      obtain ⟨rfl, rfl, rfl, hl⟩ := hi
      obtain ⟨h1, _⟩ := (repV_one rfl rfl).1 hr
      simp only [RepX] at h1
      obtain ⟨a, n, cap, hv, hrc, y, L, h2, h3, h4⟩ := h1
      simp at hv; subst hv
      simp only [V.slot]
      refine (repV_one rfl rfl).2 ⟨?_, rfl⟩
      simp only [RepX]
      exact ⟨a, n, cap, rfl, hrc, y, L, by simp [G.fin, hp, h2], h3, h4⟩
    case emp eb' e' =>
      obtain ⟨rfl, rfl, rfl⟩ := hi
      obtain ⟨h1, _⟩ := (repV_one rfl rfl).1 hr
      simp only [RepX] at h1
      obtain ⟨a, hv⟩ := h1
      simp at hv; subst hv
      simp only [V.slot]
      refine (repV_one rfl rfl).2 ⟨?_, rfl⟩
      simp only [RepX]
      exact ⟨a, 0, 0, rfl, repC_mk_slice rfl (Nat.le_refl _) (Nat.zero_le _) (by rw [Nat.zero_mul]; exact Nat.zero_le _) (.inl rfl), none, 0, by simp [G.fin, hp], Nat.le_refl _, fun _ => rfl⟩
    case nilc =>
      subst hi
      have hp2 : look pairs m = some none := by assumption
      rw [repV_nilc hr]
      simp only [V.slot]
      refine (repV_one rfl rfl).2 ⟨?_, rfl⟩
      simp only [RepX]
      exact ⟨none, 0, 0, rfl, repC_mk_slice rfl (Nat.le_refl _) (Nat.zero_le _) (by rw [Nat.zero_mul]; exact Nat.zero_le _) (.inl rfl), none, 0, by simp [G.fin, hp2], Nat.le_refl _, fun _ => rfl⟩
  all_goals exact other rfl (by simpa only [resInto] using hi)
theorem caps_of {Γ : G} : ∀ (xs : List V) (vs : List Value), xs.length = vs.length → (∀ (i : Nat) x, xs[i]? = some x → x.plain = true) → (∀ (i : Nat) x v, xs[i]? = some x → vs[i]? = some v → RepV Γ x v) → RepCaps Γ xs vs :=
  fun xs vs hl hp hr => repCaps_of hl fun i x v hx hv => ⟨hp i x hx, hr i x v hx hv⟩

theorem look_numbered : ∀ (xs : List V) (i j : Nat), look (numbered i xs) j = if i ≤ j then xs[j - i]? else none
  | [], i, j => by simp [numbered, look]
  | x :: xs, i, j => by
    simp only [numbered, look, look_numbered xs (i + 1) j]
    by_cases h1 : i = j
    · subst h1; simp
    · rw [if_neg h1]
      by_cases h2 : i ≤ j
      · rw [if_pos h2, if_pos (by omega), show j - i = (j - (i + 1)) + 1 by omega, List.getElem?_cons_succ]
      · rw [if_neg h2, if_neg (by omega)]

theorem dcalls_intro (hP : allOk X.P = true) {f : FuncId} {fn : Func} {c : Code} {xs : List V} {A : Key → Option O} {v : V} {L : List (Key × O)}
    (hf : X.P.funcs[f]? = some fn) (hb : fn.body = some c) (hn : fn.ntmps = n) (hlen : xs.length ≤ n)
    (h : ∀ A', (∀ k o, A k = some o → A' k = some o) → DC X n c (S.start xs A') fun e s' => (e = .normal ∨ e = .ret) ∧ retOk X fn A' v L s') : DCalls X f xs A v L := by
  intro A' Γ w args hAA hgl ⟨c0, hA0⟩ hargs hrep
  subst hn
  refine calls_of_wp hf hb ?_
  refine wp_mono (h A' hAA Γ { tmps := args ++ Array.replicate (fn.ntmps - args.size) undef, defers := [] } w ⟨Γ, .refl Γ, hgl, c0, ?_, by simp; omega, rfl, hA0⟩) ?_
  · intro i
    have hget : (S.start xs A').get i = ((slots 1000 xs)[i]?).getD .any := by
      simp only [S.get, S.start, look_numbered, Nat.zero_le, if_true, Nat.sub_zero]
    rw [hget]
    cases hx : (slots 1000 xs)[i]? with
    | none => simp [RepV]
    | some x =>
      have hi : i < args.size := by rw [← hargs, ← slots_length 1000 xs]; exact (List.getElem?_eq_some_iff.1 hx).1
      have hv : args[i]? = some args[i] := Array.getElem?_eq_getElem hi
      have := hrep i x _ hx hv
      rw [Array.getD_eq_getD_getElem?, Array.getElem?_append_left hi, hv]
      simpa using this
  · rintro e a w' ⟨s', ⟨he, hA, hL, hLok, hall, hch, hres⟩, Γ', g1, g3, c', hs, hn, hfr, hAok⟩
    obtain ⟨us, hvs, hvl, hvr⟩ := run_results hP c' hs _ hch
    split at hres
    · rename_i vs hretV
      obtain ⟨hri, hnd⟩ := hres
      generalize hxs : ress X s' fn.results.toList = rs at *
      have hrl : rs.length = fn.results.toList.length := by rw [← hxs]; exact ress_length _
      have hsub : Sub Γ' (Γ'.fin (hasL L) (resTk 2000 rs vs)) (hasL L) none0 :=
        ⟨rfl, rfl, rfl, rfl, rfl, fun _ => rfl, fun n h => by simp [G.fin, h], fun t h => by simp [none0] at h, fun b k p sz h => by simp [G.fin, h]⟩
      have hvlen := resIntos_len hri
      have hul : us.length = rs.length := by rw [hvl, hrl]
      -- what the places of the result's tokens are
      have htk : ∀ m, look (v.tkR 2000) m = if 2000 ≤ m then (match vs[m - 2000]? with | some (.ts _ _ cs) => some (some cs.length) | _ => none) else none := by
        intro m
        cases rs with
        | nil => cases v <;> simp [retV] at hretV; subst hretV; simp only [V.tkR, tksOf_look] <;> rfl
        | cons x1 rs1 => cases rs1 with
          | nil =>
            simp only [retV] at hretV
            cases hretV
            obtain ⟨x', _, hi'⟩ := resIntos_get hri (i := 0) (v := v) rfl
            have hnt : v.tkR 2000 = v.tkOf 2000 := by
              cases v <;> simp [V.tkR]
              simp [resInto, V.plain] at hi'
            rw [hnt, tkOf_look]
            by_cases hm : 2000 = m
            · subst hm; simp; cases v <;> rfl
            · rw [if_neg hm]
              by_cases hm2 : 2000 ≤ m
              · rw [if_pos hm2, show m - 2000 = (m - 2001) + 1 by omega]; simp
              · rw [if_neg hm2]
          | cons x2 rs2 => cases v <;> simp [retV] at hretV; subst hretV; simp only [V.tkR, tksOf_look] <;> rfl
      have cfin : Conc (Γ'.fin (hasL L) (resTk 2000 rs vs)) w' (S.fin v L A') := by
        refine c'.sub (s' := S.fin v L A') hsub rfl (fun n h => by simp [G.fin, show hasL L n = false from h]) hA.symm hAok hL hLok (hA ▸ hall) (fun b o sz h => ?_) (fun m M h => ?_) (fun m h => ?_)
        · simp only [G.fin] at h
          cases hk : Γ'.κ b with
          | none => simp [hk] at h
          | some y =>
            obtain ⟨o', sz'⟩ := y
            cases o' with
            | home k p => simp [hk] at h; exact ⟨_, by rw [h.2], fun T hT => by rw [← h.1]; exact hT⟩
            | tok t =>
              simp only [hk] at h
              split at h
              · simp at h; exact ⟨_, by rw [h.2], fun T _ => by rw [← h.1]; trivial⟩
              · cases h
        · -- a live token of the result
          have h : look (v.tkR 2000) m = some (some M) := by
            unfold S.live liveT at h
            change (match look (v.tkR 2000) m with | some (some L) => some L | _ => none) = some M at h
            cases hl : look (v.tkR 2000) m with
            | none => simp [hl] at h
            | some y => cases y with
              | none => simp [hl] at h
              | some M' => simp [hl] at h; rw [h]
          rw [htk] at h
          by_cases hm : 2000 ≤ m
          · rw [if_pos hm] at h
            cases hv : vs[m - 2000]? with
            | none => simp [hv] at h
            | some v1 =>
              obtain ⟨x1, hx1, hi1⟩ := resIntos_get hri hv
              cases v1 <;> simp [hv] at h
              rename_i eb e cs
              subst h
              have hlook := resTk_look (n := 2000) (xs := rs) (vs := vs) (m := m)
              rw [if_pos hm, hx1, hv] at hlook
              simp only [resInto] at hi1
              cases x1 <;> simp only at hi1 hlook
              · obtain ⟨rfl, rfl, rfl, hlive⟩ := hi1
                rename_i cs' t
                obtain ⟨y, a1, a2⟩ := c'.tok t _ hlive
                refine ⟨y, by simp [G.fin, hlook, a1], fun b pos sz hy => ?_⟩
                obtain ⟨a3, a4⟩ := a2 b pos sz hy
                exact ⟨a3, by simp [G.fin, a4, pairIx_mem hnd hlook]⟩
              · obtain ⟨rfl, rfl, rfl⟩ := hi1
                exact ⟨none, by simp [G.fin, hlook], fun b pos sz h => by cases h⟩
              · subst hi1
                exact ⟨none, by simp [G.fin, hlook], fun b pos sz h => by cases h⟩
          · rw [if_neg hm] at h; cases h
        · -- tokens known
          have : look (resTk 2000 rs vs) m ≠ none := by
            intro e; simp [G.fin, e] at h
          rw [resTk_look] at this
          unfold S.known
          change (look (v.tkR 2000) m).isSome = true
          rw [htk]
          by_cases hm : 2000 ≤ m
          · rw [if_pos hm] at this ⊢
            cases hv : vs[m - 2000]? with
            | none => rw [hv] at this; cases hx1 : rs[m - 2000]? with
              | none => simp [hx1] at this
              | some x1 => simp [hx1] at this
            | some v1 =>
              rw [hv] at this
              cases v1
              case ts => rfl
              all_goals (exfalso; cases hx1 : rs[m - 2000]? with
                | none => simp [hx1] at this
                | some x1 => simp [hx1] at this)
          · rw [if_neg hm] at this; exact absurd rfl this
      have hres' : (results fn a.tmps).run X.P w' = .ok (if h : us.length = 1 then us[0] else .tuple us.toArray) w' := by
        have hmap : (fn.results.mapM (resultOne a)).run X.P w' = .ok us.toArray w' := by
          rw [Array.mapM_eq_mapM_toList]
          simp only [Sem.run_map] at hvs ⊢
          rw [hvs]
          rfl
        rw [results_eq]
        simp only [Sem.run_bind]
        rw [hmap]
        simp only [Result.andThen_ok, Sem.run_pure, List.size_toArray]
        split <;> simp
      have hone : ∀ (i : Nat) (v1 : V) (u : Value), vs[i]? = some v1 → us[i]? = some u → RepV (Γ'.fin (hasL L) (resTk 2000 rs vs)) (v1.slot (2000 + i)) u := by
        intro i v1 u hv1 hu
        obtain ⟨x1, hx1, hi1⟩ := resIntos_get hri hv1
        refine resInto_rep c' hsub (hvr i x1 u hx1 hu) hi1 fun eb e cs hts => ?_
        subst hts
        have hlook := resTk_look (n := 2000) (xs := rs) (vs := vs) (m := 2000 + i)
        rw [if_pos (by omega), show 2000 + i - 2000 = i by omega, hx1, hv1] at hlook
        simp only [resInto] at hi1
        cases x1 <;> simp only at hi1 hlook ⊢ <;> exact hlook
      have hpl : ∀ (i : Nat) (x : V), (slots 2000 vs)[i]? = some x → x.plain = true := by
        intro i x hx
        rw [slots_get] at hx
        cases hv1 : vs[i]? with
        | none => simp [hv1] at hx
        | some v1 =>
          simp [hv1] at hx
          subst hx
          obtain ⟨x1, _, hi1⟩ := resIntos_get hri hv1
          cases v1 <;> simp only [resInto] at hi1 <;> first | rfl | (exact hi1.2.2.1)
      have hrv : RepV (Γ'.fin (hasL L) (resTk 2000 rs vs)) (v.slotR 2000) (if h : us.length = 1 then us[0] else .tuple us.toArray) := by
        by_cases h1 : us.length = 1
        · rw [dif_pos h1]
          cases rs with
          | nil => rw [hul] at h1; simp at h1
          | cons x1 rs1 => cases rs1 with
            | nil =>
              simp only [retV] at hretV; cases hretV
              have := hone 0 v us[0] rfl (List.getElem?_eq_getElem (by omega))
              have hsr : v.slotR 2000 = v.slot 2000 := by
                cases v <;> simp [V.slotR]
                obtain ⟨x', _, hi'⟩ := resIntos_get hri (i := 0) rfl
                simp [resInto, V.plain] at hi'
              rw [hsr]; exact this
            | cons x2 rs2 => rw [hul] at h1; simp at h1
        · rw [dif_neg h1]
          have hcap : RepCaps (Γ'.fin (hasL L) (resTk 2000 rs vs)) (slots 2000 vs) us := caps_of _ _ (by rw [slots_length]; omega) hpl fun i x u hx hu => by
            rw [slots_get] at hx
            cases hv1 : vs[i]? with
            | none => simp [hv1] at hx
            | some v1 => simp [hv1] at hx; subst hx; exact hone i v1 u hv1 hu
          have hvt : v = .tup vs := by
            cases rs with
            | nil => cases v <;> simp [retV] at hretV; rw [hretV]
            | cons x1 rs1 => cases rs1 with
              | nil => exact absurd hul h1
              | cons x2 rs2 => cases v <;> simp [retV] at hretV; rw [hretV]
          subst hvt
          exact ⟨_, rfl, by simpa using hcap⟩
      have gfin : GLe Γ' (Γ'.fin (hasL L) (resTk 2000 rs vs)) := ⟨Hp.le_refl _, rfl, fun _ _ => rfl, fun _ _ h => h, rfl, rfl, fun _ _ h => h, fun _ h => h⟩
      rcases he with rfl | rfl
      · exact ⟨hfr, _, hres', _, _, rfl, g1.trans gfin, cfin, hrv⟩
      · exact ⟨hfr, _, hres', _, _, rfl, g1.trans gfin, cfin, hrv⟩
    · exact hres.elim
end
end Go.E

