/-
 A framework for runs of Go code over abstract data: what it needs, and that it is sound, part 7.
 Conditions: none.
-/
import Derived.Test.YteaddgnjddjllaaEf
import Derived.Maps.RangeRun
import Derived.Sort.MapsRangeIn
import Derived.OwnWalkIn
import Derived.Laws.IdiomRangeMap
set_option linter.all false
namespace Go.E
open Go
def q3I : List (Nat × Sh) → Nat
 | [] => 0
 | (_, s) :: l => s.many + q3I l
def q06 : List (Nat × Sh) → Nat → List C → List (Nat × V)
 | [], _, _ => []
 | (j, s) :: l, i, ds => (j, s.fill i ds) :: q06 l (i + s.many) ds
def q3m : List (Nat × Sh) → Nat → List C → List (Nat × Option Nat)
 | [], _, _ => []
 | (_, s) :: l, i, ds => (match s with
  | .sl _ _ t => (t, some (dk ds i).elems.length) :: q3m l (i + s.many) ds
  | _ => q3m l (i + s.many) ds)
def q0s : List (Key × OSh) → Nat
 | [] => 0
 | (_, .box s) :: l => s.many + q0s l
 | (_, .map _ _) :: l => q0s l
 | (_, .dead _) :: l => 1 + q0s l
 | (_, .it) :: l => 2 + q0s l
def dE (τ : Ty) (l : Es) : List (C × V) := l.map fun p => (p.1, .d τ p.2)
def isD (τ : Ty) : V → Bool
 | .d τ' _ => decide (τ' = τ)
 | _ => false
def unV : V → C
 | .d _ c => c
 | _ => .nil
def X4 (τ : Ty) : List (C × V) → Bool
 | [] => true
 | (_, v) :: es => isD τ v && X4 τ es
def unE (es : List (C × V)) : Es := es.map fun p => (p.1, unV p.2)
theorem y1M {τ : Ty} : ∀ {es : List (C × V)}, X4 τ es = true → dE τ (unE es) = es
 | [], _ => rfl
 | (k, v) :: es, h => by
  simp only [X4, Bool.and_eq_true] at h
  have := y1M h.2
  simp only [dE, unE, List.map_cons, List.map_map] at this ⊢
  rw [this]
  cases v <;> simp only [isD, reduceCtorEq, decide_eq_true_eq] at h <;> first | exact h.1.elim | (rw [h.1]; rfl)
theorem J3 (τ : Ty) : ∀ (l : Es), X4 τ (dE τ l) = true
 | [] => rfl
 | (k, v) :: l => by
  have := J3 τ l
  simp only [dE, List.map_cons, X4, isD, decide_true, Bool.true_and] at this ⊢
  exact this
theorem q0t (τ : Ty) (l : Es) : unE (dE τ l) = l := by
 induction l with
 | nil => rfl
 | cons p l ih => simp only [dE, unE, List.map_cons, unV] at ih ⊢; rw [ih]
theorem z88 (τ : Ty) : ∀ m : Es, q0E τ (dE τ m) = true
 | [] => rfl
 | _ :: m => by
  have := z88 τ m
  have h : Ty.beq τ τ = true := (Ty.beq_iff τ τ).2 rfl
  simp only [dE, List.map_cons, q0E, h, Bool.true_and] at this ⊢
  exact this
def u5 : List (Key × OSh) → Nat → Nat → List C → List Es → List (Key × O)
 | [], _, _, _, _ => []
 | (k, .box s) :: l, i, j, ds, ms => (k, .box (s.fill i ds)) :: u5 l (i + s.many) j ds ms
 | (k, .map kτ vτ) :: l, i, j, ds, ms => (k, .map kτ vτ (dE vτ (dm ms j))) :: u5 l i (j + 1) ds ms
 | (k, .dead e) :: l, i, j, ds, ms => (k, .dead (.arr (dk ds i).toInt.toNat e)) :: u5 l (i + 1) j ds ms
 | (k, .it) :: l, i, j, ds, ms => (k, .it (dk ds i).toStr (dk ds (i + 1)).toInt.toNat) :: u5 l (i + 2) j ds ms
def q8q (sh : SSh) (A : Key → Option O) (ds : List C) (ms : List Es) : S :=
 ⟨q06 sh.env 0 ds, u5 sh.loc (q3I sh.env) 0 ds ms, A, q3m sh.env 0 ds⟩
def y6j (s : S) (sh : Sh) (d : List C) : Bool :=
 match sh with
 | .sl _ _ t => (match q1u s.tk t with
  | some L => Nat.beq L (dk d 0).elems.length
  | none => false)
 | _ => true
def z6S {R : Type} (s : S) : List (Nat × Sh) → (List C → Option R) → Option R
 | [], K => K []
 | (j, sh) :: l, K => sh.coe (s.get j) fun d1 => if (sh.fill 0 d1).ty.isAgg = (s.get j).ty.isAgg then (bif y6j s sh d1 then z6S s l fun d2 => K (d1 ++ d2) else none) else none
def y5o : V → Bool
 | .nilc => true
 | _ => false
def q45 {R : Type} (s : S) : List (Key × OSh) → (List C → List Es → Option R) → Option R
 | [], K => K [] []
 | (k, .box sh) :: l, K => (match s.obj k with
  | some (.box x) => if y5o x = false then sh.coe x fun d1 => if (sh.fill 0 d1).plain = true ∧ (sh.fill 0 d1).j8 = true then q45 s l fun d2 m2 => K (d1 ++ d2) m2 else none else none
  | _ => none)
 | (k, .map kτ vτ) :: l, K => (match s.obj k with
  | some (.map kτ' vτ' es) => if kτ' = kτ ∧ vτ' = vτ then (if X4 vτ es = true then q45 s l fun d2 m2 => K d2 (unE es :: m2) else none) else none
  | _ => none)
 | (k, .dead e) :: l, K => (match s.obj k with
  | some o => (match o.ty with
   | .arr M e' => if e' = e then q45 s l fun d2 m2 => K (.int M :: d2) m2 else none
   | _ => none)
  | _ => none)
 | (k, .it) :: l, K => (match s.obj k with
  | some (.it x p) => q45 s l fun d2 m2 => K (.str x :: .int p :: d2) m2
  | _ => none)
def z4p (f g : Nat → Bool) : List Cap → Bool
 | [] => true
 | .c _ :: l => z4p f g l
 | .v x :: l => x.ok f g && z4p f g l
theorem z1P {f g : Nat → Bool} : ∀ (l : List Cap) (i : Nat) (ds : List C), z4p f g l = true → V.oks f g (q08 l i ds) = true
 | [], _, _, _ => rfl
 | .c _ :: l, i, ds, h => by
  simp only [z4p] at h
  simp only [q08, V.oks, V.ok, Bool.true_and]
  exact z1P l _ _ h
 | .v x :: l, i, ds, h => by
  simp only [z4p, Bool.and_eq_true] at h
  simp only [q08, V.oks, Bool.and_eq_true]
  exact ⟨h.1, z1P l _ _ h.2⟩
mutual
def Sh.okB (f g : Nat → Bool) : Sh → Bool
 | .sl _ _ t => g t
 | .sr (.l k) _ _ _ _ => f k
 | .vec (.l k) _ _ => f k
 | .agg _ l => Sh.y3N f g l
 | .as v => v.ok f g
 | .fnc _ l => z4p f g l
 | _ => true
def Sh.y3N (f g : Nat → Bool) : List Sh → Bool
 | [] => true
 | s :: l => s.okB f g && Sh.y3N f g l
end
mutual
theorem Sh.q8y {f g : Nat → Bool} : ∀ (s : Sh) (i : Nat) (ds : List C), s.okB f g = true → (s.fill i ds).ok f g = true
 | .sl _ _ t, _, _, h => by simpa only [Sh.fill, V.ok, Sh.okB] using h
 | .sr (.l k) _ _ _ _, _, _, h => by simpa only [Sh.fill, V.ok, Sh.okB] using h
 | .sr (.g k) _ _ _ _, _, _, h => by simp only [Sh.fill, V.ok]
 | .vec (.l k) _ _, _, _, h => by simpa only [Sh.fill, V.ok, Sh.okB] using h
 | .vec (.g k) _ _, _, _, h => by simp only [Sh.fill, V.ok]
 | .agg _ l, _, _, h => by simp only [Sh.fill, V.ok, Sh.okB] at h ⊢; exact Sh.y1n l _ _ h
 | .as v, _, _, h => by simpa only [Sh.fill, Sh.okB] using h
 | .fnc _ l, i, ds, h => by simp only [Sh.fill, V.ok, Sh.okB] at h ⊢; exact z1P l i ds h
 | .d _, _, _, _ | .ts _ _, _, _, _ | .cptr _, _, _, _ | .arr _, _, _, _ => by simp only [Sh.fill, V.ok]
theorem Sh.y1n {f g : Nat → Bool} : ∀ (l : List Sh) (i : Nat) (ds : List C), Sh.y3N f g l = true → V.oks f g (Sh.U1 l i ds) = true
 | [], _, _, _ => rfl
 | s :: l, i, ds, h => by
  simp only [Sh.y3N, Bool.and_eq_true] at h
  simp only [Sh.U1, V.oks, Bool.and_eq_true]
  exact ⟨Sh.q8y s _ _ h.1, Sh.y1n l _ _ h.2⟩
end
def OSh.okB (f g : Nat → Bool) : OSh → Bool
 | .box s => s.okB f g
 | .map _ _ => true
 | .dead _ | .it => true
def q9I : List (Key × OSh) → Key → Bool
 | [], _ => false
 | (j, _) :: l, k => if j = k then true else q9I l k
def z9I (l : List (Key × OSh)) (n : Nat) : Bool := q9I l (.l n)
def z1C : List (Nat × Sh) → Nat → Bool
 | [], _ => false
 | (_, .sl _ _ t) :: l, u => if t = u then true else z1C l u
 | _ :: l, u => z1C l u
def z4s (L : List (Key × OSh)) : List (Key × O) → Bool
 | [] => true
 | (.g k, _) :: l => q9I L (.g k) && z4s L l
 | (.l _, _) :: l => z4s L l
def z0F (f g : Nat → Bool) : List (Key × OSh) → Bool
 | [] => true
 | (_, o) :: l => o.okB f g && z0F f g l
def z6Q (f g : Nat → Bool) : List (Nat × Sh) → Bool
 | [] => true
 | (_, s) :: l => s.okB f g && z6Q f g l
def okS (sh : SSh) (loc : List (Key × O)) : Bool :=
 z0F (z9I sh.loc) (z1C sh.env) sh.loc && z4s sh.loc loc && z6Q (z9I sh.loc) (z1C sh.env) sh.env
theorem q8n : ∀ (l : List (Key × OSh)) (i j : Nat) (ds : List C) (ms : List Es) (k : Key), (y7 (u5 l i j ds ms) k).isSome = q9I l k
 | [], _, _, _, _, _ => rfl
 | (n, .box s) :: l, i, j, ds, ms, k => by
  simp only [u5, y7, q9I]
  split
  ·rfl
  ·exact q8n l _ _ _ _ _
 | (n, .map _ _) :: l, i, j, ds, ms, k | (n, .dead _) :: l, i, j, ds, ms, k | (n, .it) :: l, i, j, ds, ms, k => by
  simp only [u5, y7, q9I]
  split
  ·rfl
  ·exact q8n l _ _ _ _ _
theorem y5w (l : List (Key × OSh)) (i j : Nat) (ds : List C) (ms : List Es) : Y9 (u5 l i j ds ms) = z9I l := by
 funext n; exact q8n l i j ds ms (.l n)
theorem z8M : ∀ (l : List (Nat × Sh)) (i : Nat) (ds : List C), q0v (q3m l i ds) = z1C l
 | [], _, _ => rfl
 | (_, s) :: l, i, ds => by
  have ih := z8M l (i + s.many) ds
  funext u
  have ih := congrFun ih u
  unfold q0v at ih ⊢
  cases s <;> simp only [q3m, z1C, look] <;> (try exact ih)
  split
  ·rfl
  ·exact ih
theorem q9G {f g : Nat → Bool} : ∀ (l : List (Key × OSh)) (i j : Nat) (ds : List C) (ms : List Es), z0F f g l = true → q2j f g (u5 l i j ds ms) = true
 | [], _, _, _, _, _ => rfl
 | (n, .box s) :: l, i, j, ds, ms, h => by
  simp only [z0F, Bool.and_eq_true] at h
  simp only [u5, q2j, Bool.and_eq_true, O.okB, O.ok]
  exact ⟨Sh.q8y s _ _ h.1, q9G l _ _ _ _ h.2⟩
 | (n, .map _ vτ) :: l, i, j, ds, ms, h => by
  simp only [z0F, Bool.and_eq_true] at h
  simp only [u5, q2j, Bool.and_eq_true, O.okB, O.ok]
  exact ⟨by rw [z88 vτ _, Bool.or_true], q9G l _ _ _ _ h.2⟩
 | (n, .dead _) :: l, i, j, ds, ms, h | (n, .it) :: l, i, j, ds, ms, h => by
  simp only [z0F, Bool.and_eq_true] at h
  simp only [u5, q2j, Bool.and_eq_true, O.okB, O.ok]
  exact ⟨trivial, q9G l _ _ _ _ h.2⟩
theorem z8T {f g : Nat → Bool} : ∀ (l : List (Nat × Sh)) (i : Nat) (ds : List C), z6Q f g l = true → q46 f g (q06 l i ds) = true
 | [], _, _, _ => rfl
 | (n, s) :: l, i, ds, h => by
  simp only [z6Q, Bool.and_eq_true] at h
  simp only [q06, q46, Bool.and_eq_true]
  exact ⟨Sh.q8y s _ _ h.1, z8T l _ _ h.2⟩
theorem z5J {L : List (Key × OSh)} {i j : Nat} {ds : List C} {ms : List Es} : ∀ {l : List (Key × O)}, z4s L l = true → q6o (u5 L i j ds ms) l = true
 | [], _ => rfl
 | (.g k, _) :: l, h => by
  simp only [z4s, Bool.and_eq_true] at h
  simp only [q6o, Bool.and_eq_true, q8n]
  exact ⟨h.1, z5J h.2⟩
 | (.l _, _) :: l, h => by
  simp only [z4s] at h
  simp only [q6o]
  exact z5J h
def y4p {R : Type} (sh : SSh) (s : S) (K : List C → List Es → Option R) : Option R :=
 z6S s sh.env fun d1 => q45 s sh.loc fun d2 ms => if okS sh s.loc = true then K (d1 ++ d2) ms else none
theorem q99 : ∀ (l : List (Nat × Sh)) (i i' : Nat) (ds ds' : List C), (∀ j, j < q3I l → dk ds (i + j) = dk ds' (i' + j)) → q06 l i ds = q06 l i' ds'
 | [], _, _, _, _, _ => rfl
 | (n, s) :: l, i, i', ds, ds', h => by
  simp only [q3I] at h
  simp only [q06]
  rw [Sh.q4s s i i' ds ds' (fun j hj => h j (by omega)), q99 l (i + s.many) (i' + s.many) ds ds' (fun j hj => by
   have := h (s.many + j) (by omega)
   rwa [← Nat.add_assoc, ← Nat.add_assoc] at this)]
theorem z3A : ∀ (l : List (Nat × Sh)) (i i' : Nat) (ds ds' : List C), (∀ j, j < q3I l → dk ds (i + j) = dk ds' (i' + j)) → q3m l i ds = q3m l i' ds'
 | [], _, _, _, _, _ => rfl
 | (n, s) :: l, i, i', ds, ds', h => by
  simp only [q3I] at h
  simp only [q3m]
  have e := z3A l (i + s.many) (i' + s.many) ds ds' (fun j hj => by
   have := h (s.many + j) (by omega)
   rwa [← Nat.add_assoc, ← Nat.add_assoc] at this)
  cases s <;> simp only at e ⊢ <;> (try exact e)
  have h0 := h 0 (by simp only [Sh.many]; omega)
  simp only [Nat.add_zero] at h0
  rw [e, h0]
theorem q0H : ∀ (l : List (Key × OSh)) (i i' m : Nat) (ds ds' : List C) (ms : List Es), (∀ j, j < q0s l → dk ds (i + j) = dk ds' (i' + j)) → u5 l i m ds ms = u5 l i' m ds' ms
 | [], _, _, _, _, _, _, _ => rfl
 | (n, .box s) :: l, i, i', m, ds, ds', ms, h => by
  simp only [q0s] at h
  simp only [u5]
  rw [Sh.q4s s i i' ds ds' (fun j hj => h j (by omega)), q0H l (i + s.many) (i' + s.many) m ds ds' ms (fun j hj => by
   have := h (s.many + j) (by omega)
   rwa [← Nat.add_assoc, ← Nat.add_assoc] at this)]
 | (n, .map _ _) :: l, i, i', m, ds, ds', ms, h => by
  simp only [q0s] at h
  simp only [u5]
  rw [q0H l i i' (m + 1) ds ds' ms h]
 | (n, .dead e) :: l, i, i', m, ds, ds', ms, h => by
  simp only [q0s] at h
  simp only [u5]
  have h0 := h 0 (by omega)
  simp only [Nat.add_zero] at h0
  rw [h0, q0H l (i + 1) (i' + 1) m ds ds' ms (fun j hj => by
   have := h (1 + j) (by omega)
   rwa [← Nat.add_assoc, ← Nat.add_assoc] at this)]
 | (n, .it) :: l, i, i', m, ds, ds', ms, h => by
  simp only [q0s] at h
  simp only [u5]
  have h0 := h 0 (by omega)
  have h1 := h 1 (by omega)
  simp only [Nat.add_zero] at h0
  rw [h0, h1, q0H l (i + 2) (i' + 2) m ds ds' ms (fun j hj => by
   have := h (2 + j) (by omega)
   rwa [← Nat.add_assoc, ← Nat.add_assoc] at this)]
theorem q4l : ∀ (l : List (Key × OSh)) (i m : Nat) (ds : List C) (e : Es) (ms : List Es), u5 l i (m + 1) ds (e :: ms) = u5 l i m ds ms
 | [], _, _, _, _, _ => rfl
 | (n, .box s) :: l, i, m, ds, e, ms => by simp only [u5]; rw [q4l l]
 | (n, .map _ _) :: l, i, m, ds, e, ms => by simp only [u5]; rw [q4l l]; rfl
 | (n, .dead _) :: l, i, m, ds, e, ms | (n, .it) :: l, i, m, ds, e, ms => by simp only [u5]; rw [q4l l]
theorem z8U {R : Type} {r : R} {s : S} : ∀ (l : List (Nat × Sh)) {K : List C → Option R}, z6S s l K = some r →
  ∃ ds, K ds = some r ∧ ds.length = q3I l ∧ (∀ f g, q46 f g (q06 l 0 ds) = true → q78 f g s (q06 l 0 ds)) ∧ tkW s (q3m l 0 ds)
 | [], K, h => ⟨[], h, rfl, fun _ _ _ => trivial, trivial⟩
 | (n, sh) :: l, K, h => by
  simp only [z6S] at h
  obtain ⟨d1, h1, h2, h3, h4⟩ := Sh.y1O sh _ h
  simp only [Option.ite_none_right_eq_some] at h1
  obtain ⟨h5, h1⟩ := h1
  cases htk : y6j s sh d1 with
  | false => rw [htk] at h1; cases h1
  | true =>
   rw [htk, cond_true] at h1
   obtain ⟨d2, h6, h7, h8, h9⟩ := z8U l h1
   have e1 : sh.fill 0 (d1 ++ d2) = sh.fill 0 d1 := Sh.q4s sh 0 0 _ _ fun j hj => q1d (by omega)
   have sft : ∀ j, dk (d1 ++ d2) (sh.many + j) = dk d2 (0 + j) := fun j => by
    rw [q2c (by omega), h2]
    congr 1; omega
   have e2 : q06 l sh.many (d1 ++ d2) = q06 l 0 d2 := q99 l _ 0 _ _ fun j hj => sft j
   have e3 : q3m l sh.many (d1 ++ d2) = q3m l 0 d2 := z3A l _ 0 _ _ fun j hj => sft j
   refine ⟨_, h6, by simp [q3I, h2, h7], fun f g hok => ?_, ?_⟩
   ·simp only [q06, Nat.zero_add, e1, e2, q46, Bool.and_eq_true] at hok ⊢
    exact ⟨h3, hok.1, .inr h5, h8 f g hok.2⟩
   ·simp only [q3m, Nat.zero_add]
    cases sh <;> simp only [e3] <;> (try exact h9)
    simp only [y6j] at htk
    simp only [Sh.many] at h2
    rw [q1d (by omega)]
    refine ⟨?_, h9⟩
    split at htk
    ·rename_i L hL
     have := Nat.eq_of_beq_eq_true htk
     show s.live _ = some _
     rw [← this]; exact hL
    ·cases htk
theorem y4K {s : S} {A' : Key → Option O} : ∀ {l : List (Nat × Option Nat)}, tkW s l → tkW (s.wA A') l
 | [], _ => trivial
 | (_, _) :: _, h => ⟨h.1, y4K h.2⟩
theorem y27 {f g : Nat → Bool} {s : S} {A' : Key → Option O} : ∀ {l : List (Nat × V)}, q78 f g s l → q78 f g (s.wA A') l
 | [], _ => trivial
 | (_, _) :: _, h => ⟨h.1, h.2.1, h.2.2.1, y27 h.2.2.2⟩
theorem y9z {R : Type} {r : R} {sh : SSh} {s : S} {K : List C → List Es → Option R} (h : y4p sh s K = some r) :
  ∃ ds ms, K ds ms = some r ∧ ∀ (X : Cx) (n : Nat) (A' : Key → Option O), leA s.A A' → q1V X n (s.wA A') ((q8q sh s.A ds ms).wA A') := by
 unfold y4p at h
 obtain ⟨d1, h1, h2, h3, h4⟩ := z8U _ h
 have det : ∃ d2 ms, K (d1 ++ d2) ms = some r ∧ okS sh s.loc = true ∧ d2.length = q0s sh.loc ∧ ∀ A', leA s.A A' → q4T (s.wA A') (u5 sh.loc 0 0 d2 ms) := by
  -- what is read does not lean on A'
  have gen : ∀ (l : List (Key × OSh)) {K : List C → List Es → Option R}, q45 s l K = some r → ∃ ds ms, K ds ms = some r ∧ ds.length = q0s l ∧ ∀ A', leA s.A A' → q4T (s.wA A') (u5 l 0 0 ds ms) := by
   intro l
   induction l with
   | nil => intro K h; exact ⟨[], [], h, rfl, fun _ _ => trivial⟩
   | cons p l ih =>
    obtain ⟨k, o⟩ := p
    intro K h
    cases o with
    | box sh =>
     simp only [q45] at h
     split at h
     ·rename_i x hx
      simp only [Option.ite_none_right_eq_some] at h
      obtain ⟨h0, h⟩ := h
      obtain ⟨d1, h1, h2, h3, h4⟩ := Sh.y1O sh _ h
      simp only [Option.ite_none_right_eq_some] at h1
      obtain ⟨h5, h1⟩ := h1
      obtain ⟨d2, ms, h6, h7, h8⟩ := ih h1
      have e1 : sh.fill 0 (d1 ++ d2) = sh.fill 0 d1 := Sh.q4s sh 0 0 _ _ fun j hj => q1d (by omega)
      have e2 : u5 l sh.many 0 (d1 ++ d2) ms = u5 l 0 0 d2 ms := q0H l _ 0 0 _ _ _ fun j hj => by
       rw [q2c (by omega), h2]
       congr 1; omega
      refine ⟨_, _, h6, by simp [q0s, h2, h7], fun A' hA => ?_⟩
      simp only [u5, Nat.zero_add, e1, e2, q4T]
      rw [F8 hA hx]
      exact ⟨⟨h3, h4 (by intro e; subst e; simp [y5o] at h0), h5.1, h5.2⟩, h8 A' hA⟩
     ·cases h
    | map kτ vτ =>
     simp only [q45] at h
     split at h
     ·rename_i kτ' vτ' es hx
      simp only [Option.ite_none_right_eq_some] at h
      obtain ⟨⟨rfl, rfl⟩, hd, h⟩ := h
      obtain ⟨d2, ms, h6, h7, h8⟩ := ih h
      refine ⟨_, _, h6, by simp [q0s, h7], fun A' hA => ?_⟩
      simp only [u5, q4T, q4l]
      rw [F8 hA hx]
      exact ⟨⟨rfl, rfl, (y1M hd).symm⟩, h8 A' hA⟩
     ·cases h
    | dead e =>
     simp only [q45] at h
     split at h
     ·rename_i o hx
      split at h
      ·rename_i M e' ht
       simp only [Option.ite_none_right_eq_some] at h
       obtain ⟨rfl, h⟩ := h
       obtain ⟨d2, ms, h6, h7, h8⟩ := ih h
       have e2 : u5 l 1 0 (.int M :: d2) ms = u5 l 0 0 d2 ms := q0H l _ 0 0 _ _ _ fun j hj => by
        unfold dk; simp [Nat.add_comm 1 j]
       refine ⟨_, _, h6, by simp [q0s, h7, Nat.add_comm], fun A' hA => ?_⟩
       simp only [u5, Nat.zero_add, e2, q4T]
       rw [F8 hA hx]
       refine ⟨?_, h8 A' hA⟩
       have : (dk (C.int M :: d2) 0).toInt.toNat = M := by simp [dk, C.toInt]
       rw [this]
       cases o <;> exact ht.symm
      ·cases h
     ·cases h
    | it =>
     simp only [q45] at h
     split at h
     ·rename_i x p hx
      obtain ⟨d2, ms, h6, h7, h8⟩ := ih h
      have e2 : u5 l 2 0 (.str x :: .int p :: d2) ms = u5 l 0 0 d2 ms := q0H l _ 0 0 _ _ _ fun j hj => by
       unfold dk; simp [Nat.add_comm 2 j]
      refine ⟨_, _, h6, by simp [q0s, h7]; omega, fun A' hA => ?_⟩
      simp only [u5, Nat.zero_add, e2, q4T]
      rw [F8 hA hx]
      refine ⟨?_, h8 A' hA⟩
      have e3 : (dk (C.str x :: C.int p :: d2) 0).toStr = x := by simp [dk, C.toStr]
      have e4 : (dk (C.str x :: C.int p :: d2) 1).toInt.toNat = p := by simp [dk, C.toInt]
      rw [e3, e4]
      exact ⟨rfl, rfl⟩
     ·cases h
  obtain ⟨d2, ms, h5, h6, h7⟩ := gen _ h1
  simp only [Option.ite_none_right_eq_some] at h5
  exact ⟨d2, ms, h5.2, h5.1, h6, h7⟩
 obtain ⟨d2, ms, h5, h6, h7, h8⟩ := det
 refine ⟨d1 ++ d2, ms, h5, fun X n A' hA => ?_⟩
 have e1 : q06 sh.env 0 (d1 ++ d2) = q06 sh.env 0 d1 := q99 _ 0 0 _ _ fun j hj => q1d (by omega)
 have e2 : q3m sh.env 0 (d1 ++ d2) = q3m sh.env 0 d1 := z3A _ 0 0 _ _ fun j hj => q1d (by omega)
 have e3 : u5 sh.loc (q3I sh.env) 0 (d1 ++ d2) ms = u5 sh.loc 0 0 d2 ms := q0H _ _ 0 0 _ _ _ fun j hj => by
  rw [q2c (by omega), h2]
  congr 1; omega
 simp only [okS, Bool.and_eq_true] at h6
 have hL : Y9 (q8q sh s.A (d1 ++ d2) ms).loc = z9I sh.loc := y5w ..
 have hT : q0v (q8q sh s.A (d1 ++ d2) ms).tk = z1C sh.env := z8M ..
 refine y2E rfl ?_ ?_ (q6W (z5J h6.1.2)) ?_ ?_
 ·show q4T (s.wA A') (u5 sh.loc (q3I sh.env) 0 (d1 ++ d2) ms)
  rw [e3]; exact h8 A' hA
 ·show q2j (Y9 (q8q sh s.A (d1 ++ d2) ms).loc) (q0v (q8q sh s.A (d1 ++ d2) ms).tk) _ = true
  rw [hL, hT]
  exact q9G _ _ _ _ _ h6.1.1
 ·show tkW (s.wA A') (q3m sh.env 0 (d1 ++ d2))
  rw [e2]; exact y4K h4
 ·show q78 (Y9 (q8q sh s.A (d1 ++ d2) ms).loc) (q0v (q8q sh s.A (d1 ++ d2) ms).tk) (s.wA A') (q06 sh.env 0 (d1 ++ d2))
  refine y27 ?_
  rw [hL, hT, e1]
  exact h3 _ _ (z8T _ _ _ h6.2)
theorem y9.y3B {Γ : G} {w : World} {s : S} (c : y9 Γ w s) {k : Key} {x x' : V} (h : s.obj k = some (.box x)) (h1 : Own Γ w k (.box x) → Own Γ w k (.box x')) (h2 : (O.box x).q9S → (O.box x').q9S) : y9 Γ w (s.put k (.box x')) := by
 refine ⟨c.hH, c.hZ, c.hκ, fun j o hj => ?_, fun j hj => ?_, c.z1x (fun j hj => ?_), c.tok, c.tdom, c.hgl, c.hoo, c.hσ⟩
 ·rw [W9] at hj
  split at hj
  ·rename_i e
   subst e; cases hj
   exact (c.obj _ _ h).imp (fun h => ⟨h.1, h2 h.2⟩) h1
  ·exact c.obj j o hj
 ·rw [W9]
  split
  ·simp
  ·exact c.dom j hj
 ·unfold S.Q6 at hj ⊢
  rw [W9]
  split
  ·rename_i e; subst e; rw [h] at hj; cases hj
  ·exact hj
def mvK (K : Key) (t : Nat) (k : Key) : Key := if k = K then .l t else k
def AtE (X : Cx) (n : Nat) (Γ0 : G) (K : Key) (t : Nat) (s : S) (a : Act) (w : World) : Prop :=
 ∃ Γ, GLe Γ0 Γ ∧ Γ.gl = X.gl ∧ y9 Γ w s ∧ q3q Γ s a.tmps ∧ a.tmps.size = n ∧ a.defers = [] ∧ AOk s.A ∧ ∀ x, Γ.ι K = some x → Γ.ι (.l t) = some x
theorem y0Q {Γ : G} {K : Key} {t : Nat} (h : ∀ x, Γ.ι K = some x → Γ.ι (.l t) = some x) {hm : Option Key} (hn : hm ≠ some K) : q32 Γ Γ (mvK K t) hm :=
 ⟨Hp.le_refl _, fun k x hk => by
  unfold mvK
  split
  ·rename_i e; subst e; exact h x hk
  ·exact hk, fun _ _ h => h, fun k b p sz e hk => by
  have : mvK K t k = k := by
   unfold mvK
   split
   ·rename_i e2; subst e2; exact absurd e hn
   ·rfl
  rw [this]; exact ⟨hk, rfl⟩⟩
theorem z8.mv {Γ : G} {K : Key} {t : Nat} (h : ∀ x, Γ.ι K = some x → Γ.ι (.l t) = some x) {x : V} {v : Value} (hr : z8 Γ x v) : z8 Γ (x.ren (mvK K t) id) v :=
 z8.ren (y0Q h (by simp)) (fun _ _ h => h) hr
def q3r (K : Key) (t : Nat) : List Key → S → S
 | [], s => s
 | k :: ks, s => if k = K ∨ k = .l t then q3r K t ks s else (match s.obj k with
  | some (.box x) => q3r K t ks (s.put k (.box (x.ren (mvK K t) id)))
  | _ => q3r K t ks s)
theorem z07 (K : Key) (t : Nat) : ∀ (ks : List Key) (s : S), (q3r K t ks s).A = s.A
 | [], _ => rfl
 | k :: ks, s => by
  simp only [q3r]
  split
  ·exact z07 K t ks s
  ·split
   ·exact z07 K t ks _
   ·exact z07 K t ks s
def WkE (K : Key) (t : Nat) (s s' : S) : Prop := s'.A = s.A ∧ ∀ (X : Cx) (n : Nat) (A' : Key → Option O), leA s.A A' → ∀ (Γ0 : G) (a : Act) (w : World), AtE X n Γ0 K t (s.wA A') a w → AtE X n Γ0 K t (s'.wA A') a w
theorem WkE.refl {K : Key} {t : Nat} (s : S) : WkE K t s s := ⟨rfl, fun _ _ _ _ _ _ _ h => h⟩
theorem WkE.trans {K : Key} {t : Nat} {a b c : S} (h : WkE K t a b) (h' : WkE K t b c) : WkE K t a c :=
 ⟨h'.1.trans h.1, fun X n A' hA Γ0 ac w hat => h'.2 X n A' (by rw [h.1]; exact hA) Γ0 ac w (h.2 X n A' hA Γ0 ac w hat)⟩
theorem y7L {X : Cx} {n : Nat} {Γ0 : G} {K : Key} {t : Nat} {a : Act} {w : World} {s : S} {k : Key} {x : V} (hk : ¬ (k = K ∨ k = .l t)) (hx : s.obj k = some (.box x)) (h : AtE X n Γ0 K t s a w) : AtE X n Γ0 K t (s.put k (.box (x.ren (mvK K t) id))) a w := by
 obtain ⟨Γ, g1, g3, c, hs, hn, hf, hA, hι⟩ := h
 have hkK : (some k : Option Key) ≠ some K := fun e => hk (.inl (by cases e; rfl))
 refine ⟨Γ, g1, g3, c.y3B hx (fun hown => ?_) (fun hv => ?_), hs, hn, hf, hA, hι⟩
 ·obtain ⟨b, cells, T, h1, h2, h3, h4, h5, h6, h7, h8⟩ := hown
  have hmv : mvK K t k = k := by unfold mvK; rw [if_neg (fun e => hk (.inl e))]
  have := z6.Y8 (θ := id) (y0Q hι hkK) h8 h6
  simp only [Option.map_some, hmv] at this
  exact ⟨b, cells, T, by rw [V.q37]; exact h1, h2, h3, h4, by rw [V.q37]; exact h5, by rw [V.q37]; exact this, by rw [V.z2O]; exact h7, by rw [V.z09]; exact h8⟩
 ·obtain ⟨e, rfl⟩ := hv
  exact ⟨e, by simp [V.ren]⟩
theorem q9v (K : Key) (t : Nat) : ∀ (ks : List Key) (s : S), WkE K t s (q3r K t ks s)
 | [], s => WkE.refl s
 | k :: ks, s => by
  simp only [q3r]
  split
  ·exact q9v K t ks s
  ·rename_i hk
   split
   ·rename_i x hx
    exact WkE.trans (b := s.put k (.box (x.ren (mvK K t) id))) ⟨rfl, fun X n A' hA Γ0 a w h => y7L (s := s.wA A') hk (F8 hA hx) h⟩ (q9v K t ks _)
   ·exact q9v K t ks s
def z3N (K : Key) (t : Nat) (ks : List Key) (s : S) : S :=
 match s.obj K with
 | some (.box (.d (.arr M e) cc)) => if (s.obj (.l t)).isNone = true then
   { q3r K t ks ((s.put K (.dead (.arr M e))).put (.l t) (.box (.d (.arr M e) cc))) with env := s.env.map fun p => (p.1, p.2.ren (mvK K t) id) } else s
 | _ => s
theorem y7R {X : Cx} {n : Nat} {Γ0 : G} {K : Key} {t : Nat} {a : Act} {w : World} {s : S} {M : Nat} {e : Ty} {cc : C} (hK : s.obj K = some (.box (.d (.arr M e) cc))) (ht : s.obj (.l t) = none) (h : At X n Γ0 s a w) :
  AtE X n Γ0 K t ((s.put K (.dead (.arr M e))).put (.l t) (.box (.d (.arr M e) cc))) a w := by
 obtain ⟨Γ, g1, g3, c, hs, hn, hf, hA⟩ := h
 have hobj : ∀ j, S.obj ((s.put K (.dead (.arr M e))).put (.l t) (.box (.d (.arr M e) cc))) j = S.obj { s with loc := (Key.l t, O.box (.d (.arr M e) cc)) :: (K, O.dead (.arr M e)) :: s.loc } j := fun j => by
  rw [W9, W9, show S.obj { s with loc := (Key.l t, O.box (.d (.arr M e) cc)) :: (K, O.dead (.arr M e)) :: s.loc } j = S.obj { ({ s with loc := (K, O.dead (.arr M e)) :: s.loc } : S) with loc := (Key.l t, O.box (.d (.arr M e) cc)) :: ({ s with loc := (K, O.dead (.arr M e)) :: s.loc } : S).loc } j from rfl, Q7, Q7]
 rcases c.obj K _ hK with ⟨h1, h2⟩ | hown
 ·-- without a block
  refine ⟨Γ, g1, g3, ⟨c.hH, c.hZ, c.hκ, fun j o hj => ?_, fun j hj => ?_, c.z1x (fun j hj => ?_), c.tok, c.tdom, c.hgl, c.hoo, c.hσ⟩, hs, hn, hf, hA, fun x hx => by rw [h1] at hx; cases hx⟩
  ·rw [W9] at hj
   split at hj
   ·rename_i e1; subst e1; cases hj
    exact .inl ⟨c.z0e ht, h2⟩
   ·rw [W9] at hj
    split at hj
    ·rename_i e1; subst e1; cases hj; exact .inl ⟨h1, trivial⟩
    ·exact c.obj j o hj
  ·rw [W9]
   split
   ·simp
   ·rw [W9]
    split
    ·simp
    ·exact c.dom j hj
  ·unfold S.Q6 at hj ⊢
   rw [W9]
   split
   ·rename_i e1; subst e1; rw [ht] at hj; cases hj
   ·rw [W9]
    split
    ·rfl
    ·exact hj
 ·obtain ⟨b, cells, T, e1, e2, e3, e4, e5, e6, e7, e8⟩ := hown
  have hx0 : z6 Γ none [] (.d (.arr M e) cc) (chunk cells.toList 0 (V.d (.arr M e) cc).ty.size) := by
   simp only [z6] at e6 ⊢; exact e6
  obtain ⟨k1, k2, k3⟩ := c.y43 (w' := w) (j := .l t) (x' := .d (.arr M e) cc) hK rfl e1 ht e4 (fun _ _ => rfl) rfl rfl e5 hx0 e7 e8 (fun arr T' fr h => by rw [e4] at h; cases h; rfl)
  have hkt : K ≠ .l t := fun e => by rw [e, ht] at hK; cases hK
  refine ⟨_, g1.trans k3, by rw [k3.gl]; exact g3, k1.congr hobj (fun _ => rfl) (fun _ h => h), hs.Z0 k2, hn, hf, hA, fun x hx => ?_⟩
  have : Γ.ι K = some x := by simpa [G.addKey, q1G, hkt] using hx
  rw [e1] at this; cases this
  simp [G.addKey, q1G, V.ty]
theorem y53 (K : Key) (t : Nat) (ks : List Key) (s : S) : (z3N K t ks s).A = s.A ∧ ∀ (X : Cx) (n : Nat) (A' : Key → Option O), leA s.A A' → q1V X n (s.wA A') ((z3N K t ks s).wA A') := by
 unfold z3N
 split
 ·rename_i M e cc hK
  split
  ·rename_i ht
   have ht' : s.obj (.l t) = none := by simpa using ht
   refine ⟨z07 K t ks _, fun X n A' hA Γ0 a w hat => ?_⟩
   have h1 := y7R (s := s.wA A') (F8 hA hK) (by rw [q4e]; exact ht') hat
   obtain ⟨_, h2⟩ := q9v K t ks ((s.put K (.dead (.arr M e))).put (.l t) (.box (.d (.arr M e) cc)))
   obtain ⟨Γ, g1, g3, c, hs, hn, hf, hAok, hι⟩ := h2 X n A' hA Γ0 a w h1
   refine ⟨Γ, g1, g3, c.congr (fun _ => rfl) (fun _ => rfl) (fun _ h => h), fun i => ?_, hn, hf, hAok⟩
   have henv : ((q3r K t ks ((s.put K (.dead (.arr M e))).put (.l t) (.box (.d (.arr M e) cc)))).wA A').env = s.env := by
    have : ∀ (ks : List Key) (s : S), (q3r K t ks s).env = s.env := by
     intro ks
     induction ks with
     | nil => intro s; rfl
     | cons k ks ih =>
      intro s
      simp only [q3r]
      split
      ·exact ih s
      ·split
       ·exact ih _
       ·exact ih s
    exact this ks _
   have hi := hs i
   have e1 : S.get ((q3r K t ks ((s.put K (.dead (.arr M e))).put (.l t) (.box (.d (.arr M e) cc)))).wA A') i = (look s.env i).getD .any := by
    unfold S.get; rw [henv]
   rw [e1] at hi
   show z8 Γ ((look (s.env.map fun p => (p.1, p.2.ren (mvK K t) id)) i).getD .any) _
   rw [q83]
   cases hl : look s.env i with
   | none => trivial
   | some x =>
    rw [hl] at hi
    exact z8.mv hι hi
  ·exact ⟨rfl, fun _ _ _ _ => q1V.refl _⟩
 ·exact ⟨rfl, fun _ _ _ _ => q1V.refl _⟩
def T0 : Nat := 1000000000000000
mutual
def V.q02 : Sh → V → V
 | .vec (.l a) eb e, x => (match x with
  | .emp eb' e' => if eb' = eb ∧ e' = e then .sr (.l (a + T0)) [] 0 0 none eb e else x
  | x => x)
 | .agg _ l, x => (match x with
  | .agg τ xs => .agg τ (V.q2t l xs)
  | x => x)
 | _, x => x
def V.q2t : List Sh → List V → List V
 | s :: l, x :: xs => V.q02 s x :: V.q2t l xs
 | _, xs => xs
end
theorem V.z2s : ∀ (l : List Sh) (xs : List V), (V.q2t l xs).length = xs.length
 | [], xs => by simp [V.q2t]
 | s :: l, [] => by simp [V.q2t]
 | s :: l, x :: xs => by simp [V.q2t, V.z2s l xs]
theorem V.z0g (s : Sh) (x : V) : (V.q02 s x).ty = x.ty := by
 unfold V.q02
 split
 ·split
  ·split
   ·rename_i h; obtain ⟨rfl, rfl⟩ := h; rfl
   ·rfl
  ·rfl
 ·split <;> rfl
 ·rfl
theorem V.z5R (s : Sh) (x : V) : (V.q02 s x).plain = x.plain := by
 unfold V.q02
 split
 ·split
  ·split
   ·rfl
   ·rfl
  ·rfl
 ·split <;> rfl
 ·rfl
mutual
theorem V.z8m : ∀ (s : Sh) (x : V), (V.q02 s x).j8 = x.j8
 | .vec (.l a) eb e, x => by
  simp only [V.q02]
  split
  ·split <;> simp [V.j8]
  ·rfl
 | .agg _ l, x => by
  simp only [V.q02]
  split
  ·simp only [V.j8]; exact V.z5Q l _
  ·rfl
 | .vec (.g _) _ _, _ | .d _, _ | .sl _ _ _, _ | .ts _ _, _ | .sr _ _ _ _ _, _ | .cptr _, _ | .arr _, _ | .as _, _ | .fnc _ _, _ => by simp [V.q02]
theorem V.z5Q : ∀ (l : List Sh) (xs : List V), V.U0 (V.q2t l xs) = V.U0 xs
 | [], xs => by simp [V.q2t]
 | s :: l, [] => by simp [V.q2t]
 | s :: l, x :: xs => by simp only [V.q2t, V.U0, V.z8m s x, V.z5Q l xs]
end
mutual
theorem z6.q02 {Γ : G} {hm : Option Key} : ∀ (s : Sh) (x : V) {p : List Nat} {vs : List Value}, z6 Γ hm p x vs → z6 Γ hm p (V.q02 s x) vs
 | .vec (.l a) eb e, x, p, vs, h => by
  simp only [V.q02]
  split
  ·split
   ·simp only [z6] at h ⊢
    obtain ⟨a, h⟩ := h
    exact .inl ⟨trivial, trivial, a, h⟩
   ·exact h
  ·exact h
 | .agg _ l, x, p, vs, h => by
  simp only [V.q02]
  split
  ·simp only [z6] at h ⊢
   exact ⟨h.1, h.2.1, by rw [V.z2s]; exact h.2.2.1, h.2.2.2.1, x9.q2t l _ h.2.2.2.2⟩
  ·exact h
 | .vec (.g _) _ _, _, _, _, h | .d _, _, _, _, h | .sl _ _ _, _, _, _, h | .ts _ _, _, _, _, h | .sr _ _ _ _ _, _, _, _, h | .cptr _, _, _, _, h | .arr _, _, _, _, h | .as _, _, _, _, h | .fnc _ _, _, _, _, h => by simpa only [V.q02] using h
theorem x9.q2t {Γ : G} {hm : Option Key} : ∀ (l : List Sh) (xs : List V) {p : List Nat} {i : Nat} {τ : Ty} {vs : List Value}, x9 Γ hm p i τ xs vs → x9 Γ hm p i τ (V.q2t l xs) vs
 | [], xs, _, _, _, _, h => by simpa only [V.q2t] using h
 | s :: l, [], _, _, _, _, h => by simpa only [V.q2t] using h
 | s :: l, x :: xs, _, _, _, _, h => by
  simp only [x9, V.q2t, V.z0g] at h ⊢
  obtain ⟨⟨o, f, h1, h2, h3, h4⟩, h5⟩ := h
  exact ⟨⟨o, f, h1, h2, h3, z6.q02 s x h4⟩, x9.q2t l xs h5⟩
end
mutual
def V.y6f : Sh → V → List (Nat × Ty)
 | .vec (.l a) eb e, x => (match x with
  | .emp eb' e' => if eb' = eb ∧ e' = e then [(a + T0, e)] else []
  | .nilc => [(a + T0, e)]
  | _ => [])
 | .agg _ l, x => (match x with
  | .agg _ xs => V.y7X l xs
  | _ => [])
 | _, _ => []
def V.y7X : List Sh → List V → List (Nat × Ty)
 | s :: l, x :: xs => V.y6f s x ++ V.y7X l xs
 | _, _ => []
end
def z3P : List (Nat × Ty) → S → S
 | [], s => s
 | (t, e) :: l, s => if (s.obj (.l t)).isNone = true then z3P l (s.put (.l t) (.box (.d (.arr 0 e) (.agg [])))) else z3P l s
def V.z2t (s : Sh) (x : V) : V :=
 match s, x with
 | .vec (.l a) eb e, .nilc => .sr (.l (a + T0)) [] 0 0 none eb e
 | s, x => V.q02 s x
def z2v : List (Nat × Sh) → S → S
 | [], s => s
 | (i, sh) :: l, s => (match V.y6f sh (s.get i) with
  | [] => z2v l s
  | ns => z2v l (z3P ns (s.set (some i) (V.z2t sh (s.get i)))))
def q8D : List (Key × OSh) → S → S
 | [], s => s
 | (k, .box sh) :: l, s => (match s.obj k with
  | some (.box x) => (match V.y6f sh x with
   | [] => q8D l s
   | ns => q8D l (z3P ns (s.put k (.box (V.q02 sh x)))))
  | _ => q8D l s)
 | _ :: l, s => q8D l s
end Go.E
namespace Go.E
open Go
set_option linter.unusedSectionVars false
mutual
def V.q2k (s : S) : V → V
 | .agg τ vs => .agg τ (V.q21 s vs)
 | x => H9 s x
def V.q21 (s : S) : List V → List V
 | [] => []
 | x :: xs => V.q2k s x :: V.q21 s xs
end
mutual
def V.z3n : V → List Nat
 | .agg _ vs => V.z30 vs
 | x => q2K x
def V.z30 : List V → List Nat
 | [] => []
 | x :: xs => V.z3n x ++ V.z30 xs
end
mutual
def V.frz (s : S) : Sh → V → V
 | .d _, x => x.q2k s
 | .agg _ l, x => (match x with
  | .agg τ xs => .agg τ (V.q3U s l xs)
  | x => x)
 | _, x => x
def V.q3U (s : S) : List Sh → List V → List V
 | sh :: l, x :: xs => V.frz s sh x :: V.q3U s l xs
 | _, xs => xs
end
mutual
def V.q97 : Sh → V → List Nat
 | .d _, x => x.z3n
 | .agg _ l, x => (match x with
  | .agg _ xs => V.z9K l xs
  | _ => [])
 | _, _ => []
def V.z9K : List Sh → List V → List Nat
 | sh :: l, x :: xs => V.q97 sh x ++ V.z9K l xs
 | _, _ => []
end
theorem z6.z6g {Γ Γ' : G} (p : Q4 Γ Γ') {q : List Nat} {x : V} {vs : List Value} (h : z6 Γ none q x vs) : z6 Γ' none q x vs := z6.Z0 p (hm := none) trivial x h
theorem y04 (s : S) (x : V) : (H9 s x).ty = x.ty ∧ (H9 s x).plain = x.plain := by
 unfold H9
 split
 ·split
  ·split
   ·split
    ·split
     ·exact ⟨rfl, rfl⟩
     ·exact ⟨rfl, rfl⟩
    ·exact ⟨rfl, rfl⟩
   ·exact ⟨rfl, rfl⟩
  ·exact ⟨rfl, rfl⟩
 ·exact ⟨rfl, rfl⟩
theorem V.y06 (s : S) (x : V) : (x.q2k s).ty = x.ty ∧ (x.q2k s).plain = x.plain := by
 cases x <;> simp only [V.q2k] <;> first | exact y04 s _ | exact ⟨rfl, rfl⟩
theorem V.z2a (s : S) : ∀ xs : List V, (V.q21 s xs).length = xs.length
 | [] => rfl
 | x :: xs => by simp [V.q21, V.z2a s xs]
theorem V.y1f (s : S) (sh : Sh) (x : V) : (V.frz s sh x).ty = x.ty ∧ (V.frz s sh x).plain = x.plain := by
 unfold V.frz
 split
 ·exact V.y06 s x
 ·split <;> exact ⟨rfl, rfl⟩
 ·exact ⟨rfl, rfl⟩
theorem V.z4Y (s : S) : ∀ (l : List Sh) (xs : List V), (V.q3U s l xs).length = xs.length
 | [], xs => by simp [V.q3U]
 | _ :: _, [] => by simp [V.q3U]
 | sh :: l, x :: xs => by simp [V.q3U, V.z4Y s l xs]
section
variable {Γ Γ' : G} {s : S} {js : List Nat} (p : Q4 Γ Γ') (hc : ∀ (x : V) (v : Value), z8 Γ x v → (∀ j ∈ q2K x, j ∈ js) → z8 Γ' (H9 s x) v)
include p hc
theorem z6.H9 {x : V} {q : List Nat} {vs : List Value} (hx : x.plain = true) (ha : x.ty.isAgg = false) (h : z6 Γ none q x vs) (hk : ∀ j ∈ q2K x, j ∈ js) : z6 Γ' none q (H9 s x) vs := by
 by_cases hn : q2K x = []
 ·rw [z6w (fun j hj => by rw [hn] at hj; cases hj)]
  exact h.z6g p
 ·cases x <;> (try (exact absurd rfl hn))
  rename_i k q0 lo n cp eb e
  cases k with
  | g k => exact absurd rfl hn
  | l j =>
   have hv : ∃ v, vs = [v] ∧ z8 Γ (.sr (.l j) q0 lo n cp eb e) v := by
    have h' := h
    simp only [z6] at h
    rcases h with ⟨_, _, a, rfl⟩ | ⟨b, τ0, o, m, cap, _, _, _, ⟨a, rfl, _⟩, _⟩
    ·exact ⟨_, rfl, (k7 rfl rfl).2 ⟨by simpa only [z6] using h', rfl⟩⟩
    ·exact ⟨_, rfl, (k7 rfl rfl).2 ⟨by simpa only [z6] using h', rfl⟩⟩
   obtain ⟨v, rfl, hv⟩ := hv
   have h2 := hc _ _ hv hk
   have h3 := y04 s (.sr (.l j) q0 lo n cp eb e)
   have hvc : v.cells.toList = [v] := by
    rcases q1p hv with ⟨_, _, a, rfl⟩ | ⟨b, τ0, o, m, cap, a, _, _, _, rfl, _⟩ <;> rfl
   obtain ⟨h4, _⟩ := (v7 (by rw [h3.2]; rfl)).1 h2
   rw [hvc] at h4
   exact z6.X7 _ h4
mutual
theorem z6.q2k : ∀ (x : V) {q : List Nat} {vs : List Value}, z6 Γ none q x vs → (∀ j ∈ x.z3n, j ∈ js) → z6 Γ' none q (x.q2k s) vs
 | .agg τ xs, q, vs, h, hk => by
  simp only [V.q2k, V.z3n] at hk ⊢
  simp only [z6] at h ⊢
  exact ⟨h.1, h.2.1, by rw [V.z2a]; exact h.2.2.1, h.2.2.2.1, x9.q21 xs h.2.2.2.2 hk⟩
 | .any, q, vs, _, _ => by simp only [V.q2k, Go.E.H9, z6]
 | .tup _, q, vs, h, _ => by simp only [z6] at h
 | .d τ c, q, vs, h, _ => by simp only [V.q2k, Go.E.H9]; exact h.z6g p
 | .sl _ _ _ _, q, vs, h, hk | .ts _ _ _, q, vs, h, hk | .emp _ _, q, vs, h, hk | .nilc, q, vs, h, hk | .ptr _ _ _, q, vs, h, hk | .cptr _ _, q, vs, h, hk | .mp _, q, vs, h, hk | .fn _ _, q, vs, h, hk | .top _, q, vs, h, hk => by
  simp only [V.q2k, Go.E.H9]; exact h.z6g p
 | .sr k q0 lo n cp eb e, q, vs, h, hk => by
  simp only [V.q2k]
  exact z6.H9 p hc rfl rfl h (by simpa only [V.z3n] using hk)
theorem x9.q21 : ∀ (xs : List V) {q : List Nat} {i : Nat} {τ : Ty} {vs : List Value}, x9 Γ none q i τ xs vs → (∀ j ∈ V.z30 xs, j ∈ js) → x9 Γ' none q i τ (V.q21 s xs) vs
 | [], _, _, _, _, _, _ => by simp only [V.q21, x9]
 | x :: xs, _, _, _, _, h, hk => by
  simp only [x9, V.q21, (V.y06 s x).1] at h ⊢
  simp only [V.z30, List.mem_append] at hk
  obtain ⟨⟨o, f, h1, h2, h3, h4⟩, h5⟩ := h
  exact ⟨⟨o, f, h1, h2, h3, z6.q2k x h4 fun j hj => hk j (.inl hj)⟩, x9.q21 xs h5 fun j hj => hk j (.inr hj)⟩
end
mutual
theorem z6.frz : ∀ (sh : Sh) (x : V) {q : List Nat} {vs : List Value}, z6 Γ none q x vs → (∀ j ∈ V.q97 sh x, j ∈ js) → z6 Γ' none q (V.frz s sh x) vs
 | .d _, x, q, vs, h, hk => by simp only [V.frz, V.q97] at hk ⊢; exact z6.q2k p hc x h hk
 | .agg _ l, x, q, vs, h, hk => by
  simp only [V.frz, V.q97] at hk ⊢
  split
  ·simp only [z6] at h ⊢
   exact ⟨h.1, h.2.1, by rw [V.z4Y]; exact h.2.2.1, h.2.2.2.1, x9.q3U l _ h.2.2.2.2 hk⟩
  ·exact h.z6g p
 | .sl _ _ _, x, q, vs, h, _ | .ts _ _, x, q, vs, h, _ | .sr _ _ _ _ _, x, q, vs, h, _ | .cptr _, x, q, vs, h, _ | .arr _, x, q, vs, h, _ | .as _, x, q, vs, h, _ | .vec _ _ _, x, q, vs, h, _ | .fnc _ _, x, q, vs, h, _ => by
  simp only [V.frz]; exact h.z6g p
theorem x9.q3U : ∀ (l : List Sh) (xs : List V) {q : List Nat} {i : Nat} {τ : Ty} {vs : List Value}, x9 Γ none q i τ xs vs → (∀ j ∈ V.z9K l xs, j ∈ js) → x9 Γ' none q i τ (V.q3U s l xs) vs
 | [], xs, _, _, _, _, h, _ => by simp only [V.q3U]; exact x9.Z0 p (hm := none) trivial xs h
 | _ :: _, [], _, _, _, _, _, _ => by simp only [V.q3U, x9]
 | sh :: l, x :: xs, _, _, _, _, h, hk => by
  simp only [x9, V.q3U, (V.y1f s sh x).1] at h ⊢
  simp only [V.z9K, List.mem_append] at hk
  obtain ⟨⟨o, f, h1, h2, h3, h4⟩, h5⟩ := h
  exact ⟨⟨o, f, h1, h2, h3, z6.frz sh x h4 fun j hj => hk j (.inl hj)⟩, x9.q3U l xs h5 fun j hj => hk j (.inr hj)⟩
end
theorem z8.frz {sh : Sh} {x : V} {v : Value} (h : z8 Γ x v) (hk : ∀ j ∈ V.q97 sh x, j ∈ js) : z8 Γ' (V.frz s sh x) v := by
 by_cases hp : x.plain = true
 ·obtain ⟨h1, h2⟩ := (v7 hp).1 h
  exact (v7 (by rw [(V.y1f s sh x).2]; exact hp)).2 ⟨z6.frz p hc sh x h1 hk, by rw [(V.y1f s sh x).1]; exact h2⟩
 ·have : V.frz s sh x = x := by
   cases x <;> simp [V.plain] at hp <;> (unfold V.frz; split <;> rfl)
  rw [this]; exact h.Z0 p
end
def q23 (s : S) : List (Nat × Sh) → List Nat
 | [] => []
 | (i, sh) :: l => V.q97 sh (s.get i) ++ q23 s l
def q4r (s0 : S) : List (Nat × Sh) → S → S
 | [], s => s
 | (i, sh) :: l, s => q4r s0 l (match V.q97 sh (s0.get i) with
  | [] => s
  | _ => s.set (some i) (V.frz s0 sh (s0.get i)))
def z1E (sh : SSh) (s : S) : S :=
 match q23 s sh.env with
 | [] => s
 | js => q4r s sh.env (q0O js s)
theorem z1F (s0 : S) : ∀ (l : List (Nat × Sh)) (s : S), (q4r s0 l s).loc = s.loc ∧ (q4r s0 l s).tk = s.tk ∧ (q4r s0 l s).A = s.A
 | [], s => ⟨rfl, rfl, rfl⟩
 | (i, sh) :: l, s => by
  simp only [q4r]
  have := z1F s0 l (match V.q97 sh (s0.get i) with
   | [] => s
   | _ => s.set (some i) (V.frz s0 sh (s0.get i)))
  refine ⟨this.1.trans ?_, this.2.1.trans ?_, this.2.2.trans ?_⟩ <;> (split <;> rfl)
theorem z6G {Γ' : G} {tmps : Array Value} {s0 : S} {js : List Nat} (h0 : ∀ i sh, (∀ j ∈ V.q97 sh (s0.get i), j ∈ js) → z8 Γ' (V.frz s0 sh (s0.get i)) (tmps.getD i undef)) : ∀ (l : List (Nat × Sh)) (s : S), (∀ j ∈ q23 s0 l, j ∈ js) → (∀ i, z8 Γ' (s.get i) (tmps.getD i undef)) → ∀ i, z8 Γ' ((q4r s0 l s).get i) (tmps.getD i undef)
 | [], s, _, h => h
 | (i, sh) :: l, s, hk, h => by
  simp only [q4r]
  simp only [q23, List.mem_append] at hk
  refine z6G h0 l _ (fun j hj => hk j (.inr hj)) fun m => ?_
  split
  ·exact h m
  ·rw [q4H]
   split
   ·rename_i e
    cases e
    exact h0 i sh fun j hj => hk j (.inl hj)
   ·exact h m
theorem x1i {X : Cx} {n : Nat} {Γ0 : G} {a : Act} {w : World} {sh : SSh} {s : S} (h : At X n Γ0 s a w) : At X n Γ0 (z1E sh s) a w := by
 unfold z1E
 split
 ·exact h
 ·obtain ⟨Γ, g1, g3, c, hs, hn, hf, hA⟩ := h
  obtain ⟨Γ', g, p, c', hcv⟩ := z1r (q23 s sh.env) s c
  have hl := z1F s sh.env (q0O (q23 s sh.env) s)
  have hE := q7L (q23 s sh.env) s
  refine ⟨Γ', g1.trans g, g.gl.trans g3, c'.congr (fun k => ?_) (fun t => ?_) (fun t ht => ?_), ?_, hn, hf, by rw [hl.2.2, hE.2]; exact hA⟩
  ·unfold S.obj; rw [hl.1, hl.2.2]
  ·unfold S.live; rw [hl.2.1]
  ·unfold S.known at ht ⊢; rw [hl.2.1]; exact ht
  ·refine z6G (js := q23 s sh.env) (fun i sh' hk => z8.frz p hcv (hs i) hk) sh.env _ (fun j hj => hj) fun i => ?_
   exact q28 hE.1 (hs.Z0 p) i
mutual
theorem V.y05 (s : S) (A' : Key → Option O) : ∀ x : V, x.q2k (s.wA A') = x.q2k s
 | .agg τ vs => by simp only [V.q2k]; rw [V.z8G s A' vs]
 | .d _ _ | .sl _ _ _ _ | .ts _ _ _ | .emp _ _ | .nilc | .ptr _ _ _ | .cptr _ _ | .mp _ | .fn _ _ | .top _ | .any | .tup _ | .sr _ _ _ _ _ _ _ => by simp only [V.q2k]; exact y03 s A' _
theorem V.z8G (s : S) (A' : Key → Option O) : ∀ xs : List V, V.q21 (s.wA A') xs = V.q21 s xs
 | [] => rfl
 | x :: xs => by simp only [V.q21]; rw [V.y05 s A' x, V.z8G s A' xs]
end
mutual
theorem V.y5z (s : S) (A' : Key → Option O) : ∀ (sh : Sh) (x : V), V.frz (s.wA A') sh x = V.frz s sh x
 | .d _, x => by simp only [V.frz]; exact V.y05 s A' x
 | .agg _ l, x => by simp only [V.frz]; split <;> (try rfl); rw [V.y21 s A' l]
 | .sl _ _ _, x | .ts _ _, x | .sr _ _ _ _ _, x | .cptr _, x | .arr _, x | .as _, x | .vec _ _ _, x | .fnc _ _, x => by simp only [V.frz]
theorem V.y21 (s : S) (A' : Key → Option O) : ∀ (l : List Sh) (xs : List V), V.q3U (s.wA A') l xs = V.q3U s l xs
 | [], xs => by simp only [V.q3U]
 | _ :: _, [] => by simp only [V.q3U]
 | sh :: l, x :: xs => by simp only [V.q3U]; rw [V.y5z s A' sh x, V.y21 s A' l xs]
end
theorem z6R (s : S) (A' : Key → Option O) : ∀ l : List (Nat × Sh), q23 (s.wA A') l = q23 s l
 | [] => rfl
 | (i, sh) :: l => by simp only [q23]; rw [z6R s A' l]; rfl
theorem z8O (s0 : S) (A' : Key → Option O) : ∀ (l : List (Nat × Sh)) (s : S), q4r (s0.wA A') l (s.wA A') = (q4r s0 l s).wA A'
 | [], _ => rfl
 | (i, sh) :: l, s => by
  simp only [q4r]
  rw [← z8O s0 A' l]
  congr 1
  show (match V.q97 sh (s0.get i) with
   | [] => s.wA A'
   | _ => (s.wA A').set (some i) (V.frz (s0.wA A') sh (s0.get i))) = _
  rw [V.y5z]
  split <;> rfl
theorem y9i (sh : SSh) (s : S) (A' : Key → Option O) : z1E sh (s.wA A') = (z1E sh s).wA A' := by
 unfold z1E
 rw [z6R]
 split
 ·rfl
 ·rw [z5v]; exact z8O s A' sh.env _
end Go.E
namespace Go.E
open Go
def q77 {R : Type} : Key → (Key → Option R) → Option R
 | .l 0, K => K (.l 0)
 | .l (n + 1), K => K (.l (n + 1))
 | .g k, K => q77 k fun k => K (.g k)
theorem q5G {R : Type} : ∀ (k : Key) (K : Key → Option R), q77 k K = K k
 | .l 0, K => rfl
 | .l (n + 1), K => rfl
 | .g k, K => by simp only [q77, q5G k]
mutual
def q76 {R : Type} : V → (V → Option R) → Option R
 | .d τ c, K => K (.d τ c)
 | .sl eb e cs t, K => K (.sl eb e cs t)
 | .ts eb e cs, K => K (.ts eb e cs)
 | .emp eb e, K => K (.emp eb e)
 | .nilc, K => K .nilc
 | .ptr k q τ, K => q77 k fun k => K (.ptr k q τ)
 | .cptr τ c, K => K (.cptr τ c)
 | .sr k q lo n cp eb e, K => q77 k fun k => K (.sr k q lo n cp eb e)
 | .mp k, K => q77 k fun k => K (.mp k)
 | .agg τ l, K => z4c l fun l => K (.agg τ l)
 | .fn f l, K => K (.fn f l)
 | .tup l, K => z4c l fun l => K (.tup l)
 | .top τ, K => K (.top τ)
 | .any, K => K .any
def z4c {R : Type} : List V → (List V → Option R) → Option R
 | [], K => K []
 | x :: l, K => q76 x fun x => z4c l fun l => K (x :: l)
end
mutual
theorem z0M {R : Type} : ∀ (x : V) (K : V → Option R), q76 x K = K x
 | .d _ _, _ | .sl _ _ _ _, _ | .ts _ _ _, _ | .emp _ _, _ | .nilc, _ | .cptr _ _, _ | .fn _ _, _ | .top _, _ | .any, _ => by simp only [q76]
 | .ptr k q τ, K => by simp only [q76, q5G]
 | .sr k q lo n cp eb e, K => by simp only [q76, q5G]
 | .mp k, K => by simp only [q76, q5G]
 | .agg τ l, K => by simp only [q76, z5B l]
 | .tup l, K => by simp only [q76, z5B l]
theorem z5B {R : Type} : ∀ (l : List V) (K : List V → Option R), z4c l K = K l
 | [], K => by simp only [z4c]
 | x :: l, K => by simp only [z4c, z0M x, z5B l]
end
def y4b {R : Type} : List (Nat × V) → (List (Nat × V) → Option R) → Option R
 | [], K => K []
 | (i, x) :: l, K => q76 x fun x => y4b l fun l => K ((i, x) :: l)
theorem y24 {R : Type} : ∀ (l : List (Nat × V)) (K : List (Nat × V) → Option R), y4b l K = K l
 | [], K => rfl
 | (i, x) :: l, K => by simp only [y4b, z0M, y24 l]
def y1k {R : Type} : List (Key × O) → (List (Key × O) → Option R) → Option R
 | [], K => K []
 | (k, .box x) :: l, K => q77 k fun k => q76 x fun x => y1k l fun l => K ((k, .box x) :: l)
 | (k, o) :: l, K => q77 k fun k => y1k l fun l => K ((k, o) :: l)
theorem y23 {R : Type} : ∀ (l : List (Key × O)) (K : List (Key × O) → Option R), y1k l K = K l
 | [], K => rfl
 | (k, o) :: l, K => by
  cases o <;> simp only [y1k, q5G, z0M, y23 l]
def y1h {R : Type} : List (Nat × Option Nat) → (List (Nat × Option Nat) → Option R) → Option R
 | [], K => K []
 | (i, none) :: l, K => y1h l fun l => K ((i, none) :: l)
 | (i, some n) :: l, K => y1h l fun l => K ((i, some n) :: l)
theorem y22 {R : Type} : ∀ (l : List (Nat × Option Nat)) (K : List (Nat × Option Nat) → Option R), y1h l K = K l
 | [], K => rfl
 | (i, o) :: l, K => by cases o <;> simp only [y1h, y22 l]
def frc {R : Type} (s : S) (K : S → Option R) : Option R :=
 match s with
 | ⟨env, loc, A, tk⟩ => y4b env fun env => y1k loc fun loc => y1h tk fun tk => K ⟨env, loc, A, tk⟩
theorem y1g {R : Type} (s : S) (K : S → Option R) : frc s K = K s := by
 unfold frc
 simp only [y24, y23, y22]
def z7R {R : Type} : List Cap → (List Cap → Option R) → Option R
 | [], K => K []
 | .c τ :: l, K => z7R l fun l => K (.c τ :: l)
 | .v x :: l, K => q76 x fun x => z7R l fun l => K (.v x :: l)
theorem z7Q {R : Type} : ∀ (l : List Cap) (K : List Cap → Option R), z7R l K = K l
 | [], K => rfl
 | .c τ :: l, K => by simp only [z7R, z7Q l]
 | .v x :: l, K => by simp only [z7R, z0M, z7Q l]
mutual
def q7h {R : Type} : Sh → (Sh → Option R) → Option R
 | .sr k q cp eb e, K => q77 k fun k => K (.sr k q cp eb e)
 | .vec k eb e, K => q77 k fun k => K (.vec k eb e)
 | .agg τ l, K => z3w l fun l => K (.agg τ l)
 | .as v, K => q76 v fun v => K (.as v)
 | .d τ, K => K (.d τ)
 | .sl eb e t, K => K (.sl eb e t)
 | .ts eb e, K => K (.ts eb e)
 | .cptr τ, K => K (.cptr τ)
 | .arr e, K => K (.arr e)
 | .fnc f l, K => z7R l fun l => K (.fnc f l)
def z3w {R : Type} : List Sh → (List Sh → Option R) → Option R
 | [], K => K []
 | x :: l, K => q7h x fun x => z3w l fun l => K (x :: l)
end
mutual
theorem z5C {R : Type} : ∀ (x : Sh) (K : Sh → Option R), q7h x K = K x
 | .d _, _ | .sl _ _ _, _ | .ts _ _, _ | .cptr _, _ | .arr _, _ => by simp only [q7h]
 | .sr _ _ _ _ _, K => by simp only [q7h, q5G]
 | .vec _ _ _, K => by simp only [q7h, q5G]
 | .as v, K => by simp only [q7h, z0M]
 | .fnc f l, K => by simp only [q7h, z7Q]
 | .agg τ l, K => by simp only [q7h, z8P l]
theorem z8P {R : Type} : ∀ (l : List Sh) (K : List Sh → Option R), z3w l K = K l
 | [], K => by simp only [z3w]
 | x :: l, K => by simp only [z3w, z5C x, z8P l]
end
def z9L {R : Type} : List (Nat × Sh) → (List (Nat × Sh) → Option R) → Option R
 | [], K => K []
 | (i, x) :: l, K => q7h x fun x => z9L l fun l => K ((i, x) :: l)
theorem y1j {R : Type} : ∀ (l : List (Nat × Sh)) (K : List (Nat × Sh) → Option R), z9L l K = K l
 | [], K => rfl
 | (i, x) :: l, K => by simp only [z9L, z5C, y1j l]
def z6I {R : Type} : List (Key × OSh) → (List (Key × OSh) → Option R) → Option R
 | [], K => K []
 | (k, .box x) :: l, K => q77 k fun k => q7h x fun x => z6I l fun l => K ((k, .box x) :: l)
 | (k, o) :: l, K => q77 k fun k => z6I l fun l => K ((k, o) :: l)
theorem y1i {R : Type} : ∀ (l : List (Key × OSh)) (K : List (Key × OSh) → Option R), z6I l K = K l
 | [], K => rfl
 | (k, o) :: l, K => by cases o <;> simp only [z6I, q5G, z5C, y1i l]
def z6H {R : Type} (s : SSh) (K : SSh → Option R) : Option R :=
 match s with
 | ⟨env, loc⟩ => z9L env fun env => z6I loc fun loc => K ⟨env, loc⟩
theorem z5D {R : Type} (s : SSh) (K : SSh → Option R) : z6H s K = K s := by
 unfold z6H
 simp only [y1j, y1i]
def y5V : List V → Bool
 | [] => false
 | .cptr _ _ :: _ => true
 | _ :: l => y5V l
def y1Q : List V → List Cap
 | [] => []
 | .cptr τ _ :: l => .c τ :: y1Q l
 | x :: l => .v x :: y1Q l
mutual
def V.y4y : V → Sh
 | .d τ _ => (match τ with
  | .ptr => .as (.d .ptr .nil)
  | .map => .as (.d .map .nil)
  | .func => .as (.d .func .nil)
  | τ => .d τ)
 | .sl eb e _ _ => .d (.slice eb e)
 | .ts eb e _ => .ts eb e
 | .sr k q _ _ cp eb e => (match q, cp with
  | [], none => .vec k eb e
  | q, cp => .sr k q cp.isSome eb e)
 | .cptr τ _ => .cptr τ
 | .agg τ vs => .agg τ (V.y8n vs)
 | .tup _ => .as .any
 | .fn f vs => bif y5V vs then .fnc f (y1Q vs) else .as (.fn f vs)
 | x => .as x
def V.y8n : List V → List Sh
 | [] => []
 | x :: xs => x.y4y :: V.y8n xs
end
mutual
def V.z6B : V → List Key
 | .ptr k _ _ | .mp k | .sr k _ _ _ _ _ _ => [k]
 | .agg _ vs | .fn _ vs | .tup vs => V.y5n vs
 | _ => []
def V.y5n : List V → List Key
 | [] => []
 | x :: xs => x.z6B ++ V.y5n xs
end
def O.z6B : O → List Key
 | .box x => x.z6B
 | .map _ _ _ => []
 | .it _ _ | .dead _ => []
def y3V : Key → List Key → Bool
 | _, [] => false
 | k, j :: l => if j = k then true else y3V k l
def z6e (s : S) : Nat → List Key → List Key → List Key
 | 0, _, acc => acc
 | _, [], acc => acc
 | f + 1, k :: ks, acc => if y3V k acc = true then z6e s f ks acc else (match s.obj k with
  | some o => z6e s f (o.z6B ++ ks) (acc ++ [k])
  | none => z6e s f ks acc)
structure Hint where
 live : List Nat
 new : List (Nat × Sh)
 roots : List Key
 obs : List (Key × OSh)
 drop : List Key
 vecs : List Ty := []
def y8j (s : S) : List Nat → List Key
 | [] => []
 | i :: l => (s.get i).z6B ++ y8j s l
def y1X (s : S) : List Nat → List (Nat × Sh)
 | [] => []
 | i :: l => (match s.get i with
  | .any => y1X s l
  | x => (i, x.y4y) :: y1X s l)
def z36 (e : Ty) : List Ty → Bool
 | [] => false
 | t :: l => if Ty.beq t e = true then true else z36 e l
def z9Q : Key → Nat
 | .l n => 2 * n
 | .g k => 2 * z9Q k + 1
def V1 : Nat := 1000000000000
mutual
def Sh.y6e (ts : List Ty) : Nat → Sh → V → Sh
 | b, .vec (.g k) eb e, _ => if z36 e ts = true then .vec (.l (V1 + 8 * z9Q (.g k) + 2)) eb e else .vec (.g k) eb e
 | b, .as v, _ => (match v with
  | .emp eb e => if z36 e ts = true then .vec (.l b) eb e else .as v
  | v => .as v)
 | b, .ts eb e, x => (match x with
  | .emp _ _ => if z36 e ts = true then .vec (.l b) eb e else .ts eb e
  | _ => .ts eb e)
 | b, .agg τ l, x => (match x with
  | .agg _ xs => .agg τ (Sh.y7W ts (64 * b) l xs)
  | _ => .agg τ l)
 | _, s, _ => s
def Sh.y7W (ts : List Ty) : Nat → List Sh → List V → List Sh
 | b, s :: l, x :: xs => Sh.y6e ts b s x :: Sh.y7W ts (b + 1) l xs
 | _, _, _ => []
end
mutual
def Sh.y6c : Sh → List (Key × OSh)
 | .vec (.l a) _ e => if V1 ≤ a then [(.l a, .box (.arr e))] else []
 | .agg _ l => Sh.y7V l
 | _ => []
def Sh.y7V : List Sh → List (Key × OSh)
 | [] => []
 | s :: l => s.y6c ++ Sh.y7V l
end
def y29 (s : S) (ts : List Ty) : List (Nat × Sh) → List (Nat × Sh)
 | [] => []
 | (i, sh) :: l => (i, sh.y6e ts (V1 + 8 * i + 3) (s.get i)) :: y29 s ts l
def q8x (s : S) (ts : List Ty) : List (Key × OSh) → List (Key × OSh)
 | [] => []
 | (k, .box sh) :: l => (match k, sh with
  | .g k, .arr e => if z36 e ts = true then (.g k, .dead e) :: (.l (V1 + 8 * z9Q (.g k) + 2), .box (.arr e)) :: q8x s ts l else (.g k, .box sh) :: q8x s ts l
  | k, sh => (match s.obj k with
   | some (.box x) => (k, .box (sh.y6e ts (V1 + 8 * z9Q k + 1) x)) :: q8x s ts l
   | _ => (k, .box sh) :: q8x s ts l))
 | p :: l => p :: q8x s ts l
def y28 : List (Nat × Sh) → List (Key × OSh)
 | [] => []
 | (_, sh) :: l => sh.y6c ++ y28 l
def z7L : List (Key × OSh) → List (Key × OSh)
 | [] => []
 | (_, .box sh) :: l => sh.y6c ++ z7L l
 | _ :: l => z7L l
def y1W : List (Key × OSh) → List (Key × OSh) → List (Key × OSh)
 | [], acc => acc
 | (k, o) :: l, acc => if q9I acc k = true then y1W l acc else y1W l (acc ++ [(k, o)])
def y93 (s : S) (ts : List Ty) (sh : SSh) : SSh :=
 match ts with
 | [] => sh
 | ts => (match y29 s ts sh.env, q8x s ts sh.loc with
  | env, loc => ⟨env, y1W (y28 env ++ z7L loc) loc⟩)
def q7U (s : S) (h : Hint) : List Key → List (Key × OSh)
 | [] => []
 | k :: l => if y3V k h.drop = true then q7U s h l else if q9I h.obs k = true then q7U s h l else (match s.obj k with
  | some (.box x) => (k, .box (match x with
    | .d (.arr M e) _ => (match k, M with
     | _, _ => if z36 e h.vecs = true then .arr e else .d (.arr M e))
    | .d τ _ => .d τ
    | x => (match h.vecs with
     | [] => bif (Z7 x).isSome then .d x.ty else x.q2o.y4y
     | _ => x.y4y))) :: q7U s h l
  | some (.map kτ vτ _) => (k, .map kτ vτ) :: q7U s h l
  | some (.it _ _) => (k, .it) :: q7U s h l
  | some (.dead (.arr _ e)) => (k, .dead e) :: q7U s h l
  | _ => q7U s h l)
def y1G : List (Key × O) → List Key
 | [] => []
 | (.g k, .dead _) :: l => .g k :: y1G l
 | _ :: l => y1G l
def y6T (h : Hint) (s : S) : SSh :=
 y93 s h.vecs ⟨y1X s h.live ++ h.new, h.obs ++ q7U s h (z6e s 1000 (y8j s h.live ++ h.roots) [] ++ y1G s.loc)⟩
def z1G : List (Key × OSh) → S → S
 | [], s => s
 | (k, .box _) :: l, s => (match s.obj k with
  | some (.box x) => z1G l (s.put k (.box x.q2o))
  | _ => z1G l s)
 | _ :: l, s => z1G l s
def q6Z : List (Nat × Sh) → S → S
 | [], s => s
 | (i, sh) :: l, s => (match sh with
  | .sl eb e t => (match s.get i with
   | .nilc => if s.known t = false then q6Z l (S.set { s with tk := (t, some 0) :: s.tk } (some i) (.sl eb e [] t)) else q6Z l s
   | .emp eb' e' => if eb' = eb ∧ e' = e ∧ s.known t = false then q6Z l (S.set { s with tk := (t, some 0) :: s.tk } (some i) (.sl eb e [] t)) else q6Z l s
   | _ => q6Z l s)
  | _ => q6Z l s)
mutual
def V.un : V → V → List (Nat × Nat)
 | .ptr (.l a) _ _, .ptr (.l b) _ _ => [(b, a)]
 | .mp (.l a), .mp (.l b) => [(b, a)]
 | .fn _ l, .fn _ l' => V.uns l l'
 | .tup l, .tup l' => V.uns l l'
 | _, _ => []
def V.uns : List V → List V → List (Nat × Nat)
 | x :: xs, y :: ys => V.un x y ++ V.uns xs ys
 | _, _ => []
end
def y4t : List Cap → List V → List (Nat × Nat)
 | .v y :: l, x :: xs => V.un y x ++ y4t l xs
 | .c _ :: l, _ :: xs => y4t l xs
 | _, _ => []
mutual
def Sh.un : Sh → V → List (Nat × Nat)
 | .sr (.l a) _ _ _ _, .sr (.l b) _ _ _ _ _ _ => [(b, a)]
 | .vec (.l a) _ _, .sr (.l b) _ _ _ _ _ _ => [(b, a)]
 | .as v, x => V.un v x
 | .fnc _ l, .fn _ xs => y4t l xs
 | .agg _ l, .agg _ xs => Sh.uns l xs
 | _, _ => []
def Sh.uns : List Sh → List V → List (Nat × Nat)
 | s :: l, x :: xs => s.un x ++ Sh.uns l xs
 | _, _ => []
end
def y3r (s : S) : List (Nat × Sh) → List (Nat × Nat)
 | [] => []
 | (i, sh) :: l => sh.un (s.get i) ++ y3r s l
def z9F (s : S) : List (Nat × Sh) → List (Nat × Nat)
 | [] => []
 | (i, sh) :: l => (match sh, s.get i with
  | .sl _ _ t, .sl _ _ _ t' => (t', t) :: z9F s l
  | _, _ => z9F s l)
def y3W : List (Key × OSh) → Key → Option OSh
 | [], _ => none
 | (j, x) :: l, k => if j = k then some x else y3W l k
def y7Y (s : S) (l : List (Key × OSh)) (b a : Key) : List (Nat × Nat) :=
 match y3W l a, s.obj b with
 | some (.box sh), some (.box x) => sh.un x
 | _, _ => []
def unG (s : S) (l0 : List (Key × OSh)) : List (Key × OSh) → List (Nat × Nat)
 | [] => []
 | (.g k, _) :: l => y7Y s l0 (.g k) (.g k) ++ unG s l0 l
 | (.l _, _) :: l => unG s l0 l
def z9G (s : S) (l : List (Key × OSh)) : Nat → List (Nat × Nat) → List (Nat × Nat) → List (Nat × Nat)
 | 0, _, acc => acc
 | _, [], acc => acc
 | f + 1, (b, a) :: todo, acc => (match look acc b with
  | some _ => z9G s l f todo acc
  | none => z9G s l f (y7Y s l (.l b) (.l a) ++ todo) ((b, a) :: acc))
def z7m : List (Nat × Nat) → Bool
 | [] => true
 | (a, b) :: l => Nat.beq a b && z7m l
def z8d (l : List (Nat × Nat)) (n : Nat) : Nat := (look l n).getD (n + 1000000000)
def z2z (s : S) : List (Nat × Sh) → Bool
 | [] => false
 | (i, sh) :: l => (match sh, s.get i with
  | .sl _ _ t, .nilc => s.known t || z2z s l
  | .sl _ _ t, .emp _ _ => s.known t || z2z s l
  | _, _ => z2z s l)
def y3J (sh : SSh) (s : S) : S :=
 match z9G s sh.loc 1000 (y3r s sh.env ++ unG s sh.loc sh.loc) [], z9F s sh.env with
 | ps, ts => bif z7m ps && z7m ts && !z2z s sh.env then s
  else bif z1y (z8d ps) (q2L s.loc) && z1y (z8d ts) (q2J s.tk) then s.ren (z8d ps) (z8d ts) else s
mutual
def Sh.ad : Sh → V → List (Key × Nat)
 | .vec (.l a) _ _, .sr (.g b) _ _ _ _ _ _ => [(.g b, a + T0)]
 | .agg _ l, .agg _ xs => Sh.ads l xs
 | _, _ => []
def Sh.ads : List Sh → List V → List (Key × Nat)
 | s :: l, x :: xs => s.ad x ++ Sh.ads l xs
 | _, _ => []
end
def y8m (s : S) : List (Nat × Sh) → List (Key × Nat)
 | [] => []
 | (i, sh) :: l => sh.ad (s.get i) ++ y8m s l
def z9T (s : S) : List (Key × OSh) → List (Key × Nat)
 | [] => []
 | (k, .box sh) :: l => (match s.obj k with
  | some (.box x) => sh.ad x ++ z9T s l
  | _ => z9T s l)
 | _ :: l => z9T s l
def y8c {α : Type} : List (Key × α) → List Key
 | [] => []
 | (k, _) :: l => k :: y8c l
def y1V (ks : List Key) : List (Key × Nat) → S → S
 | [], s => s
 | (K, t) :: l, s => y1V ks l (z3N K t ks s)
def y52 : List (Key × OSh) → Bool
 | [] => false
 | (_, .box (.arr _)) :: _ => true
 | _ :: l => y52 l
def y3n (sh : SSh) (s : S) : S :=
 match y52 sh.loc with
 | false => s
 | true => (match y1V (y8c sh.loc) (y8m s sh.env ++ z9T s sh.loc) s with
  | s => q8D sh.loc (z2v sh.env s))
def z0b {R : Type} (sh : SSh) (s : S) (K : List C → List Es → Option R) : Option R :=
 frc (z1E sh s) fun s => frc (y3n sh s) fun s => frc (q6Z sh.env (z1G sh.loc (y3J sh s))) fun s => y4p sh s K
theorem y9A {R : Type} (sh : SSh) (s : S) (K : List C → List Es → Option R) : z0b sh s K = y4p sh (q6Z sh.env (z1G sh.loc (y3J sh (y3n sh (z1E sh s))))) K := by
 unfold z0b
 simp only [y1g]
def WkA (s s' : S) : Prop := s'.A = s.A ∧ ∀ (X : Cx) (n : Nat) (A' : Key → Option O), leA s.A A' → q1V X n (s.wA A') (s'.wA A')
theorem WkA.refl (s : S) : WkA s s := ⟨rfl, fun _ _ _ _ => q1V.refl _⟩
theorem WkA.trans {a b c : S} (h : WkA a b) (h' : WkA b c) : WkA a c :=
 ⟨h'.1.trans h.1, fun X n A' hA => (h.2 X n A' hA).trans (h'.2 X n A' (by rw [h.1]; exact hA))⟩
theorem z4i : ∀ (l : List (Key × OSh)) (s : S), WkA s (z1G l s)
 | [], s => WkA.refl s
 | (k, .box _) :: l, s => by
  simp only [z1G]
  split
  ·rename_i x hx
   exact WkA.trans (b := s.put k (.box x.q2o)) ⟨rfl, fun X n A' hA => y4G (F8 hA hx)⟩ (z4i l _)
  ·exact z4i l s
 | (_, .map _ _) :: l, s | (_, .dead _) :: l, s | (_, .it) :: l, s => z4i l s
theorem q6D : ∀ (l : List (Nat × Sh)) (s : S), WkA s (q6Z l s)
 | [], s => WkA.refl s
 | (i, sh) :: l, s => by
  simp only [q6Z]
  split
  ·rename_i eb e t
   have one : ∀ (hu : s.known t = false) (ht : s.get i = .nilc ∨ s.get i = .emp eb e), WkA s (S.set { s with tk := (t, some 0) :: s.tk } (some i) (.sl eb e [] t)) := fun hu ht =>
    ⟨rfl, fun X n A' hA => y6a (s := s.wA A') hu ht⟩
   split
   ·rename_i hx
    split
    ·rename_i hu
     exact (one hu (.inl hx)).trans (q6D l _)
    ·exact q6D l s
   ·rename_i eb' e' hx
    split
    ·rename_i hu
     obtain ⟨rfl, rfl, hu⟩ := hu
     exact (one hu (.inr hx)).trans (q6D l _)
    ·exact q6D l s
   ·exact q6D l s
  ·exact q6D l s
theorem y8X (sh : SSh) (s : S) : WkA s (y3J sh s) := by
 unfold y3J
 dsimp only
 generalize z9G s sh.loc 1000 (y3r s sh.env ++ unG s sh.loc sh.loc) [] = ps
 generalize z9F s sh.env = ts
 cases z7m ps && z7m ts && !z2z s sh.env
 ·cases hi : z1y (z8d ps) (q2L s.loc) && z1y (z8d ts) (q2J s.tk)
  ·exact WkA.refl s
  ·simp only [Bool.and_eq_true] at hi
   exact ⟨rfl, fun X n A' _ => y6b (s := s.wA A') _ _ hi.1 hi.2⟩
 ·exact WkA.refl s
theorem z9a (ks : List Key) : ∀ (l : List (Key × Nat)) (s : S), WkA s (y1V ks l s)
 | [], s => WkA.refl s
 | (K, t) :: l, s => WkA.trans (b := z3N K t ks s) (y53 K t ks s) (z9a ks l _)
theorem y9D {X : Cx} {n : Nat} {Γ0 : G} {t : Nat} {e : Ty} {a : Act} {w : World} {s : S} (ht : s.obj (.l t) = none) (h : At X n Γ0 s a w) : At X n Γ0 (s.put (.l t) (.box (.d (.arr 0 e) (.agg [])))) a w := by
 obtain ⟨Γ, g1, g3, c, hs, hn, hf, hA⟩ := h
 refine ⟨Γ, g1, g3, ⟨c.hH, c.hZ, c.hκ, fun j o hj => ?_, fun j hj => ?_, c.z1x (fun j hj => ?_), c.tok, c.tdom, c.hgl, c.hoo, c.hσ⟩, hs, hn, hf, hA⟩
 ·rw [W9] at hj
  split at hj
  ·rename_i e1; subst e1; cases hj
   exact .inl ⟨c.z0e ht, e, rfl⟩
  ·exact c.obj j o hj
 ·rw [W9]
  split
  ·simp
  ·exact c.dom j hj
 ·unfold S.Q6 at hj ⊢
  rw [W9]
  split
  ·rename_i e1; subst e1; rw [ht] at hj; cases hj
  ·exact hj
theorem z0Z : ∀ (l : List (Nat × Ty)) (s : S), WkA s (z3P l s)
 | [], s => WkA.refl s
 | (t, e) :: l, s => by
  simp only [z3P]
  split
  ·rename_i h
   have h' : s.obj (.l t) = none := by simpa using h
   exact WkA.trans (b := s.put (.l t) (.box (.d (.arr 0 e) (.agg [])))) ⟨rfl, fun X n A' hA Γ0 a w hat => y9D (s := s.wA A') (by rw [q4e]; exact h') hat⟩ (z0Z l _)
  ·exact z0Z l s
theorem z8.q02 {Γ : G} {sh : Sh} {x : V} {v : Value} (h : z8 Γ x v) : z8 Γ (V.q02 sh x) v := by
 by_cases hp : x.plain = true
 ·obtain ⟨h1, h2⟩ := (v7 hp).1 h
  exact (v7 (by rw [V.z5R]; exact hp)).2 ⟨z6.q02 sh x h1, by rw [V.z0g]; exact h2⟩
 ·have : V.q02 sh x = x := by
   cases x <;> simp [V.plain] at hp <;> (unfold V.q02; split <;> rfl)
  rw [this]; exact h
theorem z8.z2t {Γ : G} {sh : Sh} {x : V} {v : Value} (h : z8 Γ x v) : z8 Γ (V.z2t sh x) v := by
 unfold V.z2t
 split
 ·have := J0 h
  subst this
  exact z4H
 ·exact h.q02
theorem z2u : ∀ (l : List (Nat × Sh)) (s : S), WkA s (z2v l s)
 | [], s => WkA.refl s
 | (i, sh) :: l, s => by
  simp only [z2v]
  split
  ·exact z2u l s
  ·refine WkA.trans (b := s.set (some i) (V.z2t sh (s.get i))) ⟨rfl, fun X n A' hA Γ0 a w hat => ?_⟩ (WkA.trans (z0Z _ _) (z2u l _))
   obtain ⟨Γ, g1, g3, c, hs, hn, hf, hA⟩ := hat
   refine ⟨Γ, g1, g3, show y9 Γ w ((s.wA A').set (some i) (V.z2t sh (s.get i))) from q9g c _ _, fun j => ?_, hn, hf, hA⟩
   have hj := hs j
   show z8 Γ (S.get (S.set (s.wA A') (some i) (V.z2t sh (s.get i))) j) _
   rw [q4H]
   split
   ·rename_i e
    cases e
    exact z8.z2t hj
   ·exact hj
theorem q7o : ∀ (l : List (Key × OSh)) (s : S), WkA s (q8D l s)
 | [], s => WkA.refl s
 | (k, .box sh) :: l, s => by
  simp only [q8D]
  split
  ·rename_i x hx
   split
   ·exact q7o l s
   ·refine WkA.trans (b := s.put k (.box (V.q02 sh x))) ⟨rfl, fun X n A' hA Γ0 a w hat => ?_⟩ (WkA.trans (z0Z _ _) (q7o l _))
    obtain ⟨Γ, g1, g3, c, hs, hn, hf, hAok⟩ := hat
    refine ⟨Γ, g1, g3, c.y3B (F8 hA hx) (fun hown => ?_) (fun hv => ?_), hs, hn, hf, hAok⟩
    ·obtain ⟨b, cells, T, h1, h2, h3, h4, h5, h6, h7, h8⟩ := hown
     exact ⟨b, cells, T, by rw [V.z0g]; exact h1, h2, h3, h4, by rw [V.z0g]; exact h5, by rw [V.z0g]; exact z6.q02 sh x h6, by rw [V.z5R]; exact h7, by rw [V.z8m]; exact h8⟩
    ·obtain ⟨e, rfl⟩ := hv
     have : V.q02 sh (.d (.arr 0 e) (.agg [])) = .d (.arr 0 e) (.agg []) := by unfold V.q02; split <;> rfl
     rw [this]; exact ⟨e, rfl⟩
  ·exact q7o l s
 | (_, .map _ _) :: l, s | (_, .dead _) :: l, s | (_, .it) :: l, s => q7o l s
theorem y8s (sh : SSh) (s : S) : WkA s (y3n sh s) := by
 unfold y3n
 split
 ·exact WkA.refl s
 ·exact ((z9a _ _ s).trans (z2u _ _)).trans (q7o _ _)
theorem y9j (sh : SSh) (s : S) : WkA s (z1E sh s) := by
 refine ⟨?_, fun X n A' hA Γ0 a w hat => ?_⟩
 ·unfold z1E
  split
  ·rfl
  ·rw [(z1F _ _ _).2.2, (q7L _ _).2]
 ·rw [← y9i]
  exact x1i hat
def nbV : V → V
 | .d τ c => (match τ with
  | .bool => .d .bool (.bool c.toBool)
  | τ => .d τ c)
 | x => x
def nbE : List (Nat × V) → List (Nat × V)
 | [] => []
 | (i, x) :: l => (i, nbV x) :: nbE l
def nbS (s : S) : S := { s with env := nbE s.env }
theorem y82 {Γ : G} {x : V} {v : Value} (h : z8 Γ x v) : z8 Γ (nbV x) v := by
 cases x <;> (try exact h)
 rename_i τ c
 cases τ <;> (try exact h)
 obtain ⟨_, e⟩ := H2 h
 rw [e] at h
 exact h
theorem y00 : ∀ (l : List (Nat × V)) (i : Nat), look (nbE l) i = (look l i).map nbV
 | [], _ => rfl
 | (j, x) :: l, i => by
  simp only [nbE, look]
  by_cases e : j = i
  ·rw [if_pos e, if_pos e]; rfl
  ·rw [if_neg e, if_neg e]; exact y00 l i
theorem y49 (s : S) : WkA s (nbS s) := by
 refine ⟨rfl, fun X n A' _ => ?_⟩
 rintro Γ0 a w ⟨Γ, g1, g3, c, hs, hn, hf, hA⟩
 refine ⟨Γ, g1, g3, c.env _, fun i => ?_, hn, hf, hA⟩
 have := hs i
 have e : ((nbS s).wA A').get i = nbV ((s.wA A').get i) := by
  show (look (nbE s.env) i).getD .any = nbV ((look s.env i).getD .any)
  rw [y00]
  cases look s.env i <;> rfl
 rw [e]
 exact y82 this
def q31 (sh : SSh) (A : Key → Option O) (ds : List C) (ms : List Es) : S := nbS (q8q sh A ds ms)
theorem z0V {R : Type} {r : R} {sh : SSh} {s : S} {K : List C → List Es → Option R} (h : z0b sh s K = some r) : ∃ ds ms, K ds ms = some r ∧ WkA s (q31 sh s.A ds ms) := by
 have key : ∃ ds ms, K ds ms = some r ∧ WkA s (q8q sh s.A ds ms) := by
  rw [y9A] at h
  obtain ⟨ds, ms, h1, h2⟩ := y9z h
  have h3 := ((((y9j sh s).trans (y8s sh _)).trans (y8X sh _)).trans (z4i sh.loc _)).trans (q6D sh.env _)
  refine ⟨ds, ms, h1, rfl, fun X n A' hA => ?_⟩
  have := (h3.2 X n A' hA).trans (h2 X n A' (by rw [h3.1]; exact hA))
  exact this
 obtain ⟨ds, ms, h1, h2⟩ := key
 exact ⟨ds, ms, h1, h2.trans (y49 _)⟩
def y0N (j : Nat) : List Nat → List Nat
 | [] => []
 | i :: l => if i = j then y0N j l else i :: y0N j l
def fxS (t j : Nat) (s : S) : S := ⟨q2m s (y0N t (slotsOf s.env)), q3j s.loc (y0N j (q2L s.loc)) s.loc, s.A, q1x s (q2J s.tk)⟩
def fxB (t j : Nat) (s : S) : Bool :=
 q5J (fxS t j s).loc && q2j (Y9 (fxS t j s).loc) (q0v (fxS t j s).tk) (fxS t j s).loc && q6o (fxS t j s).loc s.loc && q46 (Y9 (fxS t j s).loc) (q0v (fxS t j s).tk) (fxS t j s).env && !(Y9 (fxS t j s).loc j)
def y7i (t : Nat) (s : S) : S :=
 match s.get t with
 | .ptr (.l j) [] τ => (match s.obj (.l j) with
  | some (.box x) => (match Z7 x with
   | some cc => if x.ty = τ ∧ fxB t j s = true then (fxS t j s).set (some t) (.cptr τ cc) else s
   | none => s)
  | _ => s)
 | _ => s
def y4q (t : Nat) (s : S) : S :=
 match s.get t with
 | .ptr k [] _ => (match s.obj k with
  | some (.box x) => (match x with
   | .d _ _ => s
   | x => (match Z7 x with
    | some c => s.put k (.box (.d x.ty c))
    | none => s))
  | _ => s)
 | _ => s
theorem y7I (t : Nat) (s : S) : WkA s (y4q t s) := by
 unfold y4q
 split
 ·split
  ·rename_i x hx
   split
   ·exact WkA.refl s
   ·split
    ·rename_i c hc
     refine ⟨rfl, fun X n A' hA Γ0 a w hat => ?_⟩
     obtain ⟨Γ, g1, g3, cc, hs, hn, hf, hAok⟩ := hat
     have hin : V.c5 x (.d x.ty c) := by
      cases x <;> first | exact ⟨hc, rfl⟩ | (simp [Z7] at hc)
     refine ⟨Γ, g1, g3, cc.y3B (F8 hA hx) (fun hown => ?_) (fun hv => ?_), hs, hn, hf, hAok⟩
     ·obtain ⟨b, cells, T, h1, h2, h3, h4, h5, h6, h7, h8⟩ := hown
      exact ⟨b, cells, T, h1, h2, h3, h4, h5, by have := (z6.c5 _ _ hin h6).1; simp only [z6] at this ⊢; exact this, rfl, rfl⟩
     ·obtain ⟨e, rfl⟩ := hv
      simp only [Z7, Option.some.injEq] at hc
      subst hc
      exact ⟨e, rfl⟩
    ·exact WkA.refl s
  ·exact WkA.refl s
 ·exact WkA.refl s
def y61 (t : Nat) (s : S) : S :=
 match s.get t with
 | .sr (.l j) [] lo n _ eb e => (match s.obj (.l j) with
  | some (.box (.d (.arr M e') cc)) => if e' = e then ({ s with loc := (.l j, .dead (.arr M e)) :: s.loc } : S).set (some t) (.d (.slice eb e) (.slice ((cc.elems.drop lo).take n))) else s
  | _ => s)
 | _ => s
theorem y89 (t : Nat) (s : S) : WkA s (y61 t s) := by
 unfold y61
 split
 ·rename_i j lo n cp eb e hs
  split
  ·rename_i M e' cc ho
   split
   ·rename_i he
    subst he
    refine ⟨rfl, fun X n' A' hA Γ0 a w hat => ?_⟩
    obtain ⟨Γ, g1, g3, c, hsl, hn, hf, hAok⟩ := hat
    obtain ⟨Γ', gle, p, c', h⟩ := c.x0S (show (s.wA A').obj (.l j) = some (.box (.d (.arr M _) cc)) from ho)
    have hrep := hsl t
    rw [show (s.wA A').get t = _ from hs] at hrep
    have hv := h hrep
    refine ⟨Γ', g1.trans gle, gle.gl.trans g3, q9g (s := (({ s with loc := (.l j, .dead (.arr M _)) :: s.loc } : S).wA A')) c' (some t) _, fun i => ?_, hn, hf, hAok⟩
    rw [show ((({ s with loc := (.l j, .dead (.arr M _)) :: s.loc } : S).set (some t) (.d (.slice eb _) (.slice ((cc.elems.drop lo).take n)))).wA A').get i = (({ s with loc := (.l j, .dead (.arr M _)) :: s.loc } : S).set (some t) (.d (.slice eb _) (.slice ((cc.elems.drop lo).take n)))).get i from rfl, q4H]
    split
    ·rename_i hi
     cases hi
     exact hv
    ·exact (hsl i).Z0 p
   ·exact WkA.refl s
  ·exact WkA.refl s
 ·exact WkA.refl s
def z7T : List (Nat × Nat) → S → S
 | [], s => s
 | (t, m) :: l, s => z7T l (if m = 6 then y7i t s else if m = 16 then y4q t s else if m = 17 then y61 (t - 1000000) s else s)
theorem y9k (t : Nat) (s : S) : WkA s (y7i t s) := by
 unfold y7i
 split
 ·rename_i j τ hs
  split
  ·rename_i x hx
   split
   ·rename_i cc hcc
    split
    ·rename_i h
     obtain ⟨hτ, h⟩ := h
     simp only [fxB, Bool.and_eq_true, Bool.not_eq_true'] at h
     obtain ⟨⟨⟨⟨h1, h2⟩, h3⟩, h4⟩, h5⟩ := h
     refine ⟨rfl, fun X n A' hA => ?_⟩
     have henv : ∀ l, q2m (s.wA A') l = q2m s l := by
      intro l
      induction l with
      | nil => rfl
      | cons i l ih => simp only [q2m, ih]; rfl
     have htk : ∀ l, q1x (s.wA A') l = q1x s l := by
      intro l
      induction l with
      | nil => rfl
      | cons i l ih => simp only [q1x, ih]; rfl
     exact y12 (s := s.wA A') (s' := (fxS t j s).wA A') hs (F8 hA hx) hcc hτ h5 rfl (q5C (s := s.wA A') _ h1) h2 (q6W h3)
      (by show tkW (s.wA A') (q1x s (q2J s.tk)); rw [← htk]; exact z5S)
      (by
       have h4' : q46 (Y9 (fxS t j s).loc) (q0v (fxS t j s).tk) (q2m (s.wA A') (y0N t (slotsOf s.env))) = true := by rw [henv]; exact h4
       have := z7V h4'
       rw [henv] at this
       exact this)
    ·exact WkA.refl s
   ·exact WkA.refl s
  ·exact WkA.refl s
 ·exact WkA.refl s
theorem z0N : ∀ (l : List (Nat × Nat)) (s : S), WkA s (z7T l s)
 | [], s => WkA.refl s
 | (t, m) :: l, s => by
  simp only [z7T]
  split
  ·exact (y9k t s).trans (z0N l _)
  ·split
   ·exact (y7I t s).trans (z0N l _)
   ·split
    ·exact (y89 _ s).trans (z0N l _)
    ·exact z0N l s
end Go.E
namespace Go.E
open Go
abbrev KD (R : Type) := List C → List Es → Option R
theorem y5f {α : Type} (_ : String) (a : α) : ∃ b, b = a := ⟨a, rfl⟩
noncomputable def lid {α : Type} (n : String) (a : α) : α := Classical.choose (y5f n a)
theorem Z9 {α : Type} (n : String) (a : α) : lid n a = a := Classical.choose_spec (y5f n a)
noncomputable def jn {R : Type} : KD R → (KD R → Option R) → Option R := lid "" fun k b => b k
theorem u9 {R : Type} (k : KD R) (b : KD R → Option R) : jn k b = b k := by unfold jn; rw [Z9]
def y8a {R : Type} : Nat → (KD R → List C → List Es → Option R) → List C → List Es → Option R
 | 0, _, _, _ => none
 | n + 1, F, ds, ms => F (y8a n F) ds ms
noncomputable def k9 {R : Type} : Nat → (KD R → List C → List Es → Option R) → List C → List Es → Option R := lid "" y8a
theorem z6q {R : Type} (F : KD R → List C → List Es → Option R) (ds : List C) (ms : List Es) : k9 0 F ds ms = none := by unfold k9; rw [Z9]; rfl
theorem j6 {R : Type} (n : Nat) (F : KD R → List C → List Es → Option R) (ds : List C) (ms : List Es) : k9 (n + 1) F ds ms = F (k9 n F) ds ms := by unfold k9; rw [Z9]; rfl
abbrev Hints := List (List Nat × Hint)
def hintOf : Hints → List Nat → Option Hint
 | [], _ => none
 | (q, h) :: l, p => if q = p then some h else hintOf l p
noncomputable def exJ {R : Type} (h : Option Hint) (s : S) (K : S → Option R) (body : (S → Option R) → Option R) : Option R :=
 match h with
 | none => body K
 | some h => z6H (y6T h s) fun sh => jn (fun ds ms => K (q31 sh s.A ds ms)) fun k => body fun s1 => z0b sh s1 k
theorem z6P {R : Type} {r : R} {h : Option Hint} {s : S} {K : S → Option R} {body : (S → Option R) → Option R} {P : S → Prop} {G : Prop} (hP : ∀ s1 s2, P s1 → WkA s1 s2 → P s2) (hA : ∀ s1, P s1 → s1.A = s.A) (hj : exJ h s K body = some r)
  (hb : ∀ k : S → Option R, body k = some r → (∃ s1, k s1 = some r ∧ P s1) ∨ G) : (∃ s2, K s2 = some r ∧ P s2) ∨ G := by
 unfold exJ at hj
 split at hj
 ·exact hb _ hj
 ·rename_i h'
  rw [z5D, u9] at hj
  rcases hb _ hj with ⟨s1, h1, h2⟩ | hg
  ·obtain ⟨ds, ms, h3, h4⟩ := z0V h1
   rw [hA s1 h2] at h4
   exact .inl ⟨_, h3, hP _ _ h2 h4⟩
  ·exact .inr hg
def q4p : Code → Option (List Code × Nat × Code)
 | .seq a b => (match a with
  | .label l => some ([], l, b)
  | a => (match q4p b with
   | some x => some (a :: x.1, x.2)
   | none => none))
 | _ => none
def z3Y (l : Nat) : List Code → Bool
 | [] => true
 | a :: as => (match findLabel a l with
  | some _ => false
  | none => z3Y l as)
theorem z4W : ∀ (c : Code) {as : List Code} {r : Code} {l : Nat}, q4p c = some (as, l, r) → z3Y l as = true → findLabel c l = some (.seq .skip r)
 | .seq a b, as, r, l, h, hn => by
  unfold q4p at h
  split at h
  ·cases h; simp [findLabel]
  ·split at h
   ·rename_i x hx
    obtain ⟨as', l', r'⟩ := x
    cases h
    simp only [z3Y] at hn
    simp only [findLabel]
    cases ha : findLabel a l with
    | some y => rw [ha] at hn; cases hn
    | none => rw [ha] at hn; exact z4W b hx hn
   ·cases h
 | .skip, _, _, _, h, _ | .region _ _ _, _, _, _, h, _ | .cond _ _ _, _, _, _, h, _ | .block _ _, _, _, _, h, _ | .loop _, _, _, _, h, _ | .exit _, _, _, _, h, _ | .scope _, _, _, _, h, _ | .label _, _, _, _, h, _ | .goto _, _, _, _, h, _ | .ret, _, _, _, h, _ | .rangeFunc _ _ _ _, _, _, _, h, _ | .refuse _, _, _, _, h, _ => by simp [q4p] at h
def z4f {R : Type} (run : List Nat → Code → S → KE R → Option R) : List Code → List Nat → S → (S → Option R) → KE R → Option R
 | [], _, s, k, _ => k s
 | a :: l, p, s, k, K => run (0 :: p) a s fun e s1 => match e with
  | .normal => frc s1 fun s1 => z4f run l (1 :: p) s1 k K
  | e => K e s1
noncomputable def exC {R : Type} (X : Cx) (call : q2n R) (ext : q26) (tbl : Nat → List (Nat × Nat)) (hs : Hints) (N : Nat) (n : Nat) : Nat → List Nat → Code → S → KE R → Option R
 | 0, _, _, _, _ => none
 | f + 1, p, c, s, K => match c with
  | .skip => K .normal s
  | .region id ops draw => exJ (hintOf hs p) (z7T (tbl id) s) (fun s => K .normal s) fun k => y4j X call ext (tbl id) n ops.toList draw (z7T (tbl id) s) k
  | .seq a b => exC X call ext tbl hs N n f (0 :: p) a s fun e s1 => match e with
    | .normal => frc s1 fun s1 => exC X call ext tbl hs N n f (1 :: p) b s1 K
    | e => K e s1
  | .cond (.tmp t) a b => exJ (hintOf hs p) s (fun s => K .normal s) fun k => (match s.get t with
    | .d .bool c => bif c.toBool then exC X call ext tbl hs N n f (2 :: p) a (s.lit t c true) fun e s1 => (match e with
      | .normal => k s1
      | e => K e s1) else exC X call ext tbl hs N n f (3 :: p) b (s.lit t c false) fun e s1 => (match e with
      | .normal => k s1
      | e => K e s1)
    | _ => none)
  | .block id a => exJ (hintOf hs p) s (fun s => K .normal s) fun k => exC X call ext tbl hs N n f (4 :: p) a s fun e s1 => match e with
     | .exit i => if i = id then k s1 else K (.exit i) s1
     | .normal => k s1
     | e => K e s1
  | .loop a => (match hintOf hs p with
    | none => z3D (exC X call ext tbl hs N n f (5 :: p) a) (slotsOf s.env) f s K
    | some h => z6H (y6T h s) fun sh => z0b sh s fun ds ms => k9 N (fun rec ds ms => exC X call ext tbl hs N n f (5 :: p) a (q31 sh s.A ds ms) fun e s1 => match e with
      | .normal => z0b sh s1 rec
      | e => K e s1) ds ms)
  | .exit id => K (.exit id) s
  | .scope a => (match hintOf hs p with
    | none => exC X call ext tbl hs N n f (6 :: p) a s fun e s1 => match e with
     | .goto _ => none
     | e => K e s1
    | some h => (match q4p a with
     | some (as, l, rest) => if z3Y l as = true then z4f (exC X call ext tbl hs N n f) as (6 :: p) s
       (fun s1 => z6H (y6T h s1) fun sh => z0b sh s1 fun ds ms => k9 N (fun rec ds ms => exC X call ext tbl hs N n f (7 :: p) rest (q31 sh s1.A ds ms) fun e s2 => match e with
        | .goto l' => if l' = l then z0b sh s2 rec else none
        | e => K e s2) ds ms)
       (fun e s1 => match e with
        | .goto _ => none
        | e => K e s1) else none
     | none => none))
  | .label _ => K .normal s
  | .goto l => K (.goto l) s
  | .ret => K .ret s
  | _ => none
def Way (X : Cx) (n : Nat) (c : Code) (s : S) (e : Exit) (s' : S) : Prop :=
 s'.A = s.A ∧ ∀ A', leA s.A A' → ∀ Ψ : Exit → S → Prop, Ψ e (s'.wA A') → DC X n c (s.wA A') Ψ
theorem Way.z2q {X : Cx} {n : Nat} {c : Code} {s s1 s2 : S} {e : Exit} (h : Way X n c s e s1) (hw : WkA s1 s2) : Way X n c s e s2 := by
 refine ⟨hw.1.trans h.1, fun A' hA Ψ hΨ => ?_⟩
 refine (h.2 A' hA (fun e1 s3 => e1 = e ∧ s3 = s1.wA A') ⟨rfl, rfl⟩).post ?_
 rintro e1 s3 ⟨rfl, rfl⟩
 exact ⟨_, hw.2 X n A' (by rw [h.1]; exact hA), hΨ⟩
section
variable {X : Cx} {R : Type} {call : q2n R} {ext : q26} (hP : u6 X.P = true) (hmo : X.P.follows .mixedOrders = true) (hc : q5K X call) (he : q48 X ext)
theorem y0Y {c : Code} {n : Nat} {sh : SSh} {A0 : Key → Option O} {body : S → KE R → Option R} {K : KE R} {r : R} (hb : ∀ s (K : KE R), body s K = some r → z5M X n c s r K) :
  ∀ (N : Nat) (ds : List C) (ms : List Es), k9 N (fun rec ds ms => body (q31 sh A0 ds ms) fun e s1 => match e with
      | .normal => z0b sh s1 rec
      | e => K e s1) ds ms = some r → ∃ e s', K e s' = some r ∧ s'.A = A0 ∧ ∀ A', leA A0 A' → ∀ Ψ : Exit → S → Prop, Ψ e (s'.wA A') → ∀ (Γ0 : G) (a : Act) (w : World), At X n Γ0 ((q31 sh A0 ds ms).wA A') a w → Code.rounds X.P c (fun e a w => ∃ s', Ψ e s' ∧ At X n Γ0 s' a w) N a w
 | 0, ds, ms, h => by simp [z6q] at h
 | N + 1, ds, ms, h => by
  simp only [j6] at h
  obtain ⟨e0, s1, h1, hA1, hD⟩ := hb _ _ h
  have hother : ∀ (hne : e0 ≠ .normal), K e0 s1 = some r → ∃ e s', K e s' = some r ∧ s'.A = A0 ∧ ∀ A', leA A0 A' → ∀ Ψ : Exit → S → Prop, Ψ e (s'.wA A') → ∀ (Γ0 : G) (a : Act) (w : World), At X n Γ0 ((q31 sh A0 ds ms).wA A') a w → Code.rounds X.P c (fun e a w => ∃ s', Ψ e s' ∧ At X n Γ0 s' a w) (N + 1) a w := by
   intro hne h1
   refine ⟨e0, s1, h1, hA1, fun A' hA Ψ hΨ Γ0 a w hat => ?_⟩
   rw [rounds_succ]
   refine wp_mono (hD A' hA (fun e1 s2 => e1 = e0 ∧ s2 = s1.wA A') ⟨rfl, rfl⟩ Γ0 a w hat) ?_
   rintro e1 a1 w1 ⟨s2, ⟨rfl, rfl⟩, hat1⟩
   cases e1 with
   | normal => exact absurd rfl hne
   | exit _ | goto _ | ret | panic _ | outgrown => exact ⟨_, hΨ, hat1⟩
  cases e0 with
  | normal =>
   obtain ⟨ds', ms', h3, hw⟩ := z0V h1
   rw [show s1.A = A0 from hA1] at hw
   obtain ⟨e, s', h4, h5, h6⟩ := y0Y hb N ds' ms' h3
   refine ⟨e, s', h4, h5, fun A' hA Ψ hΨ Γ0 a w hat => ?_⟩
   rw [rounds_succ]
   refine wp_mono (hD A' hA (fun e1 s2 => e1 = .normal ∧ s2 = s1.wA A') ⟨rfl, rfl⟩ Γ0 a w hat) ?_
   rintro e1 a1 w1 ⟨s2, ⟨rfl, rfl⟩, hat1⟩
   exact h6 A' hA Ψ hΨ Γ0 a1 w1 (hw.2 X n A' (by rw [show s1.A = A0 from hA1]; exact hA) Γ0 a1 w1 hat1)
  | exit _ | goto _ | ret | panic _ | outgrown => exact hother (by simp) h1
theorem z6O {n : Nat} {r : R} {run : List Nat → Code → S → KE R → Option R} (hrun : ∀ p c s (K : KE R), run p c s K = some r → z5M X n c s r K) : ∀ (as : List Code) (p : List Nat) (s : S) (k : S → Option R) (K : KE R), z4f run as p s k K = some r →
  (∃ s1, k s1 = some r ∧ s1.A = s.A ∧ ∀ c l rest, q4p c = some (as, l, rest) → ∀ A', leA s.A A' → ∀ Ψ : Exit → S → Prop, DC X n rest (s1.wA A') Ψ → DC X n c (s.wA A') Ψ) ∨
  (∃ e s1, e ≠ .normal ∧ K e s1 = some r ∧ s1.A = s.A ∧ ∀ c l rest, q4p c = some (as, l, rest) → ∀ A', leA s.A A' → ∀ Ψ : Exit → S → Prop, Ψ e (s1.wA A') → DC X n c (s.wA A') Ψ)
 | [], p, s, k, K, h => by
  refine .inl ⟨s, h, rfl, fun c l rest hc A' hA Ψ hd => ?_⟩
  cases c <;> simp only [q4p, reduceCtorEq] at hc
  rename_i a b
  split at hc
  ·cases hc
   exact q9f (y1I hd)
  ·split at hc
   ·cases hc
   ·cases hc
 | a :: as, p, s, k, K, h => by
  simp only [z4f] at h
  obtain ⟨e, s1, h1, a1, d1⟩ := hrun _ _ _ _ h
  have inv : ∀ c l rest, q4p c = some (a :: as, l, rest) → ∃ b, c = .seq a b ∧ q4p b = some (as, l, rest) := by
   intro c l rest hc
   cases c <;> simp only [q4p, reduceCtorEq] at hc
   split at hc
   ·cases hc
   ·split at hc
    ·rename_i x hx
     obtain ⟨x1, x2⟩ := x
     cases hc
     exact ⟨_, rfl, hx⟩
    ·cases hc
  cases e with
  | normal =>
   rcases z6O hrun as (1 :: p) s1 k K (by dsimp only at h1; rw [y1g] at h1; exact h1) with ⟨s2, h2, a2, d2⟩ | ⟨e, s2, hne, h2, a2, d2⟩
   ·refine .inl ⟨s2, h2, a2.trans a1, fun c l rest hc A' hA Ψ hd => ?_⟩
    obtain ⟨b, rfl, hb⟩ := inv c l rest hc
    exact q9f (d1 A' hA _ (d2 b l rest hb A' (by rw [a1]; exact hA) Ψ hd))
   ·refine .inr ⟨e, s2, hne, h2, a2.trans a1, fun c l rest hc A' hA Ψ hd => ?_⟩
    obtain ⟨b, rfl, hb⟩ := inv c l rest hc
    exact q9f (d1 A' hA _ (d2 b l rest hb A' (by rw [a1]; exact hA) Ψ hd))
  | exit _ | goto _ | ret | panic _ | outgrown =>
   refine .inr ⟨_, s1, by simp, h1, a1, fun c l rest hc A' hA Ψ hd => ?_⟩
   obtain ⟨b, rfl, hb⟩ := inv c l rest hc
   exact q9f (d1 A' hA _ hd)
def Ends (X : Cx) (n : Nat) (l : Nat) (rest : Code) (sh : SSh) (A0 : Key → Option O) (e : Exit) (s' : S) : Nat → List C → List Es → Prop
 | 0, _, _ => False
 | m + 1, ds, ms => ∃ e2 s2, Way X n rest (q31 sh A0 ds ms) e2 s2 ∧ ((e2 = .goto l ∧ ∃ ds' ms', WkA s2 (q31 sh A0 ds' ms') ∧ Ends X n l rest sh A0 e s' m ds' ms') ∨ ((∀ l', e2 ≠ .goto l') ∧ e2 = e ∧ s2 = s'))
theorem z8p {n l : Nat} {rest : Code} {sh : SSh} {A0 : Key → Option O} {body : S → KE R → Option R} {K : KE R} {r : R} (hb : ∀ s (K : KE R), body s K = some r → z5M X n rest s r K) :
  ∀ (N : Nat) (ds : List C) (ms : List Es), k9 N (fun rec ds ms => body (q31 sh A0 ds ms) fun e s2 => match e with
      | .goto l' => if l' = l then z0b sh s2 rec else none
      | e => K e s2) ds ms = some r → ∃ e s', K e s' = some r ∧ s'.A = A0 ∧ (∀ l', e ≠ .goto l') ∧ Ends X n l rest sh A0 e s' N ds ms
 | 0, ds, ms, h => by simp [z6q] at h
 | N + 1, ds, ms, h => by
  rw [j6] at h
  obtain ⟨e0, s1, h1, a1, d1⟩ := hb _ _ h
  have a1 : s1.A = A0 := a1
  cases e0 with
  | goto l' =>
   dsimp only at h1
   by_cases hl : l' = l
   ·rw [if_pos hl] at h1
    subst hl
    obtain ⟨ds', ms', h2, hw⟩ := z0V h1
    rw [a1] at hw
    obtain ⟨e, s', h3, h4, h5, h6⟩ := z8p hb N ds' ms' h2
    exact ⟨e, s', h3, h4, h5, _, s1, ⟨a1, d1⟩, .inl ⟨rfl, ds', ms', hw, h6⟩⟩
   ·rw [if_neg hl] at h1; cases h1
  | normal | exit _ | ret | panic _ | outgrown =>
   exact ⟨_, s1, h1, a1, by simp, _, s1, ⟨a1, d1⟩, .inr ⟨by simp, rfl, rfl⟩⟩
theorem y6F {n l : Nat} {c rest : Code} {sh : SSh} {A0 : Key → Option O} {e : Exit} {s' : S} (hf : findLabel c l = some (.seq .skip rest)) {N : Nat} {ds : List C} {ms : List Es} (hE : Ends X n l rest sh A0 e s' N ds ms) {A' : Key → Option O} (hA : leA A0 A') {s0 : S}
  (first : ∀ Ψ : Exit → S → Prop, DC X n rest ((q31 sh A0 ds ms).wA A') Ψ → DC X n c s0 Ψ) {Ψ : Exit → S → Prop} (hΨ : Ψ e (s'.wA A')) : DC X n (.scope c) s0 Ψ := by
 have pass : ∀ i : { x : Nat × List C × List Es // Ends X n l rest sh A0 e s' x.1 x.2.1 x.2.2 }, DC X n rest ((q31 sh A0 i.1.2.1 i.1.2.2).wA A') fun e2 s2 => match e2 with
   | .goto l' => l' = l ∧ ∃ j : { x : Nat × List C × List Es // Ends X n l rest sh A0 e s' x.1 x.2.1 x.2.2 }, q1V X n s2 ((q31 sh A0 j.1.2.1 j.1.2.2).wA A') ∧ j.1.1 < i.1.1
   | e2 => Ψ e2 s2 := by
  rintro ⟨⟨m, ds, ms⟩, h⟩
  cases m with
  | zero => exact h.elim
  | succ m =>
   obtain ⟨e2, s2, hw, h1⟩ := h
   refine hw.2 A' hA _ ?_
   rcases h1 with ⟨rfl, ds', ms', hwk, hE'⟩ | ⟨hne, rfl, rfl⟩
   ·exact ⟨rfl, ⟨⟨m, ds', ms'⟩, hE'⟩, hwk.2 X n A' (by rw [hw.1]; exact hA), Nat.lt_succ_self m⟩
   ·cases e2 with
    | goto l' => exact absurd rfl (hne l')
    | normal | exit _ | ret | panic _ | outgrown => exact hΨ
 refine y7B l hf (fun i => (q31 sh A0 i.1.2.1 i.1.2.2).wA A') (fun i => i.1.1) ?_ (fun i => q9f (y3e (pass i)))
 refine first _ ((pass ⟨⟨N, ds, ms⟩, hE⟩).post ?_)
 intro e2 s2 h
 refine ⟨s2, q1V.refl _, ?_⟩
 cases e2 with
 | goto l' => exact ⟨h.1, h.2.choose, h.2.choose_spec.1⟩
 | normal | exit _ | ret | panic _ | outgrown => exact h
include hP hmo hc he
theorem y5E {tbl : Nat → List (Nat × Nat)} {hs : Hints} {N n : Nat} {r : R} : ∀ (f : Nat) (p : List Nat) (c : Code) (s : S) (K : KE R), exC X call ext tbl hs N n f p c s K = some r → z5M X n c s r K
 | 0, p, c, s, K, h => by simp [exC] at h
 | f + 1, p, c, s, K, h => by
  have IH := y5E (tbl := tbl) (hs := hs) (N := N) (n := n) (r := r) f
  cases c with
  | skip => exact ⟨_, _, h, rfl, fun A' hA Ψ hΨ => y3e hΨ⟩
  | region id ops draw =>
   simp only [exC] at h
   have hw := z0N (tbl id) s
   have := z6P (P := fun s1 => Way X n (.region id ops draw) (z7T (tbl id) s) .normal s1) (G := False) (fun s1 s2 h1 h2 => h1.z2q h2) (fun s1 h => h.1) h fun k hk => by
    obtain ⟨s', h1, h2, h3⟩ := y7s hP hmo hc he (id := id) hk
    refine .inl ⟨s', h1, h2, fun A' hA Ψ hΨ => ?_⟩
    have := h3 A' hA Ψ hΨ
    simpa using this
   rcases this with ⟨s2, h1, h2⟩ | h
   ·exact ⟨_, s2, h1, h2.1.trans hw.1, fun A' hA Ψ hΨ => DC.z2q (hw.2 X n A' hA) (h2.2 A' (by rw [hw.1]; exact hA) Ψ hΨ)⟩
   ·exact h.elim
  | seq c1 c2 =>
   simp only [exC] at h
   obtain ⟨e0, s1, h1, a1, d1⟩ := IH _ c1 s _ h
   cases e0 with
   | normal =>
    obtain ⟨e2, s2, h2, a2, d2⟩ := IH (1 :: p) c2 s1 K (by dsimp only at h1; rw [y1g] at h1; exact h1)
    exact ⟨e2, s2, h2, a2.trans a1, fun A' hA Ψ hΨ => q9f (d1 A' hA _ (d2 A' (by rw [a1]; exact hA) Ψ hΨ))⟩
   | exit _ | goto _ | ret | panic _ | outgrown => exact ⟨_, s1, h1, a1, fun A' hA Ψ hΨ => q9f (d1 A' hA _ hΨ)⟩
  | cond t c1 c2 =>
   cases t with
   | tmp t =>
    simp only [exC] at h
    have := z6P (P := fun s1 => Way X n (.cond (.tmp t) c1 c2) s .normal s1) (G := z5M X n (.cond (.tmp t) c1 c2) s r K) (fun s1 s2 h1 h2 => h1.z2q h2) (fun s1 h => h.1) h fun k hk => by
     split at hk
     ·rename_i v hv
      cases hb : v.toBool with
      | true =>
       rw [hb] at hk
       simp only [cond_true] at hk
       rw [y02 hv hb] at hk
       obtain ⟨e2, s2, h2, a2, d2⟩ := IH _ c1 s _ hk
       have w2 : Way X n (.cond (.tmp t) c1 c2) s e2 s2 := ⟨a2, fun A' hA Ψ hΨ => y1J hv (fun _ => d2 A' hA Ψ hΨ) (fun h => by rw [hb] at h; cases h)⟩
       cases e2 with
       | normal => exact .inl ⟨s2, h2, w2⟩
       | exit _ | goto _ | ret | panic _ | outgrown => exact .inr ⟨_, s2, h2, w2⟩
      | false =>
       rw [hb] at hk
       simp only [cond_false] at hk
       rw [y02 hv hb] at hk
       obtain ⟨e2, s2, h2, a2, d2⟩ := IH _ c2 s _ hk
       have w2 : Way X n (.cond (.tmp t) c1 c2) s e2 s2 := ⟨a2, fun A' hA Ψ hΨ => y1J hv (fun h => by rw [hb] at h; cases h) (fun _ => d2 A' hA Ψ hΨ)⟩
       cases e2 with
       | normal => exact .inl ⟨s2, h2, w2⟩
       | exit _ | goto _ | ret | panic _ | outgrown => exact .inr ⟨_, s2, h2, w2⟩
     ·cases hk
    rcases this with ⟨s2, h1, h2⟩ | h
    ·exact ⟨_, s2, h1, h2⟩
    ·exact h
   | const _ | global _ | func _ => simp [exC] at h
  | block id c1 =>
   simp only [exC] at h
   have := z6P (P := fun s1 => Way X n (.block id c1) s .normal s1) (G := z5M X n (.block id c1) s r K) (fun s1 s2 h1 h2 => h1.z2q h2) (fun s1 h => h.1) h fun k hk => by
    obtain ⟨e0, s1, h1, a1, d1⟩ := IH _ c1 s _ hk
    cases e0 with
    | exit i =>
     dsimp only at h1
     by_cases hi : i = id
     ·rw [if_pos hi] at h1
      refine .inl ⟨s1, h1, a1, fun A' hA Ψ hΨ => z1N (d1 A' hA _ ?_)⟩
      simp only
      rw [if_pos hi]; exact hΨ
     ·rw [if_neg hi] at h1
      refine .inr ⟨_, s1, h1, a1, fun A' hA Ψ hΨ => z1N (d1 A' hA _ ?_)⟩
      simp only
      rw [if_neg hi]; exact hΨ
    | normal => exact .inl ⟨s1, h1, a1, fun A' hA Ψ hΨ => z1N (d1 A' hA _ hΨ)⟩
    | goto _ | ret | panic _ | outgrown => exact .inr ⟨_, s1, h1, a1, fun A' hA Ψ hΨ => z1N (d1 A' hA _ hΨ)⟩
   rcases this with ⟨s2, h1, h2⟩ | h
   ·exact ⟨_, s2, h1, h2⟩
   ·exact h
  | loop c1 =>
   simp only [exC] at h
   split at h
   ·obtain ⟨e, s', h1, h2, h3⟩ := z8X (fun s K h => IH _ c1 s K h) f s K h
    exact ⟨e, s', h1, h2, fun A' hA Ψ hΨ Γ0 a w hat => wp_loop_rounds f (h3 A' hA Ψ hΨ Γ0 a w hat)⟩
   ·rename_i hh
    rw [z5D] at h
    obtain ⟨ds, ms, h1, hw⟩ := z0V h
    obtain ⟨e, s', h4, h5, h6⟩ := y0Y (c := c1) (body := exC X call ext tbl hs N n f (5 :: p) c1) (fun s K h => IH _ c1 s K h) N ds ms h1
    exact ⟨e, s', h4, h5, fun A' hA Ψ hΨ Γ0 a w hat => wp_loop_rounds N (h6 A' hA Ψ hΨ Γ0 a w (hw.2 X n A' hA Γ0 a w hat))⟩
  | exit id => exact ⟨_, _, h, rfl, fun A' hA Ψ hΨ => y9y hΨ⟩
  | scope c1 =>
   simp only [exC] at h
   split at h
   ·obtain ⟨e0, s1, h1, a1, d1⟩ := IH _ c1 s _ h
    cases e0 with
    | goto i => cases h1
    | normal | exit _ | ret | panic _ | outgrown => exact ⟨_, s1, h1, a1, fun A' hA Ψ hΨ => q8d (d1 A' hA _ hΨ)⟩
   ·rename_i hh _
    split at h
    ·rename_i as l rest hd
     simp only [Option.ite_none_right_eq_some] at h
     obtain ⟨hnl, h⟩ := h
     rcases z6O (fun p c s K h => IH p c s K h) as _ s _ _ h with ⟨s1, h1, a1, d1⟩ | ⟨e, s1, hne, h1, a1, d1⟩
     ·rw [z5D] at h1
      obtain ⟨ds, ms, h2, hw⟩ := z0V h1
      obtain ⟨e, s', h3, h4, h5, h6⟩ := z8p (rest := rest) (body := exC X call ext tbl hs N n f (7 :: p) rest) (fun s K h => IH _ rest s K h) N ds ms h2
      refine ⟨e, s', h3, h4.trans a1, fun A' hA Ψ hΨ => ?_⟩
      exact y6F (z4W _ hd hnl) h6 (by rw [a1]; exact hA) (fun Ψ' hd' => d1 c1 l rest hd A' hA Ψ' (DC.z2q (hw.2 X n A' (by rw [a1]; exact hA)) hd')) hΨ
     ·cases e with
      | goto i => cases h1
      | normal | exit _ | ret | panic _ | outgrown => exact ⟨_, s1, h1, a1, fun A' hA Ψ hΨ => q8d (d1 c1 l rest hd A' hA _ hΨ)⟩
    ·cases h
  | label _ => exact ⟨_, _, h, rfl, fun A' hA Ψ hΨ => y1I hΨ⟩
  | goto _ => exact ⟨_, _, h, rfl, fun A' hA Ψ hΨ => y9x hΨ⟩
  | ret => exact ⟨_, _, h, rfl, fun A' hA Ψ hΨ => x1e hΨ⟩
  | rangeFunc _ _ _ _ => simp [exC] at h
  | refuse _ => simp [exC] at h
end
noncomputable def exF {R : Type} (X : Cx) (ov : OvK R) (ext : q26) (tbl : FuncId → Nat → List (Nat × Nat)) (hs : FuncId → Hints) (N fuel : Nat) : Nat → q2n R
 | 0, _, _, _, _ => none
 | d + 1, f, xs, A, K => match ov f with
  | some g => g xs A K
  | none => (match X.P.funcs[f]? with
   | some fn => (match fn.body with
    | some c => if xs.length ≤ fn.ntmps then exJ (hintOf (hs f) [9]) (S.start xs A) (fun s => y8k X fn s K) fun k => exC X (exF X ov ext tbl hs N fuel d) ext (tbl f) (hs f) N fn.ntmps fuel [] c (nbS (S.start xs A)) fun e s => (match e with
       | .normal => k s
       | .ret => k s
       | _ => none) else none
    | none => none)
   | none => none)
section
variable {X : Cx} {R : Type} {ov : OvK R} {ext : q26} (hP : u6 X.P = true) (hmo : X.P.follows .mixedOrders = true) (hov : z9W X ov) (he : q48 X ext)
include hP hmo hov he
theorem y5D {tbl : FuncId → Nat → List (Nat × Nat)} {hs : FuncId → Hints} {N fuel : Nat} : ∀ d, q5K X (exF X ov ext tbl hs N fuel d)
 | 0 => by intro f xs A K r h; simp [exF] at h
 | d + 1 => by
  intro f xs A K r h
  simp only [exF] at h
  split at h
  ·rename_i g hg
   exact hov f g hg xs A K r h
  split at h
  ·rename_i fn hf
   split at h
   ·rename_i c hb
    simp only [Option.ite_none_right_eq_some] at h
    obtain ⟨hl, h⟩ := h
    have := z6P (P := fun s1 => ∃ e : Exit, (e = .normal ∨ e = .ret) ∧ Way X fn.ntmps c (S.start xs A) e s1) (G := False) (fun s1 s2 ⟨e, h1, h2⟩ h3 => ⟨e, h1, h2.z2q h3⟩) (fun s1 ⟨e, _, h⟩ => h.1) h fun k hk => by
     obtain ⟨e, s', h1, h2⟩ := y5E hP hmo (y5D d) he fuel [] c (nbS (S.start xs A)) _ hk
     have h2 : Way X fn.ntmps c (S.start xs A) e s' := ⟨h2.1, fun A' hA Ψ hΨ => DC.z2q ((y49 (S.start xs A)).2 X fn.ntmps A' hA) (h2.2 A' hA Ψ hΨ)⟩
     cases e with
     | normal => exact .inl ⟨s', h1, _, .inl rfl, h2⟩
     | ret => exact .inl ⟨s', h1, _, .inr rfl, h2⟩
     | exit _ | goto _ | panic _ | outgrown => cases h1
    rcases this with ⟨s', h1, e, he', h2, h3⟩ | h
    ·obtain ⟨v, L, h4, h5⟩ := y7r h1
     refine ⟨v, L, y1H hP hf hb rfl hl fun A' hA => ?_, h4⟩
     exact h3 A' hA (fun e s' => (e = .normal ∨ e = .ret) ∧ z9H X fn A' v L s') ⟨he', h5 A' (by rw [h2]; exact hA)⟩
    ·exact h.elim
   ·cases h
  ·cases h
end
end Go.E
namespace Go.E
open Go
def q49 (a b k : Key) : Key := if k = a then b else if k = b then a else k
theorem q3B (a b k : Key) : q49 a b (q49 a b k) = k := by
 unfold q49
 by_cases h1 : k = a
 ·subst h1
  rw [if_pos rfl]
  by_cases h2 : b = k
  ·rw [if_pos h2]; exact h2
  ·rw [if_neg h2, if_pos rfl]
 ·rw [if_neg h1]
  by_cases h2 : k = b
  ·subst h2; rw [if_pos rfl, if_pos rfl]
  ·rw [if_neg h2, if_neg h1, if_neg h2]
def swU (a b : Key) : Key → Key
 | .g k => .g (q49 a b k)
 | .l n => .l n
theorem q3C (a b k : Key) : swU a b (swU a b k) = k := by
 cases k <;> simp [swU, q3B]
def Tip.y6J (ρ : Key → Key) : Tip → Tip
 | .tok t => .tok t
 | .home k p => .home (ρ k) p
def G.perm (Γ : G) (ρ : Key → Key) : G := { Γ with ι := fun k => Γ.ι (ρ k), κ := fun b => (Γ.κ b).map fun p => (p.1.y6J ρ, p.2) }
def permA (a b : Key) (A : Key → Option O) : Key → Option O := fun k => (A (q49 a b k)).map (O.ren (swU a b))
theorem y2c (a b : Key) (A : Key → Option O) : permA a b (permA a b A) = A := by
 funext k
 unfold permA
 rw [q3B]
 cases A k with
 | none => rfl
 | some o => simp [O.q4y _ _ (q3C a b)]
def z3V (a b : Key) (L : List (Key × O)) : List (Key × O) := L.map fun p => (swU a b p.1, p.2.ren (swU a b))
theorem z6r (a b : Key) : ∀ (L : List (Key × O)) (k : Key), y7 (z3V a b L) k = (y7 L (swU a b k)).map (O.ren (swU a b))
 | [], _ => rfl
 | (j, o) :: L, k => by
  show (if swU a b j = k then some (o.ren (swU a b)) else y7 (z3V a b L) k) = (if j = swU a b k then some o else y7 L (swU a b k)).map (O.ren (swU a b))
  by_cases h : j = swU a b k
  ·have : swU a b j = k := by rw [h, q3C]
   rw [if_pos this, if_pos h]; rfl
  ·have : swU a b j ≠ k := fun e => h (by rw [← e, q3C])
   rw [if_neg this, if_neg h]; exact z6r a b L k
theorem y9.perm {Γ : G} {w : World} {s s' : S} {ρ : Key → Key} (c : y9 Γ w s) (hρ : ∀ k, ρ (ρ k) = k) (ho : ∀ k, s'.obj k = (s.obj (ρ k)).map (O.ren ρ)) (hl : ∀ t, s'.live t = s.live t) (hk : ∀ t, s.known t = true → s'.known t = true) : y9 (Γ.perm ρ) w s' := by
 have pr : ∀ hm, q32 Γ (Γ.perm ρ) ρ hm := fun hm => ⟨Hp.le_refl _, fun k x h => by simp [G.perm, hρ, h], fun _ _ h => h, fun k b p sz _ h => ⟨by simp [G.perm, h, Tip.y6J], rfl⟩⟩
 have hd : ∀ k, s.Q6 (ρ k) = true → s'.Q6 k = true := fun k h => by
  unfold S.Q6 at h ⊢
  rw [ho]
  cases hs : s.obj (ρ k) with
  | none => rw [hs] at h; cases h
  | some o => rw [hs] at h; simpa [z4o, O.q5T] using h
 refine ⟨c.hH, c.hZ, fun b o sz h => ?_, fun k o h => ?_, fun k h => ?_, fun k k' b τ τ' h1 h2 => ?_, fun t L h => ?_, fun t ht => hk t (c.tdom t ht), c.hgl, c.hoo, c.hσ⟩
 ·cases hb : Γ.κ b with
  | none => simp [G.perm, hb] at h
  | some p =>
   obtain ⟨t, sz'⟩ := p
   simp [G.perm, hb] at h
   obtain ⟨rfl, rfl⟩ := h
   obtain ⟨a1, a2, arr, T, a3, a4, a5⟩ := c.hκ b t sz' hb
   exact ⟨a1, a2, arr, T, a3, a4, by cases t with
    | tok => trivial
    | home _ p => cases p <;> exact a5⟩
 ·rw [ho] at h
  cases hs : s.obj (ρ k) with
  | none => rw [hs] at h; cases h
  | some o0 =>
   rw [hs] at h; cases h
   refine (c.obj (ρ k) o0 hs).imp (fun h => ⟨h.1, O.z0Y h.2⟩) fun hown => ?_
   have := Own.ren (pr _) (w' := w) (fun hd b τ hb => by
    obtain ⟨e1, e2, _⟩ := c.q1n hb hs hd
    exact ⟨rfl, e1, e2⟩) (Nat.le_refl _) hown
   rw [hρ] at this
   exact this
 ·rw [ho]
  have := c.dom (ρ k) h
  cases hs : s.obj (ρ k) with
  | none => exact absurd hs this
  | some o => simp
 ·refine (c.inj (ρ k) (ρ k') b τ τ' h1 h2).imp (fun e => by rw [← hρ k, e, hρ]) (And.imp (Or.imp (hd k) (hd k')) id)
 ·rw [hl] at h
  obtain ⟨x, h1, h2⟩ := c.tok t L h
  refine ⟨x, h1, fun b pos sz hx => ?_⟩
  obtain ⟨h3, h4⟩ := h2 b pos sz hx
  exact ⟨h3, by simp [G.perm, h4, Tip.y6J]⟩
def q0l (a b : Key) (x : V) : V := x.ren (swU a b) id
theorem z2Q (a b : Key) (x : V) : q0l a b (q0l a b x) = x := V.q4y _ _ (q3C a b) x
theorem y41 (a b : Key) (n : Nat) (x : V) : (q0l a b x).q1x n = x.q1x n := by cases x <;> simp [q0l, V.ren, V.q1x]
theorem y42 (a b : Key) (n : Nat) (x : V) : (q0l a b x).slot n = q0l a b (x.slot n) := by cases x <;> simp [q0l, V.ren, V.slot]
theorem q8e (a b : Key) : ∀ (n : Nat) (xs : List V), q2I n (xs.map (q0l a b)) = q2I n xs
 | _, [] => rfl
 | n, x :: xs => by simp only [List.map_cons, q2I, y41, q8e a b (n + 1) xs]
theorem z01 (a b : Key) : ∀ (n : Nat) (xs : List V), H0 n (xs.map (q0l a b)) = (H0 n xs).map (q0l a b)
 | _, [] => rfl
 | n, x :: xs => by simp only [List.map_cons, H0, y42, z01 a b (n + 1) xs]
theorem y0l (a b : Key) : ∀ (xs : List V), V.q03 (swU a b) id xs = xs.map (q0l a b)
 | [] => rfl
 | x :: xs => by simp only [V.q03, List.map_cons, y0l a b xs]; rfl
theorem z5g (a b : Key) (xs : List V) : q0l a b (.tup xs) = .tup (xs.map (q0l a b)) := by
 simp only [q0l, V.ren, y0l]
theorem y3D (a b : Key) (n : Nat) (x : V) : (q0l a b x).F4 n = q0l a b (x.F4 n) := by
 cases x with
 | tup xs => rw [z5g]; simp only [V.F4]; rw [z01, z5g]
 | nilc => rfl
 | d | sl | ts | emp | ptr | cptr | sr | mp | agg | fn | top | any => simp [q0l, V.ren, V.F4, V.slot]
theorem y0m (a b : Key) (n : Nat) (x : V) : (q0l a b x).tkR n = x.tkR n := by
 cases x with
 | tup xs => rw [z5g]; simp only [V.tkR]; exact q8e a b n xs
 | nilc => rfl
 | d | sl | ts | emp | ptr | cptr | sr | mp | agg | fn | top | any => simp [q0l, V.ren, V.tkR, V.q1x]
theorem O.y80 (a b : Key) {o : O} (h : o.ok Q3 Q3 = true) : (o.ren (swU a b)).ok Q3 Q3 = true := by
 have key : (∀ x : V, x.ok Q3 Q3 = true → (x.ren (swU a b) id).ok Q3 Q3 = true) := by
  intro x
  induction x using V.rec (motive_2 := fun xs => V.oks Q3 Q3 xs = true → V.oks Q3 Q3 (V.q03 (swU a b) id xs) = true) with
  | ptr k q τ => intro h; cases k <;> simp [V.ok, V.ren, swU, Q3] at h ⊢
  | sr k q lo n cp eb e => intro h; cases k <;> simp [V.ok, V.ren, swU, Q3] at h ⊢
  | mp k => intro h; cases k <;> simp [V.ok, V.ren, swU, Q3] at h ⊢
  | sl => intro h; simp [V.ok, Q3] at h
  | agg τ vs ih => intro h; simp only [V.ok, V.ren] at h ⊢; exact ih h
  | fn f vs ih => intro h; simp only [V.ok, V.ren] at h ⊢; exact ih h
  | tup vs ih => intro h; simp only [V.ok, V.ren] at h ⊢; exact ih h
  | nil => simp only [V.q03, V.oks]
  | cons x xs ih1 ih2 h =>
   simp only [V.oks, Bool.and_eq_true] at h
   simp only [V.q03, V.oks, Bool.and_eq_true]
   exact ⟨ih1 h.1, ih2 h.2⟩
  | _ => intro _; simp only [V.ren, V.ok]
 cases o with
 | box x => exact key x h
 | map kτ vτ es =>
  simp only [O.ren, O.ok] at h ⊢
  induction es with
  | nil => rfl
  | cons c es ih =>
   simp only [V.q1A, Bool.and_eq_true] at h
   simp only [List.map_cons, V.q1A, Bool.and_eq_true]
   exact ⟨key _ h.1, ih h.2⟩
 | it => rfl
 | dead => rfl
theorem Y6.swap {X : Cx} {f : FuncId} {xs : List V} {A : Key → Option O} {v : V} {L : List (Key × O)} (a b : Key) (D : Y6 X f xs A v L) :
  Y6 X f (xs.map (q0l a b)) (permA a b A) (q0l a b v) (z3V a b L) := by
 intro A' Γ w args hA hgl ⟨c, hok⟩ hlen hr
 have hxs : (xs.map (q0l a b)).map (q0l a b) = xs := by
  rw [List.map_map]
  exact (List.map_congr_left (g := id) fun x _ => z2Q a b x).trans (List.map_id _)
 have hA' : ∀ k o, A k = some o → permA a b A' k = some o := by
  intro k o h
  have h1 : permA a b A (q49 a b k) = some (o.ren (swU a b)) := by simp [permA, q3B, h]
  have h2 := hA _ _ h1
  simp [permA, h2, O.q4y _ _ (q3C a b)]
 have hobj : ∀ k, S.obj (S.start xs (permA a b A')) k = (S.obj (S.start (xs.map (q0l a b)) A') (swU a b k)).map (O.ren (swU a b)) := by
  intro k
  cases k with
  | l n => rfl
  | g k => simp [S.start, S.obj, X1, y7, swU, permA]
 have c1 := c.perm (s' := S.start xs (permA a b A')) (q3C a b) hobj (fun t => by simp only [S.start, S.live, q8e]) (fun t h => by simpa only [S.start, S.known, q8e] using h)
 have hok1 : AOk (permA a b A') := by
  intro k o h
  unfold permA at h
  cases hk : A' (q49 a b k) with
  | none => rw [hk] at h; cases h
  | some o0 => rw [hk] at h; cases h; exact O.y80 a b (hok _ _ hk)
 have pr : q32 Γ (Γ.perm (swU a b)) (swU a b) none := ⟨Hp.le_refl _, fun k x h => by simp [G.perm, q3C, h], fun _ _ h => h, fun k _ _ _ h => by cases h⟩
 refine (D (permA a b A') (Γ.perm (swU a b)) w args hA' hgl ⟨c1, hok1⟩ (by simpa using hlen) fun i x u hx hu => ?_).mono ?_
 ·have h1 : (H0 1000 (xs.map (q0l a b)))[i]? = some (q0l a b x) := by rw [z01, List.getElem?_map, hx]; rfl
  have := (hr i _ u h1 hu).ren (θ := id) pr (fun _ _ h => h)
  have e : V.ren (swU a b) id (q0l a b x) = x := z2Q a b x
  rwa [e] at this
 ·rintro e w' ⟨u, Γ', rfl, gle, c', hu⟩
  have hobj' : ∀ k, S.obj (S.fin (q0l a b v) (z3V a b L) A') k = (S.obj (S.fin v L (permA a b A')) (swU a b k)).map (O.ren (swU a b)) := by
   intro k
   simp only [S.fin, S.obj, X1, z6r]
   cases hl : y7 L (swU a b k) with
   | some o => rfl
   | none =>
    cases k with
    | l n => rfl
    | g k =>
     simp only [Option.map_none, swU, permA, q3B]
     cases A' k with
     | none => rfl
     | some o => simp [O.q4y _ _ (q3C a b)]
  have c2 := c'.perm (s' := S.fin (q0l a b v) (z3V a b L) A') (q3C a b) hobj' (fun t => by simp only [S.fin, S.live, y0m]) (fun t h => by simpa only [S.fin, S.known, y0m] using h)
  have pr' : q32 Γ' (Γ'.perm (swU a b)) (swU a b) none := ⟨Hp.le_refl _, fun k x h => by simp [G.perm, q3C, h], fun _ _ h => h, fun k _ _ _ h => by cases h⟩
  refine ⟨u, Γ'.perm (swU a b), rfl, ⟨gle.H, gle.Z, gle.ZH, fun k x h => ?_, gle.gl, gle.oo, gle.σ, fun k h => ?_⟩, c2, ?_⟩
  ·refine gle.g (q49 a b k) x ?_
   show Γ.ι (swU a b (.g (q49 a b k))) = some x
   simp [swU, q3B, h]
  ·refine gle.gn (q49 a b k) ?_
   show Γ.ι (swU a b (.g (q49 a b k))) = none
   simp [swU, q3B, h]
  ·rw [y3D]
   exact hu.ren (θ := id) pr' (fun _ _ h => h)
mutual
def Sh.fit {R : Type} : Sh → V → (List C → Option R) → Option R
 | .d τ, x, K => (match x with
  | .d τ' c => if τ' = τ then K [c] else none
  | _ => none)
 | .sl _ _ _, _, _ => none
 | .ts eb e, x, K => (match x with
  | .ts eb' e' cs => if eb' = eb ∧ e' = e then K [.slice cs] else none
  | _ => none)
 | .sr k q cp eb e, x, K => (match x with
  | .sr k' q' lo n cp' eb' e' => if k' = k ∧ q' = q ∧ eb' = eb ∧ e' = e then (match cp, cp' with
   | false, none => K [.int lo, .int n]
   | true, some c => K [.int lo, .int n, .int c]
   | _, _ => none) else none
  | _ => none)
 | .cptr τ, x, K => (match x with
  | .cptr τ' c => if τ' = τ then K [c] else none
  | _ => none)
 | .arr e, x, K => (match x with
  | .d (.arr n e') c => if e' = e then (if n = c.elems.length then K [c] else none) else none
  | _ => none)
 | .agg τ l, x, K => (match x with
  | .agg τ' vs => if τ' = τ then Sh.fits l vs K else none
  | _ => none)
 | .as v, x, K => if V.same x v = true then K [] else none
 | .vec k eb e, x, K => (match x with
  | .sr k' q' lo n cp' eb' e' => if k' = k ∧ q' = [] ∧ lo = 0 ∧ cp'.isNone = true ∧ eb' = eb ∧ e' = e then K [.int n] else none
  | _ => none)
 | .fnc f l, x, K => (match x with
  | .fn f' vs => if f' = f then q4t l vs K else none
  | _ => none)
def Sh.fits {R : Type} : List Sh → List V → (List C → Option R) → Option R
 | [], [], K => K []
 | s :: l, x :: xs, K => s.fit x fun d1 => Sh.fits l xs fun d2 => K (d1 ++ d2)
 | _, _, _ => none
end
mutual
theorem Sh.y5C {R : Type} {r : R} : ∀ (s : Sh) (x : V) {K : List C → Option R}, s.fit x K = some r → ∃ ds, K ds = some r ∧ ds.length = s.many ∧ s.fill 0 ds = x
 | .d τ, x, K, h => by
  cases x <;> simp only [Sh.fit, reduceCtorEq, Option.ite_none_right_eq_some] at h
  obtain ⟨rfl, h⟩ := h
  exact ⟨_, h, by simp [Sh.many], by simp [Sh.fill, dk]⟩
 | .sl _ _ _, x, K, h => by simp [Sh.fit] at h
 | .ts eb e, x, K, h => by
  cases x <;> simp only [Sh.fit, reduceCtorEq, Option.ite_none_right_eq_some] at h
  obtain ⟨⟨rfl, rfl⟩, h⟩ := h
  exact ⟨_, h, by simp [Sh.many], by simp [Sh.fill, dk, C.elems]⟩
 | .sr k q cp eb e, x, K, h => by
  cases x <;> simp only [Sh.fit, reduceCtorEq, Option.ite_none_right_eq_some] at h
  obtain ⟨⟨rfl, rfl, rfl, rfl⟩, h⟩ := h
  split at h
  ·exact ⟨_, h, by simp [Sh.many], by simp [Sh.fill, dk, C.toInt]⟩
  ·exact ⟨_, h, by simp [Sh.many], by simp [Sh.fill, dk, C.toInt]⟩
  ·cases h
 | .cptr τ, x, K, h => by
  cases x <;> simp only [Sh.fit, reduceCtorEq, Option.ite_none_right_eq_some] at h
  obtain ⟨rfl, h⟩ := h
  exact ⟨_, h, by simp [Sh.many], by simp [Sh.fill, dk]⟩
 | .arr e, x, K, h => by
  simp only [Sh.fit] at h
  split at h
  ·simp only [Option.ite_none_right_eq_some] at h
   obtain ⟨rfl, h1, h⟩ := h
   subst h1
   exact ⟨_, h, by simp [Sh.many], by simp [Sh.fill, dk]⟩
  ·cases h
 | .agg τ l, x, K, h => by
  cases x <;> simp only [Sh.fit, reduceCtorEq, Option.ite_none_right_eq_some] at h
  obtain ⟨rfl, h⟩ := h
  obtain ⟨ds, h1, h2, h3⟩ := Sh.z7U l _ h
  exact ⟨ds, h1, by simpa only [Sh.many] using h2, by simp only [Sh.fill]; rw [h3]⟩
 | .as v, x, K, h => by
  simp only [Sh.fit, Option.ite_none_right_eq_some] at h
  obtain ⟨h1, h⟩ := h
  have := V.z3R _ _ h1
  subst this
  exact ⟨_, h, by simp [Sh.many], by simp only [Sh.fill]⟩
 | .vec k eb e, x, K, h => by
  cases x <;> simp only [Sh.fit, reduceCtorEq, Option.ite_none_right_eq_some] at h
  obtain ⟨⟨rfl, rfl, rfl, hc, rfl, rfl⟩, h⟩ := h
  rename_i cp _ _
  cases cp with
  | some c => cases hc
  | none => exact ⟨_, h, by simp [Sh.many], by simp [Sh.fill, dk, C.toInt]⟩
 | .fnc f l, x, K, h => by
  cases x <;> simp only [Sh.fit, reduceCtorEq, Option.ite_none_right_eq_some] at h
  obtain ⟨rfl, h⟩ := h
  obtain ⟨ds, h1, h2, h3⟩ := q9O l _ h
  exact ⟨ds, h1, by simpa only [Sh.many] using h2, by simp only [Sh.fill, h3]⟩
theorem Sh.z7U {R : Type} {r : R} : ∀ (l : List Sh) (xs : List V) {K : List C → Option R}, Sh.fits l xs K = some r → ∃ ds, K ds = some r ∧ ds.length = Sh.q0n l ∧ Sh.U1 l 0 ds = xs
 | [], xs, K, h => by
  cases xs <;> simp only [Sh.fits, reduceCtorEq] at h
  exact ⟨_, h, by simp [Sh.q0n], by simp [Sh.U1]⟩
 | s :: l, [], K, h => by simp [Sh.fits] at h
 | s :: l, x :: xs, K, h => by
  simp only [Sh.fits] at h
  obtain ⟨d1, h1, h2, h3⟩ := Sh.y5C s x h
  obtain ⟨d2, h5, h6, h7⟩ := Sh.z7U l xs h1
  refine ⟨_, h5, by simp [Sh.q0n, h2, h6], ?_⟩
  have e1 : s.fill 0 (d1 ++ d2) = s.fill 0 d1 := Sh.q4s s 0 0 _ _ fun j hj => q1d (by omega)
  have e2 : Sh.U1 l s.many (d1 ++ d2) = Sh.U1 l 0 d2 := Sh.q7P l _ 0 _ _ fun j hj => by
   rw [q2c (by omega), h2]
   congr 1; omega
  simp only [Sh.U1, Nat.zero_add, e1, e2]
  rw [h3, h7]
end
def q7O {R : Type} (A : Key → Option O) : List (Key × OSh) → (List C → List Es → Option R) → Option R
 | [], K => K [] []
 | (k, .box sh) :: l, K => (match A k with
  | some (.box x) => sh.fit x fun d1 => q7O A l fun d2 m2 => K (d1 ++ d2) m2
  | _ => none)
 | (k, .map kτ vτ) :: l, K => (match A k with
  | some (.map kτ' vτ' es) => if kτ' = kτ ∧ vτ' = vτ then (if X4 vτ es = true then q7O A l fun d2 m2 => K d2 (unE es :: m2) else none) else none
  | _ => none)
 | _ :: _, _ => none
theorem z3x {R : Type} {r : R} {A : Key → Option O} : ∀ (l : List (Key × OSh)) {K : List C → List Es → Option R}, q7O A l K = some r →
  ∃ ds ms, K ds ms = some r ∧ ds.length = q0s l ∧ ∀ k o, y7 (u5 l 0 0 ds ms) k = some o → A k = some o
 | [], K, h => ⟨[], [], h, rfl, fun k o h => by simp [u5, y7] at h⟩
 | (j, .box sh) :: l, K, h => by
  simp only [q7O] at h
  split at h
  ·rename_i x hx
   obtain ⟨d1, h1, h2, h3⟩ := Sh.y5C sh x h
   obtain ⟨d2, ms, h4, h5, h6⟩ := z3x l h1
   refine ⟨_, ms, h4, by simp [q0s, h2, h5], fun k o hk => ?_⟩
   have e1 : sh.fill 0 (d1 ++ d2) = sh.fill 0 d1 := Sh.q4s sh 0 0 _ _ fun j hj => q1d (by omega)
   have e2 : u5 l sh.many 0 (d1 ++ d2) ms = u5 l 0 0 d2 ms := q0H l _ 0 0 _ _ _ fun j hj => by
    rw [q2c (by omega), h2]
    congr 1; omega
   simp only [u5, Nat.zero_add, e1, e2, h3, y7] at hk
   split at hk
   ·rename_i e; subst e; cases hk; exact hx
   ·exact h6 k o hk
  ·cases h
 | (j, .map kτ vτ) :: l, K, h => by
  simp only [q7O] at h
  split at h
  ·rename_i kτ' vτ' es hx
   simp only [Option.ite_none_right_eq_some] at h
   obtain ⟨⟨rfl, rfl⟩, hd, h⟩ := h
   obtain ⟨d2, ms, h4, h5, h6⟩ := z3x l h
   refine ⟨_, _, h4, by simp [q0s, h5], fun k o hk => ?_⟩
   simp only [u5, q4l, y7] at hk
   split at hk
   ·rename_i e; subst e; cases hk
    rw [show dm (unE es :: ms) 0 = unE es from rfl, y1M hd]; exact hx
   ·exact h6 k o hk
  ·cases h
 | (_, .dead _) :: l, K, h => by simp [q7O] at h
 | (_, .it) :: l, K, h => by simp [q7O] at h
mutual
def Sh.unP : Sh → V → List (Key × Key)
 | .as (.ptr (.g a) _ _), .ptr (.g b) _ _ => [(a, b)]
 | .as (.mp (.g a)), .mp (.g b) => [(a, b)]
 | .sr (.g a) _ _ _ _, .sr (.g b) _ _ _ _ _ _ => [(a, b)]
 | .vec (.g a) _ _, .sr (.g b) _ _ _ _ _ _ => [(a, b)]
 | .agg _ l, .agg _ xs => Sh.y3q l xs
 | _, _ => []
def Sh.y3q : List Sh → List V → List (Key × Key)
 | s :: l, x :: xs => s.unP x ++ Sh.y3q l xs
 | _, _ => []
end
def x8 : List (Key × Key) → Key → Key
 | [], k => k
 | (a, b) :: l, k => x8 l (q49 a b k)
def y3s (objs : List (Key × OSh)) (A : Key → Option O) : Nat → List (Key × Key) → List (Key × Key) → List Key → List (Key × Key)
 | 0, _, sw, _ => sw
 | _, [], sw, _ => sw
 | f + 1, (a, b) :: todo, sw, seen => if y3V a seen = true then y3s objs A f todo sw seen else
   (match x8 sw b with
   | b' => y3s objs A f ((match y3W objs a, A b with
     | some (.box sh), some (.box x) => sh.unP x
     | _, _ => []) ++ todo) (if a = b' then sw else sw ++ [(a, b')]) (a :: seen))
def y6s : List (Key × Key) → List V → List V
 | [], xs => xs
 | (a, b) :: l, xs => y6s l (xs.map (q0l a b))
def swA : List (Key × Key) → (Key → Option O) → Key → Option O
 | [], A => A
 | (a, b) :: l, A => swA l (permA a b A)
def y6h : List (Key × Key) → V → V
 | [], x => x
 | (a, b) :: l, x => q0l a b (y6h l x)
def y6i : List (Key × Key) → List (Key × O) → List (Key × O)
 | [], x => x
 | (a, b) :: l, x => z3V a b (y6i l x)
theorem Y6.sws {X : Cx} {f : FuncId} : ∀ (sw : List (Key × Key)) {xs : List V} {A : Key → Option O} {v : V} {L : List (Key × O)}, Y6 X f (y6s sw xs) (swA sw A) v L → Y6 X f xs A (y6h sw v) (y6i sw L)
 | [], xs, A, v, L, h => h
 | (a, b) :: l, xs, A, v, L, h => by
  have h1 := (Y6.sws l h).swap a b
  have hxs : (xs.map (q0l a b)).map (q0l a b) = xs := by
   rw [List.map_map]
   exact (List.map_congr_left (g := id) fun x _ => z2Q a b x).trans (List.map_id _)
  rw [hxs, y2c] at h1
  exact h1
def q4Q (args : List Sh) (objs : List (Key × OSh)) {R : Type} (p : List C → List Es → (V → List (Key × O) → Option R) → Option R) : OvG R := fun xs A K =>
 match y3s objs A 1000 (Sh.y3q args xs) [] [] with
 | sw => Sh.fits args (y6s sw xs) fun d1 => q7O (swA sw A) objs fun d2 ms => p (d1 ++ d2) ms fun v L => K (y6h sw v) (y6i sw L)
theorem q1r {X : Cx} {f : FuncId} {args : List Sh} {objs : List (Key × OSh)} {R : Type} {p : List C → List Es → (V → List (Key × O) → Option R) → Option R}
  (hp : ∀ ds ms (K : V → List (Key × O) → Option R) r, p ds ms K = some r → ∃ v L, Y6 X f (Sh.U1 args 0 ds) (y7 (u5 objs (Sh.q0n args) 0 ds ms)) v L ∧ K v L = some r) : GOk X f (q4Q args objs p) := by
 intro xs A Kr r hr
 unfold q4Q at hr
 dsimp only at hr
 generalize y3s objs A 1000 (Sh.y3q args xs) [] [] = sw at hr
 obtain ⟨d1, h1, h2, h3⟩ := Sh.z7U args _ hr
 obtain ⟨d2, ms, h4, h5, h6⟩ := z3x objs h1
 obtain ⟨v, L, h7, h8⟩ := hp _ _ _ _ h4
 refine ⟨_, _, Y6.sws sw (v := v) (L := L) ?_, h8⟩
 have e1 : Sh.U1 args 0 (d1 ++ d2) = Sh.U1 args 0 d1 := Sh.q7P args 0 0 _ _ fun j hj => q1d (by omega)
 have e2 : u5 objs (Sh.q0n args) 0 (d1 ++ d2) ms = u5 objs 0 0 d2 ms := q0H objs _ 0 0 _ _ _ fun j hj => by
  rw [q2c (by omega), h2]
  congr 1; omega
 rw [e1, h3, e2] at h7
 exact h7.mono h6
def z4e : List (Nat × (List V → Option V)) → q26
 | [], _ => none
 | (i, g) :: l, f => bif Nat.beq f i then some g else z4e l f
def q7V (X : Cx) : List (Nat × (List V → Option V)) → Prop
 | [] => True
 | p :: l => (∀ xs v, p.2 xs = some v → z9Y X p.1 xs v) ∧ q7V X l
theorem z6N {X : Cx} : ∀ {l : List (Nat × (List V → Option V))}, q7V X l → q48 X (z4e l)
 | [], _ => fun f g xs v h _ => by cases h
 | (i, g0) :: l, h => fun f g xs v hf hv => by
  simp only [z4e] at hf
  cases hb : Nat.beq f i with
  | true =>
   rw [hb, cond_true] at hf
   cases hf
   obtain rfl := Nat.eq_of_beq_eq_true hb
   exact h.1 xs v hv
  | false =>
   rw [hb, cond_false] at hf
   exact z6N h.2 f g xs v hf hv
theorem q7V.append {X : Cx} : ∀ {l m : List (Nat × (List V → Option V))}, q7V X l → q7V X m → q7V X (l ++ m)
 | [], _, _, h => h
 | _ :: _, _, h, h' => ⟨h.1, h.2.append h'⟩
@[go_sem] theorem w6 {a0 : C} {l : List C} : dk (a0 :: l) 0 = a0 := rfl
@[go_sem] theorem u0 {a0 a1 : C} {l : List C} : dk (a0 :: a1 :: l) 1 = a1 := rfl
@[go_sem] theorem o8 {a0 a1 a2 : C} {l : List C} : dk (a0 :: a1 :: a2 :: l) 2 = a2 := rfl
@[go_sem] theorem j9 {a0 a1 a2 a3 : C} {l : List C} : dk (a0 :: a1 :: a2 :: a3 :: l) 3 = a3 := rfl
@[go_sem] theorem Y3 {a0 a1 a2 a3 a4 : C} {l : List C} : dk (a0 :: a1 :: a2 :: a3 :: a4 :: l) 4 = a4 := rfl
@[go_sem] theorem q07 {a0 a1 a2 a3 a4 a5 : C} {l : List C} : dk (a0 :: a1 :: a2 :: a3 :: a4 :: a5 :: l) 5 = a5 := rfl
@[go_sem] theorem q24 {a0 a1 a2 a3 a4 a5 a6 : C} {l : List C} : dk (a0 :: a1 :: a2 :: a3 :: a4 :: a5 :: a6 :: l) 6 = a6 := rfl
@[go_sem] theorem q79 {a0 a1 a2 a3 a4 a5 a6 a7 : C} {l : List C} : dk (a0 :: a1 :: a2 :: a3 :: a4 :: a5 :: a6 :: a7 :: l) 7 = a7 := rfl
@[go_sem] theorem z5H {a0 a1 a2 a3 a4 a5 a6 a7 a8 : C} {l : List C} : dk (a0 :: a1 :: a2 :: a3 :: a4 :: a5 :: a6 :: a7 :: a8 :: l) 8 = a8 := rfl
@[go_sem] theorem x2D {a0 a1 a2 a3 a4 a5 a6 a7 a8 a9 : C} {l : List C} : dk (a0 :: a1 :: a2 :: a3 :: a4 :: a5 :: a6 :: a7 :: a8 :: a9 :: l) 9 = a9 := rfl
@[go_sem] theorem x2X {a0 a1 a2 a3 a4 a5 a6 a7 a8 a9 a10 : C} {l : List C} : dk (a0 :: a1 :: a2 :: a3 :: a4 :: a5 :: a6 :: a7 :: a8 :: a9 :: a10 :: l) 10 = a10 := rfl
@[go_sem] theorem x2W {a0 a1 a2 a3 a4 a5 a6 a7 a8 a9 a10 a11 : C} {l : List C} : dk (a0 :: a1 :: a2 :: a3 :: a4 :: a5 :: a6 :: a7 :: a8 :: a9 :: a10 :: a11 :: l) 11 = a11 := rfl
@[go_sem] theorem x2V {a0 a1 a2 a3 a4 a5 a6 a7 a8 a9 a10 a11 a12 : C} {l : List C} : dk (a0 :: a1 :: a2 :: a3 :: a4 :: a5 :: a6 :: a7 :: a8 :: a9 :: a10 :: a11 :: a12 :: l) 12 = a12 := rfl
@[go_sem] theorem x2U {a0 a1 a2 a3 a4 a5 a6 a7 a8 a9 a10 a11 a12 a13 : C} {l : List C} : dk (a0 :: a1 :: a2 :: a3 :: a4 :: a5 :: a6 :: a7 :: a8 :: a9 :: a10 :: a11 :: a12 :: a13 :: l) 13 = a13 := rfl
@[go_sem] theorem x2T {a0 a1 a2 a3 a4 a5 a6 a7 a8 a9 a10 a11 a12 a13 a14 : C} {l : List C} : dk (a0 :: a1 :: a2 :: a3 :: a4 :: a5 :: a6 :: a7 :: a8 :: a9 :: a10 :: a11 :: a12 :: a13 :: a14 :: l) 14 = a14 := rfl
@[go_sem] theorem x2S {a0 a1 a2 a3 a4 a5 a6 a7 a8 a9 a10 a11 a12 a13 a14 a15 : C} {l : List C} : dk (a0 :: a1 :: a2 :: a3 :: a4 :: a5 :: a6 :: a7 :: a8 :: a9 :: a10 :: a11 :: a12 :: a13 :: a14 :: a15 :: l) 15 = a15 := rfl
@[go_sem] theorem x2R {a0 a1 a2 a3 a4 a5 a6 a7 a8 a9 a10 a11 a12 a13 a14 a15 a16 : C} {l : List C} : dk (a0 :: a1 :: a2 :: a3 :: a4 :: a5 :: a6 :: a7 :: a8 :: a9 :: a10 :: a11 :: a12 :: a13 :: a14 :: a15 :: a16 :: l) 16 = a16 := rfl
@[go_sem] theorem x2Q {a0 a1 a2 a3 a4 a5 a6 a7 a8 a9 a10 a11 a12 a13 a14 a15 a16 a17 : C} {l : List C} : dk (a0 :: a1 :: a2 :: a3 :: a4 :: a5 :: a6 :: a7 :: a8 :: a9 :: a10 :: a11 :: a12 :: a13 :: a14 :: a15 :: a16 :: a17 :: l) 17 = a17 := rfl
@[go_sem] theorem x2P {a0 a1 a2 a3 a4 a5 a6 a7 a8 a9 a10 a11 a12 a13 a14 a15 a16 a17 a18 : C} {l : List C} : dk (a0 :: a1 :: a2 :: a3 :: a4 :: a5 :: a6 :: a7 :: a8 :: a9 :: a10 :: a11 :: a12 :: a13 :: a14 :: a15 :: a16 :: a17 :: a18 :: l) 18 = a18 := rfl
@[go_sem] theorem x2O {a0 a1 a2 a3 a4 a5 a6 a7 a8 a9 a10 a11 a12 a13 a14 a15 a16 a17 a18 a19 : C} {l : List C} : dk (a0 :: a1 :: a2 :: a3 :: a4 :: a5 :: a6 :: a7 :: a8 :: a9 :: a10 :: a11 :: a12 :: a13 :: a14 :: a15 :: a16 :: a17 :: a18 :: a19 :: l) 19 = a19 := rfl
@[go_sem] theorem x2N {a0 a1 a2 a3 a4 a5 a6 a7 a8 a9 a10 a11 a12 a13 a14 a15 a16 a17 a18 a19 a20 : C} {l : List C} : dk (a0 :: a1 :: a2 :: a3 :: a4 :: a5 :: a6 :: a7 :: a8 :: a9 :: a10 :: a11 :: a12 :: a13 :: a14 :: a15 :: a16 :: a17 :: a18 :: a19 :: a20 :: l) 20 = a20 := rfl
@[go_sem] theorem x2M {a0 a1 a2 a3 a4 a5 a6 a7 a8 a9 a10 a11 a12 a13 a14 a15 a16 a17 a18 a19 a20 a21 : C} {l : List C} : dk (a0 :: a1 :: a2 :: a3 :: a4 :: a5 :: a6 :: a7 :: a8 :: a9 :: a10 :: a11 :: a12 :: a13 :: a14 :: a15 :: a16 :: a17 :: a18 :: a19 :: a20 :: a21 :: l) 21 = a21 := rfl
@[go_sem] theorem x2L {a0 a1 a2 a3 a4 a5 a6 a7 a8 a9 a10 a11 a12 a13 a14 a15 a16 a17 a18 a19 a20 a21 a22 : C} {l : List C} : dk (a0 :: a1 :: a2 :: a3 :: a4 :: a5 :: a6 :: a7 :: a8 :: a9 :: a10 :: a11 :: a12 :: a13 :: a14 :: a15 :: a16 :: a17 :: a18 :: a19 :: a20 :: a21 :: a22 :: l) 22 = a22 := rfl
@[go_sem] theorem x2K {a0 a1 a2 a3 a4 a5 a6 a7 a8 a9 a10 a11 a12 a13 a14 a15 a16 a17 a18 a19 a20 a21 a22 a23 : C} {l : List C} : dk (a0 :: a1 :: a2 :: a3 :: a4 :: a5 :: a6 :: a7 :: a8 :: a9 :: a10 :: a11 :: a12 :: a13 :: a14 :: a15 :: a16 :: a17 :: a18 :: a19 :: a20 :: a21 :: a22 :: a23 :: l) 23 = a23 := rfl
@[go_sem] theorem x2J {a0 a1 a2 a3 a4 a5 a6 a7 a8 a9 a10 a11 a12 a13 a14 a15 a16 a17 a18 a19 a20 a21 a22 a23 a24 : C} {l : List C} : dk (a0 :: a1 :: a2 :: a3 :: a4 :: a5 :: a6 :: a7 :: a8 :: a9 :: a10 :: a11 :: a12 :: a13 :: a14 :: a15 :: a16 :: a17 :: a18 :: a19 :: a20 :: a21 :: a22 :: a23 :: a24 :: l) 24 = a24 := rfl
@[go_sem] theorem x2I {a0 a1 a2 a3 a4 a5 a6 a7 a8 a9 a10 a11 a12 a13 a14 a15 a16 a17 a18 a19 a20 a21 a22 a23 a24 a25 : C} {l : List C} : dk (a0 :: a1 :: a2 :: a3 :: a4 :: a5 :: a6 :: a7 :: a8 :: a9 :: a10 :: a11 :: a12 :: a13 :: a14 :: a15 :: a16 :: a17 :: a18 :: a19 :: a20 :: a21 :: a22 :: a23 :: a24 :: a25 :: l) 25 = a25 := rfl
@[go_sem] theorem q2A {a0 : C} {l : List C} : C.get (.agg (a0 :: l)) 0 = a0 := rfl
@[go_sem] theorem q5F {a0 a1 : C} {l : List C} : C.get (.agg (a0 :: a1 :: l)) 1 = a1 := rfl
@[go_sem] theorem q5E {a0 a1 a2 : C} {l : List C} : C.get (.agg (a0 :: a1 :: a2 :: l)) 2 = a2 := rfl
@[go_sem] theorem x2A {a0 a1 a2 a3 : C} {l : List C} : C.get (.agg (a0 :: a1 :: a2 :: a3 :: l)) 3 = a3 := rfl
@[go_sem] theorem x2z {a0 a1 a2 a3 a4 : C} {l : List C} : C.get (.agg (a0 :: a1 :: a2 :: a3 :: a4 :: l)) 4 = a4 := rfl
@[go_sem] theorem x2y {a0 a1 a2 a3 a4 a5 : C} {l : List C} : C.get (.agg (a0 :: a1 :: a2 :: a3 :: a4 :: a5 :: l)) 5 = a5 := rfl
@[go_sem] theorem x2x {a0 a1 a2 a3 a4 a5 a6 : C} {l : List C} : C.get (.agg (a0 :: a1 :: a2 :: a3 :: a4 :: a5 :: a6 :: l)) 6 = a6 := rfl
@[go_sem] theorem x2w {a0 a1 a2 a3 a4 a5 a6 a7 : C} {l : List C} : C.get (.agg (a0 :: a1 :: a2 :: a3 :: a4 :: a5 :: a6 :: a7 :: l)) 7 = a7 := rfl
@[go_sem] theorem x2v {a0 a1 a2 a3 a4 a5 a6 a7 a8 : C} {l : List C} : C.get (.agg (a0 :: a1 :: a2 :: a3 :: a4 :: a5 :: a6 :: a7 :: a8 :: l)) 8 = a8 := rfl
@[go_sem] theorem x2u {a0 a1 a2 a3 a4 a5 a6 a7 a8 a9 : C} {l : List C} : C.get (.agg (a0 :: a1 :: a2 :: a3 :: a4 :: a5 :: a6 :: a7 :: a8 :: a9 :: l)) 9 = a9 := rfl
@[go_sem] theorem x2f {a0 a1 a2 a3 a4 a5 a6 a7 a8 a9 a10 : C} {l : List C} : C.get (.agg (a0 :: a1 :: a2 :: a3 :: a4 :: a5 :: a6 :: a7 :: a8 :: a9 :: a10 :: l)) 10 = a10 := rfl
@[go_sem] theorem x2e {a0 a1 a2 a3 a4 a5 a6 a7 a8 a9 a10 a11 : C} {l : List C} : C.get (.agg (a0 :: a1 :: a2 :: a3 :: a4 :: a5 :: a6 :: a7 :: a8 :: a9 :: a10 :: a11 :: l)) 11 = a11 := rfl
@[go_sem] theorem x2d {a0 a1 a2 a3 a4 a5 a6 a7 a8 a9 a10 a11 a12 : C} {l : List C} : C.get (.agg (a0 :: a1 :: a2 :: a3 :: a4 :: a5 :: a6 :: a7 :: a8 :: a9 :: a10 :: a11 :: a12 :: l)) 12 = a12 := rfl
@[go_sem] theorem x2c {a0 a1 a2 a3 a4 a5 a6 a7 a8 a9 a10 a11 a12 a13 : C} {l : List C} : C.get (.agg (a0 :: a1 :: a2 :: a3 :: a4 :: a5 :: a6 :: a7 :: a8 :: a9 :: a10 :: a11 :: a12 :: a13 :: l)) 13 = a13 := rfl
@[go_sem] theorem x2b {a0 a1 a2 a3 a4 a5 a6 a7 a8 a9 a10 a11 a12 a13 a14 : C} {l : List C} : C.get (.agg (a0 :: a1 :: a2 :: a3 :: a4 :: a5 :: a6 :: a7 :: a8 :: a9 :: a10 :: a11 :: a12 :: a13 :: a14 :: l)) 14 = a14 := rfl
@[go_sem] theorem x2a {a0 a1 a2 a3 a4 a5 a6 a7 a8 a9 a10 a11 a12 a13 a14 a15 : C} {l : List C} : C.get (.agg (a0 :: a1 :: a2 :: a3 :: a4 :: a5 :: a6 :: a7 :: a8 :: a9 :: a10 :: a11 :: a12 :: a13 :: a14 :: a15 :: l)) 15 = a15 := rfl
@[go_sem] theorem q33 {a0 b : C} {l : List C} : C.set (.agg (a0 :: l)) 0 b = .agg (b :: l) := rfl
@[go_sem] theorem q7u {a0 a1 b : C} {l : List C} : C.set (.agg (a0 :: a1 :: l)) 1 b = .agg (a0 :: b :: l) := rfl
@[go_sem] theorem q7t {a0 a1 a2 b : C} {l : List C} : C.set (.agg (a0 :: a1 :: a2 :: l)) 2 b = .agg (a0 :: a1 :: b :: l) := rfl
@[go_sem] theorem y4S {a0 a1 a2 a3 b : C} {l : List C} : C.set (.agg (a0 :: a1 :: a2 :: a3 :: l)) 3 b = .agg (a0 :: a1 :: a2 :: b :: l) := rfl
@[go_sem] theorem y4R {a0 a1 a2 a3 a4 b : C} {l : List C} : C.set (.agg (a0 :: a1 :: a2 :: a3 :: a4 :: l)) 4 b = .agg (a0 :: a1 :: a2 :: a3 :: b :: l) := rfl
@[go_sem] theorem x2r {a0 a1 a2 a3 a4 a5 b : C} {l : List C} : C.set (.agg (a0 :: a1 :: a2 :: a3 :: a4 :: a5 :: l)) 5 b = .agg (a0 :: a1 :: a2 :: a3 :: a4 :: b :: l) := rfl
@[go_sem] theorem x2q {a0 a1 a2 a3 a4 a5 a6 b : C} {l : List C} : C.set (.agg (a0 :: a1 :: a2 :: a3 :: a4 :: a5 :: a6 :: l)) 6 b = .agg (a0 :: a1 :: a2 :: a3 :: a4 :: a5 :: b :: l) := rfl
@[go_sem] theorem x2p {a0 a1 a2 a3 a4 a5 a6 a7 b : C} {l : List C} : C.set (.agg (a0 :: a1 :: a2 :: a3 :: a4 :: a5 :: a6 :: a7 :: l)) 7 b = .agg (a0 :: a1 :: a2 :: a3 :: a4 :: a5 :: a6 :: b :: l) := rfl
attribute [go_sem] u9 Nat.beq_refl Bool.and_true Bool.true_and Bool.not_true Bool.not_false beq_self_eq_true Int.toNat_natCast decide_true decide_false Bool.cond_decide Int.toNat_zero Int.toNat_one
attribute [go_sem 500] Int.ofNat_eq_natCast
attribute [go_sem] Int.cast_ofNat_Int
@[go_sem] theorem x2s (n : Nat) : Int.ofNat (@OfNat.ofNat Nat n (instOfNatNat n)) = @OfNat.ofNat Int n instOfNat := rfl
@[go_sem] theorem x1D (n : Nat) : ((@OfNat.ofNat Nat n (instOfNatNat n) : Nat) : Int) = @OfNat.ofNat Int n instOfNat := rfl
@[go_sem] theorem x2t (a b : Bool) : y6Z (.bool a) b = .bool b := rfl
@[go_sem] theorem z3I (c : C) : C.beq c c = true := (C.beq_iff c c).2 rfl
theorem z8w {R : Type} {ι : Type} {F : KD R → List C → List Es → Option R} (st : ι → List C) (sm : ι → List Es) (μ : ι → Nat) (P : ι → Prop) (spec : ι → Option R)
  (h : ∀ i, P i → ∀ rec : KD R, (∀ j, P j → μ j < μ i → rec (st j) (sm j) = spec j) → F rec (st i) (sm i) = spec i) : ∀ (N : Nat) (i : ι), P i → μ i < N → k9 N F (st i) (sm i) = spec i
 | 0, _, _, h2 => absurd h2 (Nat.not_lt_zero _)
 | N + 1, i, h1, h2 => by
  rw [j6]
  exact h i h1 _ fun j hj hlt => z8w st sm μ P spec h N j hj (by omega)
theorem U9 {R : Type} {F : KD R → List C → List Es → Option R} (st : Nat → List C) (sm : Nat → List Es) (m : Nat) (r : Option R) (step : ∀ i, i < m → ∀ rec : KD R, F rec (st i) (sm i) = rec (st (i + 1)) (sm (i + 1))) (stop : ∀ rec : KD R, F rec (st m) (sm m) = r) {N : Nat} (hN : m < N) :
  k9 N F (st 0) (sm 0) = r := by
 refine z8w (F := F) st sm (fun i => m - i) (fun i => i ≤ m) (fun _ => r) (fun i hi rec hrec => ?_) N 0 (Nat.zero_le _) (by omega)
 by_cases e : i = m
 ·subst e; exact stop rec
 ·rw [step i (by omega) rec]
  exact hrec (i + 1) (by omega) (by omega)
theorem y5Q {X : Cx} {f : FuncId} {ts : List Ty} {cs : List C} {A : Key → Option O} {v : V} {L : List (Key × O)} (h : (∀ (i : Nat) (t : Ty) (c : C), ts[i]? = some t → cs[i]? = some c → C.wf t c) → Y6 X f (List.zipWith V.d ts cs) A v L) : Y6 X f (List.zipWith V.d ts cs) A v L := by
 intro A' Γ w args hA hg hc hn hr
 refine h (fun i t c ht hcs => ?_) A' Γ w args hA hg hc hn hr
 have hx : (List.zipWith V.d ts cs)[i]? = some (.d t c) := by simp [List.getElem?_zipWith, ht, hcs]
 have hs : (H0 1000 (List.zipWith V.d ts cs))[i]? = some (.d t c) := by rw [q7s, hx]; rfl
 have hl : i < args.size := by rw [← hn]; exact (List.getElem?_eq_some_iff.1 hx).1
 exact (hr i _ _ hs (Array.getElem?_eq_getElem hl)).wf
theorem y7c {w : World} {gl gl' : Nat → Option (Ty × C)} (h : z8h w gl) (hs : ∀ g x, gl' g = some x → gl g = some x) : z8h w gl' := fun g τ c hg => h g τ c (hs g (τ, c) hg)
theorem x0M {X : Cx} {f : FuncId} {g : OvG (V × List (Key × O))} (h : GOk X f g) {xs : List V} {A : Key → Option O} {v : V} {L : List (Key × O)} (hr : g xs A kR = some (v, L)) : Y6 X f xs A v L := by
 obtain ⟨v', L', h1, h2⟩ := h xs A kR (v, L) hr
 simp only [kR, Option.some.injEq, Prod.mk.injEq] at h2
 obtain ⟨rfl, rfl⟩ := h2
 exact h1
theorem c9 {i : Nat} (h : i < 4611686018427387904) : IntKind.i64.wrap ((i : Int) + 1) = ((i + 1 : Nat) : Int) := by rw [IntWalk.i64_in _ (by omega)]; omega
theorem wrap_u64 {n : Int} (h : 0 ≤ n) (h2 : n < 18446744073709551616) : IntKind.u64.wrap n = n := by
 have hm1 : IntKind.u64.min = 0 := by decide
 have hm2 : IntKind.u64.max = 18446744073709551615 := by decide
 exact y8q (by omega) (by omega)
@[go_sem] theorem q5s (g : Key → Key) (τ : Ty) (m : Es) : List.map (fun c => (Prod.fst c, V.ren g id (Prod.snd c))) (dE τ m) = dE τ m := by
 unfold dE
 rw [List.map_map]
 exact List.map_congr_left fun _ _ => rfl
attribute [go_sem] q0t J3
@[go_sem] theorem q9j (τ : Ty) : ∀ m : Es, q0E τ (dE τ m) = true
 | [] => rfl
 | _ :: m => by
  have := q9j τ m
  have h : Ty.beq τ τ = true := (Ty.beq_iff τ τ).2 rfl
  simp only [dE, List.map_cons, q0E, h, Bool.true_and] at this ⊢
  exact this
def q5p : Es → C → Bool
 | [], _ => false
 | (k, _) :: l, c => bif C.beq c k then true else q5p l c
def getM : Es → C → C
 | [], _ => .nil
 | (k, v) :: l, c => bif C.beq c k then v else getM l c
@[go_sem] theorem z0K (τ : Ty) (c : C) : ∀ m : Es, q9a (dE τ m) c = q5p m c
 | [] => rfl
 | (k, v) :: m => by
  have := z0K τ c m
  simp only [dE, List.map_cons, q9a, q5p] at this ⊢
  rw [this]
@[go_sem] theorem z7P (τ : Ty) (c : C) : ∀ m : Es, z3u (dE τ m) c = getM m c
 | [] => rfl
 | (k, v) :: m => by
  have := z7P τ c m
  simp only [dE, List.map_cons, z3u, getM] at this ⊢
  rw [this]
@[go_sem] theorem y2G : unE [] = [] := rfl
@[go_sem] theorem x2G (τ : Ty) : dE τ [] = [] := rfl
end Go.E
namespace Go.E
open Go
section
variable {X : Cx} {R : Type}
variable {ov : OvK R} {ext : q26} (hP : u6 X.P = true) (hmo : X.P.follows .mixedOrders = true) (hov : z9W X ov) (he : q48 X ext)
include hP hmo hov he
end
end Go.E
namespace Go.E
open Go
section
variable {F : Fence} {n : Nat} {P : Program} (w : World) {ops : Array Oper} {rest : List Oper} {o : Oper} {a : Act} {Q : Exit → Act → World → Prop}
theorem y2q (hg : o.guard = none) (m : Operand) (t : TypeId) (hop : o.op = Op.range t m) (r : Value) (w' : World) (hrun : (Instr.range t (a.eval m)).run P w = .ok r w')
  (hK : wpListIn F n P ops Q rest (a.put o.dst r) w') : wpListIn F n P ops Q (o :: rest) a w := by
 refine wpListIn_plain hg fun K' hK' => ?_
 unfold Oper.wpIn
 refine ⟨by simp [Oper.about, hop], ?_⟩
 rw [Oper.semAt_plain F _ _ (by rw [hop]; intro c hc'; cases hc')]
 simp [execOp, hop, hrun, Result.andThen]
 exact hK' _ _ hK
theorem z1z (hg : o.guard = none) (t : TypeId) (p : Operand) (hop : o.op = Op.load t p) (r : Value) (w' : World) (hrun : (Instr.loadAt t (a.eval p)).run P w = .ok r w')
  (hK : wpListIn F n P ops Q rest (a.put o.dst r) w') : wpListIn F n P ops Q (o :: rest) a w := by
 refine wpListIn_plain hg fun K' hK' => ?_
 unfold Oper.wpIn
 refine ⟨by simp [Oper.about, hop], ?_⟩
 rw [Oper.semAt_plain F _ _ (by rw [hop]; intro c hc'; cases hc')]
 simp [execOp, hop, hrun, Result.andThen]
 exact hK' _ _ hK
theorem q95 (hg : o.guard = none) (t : TypeId) (p v : Operand) (hop : o.op = Op.store t p v) (w' : World) (hrun : (Instr.storeAt t (a.eval p) (a.eval v)).run P w = .ok () w')
  (hK : wpListIn F n P ops Q rest (a.put o.dst undef) w') : wpListIn F n P ops Q (o :: rest) a w := by
 refine wpListIn_plain hg fun K' hK' => ?_
 unfold Oper.wpIn
 refine ⟨by simp [Oper.about, hop], ?_⟩
 rw [Oper.semAt_plain F _ _ (by rw [hop]; intro c hc'; cases hc')]
 simp [execOp, hop, hrun, Result.andThen]
 exact hK' _ _ hK
theorem y2r (hg : o.guard = none) (t : TypeId) (len : Nat) (parts : Array (Nat × Operand)) (hop : o.op = Op.buildSlice t len parts) (r : Value) (w' : World) (hrun : (Instr.buildSlice t len (parts.map fun (i, x) => (i, a.eval x))).run P w = .ok r w')
  (hK : wpListIn F n P ops Q rest (a.put o.dst r) w') : wpListIn F n P ops Q (o :: rest) a w := by
 refine wpListIn_plain hg fun K' hK' => ?_
 unfold Oper.wpIn
 refine ⟨by simp [Oper.about, hop], ?_⟩
 rw [Oper.semAt_plain F _ _ (by rw [hop]; intro c hc'; cases hc')]
 simp only [execOp, hop, Sem.run_bind, hrun, Result.andThen_ok]
 exact hK' _ _ hK
theorem y2s (hg : o.guard = none) (t : TypeId) (hop : o.op = Op.alloc t) (r : Value) (w' : World) (hrun : (Instr.alloc t true (.tuple #[])).run P w = .ok r w')
  (hK : wpListIn F n P ops Q rest (a.put o.dst r) w') : wpListIn F n P ops Q (o :: rest) a w := by
 refine wpListIn_plain hg fun K' hK' => ?_
 unfold Oper.wpIn
 refine ⟨by simp [Oper.about, hop], ?_⟩
 rw [Oper.semAt_plain F _ _ (by rw [hop]; intro c hc'; cases hc')]
 simp only [execOp, hop, Sem.run_bind, hrun, Result.andThen_ok]
 exact hK' _ _ hK
theorem y35 (hg : o.guard = none) (it : Operand) (hop : o.op = Op.next it false)
  (r bm since c0 : Nat) (seen : Array Nat) (es : Array MapEntry) (clock : Nat) (hit : a.eval it = .pointer (some ⟨r, 0, none⟩))
  (hr : w.heap[r]? = some (.mapIter (some bm) since seen c0)) (hb : w.heap[bm]? = some (.map es clock)) (hold : ∀ x ∈ es.toList, x.born < since) (hsc : since ≤ c0) (hcl : since ≤ clock) (hn : (es.toList.map (·.born)).Nodup)
  (hDone : (leftOf es seen).size = 0 → wpListIn F n P ops Q rest (a.put o.dst (.tuple #[.bool false])) w)
  (hMore : ∀ e ∈ (leftOf es seen).toList, ∀ w2 : World, w2.heap[r]? = some (.mapIter (some bm) since (seen.push e.born) clock) → w.grownBy w2 (some r) → w2.heap.size = w.heap.size →
   (Instr.entry (.pointer (some ⟨r, 0, none⟩))).run P w2 = .ok (.tuple #[e.key, e.val]) w2 → wpListIn F n P ops Q rest (a.put o.dst (.tuple #[.bool true, e.key, e.val])) w2) :
  wpListIn F n P ops Q (o :: rest) a w := by
 refine wpListIn_plain hg fun K' hK' => ?_
 unfold Oper.wpIn
 refine ⟨by simp [Oper.about, hop], ?_⟩
 rw [Oper.semAt_plain F _ _ (by rw [hop]; intro c hc'; cases hc')]
 rcases run_next_at (P := P) w o.type r bm since c0 seen es clock hr hb hold hsc with ⟨h0, hrun⟩ | ⟨e, he, w1, hw1, hrun⟩
 ·simp [execOp, hop, hit, hrun, Result.andThen]
  exact hK' _ _ (hDone h0)
 ·simp [execOp, hop, hit, hrun, Result.andThen]
  have hlt : r < w1.heap.size := by rcases hw1 with rfl | rfl <;> exact (Array.getElem?_eq_some_iff.1 hr).1
  have h1 : (ChangeMaps.setBlock w1 r (.mapIter (some bm) since (seen.push e.born) clock)).heap[r]? = some (.mapIter (some bm) since (seen.push e.born) clock) := by
   simp [ChangeMaps.setBlock, hlt]
  have h2 : ∀ b, b ≠ r → (ChangeMaps.setBlock w1 r (.mapIter (some bm) since (seen.push e.born) clock)).heap[b]? = w.heap[b]? := by
   intro b hb'
   rcases hw1 with rfl | rfl <;> simp [ChangeMaps.setBlock, Array.getElem?_setIfInBounds, Ne.symm hb'] <;> rfl
  have hsz : (ChangeMaps.setBlock w1 r (.mapIter (some bm) since (seen.push e.born) clock)).heap.size = w.heap.size := by rcases hw1 with rfl | rfl <;> simp [ChangeMaps.setBlock] <;> rfl
  have hne : bm ≠ r := by intro e; subst e; rw [hr] at hb; cases hb
  refine hK' _ _ (hMore e he _ h1 ⟨?_, ?_, ?_, ?_, fun k hk hkr => h2 k fun e => hkr (by rw [e])⟩ hsz ?_)
  ·rcases hw1 with rfl | rfl <;> rfl
  ·rcases hw1 with rfl | rfl <;> rfl
  ·rcases hw1 with rfl | rfl <;> rfl
  ·rw [hsz]; exact Nat.le_refl _
  ·exact run_entry_at _ r bm since seen es clock e h1 (by rw [h2 _ hne]; exact hb) (mem_left he).1 hn
end
end Go.E
namespace Go.E
open Go
def Y0 : Ty := .struct 36 [0, 1, 2, 3, 35] [(.int .u64), (.int .i64), (.int .u64), (.arr 32 (.int .u8)), (.int .u64)]
@[go_sem] theorem x1B : Y0.known = true := rfl
@[go_sem] theorem y8K : Y0.q0c = true := rfl
@[go_sem] theorem x1C : Y0.isAgg = true := rfl
@[go_sem] theorem x1T : Y0.size = 36 := rfl
@[go_sem] theorem x0x : Y0.q1E = [(.int .u64), (.int .i64), (.int .u64), (.arr 32 (.int .u8)), (.int .u64)] := rfl
@[go_sem] theorem x1U : Y0.kids = 5 := rfl
@[go_sem] theorem x10 : Y0.q0i = true := by kernel_rfl
@[go_sem] theorem x1Z : Y0.get 0 = (.int .u64) := rfl
@[go_sem] theorem x0C : Y0.child 0 = some (0, (.int .u64)) := rfl
@[go_sem] theorem x1Y : Y0.get 1 = (.int .i64) := rfl
@[go_sem] theorem x0B : Y0.child 1 = some (1, (.int .i64)) := rfl
@[go_sem] theorem x1X : Y0.get 2 = (.int .u64) := rfl
@[go_sem] theorem x0A : Y0.child 2 = some (2, (.int .u64)) := rfl
@[go_sem] theorem x1W : Y0.get 3 = (.arr 32 (.int .u8)) := rfl
@[go_sem] theorem x0z : Y0.child 3 = some (3, (.arr 32 (.int .u8))) := rfl
@[go_sem] theorem x1V : Y0.get 4 = (.int .u64) := rfl
@[go_sem] theorem x0y : Y0.child 4 = some (35, (.int .u64)) := rfl
@[go_sem] theorem x1A : u7 Y0 = .agg [(.int 0), (.int 0), (.int 0), (u7 (.arr 32 (.int .u8))), (.int 0)] := rfl
@[go_sem] theorem x1S : Q5 Y0 = .d Y0 (u7 Y0) := rfl
def o6 : Ty := .struct 2 [0, 1] [.str, .str]
@[go_sem] theorem y9K : o6.known = true := rfl
@[go_sem] theorem y6o : o6.q0c = true := rfl
@[go_sem] theorem y9L : o6.isAgg = true := rfl
@[go_sem] theorem y99 : o6.size = 2 := rfl
@[go_sem] theorem y8x : o6.q1E = [.str, .str] := rfl
@[go_sem] theorem x0a : o6.kids = 2 := rfl
@[go_sem] theorem x0d : o6.q0i = true := by kernel_rfl
@[go_sem] theorem x0c : o6.get 0 = .str := rfl
@[go_sem] theorem y8z : o6.child 0 = some (0, .str) := rfl
@[go_sem] theorem x0b : o6.get 1 = .str := rfl
@[go_sem] theorem y8y : o6.child 1 = some (1, .str) := rfl
@[go_sem] theorem y9J : u7 o6 = .agg [(.str []), (.str [])] := rfl
@[go_sem] theorem y98 : Q5 o6 = .d o6 (u7 o6) := rfl
def b7 : Ty := .struct 65 [0, 32, 64] [(.arr 32 (.int .u8)), (.arr 32 (.int .u8)), (.int .u64)]
@[go_sem] theorem x0p : b7.known = true := rfl
@[go_sem] theorem y73 : b7.q0c = true := rfl
@[go_sem] theorem x0q : b7.isAgg = true := rfl
@[go_sem] theorem x1u : b7.size = 65 := rfl
@[go_sem] theorem y9U : b7.q1E = [(.arr 32 (.int .u8)), (.arr 32 (.int .u8)), (.int .u64)] := rfl
@[go_sem] theorem x1v : b7.kids = 3 := rfl
@[go_sem] theorem x1z : b7.q0i = true := by kernel_rfl
@[go_sem] theorem x1y : b7.get 0 = (.arr 32 (.int .u8)) := rfl
@[go_sem] theorem y9X : b7.child 0 = some (0, (.arr 32 (.int .u8))) := rfl
@[go_sem] theorem x1x : b7.get 1 = (.arr 32 (.int .u8)) := rfl
@[go_sem] theorem y9W : b7.child 1 = some (32, (.arr 32 (.int .u8))) := rfl
@[go_sem] theorem x1w : b7.get 2 = (.int .u64) := rfl
@[go_sem] theorem y9V : b7.child 2 = some (64, (.int .u64)) := rfl
@[go_sem] theorem x0o : u7 b7 = .agg [(u7 (.arr 32 (.int .u8))), (u7 (.arr 32 (.int .u8))), (.int 0)] := rfl
@[go_sem] theorem x1t : Q5 b7 = .d b7 (u7 b7) := rfl
def c4 : Ty := .struct 3 [0, 2] [o6, (.slice 72 b7)]
@[go_sem] theorem y9N : c4.known = true := rfl
@[go_sem] theorem y6p : c4.q0c = true := rfl
@[go_sem] theorem y9O : c4.isAgg = true := rfl
@[go_sem] theorem x0f : c4.size = 3 := rfl
@[go_sem] theorem y8A : c4.q1E = [o6, (.slice 72 b7)] := rfl
@[go_sem] theorem x0g : c4.kids = 2 := rfl
@[go_sem] theorem x0j : c4.q0i = true := by kernel_rfl
@[go_sem] theorem x0i : c4.get 0 = o6 := rfl
@[go_sem] theorem y8C : c4.child 0 = some (0, o6) := rfl
@[go_sem] theorem x0h : c4.get 1 = (.slice 72 b7) := rfl
@[go_sem] theorem y8B : c4.child 1 = some (2, (.slice 72 b7)) := rfl
@[go_sem] theorem y9M : u7 c4 = .agg [(u7 o6), (.slice [])] := rfl
@[go_sem] theorem x0e : Q5 c4 = .agg c4 [Q5 o6, Q5 (.slice 72 b7)] := rfl
def Q0 : Ty := .struct 1 [0] [.map]
@[go_sem] theorem y8E : Q0.known = true := rfl
@[go_sem] theorem y55 : Q0.q0c = true := rfl
@[go_sem] theorem y8F : Q0.isAgg = true := rfl
@[go_sem] theorem y9Q : Q0.size = 1 := rfl
@[go_sem] theorem y71 : Q0.q1E = [.map] := rfl
@[go_sem] theorem y9R : Q0.kids = 1 := rfl
@[go_sem] theorem y9T : Q0.q0i = true := by kernel_rfl
@[go_sem] theorem y9S : Q0.get 0 = .map := rfl
@[go_sem] theorem y72 : Q0.child 0 = some (0, .map) := rfl
@[go_sem] theorem y8D : u7 Q0 = .agg [.nil] := rfl
@[go_sem] theorem y9P : Q5 Q0 = .d Q0 (u7 Q0) := rfl
def z7 : Ty := .struct 33 [0, 32] [(.arr 32 (.int .u8)), (.int .u64)]
@[go_sem] theorem y9Z : z7.known = true := rfl
@[go_sem] theorem y6q : z7.q0c = true := rfl
@[go_sem] theorem y90 : z7.isAgg = true := rfl
@[go_sem] theorem x0s : z7.size = 33 := rfl
@[go_sem] theorem y8H : z7.q1E = [(.arr 32 (.int .u8)), (.int .u64)] := rfl
@[go_sem] theorem x0t : z7.kids = 2 := rfl
@[go_sem] theorem x0w : z7.q0i = true := by kernel_rfl
@[go_sem] theorem x0v : z7.get 0 = (.arr 32 (.int .u8)) := rfl
@[go_sem] theorem y8J : z7.child 0 = some (0, (.arr 32 (.int .u8))) := rfl
@[go_sem] theorem x0u : z7.get 1 = (.int .u64) := rfl
@[go_sem] theorem y8I : z7.child 1 = some (32, (.int .u64)) := rfl
@[go_sem] theorem y9Y : u7 z7 = .agg [(u7 (.arr 32 (.int .u8))), (.int 0)] := rfl
@[go_sem] theorem x0r : Q5 z7 = .d z7 (u7 z7) := rfl
def Z5 : Ty := .struct 73 [0, 8, 72] [(.arr 8 (.int .u32)), (.arr 64 (.int .u8)), (.int .u64)]
@[go_sem] theorem x1r : Z5.known = true := rfl
@[go_sem] theorem y8G : Z5.q0c = true := rfl
@[go_sem] theorem x1s : Z5.isAgg = true := rfl
@[go_sem] theorem x1M : Z5.size = 73 := rfl
@[go_sem] theorem x0k : Z5.q1E = [(.arr 8 (.int .u32)), (.arr 64 (.int .u8)), (.int .u64)] := rfl
@[go_sem] theorem x1N : Z5.kids = 3 := rfl
@[go_sem] theorem x1R : Z5.q0i = true := by kernel_rfl
@[go_sem] theorem x1Q : Z5.get 0 = (.arr 8 (.int .u32)) := rfl
@[go_sem] theorem x0n : Z5.child 0 = some (0, (.arr 8 (.int .u32))) := rfl
@[go_sem] theorem x1P : Z5.get 1 = (.arr 64 (.int .u8)) := rfl
@[go_sem] theorem x0m : Z5.child 1 = some (8, (.arr 64 (.int .u8))) := rfl
@[go_sem] theorem x1O : Z5.get 2 = (.int .u64) := rfl
@[go_sem] theorem x0l : Z5.child 2 = some (72, (.int .u64)) := rfl
@[go_sem] theorem x1q : u7 Z5 = .agg [(u7 (.arr 8 (.int .u32))), (u7 (.arr 64 (.int .u8))), (.int 0)] := rfl
@[go_sem] theorem x1L : Q5 Z5 = .d Z5 (u7 Z5) := rfl
end Go.E
