/-
 A framework for runs of Go code over abstract data: what it needs, and that it is sound, part 7.
 Conditions: none.
-/
import Derived.Test.YtefppgmopnnphaaDoorEf
import Derived.Lib.UnsafeStr
import Derived.Lib.Builder
import Derived.Lib.AppendStr
import Derived.WalkKit
set_option linter.all false
namespace Go.E
open Go
def q1D : List (Nat × Sh) → Nat
 | [] => 0
 | (_, s) :: l => s.many + q1D l
def J2 : List (Nat × Sh) → Nat → List C → List (Nat × V)
 | [], _, _ => []
 | (j, s) :: l, i, ds => (j, s.fill i ds) :: J2 l (i + s.many) ds
def q1l : List (Nat × Sh) → Nat → List C → List (Nat × Option Nat)
 | [], _, _ => []
 | (_, s) :: l, i, ds => (match s with
  | .sl _ _ t => (t, some (dk ds i).elems.length) :: q1l l (i + s.many) ds
  | _ => q1l l (i + s.many) ds)
def U8 : List (Key × OSh) → Nat
 | [] => 0
 | (_, .box s) :: l => s.many + U8 l
 | (_, .map _ _) :: l => U8 l
 | (_, .dead _) :: l => 1 + U8 l
 | (_, .it) :: l => 2 + U8 l
def dE (τ : Ty) (l : Es) : List (C × V) := l.map fun p => (p.1, .d τ p.2)
def isD (τ : Ty) : V → Bool
 | .d τ' _ => decide (τ' = τ)
 | _ => false
def unV : V → C
 | .d _ c => c
 | _ => .nil
def q1M (τ : Ty) : List (C × V) → Bool
 | [] => true
 | (_, v) :: es => isD τ v && q1M τ es
def unE (es : List (C × V)) : Es := es.map fun p => (p.1, unV p.2)
theorem z6P {τ : Ty} : ∀ {es : List (C × V)}, q1M τ es = true → dE τ (unE es) = es
 | [], _ => rfl
 | (k, v) :: es, h => by
  simp only [q1M, Bool.and_eq_true] at h
  have := z6P h.2
  simp only [dE, unE, List.map_cons, List.map_map] at this ⊢
  rw [this]
  cases v <;> simp only [isD, reduceCtorEq, decide_eq_true_eq] at h <;> first | exact h.1.elim | (rw [h.1]; rfl)
theorem q3Y (τ : Ty) : ∀ (l : Es), q1M τ (dE τ l) = true
 | [] => rfl
 | (k, v) :: l => by
  have := q3Y τ l
  simp only [dE, List.map_cons, q1M, isD, decide_true, Bool.true_and] at this ⊢
  exact this
theorem q6D (τ : Ty) (l : Es) : unE (dE τ l) = l := by
 induction l with
 | nil => rfl
 | cons p l ih => simp only [dE, unE, List.map_cons, unV] at ih ⊢; rw [ih]
theorem z30 (τ : Ty) : ∀ m : Es, U4 τ (dE τ m) = true
 | [] => rfl
 | _ :: m => by
  have := z30 τ m
  have h : Ty.beq τ τ = true := (Ty.beq_iff τ τ).2 rfl
  simp only [dE, List.map_cons, U4, h, Bool.true_and] at this ⊢
  exact this
def u7 : List (Key × OSh) → Nat → Nat → List C → List Es → List (Key × O)
 | [], _, _, _, _ => []
 | (k, .box s) :: l, i, j, ds, ms => (k, .box (s.fill i ds)) :: u7 l (i + s.many) j ds ms
 | (k, .map kτ vτ) :: l, i, j, ds, ms => (k, .map kτ vτ (dE vτ (dm ms j))) :: u7 l i (j + 1) ds ms
 | (k, .dead e) :: l, i, j, ds, ms => (k, .dead (.arr (dk ds i).toInt.toNat e)) :: u7 l (i + 1) j ds ms
 | (k, .it) :: l, i, j, ds, ms => (k, .it (dk ds i).toStr (dk ds (i + 1)).toInt.toNat) :: u7 l (i + 2) j ds ms
def q46 (sh : SSh) (A : Key → Option O) (ds : List C) (ms : List Es) : S :=
 ⟨J2 sh.env 0 ds, u7 sh.loc (q1D sh.env) 0 ds ms, A, q1l sh.env 0 ds⟩
def y1I (s : S) (sh : Sh) (d : List C) : Bool :=
 match sh with
 | .sl _ _ t => (match W5 s.tk t with
  | some L => Nat.beq L (dk d 0).elems.length
  | none => false)
 | _ => true
def z1U {R : Type} (s : S) : List (Nat × Sh) → (List C → Option R) → Option R
 | [], K => K []
 | (j, sh) :: l, K => sh.coe (s.get j) fun d1 => if (sh.fill 0 d1).ty.isAgg = (s.get j).ty.isAgg then (bif y1I s sh d1 then z1U s l fun d2 => K (d1 ++ d2) else none) else none
def y0T : V → Bool
 | .nilc => true
 | _ => false
def q2z {R : Type} (s : S) : List (Key × OSh) → (List C → List Es → Option R) → Option R
 | [], K => K [] []
 | (k, .box sh) :: l, K => (match s.obj k with
  | some (.box x) => if y0T x = false then sh.coe x fun d1 => if (sh.fill 0 d1).plain = true ∧ (sh.fill 0 d1).u0 = true then q2z s l fun d2 m2 => K (d1 ++ d2) m2 else none else none
  | _ => none)
 | (k, .map kτ vτ) :: l, K => (match s.obj k with
  | some (.map kτ' vτ' es) => if kτ' = kτ ∧ vτ' = vτ then (if q1M vτ es = true then q2z s l fun d2 m2 => K d2 (unE es :: m2) else none) else none
  | _ => none)
 | (k, .dead e) :: l, K => (match s.obj k with
  | some o => (match o.ty with
   | .arr M e' => if e' = e then q2z s l fun d2 m2 => K (.int M :: d2) m2 else none
   | _ => none)
  | _ => none)
 | (k, .it) :: l, K => (match s.obj k with
  | some (.it x p) => q2z s l fun d2 m2 => K (.str x :: .int p :: d2) m2
  | _ => none)
def q9P (f g : Nat → Bool) : List Cap → Bool
 | [] => true
 | .c _ :: l => q9P f g l
 | .v x :: l => x.ok f g && q9P f g l
theorem q7R {f g : Nat → Bool} : ∀ (l : List Cap) (i : Nat) (ds : List C), q9P f g l = true → V.oks f g (J3 l i ds) = true
 | [], _, _, _ => rfl
 | .c _ :: l, i, ds, h => by
  simp only [q9P] at h
  simp only [J3, V.oks, V.ok, Bool.true_and]
  exact q7R l _ _ h
 | .v x :: l, i, ds, h => by
  simp only [q9P, Bool.and_eq_true] at h
  simp only [J3, V.oks, Bool.and_eq_true]
  exact ⟨h.1, q7R l _ _ h.2⟩
mutual
def Sh.okB (f g : Nat → Bool) : Sh → Bool
 | .sl _ _ t => g t
 | .sr (.l k) _ _ _ _ => f k
 | .vec (.l k) _ _ => f k
 | .agg _ l => Sh.z86 f g l
 | .as v => v.ok f g
 | .fnc _ l => q9P f g l
 | _ => true
def Sh.z86 (f g : Nat → Bool) : List Sh → Bool
 | [] => true
 | s :: l => s.okB f g && Sh.z86 f g l
end
mutual
theorem Sh.z2P {f g : Nat → Bool} : ∀ (s : Sh) (i : Nat) (ds : List C), s.okB f g = true → (s.fill i ds).ok f g = true
 | .sl _ _ t, _, _, h => by simpa only [Sh.fill, V.ok, Sh.okB] using h
 | .sr (.l k) _ _ _ _, _, _, h => by simpa only [Sh.fill, V.ok, Sh.okB] using h
 | .sr (.g k) _ _ _ _, _, _, h => by simp only [Sh.fill, V.ok]
 | .vec (.l k) _ _, _, _, h => by simpa only [Sh.fill, V.ok, Sh.okB] using h
 | .vec (.g k) _ _, _, _, h => by simp only [Sh.fill, V.ok]
 | .agg _ l, _, _, h => by simp only [Sh.fill, V.ok, Sh.okB] at h ⊢; exact Sh.z6l l _ _ h
 | .as v, _, _, h => by simpa only [Sh.fill, Sh.okB] using h
 | .fnc _ l, i, ds, h => by simp only [Sh.fill, V.ok, Sh.okB] at h ⊢; exact q7R l i ds h
 | .d _, _, _, _ | .ts _ _, _, _, _ | .cptr _, _, _, _ | .arr _, _, _, _ => by simp only [Sh.fill, V.ok]
theorem Sh.z6l {f g : Nat → Bool} : ∀ (l : List Sh) (i : Nat) (ds : List C), Sh.z86 f g l = true → V.oks f g (Sh.q2p l i ds) = true
 | [], _, _, _ => rfl
 | s :: l, i, ds, h => by
  simp only [Sh.z86, Bool.and_eq_true] at h
  simp only [Sh.q2p, V.oks, Bool.and_eq_true]
  exact ⟨Sh.z2P s _ _ h.1, Sh.z6l l _ _ h.2⟩
end
def OSh.okB (f g : Nat → Bool) : OSh → Bool
 | .box s => s.okB f g
 | .map _ _ => true
 | .dead _ | .it => true
def q6b : List (Key × OSh) → Key → Bool
 | [], _ => false
 | (j, _) :: l, k => if j = k then true else q6b l k
def z4x (l : List (Key × OSh)) (n : Nat) : Bool := q6b l (.l n)
def q7D : List (Nat × Sh) → Nat → Bool
 | [], _ => false
 | (_, .sl _ _ t) :: l, u => if t = u then true else q7D l u
 | _ :: l, u => q7D l u
def q9S (L : List (Key × OSh)) : List (Key × O) → Bool
 | [] => true
 | (.g k, _) :: l => q6b L (.g k) && q9S L l
 | (.l _, _) :: l => q9S L l
def q6P (f g : Nat → Bool) : List (Key × OSh) → Bool
 | [] => true
 | (_, o) :: l => o.okB f g && q6P f g l
def z1S (f g : Nat → Bool) : List (Nat × Sh) → Bool
 | [] => true
 | (_, s) :: l => s.okB f g && z1S f g l
def okS (sh : SSh) (loc : List (Key × O)) : Bool :=
 q6P (z4x sh.loc) (q7D sh.env) sh.loc && q9S sh.loc loc && z1S (z4x sh.loc) (q7D sh.env) sh.env
theorem q42 : ∀ (l : List (Key × OSh)) (i j : Nat) (ds : List C) (ms : List Es) (k : Key), (z7 (u7 l i j ds ms) k).isSome = q6b l k
 | [], _, _, _, _, _ => rfl
 | (n, .box s) :: l, i, j, ds, ms, k => by
  simp only [u7, z7, q6b]
  split
  ·rfl
  ·exact q42 l _ _ _ _ _
 | (n, .map _ _) :: l, i, j, ds, ms, k | (n, .dead _) :: l, i, j, ds, ms, k | (n, .it) :: l, i, j, ds, ms, k => by
  simp only [u7, z7, q6b]
  split
  ·rfl
  ·exact q42 l _ _ _ _ _
theorem y02 (l : List (Key × OSh)) (i j : Nat) (ds : List C) (ms : List Es) : c6 (u7 l i j ds ms) = z4x l := by
 funext n; exact q42 l i j ds ms (.l n)
theorem z3E : ∀ (l : List (Nat × Sh)) (i : Nat) (ds : List C), X7 (q1l l i ds) = q7D l
 | [], _, _ => rfl
 | (_, s) :: l, i, ds => by
  have ih := z3E l (i + s.many) ds
  funext u
  have ih := congrFun ih u
  unfold X7 at ih ⊢
  cases s <;> simp only [q1l, q7D, look] <;> (try exact ih)
  split
  ·rfl
  ·exact ih
theorem q59 {f g : Nat → Bool} : ∀ (l : List (Key × OSh)) (i j : Nat) (ds : List C) (ms : List Es), q6P f g l = true → q0u f g (u7 l i j ds ms) = true
 | [], _, _, _, _, _ => rfl
 | (n, .box s) :: l, i, j, ds, ms, h => by
  simp only [q6P, Bool.and_eq_true] at h
  simp only [u7, q0u, Bool.and_eq_true, O.okB, O.ok]
  exact ⟨Sh.z2P s _ _ h.1, q59 l _ _ _ _ h.2⟩
 | (n, .map _ vτ) :: l, i, j, ds, ms, h => by
  simp only [q6P, Bool.and_eq_true] at h
  simp only [u7, q0u, Bool.and_eq_true, O.okB, O.ok]
  exact ⟨z30 vτ _, q59 l _ _ _ _ h.2⟩
 | (n, .dead _) :: l, i, j, ds, ms, h | (n, .it) :: l, i, j, ds, ms, h => by
  simp only [q6P, Bool.and_eq_true] at h
  simp only [u7, q0u, Bool.and_eq_true, O.okB, O.ok]
  exact ⟨trivial, q59 l _ _ _ _ h.2⟩
theorem z3L {f g : Nat → Bool} : ∀ (l : List (Nat × Sh)) (i : Nat) (ds : List C), z1S f g l = true → q2C f g (J2 l i ds) = true
 | [], _, _, _ => rfl
 | (n, s) :: l, i, ds, h => by
  simp only [z1S, Bool.and_eq_true] at h
  simp only [J2, q2C, Bool.and_eq_true]
  exact ⟨Sh.z2P s _ _ h.1, z3L l _ _ h.2⟩
theorem z0U {L : List (Key × OSh)} {i j : Nat} {ds : List C} {ms : List Es} : ∀ {l : List (Key × O)}, q9S L l = true → q3y (u7 L i j ds ms) l = true
 | [], _ => rfl
 | (.g k, _) :: l, h => by
  simp only [q9S, Bool.and_eq_true] at h
  simp only [q3y, Bool.and_eq_true, q42]
  exact ⟨h.1, z0U h.2⟩
 | (.l _, _) :: l, h => by
  simp only [q9S] at h
  simp only [q3y]
  exact z0U h
def z9O {R : Type} (sh : SSh) (s : S) (K : List C → List Es → Option R) : Option R :=
 z1U s sh.env fun d1 => q2z s sh.loc fun d2 ms => if okS sh s.loc = true then K (d1 ++ d2) ms else none
theorem q6v : ∀ (l : List (Nat × Sh)) (i i' : Nat) (ds ds' : List C), (∀ j, j < q1D l → dk ds (i + j) = dk ds' (i' + j)) → J2 l i ds = J2 l i' ds'
 | [], _, _, _, _, _ => rfl
 | (n, s) :: l, i, i', ds, ds', h => by
  simp only [q1D] at h
  simp only [J2]
  rw [Sh.q3O s i i' ds ds' (fun j hj => h j (by omega)), q6v l (i + s.many) (i' + s.many) ds ds' (fun j hj => by
   have := h (s.many + j) (by omega)
   rwa [← Nat.add_assoc, ← Nat.add_assoc] at this)]
theorem q87 : ∀ (l : List (Nat × Sh)) (i i' : Nat) (ds ds' : List C), (∀ j, j < q1D l → dk ds (i + j) = dk ds' (i' + j)) → q1l l i ds = q1l l i' ds'
 | [], _, _, _, _, _ => rfl
 | (n, s) :: l, i, i', ds, ds', h => by
  simp only [q1D] at h
  simp only [q1l]
  have e := q87 l (i + s.many) (i' + s.many) ds ds' (fun j hj => by
   have := h (s.many + j) (by omega)
   rwa [← Nat.add_assoc, ← Nat.add_assoc] at this)
  cases s <;> simp only at e ⊢ <;> (try exact e)
  have h0 := h 0 (by simp only [Sh.many]; omega)
  simp only [Nat.add_zero] at h0
  rw [e, h0]
theorem q0g : ∀ (l : List (Key × OSh)) (i i' m : Nat) (ds ds' : List C) (ms : List Es), (∀ j, j < U8 l → dk ds (i + j) = dk ds' (i' + j)) → u7 l i m ds ms = u7 l i' m ds' ms
 | [], _, _, _, _, _, _, _ => rfl
 | (n, .box s) :: l, i, i', m, ds, ds', ms, h => by
  simp only [U8] at h
  simp only [u7]
  rw [Sh.q3O s i i' ds ds' (fun j hj => h j (by omega)), q0g l (i + s.many) (i' + s.many) m ds ds' ms (fun j hj => by
   have := h (s.many + j) (by omega)
   rwa [← Nat.add_assoc, ← Nat.add_assoc] at this)]
 | (n, .map _ _) :: l, i, i', m, ds, ds', ms, h => by
  simp only [U8] at h
  simp only [u7]
  rw [q0g l i i' (m + 1) ds ds' ms h]
 | (n, .dead e) :: l, i, i', m, ds, ds', ms, h => by
  simp only [U8] at h
  simp only [u7]
  have h0 := h 0 (by omega)
  simp only [Nat.add_zero] at h0
  rw [h0, q0g l (i + 1) (i' + 1) m ds ds' ms (fun j hj => by
   have := h (1 + j) (by omega)
   rwa [← Nat.add_assoc, ← Nat.add_assoc] at this)]
 | (n, .it) :: l, i, i', m, ds, ds', ms, h => by
  simp only [U8] at h
  simp only [u7]
  have h0 := h 0 (by omega)
  have h1 := h 1 (by omega)
  simp only [Nat.add_zero] at h0
  rw [h0, h1, q0g l (i + 2) (i' + 2) m ds ds' ms (fun j hj => by
   have := h (2 + j) (by omega)
   rwa [← Nat.add_assoc, ← Nat.add_assoc] at this)]
theorem q3j : ∀ (l : List (Key × OSh)) (i m : Nat) (ds : List C) (e : Es) (ms : List Es), u7 l i (m + 1) ds (e :: ms) = u7 l i m ds ms
 | [], _, _, _, _, _ => rfl
 | (n, .box s) :: l, i, m, ds, e, ms => by simp only [u7]; rw [q3j l]
 | (n, .map _ _) :: l, i, m, ds, e, ms => by simp only [u7]; rw [q3j l]; rfl
 | (n, .dead _) :: l, i, m, ds, e, ms | (n, .it) :: l, i, m, ds, e, ms => by simp only [u7]; rw [q3j l]
theorem z3M {R : Type} {r : R} {s : S} : ∀ (l : List (Nat × Sh)) {K : List C → Option R}, z1U s l K = some r →
  ∃ ds, K ds = some r ∧ ds.length = q1D l ∧ (∀ f g, q2C f g (J2 l 0 ds) = true → q4O f g s (J2 l 0 ds)) ∧ tkW s (q1l l 0 ds)
 | [], K, h => ⟨[], h, rfl, fun _ _ _ => trivial, trivial⟩
 | (n, sh) :: l, K, h => by
  simp only [z1U] at h
  obtain ⟨d1, h1, h2, h3, h4⟩ := Sh.z6T sh _ h
  simp only [Option.ite_none_right_eq_some] at h1
  obtain ⟨h5, h1⟩ := h1
  cases htk : y1I s sh d1 with
  | false => rw [htk] at h1; cases h1
  | true =>
   rw [htk, cond_true] at h1
   obtain ⟨d2, h6, h7, h8, h9⟩ := z3M l h1
   have e1 : sh.fill 0 (d1 ++ d2) = sh.fill 0 d1 := Sh.q3O sh 0 0 _ _ fun j hj => q1G (by omega)
   have sft : ∀ j, dk (d1 ++ d2) (sh.many + j) = dk d2 (0 + j) := fun j => by
    rw [q3p (by omega), h2]
    congr 1; omega
   have e2 : J2 l sh.many (d1 ++ d2) = J2 l 0 d2 := q6v l _ 0 _ _ fun j hj => sft j
   have e3 : q1l l sh.many (d1 ++ d2) = q1l l 0 d2 := q87 l _ 0 _ _ fun j hj => sft j
   refine ⟨_, h6, by simp [q1D, h2, h7], fun f g hok => ?_, ?_⟩
   ·simp only [J2, Nat.zero_add, e1, e2, q2C, Bool.and_eq_true] at hok ⊢
    exact ⟨h3, hok.1, .inr h5, h8 f g hok.2⟩
   ·simp only [q1l, Nat.zero_add]
    cases sh <;> simp only [e3] <;> (try exact h9)
    simp only [y1I] at htk
    simp only [Sh.many] at h2
    rw [q1G (by omega)]
    refine ⟨?_, h9⟩
    split at htk
    ·rename_i L hL
     have := Nat.eq_of_beq_eq_true htk
     show s.live _ = some _
     rw [← this]; exact hL
    ·cases htk
theorem y0f {s : S} {A' : Key → Option O} : ∀ {l : List (Nat × Option Nat)}, tkW s l → tkW (s.wA A') l
 | [], _ => trivial
 | (_, _) :: _, h => ⟨h.1, y0f h.2⟩
theorem z8m {f g : Nat → Bool} {s : S} {A' : Key → Option O} : ∀ {l : List (Nat × V)}, q4O f g s l → q4O f g (s.wA A') l
 | [], _ => trivial
 | (_, _) :: _, h => ⟨h.1, h.2.1, h.2.2.1, z8m h.2.2.2⟩
theorem y4p {R : Type} {r : R} {sh : SSh} {s : S} {K : List C → List Es → Option R} (h : z9O sh s K = some r) :
  ∃ ds ms, K ds ms = some r ∧ ∀ (X : Cx) (n : Nat) (A' : Key → Option O), leA s.A A' → q0d X n (s.wA A') ((q46 sh s.A ds ms).wA A') := by
 unfold z9O at h
 obtain ⟨d1, h1, h2, h3, h4⟩ := z3M _ h
 have det : ∃ d2 ms, K (d1 ++ d2) ms = some r ∧ okS sh s.loc = true ∧ d2.length = U8 sh.loc ∧ ∀ A', leA s.A A' → q2s (s.wA A') (u7 sh.loc 0 0 d2 ms) := by
  -- what is read does not lean on A'
  have gen : ∀ (l : List (Key × OSh)) {K : List C → List Es → Option R}, q2z s l K = some r → ∃ ds ms, K ds ms = some r ∧ ds.length = U8 l ∧ ∀ A', leA s.A A' → q2s (s.wA A') (u7 l 0 0 ds ms) := by
   intro l
   induction l with
   | nil => intro K h; exact ⟨[], [], h, rfl, fun _ _ => trivial⟩
   | cons p l ih =>
    obtain ⟨k, o⟩ := p
    intro K h
    cases o with
    | box sh =>
     simp only [q2z] at h
     split at h
     ·rename_i x hx
      simp only [Option.ite_none_right_eq_some] at h
      obtain ⟨h0, h⟩ := h
      obtain ⟨d1, h1, h2, h3, h4⟩ := Sh.z6T sh _ h
      simp only [Option.ite_none_right_eq_some] at h1
      obtain ⟨h5, h1⟩ := h1
      obtain ⟨d2, ms, h6, h7, h8⟩ := ih h1
      have e1 : sh.fill 0 (d1 ++ d2) = sh.fill 0 d1 := Sh.q3O sh 0 0 _ _ fun j hj => q1G (by omega)
      have e2 : u7 l sh.many 0 (d1 ++ d2) ms = u7 l 0 0 d2 ms := q0g l _ 0 0 _ _ _ fun j hj => by
       rw [q3p (by omega), h2]
       congr 1; omega
      refine ⟨_, _, h6, by simp [U8, h2, h7], fun A' hA => ?_⟩
      simp only [u7, Nat.zero_add, e1, e2, q2s]
      rw [Z8 hA hx]
      exact ⟨⟨h3, h4 (by intro e; subst e; simp [y0T] at h0), h5.1, h5.2⟩, h8 A' hA⟩
     ·cases h
    | map kτ vτ =>
     simp only [q2z] at h
     split at h
     ·rename_i kτ' vτ' es hx
      simp only [Option.ite_none_right_eq_some] at h
      obtain ⟨⟨rfl, rfl⟩, hd, h⟩ := h
      obtain ⟨d2, ms, h6, h7, h8⟩ := ih h
      refine ⟨_, _, h6, by simp [U8, h7], fun A' hA => ?_⟩
      simp only [u7, q2s, q3j]
      rw [Z8 hA hx]
      exact ⟨⟨rfl, rfl, (z6P hd).symm⟩, h8 A' hA⟩
     ·cases h
    | dead e =>
     simp only [q2z] at h
     split at h
     ·rename_i o hx
      split at h
      ·rename_i M e' ht
       simp only [Option.ite_none_right_eq_some] at h
       obtain ⟨rfl, h⟩ := h
       obtain ⟨d2, ms, h6, h7, h8⟩ := ih h
       have e2 : u7 l 1 0 (.int M :: d2) ms = u7 l 0 0 d2 ms := q0g l _ 0 0 _ _ _ fun j hj => by
        unfold dk; simp [Nat.add_comm 1 j]
       refine ⟨_, _, h6, by simp [U8, h7, Nat.add_comm], fun A' hA => ?_⟩
       simp only [u7, Nat.zero_add, e2, q2s]
       rw [Z8 hA hx]
       refine ⟨?_, h8 A' hA⟩
       have : (dk (C.int M :: d2) 0).toInt.toNat = M := by simp [dk, C.toInt]
       rw [this]
       cases o <;> exact ht.symm
      ·cases h
     ·cases h
    | it =>
     simp only [q2z] at h
     split at h
     ·rename_i x p hx
      obtain ⟨d2, ms, h6, h7, h8⟩ := ih h
      have e2 : u7 l 2 0 (.str x :: .int p :: d2) ms = u7 l 0 0 d2 ms := q0g l _ 0 0 _ _ _ fun j hj => by
       unfold dk; simp [Nat.add_comm 2 j]
      refine ⟨_, _, h6, by simp [U8, h7]; omega, fun A' hA => ?_⟩
      simp only [u7, Nat.zero_add, e2, q2s]
      rw [Z8 hA hx]
      refine ⟨?_, h8 A' hA⟩
      have e3 : (dk (C.str x :: C.int p :: d2) 0).toStr = x := by simp [dk, C.toStr]
      have e4 : (dk (C.str x :: C.int p :: d2) 1).toInt.toNat = p := by simp [dk, C.toInt]
      rw [e3, e4]
      exact ⟨rfl, rfl⟩
     ·cases h
  obtain ⟨d2, ms, h5, h6, h7⟩ := gen _ h1
  simp only [Option.ite_none_right_eq_some] at h5
  exact ⟨d2, ms, h5.2, h5.1, h6, h7⟩
 obtain ⟨d2, ms, h5, h6, h7, h8⟩ := det
 refine ⟨d1 ++ d2, ms, h5, fun X n A' hA => ?_⟩
 have e1 : J2 sh.env 0 (d1 ++ d2) = J2 sh.env 0 d1 := q6v _ 0 0 _ _ fun j hj => q1G (by omega)
 have e2 : q1l sh.env 0 (d1 ++ d2) = q1l sh.env 0 d1 := q87 _ 0 0 _ _ fun j hj => q1G (by omega)
 have e3 : u7 sh.loc (q1D sh.env) 0 (d1 ++ d2) ms = u7 sh.loc 0 0 d2 ms := q0g _ _ 0 0 _ _ _ fun j hj => by
  rw [q3p (by omega), h2]
  congr 1; omega
 simp only [okS, Bool.and_eq_true] at h6
 have hL : c6 (q46 sh s.A (d1 ++ d2) ms).loc = z4x sh.loc := y02 ..
 have hT : X7 (q46 sh s.A (d1 ++ d2) ms).tk = q7D sh.env := z3E ..
 refine z7K rfl ?_ ?_ (q3X (z0U h6.1.2)) ?_ ?_
 ·show q2s (s.wA A') (u7 sh.loc (q1D sh.env) 0 (d1 ++ d2) ms)
  rw [e3]; exact h8 A' hA
 ·show q0u (c6 (q46 sh s.A (d1 ++ d2) ms).loc) (X7 (q46 sh s.A (d1 ++ d2) ms).tk) _ = true
  rw [hL, hT]
  exact q59 _ _ _ _ _ h6.1.1
 ·show tkW (s.wA A') (q1l sh.env 0 (d1 ++ d2))
  rw [e2]; exact y0f h4
 ·show q4O (c6 (q46 sh s.A (d1 ++ d2) ms).loc) (X7 (q46 sh s.A (d1 ++ d2) ms).tk) (s.wA A') (J2 sh.env 0 (d1 ++ d2))
  refine z8m ?_
  rw [hL, hT, e1]
  exact h3 _ _ (z3L _ _ _ h6.2)
theorem z8.z8Q {Γ : G} {w : World} {s : S} (c : z8 Γ w s) {k : Key} {x x' : V} (h : s.obj k = some (.box x)) (h1 : Own Γ w k (.box x) → Own Γ w k (.box x')) (h2 : (O.box x).q6k → (O.box x').q6k) : z8 Γ w (s.put k (.box x')) := by
 refine ⟨c.hH, c.hZ, c.hκ, fun j o hj => ?_, fun j hj => ?_, c.q4K (fun j hj => ?_), c.tok, c.tdom, c.hgl, c.hoo, c.hσ⟩
 ·rw [Q4] at hj
  split at hj
  ·rename_i e
   subst e; cases hj
   exact (c.obj _ _ h).imp (fun h => ⟨h.1, h2 h.2⟩) h1
  ·exact c.obj j o hj
 ·rw [Q4]
  split
  ·simp
  ·exact c.dom j hj
 ·unfold S.r6 at hj ⊢
  rw [Q4]
  split
  ·rename_i e; subst e; rw [h] at hj; cases hj
  ·exact hj
def mvK (K : Key) (t : Nat) (k : Key) : Key := if k = K then .l t else k
def AtE (X : Cx) (n : Nat) (Γ0 : G) (K : Key) (t : Nat) (s : S) (a : Act) (w : World) : Prop :=
 ∃ Γ, GLe Γ0 Γ ∧ Γ.gl = X.gl ∧ z8 Γ w s ∧ q1q Γ s a.tmps ∧ a.tmps.size = n ∧ a.defers = [] ∧ AOk s.A ∧ ∀ x, Γ.ι K = some x → Γ.ι (.l t) = some x
theorem z5J {Γ : G} {K : Key} {t : Nat} (h : ∀ x, Γ.ι K = some x → Γ.ι (.l t) = some x) {hm : Option Key} (hn : hm ≠ some K) : q1Q Γ Γ (mvK K t) hm :=
 ⟨Hp.le_refl _, fun k x hk => by
  unfold mvK
  split
  ·rename_i e; subst e; exact h x hk
  ·exact hk, fun _ _ h => h, fun k b p sz e hk => by
  have : mvK K t k = k := by
   unfold mvK
   split
   ·rename_i e2; subst e2; exact absurd e hn
   ·rfl
  rw [this]; exact ⟨hk, rfl⟩⟩
theorem q9.mv {Γ : G} {K : Key} {t : Nat} (h : ∀ x, Γ.ι K = some x → Γ.ι (.l t) = some x) {x : V} {v : Value} (hr : q9 Γ x v) : q9 Γ (x.ren (mvK K t) id) v :=
 q9.ren (z5J h (by simp)) (fun _ _ h => h) hr
def q1r (K : Key) (t : Nat) : List Key → S → S
 | [], s => s
 | k :: ks, s => if k = K ∨ k = .l t then q1r K t ks s else (match s.obj k with
  | some (.box x) => q1r K t ks (s.put k (.box (x.ren (mvK K t) id)))
  | _ => q1r K t ks s)
theorem q7m (K : Key) (t : Nat) : ∀ (ks : List Key) (s : S), (q1r K t ks s).A = s.A
 | [], _ => rfl
 | k :: ks, s => by
  simp only [q1r]
  split
  ·exact q7m K t ks s
  ·split
   ·exact q7m K t ks _
   ·exact q7m K t ks s
def WkE (K : Key) (t : Nat) (s s' : S) : Prop := s'.A = s.A ∧ ∀ (X : Cx) (n : Nat) (A' : Key → Option O), leA s.A A' → ∀ (Γ0 : G) (a : Act) (w : World), AtE X n Γ0 K t (s.wA A') a w → AtE X n Γ0 K t (s'.wA A') a w
theorem WkE.refl {K : Key} {t : Nat} (s : S) : WkE K t s s := ⟨rfl, fun _ _ _ _ _ _ _ h => h⟩
theorem WkE.trans {K : Key} {t : Nat} {a b c : S} (h : WkE K t a b) (h' : WkE K t b c) : WkE K t a c :=
 ⟨h'.1.trans h.1, fun X n A' hA Γ0 ac w hat => h'.2 X n A' (by rw [h.1]; exact hA) Γ0 ac w (h.2 X n A' hA Γ0 ac w hat)⟩
theorem y2Y {X : Cx} {n : Nat} {Γ0 : G} {K : Key} {t : Nat} {a : Act} {w : World} {s : S} {k : Key} {x : V} (hk : ¬ (k = K ∨ k = .l t)) (hx : s.obj k = some (.box x)) (h : AtE X n Γ0 K t s a w) : AtE X n Γ0 K t (s.put k (.box (x.ren (mvK K t) id))) a w := by
 obtain ⟨Γ, g1, g3, c, hs, hn, hf, hA, hι⟩ := h
 have hkK : (some k : Option Key) ≠ some K := fun e => hk (.inl (by cases e; rfl))
 refine ⟨Γ, g1, g3, c.z8Q hx (fun hown => ?_) (fun hv => ?_), hs, hn, hf, hA, hι⟩
 ·obtain ⟨b, cells, T, h1, h2, h3, h4, h5, h6, h7, h8⟩ := hown
  have hmv : mvK K t k = k := by unfold mvK; rw [if_neg (fun e => hk (.inl e))]
  have := q8.c5 (θ := id) (z5J hι hkK) h8 h6
  simp only [Option.map_some, hmv] at this
  exact ⟨b, cells, T, by rw [V.q1U]; exact h1, h2, h3, h4, by rw [V.q1U]; exact h5, by rw [V.q1U]; exact this, by rw [V.q8B]; exact h7, by rw [V.q7o]; exact h8⟩
 ·obtain ⟨e, rfl⟩ := hv
  exact ⟨e, by simp [V.ren]⟩
theorem q5Y (K : Key) (t : Nat) : ∀ (ks : List Key) (s : S), WkE K t s (q1r K t ks s)
 | [], s => WkE.refl s
 | k :: ks, s => by
  simp only [q1r]
  split
  ·exact q5Y K t ks s
  ·rename_i hk
   split
   ·rename_i x hx
    exact WkE.trans (b := s.put k (.box (x.ren (mvK K t) id))) ⟨rfl, fun X n A' hA Γ0 a w h => y2Y (s := s.wA A') hk (Z8 hA hx) h⟩ (q5Y K t ks _)
   ·exact q5Y K t ks s
def q9l (K : Key) (t : Nat) (ks : List Key) (s : S) : S :=
 match s.obj K with
 | some (.box (.d (.arr M e) cc)) => if (s.obj (.l t)).isNone = true then
   { q1r K t ks ((s.put K (.dead (.arr M e))).put (.l t) (.box (.d (.arr M e) cc))) with env := s.env.map fun p => (p.1, p.2.ren (mvK K t) id) } else s
 | _ => s
theorem y23 {X : Cx} {n : Nat} {Γ0 : G} {K : Key} {t : Nat} {a : Act} {w : World} {s : S} {M : Nat} {e : Ty} {cc : C} (hK : s.obj K = some (.box (.d (.arr M e) cc))) (ht : s.obj (.l t) = none) (h : At X n Γ0 s a w) :
  AtE X n Γ0 K t ((s.put K (.dead (.arr M e))).put (.l t) (.box (.d (.arr M e) cc))) a w := by
 obtain ⟨Γ, g1, g3, c, hs, hn, hf, hA⟩ := h
 have hobj : ∀ j, S.obj ((s.put K (.dead (.arr M e))).put (.l t) (.box (.d (.arr M e) cc))) j = S.obj { s with loc := (Key.l t, O.box (.d (.arr M e) cc)) :: (K, O.dead (.arr M e)) :: s.loc } j := fun j => by
  rw [Q4, Q4, show S.obj { s with loc := (Key.l t, O.box (.d (.arr M e) cc)) :: (K, O.dead (.arr M e)) :: s.loc } j = S.obj { ({ s with loc := (K, O.dead (.arr M e)) :: s.loc } : S) with loc := (Key.l t, O.box (.d (.arr M e) cc)) :: ({ s with loc := (K, O.dead (.arr M e)) :: s.loc } : S).loc } j from rfl, u6, u6]
 rcases c.obj K _ hK with ⟨h1, h2⟩ | hown
 ·-- without a block
  refine ⟨Γ, g1, g3, ⟨c.hH, c.hZ, c.hκ, fun j o hj => ?_, fun j hj => ?_, c.q4K (fun j hj => ?_), c.tok, c.tdom, c.hgl, c.hoo, c.hσ⟩, hs, hn, hf, hA, fun x hx => by rw [h1] at hx; cases hx⟩
  ·rw [Q4] at hj
   split at hj
   ·rename_i e1; subst e1; cases hj
    exact .inl ⟨c.q6A ht, h2⟩
   ·rw [Q4] at hj
    split at hj
    ·rename_i e1; subst e1; cases hj; exact .inl ⟨h1, trivial⟩
    ·exact c.obj j o hj
  ·rw [Q4]
   split
   ·simp
   ·rw [Q4]
    split
    ·simp
    ·exact c.dom j hj
  ·unfold S.r6 at hj ⊢
   rw [Q4]
   split
   ·rename_i e1; subst e1; rw [ht] at hj; cases hj
   ·rw [Q4]
    split
    ·rfl
    ·exact hj
 ·obtain ⟨b, cells, T, e1, e2, e3, e4, e5, e6, e7, e8⟩ := hown
  have hx0 : q8 Γ none [] (.d (.arr M e) cc) (chunk cells.toList 0 (V.d (.arr M e) cc).ty.size) := by
   simp only [q8] at e6 ⊢; exact e6
  obtain ⟨k1, k2, k3⟩ := c.y0u (w' := w) (j := .l t) (x' := .d (.arr M e) cc) hK rfl e1 ht e4 (fun _ _ => rfl) rfl rfl e5 hx0 e7 e8 (fun arr T' fr h => by rw [e4] at h; cases h; rfl)
  have hkt : K ≠ .l t := fun e => by rw [e, ht] at hK; cases hK
  refine ⟨_, g1.trans k3, by rw [k3.gl]; exact g3, k1.congr hobj (fun _ => rfl) (fun _ h => h), hs.p8 k2, hn, hf, hA, fun x hx => ?_⟩
  have : Γ.ι K = some x := by simpa [G.addKey, F6, hkt] using hx
  rw [e1] at this; cases this
  simp [G.addKey, F6, V.ty]
theorem y1u (K : Key) (t : Nat) (ks : List Key) (s : S) : (q9l K t ks s).A = s.A ∧ ∀ (X : Cx) (n : Nat) (A' : Key → Option O), leA s.A A' → q0d X n (s.wA A') ((q9l K t ks s).wA A') := by
 unfold q9l
 split
 ·rename_i M e cc hK
  split
  ·rename_i ht
   have ht' : s.obj (.l t) = none := by simpa using ht
   refine ⟨q7m K t ks _, fun X n A' hA Γ0 a w hat => ?_⟩
   have h1 := y23 (s := s.wA A') (Z8 hA hK) (by rw [q1Z]; exact ht') hat
   obtain ⟨_, h2⟩ := q5Y K t ks ((s.put K (.dead (.arr M e))).put (.l t) (.box (.d (.arr M e) cc)))
   obtain ⟨Γ, g1, g3, c, hs, hn, hf, hAok, hι⟩ := h2 X n A' hA Γ0 a w h1
   refine ⟨Γ, g1, g3, c.congr (fun _ => rfl) (fun _ => rfl) (fun _ h => h), fun i => ?_, hn, hf, hAok⟩
   have henv : ((q1r K t ks ((s.put K (.dead (.arr M e))).put (.l t) (.box (.d (.arr M e) cc)))).wA A').env = s.env := by
    have : ∀ (ks : List Key) (s : S), (q1r K t ks s).env = s.env := by
     intro ks
     induction ks with
     | nil => intro s; rfl
     | cons k ks ih =>
      intro s
      simp only [q1r]
      split
      ·exact ih s
      ·split
       ·exact ih _
       ·exact ih s
    exact this ks _
   have hi := hs i
   have e1 : S.get ((q1r K t ks ((s.put K (.dead (.arr M e))).put (.l t) (.box (.d (.arr M e) cc)))).wA A') i = (look s.env i).getD .any := by
    unfold S.get; rw [henv]
   rw [e1] at hi
   show q9 Γ ((look (s.env.map fun p => (p.1, p.2.ren (mvK K t) id)) i).getD .any) _
   rw [q5z]
   cases hl : look s.env i with
   | none => trivial
   | some x =>
    rw [hl] at hi
    exact q9.mv hι hi
  ·exact ⟨rfl, fun _ _ _ _ => q0d.refl _⟩
 ·exact ⟨rfl, fun _ _ _ _ => q0d.refl _⟩
def T0 : Nat := 1000000000000000
mutual
def V.U6 : Sh → V → V
 | .vec (.l a) eb e, x => (match x with
  | .emp eb' e' => if eb' = eb ∧ e' = e then .sr (.l (a + T0)) [] 0 0 none eb e else x
  | x => x)
 | .agg _ l, x => (match x with
  | .agg τ xs => .agg τ (V.q0J l xs)
  | x => x)
 | _, x => x
def V.q0J : List Sh → List V → List V
 | s :: l, x :: xs => V.U6 s x :: V.q0J l xs
 | _, xs => xs
end
theorem V.q8j : ∀ (l : List Sh) (xs : List V), (V.q0J l xs).length = xs.length
 | [], xs => by simp [V.q0J]
 | s :: l, [] => by simp [V.q0J]
 | s :: l, x :: xs => by simp [V.q0J, V.q8j l xs]
theorem V.q6C (s : Sh) (x : V) : (V.U6 s x).ty = x.ty := by
 unfold V.U6
 split
 ·split
  ·split
   ·rename_i h; obtain ⟨rfl, rfl⟩ := h; rfl
   ·rfl
  ·rfl
 ·split <;> rfl
 ·rfl
theorem V.z02 (s : Sh) (x : V) : (V.U6 s x).plain = x.plain := by
 unfold V.U6
 split
 ·split
  ·split
   ·rfl
   ·rfl
  ·rfl
 ·split <;> rfl
 ·rfl
mutual
theorem V.z3g : ∀ (s : Sh) (x : V), (V.U6 s x).u0 = x.u0
 | .vec (.l a) eb e, x => by
  simp only [V.U6]
  split
  ·split <;> simp [V.u0]
  ·rfl
 | .agg _ l, x => by
  simp only [V.U6]
  split
  ·simp only [V.u0]; exact V.z01 l _
  ·rfl
 | .vec (.g _) _ _, _ | .d _, _ | .sl _ _ _, _ | .ts _ _, _ | .sr _ _ _ _ _, _ | .cptr _, _ | .arr _, _ | .as _, _ | .fnc _ _, _ => by simp [V.U6]
theorem V.z01 : ∀ (l : List Sh) (xs : List V), V.Q5 (V.q0J l xs) = V.Q5 xs
 | [], xs => by simp [V.q0J]
 | s :: l, [] => by simp [V.q0J]
 | s :: l, x :: xs => by simp only [V.q0J, V.Q5, V.z3g s x, V.z01 l xs]
end
mutual
theorem q8.U6 {Γ : G} {hm : Option Key} : ∀ (s : Sh) (x : V) {p : List Nat} {vs : List Value}, q8 Γ hm p x vs → q8 Γ hm p (V.U6 s x) vs
 | .vec (.l a) eb e, x, p, vs, h => by
  simp only [V.U6]
  split
  ·split
   ·simp only [q8] at h ⊢
    obtain ⟨a, h⟩ := h
    exact .inl ⟨trivial, trivial, a, h⟩
   ·exact h
  ·exact h
 | .agg _ l, x, p, vs, h => by
  simp only [V.U6]
  split
  ·simp only [q8] at h ⊢
   exact ⟨h.1, h.2.1, by rw [V.q8j]; exact h.2.2.1, h.2.2.2.1, y5.q0J l _ h.2.2.2.2⟩
  ·exact h
 | .vec (.g _) _ _, _, _, _, h | .d _, _, _, _, h | .sl _ _ _, _, _, _, h | .ts _ _, _, _, _, h | .sr _ _ _ _ _, _, _, _, h | .cptr _, _, _, _, h | .arr _, _, _, _, h | .as _, _, _, _, h | .fnc _ _, _, _, _, h => by simpa only [V.U6] using h
theorem y5.q0J {Γ : G} {hm : Option Key} : ∀ (l : List Sh) (xs : List V) {p : List Nat} {i : Nat} {τ : Ty} {vs : List Value}, y5 Γ hm p i τ xs vs → y5 Γ hm p i τ (V.q0J l xs) vs
 | [], xs, _, _, _, _, h => by simpa only [V.q0J] using h
 | s :: l, [], _, _, _, _, h => by simpa only [V.q0J] using h
 | s :: l, x :: xs, _, _, _, _, h => by
  simp only [y5, V.q0J, V.q6C] at h ⊢
  obtain ⟨⟨o, f, h1, h2, h3, h4⟩, h5⟩ := h
  exact ⟨⟨o, f, h1, h2, h3, q8.U6 s x h4⟩, y5.q0J l xs h5⟩
end
mutual
def V.y1G : Sh → V → List (Nat × Ty)
 | .vec (.l a) eb e, x => (match x with
  | .emp eb' e' => if eb' = eb ∧ e' = e then [(a + T0, e)] else []
  | .nilc => [(a + T0, e)]
  | _ => [])
 | .agg _ l, x => (match x with
  | .agg _ xs => V.y29 l xs
  | _ => [])
 | _, _ => []
def V.y29 : List Sh → List V → List (Nat × Ty)
 | s :: l, x :: xs => V.y1G s x ++ V.y29 l xs
 | _, _ => []
end
def q9q : List (Nat × Ty) → S → S
 | [], s => s
 | (t, e) :: l, s => if (s.obj (.l t)).isNone = true then q9q l (s.put (.l t) (.box (.d (.arr 0 e) (.agg [])))) else q9q l s
def V.q8k (s : Sh) (x : V) : V :=
 match s, x with
 | .vec (.l a) eb e, .nilc => .sr (.l (a + T0)) [] 0 0 none eb e
 | s, x => V.U6 s x
def q8m : List (Nat × Sh) → S → S
 | [], s => s
 | (i, sh) :: l, s => (match V.y1G sh (s.get i) with
  | [] => q8m l s
  | ns => q8m l (q9q ns (s.set (some i) (V.q8k sh (s.get i)))))
def q5k : List (Key × OSh) → S → S
 | [], s => s
 | (k, .box sh) :: l, s => (match s.obj k with
  | some (.box x) => (match V.y1G sh x with
   | [] => q5k l s
   | ns => q5k l (q9q ns (s.put k (.box (V.U6 sh x)))))
  | _ => q5k l s)
 | _ :: l, s => q5k l s
end Go.E
namespace Go.E
open Go
set_option linter.unusedSectionVars false
mutual
def V.q0v (s : S) : V → V
 | .agg τ vs => .agg τ (V.q06 s vs)
 | x => Z9 s x
def V.q06 (s : S) : List V → List V
 | [] => []
 | x :: xs => V.q0v s x :: V.q06 s xs
end
mutual
def V.q8U : V → List Nat
 | .agg _ vs => V.q9z vs
 | x => q0Z x
def V.q9z : List V → List Nat
 | [] => []
 | x :: xs => V.q8U x ++ V.q9z xs
end
mutual
def V.frz (s : S) : Sh → V → V
 | .d _, x => x.q0v s
 | .agg _ l, x => (match x with
  | .agg τ xs => .agg τ (V.q1J s l xs)
  | x => x)
 | _, x => x
def V.q1J (s : S) : List Sh → List V → List V
 | sh :: l, x :: xs => V.frz s sh x :: V.q1J s l xs
 | _, xs => xs
end
mutual
def V.q6t : Sh → V → List Nat
 | .d _, x => x.q8U
 | .agg _ l, x => (match x with
  | .agg _ xs => V.z4z l xs
  | _ => [])
 | _, _ => []
def V.z4z : List Sh → List V → List Nat
 | sh :: l, x :: xs => V.q6t sh x ++ V.z4z l xs
 | _, _ => []
end
theorem q8.z1l {Γ Γ' : G} (p : s7 Γ Γ') {q : List Nat} {x : V} {vs : List Value} (h : q8 Γ none q x vs) : q8 Γ' none q x vs := q8.p8 p (hm := none) trivial x h
theorem z5U (s : S) (x : V) : (Z9 s x).ty = x.ty ∧ (Z9 s x).plain = x.plain := by
 unfold Z9
 split
 ·split
  ·split
   ·split
    ·split
     ·exact ⟨rfl, rfl⟩
     ·exact ⟨rfl, rfl⟩
    ·exact ⟨rfl, rfl⟩
   ·exact ⟨rfl, rfl⟩
  ·exact ⟨rfl, rfl⟩
 ·exact ⟨rfl, rfl⟩
theorem V.z5W (s : S) (x : V) : (x.q0v s).ty = x.ty ∧ (x.q0v s).plain = x.plain := by
 cases x <;> simp only [V.q0v] <;> first | exact z5U s _ | exact ⟨rfl, rfl⟩
theorem V.q75 (s : S) : ∀ xs : List V, (V.q06 s xs).length = xs.length
 | [] => rfl
 | x :: xs => by simp [V.q06, V.q75 s xs]
theorem V.z6d (s : S) (sh : Sh) (x : V) : (V.frz s sh x).ty = x.ty ∧ (V.frz s sh x).plain = x.plain := by
 unfold V.frz
 split
 ·exact V.z5W s x
 ·split <;> exact ⟨rfl, rfl⟩
 ·exact ⟨rfl, rfl⟩
theorem V.z0g (s : S) : ∀ (l : List Sh) (xs : List V), (V.q1J s l xs).length = xs.length
 | [], xs => by simp [V.q1J]
 | _ :: _, [] => by simp [V.q1J]
 | sh :: l, x :: xs => by simp [V.q1J, V.z0g s l xs]
section
variable {Γ Γ' : G} {s : S} {js : List Nat} (p : s7 Γ Γ') (hc : ∀ (x : V) (v : Value), q9 Γ x v → (∀ j ∈ q0Z x, j ∈ js) → q9 Γ' (Z9 s x) v)
include p hc
theorem q8.Z9 {x : V} {q : List Nat} {vs : List Value} (hx : x.plain = true) (ha : x.ty.isAgg = false) (h : q8 Γ none q x vs) (hk : ∀ j ∈ q0Z x, j ∈ js) : q8 Γ' none q (Z9 s x) vs := by
 by_cases hn : q0Z x = []
 ·rw [z1A (fun j hj => by rw [hn] at hj; cases hj)]
  exact h.z1l p
 ·cases x <;> (try (exact absurd rfl hn))
  rename_i k q0 lo n cp eb e
  cases k with
  | g k => exact absurd rfl hn
  | l j =>
   have hv : ∃ v, vs = [v] ∧ q9 Γ (.sr (.l j) q0 lo n cp eb e) v := by
    have h' := h
    simp only [q8] at h
    rcases h with ⟨_, _, a, rfl⟩ | ⟨b, τ0, o, m, cap, _, _, _, ⟨a, rfl, _⟩, _⟩
    ·exact ⟨_, rfl, (x9 rfl rfl).2 ⟨by simpa only [q8] using h', rfl⟩⟩
    ·exact ⟨_, rfl, (x9 rfl rfl).2 ⟨by simpa only [q8] using h', rfl⟩⟩
   obtain ⟨v, rfl, hv⟩ := hv
   have h2 := hc _ _ hv hk
   have h3 := z5U s (.sr (.l j) q0 lo n cp eb e)
   have hvc : v.cells.toList = [v] := by
    rcases H2 hv with ⟨_, _, a, rfl⟩ | ⟨b, τ0, o, m, cap, a, _, _, _, rfl, _⟩ <;> rfl
   obtain ⟨h4, _⟩ := (y7 (by rw [h3.2]; rfl)).1 h2
   rw [hvc] at h4
   exact q8.b9 _ h4
mutual
theorem q8.q0v : ∀ (x : V) {q : List Nat} {vs : List Value}, q8 Γ none q x vs → (∀ j ∈ x.q8U, j ∈ js) → q8 Γ' none q (x.q0v s) vs
 | .agg τ xs, q, vs, h, hk => by
  simp only [V.q0v, V.q8U] at hk ⊢
  simp only [q8] at h ⊢
  exact ⟨h.1, h.2.1, by rw [V.q75]; exact h.2.2.1, h.2.2.2.1, y5.q06 xs h.2.2.2.2 hk⟩
 | .any, q, vs, _, _ => by simp only [V.q0v, Go.E.Z9, q8]
 | .tup _, q, vs, h, _ => by simp only [q8] at h
 | .d τ c, q, vs, h, _ => by simp only [V.q0v, Go.E.Z9]; exact h.z1l p
 | .sl _ _ _ _, q, vs, h, hk | .ts _ _ _, q, vs, h, hk | .emp _ _, q, vs, h, hk | .nilc, q, vs, h, hk | .ptr _ _ _, q, vs, h, hk | .cptr _ _, q, vs, h, hk | .mp _, q, vs, h, hk | .fn _ _, q, vs, h, hk | .top _, q, vs, h, hk => by
  simp only [V.q0v, Go.E.Z9]; exact h.z1l p
 | .sr k q0 lo n cp eb e, q, vs, h, hk => by
  simp only [V.q0v]
  exact q8.Z9 p hc rfl rfl h (by simpa only [V.q8U] using hk)
theorem y5.q06 : ∀ (xs : List V) {q : List Nat} {i : Nat} {τ : Ty} {vs : List Value}, y5 Γ none q i τ xs vs → (∀ j ∈ V.q9z xs, j ∈ js) → y5 Γ' none q i τ (V.q06 s xs) vs
 | [], _, _, _, _, _, _ => by simp only [V.q06, y5]
 | x :: xs, _, _, _, _, h, hk => by
  simp only [y5, V.q06, (V.z5W s x).1] at h ⊢
  simp only [V.q9z, List.mem_append] at hk
  obtain ⟨⟨o, f, h1, h2, h3, h4⟩, h5⟩ := h
  exact ⟨⟨o, f, h1, h2, h3, q8.q0v x h4 fun j hj => hk j (.inl hj)⟩, y5.q06 xs h5 fun j hj => hk j (.inr hj)⟩
end
mutual
theorem q8.frz : ∀ (sh : Sh) (x : V) {q : List Nat} {vs : List Value}, q8 Γ none q x vs → (∀ j ∈ V.q6t sh x, j ∈ js) → q8 Γ' none q (V.frz s sh x) vs
 | .d _, x, q, vs, h, hk => by simp only [V.frz, V.q6t] at hk ⊢; exact q8.q0v p hc x h hk
 | .agg _ l, x, q, vs, h, hk => by
  simp only [V.frz, V.q6t] at hk ⊢
  split
  ·simp only [q8] at h ⊢
   exact ⟨h.1, h.2.1, by rw [V.z0g]; exact h.2.2.1, h.2.2.2.1, y5.q1J l _ h.2.2.2.2 hk⟩
  ·exact h.z1l p
 | .sl _ _ _, x, q, vs, h, _ | .ts _ _, x, q, vs, h, _ | .sr _ _ _ _ _, x, q, vs, h, _ | .cptr _, x, q, vs, h, _ | .arr _, x, q, vs, h, _ | .as _, x, q, vs, h, _ | .vec _ _ _, x, q, vs, h, _ | .fnc _ _, x, q, vs, h, _ => by
  simp only [V.frz]; exact h.z1l p
theorem y5.q1J : ∀ (l : List Sh) (xs : List V) {q : List Nat} {i : Nat} {τ : Ty} {vs : List Value}, y5 Γ none q i τ xs vs → (∀ j ∈ V.z4z l xs, j ∈ js) → y5 Γ' none q i τ (V.q1J s l xs) vs
 | [], xs, _, _, _, _, h, _ => by simp only [V.q1J]; exact y5.p8 p (hm := none) trivial xs h
 | _ :: _, [], _, _, _, _, _, _ => by simp only [V.q1J, y5]
 | sh :: l, x :: xs, _, _, _, _, h, hk => by
  simp only [y5, V.q1J, (V.z6d s sh x).1] at h ⊢
  simp only [V.z4z, List.mem_append] at hk
  obtain ⟨⟨o, f, h1, h2, h3, h4⟩, h5⟩ := h
  exact ⟨⟨o, f, h1, h2, h3, q8.frz sh x h4 fun j hj => hk j (.inl hj)⟩, y5.q1J l xs h5 fun j hj => hk j (.inr hj)⟩
end
theorem q9.frz {sh : Sh} {x : V} {v : Value} (h : q9 Γ x v) (hk : ∀ j ∈ V.q6t sh x, j ∈ js) : q9 Γ' (V.frz s sh x) v := by
 by_cases hp : x.plain = true
 ·obtain ⟨h1, h2⟩ := (y7 hp).1 h
  exact (y7 (by rw [(V.z6d s sh x).2]; exact hp)).2 ⟨q8.frz p hc sh x h1 hk, by rw [(V.z6d s sh x).1]; exact h2⟩
 ·have : V.frz s sh x = x := by
   cases x <;> simp [V.plain] at hp <;> (unfold V.frz; split <;> rfl)
  rw [this]; exact h.p8 p
end
def q08 (s : S) : List (Nat × Sh) → List Nat
 | [] => []
 | (i, sh) :: l => V.q6t sh (s.get i) ++ q08 s l
def q2a (s0 : S) : List (Nat × Sh) → S → S
 | [], s => s
 | (i, sh) :: l, s => q2a s0 l (match V.q6t sh (s0.get i) with
  | [] => s
  | _ => s.set (some i) (V.frz s0 sh (s0.get i)))
def q7G (sh : SSh) (s : S) : S :=
 match q08 s sh.env with
 | [] => s
 | js => q2a s sh.env (W6 js s)
theorem q7H (s0 : S) : ∀ (l : List (Nat × Sh)) (s : S), (q2a s0 l s).loc = s.loc ∧ (q2a s0 l s).tk = s.tk ∧ (q2a s0 l s).A = s.A
 | [], s => ⟨rfl, rfl, rfl⟩
 | (i, sh) :: l, s => by
  simp only [q2a]
  have := q7H s0 l (match V.q6t sh (s0.get i) with
   | [] => s
   | _ => s.set (some i) (V.frz s0 sh (s0.get i)))
  refine ⟨this.1.trans ?_, this.2.1.trans ?_, this.2.2.trans ?_⟩ <;> (split <;> rfl)
theorem z1J {Γ' : G} {tmps : Array Value} {s0 : S} {js : List Nat} (h0 : ∀ i sh, (∀ j ∈ V.q6t sh (s0.get i), j ∈ js) → q9 Γ' (V.frz s0 sh (s0.get i)) (tmps.getD i undef)) : ∀ (l : List (Nat × Sh)) (s : S), (∀ j ∈ q08 s0 l, j ∈ js) → (∀ i, q9 Γ' (s.get i) (tmps.getD i undef)) → ∀ i, q9 Γ' ((q2a s0 l s).get i) (tmps.getD i undef)
 | [], s, _, h => h
 | (i, sh) :: l, s, hk, h => by
  simp only [q2a]
  simp only [q08, List.mem_append] at hk
  refine z1J h0 l _ (fun j hj => hk j (.inr hj)) fun m => ?_
  split
  ·exact h m
  ·rw [q2o]
   split
   ·rename_i e
    cases e
    exact h0 i sh fun j hj => hk j (.inl hj)
   ·exact h m
theorem y5i {X : Cx} {n : Nat} {Γ0 : G} {a : Act} {w : World} {sh : SSh} {s : S} (h : At X n Γ0 s a w) : At X n Γ0 (q7G sh s) a w := by
 unfold q7G
 split
 ·exact h
 ·obtain ⟨Γ, g1, g3, c, hs, hn, hf, hA⟩ := h
  obtain ⟨Γ', g, p, c', hcv⟩ := q7w (q08 s sh.env) s c
  have hl := q7H s sh.env (W6 (q08 s sh.env) s)
  have hE := q4z (q08 s sh.env) s
  refine ⟨Γ', g1.trans g, g.gl.trans g3, c'.congr (fun k => ?_) (fun t => ?_) (fun t ht => ?_), ?_, hn, hf, by rw [hl.2.2, hE.2]; exact hA⟩
  ·unfold S.obj; rw [hl.1, hl.2.2]
  ·unfold S.live; rw [hl.2.1]
  ·unfold S.known at ht ⊢; rw [hl.2.1]; exact ht
  ·refine z1J (js := q08 s sh.env) (fun i sh' hk => q9.frz p hcv (hs i) hk) sh.env _ (fun j hj => hj) fun i => ?_
   exact q1e hE.1 (hs.p8 p) i
mutual
theorem V.z5V (s : S) (A' : Key → Option O) : ∀ x : V, x.q0v (s.wA A') = x.q0v s
 | .agg τ vs => by simp only [V.q0v]; rw [V.z3z s A' vs]
 | .d _ _ | .sl _ _ _ _ | .ts _ _ _ | .emp _ _ | .nilc | .ptr _ _ _ | .cptr _ _ | .mp _ | .fn _ _ | .top _ | .any | .tup _ | .sr _ _ _ _ _ _ _ => by simp only [V.q0v]; exact z5T s A' _
theorem V.z3z (s : S) (A' : Key → Option O) : ∀ xs : List V, V.q06 (s.wA A') xs = V.q06 s xs
 | [] => rfl
 | x :: xs => by simp only [V.q06]; rw [V.z5V s A' x, V.z3z s A' xs]
end
mutual
theorem V.y04 (s : S) (A' : Key → Option O) : ∀ (sh : Sh) (x : V), V.frz (s.wA A') sh x = V.frz s sh x
 | .d _, x => by simp only [V.frz]; exact V.z5V s A' x
 | .agg _ l, x => by simp only [V.frz]; split <;> (try rfl); rw [V.z8f s A' l]
 | .sl _ _ _, x | .ts _ _, x | .sr _ _ _ _ _, x | .cptr _, x | .arr _, x | .as _, x | .vec _ _ _, x | .fnc _ _, x => by simp only [V.frz]
theorem V.z8f (s : S) (A' : Key → Option O) : ∀ (l : List Sh) (xs : List V), V.q1J (s.wA A') l xs = V.q1J s l xs
 | [], xs => by simp only [V.q1J]
 | _ :: _, [] => by simp only [V.q1J]
 | sh :: l, x :: xs => by simp only [V.q1J]; rw [V.y04 s A' sh x, V.z8f s A' l xs]
end
theorem z1T (s : S) (A' : Key → Option O) : ∀ l : List (Nat × Sh), q08 (s.wA A') l = q08 s l
 | [] => rfl
 | (i, sh) :: l => by simp only [q08]; rw [z1T s A' l]; rfl
theorem z3G (s0 : S) (A' : Key → Option O) : ∀ (l : List (Nat × Sh)) (s : S), q2a (s0.wA A') l (s.wA A') = (q2a s0 l s).wA A'
 | [], _ => rfl
 | (i, sh) :: l, s => by
  simp only [q2a]
  rw [← z3G s0 A' l]
  congr 1
  show (match V.q6t sh (s0.get i) with
   | [] => s.wA A'
   | _ => (s.wA A').set (some i) (V.frz (s0.wA A') sh (s0.get i))) = _
  rw [V.y04]
  split <;> rfl
theorem y35 (sh : SSh) (s : S) (A' : Key → Option O) : q7G sh (s.wA A') = (q7G sh s).wA A' := by
 unfold q7G
 rw [z1T]
 split
 ·rfl
 ·rw [z0F]; exact z3G s A' sh.env _
end Go.E
namespace Go.E
open Go
def q4N {R : Type} : Key → (Key → Option R) → Option R
 | .l 0, K => K (.l 0)
 | .l (n + 1), K => K (.l (n + 1))
 | .g k, K => q4N k fun k => K (.g k)
theorem q2U {R : Type} : ∀ (k : Key) (K : Key → Option R), q4N k K = K k
 | .l 0, K => rfl
 | .l (n + 1), K => rfl
 | .g k, K => by simp only [q4N, q2U k]
mutual
def q4M {R : Type} : V → (V → Option R) → Option R
 | .d τ c, K => K (.d τ c)
 | .sl eb e cs t, K => K (.sl eb e cs t)
 | .ts eb e cs, K => K (.ts eb e cs)
 | .emp eb e, K => K (.emp eb e)
 | .nilc, K => K .nilc
 | .ptr k q τ, K => q4N k fun k => K (.ptr k q τ)
 | .cptr τ c, K => K (.cptr τ c)
 | .sr k q lo n cp eb e, K => q4N k fun k => K (.sr k q lo n cp eb e)
 | .mp k, K => q4N k fun k => K (.mp k)
 | .agg τ l, K => q9F l fun l => K (.agg τ l)
 | .fn f l, K => K (.fn f l)
 | .tup l, K => q9F l fun l => K (.tup l)
 | .top τ, K => K (.top τ)
 | .any, K => K .any
def q9F {R : Type} : List V → (List V → Option R) → Option R
 | [], K => K []
 | x :: l, K => q4M x fun x => q9F l fun l => K (x :: l)
end
mutual
theorem q6Y {R : Type} : ∀ (x : V) (K : V → Option R), q4M x K = K x
 | .d _ _, _ | .sl _ _ _ _, _ | .ts _ _ _, _ | .emp _ _, _ | .nilc, _ | .cptr _ _, _ | .fn _ _, _ | .top _, _ | .any, _ => by simp only [q4M]
 | .ptr k q τ, K => by simp only [q4M, q2U]
 | .sr k q lo n cp eb e, K => by simp only [q4M, q2U]
 | .mp k, K => by simp only [q4M, q2U]
 | .agg τ l, K => by simp only [q4M, z0N l]
 | .tup l, K => by simp only [q4M, z0N l]
theorem z0N {R : Type} : ∀ (l : List V) (K : List V → Option R), q9F l K = K l
 | [], K => by simp only [q9F]
 | x :: l, K => by simp only [q9F, q6Y x, z0N l]
end
def z9s {R : Type} : List (Nat × V) → (List (Nat × V) → Option R) → Option R
 | [], K => K []
 | (i, x) :: l, K => q4M x fun x => z9s l fun l => K ((i, x) :: l)
theorem z8i {R : Type} : ∀ (l : List (Nat × V)) (K : List (Nat × V) → Option R), z9s l K = K l
 | [], K => rfl
 | (i, x) :: l, K => by simp only [z9s, q6Y, z8i l]
def z6h {R : Type} : List (Key × O) → (List (Key × O) → Option R) → Option R
 | [], K => K []
 | (k, .box x) :: l, K => q4N k fun k => q4M x fun x => z6h l fun l => K ((k, .box x) :: l)
 | (k, o) :: l, K => q4N k fun k => z6h l fun l => K ((k, o) :: l)
theorem z8h {R : Type} : ∀ (l : List (Key × O)) (K : List (Key × O) → Option R), z6h l K = K l
 | [], K => rfl
 | (k, o) :: l, K => by
  cases o <;> simp only [z6h, q2U, q6Y, z8h l]
def z6e {R : Type} : List (Nat × Option Nat) → (List (Nat × Option Nat) → Option R) → Option R
 | [], K => K []
 | (i, none) :: l, K => z6e l fun l => K ((i, none) :: l)
 | (i, some n) :: l, K => z6e l fun l => K ((i, some n) :: l)
theorem z8g {R : Type} : ∀ (l : List (Nat × Option Nat)) (K : List (Nat × Option Nat) → Option R), z6e l K = K l
 | [], K => rfl
 | (i, o) :: l, K => by cases o <;> simp only [z6e, z8g l]
def frc {R : Type} (s : S) (K : S → Option R) : Option R :=
 match s with
 | ⟨env, loc, A, tk⟩ => z9s env fun env => z6h loc fun loc => z6e tk fun tk => K ⟨env, loc, A, tk⟩
theorem z1K {R : Type} (s : S) (K : S → Option R) : frc s K = K s := by
 unfold frc
 simp only [z8i, z8h, z8g]
def z2N {R : Type} : List Cap → (List Cap → Option R) → Option R
 | [], K => K []
 | .c τ :: l, K => z2N l fun l => K (.c τ :: l)
 | .v x :: l, K => q4M x fun x => z2N l fun l => K (.v x :: l)
theorem z2M {R : Type} : ∀ (l : List Cap) (K : List Cap → Option R), z2N l K = K l
 | [], K => rfl
 | .c τ :: l, K => by simp only [z2N, z2M l]
 | .v x :: l, K => by simp only [z2N, q6Y, z2M l]
mutual
def q4d {R : Type} : Sh → (Sh → Option R) → Option R
 | .sr k q cp eb e, K => q4N k fun k => K (.sr k q cp eb e)
 | .vec k eb e, K => q4N k fun k => K (.vec k eb e)
 | .agg τ l, K => q83 l fun l => K (.agg τ l)
 | .as v, K => q4M v fun v => K (.as v)
 | .d τ, K => K (.d τ)
 | .sl eb e t, K => K (.sl eb e t)
 | .ts eb e, K => K (.ts eb e)
 | .cptr τ, K => K (.cptr τ)
 | .arr e, K => K (.arr e)
 | .fnc f l, K => z2N l fun l => K (.fnc f l)
def q83 {R : Type} : List Sh → (List Sh → Option R) → Option R
 | [], K => K []
 | x :: l, K => q4d x fun x => q83 l fun l => K (x :: l)
end
mutual
theorem z0O {R : Type} : ∀ (x : Sh) (K : Sh → Option R), q4d x K = K x
 | .d _, _ | .sl _ _ _, _ | .ts _ _, _ | .cptr _, _ | .arr _, _ => by simp only [q4d]
 | .sr _ _ _ _ _, K => by simp only [q4d, q2U]
 | .vec _ _ _, K => by simp only [q4d, q2U]
 | .as v, K => by simp only [q4d, q6Y]
 | .fnc f l, K => by simp only [q4d, z2M]
 | .agg τ l, K => by simp only [q4d, z3H l]
theorem z3H {R : Type} : ∀ (l : List Sh) (K : List Sh → Option R), q83 l K = K l
 | [], K => by simp only [q83]
 | x :: l, K => by simp only [q83, z0O x, z3H l]
end
def z4A {R : Type} : List (Nat × Sh) → (List (Nat × Sh) → Option R) → Option R
 | [], K => K []
 | (i, x) :: l, K => q4d x fun x => z4A l fun l => K ((i, x) :: l)
theorem z6g {R : Type} : ∀ (l : List (Nat × Sh)) (K : List (Nat × Sh) → Option R), z4A l K = K l
 | [], K => rfl
 | (i, x) :: l, K => by simp only [z4A, z0O, z6g l]
def z1M {R : Type} : List (Key × OSh) → (List (Key × OSh) → Option R) → Option R
 | [], K => K []
 | (k, .box x) :: l, K => q4N k fun k => q4d x fun x => z1M l fun l => K ((k, .box x) :: l)
 | (k, o) :: l, K => q4N k fun k => z1M l fun l => K ((k, o) :: l)
theorem z6f {R : Type} : ∀ (l : List (Key × OSh)) (K : List (Key × OSh) → Option R), z1M l K = K l
 | [], K => rfl
 | (k, o) :: l, K => by cases o <;> simp only [z1M, q2U, z0O, z6f l]
def z1L {R : Type} (s : SSh) (K : SSh → Option R) : Option R :=
 match s with
 | ⟨env, loc⟩ => z4A env fun env => z1M loc fun loc => K ⟨env, loc⟩
theorem z0P {R : Type} (s : SSh) (K : SSh → Option R) : z1L s K = K s := by
 unfold z1L
 simp only [z6g, z6f]
def y1l : List V → Bool
 | [] => false
 | .cptr _ _ :: _ => true
 | _ :: l => y1l l
def z6X : List V → List Cap
 | [] => []
 | .cptr τ _ :: l => .c τ :: z6X l
 | x :: l => .v x :: z6X l
mutual
def V.z9Y : V → Sh
 | .d τ _ => (match τ with
  | .ptr => .as (.d .ptr .nil)
  | .map => .as (.d .map .nil)
  | .func => .as (.d .func .nil)
  | τ => .d τ)
 | .sl eb e _ _ => .d (.slice eb e)
 | .ts eb e _ => .ts eb e
 | .sr k q _ _ cp eb e => (match q, cp with
  | [], none => .vec k eb e
  | q, cp => .sr k q cp.isSome eb e)
 | .cptr τ _ => .cptr τ
 | .agg τ vs => .agg τ (V.y3u vs)
 | .tup _ => .as .any
 | .fn f vs => bif y1l vs then .fnc f (z6X vs) else .as (.fn f vs)
 | x => .as x
def V.y3u : List V → List Sh
 | [] => []
 | x :: xs => x.z9Y :: V.y3u xs
end
mutual
def V.z1F : V → List Key
 | .ptr k _ _ | .mp k | .sr k _ _ _ _ _ _ => [k]
 | .agg _ vs | .fn _ vs | .tup vs => V.y0S vs
 | _ => []
def V.y0S : List V → List Key
 | [] => []
 | x :: xs => x.z1F ++ V.y0S xs
end
def O.z1F : O → List Key
 | .box x => x.z1F
 | .map _ _ _ => []
 | .it _ _ | .dead _ => []
def y2d : Key → List Key → Bool
 | _, [] => false
 | k, j :: l => if j = k then true else y2d k l
def z1j (s : S) : Nat → List Key → List Key → List Key
 | 0, _, acc => acc
 | _, [], acc => acc
 | f + 1, k :: ks, acc => if y2d k acc = true then z1j s f ks acc else (match s.obj k with
  | some o => z1j s f (o.z1F ++ ks) (acc ++ [k])
  | none => z1j s f ks acc)
structure Hint where
 live : List Nat
 new : List (Nat × Sh)
 roots : List Key
 obs : List (Key × OSh)
 drop : List Key
 vecs : List Ty := []
def y3q (s : S) : List Nat → List Key
 | [] => []
 | i :: l => (s.get i).z1F ++ y3q s l
def z7c (s : S) : List Nat → List (Nat × Sh)
 | [] => []
 | i :: l => (match s.get i with
  | .any => z7c s l
  | x => (i, x.z9Y) :: z7c s l)
def q9B (e : Ty) : List Ty → Bool
 | [] => false
 | t :: l => if Ty.beq t e = true then true else q9B e l
def z4F : Key → Nat
 | .l n => 2 * n
 | .g k => 2 * z4F k + 1
def V1 : Nat := 1000000000000
mutual
def Sh.y1F (ts : List Ty) : Nat → Sh → V → Sh
 | b, .vec (.g k) eb e, _ => if q9B e ts = true then .vec (.l (V1 + 8 * z4F (.g k) + 2)) eb e else .vec (.g k) eb e
 | b, .as v, _ => (match v with
  | .emp eb e => if q9B e ts = true then .vec (.l b) eb e else .as v
  | v => .as v)
 | b, .ts eb e, x => (match x with
  | .emp _ _ => if q9B e ts = true then .vec (.l b) eb e else .ts eb e
  | _ => .ts eb e)
 | b, .agg τ l, x => (match x with
  | .agg _ xs => .agg τ (Sh.y28 ts (64 * b) l xs)
  | _ => .agg τ l)
 | _, s, _ => s
def Sh.y28 (ts : List Ty) : Nat → List Sh → List V → List Sh
 | b, s :: l, x :: xs => Sh.y1F ts b s x :: Sh.y28 ts (b + 1) l xs
 | _, _, _ => []
end
mutual
def Sh.y1D : Sh → List (Key × OSh)
 | .vec (.l a) _ e => if V1 ≤ a then [(.l a, .box (.arr e))] else []
 | .agg _ l => Sh.y27 l
 | _ => []
def Sh.y27 : List Sh → List (Key × OSh)
 | [] => []
 | s :: l => s.y1D ++ Sh.y27 l
end
def z8o (s : S) (ts : List Ty) : List (Nat × Sh) → List (Nat × Sh)
 | [] => []
 | (i, sh) :: l => (i, sh.y1F ts (V1 + 8 * i + 3) (s.get i)) :: z8o s ts l
def q5d (s : S) (ts : List Ty) : List (Key × OSh) → List (Key × OSh)
 | [] => []
 | (k, .box sh) :: l => (match k, sh with
  | .g k, .arr e => if q9B e ts = true then (.g k, .dead e) :: (.l (V1 + 8 * z4F (.g k) + 2), .box (.arr e)) :: q5d s ts l else (.g k, .box sh) :: q5d s ts l
  | k, sh => (match s.obj k with
   | some (.box x) => (k, .box (sh.y1F ts (V1 + 8 * z4F k + 1) x)) :: q5d s ts l
   | _ => (k, .box sh) :: q5d s ts l))
 | p :: l => p :: q5d s ts l
def z8n : List (Nat × Sh) → List (Key × OSh)
 | [] => []
 | (_, sh) :: l => sh.y1D ++ z8n l
def z2E : List (Key × OSh) → List (Key × OSh)
 | [] => []
 | (_, .box sh) :: l => sh.y1D ++ z2E l
 | _ :: l => z2E l
def z7a : List (Key × OSh) → List (Key × OSh) → List (Key × OSh)
 | [], acc => acc
 | (k, o) :: l, acc => if q6b acc k = true then z7a l acc else z7a l (acc ++ [(k, o)])
def y4G (s : S) (ts : List Ty) (sh : SSh) : SSh :=
 match ts with
 | [] => sh
 | ts => (match z8o s ts sh.env, q5d s ts sh.loc with
  | env, loc => ⟨env, z7a (z8n env ++ z2E loc) loc⟩)
def q4E (s : S) (h : Hint) : List Key → List (Key × OSh)
 | [] => []
 | k :: l => if y2d k h.drop = true then q4E s h l else if q6b h.obs k = true then q4E s h l else (match s.obj k with
  | some (.box x) => (k, .box (match x with
    | .d (.arr M e) _ => (match k, M with
     | _, _ => if q9B e h.vecs = true then .arr e else .d (.arr M e))
    | .d τ _ => .d τ
    | x => (match h.vecs with
     | [] => bif (k8 x).isSome then .d x.ty else x.q0G.z9Y
     | _ => x.z9Y))) :: q4E s h l
  | some (.map kτ vτ _) => (k, .map kτ vτ) :: q4E s h l
  | some (.it _ _) => (k, .it) :: q4E s h l
  | some (.dead (.arr _ e)) => (k, .dead e) :: q4E s h l
  | _ => q4E s h l)
def z6J : List (Key × O) → List Key
 | [] => []
 | (.g k, .dead _) :: l => .g k :: z6J l
 | _ :: l => z6J l
def y2b (h : Hint) (s : S) : SSh :=
 y4G s h.vecs ⟨z7c s h.live ++ h.new, h.obs ++ q4E s h (z1j s 1000 (y3q s h.live ++ h.roots) [] ++ z6J s.loc)⟩
def q7I : List (Key × OSh) → S → S
 | [], s => s
 | (k, .box _) :: l, s => (match s.obj k with
  | some (.box x) => q7I l (s.put k (.box x.q0G))
  | _ => q7I l s)
 | _ :: l, s => q7I l s
def q31 : List (Nat × Sh) → S → S
 | [], s => s
 | (i, sh) :: l, s => (match sh with
  | .sl eb e t => (match s.get i with
   | .nilc => if s.known t = false then q31 l (S.set { s with tk := (t, some 0) :: s.tk } (some i) (.sl eb e [] t)) else q31 l s
   | .emp eb' e' => if eb' = eb ∧ e' = e ∧ s.known t = false then q31 l (S.set { s with tk := (t, some 0) :: s.tk } (some i) (.sl eb e [] t)) else q31 l s
   | _ => q31 l s)
  | _ => q31 l s)
mutual
def V.un : V → V → List (Nat × Nat)
 | .ptr (.l a) _ _, .ptr (.l b) _ _ => [(b, a)]
 | .mp (.l a), .mp (.l b) => [(b, a)]
 | .fn _ l, .fn _ l' => V.uns l l'
 | .tup l, .tup l' => V.uns l l'
 | _, _ => []
def V.uns : List V → List V → List (Nat × Nat)
 | x :: xs, y :: ys => V.un x y ++ V.uns xs ys
 | _, _ => []
end
def z9T : List Cap → List V → List (Nat × Nat)
 | .v y :: l, x :: xs => V.un y x ++ z9T l xs
 | .c _ :: l, _ :: xs => z9T l xs
 | _, _ => []
mutual
def Sh.un : Sh → V → List (Nat × Nat)
 | .sr (.l a) _ _ _ _, .sr (.l b) _ _ _ _ _ _ => [(b, a)]
 | .vec (.l a) _ _, .sr (.l b) _ _ _ _ _ _ => [(b, a)]
 | .as v, x => V.un v x
 | .fnc _ l, .fn _ xs => z9T l xs
 | .agg _ l, .agg _ xs => Sh.uns l xs
 | _, _ => []
def Sh.uns : List Sh → List V → List (Nat × Nat)
 | s :: l, x :: xs => s.un x ++ Sh.uns l xs
 | _, _ => []
end
def z8G (s : S) : List (Nat × Sh) → List (Nat × Nat)
 | [] => []
 | (i, sh) :: l => sh.un (s.get i) ++ z8G s l
def z4u (s : S) : List (Nat × Sh) → List (Nat × Nat)
 | [] => []
 | (i, sh) :: l => (match sh, s.get i with
  | .sl _ _ t, .sl _ _ _ t' => (t', t) :: z4u s l
  | _, _ => z4u s l)
def y3j : List (Key × OSh) → Key → Option OSh
 | [], _ => none
 | (j, x) :: l, k => if j = k then some x else y3j l k
def y3a (s : S) (l : List (Key × OSh)) (b a : Key) : List (Nat × Nat) :=
 match y3j l a, s.obj b with
 | some (.box sh), some (.box x) => sh.un x
 | _, _ => []
def unG (s : S) (l0 : List (Key × OSh)) : List (Key × OSh) → List (Nat × Nat)
 | [] => []
 | (.g k, _) :: l => y3a s l0 (.g k) (.g k) ++ unG s l0 l
 | (.l _, _) :: l => unG s l0 l
def z4v (s : S) (l : List (Key × OSh)) : Nat → List (Nat × Nat) → List (Nat × Nat) → List (Nat × Nat)
 | 0, _, acc => acc
 | _, [], acc => acc
 | f + 1, (b, a) :: todo, acc => (match look acc b with
  | some _ => z4v s l f todo acc
  | none => z4v s l f (y3a s l (.l b) (.l a) ++ todo) ((b, a) :: acc))
def z2m : List (Nat × Nat) → Bool
 | [] => true
 | (a, b) :: l => Nat.beq a b && z2m l
def z29 (l : List (Nat × Nat)) (n : Nat) : Nat := (look l n).getD (n + 1000000000)
def q8q (s : S) : List (Nat × Sh) → Bool
 | [] => false
 | (i, sh) :: l => (match sh, s.get i with
  | .sl _ _ t, .nilc => s.known t || q8q s l
  | .sl _ _ t, .emp _ _ => s.known t || q8q s l
  | _, _ => q8q s l)
def z8Y (sh : SSh) (s : S) : S :=
 match z4v s sh.loc 1000 (z8G s sh.env ++ unG s sh.loc sh.loc) [], z4u s sh.env with
 | ps, ts => bif z2m ps && z2m ts && !q8q s sh.env then s
  else bif q7A (z29 ps) (q00 s.loc) && q7A (z29 ts) (q0T s.tk) then s.ren (z29 ps) (z29 ts) else s
mutual
def Sh.ad : Sh → V → List (Key × Nat)
 | .vec (.l a) _ _, .sr (.g b) _ _ _ _ _ _ => [(.g b, a + T0)]
 | .agg _ l, .agg _ xs => Sh.ads l xs
 | _, _ => []
def Sh.ads : List Sh → List V → List (Key × Nat)
 | s :: l, x :: xs => s.ad x ++ Sh.ads l xs
 | _, _ => []
end
def y3t (s : S) : List (Nat × Sh) → List (Key × Nat)
 | [] => []
 | (i, sh) :: l => sh.ad (s.get i) ++ y3t s l
def z4H (s : S) : List (Key × OSh) → List (Key × Nat)
 | [] => []
 | (k, .box sh) :: l => (match s.obj k with
  | some (.box x) => sh.ad x ++ z4H s l
  | _ => z4H s l)
 | _ :: l => z4H s l
def y3k {α : Type} : List (Key × α) → List Key
 | [] => []
 | (k, _) :: l => k :: y3k l
def z69 (ks : List Key) : List (Key × Nat) → S → S
 | [], s => s
 | (K, t) :: l, s => z69 ks l (q9l K t ks s)
def y1t : List (Key × OSh) → Bool
 | [] => false
 | (_, .box (.arr _)) :: _ => true
 | _ :: l => y1t l
def z8D (sh : SSh) (s : S) : S :=
 match y1t sh.loc with
 | false => s
 | true => (match z69 (y3k sh.loc) (y3t s sh.env ++ z4H s sh.loc) s with
  | s => q5k sh.loc (q8m sh.env s))
def q6x {R : Type} (sh : SSh) (s : S) (K : List C → List Es → Option R) : Option R :=
 frc (q7G sh s) fun s => frc (z8D sh s) fun s => frc (q31 sh.env (q7I sh.loc (z8Y sh s))) fun s => z9O sh s K
theorem y4q {R : Type} (sh : SSh) (s : S) (K : List C → List Es → Option R) : q6x sh s K = z9O sh (q31 sh.env (q7I sh.loc (z8Y sh (z8D sh (q7G sh s))))) K := by
 unfold q6x
 simp only [z1K]
def WkA (s s' : S) : Prop := s'.A = s.A ∧ ∀ (X : Cx) (n : Nat) (A' : Key → Option O), leA s.A A' → q0d X n (s.wA A') (s'.wA A')
theorem WkA.refl (s : S) : WkA s s := ⟨rfl, fun _ _ _ _ => q0d.refl _⟩
theorem WkA.trans {a b c : S} (h : WkA a b) (h' : WkA b c) : WkA a c :=
 ⟨h'.1.trans h.1, fun X n A' hA => (h.2 X n A' hA).trans (h'.2 X n A' (by rw [h.1]; exact hA))⟩
theorem q9J : ∀ (l : List (Key × OSh)) (s : S), WkA s (q7I l s)
 | [], s => WkA.refl s
 | (k, .box _) :: l, s => by
  simp only [q7I]
  split
  ·rename_i x hx
   exact WkA.trans (b := s.put k (.box x.q0G)) ⟨rfl, fun X n A' hA => y0c (Z8 hA hx)⟩ (q9J l _)
  ·exact q9J l s
 | (_, .map _ _) :: l, s | (_, .dead _) :: l, s | (_, .it) :: l, s => q9J l s
theorem q3D : ∀ (l : List (Nat × Sh)) (s : S), WkA s (q31 l s)
 | [], s => WkA.refl s
 | (i, sh) :: l, s => by
  simp only [q31]
  split
  ·rename_i eb e t
   have one : ∀ (hu : s.known t = false) (ht : s.get i = .nilc ∨ s.get i = .emp eb e), WkA s (S.set { s with tk := (t, some 0) :: s.tk } (some i) (.sl eb e [] t)) := fun hu ht =>
    ⟨rfl, fun X n A' hA => y1B (s := s.wA A') hu ht⟩
   split
   ·rename_i hx
    split
    ·rename_i hu
     exact (one hu (.inl hx)).trans (q3D l _)
    ·exact q3D l s
   ·rename_i eb' e' hx
    split
    ·rename_i hu
     obtain ⟨rfl, rfl, hu⟩ := hu
     exact (one hu (.inr hx)).trans (q3D l _)
    ·exact q3D l s
   ·exact q3D l s
  ·exact q3D l s
theorem y3Q (sh : SSh) (s : S) : WkA s (z8Y sh s) := by
 unfold z8Y
 dsimp only
 generalize z4v s sh.loc 1000 (z8G s sh.env ++ unG s sh.loc sh.loc) [] = ps
 generalize z4u s sh.env = ts
 cases z2m ps && z2m ts && !q8q s sh.env
 ·cases hi : q7A (z29 ps) (q00 s.loc) && q7A (z29 ts) (q0T s.tk)
  ·exact WkA.refl s
  ·simp only [Bool.and_eq_true] at hi
   exact ⟨rfl, fun X n A' _ => y1C (s := s.wA A') _ _ hi.1 hi.2⟩
 ·exact WkA.refl s
theorem z4a (ks : List Key) : ∀ (l : List (Key × Nat)) (s : S), WkA s (z69 ks l s)
 | [], s => WkA.refl s
 | (K, t) :: l, s => WkA.trans (b := q9l K t ks s) (y1u K t ks s) (z4a ks l _)
theorem y4v {X : Cx} {n : Nat} {Γ0 : G} {t : Nat} {e : Ty} {a : Act} {w : World} {s : S} (ht : s.obj (.l t) = none) (h : At X n Γ0 s a w) : At X n Γ0 (s.put (.l t) (.box (.d (.arr 0 e) (.agg [])))) a w := by
 obtain ⟨Γ, g1, g3, c, hs, hn, hf, hA⟩ := h
 refine ⟨Γ, g1, g3, ⟨c.hH, c.hZ, c.hκ, fun j o hj => ?_, fun j hj => ?_, c.q4K (fun j hj => ?_), c.tok, c.tdom, c.hgl, c.hoo, c.hσ⟩, hs, hn, hf, hA⟩
 ·rw [Q4] at hj
  split at hj
  ·rename_i e1; subst e1; cases hj
   exact .inl ⟨c.q6A ht, e, rfl⟩
  ·exact c.obj j o hj
 ·rw [Q4]
  split
  ·simp
  ·exact c.dom j hj
 ·unfold S.r6 at hj ⊢
  rw [Q4]
  split
  ·rename_i e1; subst e1; rw [ht] at hj; cases hj
  ·exact hj
theorem q7f : ∀ (l : List (Nat × Ty)) (s : S), WkA s (q9q l s)
 | [], s => WkA.refl s
 | (t, e) :: l, s => by
  simp only [q9q]
  split
  ·rename_i h
   have h' : s.obj (.l t) = none := by simpa using h
   exact WkA.trans (b := s.put (.l t) (.box (.d (.arr 0 e) (.agg [])))) ⟨rfl, fun X n A' hA Γ0 a w hat => y4v (s := s.wA A') (by rw [q1Z]; exact h') hat⟩ (q7f l _)
  ·exact q7f l s
theorem q9.U6 {Γ : G} {sh : Sh} {x : V} {v : Value} (h : q9 Γ x v) : q9 Γ (V.U6 sh x) v := by
 by_cases hp : x.plain = true
 ·obtain ⟨h1, h2⟩ := (y7 hp).1 h
  exact (y7 (by rw [V.z02]; exact hp)).2 ⟨q8.U6 sh x h1, by rw [V.q6C]; exact h2⟩
 ·have : V.U6 sh x = x := by
   cases x <;> simp [V.plain] at hp <;> (unfold V.U6; split <;> rfl)
  rw [this]; exact h
theorem q9.q8k {Γ : G} {sh : Sh} {x : V} {v : Value} (h : q9 Γ x v) : q9 Γ (V.q8k sh x) v := by
 unfold V.q8k
 split
 ·have := Q7 h
  subst this
  exact q94
 ·exact h.U6
theorem q8l : ∀ (l : List (Nat × Sh)) (s : S), WkA s (q8m l s)
 | [], s => WkA.refl s
 | (i, sh) :: l, s => by
  simp only [q8m]
  split
  ·exact q8l l s
  ·refine WkA.trans (b := s.set (some i) (V.q8k sh (s.get i))) ⟨rfl, fun X n A' hA Γ0 a w hat => ?_⟩ (WkA.trans (q7f _ _) (q8l l _))
   obtain ⟨Γ, g1, g3, c, hs, hn, hf, hA⟩ := hat
   refine ⟨Γ, g1, g3, show z8 Γ w ((s.wA A').set (some i) (V.q8k sh (s.get i))) from q5N c _ _, fun j => ?_, hn, hf, hA⟩
   have hj := hs j
   show q9 Γ (S.get (S.set (s.wA A') (some i) (V.q8k sh (s.get i))) j) _
   rw [q2o]
   split
   ·rename_i e
    cases e
    exact q9.q8k hj
   ·exact hj
theorem q4j : ∀ (l : List (Key × OSh)) (s : S), WkA s (q5k l s)
 | [], s => WkA.refl s
 | (k, .box sh) :: l, s => by
  simp only [q5k]
  split
  ·rename_i x hx
   split
   ·exact q4j l s
   ·refine WkA.trans (b := s.put k (.box (V.U6 sh x))) ⟨rfl, fun X n A' hA Γ0 a w hat => ?_⟩ (WkA.trans (q7f _ _) (q4j l _))
    obtain ⟨Γ, g1, g3, c, hs, hn, hf, hAok⟩ := hat
    refine ⟨Γ, g1, g3, c.z8Q (Z8 hA hx) (fun hown => ?_) (fun hv => ?_), hs, hn, hf, hAok⟩
    ·obtain ⟨b, cells, T, h1, h2, h3, h4, h5, h6, h7, h8⟩ := hown
     exact ⟨b, cells, T, by rw [V.q6C]; exact h1, h2, h3, h4, by rw [V.q6C]; exact h5, by rw [V.q6C]; exact q8.U6 sh x h6, by rw [V.z02]; exact h7, by rw [V.z3g]; exact h8⟩
    ·obtain ⟨e, rfl⟩ := hv
     have : V.U6 sh (.d (.arr 0 e) (.agg [])) = .d (.arr 0 e) (.agg []) := by unfold V.U6; split <;> rfl
     rw [this]; exact ⟨e, rfl⟩
  ·exact q4j l s
 | (_, .map _ _) :: l, s | (_, .dead _) :: l, s | (_, .it) :: l, s => q4j l s
theorem y3y (sh : SSh) (s : S) : WkA s (z8D sh s) := by
 unfold z8D
 split
 ·exact WkA.refl s
 ·exact ((z4a _ _ s).trans (q8l _ _)).trans (q4j _ _)
theorem y36 (sh : SSh) (s : S) : WkA s (q7G sh s) := by
 refine ⟨?_, fun X n A' hA Γ0 a w hat => ?_⟩
 ·unfold q7G
  split
  ·rfl
  ·rw [(q7H _ _ _).2.2, (q4z _ _).2]
 ·rw [← y35]
  exact y5i hat
def nbV : V → V
 | .d τ c => (match τ with
  | .bool => .d .bool (.bool c.toBool)
  | τ => .d τ c)
 | x => x
def nbE : List (Nat × V) → List (Nat × V)
 | [] => []
 | (i, x) :: l => (i, nbV x) :: nbE l
def nbS (s : S) : S := { s with env := nbE s.env }
theorem y3U {Γ : G} {x : V} {v : Value} (h : q9 Γ x v) : q9 Γ (nbV x) v := by
 cases x <;> (try exact h)
 rename_i τ c
 cases τ <;> (try exact h)
 obtain ⟨_, e⟩ := Z0 h
 rw [e] at h
 exact h
theorem z5Q : ∀ (l : List (Nat × V)) (i : Nat), look (nbE l) i = (look l i).map nbV
 | [], _ => rfl
 | (j, x) :: l, i => by
  simp only [nbE, look]
  by_cases e : j = i
  ·rw [if_pos e, if_pos e]; rfl
  ·rw [if_neg e, if_neg e]; exact z5Q l i
theorem z5I (s : S) : WkA s (nbS s) := by
 refine ⟨rfl, fun X n A' _ => ?_⟩
 rintro Γ0 a w ⟨Γ, g1, g3, c, hs, hn, hf, hA⟩
 refine ⟨Γ, g1, g3, c.env _, fun i => ?_, hn, hf, hA⟩
 have := hs i
 have e : ((nbS s).wA A').get i = nbV ((s.wA A').get i) := by
  show (look (nbE s.env) i).getD .any = nbV ((look s.env i).getD .any)
  rw [z5Q]
  cases look s.env i <;> rfl
 rw [e]
 exact y3U this
def q1P (sh : SSh) (A : Key → Option O) (ds : List C) (ms : List Es) : S := nbS (q46 sh A ds ms)
theorem q68 {R : Type} {r : R} {sh : SSh} {s : S} {K : List C → List Es → Option R} (h : q6x sh s K = some r) : ∃ ds ms, K ds ms = some r ∧ WkA s (q1P sh s.A ds ms) := by
 have key : ∃ ds ms, K ds ms = some r ∧ WkA s (q46 sh s.A ds ms) := by
  rw [y4q] at h
  obtain ⟨ds, ms, h1, h2⟩ := y4p h
  have h3 := ((((y36 sh s).trans (y3y sh _)).trans (y3Q sh _)).trans (q9J sh.loc _)).trans (q3D sh.env _)
  refine ⟨ds, ms, h1, rfl, fun X n A' hA => ?_⟩
  have := (h3.2 X n A' hA).trans (h2 X n A' (by rw [h3.1]; exact hA))
  exact this
 obtain ⟨ds, ms, h1, h2⟩ := key
 exact ⟨ds, ms, h1, h2.trans (z5I _)⟩
def z5F (j : Nat) : List Nat → List Nat
 | [] => []
 | i :: l => if i = j then z5F j l else i :: z5F j l
def fxS (t j : Nat) (s : S) : S := ⟨q0B s (z5F t (slotsOf s.env)), q1i s.loc (z5F j (q00 s.loc)) s.loc, s.A, F1 s (q0T s.tk)⟩
def fxB (t j : Nat) (s : S) : Bool :=
 q2Y (fxS t j s).loc && q0u (c6 (fxS t j s).loc) (X7 (fxS t j s).tk) (fxS t j s).loc && q3y (fxS t j s).loc s.loc && q2C (c6 (fxS t j s).loc) (X7 (fxS t j s).tk) (fxS t j s).env && !(c6 (fxS t j s).loc j)
def y2s (t : Nat) (s : S) : S :=
 match s.get t with
 | .ptr (.l j) [] τ => (match s.obj (.l j) with
  | some (.box x) => (match k8 x with
   | some cc => if x.ty = τ ∧ fxB t j s = true then (fxS t j s).set (some t) (.cptr τ cc) else s
   | none => s)
  | _ => s)
 | _ => s
def z9P (t : Nat) (s : S) : S :=
 match s.get t with
 | .ptr k [] _ => (match s.obj k with
  | some (.box x) => (match x with
   | .d _ _ => s
   | x => (match k8 x with
    | some c => s.put k (.box (.d x.ty c))
    | none => s))
  | _ => s)
 | _ => s
theorem y2T (t : Nat) (s : S) : WkA s (z9P t s) := by
 unfold z9P
 split
 ·split
  ·rename_i x hx
   split
   ·exact WkA.refl s
   ·split
    ·rename_i c hc
     refine ⟨rfl, fun X n A' hA Γ0 a w hat => ?_⟩
     obtain ⟨Γ, g1, g3, cc, hs, hn, hf, hAok⟩ := hat
     have hin : V.u5 x (.d x.ty c) := by
      cases x <;> first | exact ⟨hc, rfl⟩ | (simp [k8] at hc)
     refine ⟨Γ, g1, g3, cc.z8Q (Z8 hA hx) (fun hown => ?_) (fun hv => ?_), hs, hn, hf, hAok⟩
     ·obtain ⟨b, cells, T, h1, h2, h3, h4, h5, h6, h7, h8⟩ := hown
      exact ⟨b, cells, T, h1, h2, h3, h4, h5, by have := (q8.u5 _ _ hin h6).1; simp only [q8] at this ⊢; exact this, rfl, rfl⟩
     ·obtain ⟨e, rfl⟩ := hv
      simp only [k8, Option.some.injEq] at hc
      subst hc
      exact ⟨e, rfl⟩
    ·exact WkA.refl s
  ·exact WkA.refl s
 ·exact WkA.refl s
def y2h (t : Nat) (s : S) : S :=
 match s.get t with
 | .sr (.l j) [] lo n _ eb e => (match s.obj (.l j) with
  | some (.box (.d (.arr M e') cc)) => if e' = e then ({ s with loc := (.l j, .dead (.arr M e)) :: s.loc } : S).set (some t) (.d (.slice eb e) (.slice ((cc.elems.drop lo).take n))) else s
  | _ => s)
 | _ => s
theorem y3Z (t : Nat) (s : S) : WkA s (y2h t s) := by
 unfold y2h
 split
 ·rename_i j lo n cp eb e hs
  split
  ·rename_i M e' cc ho
   split
   ·rename_i he
    subst he
    refine ⟨rfl, fun X n' A' hA Γ0 a w hat => ?_⟩
    obtain ⟨Γ, g1, g3, c, hsl, hn, hf, hAok⟩ := hat
    obtain ⟨Γ', gle, p, c', h⟩ := c.y48 (show (s.wA A').obj (.l j) = some (.box (.d (.arr M _) cc)) from ho)
    have hrep := hsl t
    rw [show (s.wA A').get t = _ from hs] at hrep
    have hv := h hrep
    refine ⟨Γ', g1.trans gle, gle.gl.trans g3, q5N (s := (({ s with loc := (.l j, .dead (.arr M _)) :: s.loc } : S).wA A')) c' (some t) _, fun i => ?_, hn, hf, hAok⟩
    rw [show ((({ s with loc := (.l j, .dead (.arr M _)) :: s.loc } : S).set (some t) (.d (.slice eb _) (.slice ((cc.elems.drop lo).take n)))).wA A').get i = (({ s with loc := (.l j, .dead (.arr M _)) :: s.loc } : S).set (some t) (.d (.slice eb _) (.slice ((cc.elems.drop lo).take n)))).get i from rfl, q2o]
    split
    ·rename_i hi
     cases hi
     exact hv
    ·exact (hsl i).p8 p
   ·exact WkA.refl s
  ·exact WkA.refl s
 ·exact WkA.refl s
def z2O : List (Nat × Nat) → S → S
 | [], s => s
 | (t, m) :: l, s => z2O l (if m = 6 then y2s t s else if m = 16 then z9P t s else if m = 17 then y2h (t - 1000000) s else s)
theorem y38 (t : Nat) (s : S) : WkA s (y2s t s) := by
 unfold y2s
 split
 ·rename_i j τ hs
  split
  ·rename_i x hx
   split
   ·rename_i cc hcc
    split
    ·rename_i h
     obtain ⟨hτ, h⟩ := h
     simp only [fxB, Bool.and_eq_true, Bool.not_eq_true'] at h
     obtain ⟨⟨⟨⟨h1, h2⟩, h3⟩, h4⟩, h5⟩ := h
     refine ⟨rfl, fun X n A' hA => ?_⟩
     have henv : ∀ l, q0B (s.wA A') l = q0B s l := by
      intro l
      induction l with
      | nil => rfl
      | cons i l ih => simp only [q0B, ih]; rfl
     have htk : ∀ l, F1 (s.wA A') l = F1 s l := by
      intro l
      induction l with
      | nil => rfl
      | cons i l ih => simp only [F1, ih]; rfl
     exact z7f (s := s.wA A') (s' := (fxS t j s).wA A') hs (Z8 hA hx) hcc hτ h5 rfl (q2Q (s := s.wA A') _ h1) h2 (q3X h3)
      (by show tkW (s.wA A') (F1 s (q0T s.tk)); rw [← htk]; exact z04)
      (by
       have h4' : q2C (c6 (fxS t j s).loc) (X7 (fxS t j s).tk) (q0B (s.wA A') (z5F t (slotsOf s.env))) = true := by rw [henv]; exact h4
       have := z2Q h4'
       rw [henv] at this
       exact this)
    ·exact WkA.refl s
   ·exact WkA.refl s
  ·exact WkA.refl s
 ·exact WkA.refl s
theorem q6Z : ∀ (l : List (Nat × Nat)) (s : S), WkA s (z2O l s)
 | [], s => WkA.refl s
 | (t, m) :: l, s => by
  simp only [z2O]
  split
  ·exact (y38 t s).trans (q6Z l _)
  ·split
   ·exact (y2T t s).trans (q6Z l _)
   ·split
    ·exact (y3Z _ s).trans (q6Z l _)
    ·exact q6Z l s
end Go.E
namespace Go.E
open Go
abbrev KD (R : Type) := List C → List Es → Option R
theorem y0K {α : Type} (_ : String) (a : α) : ∃ b, b = a := ⟨a, rfl⟩
noncomputable def lid {α : Type} (n : String) (a : α) : α := Classical.choose (y0K n a)
theorem q0L {α : Type} (n : String) (a : α) : lid n a = a := Classical.choose_spec (y0K n a)
noncomputable def jn {R : Type} : KD R → (KD R → Option R) → Option R := lid "" fun k b => b k
theorem J6 {R : Type} (k : KD R) (b : KD R → Option R) : jn k b = b k := by unfold jn; rw [q0L]
def y3i {R : Type} : Nat → (KD R → List C → List Es → Option R) → List C → List Es → Option R
 | 0, _, _, _ => none
 | n + 1, F, ds, ms => F (y3i n F) ds ms
noncomputable def X3 {R : Type} : Nat → (KD R → List C → List Es → Option R) → List C → List Es → Option R := lid "" y3i
theorem z1v {R : Type} (F : KD R → List C → List Es → Option R) (ds : List C) (ms : List Es) : X3 0 F ds ms = none := by unfold X3; rw [q0L]; rfl
theorem q7s {R : Type} (n : Nat) (F : KD R → List C → List Es → Option R) (ds : List C) (ms : List Es) : X3 (n + 1) F ds ms = F (X3 n F) ds ms := by unfold X3; rw [q0L]; rfl
abbrev Hints := List (List Nat × Hint)
def hintOf : Hints → List Nat → Option Hint
 | [], _ => none
 | (q, h) :: l, p => if q = p then some h else hintOf l p
noncomputable def exJ {R : Type} (h : Option Hint) (s : S) (K : S → Option R) (body : (S → Option R) → Option R) : Option R :=
 match h with
 | none => body K
 | some h => z1L (y2b h s) fun sh => jn (fun ds ms => K (q1P sh s.A ds ms)) fun k => body fun s1 => q6x sh s1 k
theorem q85 {R : Type} {r : R} {h : Option Hint} {s : S} {K : S → Option R} {body : (S → Option R) → Option R} {P : S → Prop} {G : Prop} (hP : ∀ s1 s2, P s1 → WkA s1 s2 → P s2) (hA : ∀ s1, P s1 → s1.A = s.A) (hj : exJ h s K body = some r)
  (hb : ∀ k : S → Option R, body k = some r → (∃ s1, k s1 = some r ∧ P s1) ∨ G) : (∃ s2, K s2 = some r ∧ P s2) ∨ G := by
 unfold exJ at hj
 split at hj
 ·exact hb _ hj
 ·rename_i h'
  rw [z0P, J6] at hj
  rcases hb _ hj with ⟨s1, h1, h2⟩ | hg
  ·obtain ⟨ds, ms, h3, h4⟩ := q68 h1
   rw [hA s1 h2] at h4
   exact .inl ⟨_, h3, hP _ _ h2 h4⟩
  ·exact .inr hg
def q19 : Code → Option (List Code × Nat × Code)
 | .seq a b => (match a with
  | .label l => some ([], l, b)
  | a => (match q19 b with
   | some x => some (a :: x.1, x.2)
   | none => none))
 | _ => none
def q9x (l : Nat) : List Code → Bool
 | [] => true
 | a :: as => (match findLabel a l with
  | some _ => false
  | none => q9x l as)
theorem z0e : ∀ (c : Code) {as : List Code} {r : Code} {l : Nat}, q19 c = some (as, l, r) → q9x l as = true → findLabel c l = some (.seq .skip r)
 | .seq a b, as, r, l, h, hn => by
  unfold q19 at h
  split at h
  ·cases h; simp [findLabel]
  ·split at h
   ·rename_i x hx
    obtain ⟨as', l', r'⟩ := x
    cases h
    simp only [q9x] at hn
    simp only [findLabel]
    cases ha : findLabel a l with
    | some y => rw [ha] at hn; cases hn
    | none => rw [ha] at hn; exact z0e b hx hn
   ·cases h
 | .skip, _, _, _, h, _ | .region _ _ _, _, _, _, h, _ | .cond _ _ _, _, _, _, h, _ | .block _ _, _, _, _, h, _ | .loop _, _, _, _, h, _ | .exit _, _, _, _, h, _ | .scope _, _, _, _, h, _ | .label _, _, _, _, h, _ | .goto _, _, _, _, h, _ | .ret, _, _, _, h, _ | .rangeFunc _ _ _ _, _, _, _, h, _ | .refuse _, _, _, _, h, _ => by simp [q19] at h
def q3P {R : Type} (run : List Nat → Code → S → KE R → Option R) : List Code → List Nat → S → (S → Option R) → KE R → Option R
 | [], _, s, k, _ => k s
 | a :: l, p, s, k, K => run (0 :: p) a s fun e s1 => match e with
  | .normal => frc s1 fun s1 => q3P run l (1 :: p) s1 k K
  | e => K e s1
noncomputable def exC {R : Type} (X : Cx) (call : q0C R) (ext : q0R) (tbl : Nat → List (Nat × Nat)) (hs : Hints) (N : Nat) (n : Nat) : Nat → List Nat → Code → S → KE R → Option R
 | 0, _, _, _, _ => none
 | f + 1, p, c, s, K => match c with
  | .skip => K .normal s
  | .region id ops draw => exJ (hintOf hs p) (z2O (tbl id) s) (fun s => K .normal s) fun k => z9D X call ext (tbl id) n ops.toList draw (z2O (tbl id) s) k
  | .seq a b => exC X call ext tbl hs N n f (0 :: p) a s fun e s1 => match e with
    | .normal => frc s1 fun s1 => exC X call ext tbl hs N n f (1 :: p) b s1 K
    | e => K e s1
  | .cond (.tmp t) a b => exJ (hintOf hs p) s (fun s => K .normal s) fun k => (match s.get t with
    | .d .bool c => bif c.toBool then exC X call ext tbl hs N n f (2 :: p) a (s.lit t c true) fun e s1 => (match e with
      | .normal => k s1
      | e => K e s1) else exC X call ext tbl hs N n f (3 :: p) b (s.lit t c false) fun e s1 => (match e with
      | .normal => k s1
      | e => K e s1)
    | _ => none)
  | .block id a => exJ (hintOf hs p) s (fun s => K .normal s) fun k => exC X call ext tbl hs N n f (4 :: p) a s fun e s1 => match e with
     | .exit i => if i = id then k s1 else K (.exit i) s1
     | .normal => k s1
     | e => K e s1
  | .loop a => (match hintOf hs p with
    | none => q9a (exC X call ext tbl hs N n f (5 :: p) a) (slotsOf s.env) f s K
    | some h => z1L (y2b h s) fun sh => q6x sh s fun ds ms => X3 N (fun rec ds ms => exC X call ext tbl hs N n f (5 :: p) a (q1P sh s.A ds ms) fun e s1 => match e with
      | .normal => q6x sh s1 rec
      | e => K e s1) ds ms)
  | .exit id => K (.exit id) s
  | .scope a => (match hintOf hs p with
    | none => exC X call ext tbl hs N n f (6 :: p) a s fun e s1 => match e with
     | .goto _ => none
     | e => K e s1
    | some h => (match q19 a with
     | some (as, l, rest) => if q9x l as = true then q3P (exC X call ext tbl hs N n f) as (6 :: p) s
       (fun s1 => z1L (y2b h s1) fun sh => q6x sh s1 fun ds ms => X3 N (fun rec ds ms => exC X call ext tbl hs N n f (7 :: p) rest (q1P sh s1.A ds ms) fun e s2 => match e with
        | .goto l' => if l' = l then q6x sh s2 rec else none
        | e => K e s2) ds ms)
       (fun e s1 => match e with
        | .goto _ => none
        | e => K e s1) else none
     | none => none))
  | .label _ => K .normal s
  | .goto l => K (.goto l) s
  | .ret => K .ret s
  | _ => none
def Way (X : Cx) (n : Nat) (c : Code) (s : S) (e : Exit) (s' : S) : Prop :=
 s'.A = s.A ∧ ∀ A', leA s.A A' → ∀ Ψ : Exit → S → Prop, Ψ e (s'.wA A') → DC X n c (s.wA A') Ψ
theorem Way.q6j {X : Cx} {n : Nat} {c : Code} {s s1 s2 : S} {e : Exit} (h : Way X n c s e s1) (hw : WkA s1 s2) : Way X n c s e s2 := by
 refine ⟨hw.1.trans h.1, fun A' hA Ψ hΨ => ?_⟩
 refine (h.2 A' hA (fun e1 s3 => e1 = e ∧ s3 = s1.wA A') ⟨rfl, rfl⟩).post ?_
 rintro e1 s3 ⟨rfl, rfl⟩
 exact ⟨_, hw.2 X n A' (by rw [h.1]; exact hA), hΨ⟩
section
variable {X : Cx} {R : Type} {call : q0C R} {ext : q0R} (hP : x3 X.P = true) (hmo : X.P.follows .mixedOrders = true) (hc : q2Z X call) (he : q2E X ext)
theorem z5O {c : Code} {n : Nat} {sh : SSh} {A0 : Key → Option O} {body : S → KE R → Option R} {K : KE R} {r : R} (hb : ∀ s (K : KE R), body s K = some r → q9o X n c s r K) :
  ∀ (N : Nat) (ds : List C) (ms : List Es), X3 N (fun rec ds ms => body (q1P sh A0 ds ms) fun e s1 => match e with
      | .normal => q6x sh s1 rec
      | e => K e s1) ds ms = some r → ∃ e s', K e s' = some r ∧ s'.A = A0 ∧ ∀ A', leA A0 A' → ∀ Ψ : Exit → S → Prop, Ψ e (s'.wA A') → ∀ (Γ0 : G) (a : Act) (w : World), At X n Γ0 ((q1P sh A0 ds ms).wA A') a w → Code.rounds X.P c (fun e a w => ∃ s', Ψ e s' ∧ At X n Γ0 s' a w) N a w
 | 0, ds, ms, h => by simp [z1v] at h
 | N + 1, ds, ms, h => by
  simp only [q7s] at h
  obtain ⟨e0, s1, h1, hA1, hD⟩ := hb _ _ h
  have hother : ∀ (hne : e0 ≠ .normal), K e0 s1 = some r → ∃ e s', K e s' = some r ∧ s'.A = A0 ∧ ∀ A', leA A0 A' → ∀ Ψ : Exit → S → Prop, Ψ e (s'.wA A') → ∀ (Γ0 : G) (a : Act) (w : World), At X n Γ0 ((q1P sh A0 ds ms).wA A') a w → Code.rounds X.P c (fun e a w => ∃ s', Ψ e s' ∧ At X n Γ0 s' a w) (N + 1) a w := by
   intro hne h1
   refine ⟨e0, s1, h1, hA1, fun A' hA Ψ hΨ Γ0 a w hat => ?_⟩
   rw [rounds_succ]
   refine wp_mono (hD A' hA (fun e1 s2 => e1 = e0 ∧ s2 = s1.wA A') ⟨rfl, rfl⟩ Γ0 a w hat) ?_
   rintro e1 a1 w1 ⟨s2, ⟨rfl, rfl⟩, hat1⟩
   cases e1 with
   | normal => exact absurd rfl hne
   | exit _ | goto _ | ret | panic _ | outgrown => exact ⟨_, hΨ, hat1⟩
  cases e0 with
  | normal =>
   obtain ⟨ds', ms', h3, hw⟩ := q68 h1
   rw [show s1.A = A0 from hA1] at hw
   obtain ⟨e, s', h4, h5, h6⟩ := z5O hb N ds' ms' h3
   refine ⟨e, s', h4, h5, fun A' hA Ψ hΨ Γ0 a w hat => ?_⟩
   rw [rounds_succ]
   refine wp_mono (hD A' hA (fun e1 s2 => e1 = .normal ∧ s2 = s1.wA A') ⟨rfl, rfl⟩ Γ0 a w hat) ?_
   rintro e1 a1 w1 ⟨s2, ⟨rfl, rfl⟩, hat1⟩
   exact h6 A' hA Ψ hΨ Γ0 a1 w1 (hw.2 X n A' (by rw [show s1.A = A0 from hA1]; exact hA) Γ0 a1 w1 hat1)
  | exit _ | goto _ | ret | panic _ | outgrown => exact hother (by simp) h1
theorem z1R {n : Nat} {r : R} {run : List Nat → Code → S → KE R → Option R} (hrun : ∀ p c s (K : KE R), run p c s K = some r → q9o X n c s r K) : ∀ (as : List Code) (p : List Nat) (s : S) (k : S → Option R) (K : KE R), q3P run as p s k K = some r →
  (∃ s1, k s1 = some r ∧ s1.A = s.A ∧ ∀ c l rest, q19 c = some (as, l, rest) → ∀ A', leA s.A A' → ∀ Ψ : Exit → S → Prop, DC X n rest (s1.wA A') Ψ → DC X n c (s.wA A') Ψ) ∨
  (∃ e s1, e ≠ .normal ∧ K e s1 = some r ∧ s1.A = s.A ∧ ∀ c l rest, q19 c = some (as, l, rest) → ∀ A', leA s.A A' → ∀ Ψ : Exit → S → Prop, Ψ e (s1.wA A') → DC X n c (s.wA A') Ψ)
 | [], p, s, k, K, h => by
  refine .inl ⟨s, h, rfl, fun c l rest hc A' hA Ψ hd => ?_⟩
  cases c <;> simp only [q19, reduceCtorEq] at hc
  rename_i a b
  split at hc
  ·cases hc
   exact X1 (z6L hd)
  ·split at hc
   ·cases hc
   ·cases hc
 | a :: as, p, s, k, K, h => by
  simp only [q3P] at h
  obtain ⟨e, s1, h1, a1, d1⟩ := hrun _ _ _ _ h
  have inv : ∀ c l rest, q19 c = some (a :: as, l, rest) → ∃ b, c = .seq a b ∧ q19 b = some (as, l, rest) := by
   intro c l rest hc
   cases c <;> simp only [q19, reduceCtorEq] at hc
   split at hc
   ·cases hc
   ·split at hc
    ·rename_i x hx
     obtain ⟨x1, x2⟩ := x
     cases hc
     exact ⟨_, rfl, hx⟩
    ·cases hc
  cases e with
  | normal =>
   rcases z1R hrun as (1 :: p) s1 k K (by dsimp only at h1; rw [z1K] at h1; exact h1) with ⟨s2, h2, a2, d2⟩ | ⟨e, s2, hne, h2, a2, d2⟩
   ·refine .inl ⟨s2, h2, a2.trans a1, fun c l rest hc A' hA Ψ hd => ?_⟩
    obtain ⟨b, rfl, hb⟩ := inv c l rest hc
    exact X1 (d1 A' hA _ (d2 b l rest hb A' (by rw [a1]; exact hA) Ψ hd))
   ·refine .inr ⟨e, s2, hne, h2, a2.trans a1, fun c l rest hc A' hA Ψ hd => ?_⟩
    obtain ⟨b, rfl, hb⟩ := inv c l rest hc
    exact X1 (d1 A' hA _ (d2 b l rest hb A' (by rw [a1]; exact hA) Ψ hd))
  | exit _ | goto _ | ret | panic _ | outgrown =>
   refine .inr ⟨_, s1, by simp, h1, a1, fun c l rest hc A' hA Ψ hd => ?_⟩
   obtain ⟨b, rfl, hb⟩ := inv c l rest hc
   exact X1 (d1 A' hA _ hd)
def Ends (X : Cx) (n : Nat) (l : Nat) (rest : Code) (sh : SSh) (A0 : Key → Option O) (e : Exit) (s' : S) : Nat → List C → List Es → Prop
 | 0, _, _ => False
 | m + 1, ds, ms => ∃ e2 s2, Way X n rest (q1P sh A0 ds ms) e2 s2 ∧ ((e2 = .goto l ∧ ∃ ds' ms', WkA s2 (q1P sh A0 ds' ms') ∧ Ends X n l rest sh A0 e s' m ds' ms') ∨ ((∀ l', e2 ≠ .goto l') ∧ e2 = e ∧ s2 = s'))
theorem z3j {n l : Nat} {rest : Code} {sh : SSh} {A0 : Key → Option O} {body : S → KE R → Option R} {K : KE R} {r : R} (hb : ∀ s (K : KE R), body s K = some r → q9o X n rest s r K) :
  ∀ (N : Nat) (ds : List C) (ms : List Es), X3 N (fun rec ds ms => body (q1P sh A0 ds ms) fun e s2 => match e with
      | .goto l' => if l' = l then q6x sh s2 rec else none
      | e => K e s2) ds ms = some r → ∃ e s', K e s' = some r ∧ s'.A = A0 ∧ (∀ l', e ≠ .goto l') ∧ Ends X n l rest sh A0 e s' N ds ms
 | 0, ds, ms, h => by simp [z1v] at h
 | N + 1, ds, ms, h => by
  rw [q7s] at h
  obtain ⟨e0, s1, h1, a1, d1⟩ := hb _ _ h
  have a1 : s1.A = A0 := a1
  cases e0 with
  | goto l' =>
   dsimp only at h1
   by_cases hl : l' = l
   ·rw [if_pos hl] at h1
    subst hl
    obtain ⟨ds', ms', h2, hw⟩ := q68 h1
    rw [a1] at hw
    obtain ⟨e, s', h3, h4, h5, h6⟩ := z3j hb N ds' ms' h2
    exact ⟨e, s', h3, h4, h5, _, s1, ⟨a1, d1⟩, .inl ⟨rfl, ds', ms', hw, h6⟩⟩
   ·rw [if_neg hl] at h1; cases h1
  | normal | exit _ | ret | panic _ | outgrown =>
   exact ⟨_, s1, h1, a1, by simp, _, s1, ⟨a1, d1⟩, .inr ⟨by simp, rfl, rfl⟩⟩
theorem y1Y {n l : Nat} {c rest : Code} {sh : SSh} {A0 : Key → Option O} {e : Exit} {s' : S} (hf : findLabel c l = some (.seq .skip rest)) {N : Nat} {ds : List C} {ms : List Es} (hE : Ends X n l rest sh A0 e s' N ds ms) {A' : Key → Option O} (hA : leA A0 A') {s0 : S}
  (first : ∀ Ψ : Exit → S → Prop, DC X n rest ((q1P sh A0 ds ms).wA A') Ψ → DC X n c s0 Ψ) {Ψ : Exit → S → Prop} (hΨ : Ψ e (s'.wA A')) : DC X n (.scope c) s0 Ψ := by
 have pass : ∀ i : { x : Nat × List C × List Es // Ends X n l rest sh A0 e s' x.1 x.2.1 x.2.2 }, DC X n rest ((q1P sh A0 i.1.2.1 i.1.2.2).wA A') fun e2 s2 => match e2 with
   | .goto l' => l' = l ∧ ∃ j : { x : Nat × List C × List Es // Ends X n l rest sh A0 e s' x.1 x.2.1 x.2.2 }, q0d X n s2 ((q1P sh A0 j.1.2.1 j.1.2.2).wA A') ∧ j.1.1 < i.1.1
   | e2 => Ψ e2 s2 := by
  rintro ⟨⟨m, ds, ms⟩, h⟩
  cases m with
  | zero => exact h.elim
  | succ m =>
   obtain ⟨e2, s2, hw, h1⟩ := h
   refine hw.2 A' hA _ ?_
   rcases h1 with ⟨rfl, ds', ms', hwk, hE'⟩ | ⟨hne, rfl, rfl⟩
   ·exact ⟨rfl, ⟨⟨m, ds', ms'⟩, hE'⟩, hwk.2 X n A' (by rw [hw.1]; exact hA), Nat.lt_succ_self m⟩
   ·cases e2 with
    | goto l' => exact absurd rfl (hne l')
    | normal | exit _ | ret | panic _ | outgrown => exact hΨ
 refine y2O l hf (fun i => (q1P sh A0 i.1.2.1 i.1.2.2).wA A') (fun i => i.1.1) ?_ (fun i => X1 (q5j (pass i)))
 refine first _ ((pass ⟨⟨N, ds, ms⟩, hE⟩).post ?_)
 intro e2 s2 h
 refine ⟨s2, q0d.refl _, ?_⟩
 cases e2 with
 | goto l' => exact ⟨h.1, h.2.choose, h.2.choose_spec.1⟩
 | normal | exit _ | ret | panic _ | outgrown => exact h
include hP hmo hc he
theorem z6o {tbl : Nat → List (Nat × Nat)} {hs : Hints} {N n : Nat} {r : R} : ∀ (f : Nat) (p : List Nat) (c : Code) (s : S) (K : KE R), exC X call ext tbl hs N n f p c s K = some r → q9o X n c s r K
 | 0, p, c, s, K, h => by simp [exC] at h
 | f + 1, p, c, s, K, h => by
  have IH := z6o (tbl := tbl) (hs := hs) (N := N) (n := n) (r := r) f
  cases c with
  | skip => exact ⟨_, _, h, rfl, fun A' hA Ψ hΨ => q5j hΨ⟩
  | region id ops draw =>
   simp only [exC] at h
   have hw := q6Z (tbl id) s
   have := q85 (P := fun s1 => Way X n (.region id ops draw) (z2O (tbl id) s) .normal s1) (G := False) (fun s1 s2 h1 h2 => h1.q6j h2) (fun s1 h => h.1) h fun k hk => by
    obtain ⟨s', h1, h2, h3⟩ := y2G hP hmo hc he (id := id) hk
    refine .inl ⟨s', h1, h2, fun A' hA Ψ hΨ => ?_⟩
    have := h3 A' hA Ψ hΨ
    simpa using this
   rcases this with ⟨s2, h1, h2⟩ | h
   ·exact ⟨_, s2, h1, h2.1.trans hw.1, fun A' hA Ψ hΨ => DC.q6j (hw.2 X n A' hA) (h2.2 A' (by rw [hw.1]; exact hA) Ψ hΨ)⟩
   ·exact h.elim
  | seq c1 c2 =>
   simp only [exC] at h
   obtain ⟨e0, s1, h1, a1, d1⟩ := IH _ c1 s _ h
   cases e0 with
   | normal =>
    obtain ⟨e2, s2, h2, a2, d2⟩ := IH (1 :: p) c2 s1 K (by dsimp only at h1; rw [z1K] at h1; exact h1)
    exact ⟨e2, s2, h2, a2.trans a1, fun A' hA Ψ hΨ => X1 (d1 A' hA _ (d2 A' (by rw [a1]; exact hA) Ψ hΨ))⟩
   | exit _ | goto _ | ret | panic _ | outgrown => exact ⟨_, s1, h1, a1, fun A' hA Ψ hΨ => X1 (d1 A' hA _ hΨ)⟩
  | cond t c1 c2 =>
   cases t with
   | tmp t =>
    simp only [exC] at h
    have := q85 (P := fun s1 => Way X n (.cond (.tmp t) c1 c2) s .normal s1) (G := q9o X n (.cond (.tmp t) c1 c2) s r K) (fun s1 s2 h1 h2 => h1.q6j h2) (fun s1 h => h.1) h fun k hk => by
     split at hk
     ·rename_i v hv
      cases hb : v.toBool with
      | true =>
       rw [hb] at hk
       simp only [cond_true] at hk
       rw [z5R hv hb] at hk
       obtain ⟨e2, s2, h2, a2, d2⟩ := IH _ c1 s _ hk
       have w2 : Way X n (.cond (.tmp t) c1 c2) s e2 s2 := ⟨a2, fun A' hA Ψ hΨ => z6M hv (fun _ => d2 A' hA Ψ hΨ) (fun h => by rw [hb] at h; cases h)⟩
       cases e2 with
       | normal => exact .inl ⟨s2, h2, w2⟩
       | exit _ | goto _ | ret | panic _ | outgrown => exact .inr ⟨_, s2, h2, w2⟩
      | false =>
       rw [hb] at hk
       simp only [cond_false] at hk
       rw [z5R hv hb] at hk
       obtain ⟨e2, s2, h2, a2, d2⟩ := IH _ c2 s _ hk
       have w2 : Way X n (.cond (.tmp t) c1 c2) s e2 s2 := ⟨a2, fun A' hA Ψ hΨ => z6M hv (fun h => by rw [hb] at h; cases h) (fun _ => d2 A' hA Ψ hΨ)⟩
       cases e2 with
       | normal => exact .inl ⟨s2, h2, w2⟩
       | exit _ | goto _ | ret | panic _ | outgrown => exact .inr ⟨_, s2, h2, w2⟩
     ·cases hk
    rcases this with ⟨s2, h1, h2⟩ | h
    ·exact ⟨_, s2, h1, h2⟩
    ·exact h
   | const _ | global _ | func _ => simp [exC] at h
  | block id c1 =>
   simp only [exC] at h
   have := q85 (P := fun s1 => Way X n (.block id c1) s .normal s1) (G := q9o X n (.block id c1) s r K) (fun s1 s2 h1 h2 => h1.q6j h2) (fun s1 h => h.1) h fun k hk => by
    obtain ⟨e0, s1, h1, a1, d1⟩ := IH _ c1 s _ hk
    cases e0 with
    | exit i =>
     dsimp only at h1
     by_cases hi : i = id
     ·rw [if_pos hi] at h1
      refine .inl ⟨s1, h1, a1, fun A' hA Ψ hΨ => q7O (d1 A' hA _ ?_)⟩
      simp only
      rw [if_pos hi]; exact hΨ
     ·rw [if_neg hi] at h1
      refine .inr ⟨_, s1, h1, a1, fun A' hA Ψ hΨ => q7O (d1 A' hA _ ?_)⟩
      simp only
      rw [if_neg hi]; exact hΨ
    | normal => exact .inl ⟨s1, h1, a1, fun A' hA Ψ hΨ => q7O (d1 A' hA _ hΨ)⟩
    | goto _ | ret | panic _ | outgrown => exact .inr ⟨_, s1, h1, a1, fun A' hA Ψ hΨ => q7O (d1 A' hA _ hΨ)⟩
   rcases this with ⟨s2, h1, h2⟩ | h
   ·exact ⟨_, s2, h1, h2⟩
   ·exact h
  | loop c1 =>
   simp only [exC] at h
   split at h
   ·obtain ⟨e, s', h1, h2, h3⟩ := z3P (fun s K h => IH _ c1 s K h) f s K h
    exact ⟨e, s', h1, h2, fun A' hA Ψ hΨ Γ0 a w hat => wp_loop_rounds f (h3 A' hA Ψ hΨ Γ0 a w hat)⟩
   ·rename_i hh
    rw [z0P] at h
    obtain ⟨ds, ms, h1, hw⟩ := q68 h
    obtain ⟨e, s', h4, h5, h6⟩ := z5O (c := c1) (body := exC X call ext tbl hs N n f (5 :: p) c1) (fun s K h => IH _ c1 s K h) N ds ms h1
    exact ⟨e, s', h4, h5, fun A' hA Ψ hΨ Γ0 a w hat => wp_loop_rounds N (h6 A' hA Ψ hΨ Γ0 a w (hw.2 X n A' hA Γ0 a w hat))⟩
  | exit id => exact ⟨_, _, h, rfl, fun A' hA Ψ hΨ => y4o hΨ⟩
  | scope c1 =>
   simp only [exC] at h
   split at h
   ·obtain ⟨e0, s1, h1, a1, d1⟩ := IH _ c1 s _ h
    cases e0 with
    | goto i => cases h1
    | normal | exit _ | ret | panic _ | outgrown => exact ⟨_, s1, h1, a1, fun A' hA Ψ hΨ => q4U (d1 A' hA _ hΨ)⟩
   ·rename_i hh _
    split at h
    ·rename_i as l rest hd
     simp only [Option.ite_none_right_eq_some] at h
     obtain ⟨hnl, h⟩ := h
     rcases z1R (fun p c s K h => IH p c s K h) as _ s _ _ h with ⟨s1, h1, a1, d1⟩ | ⟨e, s1, hne, h1, a1, d1⟩
     ·rw [z0P] at h1
      obtain ⟨ds, ms, h2, hw⟩ := q68 h1
      obtain ⟨e, s', h3, h4, h5, h6⟩ := z3j (rest := rest) (body := exC X call ext tbl hs N n f (7 :: p) rest) (fun s K h => IH _ rest s K h) N ds ms h2
      refine ⟨e, s', h3, h4.trans a1, fun A' hA Ψ hΨ => ?_⟩
      exact y1Y (z0e _ hd hnl) h6 (by rw [a1]; exact hA) (fun Ψ' hd' => d1 c1 l rest hd A' hA Ψ' (DC.q6j (hw.2 X n A' (by rw [a1]; exact hA)) hd')) hΨ
     ·cases e with
      | goto i => cases h1
      | normal | exit _ | ret | panic _ | outgrown => exact ⟨_, s1, h1, a1, fun A' hA Ψ hΨ => q4U (d1 c1 l rest hd A' hA _ hΨ)⟩
    ·cases h
  | label _ => exact ⟨_, _, h, rfl, fun A' hA Ψ hΨ => z6L hΨ⟩
  | goto _ => exact ⟨_, _, h, rfl, fun A' hA Ψ hΨ => y4n hΨ⟩
  | ret => exact ⟨_, _, h, rfl, fun A' hA Ψ hΨ => q5M hΨ⟩
  | rangeFunc _ _ _ _ => simp [exC] at h
  | refuse _ => simp [exC] at h
end
noncomputable def exF {R : Type} (X : Cx) (ov : OvK R) (ext : q0R) (tbl : FuncId → Nat → List (Nat × Nat)) (hs : FuncId → Hints) (N fuel : Nat) : Nat → q0C R
 | 0, _, _, _, _ => none
 | d + 1, f, xs, A, K => match ov f with
  | some g => g xs A K
  | none => (match X.P.funcs[f]? with
   | some fn => (match fn.body with
    | some c => if xs.length ≤ fn.ntmps then exJ (hintOf (hs f) [9]) (S.start xs A) (fun s => z9C X fn s K) fun k => exC X (exF X ov ext tbl hs N fuel d) ext (tbl f) (hs f) N fn.ntmps fuel [] c (nbS (S.start xs A)) fun e s => (match e with
       | .normal => k s
       | .ret => k s
       | _ => none) else none
    | none => none)
   | none => none)
section
variable {X : Cx} {R : Type} {ov : OvK R} {ext : q0R} (hP : x3 X.P = true) (hmo : X.P.follows .mixedOrders = true) (hov : z4K X ov) (he : q2E X ext)
include hP hmo hov he
theorem z6n {tbl : FuncId → Nat → List (Nat × Nat)} {hs : FuncId → Hints} {N fuel : Nat} : ∀ d, q2Z X (exF X ov ext tbl hs N fuel d)
 | 0 => by intro f xs A K r h; simp [exF] at h
 | d + 1 => by
  intro f xs A K r h
  simp only [exF] at h
  split at h
  ·rename_i g hg
   exact hov f g hg xs A K r h
  split at h
  ·rename_i fn hf
   split at h
   ·rename_i c hb
    simp only [Option.ite_none_right_eq_some] at h
    obtain ⟨hl, h⟩ := h
    have := q85 (P := fun s1 => ∃ e : Exit, (e = .normal ∨ e = .ret) ∧ Way X fn.ntmps c (S.start xs A) e s1) (G := False) (fun s1 s2 ⟨e, h1, h2⟩ h3 => ⟨e, h1, h2.q6j h3⟩) (fun s1 ⟨e, _, h⟩ => h.1) h fun k hk => by
     obtain ⟨e, s', h1, h2⟩ := z6o hP hmo (z6n d) he fuel [] c (nbS (S.start xs A)) _ hk
     have h2 : Way X fn.ntmps c (S.start xs A) e s' := ⟨h2.1, fun A' hA Ψ hΨ => DC.q6j ((z5I (S.start xs A)).2 X fn.ntmps A' hA) (h2.2 A' hA Ψ hΨ)⟩
     cases e with
     | normal => exact .inl ⟨s', h1, _, .inl rfl, h2⟩
     | ret => exact .inl ⟨s', h1, _, .inr rfl, h2⟩
     | exit _ | goto _ | panic _ | outgrown => cases h1
    rcases this with ⟨s', h1, e, he', h2, h3⟩ | h
    ·obtain ⟨v, L, h4, h5⟩ := z6u h1
     refine ⟨v, L, q3r hP hf hb rfl hl fun A' hA => ?_, h4⟩
     exact h3 A' hA (fun e s' => (e = .normal ∨ e = .ret) ∧ q28 X fn A' v L s') ⟨he', h5 A' (by rw [h2]; exact hA)⟩
    ·exact h.elim
   ·cases h
  ·cases h
end
end Go.E
namespace Go.E
open Go
def q23 (a b k : Key) : Key := if k = a then b else if k = b then a else k
theorem q2v (a b k : Key) : q23 a b (q23 a b k) = k := by
 unfold q23
 by_cases h1 : k = a
 ·subst h1
  rw [if_pos rfl]
  by_cases h2 : b = k
  ·rw [if_pos h2]; exact h2
  ·rw [if_neg h2, if_pos rfl]
 ·rw [if_neg h1]
  by_cases h2 : k = b
  ·subst h2; rw [if_pos rfl, if_pos rfl]
  ·rw [if_neg h2, if_neg h1, if_neg h2]
def swU (a b : Key) : Key → Key
 | .g k => .g (q23 a b k)
 | .l n => .l n
theorem q2d (a b k : Key) : swU a b (swU a b k) = k := by
 cases k <;> simp [swU, q2v]
def Tip.y10 (ρ : Key → Key) : Tip → Tip
 | .tok t => .tok t
 | .home k p => .home (ρ k) p
def G.perm (Γ : G) (ρ : Key → Key) : G := { Γ with ι := fun k => Γ.ι (ρ k), κ := fun b => (Γ.κ b).map fun p => (p.1.y10 ρ, p.2) }
def permA (a b : Key) (A : Key → Option O) : Key → Option O := fun k => (A (q23 a b k)).map (O.ren (swU a b))
def z1m (a b : Key) (L : List (Key × O)) : List (Key × O) := L.map fun p => (swU a b p.1, p.2.ren (swU a b))
theorem z1x (a b : Key) : ∀ (L : List (Key × O)) (k : Key), z7 (z1m a b L) k = (z7 L (swU a b k)).map (O.ren (swU a b))
 | [], _ => rfl
 | (j, o) :: L, k => by
  show (if swU a b j = k then some (o.ren (swU a b)) else z7 (z1m a b L) k) = (if j = swU a b k then some o else z7 L (swU a b k)).map (O.ren (swU a b))
  by_cases h : j = swU a b k
  ·have : swU a b j = k := by rw [h, q2d]
   rw [if_pos this, if_pos h]; rfl
  ·have : swU a b j ≠ k := fun e => h (by rw [← e, q2d])
   rw [if_neg this, if_neg h]; exact z1x a b L k
theorem z8.perm {Γ : G} {w : World} {s s' : S} {ρ : Key → Key} (c : z8 Γ w s) (hρ : ∀ k, ρ (ρ k) = k) (ho : ∀ k, s'.obj k = (s.obj (ρ k)).map (O.ren ρ)) (hl : ∀ t, s'.live t = s.live t) (hk : ∀ t, s.known t = true → s'.known t = true) : z8 (Γ.perm ρ) w s' := by
 have pr : ∀ hm, q1Q Γ (Γ.perm ρ) ρ hm := fun hm => ⟨Hp.le_refl _, fun k x h => by simp [G.perm, hρ, h], fun _ _ h => h, fun k b p sz _ h => ⟨by simp [G.perm, h, Tip.y10], rfl⟩⟩
 have hd : ∀ k, s.r6 (ρ k) = true → s'.r6 k = true := fun k h => by
  unfold S.r6 at h ⊢
  rw [ho]
  cases hs : s.obj (ρ k) with
  | none => rw [hs] at h; cases h
  | some o => rw [hs] at h; simpa [q9O, O.q3a] using h
 refine ⟨c.hH, c.hZ, fun b o sz h => ?_, fun k o h => ?_, fun k h => ?_, fun k k' b τ τ' h1 h2 => ?_, fun t L h => ?_, fun t ht => hk t (c.tdom t ht), c.hgl, c.hoo, c.hσ⟩
 ·cases hb : Γ.κ b with
  | none => simp [G.perm, hb] at h
  | some p =>
   obtain ⟨t, sz'⟩ := p
   simp [G.perm, hb] at h
   obtain ⟨rfl, rfl⟩ := h
   obtain ⟨a1, a2, arr, T, a3, a4, a5⟩ := c.hκ b t sz' hb
   exact ⟨a1, a2, arr, T, a3, a4, by cases t with
    | tok => trivial
    | home _ p => cases p <;> exact a5⟩
 ·rw [ho] at h
  cases hs : s.obj (ρ k) with
  | none => rw [hs] at h; cases h
  | some o0 =>
   rw [hs] at h; cases h
   refine (c.obj (ρ k) o0 hs).imp (fun h => ⟨h.1, O.q7e h.2⟩) fun hown => ?_
   have := Own.ren (pr _) (w' := w) (fun hd b τ hb => by
    obtain ⟨e1, e2, _⟩ := c.X2 hb hs hd
    exact ⟨rfl, e1, e2⟩) (Nat.le_refl _) hown
   rw [hρ] at this
   exact this
 ·rw [ho]
  have := c.dom (ρ k) h
  cases hs : s.obj (ρ k) with
  | none => exact absurd hs this
  | some o => simp
 ·refine (c.inj (ρ k) (ρ k') b τ τ' h1 h2).imp (fun e => by rw [← hρ k, e, hρ]) (And.imp (Or.imp (hd k) (hd k')) id)
 ·rw [hl] at h
  obtain ⟨x, h1, h2⟩ := c.tok t L h
  refine ⟨x, h1, fun b pos sz hx => ?_⟩
  obtain ⟨h3, h4⟩ := h2 b pos sz hx
  exact ⟨h3, by simp [G.perm, h4, Tip.y10]⟩
def W4 (a b : Key) (x : V) : V := x.ren (swU a b) id
theorem z3l (a b : Key) (x : V) : W4 a b (W4 a b x) = x := V.q2P _ _ (q2d a b) x
theorem y0s (a b : Key) (n : Nat) (x : V) : (W4 a b x).F1 n = x.F1 n := by cases x <;> simp [W4, V.ren, V.F1]
theorem y0t (a b : Key) (n : Nat) (x : V) : (W4 a b x).slot n = W4 a b (x.slot n) := by cases x <;> simp [W4, V.ren, V.slot]
theorem q4V (a b : Key) : ∀ (n : Nat) (xs : List V), q0S n (xs.map (W4 a b)) = q0S n xs
 | _, [] => rfl
 | n, x :: xs => by simp only [List.map_cons, q0S, y0s, q4V a b (n + 1) xs]
theorem q7g (a b : Key) : ∀ (n : Nat) (xs : List V), Z3 n (xs.map (W4 a b)) = (Z3 n xs).map (W4 a b)
 | _, [] => rfl
 | n, x :: xs => by simp only [List.map_cons, Z3, y0t, q7g a b (n + 1) xs]
theorem z5f (a b : Key) : ∀ (xs : List V), V.U7 (swU a b) id xs = xs.map (W4 a b)
 | [] => rfl
 | x :: xs => by simp only [V.U7, List.map_cons, z5f a b xs]; rfl
theorem z0v (a b : Key) (xs : List V) : W4 a b (.tup xs) = .tup (xs.map (W4 a b)) := by
 simp only [W4, V.ren, z5f]
theorem z8S (a b : Key) (n : Nat) (x : V) : (W4 a b x).Y1 n = W4 a b (x.Y1 n) := by
 cases x with
 | tup xs => rw [z0v]; simp only [V.Y1]; rw [q7g, z0v]
 | nilc => rfl
 | d | sl | ts | emp | ptr | cptr | sr | mp | agg | fn | top | any => simp [W4, V.ren, V.Y1, V.slot]
theorem z5g (a b : Key) (n : Nat) (x : V) : (W4 a b x).tkR n = x.tkR n := by
 cases x with
 | tup xs => rw [z0v]; simp only [V.tkR]; exact q4V a b n xs
 | nilc => rfl
 | d | sl | ts | emp | ptr | cptr | sr | mp | agg | fn | top | any => simp [W4, V.ren, V.tkR, V.F1]
theorem O.y3S (a b : Key) {o : O} (h : o.ok s8 s8 = true) : (o.ren (swU a b)).ok s8 s8 = true := by
 have key : (∀ x : V, x.ok s8 s8 = true → (x.ren (swU a b) id).ok s8 s8 = true) := by
  intro x
  induction x using V.rec (motive_2 := fun xs => V.oks s8 s8 xs = true → V.oks s8 s8 (V.U7 (swU a b) id xs) = true) with
  | ptr k q τ => intro h; cases k <;> simp [V.ok, V.ren, swU, s8] at h ⊢
  | sr k q lo n cp eb e => intro h; cases k <;> simp [V.ok, V.ren, swU, s8] at h ⊢
  | mp k => intro h; cases k <;> simp [V.ok, V.ren, swU, s8] at h ⊢
  | sl => intro h; simp [V.ok, s8] at h
  | agg τ vs ih => intro h; simp only [V.ok, V.ren] at h ⊢; exact ih h
  | fn f vs ih => intro h; simp only [V.ok, V.ren] at h ⊢; exact ih h
  | tup vs ih => intro h; simp only [V.ok, V.ren] at h ⊢; exact ih h
  | nil => simp only [V.U7, V.oks]
  | cons x xs ih1 ih2 h =>
   simp only [V.oks, Bool.and_eq_true] at h
   simp only [V.U7, V.oks, Bool.and_eq_true]
   exact ⟨ih1 h.1, ih2 h.2⟩
  | _ => intro _; simp only [V.ren, V.ok]
 cases o with
 | box x => exact key x h
 | map kτ vτ es =>
  simp only [O.ren, O.ok] at h ⊢
  induction es with
  | nil => rfl
  | cons c es ih =>
   simp only [V.q0a, Bool.and_eq_true] at h
   simp only [List.map_cons, V.q0a, Bool.and_eq_true]
   exact ⟨key _ h.1, ih h.2⟩
 | it => rfl
 | dead => rfl
theorem j3.swap {X : Cx} {f : FuncId} {xs : List V} {A : Key → Option O} {v : V} {L : List (Key × O)} (a b : Key) (D : j3 X f xs A v L) :
  j3 X f (xs.map (W4 a b)) (permA a b A) (W4 a b v) (z1m a b L) := by
 intro A' Γ w args hA hgl ⟨c, hok⟩ hlen hr
 have hxs : (xs.map (W4 a b)).map (W4 a b) = xs := by
  rw [List.map_map]
  exact (List.map_congr_left (g := id) fun x _ => z3l a b x).trans (List.map_id _)
 have hA' : ∀ k o, A k = some o → permA a b A' k = some o := by
  intro k o h
  have h1 : permA a b A (q23 a b k) = some (o.ren (swU a b)) := by simp [permA, q2v, h]
  have h2 := hA _ _ h1
  simp [permA, h2, O.q2P _ _ (q2d a b)]
 have hobj : ∀ k, S.obj (S.start xs (permA a b A')) k = (S.obj (S.start (xs.map (W4 a b)) A') (swU a b k)).map (O.ren (swU a b)) := by
  intro k
  cases k with
  | l n => rfl
  | g k => simp [S.start, S.obj, c8, z7, swU, permA]
 have c1 := c.perm (s' := S.start xs (permA a b A')) (q2d a b) hobj (fun t => by simp only [S.start, S.live, q4V]) (fun t h => by simpa only [S.start, S.known, q4V] using h)
 have hok1 : AOk (permA a b A') := by
  intro k o h
  unfold permA at h
  cases hk : A' (q23 a b k) with
  | none => rw [hk] at h; cases h
  | some o0 => rw [hk] at h; cases h; exact O.y3S a b (hok _ _ hk)
 have pr : q1Q Γ (Γ.perm (swU a b)) (swU a b) none := ⟨Hp.le_refl _, fun k x h => by simp [G.perm, q2d, h], fun _ _ h => h, fun k _ _ _ h => by cases h⟩
 refine (D (permA a b A') (Γ.perm (swU a b)) w args hA' hgl ⟨c1, hok1⟩ (by simpa using hlen) fun i x u hx hu => ?_).mono ?_
 ·have h1 : (Z3 1000 (xs.map (W4 a b)))[i]? = some (W4 a b x) := by rw [q7g, List.getElem?_map, hx]; rfl
  have := (hr i _ u h1 hu).ren (θ := id) pr (fun _ _ h => h)
  have e : V.ren (swU a b) id (W4 a b x) = x := z3l a b x
  rwa [e] at this
 ·rintro e w' ⟨u, Γ', rfl, gle, c', hu⟩
  have hobj' : ∀ k, S.obj (S.fin (W4 a b v) (z1m a b L) A') k = (S.obj (S.fin v L (permA a b A')) (swU a b k)).map (O.ren (swU a b)) := by
   intro k
   simp only [S.fin, S.obj, c8, z1x]
   cases hl : z7 L (swU a b k) with
   | some o => rfl
   | none =>
    cases k with
    | l n => rfl
    | g k =>
     simp only [Option.map_none, swU, permA, q2v]
     cases A' k with
     | none => rfl
     | some o => simp [O.q2P _ _ (q2d a b)]
  have c2 := c'.perm (s' := S.fin (W4 a b v) (z1m a b L) A') (q2d a b) hobj' (fun t => by simp only [S.fin, S.live, z5g]) (fun t h => by simpa only [S.fin, S.known, z5g] using h)
  have pr' : q1Q Γ' (Γ'.perm (swU a b)) (swU a b) none := ⟨Hp.le_refl _, fun k x h => by simp [G.perm, q2d, h], fun _ _ h => h, fun k _ _ _ h => by cases h⟩
  refine ⟨u, Γ'.perm (swU a b), rfl, ⟨gle.H, gle.Z, gle.ZH, fun k x h => ?_, gle.gl, gle.oo, gle.σ, fun k h => ?_⟩, c2, ?_⟩
  ·refine gle.g (q23 a b k) x ?_
   show Γ.ι (swU a b (.g (q23 a b k))) = some x
   simp [swU, q2v, h]
  ·refine gle.gn (q23 a b k) ?_
   show Γ.ι (swU a b (.g (q23 a b k))) = none
   simp [swU, q2v, h]
  ·rw [z8S]
   exact hu.ren (θ := id) pr' (fun _ _ h => h)
def q9G : List (Nat × (List V → Option V)) → q0R
 | [], _ => none
 | (i, g) :: l, f => bif Nat.beq f i then some g else q9G l f
def q4F (X : Cx) : List (Nat × (List V → Option V)) → Prop
 | [] => True
 | p :: l => (∀ xs v, p.2 xs = some v → q6h X p.1 xs v) ∧ q4F X l
theorem z1Q {X : Cx} : ∀ {l : List (Nat × (List V → Option V))}, q4F X l → q2E X (q9G l)
 | [], _ => fun f g xs v h _ => by cases h
 | (i, g0) :: l, h => fun f g xs v hf hv => by
  simp only [q9G] at hf
  cases hb : Nat.beq f i with
  | true =>
   rw [hb, cond_true] at hf
   cases hf
   obtain rfl := Nat.eq_of_beq_eq_true hb
   exact h.1 xs v hv
  | false =>
   rw [hb, cond_false] at hf
   exact z1Q h.2 f g xs v hf hv
theorem q4F.append {X : Cx} : ∀ {l m : List (Nat × (List V → Option V))}, q4F X l → q4F X m → q4F X (l ++ m)
 | [], _, _, h => h
 | _ :: _, _, h, h' => ⟨h.1, h.2.append h'⟩
@[go_sem] theorem q09 {a0 : C} {l : List C} : dk (a0 :: l) 0 = a0 := rfl
@[go_sem] theorem q1K {a0 a1 : C} {l : List C} : dk (a0 :: a1 :: l) 1 = a1 := rfl
@[go_sem] theorem z6F {a0 a1 a2 : C} {l : List C} : dk (a0 :: a1 :: a2 :: l) 2 = a2 := rfl
@[go_sem] theorem z6E {a0 a1 a2 a3 : C} {l : List C} : dk (a0 :: a1 :: a2 :: a3 :: l) 3 = a3 := rfl
@[go_sem] theorem z9J {a0 a1 a2 a3 a4 : C} {l : List C} : dk (a0 :: a1 :: a2 :: a3 :: a4 :: l) 4 = a4 := rfl
@[go_sem] theorem z9I {a0 a1 a2 a3 a4 a5 : C} {l : List C} : dk (a0 :: a1 :: a2 :: a3 :: a4 :: a5 :: l) 5 = a5 := rfl
@[go_sem] theorem z9H {a0 a1 a2 a3 a4 a5 a6 : C} {l : List C} : dk (a0 :: a1 :: a2 :: a3 :: a4 :: a5 :: a6 :: l) 6 = a6 := rfl
@[go_sem] theorem y62 {a0 a1 a2 a3 a4 a5 a6 a7 : C} {l : List C} : dk (a0 :: a1 :: a2 :: a3 :: a4 :: a5 :: a6 :: a7 :: l) 7 = a7 := rfl
@[go_sem] theorem y61 {a0 a1 a2 a3 a4 a5 a6 a7 a8 : C} {l : List C} : dk (a0 :: a1 :: a2 :: a3 :: a4 :: a5 :: a6 :: a7 :: a8 :: l) 8 = a8 := rfl
@[go_sem] theorem y60 {a0 a1 a2 a3 a4 a5 a6 a7 a8 a9 : C} {l : List C} : dk (a0 :: a1 :: a2 :: a3 :: a4 :: a5 :: a6 :: a7 :: a8 :: a9 :: l) 9 = a9 := rfl
@[go_sem] theorem y6S {a0 a1 a2 a3 a4 a5 a6 a7 a8 a9 a10 : C} {l : List C} : dk (a0 :: a1 :: a2 :: a3 :: a4 :: a5 :: a6 :: a7 :: a8 :: a9 :: a10 :: l) 10 = a10 := rfl
@[go_sem] theorem y6R {a0 a1 a2 a3 a4 a5 a6 a7 a8 a9 a10 a11 : C} {l : List C} : dk (a0 :: a1 :: a2 :: a3 :: a4 :: a5 :: a6 :: a7 :: a8 :: a9 :: a10 :: a11 :: l) 11 = a11 := rfl
@[go_sem] theorem y6Q {a0 a1 a2 a3 a4 a5 a6 a7 a8 a9 a10 a11 a12 : C} {l : List C} : dk (a0 :: a1 :: a2 :: a3 :: a4 :: a5 :: a6 :: a7 :: a8 :: a9 :: a10 :: a11 :: a12 :: l) 12 = a12 := rfl
@[go_sem] theorem y6P {a0 a1 a2 a3 a4 a5 a6 a7 a8 a9 a10 a11 a12 a13 : C} {l : List C} : dk (a0 :: a1 :: a2 :: a3 :: a4 :: a5 :: a6 :: a7 :: a8 :: a9 :: a10 :: a11 :: a12 :: a13 :: l) 13 = a13 := rfl
@[go_sem] theorem y6O {a0 a1 a2 a3 a4 a5 a6 a7 a8 a9 a10 a11 a12 a13 a14 : C} {l : List C} : dk (a0 :: a1 :: a2 :: a3 :: a4 :: a5 :: a6 :: a7 :: a8 :: a9 :: a10 :: a11 :: a12 :: a13 :: a14 :: l) 14 = a14 := rfl
@[go_sem] theorem y6N {a0 a1 a2 a3 a4 a5 a6 a7 a8 a9 a10 a11 a12 a13 a14 a15 : C} {l : List C} : dk (a0 :: a1 :: a2 :: a3 :: a4 :: a5 :: a6 :: a7 :: a8 :: a9 :: a10 :: a11 :: a12 :: a13 :: a14 :: a15 :: l) 15 = a15 := rfl
@[go_sem] theorem y6M {a0 a1 a2 a3 a4 a5 a6 a7 a8 a9 a10 a11 a12 a13 a14 a15 a16 : C} {l : List C} : dk (a0 :: a1 :: a2 :: a3 :: a4 :: a5 :: a6 :: a7 :: a8 :: a9 :: a10 :: a11 :: a12 :: a13 :: a14 :: a15 :: a16 :: l) 16 = a16 := rfl
@[go_sem] theorem y6L {a0 a1 a2 a3 a4 a5 a6 a7 a8 a9 a10 a11 a12 a13 a14 a15 a16 a17 : C} {l : List C} : dk (a0 :: a1 :: a2 :: a3 :: a4 :: a5 :: a6 :: a7 :: a8 :: a9 :: a10 :: a11 :: a12 :: a13 :: a14 :: a15 :: a16 :: a17 :: l) 17 = a17 := rfl
@[go_sem] theorem y6K {a0 a1 a2 a3 a4 a5 a6 a7 a8 a9 a10 a11 a12 a13 a14 a15 a16 a17 a18 : C} {l : List C} : dk (a0 :: a1 :: a2 :: a3 :: a4 :: a5 :: a6 :: a7 :: a8 :: a9 :: a10 :: a11 :: a12 :: a13 :: a14 :: a15 :: a16 :: a17 :: a18 :: l) 18 = a18 := rfl
@[go_sem] theorem y6J {a0 a1 a2 a3 a4 a5 a6 a7 a8 a9 a10 a11 a12 a13 a14 a15 a16 a17 a18 a19 : C} {l : List C} : dk (a0 :: a1 :: a2 :: a3 :: a4 :: a5 :: a6 :: a7 :: a8 :: a9 :: a10 :: a11 :: a12 :: a13 :: a14 :: a15 :: a16 :: a17 :: a18 :: a19 :: l) 19 = a19 := rfl
@[go_sem] theorem y6I {a0 a1 a2 a3 a4 a5 a6 a7 a8 a9 a10 a11 a12 a13 a14 a15 a16 a17 a18 a19 a20 : C} {l : List C} : dk (a0 :: a1 :: a2 :: a3 :: a4 :: a5 :: a6 :: a7 :: a8 :: a9 :: a10 :: a11 :: a12 :: a13 :: a14 :: a15 :: a16 :: a17 :: a18 :: a19 :: a20 :: l) 20 = a20 := rfl
@[go_sem] theorem y6H {a0 a1 a2 a3 a4 a5 a6 a7 a8 a9 a10 a11 a12 a13 a14 a15 a16 a17 a18 a19 a20 a21 : C} {l : List C} : dk (a0 :: a1 :: a2 :: a3 :: a4 :: a5 :: a6 :: a7 :: a8 :: a9 :: a10 :: a11 :: a12 :: a13 :: a14 :: a15 :: a16 :: a17 :: a18 :: a19 :: a20 :: a21 :: l) 21 = a21 := rfl
@[go_sem] theorem y6G {a0 a1 a2 a3 a4 a5 a6 a7 a8 a9 a10 a11 a12 a13 a14 a15 a16 a17 a18 a19 a20 a21 a22 : C} {l : List C} : dk (a0 :: a1 :: a2 :: a3 :: a4 :: a5 :: a6 :: a7 :: a8 :: a9 :: a10 :: a11 :: a12 :: a13 :: a14 :: a15 :: a16 :: a17 :: a18 :: a19 :: a20 :: a21 :: a22 :: l) 22 = a22 := rfl
@[go_sem] theorem y6F {a0 a1 a2 a3 a4 a5 a6 a7 a8 a9 a10 a11 a12 a13 a14 a15 a16 a17 a18 a19 a20 a21 a22 a23 : C} {l : List C} : dk (a0 :: a1 :: a2 :: a3 :: a4 :: a5 :: a6 :: a7 :: a8 :: a9 :: a10 :: a11 :: a12 :: a13 :: a14 :: a15 :: a16 :: a17 :: a18 :: a19 :: a20 :: a21 :: a22 :: a23 :: l) 23 = a23 := rfl
@[go_sem] theorem y6E {a0 a1 a2 a3 a4 a5 a6 a7 a8 a9 a10 a11 a12 a13 a14 a15 a16 a17 a18 a19 a20 a21 a22 a23 a24 : C} {l : List C} : dk (a0 :: a1 :: a2 :: a3 :: a4 :: a5 :: a6 :: a7 :: a8 :: a9 :: a10 :: a11 :: a12 :: a13 :: a14 :: a15 :: a16 :: a17 :: a18 :: a19 :: a20 :: a21 :: a22 :: a23 :: a24 :: l) 24 = a24 := rfl
@[go_sem] theorem y6D {a0 a1 a2 a3 a4 a5 a6 a7 a8 a9 a10 a11 a12 a13 a14 a15 a16 a17 a18 a19 a20 a21 a22 a23 a24 a25 : C} {l : List C} : dk (a0 :: a1 :: a2 :: a3 :: a4 :: a5 :: a6 :: a7 :: a8 :: a9 :: a10 :: a11 :: a12 :: a13 :: a14 :: a15 :: a16 :: a17 :: a18 :: a19 :: a20 :: a21 :: a22 :: a23 :: a24 :: a25 :: l) 25 = a25 := rfl
@[go_sem] theorem y6o {a0 : C} {l : List C} : C.get (.agg (a0 :: l)) 0 = a0 := rfl
@[go_sem] theorem y6n {a0 a1 : C} {l : List C} : C.get (.agg (a0 :: a1 :: l)) 1 = a1 := rfl
@[go_sem] theorem y6m {a0 a1 a2 : C} {l : List C} : C.get (.agg (a0 :: a1 :: a2 :: l)) 2 = a2 := rfl
@[go_sem] theorem y6l {a0 a1 a2 a3 : C} {l : List C} : C.get (.agg (a0 :: a1 :: a2 :: a3 :: l)) 3 = a3 := rfl
@[go_sem] theorem y6k {a0 a1 a2 a3 a4 : C} {l : List C} : C.get (.agg (a0 :: a1 :: a2 :: a3 :: a4 :: l)) 4 = a4 := rfl
@[go_sem] theorem y6j {a0 a1 a2 a3 a4 a5 : C} {l : List C} : C.get (.agg (a0 :: a1 :: a2 :: a3 :: a4 :: a5 :: l)) 5 = a5 := rfl
@[go_sem] theorem y6i {a0 a1 a2 a3 a4 a5 a6 : C} {l : List C} : C.get (.agg (a0 :: a1 :: a2 :: a3 :: a4 :: a5 :: a6 :: l)) 6 = a6 := rfl
@[go_sem] theorem y6h {a0 a1 a2 a3 a4 a5 a6 a7 : C} {l : List C} : C.get (.agg (a0 :: a1 :: a2 :: a3 :: a4 :: a5 :: a6 :: a7 :: l)) 7 = a7 := rfl
@[go_sem] theorem y6g {a0 a1 a2 a3 a4 a5 a6 a7 a8 : C} {l : List C} : C.get (.agg (a0 :: a1 :: a2 :: a3 :: a4 :: a5 :: a6 :: a7 :: a8 :: l)) 8 = a8 := rfl
@[go_sem] theorem y6f {a0 a1 a2 a3 a4 a5 a6 a7 a8 a9 : C} {l : List C} : C.get (.agg (a0 :: a1 :: a2 :: a3 :: a4 :: a5 :: a6 :: a7 :: a8 :: a9 :: l)) 9 = a9 := rfl
@[go_sem] theorem y5X {a0 a1 a2 a3 a4 a5 a6 a7 a8 a9 a10 : C} {l : List C} : C.get (.agg (a0 :: a1 :: a2 :: a3 :: a4 :: a5 :: a6 :: a7 :: a8 :: a9 :: a10 :: l)) 10 = a10 := rfl
@[go_sem] theorem y5W {a0 a1 a2 a3 a4 a5 a6 a7 a8 a9 a10 a11 : C} {l : List C} : C.get (.agg (a0 :: a1 :: a2 :: a3 :: a4 :: a5 :: a6 :: a7 :: a8 :: a9 :: a10 :: a11 :: l)) 11 = a11 := rfl
@[go_sem] theorem y5V {a0 a1 a2 a3 a4 a5 a6 a7 a8 a9 a10 a11 a12 : C} {l : List C} : C.get (.agg (a0 :: a1 :: a2 :: a3 :: a4 :: a5 :: a6 :: a7 :: a8 :: a9 :: a10 :: a11 :: a12 :: l)) 12 = a12 := rfl
@[go_sem] theorem y5U {a0 a1 a2 a3 a4 a5 a6 a7 a8 a9 a10 a11 a12 a13 : C} {l : List C} : C.get (.agg (a0 :: a1 :: a2 :: a3 :: a4 :: a5 :: a6 :: a7 :: a8 :: a9 :: a10 :: a11 :: a12 :: a13 :: l)) 13 = a13 := rfl
@[go_sem] theorem y5T {a0 a1 a2 a3 a4 a5 a6 a7 a8 a9 a10 a11 a12 a13 a14 : C} {l : List C} : C.get (.agg (a0 :: a1 :: a2 :: a3 :: a4 :: a5 :: a6 :: a7 :: a8 :: a9 :: a10 :: a11 :: a12 :: a13 :: a14 :: l)) 14 = a14 := rfl
@[go_sem] theorem y5S {a0 a1 a2 a3 a4 a5 a6 a7 a8 a9 a10 a11 a12 a13 a14 a15 : C} {l : List C} : C.get (.agg (a0 :: a1 :: a2 :: a3 :: a4 :: a5 :: a6 :: a7 :: a8 :: a9 :: a10 :: a11 :: a12 :: a13 :: a14 :: a15 :: l)) 15 = a15 := rfl
@[go_sem] theorem y6c {a0 b : C} {l : List C} : C.set (.agg (a0 :: l)) 0 b = .agg (b :: l) := rfl
@[go_sem] theorem y6b {a0 a1 b : C} {l : List C} : C.set (.agg (a0 :: a1 :: l)) 1 b = .agg (a0 :: b :: l) := rfl
@[go_sem] theorem y6a {a0 a1 a2 b : C} {l : List C} : C.set (.agg (a0 :: a1 :: a2 :: l)) 2 b = .agg (a0 :: a1 :: b :: l) := rfl
@[go_sem] theorem y59 {a0 a1 a2 a3 b : C} {l : List C} : C.set (.agg (a0 :: a1 :: a2 :: a3 :: l)) 3 b = .agg (a0 :: a1 :: a2 :: b :: l) := rfl
@[go_sem] theorem y58 {a0 a1 a2 a3 a4 b : C} {l : List C} : C.set (.agg (a0 :: a1 :: a2 :: a3 :: a4 :: l)) 4 b = .agg (a0 :: a1 :: a2 :: a3 :: b :: l) := rfl
@[go_sem] theorem y57 {a0 a1 a2 a3 a4 a5 b : C} {l : List C} : C.set (.agg (a0 :: a1 :: a2 :: a3 :: a4 :: a5 :: l)) 5 b = .agg (a0 :: a1 :: a2 :: a3 :: a4 :: b :: l) := rfl
@[go_sem] theorem y56 {a0 a1 a2 a3 a4 a5 a6 b : C} {l : List C} : C.set (.agg (a0 :: a1 :: a2 :: a3 :: a4 :: a5 :: a6 :: l)) 6 b = .agg (a0 :: a1 :: a2 :: a3 :: a4 :: a5 :: b :: l) := rfl
@[go_sem] theorem y55 {a0 a1 a2 a3 a4 a5 a6 a7 b : C} {l : List C} : C.set (.agg (a0 :: a1 :: a2 :: a3 :: a4 :: a5 :: a6 :: a7 :: l)) 7 b = .agg (a0 :: a1 :: a2 :: a3 :: a4 :: a5 :: a6 :: b :: l) := rfl
attribute [go_sem] J6 Nat.beq_refl Bool.and_true Bool.true_and Bool.not_true Bool.not_false beq_self_eq_true Int.toNat_natCast decide_true decide_false Bool.cond_decide Int.toNat_zero Int.toNat_one
attribute [go_sem 500] Int.ofNat_eq_natCast
attribute [go_sem] Int.cast_ofNat_Int
@[go_sem] theorem y6d (n : Nat) : Int.ofNat (@OfNat.ofNat Nat n (instOfNatNat n)) = @OfNat.ofNat Int n instOfNat := rfl
@[go_sem] theorem y5u (n : Nat) : ((@OfNat.ofNat Nat n (instOfNatNat n) : Nat) : Int) = @OfNat.ofNat Int n instOfNat := rfl
@[go_sem] theorem y6e (a b : Bool) : y2f (.bool a) b = .bool b := rfl
theorem q8Q {R : Type} {ι : Type} {F : KD R → List C → List Es → Option R} (st : ι → List C) (sm : ι → List Es) (μ : ι → Nat) (P : ι → Prop) (spec : ι → Option R)
  (h : ∀ i, P i → ∀ rec : KD R, (∀ j, P j → μ j < μ i → rec (st j) (sm j) = spec j) → F rec (st i) (sm i) = spec i) : ∀ (N : Nat) (i : ι), P i → μ i < N → X3 N F (st i) (sm i) = spec i
 | 0, _, _, h2 => absurd h2 (Nat.not_lt_zero _)
 | N + 1, i, h1, h2 => by
  rw [q7s]
  exact h i h1 _ fun j hj hlt => q8Q st sm μ P spec h N j hj (by omega)
theorem q96 {R : Type} {F : KD R → List C → List Es → Option R} (st : Nat → List C) (sm : Nat → List Es) (m : Nat) (r : Option R) (step : ∀ i, i < m → ∀ rec : KD R, F rec (st i) (sm i) = rec (st (i + 1)) (sm (i + 1))) (stop : ∀ rec : KD R, F rec (st m) (sm m) = r) {N : Nat} (hN : m < N) :
  X3 N F (st 0) (sm 0) = r := by
 refine q8Q (F := F) st sm (fun i => m - i) (fun i => i ≤ m) (fun _ => r) (fun i hi rec hrec => ?_) N 0 (Nat.zero_le _) (by omega)
 by_cases e : i = m
 ·subst e; exact stop rec
 ·rw [step i (by omega) rec]
  exact hrec (i + 1) (by omega) (by omega)
theorem y1g {X : Cx} {f : FuncId} {ts : List Ty} {cs : List C} {A : Key → Option O} {v : V} {L : List (Key × O)} (h : (∀ (i : Nat) (t : Ty) (c : C), ts[i]? = some t → cs[i]? = some c → C.wf t c) → j3 X f (List.zipWith V.d ts cs) A v L) : j3 X f (List.zipWith V.d ts cs) A v L := by
 intro A' Γ w args hA hg hc hn hr
 refine h (fun i t c ht hcs => ?_) A' Γ w args hA hg hc hn hr
 have hx : (List.zipWith V.d ts cs)[i]? = some (.d t c) := by simp [List.getElem?_zipWith, ht, hcs]
 have hs : (Z3 1000 (List.zipWith V.d ts cs))[i]? = some (.d t c) := by rw [q4n, hx]; rfl
 have hl : i < args.size := by rw [← hn]; exact (List.getElem?_eq_some_iff.1 hx).1
 exact (hr i _ _ hs (Array.getElem?_eq_getElem hl)).wf
theorem y2l {w : World} {gl gl' : Nat → Option (Ty × C)} (h : z3c w gl) (hs : ∀ g x, gl' g = some x → gl g = some x) : z3c w gl' := fun g τ c hg => h g τ c (hs g (τ, c) hg)
theorem y44 {X : Cx} {f : FuncId} {g : OvG (V × List (Key × O))} (h : GOk X f g) {xs : List V} {A : Key → Option O} {v : V} {L : List (Key × O)} (hr : g xs A kR = some (v, L)) : j3 X f xs A v L := by
 obtain ⟨v', L', h1, h2⟩ := h xs A kR (v, L) hr
 simp only [kR, Option.some.injEq, Prod.mk.injEq] at h2
 obtain ⟨rfl, rfl⟩ := h2
 exact h1
def U2 {α σ ε : Type} (f : Nat → σ → α → σ ⊕ ε) : Nat → σ → List α → σ ⊕ ε
 | _, s, [] => .inl s
 | i, s, c :: l => match f i s c with
  | .inl s' => U2 f (i + 1) s' l
  | .inr e => .inr e
def y2B {R σ ε : Type} (fin : σ → Option R) (err : ε → Option R) : σ ⊕ ε → Option R
 | .inl s => fin s
 | .inr e => err e
theorem q57 {α R σ ε : Type} {F : KD R → List C → List Es → Option R} (st : Nat → σ → List C) (sm : Nat → σ → List Es) (l : List α) (f : Nat → σ → α → σ ⊕ ε) (fin : σ → Option R) (err : ε → Option R) (P : Nat → σ → Prop) {s0 : σ} {N : Nat}
  (h0 : P 0 s0) (step : ∀ i s c, l[i]? = some c → P i s → (∀ rec : KD R, F rec (st i s) (sm i s) = match f i s c with
   | .inl s' => rec (st (i + 1) s') (sm (i + 1) s')
   | .inr e => err e) ∧ (∀ s', f i s c = .inl s' → P (i + 1) s'))
  (stop : ∀ s, P l.length s → ∀ rec : KD R, F rec (st l.length s) (sm l.length s) = fin s) (hN : l.length < N) :
  X3 N F (st 0 s0) (sm 0 s0) = y2B fin err (U2 f 0 s0 l) := by
 have key := q8Q (R := R) (ι := Nat × σ) (F := F) (fun x => st x.1 x.2) (fun x => sm x.1 x.2) (fun x => l.length - x.1) (fun x => x.1 ≤ l.length ∧ P x.1 x.2) (fun x => y2B fin err (U2 f x.1 x.2 (l.drop x.1)))
  (fun x hx rec hrec => ?_) N (0, s0) ⟨Nat.zero_le _, h0⟩ (by show l.length - 0 < N; omega)
 ·simpa using key
 ·obtain ⟨i, s⟩ := x
  obtain ⟨h1, h2⟩ := hx
  dsimp only at h1 h2 hrec ⊢
  by_cases h : i = l.length
  ·subst h
   rw [stop s h2, List.drop_length]
   rfl
  ·have hi : i < l.length := by omega
   obtain ⟨h3, h4⟩ := step i s l[i] (List.getElem?_eq_getElem hi) h2
   rw [h3, List.drop_eq_getElem_cons hi]
   simp only [U2]
   cases hf : f i s l[i] with
   | inl s' => exact hrec (i + 1, s') ⟨hi, h4 s' hf⟩ (by dsimp only; omega)
   | inr e => rfl
theorem z1w {α R σ ε : Type} {F : KD R → List C → List Es → Option R} (st : Nat → σ → List C) (sm : Nat → σ → List Es) (l : List α) (f : Nat → σ → α → σ ⊕ ε) (fin : σ → Option R) (err : ε → Option R) {s0 : σ} {N : Nat}
  (step : ∀ i s c, l[i]? = some c → i < l.length → ∀ rec : KD R, F rec (st i s) (sm i s) = match f i s c with
   | .inl s' => rec (st (i + 1) s') (sm (i + 1) s')
   | .inr e => err e)
  (stop : ∀ s, ∀ rec : KD R, F rec (st l.length s) (sm l.length s) = fin s) (hN : l.length < N) :
  X3 N F (st 0 s0) (sm 0 s0) = y2B fin err (U2 f 0 s0 l) :=
 q57 st sm l f fin err (fun _ _ => True) trivial (fun i s c hc _ => ⟨step i s c hc (List.getElem?_eq_some_iff.1 hc).1, fun _ _ => trivial⟩) (fun s _ => stop s) hN
theorem q5e {l : List C} {i : Nat} {c : C} (h : l[i]? = some c) : l.getD i .nil = c := by rw [List.getD_eq_getElem?_getD, h]; rfl
theorem q1c {i : Nat} (h : i < 4611686018427387904) : IntKind.i64.wrap ((i : Int) + 1) = ((i + 1 : Nat) : Int) := by rw [IntWalk.i64_in _ (by omega)]; omega
attribute [go_sem] q6D q3Y
@[go_sem] theorem z0V (τ : Ty) : ∀ m : Es, U4 τ (dE τ m) = true
 | [] => rfl
 | _ :: m => by
  have := z0V τ m
  have h : Ty.beq τ τ = true := (Ty.beq_iff τ τ).2 rfl
  simp only [dE, List.map_cons, U4, h, Bool.true_and] at this ⊢
  exact this
def q80 : Es → C → Bool
 | [], _ => false
 | (k, _) :: l, c => bif C.beq c k then true else q80 l c
def getM : Es → C → C
 | [], _ => .nil
 | (k, v) :: l, c => bif C.beq c k then v else getM l c
@[go_sem] theorem z8b (τ : Ty) (c : C) : ∀ m : Es, q7E (dE τ m) c = q80 m c
 | [] => rfl
 | (k, v) :: m => by
  have := z8b τ c m
  simp only [dE, List.map_cons, q7E, q80] at this ⊢
  rw [this]
@[go_sem] theorem z8d (τ : Ty) (c : C) : ∀ m : Es, z0L (dE τ m) c = getM m c
 | [] => rfl
 | (k, v) :: m => by
  have := z8d τ c m
  simp only [dE, List.map_cons, z0L, getM] at this ⊢
  rw [this]
@[go_sem] theorem y3z : unE [] = [] := rfl
@[go_sem] theorem y6z (τ : Ty) : dE τ [] = [] := rfl
def iter {α : Type} (f : α → α) : Nat → α → α
 | 0, x => x
 | n + 1, x => iter f n (f x)
end Go.E
namespace Go.E
open Go
def q9n (w : World) (v : Value) (l : List UInt8) : Prop :=
 (v = .slice none 0 0 ∧ l = []) ∨ ∃ g cap arr, v = .slice (some ⟨g, 0, none⟩) l.length cap ∧ w.heap[g]? = some (.cells arr 5 (0, 0)) ∧ arr.size = cap ∧ arr.toList.take l.length = s9 l ∧ l.length ≤ cap ∧ cap ≤ maxLen ∧ 0 < cap
def z95 (w w' : World) (v v' : Value) (l l' : List UInt8) : Prop :=
 oof w' = oof w ∧ w.heap.size ≤ w'.heap.size ∧ ((v' = v ∧ l' = l ∧ ∀ b, b < w.heap.size → w'.heap[b]? = w.heap[b]?) ∨
  ∃ g cap arr, v' = .slice (some ⟨g, 0, none⟩) l'.length cap ∧ w'.heap[g]? = some (.cells arr 5 (0, 0)) ∧ arr.size = cap ∧ arr.toList.take l'.length = s9 l' ∧ l'.length ≤ cap ∧ cap ≤ maxLen ∧ 0 < cap ∧
   (w.heap.size ≤ g ∨ v = .slice (some ⟨g, 0, none⟩) l.length cap) ∧ ∀ b, b < w.heap.size → b ≠ g → w'.heap[b]? = w.heap[b]?)
theorem U1 (l : List UInt8) : (s9 l).length = l.length := by simp [s9]
theorem q4P (l m : List UInt8) : s9 (l ++ m) = s9 l ++ s9 m := by simp [s9]
section
variable {P : Program} {w : World}
theorem z9X {t tx ty : TypeId} {i : TypeInfo} {z : Value} (ht : P.underlying t = some (.slice 5)) (hi : P.info? 5 = some i) (hz : i.zero = some z) (h1 : i.size = 1) (h2 : i.bytes = 1) (h3 : z.cells.size = 1)
  {l m : List UInt8} {v x : Value} (hl : (l ++ m).length ≤ 140737488355328) (hs : Src P 1 tx x m.length (s9 m) w) (hv : q9n w v l) :
  ∃ v' w', (Builtin.append_ #[t, tx] ty #[v, x]).run P w = .ok v' w' ∧ z95 w w' v v' l (l ++ m) := by
 have hs' : Src P i.size tx x m.length (s9 m) w := by rw [h1]; exact hs
 rw [List.length_append] at hl
 have hmx : l.length + m.length ≤ maxLen := by unfold maxLen; omega
 have hmx' : ((l.length + m.length : Nat) : Int) ≤ 9223372036854775807 := by omega
 have fresh : ∀ (olds : List Value) (sc : Nat), olds = s9 l → sc < l.length + m.length → z95 w (w.drew.alloc (.cells ((olds ++ s9 m).toArray ++ Builtin.zeroCells z.cells (grownCap w (l.length + m.length) sc 5 - (l.length + m.length))) 5)) v
   (.slice (some ⟨w.heap.size, 0, none⟩) (l.length + m.length) (grownCap w (l.length + m.length) sc 5)) l (l ++ m) := by
  intro olds sc ho hsc
  subst ho
  have hge := grownCap_ge w (l.length + m.length) sc 5
  have hcm := grownCap_le_maxLen w (l.length + m.length) sc 5 hmx
  refine ⟨rfl, by simp, .inr ⟨w.heap.size, _, _, by rw [List.length_append], heap_alloc_new w.drew _, ?_, ?_, by rw [List.length_append]; exact hge, hcm, by omega, .inl (Nat.le_refl _), fun b hb _ => heap_alloc_old w.drew _ hb⟩⟩
  ·simp only [Array.size_append, List.size_toArray, List.length_append, size_zeroCells, h3, U1, Nat.mul_one]
   omega
  ·rw [Array.toList_append, List.toList_toArray, ← q4P]
   have : (s9 (l ++ m)).length = (l ++ m).length := U1 _
   rw [← this, List.take_left']
   rfl
 by_cases hm : m = []
 ·subst hm
  refine ⟨v, w, ?_, rfl, Nat.le_refl _, .inl ⟨rfl, by simp, fun _ _ => rfl⟩⟩
  rcases hv with ⟨rfl, _⟩ | ⟨g, cap, arr, rfl, _, _, _, hle, _⟩
  ·exact q0r ht hi hs' (Nat.le_refl _)
  ·exact q0r ht hi hs' hle
 ·have hml : 0 < m.length := List.length_pos_iff.2 hm
  rcases hv with ⟨rfl, rfl⟩ | ⟨g, cap, arr, rfl, hg, hsz, htk, hle, hcm, hc0⟩
  ·have run := run_append_grow_src (P := P) w t tx ty 5 i z ht hi hz none 0 0 [] (by simpa [h1] using run_firstCells_none (P := P) w.drew i.size 0 0 0) x m.length (s9 m) hs' (by omega) (by simpa using hmx') (by
    rw [h2]; exact growslice_fits (by omega) (by simp at hl; omega))
   have f := fresh [] 0 rfl (by simp; omega)
   simp only [List.length_nil] at f
   exact ⟨_, _, run, f⟩
  ·by_cases hroom : l.length + m.length ≤ cap
   ·have run := run_append_room_src (P := P) w t tx ty 5 i ht hi g 0 l.length cap x m.length (s9 m) hs' hroom
     (fun j hj => by
      rw [U1] at hj
      simp [World.cell?, hg]
      rw [h1]; omega)
     (fun j hj => by simp [World.frozen?, hg])
    rw [Nat.zero_add, h1, Nat.mul_one] at run
    obtain ⟨arr', hw', harr'⟩ := q2G g (s9 m) l.length w arr 5 (0, 0) hg (by rw [U1]; omega)
    refine ⟨_, _, run, by unfold oof; rw [World.os_setCells, World.output_setCells], by rw [q70]; exact Nat.le_refl _, .inr ⟨g, cap, arr', by rw [List.length_append], hw', ?_, ?_, by rw [List.length_append]; exact hroom, hcm, hc0, .inr rfl, fun b _ hb => q2f g (s9 m) _ w b hb⟩⟩
    ·rw [← hsz, ← Array.length_toList, ← Array.length_toList, harr', Q0 (by rw [U1]; simp; omega)]
    ·rw [harr', w6, htk, q4P]
     have e : (l ++ m).length = (s9 l ++ s9 m).length := by simp [U1]
     rw [e, List.take_left']
     rfl
   ·have hcell : ∀ j u, (s9 l)[j]? = some u → w.cell? ((⟨g, 0, none⟩ : Addr).add j) = some u := fun j u hu => by
     rw [← htk, List.getElem?_take] at hu
     split at hu
     ·rw [Array.getElem?_toList] at hu
      simp [World.cell?, Addr.add_lit, hg, hu]
     ·cases hu
    have run := run_append_grow_src (P := P) w t tx ty 5 i z ht hi hz (some ⟨g, 0, none⟩) l.length cap (s9 l) (by
      have := run_firstCells_some (P := P) w.drew i.size l.length ⟨g, 0, none⟩ l.length cap (s9 l) (by rw [U1, h1, Nat.mul_one]) (by simpa using hcell)
      exact this) x m.length (s9 m) hs' (by omega) hmx' (by
     rw [h2]; exact growslice_fits (by omega) (by omega))
    exact ⟨_, _, run, fresh (s9 l) cap rfl (by omega)⟩
open RowKit in
theorem q9U {ops : Array Oper} {rest : List Oper} {o : Oper} {a : Act} {Q : Exit → Act → World → Prop} (hgd : o.guard = none) (sl x : Operand) (t u : TypeId)
  (ho : o.op = .call { callee := .builtin .append, args := #[sl, x], argTypes := #[t, u] }) {i : TypeInfo} {z : Value} (ht : P.underlying t = some (.slice 5)) (hi : P.info? 5 = some i) (hz : i.zero = some z) (h1 : i.size = 1) (h2 : i.bytes = 1) (h3 : z.cells.size = 1)
  {l m : List UInt8} {v xv : Value} (hsl : a.eval sl = v) (hx : a.eval x = xv) (hl : (l ++ m).length ≤ 140737488355328) (hs : Src P 1 u xv m.length (s9 m) w) (hv : q9n w v l)
  (h : ∀ v' w', z95 w w' v v' l (l ++ m) → wpList P ops Q rest (a.put o.dst v') w') : wpList P ops Q (o :: rest) a w := by
 refine wpList_plain hgd fun K hK => ?_
 obtain ⟨v', w', hr, h4⟩ := z9X (ty := o.type) ht hi hz h1 h2 h3 hl hs hv
 unfold Oper.wp execOp
 simp only [ho, resolve, invoke, builtin, Sem.run_bind, Sem.run_pure, Result.andThen_ok, List.map_toArray, List.map_cons, List.map_nil, hsl, hx, hr]
 exact hK _ _ (h v' w' h4)
end
section
variable {Γ : G} {w w' : World} {s : S}
theorem z8.y5h (c : z8 Γ w s) {k : Key} {l : List UInt8} {v : Value}
  (h : (v = .slice none 0 0 ∧ l = []) ∨ ∃ g cap, v = .slice (some ⟨g, 0, none⟩) l.length cap ∧ Γ.H g = some (s9 l) ∧ Γ.κ g = some (.home k .bld, cap) ∧ l.length ≤ cap ∧ cap ≤ maxLen ∧ 0 < cap) : q9n w v l := by
 rcases h with h | ⟨g, cap, h1, h2, h3, h4, h5, h6⟩
 ·exact .inl h
 ·obtain ⟨_, _, arr, T, a1, a2, a3⟩ := c.hκ g _ _ h3
  have a3 : T = 5 := a3
  subst a3
  obtain ⟨arr', T', fr, r, b1, b2⟩ := c.hH g _ h2
  rw [a1] at b1; cases b1
  refine .inr ⟨g, cap, arr, h1, a1, a2, ?_, h4, h5, h6⟩
  rw [b2, ← U1 l, List.take_left']
  rfl
theorem z8.y50 (c : z8 Γ w s) {k : Key} {T : TypeId} {l l' : List UInt8} {b : Nat} {adr v adr' v' : Value} (ho : s.obj k = some (.it l T)) (hι : Γ.ι k = some (b, F7)) (hw : w.heap[b]? = some (.cells #[adr, v] T (0, 0)))
  (hv : (v = .slice none 0 0 ∧ l = []) ∨ ∃ g cap, v = .slice (some ⟨g, 0, none⟩) l.length cap ∧ Γ.H g = some (s9 l) ∧ Γ.κ g = some (.home k .bld, cap) ∧ l.length ≤ cap ∧ cap ≤ maxLen ∧ 0 < cap)
  (hoo : oof w' = oof w) (hsz : w.heap.size ≤ w'.heap.size) (hb' : w'.heap[b]? = some (.cells #[adr', v'] T (0, 0))) (hadr : adr' = .pointer none ∨ adr' = .pointer (some ⟨b, 0, none⟩)) (hlen : l'.length ≤ 140737488355328) (hpre : ∃ m, l' = l ++ m)
  (hrow : (v' = v ∧ l' = l ∧ ∀ b2, b2 < w.heap.size → b2 ≠ b → w'.heap[b2]? = w.heap[b2]?) ∨
   ∃ g cap arr, v' = .slice (some ⟨g, 0, none⟩) l'.length cap ∧ w'.heap[g]? = some (.cells arr 5 (0, 0)) ∧ arr.size = cap ∧ arr.toList.take l'.length = s9 l' ∧ l'.length ≤ cap ∧ cap ≤ maxLen ∧ 0 < cap ∧
    (w.heap.size ≤ g ∨ v = .slice (some ⟨g, 0, none⟩) l.length cap) ∧ ∀ b2, b2 < w.heap.size → b2 ≠ g → b2 ≠ b → w'.heap[b2]? = w.heap[b2]?) :
  ∃ Γ', GLe Γ Γ' ∧ s7 Γ Γ' ∧ z8 Γ' w' { s with loc := (k, .it l' T) :: s.loc } := by
 obtain ⟨hH, hZ, hlt, _⟩ := c.X2 hι ho rfl
 have hdk : s.r6 k = false := by rw [j7 ho]; rfl
 have hdom : ∀ j, Γ.ι j ≠ none → S.obj { s with loc := (k, .it l' T) :: s.loc } j ≠ none := fun j h => by
  rw [u6]
  split
  ·simp
  ·exact c.dom j h
 have nek : ∀ j b2 τ o, k ≠ j → Γ.ι j = some (b2, τ) → s.obj j = some o → o.Y8 = false → b2 ≠ b := fun j b2 τ o hj h1 h2 h3 e => by
  subst e
  exact hj (c.z9l hι h1 hdk (by rw [j7 h2]; exact h3))
 rcases hrow with ⟨rfl, rfl, hsame⟩ | ⟨g, cap, arr, rfl, hg, hasz, htk, hle, hcm, hc0, hgv, hsame⟩
 ·refine ⟨Γ, .refl Γ, .refl Γ, ?_⟩
  refine c.change (.refl Γ) rfl rfl rfl hoo (fun b2 l0 h => ?_) (fun b2 h => hsame b2 (c.Zlt h) fun e => by subst e; exact h hZ) (fun b2 o sz h => ?_) (fun j o h => ?_) (fun _ h _ => h) hdom (fun b2 sz h => ?_) (c.q4K (q2r fun h => by rw [hdk] at h; cases h)) c.tok c.tdom hsz
  ·rw [hsame b2 (c.Hlt (by rw [h]; simp)) (fun e => by subst e; rw [hH] at h; cases h)]; exact c.hH b2 l0 h
  ·obtain ⟨a1, a2, a3⟩ := c.hκ b2 o sz h
   rw [hsame b2 (c.Hlt a2) (fun e => by subst e; exact a2 hH)]; exact ⟨a1, a2, a3⟩
  ·rw [u6] at h
   split at h
   ·rename_i e
    subst e; cases h
    exact .inr ⟨b, adr', v', hι, hH, hZ, hb', hadr, hlen, hv⟩
   ·rename_i e
    refine .inl ⟨h, fun hd => ⟨fun _ _ _ _ => ⟨rfl, rfl⟩, fun b2 τ' hb => ?_⟩⟩
    obtain ⟨a1, a2, a3, _⟩ := c.X2 hb h hd
    exact ⟨hsame b2 a3 (nek j b2 τ' o e hb h hd), a1⟩
  ·obtain ⟨arr, T1, fr, a1, a2⟩ := c.hσ b2 sz h
   by_cases e : b2 = b
   ·subst e
    rw [hw] at a1; cases a1
    exact ⟨_, _, _, hb', a2⟩
   ·exact ⟨arr, T1, fr, by rw [hsame b2 (lt_of_heap a1) e]; exact a1, a2⟩
 ·-- the row's place
  have hgz : Γ.Z g = none := by
   rcases hgv with h | h
   ·cases hz : Γ.Z g with
    | none => rfl
    | some x => exact absurd (c.Zlt (by rw [hz]; simp)) (by omega)
   ·rcases hv with ⟨h', _⟩ | ⟨g2, cap2, h', a1, a2, _⟩
    ·rw [h] at h'; cases h'
    ·rw [h] at h'; cases h'
     exact (c.hκ g _ _ a2).1
  have hgκ : ∀ o sz, Γ.κ g = some (o, sz) → o = .home k .bld ∧ sz = cap := by
   intro o sz hk
   rcases hgv with h | h
   ·exact absurd (c.κlt (by rw [hk]; simp)) (by omega)
   ·rcases hv with ⟨h', _⟩ | ⟨g2, cap2, h', a1, a2, _⟩
    ·rw [h] at h'; cases h'
    ·rw [h] at h'; cases h'
     rw [hk] at a2; cases a2; exact ⟨rfl, rfl⟩
  have hgH : ∀ l0, Γ.H g = some l0 → l0 = s9 l := by
   intro l0 hk
   rcases hgv with h | h
   ·exact absurd (c.Hlt (by rw [hk]; simp)) (by omega)
   ·rcases hv with ⟨h', _⟩ | ⟨g2, cap2, h', a1, a2, _⟩
    ·rw [h] at h'; cases h'
    ·rw [h] at h'; cases h'
     rw [hk] at a1; cases a1; rfl
  have hgι : ∀ j b2 τ o, Γ.ι j = some (b2, τ) → s.obj j = some o → o.Y8 = false → b2 ≠ g := by
   intro j b2 τ o h1 h2 h3 e
   subst e
   obtain ⟨a1, a2, a3, _⟩ := c.X2 h1 h2 h3
   rcases hgv with h | h
   ·omega
   ·rcases hv with ⟨h', _⟩ | ⟨g2, cap2, h', q1, q2, _⟩
    ·rw [h] at h'; cases h'
    ·rw [h] at h'; cases h'
     rw [a1] at q1; cases q1
  have hbg : b ≠ g := hgι k b _ _ hι ho rfl
  obtain ⟨m, rfl⟩ := hpre
  have hle' : Γ.H.le (r7 Γ.H g (s9 (l ++ m))) := fun b2 l0 h => by
   by_cases e : b2 = g
   ·subst e
    refine ⟨s9 m, ?_⟩
    rw [v7, hgH l0 h, q4P]
   ·exact ⟨[], by rw [j4 _ _ e, h]; simp⟩
  refine ⟨{ Γ with H := r7 Γ.H g (s9 (l ++ m)), κ := r7 Γ.κ g (.home k .bld, cap) }, ⟨hle', rfl, fun b2 h => j4 _ _ fun e => by subst e; exact h hgz, fun _ _ h => h, rfl, rfl, fun _ _ h => h, fun _ h => h⟩,
   ⟨hle', fun _ _ h => h, fun t x L h => ⟨x, L, h, Nat.le_refl _, fun _ => rfl⟩, fun _ _ h => h⟩, ?_⟩
  refine c.change (Γ' := { Γ with H := r7 Γ.H g (s9 (l ++ m)), κ := r7 Γ.κ g (.home k .bld, cap) }) ⟨hle', fun _ _ h => h, fun t x L h => ⟨x, L, h, Nat.le_refl _, fun _ => rfl⟩, fun _ _ h => h⟩ rfl rfl rfl hoo (fun b2 l0 h => ?_)
   (fun b2 h => hsame b2 (c.Zlt h) (fun e => by subst e; exact h hgz) fun e => by subst e; exact h hZ) (fun b2 o sz h => ?_) (fun j o h => ?_) (fun _ h _ => h) hdom (fun b2 sz h => ?_) (c.q4K (q2r fun h => by rw [hdk] at h; cases h)) (fun t L h => ?_) c.tdom hsz
  ·by_cases e : b2 = g
   ·subst e
    have h' : r7 Γ.H b2 (s9 (l ++ m)) b2 = some l0 := h
    rw [v7] at h'; cases h'
    exact ⟨arr, 5, (0, 0), arr.toList.drop (l ++ m).length, hg, by rw [← htk, List.take_append_drop]⟩
   ·have h' : Γ.H b2 = some l0 := (j4 _ _ e).symm.trans h
    rw [hsame b2 (c.Hlt (by rw [h']; simp)) e (fun e => by subst e; rw [hH] at h'; cases h')]; exact c.hH b2 l0 h'
  ·by_cases e : b2 = g
   ·subst e
    have h' : r7 Γ.κ b2 (.home k .bld, cap) b2 = some (o, sz) := h
    rw [v7] at h'; cases h'
    exact ⟨hgz, by show r7 Γ.H b2 (s9 (l ++ m)) b2 ≠ none; rw [v7]; simp, arr, 5, hg, hasz, rfl⟩
   ·have h' : Γ.κ b2 = some (o, sz) := (j4 _ _ e).symm.trans h
    obtain ⟨a1, a2, a3⟩ := c.hκ b2 o sz h'
    rw [hsame b2 (c.Hlt a2) e (fun e => by subst e; exact a2 hH)]
    exact ⟨a1, by show r7 Γ.H g (s9 (l ++ m)) b2 ≠ none; rw [j4 _ _ e]; exact a2, a3⟩
  ·rw [u6] at h
   split at h
   ·rename_i e
    subst e; cases h
    exact .inr ⟨b, adr', _, hι, by show r7 Γ.H g (s9 (l ++ m)) b = none; rw [j4 _ _ hbg]; exact hH, hZ, hb', hadr, hlen, .inr ⟨g, cap, rfl, v7 _ _ _, v7 _ _ _, hle, hcm, hc0⟩⟩
   ·rename_i e
    refine .inl ⟨h, fun hd => ⟨fun b2 p sz hk => ?_, fun b2 τ' hb => ?_⟩⟩
    ·have hne : b2 ≠ g := fun e2 => by
      subst e2
      obtain ⟨q, _⟩ := hgκ _ _ hk
      cases q
      exact e rfl
     exact ⟨j4 _ _ hne, j4 _ _ hne⟩
    ·obtain ⟨a1, a2, a3, _⟩ := c.X2 hb h hd
     have hne := hgι j b2 τ' o hb h hd
     exact ⟨hsame b2 a3 hne (nek j b2 τ' o e hb h hd), (j4 _ _ hne).trans a1⟩
  ·obtain ⟨arr1, T1, fr, a1, a2⟩ := c.hσ b2 sz h
   by_cases e : b2 = b
   ·subst e
    rw [hw] at a1; cases a1
    exact ⟨_, _, _, hb', a2⟩
   ·by_cases e2 : b2 = g
    ·subst e2
     refine ⟨arr, 5, (0, 0), hg, ?_⟩
     rcases hgv with h' | h'
     ·have := lt_of_heap a1; omega
     ·rcases hv with ⟨h2, _⟩ | ⟨g2, cap2, h2, q1, q2, _⟩
      ·rw [h'] at h2; cases h2
      ·rw [h'] at h2; cases h2
       obtain ⟨_, _, arr2, T2, b1, b2, _⟩ := c.hκ b2 _ _ q2
       rw [a1] at b1; cases b1
       omega
    ·exact ⟨arr1, T1, fr, by rw [hsame b2 (lt_of_heap a1) e2 e]; exact a1, a2⟩
  ·obtain ⟨x, h1, h2⟩ := c.tok t L h
   refine ⟨x, h1, fun b2 pos sz hx => ?_⟩
   obtain ⟨⟨l0, a1, a2⟩, a3⟩ := h2 b2 pos sz hx
   have hne : b2 ≠ g := fun e => by subst e; have := (hgκ _ _ a3).1; cases this
   exact ⟨⟨l0, (j4 _ _ hne).trans a1, a2⟩, (j4 _ _ hne).trans a3⟩
theorem z8.y1q (c : z8 Γ w s) {k : Key} {T : TypeId} {l : List UInt8} {b : Nat} {adr v : Value} (ho : s.obj k = some (.it l T)) (hι : Γ.ι k = some (b, F7)) (hw : w.heap[b]? = some (.cells #[adr, v] T (0, 0))) (h1c : J4 [adr, v])
  (hoo : oof w' = oof w) (hsz : w.heap.size ≤ w'.heap.size) (gopt : Option Nat) (hg : ∀ g, gopt = some g → (∃ sz, Γ.κ g = some (.home k .bld, sz)) ∧ ∃ arr T2 fr, w.heap[g]? = some (.cells arr T2 (0, 0)) ∧ w'.heap[g]? = some (.cells arr T2 fr))
  (hsame : ∀ b2, b2 < w.heap.size → some b2 ≠ gopt → w'.heap[b2]? = w.heap[b2]?) :
  ∃ Γ', GLe Γ Γ' ∧ s7 Γ Γ' ∧ z8 Γ' w' { s with loc := (k, .box (.top F7)) :: s.loc } := by
 obtain ⟨hH, hZ, hlt, _⟩ := c.X2 hι ho rfl
 have hdk : s.r6 k = false := by rw [j7 ho]; rfl
 have gk : ∀ g, gopt = some g → Γ.H g ≠ none ∧ Γ.Z g = none := fun g h => by
  obtain ⟨⟨sz, h1⟩, _⟩ := hg g h
  exact ⟨(c.hκ g _ _ h1).2.1, (c.hκ g _ _ h1).1⟩
 have hbg : some b ≠ gopt := fun e => (gk b e.symm).1 hH
 have pr : s7 Γ { Γ with κ := fun b2 => if some b2 = gopt then none else Γ.κ b2 } := ⟨Hp.le_refl _, fun _ _ h => h, fun t x L h => ⟨x, L, h, Nat.le_refl _, fun _ => rfl⟩, fun _ _ h => h⟩
 refine ⟨{ Γ with κ := fun b2 => if some b2 = gopt then none else Γ.κ b2 }, ⟨Hp.le_refl _, rfl, fun _ _ => rfl, fun _ _ h => h, rfl, rfl, fun _ _ h => h, fun _ h => h⟩, pr, ?_⟩
 have cells : ∀ (b2 : Nat) (arr : Array Value) (T2 : TypeId) (fr : Nat × Nat), w.heap[b2]? = some (Obj.cells arr T2 fr) → ∃ fr', w'.heap[b2]? = some (Obj.cells arr T2 fr') := fun b2 arr T2 fr h => by
  by_cases e : some b2 = gopt
  ·obtain ⟨_, arr', T', fr', a1, a2⟩ := hg b2 e.symm
   rw [h] at a1; cases a1
   exact ⟨fr', a2⟩
  ·exact ⟨fr, by rw [hsame b2 (lt_of_heap h) e]; exact h⟩
 refine c.change pr rfl rfl rfl hoo (fun b2 l0 h => ?_) (fun b2 h => hsame b2 (c.Zlt h) fun e => h (gk b2 e.symm).2) (fun b2 o sz h => ?_) (fun j o h => ?_) (fun _ h _ => h) (fun j h => ?_) (fun b2 sz h => ?_) (c.q4K (q2r fun h => by rw [hdk] at h; cases h)) (fun t L h => ?_) c.tdom hsz
 ·obtain ⟨arr, T2, fr, r, a1, a2⟩ := c.hH b2 l0 h
  obtain ⟨fr', a3⟩ := cells b2 _ _ _ a1
  exact ⟨arr, T2, fr', r, a3, a2⟩
 ·by_cases e : some b2 = gopt
  ·simp [e] at h
  ·have h' : Γ.κ b2 = some (o, sz) := by simpa [e] using h
   obtain ⟨a1, a2, a3⟩ := c.hκ b2 o sz h'
   rw [hsame b2 (c.Hlt a2) e]
   exact ⟨a1, a2, a3⟩
 ·rw [u6] at h
  split at h
  ·rename_i e
   subst e; cases h
   refine .inr ⟨b, #[adr, v], T, hι, hH, hZ, by rw [hsame b hlt hbg]; exact hw, Nat.le_refl _, ?_, rfl, rfl⟩
   simp only [q8]
   refine ⟨rfl, h1c, fun h => by cases h⟩
  ·rename_i e
   refine .inl ⟨h, fun hd => ⟨fun b2 p sz hk => ⟨?_, rfl⟩, fun b2 τ' hb => ?_⟩⟩
   ·by_cases e2 : some b2 = gopt
    ·obtain ⟨⟨sz2, h1⟩, _⟩ := hg b2 e2.symm
     rw [hk] at h1; cases h1
     exact absurd rfl e
    ·simp [e2]
   ·obtain ⟨a1, a2, a3, _⟩ := c.X2 hb h hd
    exact ⟨hsame b2 a3 fun e2 => (gk b2 e2.symm).1 a1, a1⟩
 ·rw [u6]
  split
  ·simp
  ·exact c.dom j h
 ·obtain ⟨arr, T2, fr, a1, a2⟩ := c.hσ b2 sz h
  obtain ⟨fr', a3⟩ := cells b2 _ _ _ a1
  exact ⟨arr, T2, fr', a3, a2⟩
 ·obtain ⟨x, h1, h2⟩ := c.tok t L h
  refine ⟨x, h1, fun b2 pos sz hx => ?_⟩
  obtain ⟨a0, a3⟩ := h2 b2 pos sz hx
  refine ⟨a0, ?_⟩
  by_cases e2 : some b2 = gopt
  ·obtain ⟨⟨sz2, h1⟩, _⟩ := hg b2 e2.symm
   rw [a3] at h1; cases h1
  ·simpa [e2] using a3
end
end Go.E
namespace Go.E
open Go
def z4w : Nat → Code → List Code
 | n + 1, .seq a b => a :: z4w n b
 | _, _ => []
def q7N : Nat → Code → Code
 | n + 1, .seq _ b => q7N n b
 | _, c => c
def y1v {R : Type} (X : Cx) (n : Nat) (c : Code) (tl : S → (S → Option R) → Option R) : Prop :=
 ∀ s k r, tl s k = some r → ∃ s', k s' = some r ∧ s'.A = s.A ∧ ∀ A', leA s.A A' → ∀ Ψ : Exit → S → Prop, Ψ .ret (s'.wA A') → DC X n c (s.wA A') Ψ
section
variable {X : Cx} {R : Type}
theorem z3J {n : Nat} {r : R} {run : List Nat → Code → S → KE R → Option R} (hrun : ∀ p c s (K : KE R), run p c s K = some r → q9o X n c s r K) : ∀ (m : Nat) (c : Code) (p : List Nat) (s : S) (k : S → Option R) (K : KE R), q3P run (z4w m c) p s k K = some r →
  (∃ s1, k s1 = some r ∧ s1.A = s.A ∧ ∀ A', leA s.A A' → ∀ Ψ : Exit → S → Prop, DC X n (q7N m c) (s1.wA A') Ψ → DC X n c (s.wA A') Ψ) ∨
  (∃ e s1, e ≠ .normal ∧ K e s1 = some r ∧ s1.A = s.A ∧ ∀ A', leA s.A A' → ∀ Ψ : Exit → S → Prop, Ψ e (s1.wA A') → DC X n c (s.wA A') Ψ)
 | 0, c, p, s, k, K, h => .inl ⟨s, h, rfl, fun A' _ Ψ hd => hd⟩
 | m + 1, .seq a b, p, s, k, K, h => by
  simp only [z4w, q3P] at h
  obtain ⟨e, s1, h1, a1, d1⟩ := hrun _ _ _ _ h
  cases e with
  | normal =>
   rcases z3J hrun m b (1 :: p) s1 k K (by dsimp only at h1; rw [z1K] at h1; exact h1) with ⟨s2, h2, a2, d2⟩ | ⟨e, s2, hne, h2, a2, d2⟩
   ·exact .inl ⟨s2, h2, a2.trans a1, fun A' hA Ψ hd => X1 (d1 A' hA _ (d2 A' (by rw [a1]; exact hA) Ψ hd))⟩
   ·exact .inr ⟨e, s2, hne, h2, a2.trans a1, fun A' hA Ψ hd => X1 (d1 A' hA _ (d2 A' (by rw [a1]; exact hA) Ψ hd))⟩
  | exit _ | goto _ | ret | panic _ | outgrown => exact .inr ⟨_, s1, by simp, h1, a1, fun A' hA Ψ hd => X1 (d1 A' hA _ hd)⟩
 | m + 1, .skip, _, s, _, _, h | m + 1, .region _ _ _, _, s, _, _, h | m + 1, .cond _ _ _, _, s, _, _, h | m + 1, .block _ _, _, s, _, _, h | m + 1, .loop _, _, s, _, _, h | m + 1, .exit _, _, s, _, _, h | m + 1, .scope _, _, s, _, _, h | m + 1, .label _, _, s, _, _, h
 | m + 1, .goto _, _, s, _, _, h | m + 1, .ret, _, s, _, _, h | m + 1, .rangeFunc _ _ _ _, _, s, _, _, h | m + 1, .refuse _, _, s, _, _, h => .inl ⟨s, h, rfl, fun A' _ Ψ hd => hd⟩
noncomputable def y2y (X : Cx) (ov : OvK R) (ext : q0R) (tbl : FuncId → Nat → List (Nat × Nat)) (hs : FuncId → Hints) (N fuel d : Nat) (m : Nat) (tl : S → (S → Option R) → Option R) (f : FuncId) (xs : List V) (A : Key → Option O) (K : V → List (Key × O) → Option R) : Option R :=
 match X.P.funcs[f]? with
 | some fn => (match fn.body with
  | some c => if xs.length ≤ fn.ntmps then exJ (hintOf (hs f) [9]) (S.start xs A) (fun s => z9C X fn s K) fun k => q3P (exC X (exF X ov ext tbl hs N fuel d) ext (tbl f) (hs f) N fn.ntmps fuel) (z4w m c) [] (nbS (S.start xs A)) (fun s1 => tl s1 k) fun e s => (match e with
     | .ret => k s
     | _ => none) else none
  | none => none)
 | none => none
variable {ov : OvK R} {ext : q0R} (hP : x3 X.P = true) (hmo : X.P.follows .mixedOrders = true) (hov : z4K X ov) (he : q2E X ext)
include hP hmo hov he
theorem y4a {tbl : FuncId → Nat → List (Nat × Nat)} {hs : FuncId → Hints} {N fuel d m : Nat} {tl : S → (S → Option R) → Option R} {f : FuncId} (htl : ∀ fn c, X.P.funcs[f]? = some fn → fn.body = some c → y1v X fn.ntmps (q7N m c) tl)
  {xs : List V} {A : Key → Option O} {K : V → List (Key × O) → Option R} {r : R} (h : y2y X ov ext tbl hs N fuel d m tl f xs A K = some r) : ∃ v L, j3 X f xs A v L ∧ K v L = some r := by
 unfold y2y at h
 split at h
 ·rename_i fn hf
  split at h
  ·rename_i c hb
   simp only [Option.ite_none_right_eq_some] at h
   obtain ⟨hl, h⟩ := h
   have := q85 (P := fun s1 => Way X fn.ntmps c (S.start xs A) .ret s1) (G := False) (fun s1 s2 h1 h2 => h1.q6j h2) (fun s1 h => h.1) h fun k hk => by
    have hn : ∀ s1, Way X fn.ntmps c (nbS (S.start xs A)) .ret s1 → Way X fn.ntmps c (S.start xs A) .ret s1 := fun s1 h2 => ⟨h2.1, fun A' hA Ψ hΨ => DC.q6j ((z5I (S.start xs A)).2 X fn.ntmps A' hA) (h2.2 A' hA Ψ hΨ)⟩
    rcases z3J (fun p c s K h => z6o hP hmo (z6n hP hmo hov he d) he fuel p c s K h) m c [] _ _ _ hk with ⟨s1, h1, a1, d1⟩ | ⟨e, s1, hne, h1, a1, d1⟩
    ·obtain ⟨s2, h2, a2, d2⟩ := htl fn c hf hb _ _ _ h1
     exact .inl ⟨s2, h2, hn s2 ⟨a2.trans a1, fun A' hA Ψ hΨ => d1 A' hA Ψ (d2 A' (by rw [a1]; exact hA) Ψ hΨ)⟩⟩
    ·cases e with
     | ret => exact .inl ⟨s1, h1, hn s1 ⟨a1, d1⟩⟩
     | normal | exit _ | goto _ | panic _ | outgrown => cases h1
   rcases this with ⟨s', h1, h2, h3⟩ | h
   ·obtain ⟨v, L, h4, h5⟩ := z6u h1
    refine ⟨v, L, q3r hP hf hb rfl hl fun A' hA => ?_, h4⟩
    exact h3 A' hA (fun e s' => (e = .normal ∨ e = .ret) ∧ q28 X fn A' v L s') ⟨.inr rfl, h5 A' (by rw [h2]; exact hA)⟩
   ·exact h.elim
  ·cases h
 ·cases h
end
end Go.E
namespace Go.E
open Go
mutual
def Y2 : C → Nat
 | .str l => l.length + 1
 | .agg cs => U5 cs + 1
 | .slice cs => U5 cs + 1
 | .int _ | .bool _ | .nil => 1
def U5 : List C → Nat
 | [] => 0
 | c :: r => Y2 c + U5 r
end
theorem z3V : ∀ c : C, 1 ≤ Y2 c
 | .str l => by simp [Y2]
 | .agg cs => by simp [Y2]
 | .slice cs => by simp [Y2]
 | .int _ | .bool _ | .nil => by simp [Y2]
theorem z2f : ∀ l : List C, l.length ≤ U5 l
 | [] => Nat.zero_le _
 | c :: l => by have := z3V c; have := z2f l; simp only [U5, List.length_cons]; omega
theorem z2e : ∀ {l : List C} {c : C}, c ∈ l → Y2 c ≤ U5 l
 | x :: l, c, h => by
  simp only [U5]
  rcases List.mem_cons.1 h with rfl | h
  ·omega
  ·have := z2e h; omega
theorem z2d (c : C) : U5 c.elems ≤ Y2 c := by
 cases c <;> simp [C.elems, Y2, U5]
theorem y1p : ∀ (l : List C) (i : Nat), Y2 (l[i]?.getD .nil) ≤ U5 l + 1 := fun l i => by
 cases h : l[i]? with
 | none => simp [Y2]
 | some x => have := z2e (List.mem_of_getElem? h); simp only [Option.getD_some]; omega
theorem y2U (c : C) (i : Nat) : Y2 (c.get i) ≤ Y2 c := by
 cases c <;> simp [C.get, Y2, y1p]
end Go.E
