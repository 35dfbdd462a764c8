/-
 A framework for runs of Go code over abstract data: what it needs, and that it is sound, part 7.
 Conditions: none.
-/
import Derived.Test.YtdoajkacibicoaaDoorEf
set_option linter.all false
namespace Go.E
open Go
def q2c : List (Nat × Sh) → Nat
 | [] => 0
 | (_, s) :: l => s.many + q2c l
def F2 : List (Nat × Sh) → Nat → List C → List (Nat × V)
 | [], _, _ => []
 | (j, s) :: l, i, ds => (j, s.fill i ds) :: F2 l (i + s.many) ds
def q1L : List (Nat × Sh) → Nat → List C → List (Nat × Option Nat)
 | [], _, _ => []
 | (_, s) :: l, i, ds => (match s with
  | .sl _ _ t => (t, some (dk ds i).elems.length) :: q1L l (i + s.many) ds
  | _ => q1L l (i + s.many) ds)
def U2 : List (Key × OSh) → Nat
 | [] => 0
 | (_, .box s) :: l => s.many + U2 l
 | (_, .map _ _) :: l => U2 l
 | (_, .dead _) :: l => 1 + U2 l
 | (_, .it) :: l => 2 + U2 l
def dE (τ : Ty) (l : Es) : List (C × V) := l.map fun p => (p.1, .d τ p.2)
def isD (τ : Ty) : V → Bool
 | .d τ' _ => decide (τ' = τ)
 | _ => false
def unV : V → C
 | .d _ c => c
 | _ => .nil
def z8L (τ : Ty) : List (C × V) → Bool
 | [] => true
 | (_, v) :: es => isD τ v && z8L τ es
def unE (es : List (C × V)) : Es := es.map fun p => (p.1, unV p.2)
theorem z8w {τ : Ty} : ∀ {es : List (C × V)}, z8L τ es = true → dE τ (unE es) = es
 | [], _ => rfl
 | (k, v) :: es, h => by
  simp only [z8L, Bool.and_eq_true] at h
  have := z8w h.2
  simp only [dE, unE, List.map_cons, List.map_map] at this ⊢
  rw [this]
  cases v <;> simp only [isD, reduceCtorEq, decide_eq_true_eq] at h <;> first | exact h.1.elim | (rw [h.1]; rfl)
theorem z5U (τ : Ty) : ∀ m : Es, q0z τ (dE τ m) = true
 | [] => rfl
 | _ :: m => by
  have := z5U τ m
  have h : Ty.beq τ τ = true := (Ty.beq_iff τ τ).2 rfl
  simp only [dE, List.map_cons, q0z, h, Bool.true_and] at this ⊢
  exact this
def w7 : List (Key × OSh) → Nat → Nat → List C → List Es → List (Key × O)
 | [], _, _, _, _ => []
 | (k, .box s) :: l, i, j, ds, ms => (k, .box (s.fill i ds)) :: w7 l (i + s.many) j ds ms
 | (k, .map kτ vτ) :: l, i, j, ds, ms => (k, .map kτ vτ (dE vτ (dm ms j))) :: w7 l i (j + 1) ds ms
 | (k, .dead e) :: l, i, j, ds, ms => (k, .dead (.arr (dk ds i).toInt.toNat e)) :: w7 l (i + 1) j ds ms
 | (k, .it) :: l, i, j, ds, ms => (k, .it (dk ds i).toStr (dk ds (i + 1)).toInt.toNat) :: w7 l (i + 2) j ds ms
def q59 (sh : SSh) (A : Key → Option O) (ds : List C) (ms : List Es) : S :=
 ⟨F2 sh.env 0 ds, w7 sh.loc (q2c sh.env) 0 ds ms, A, q1L sh.env 0 ds⟩
def y3b (s : S) (sh : Sh) (d : List C) : Bool :=
 match sh with
 | .sl _ _ t => (match J4 s.tk t with
  | some L => Nat.beq L (dk d 0).elems.length
  | none => false)
 | _ => true
def z3H {R : Type} (s : S) : List (Nat × Sh) → (List C → Option R) → Option R
 | [], K => K []
 | (j, sh) :: l, K => sh.coe (s.get j) fun d1 => if (sh.fill 0 d1).ty.isAgg = (s.get j).ty.isAgg then (bif y3b s sh d1 then z3H s l fun d2 => K (d1 ++ d2) else none) else none
def y2h : V → Bool
 | .nilc => true
 | _ => false
def q3d {R : Type} (s : S) : List (Key × OSh) → (List C → List Es → Option R) → Option R
 | [], K => K [] []
 | (k, .box sh) :: l, K => (match s.obj k with
  | some (.box x) => if y2h x = false then sh.coe x fun d1 => if (sh.fill 0 d1).plain = true ∧ (sh.fill 0 d1).r6 = true then q3d s l fun d2 m2 => K (d1 ++ d2) m2 else none else none
  | _ => none)
 | (k, .map kτ vτ) :: l, K => (match s.obj k with
  | some (.map kτ' vτ' es) => if kτ' = kτ ∧ vτ' = vτ then (if z8L vτ es = true then q3d s l fun d2 m2 => K d2 (unE es :: m2) else none) else none
  | _ => none)
 | (k, .dead e) :: l, K => (match s.obj k with
  | some o => (match o.ty with
   | .arr M e' => if e' = e then q3d s l fun d2 m2 => K (.int M :: d2) m2 else none
   | _ => none)
  | _ => none)
 | (k, .it) :: l, K => (match s.obj k with
  | some (.it x p) => q3d s l fun d2 m2 => K (.str x :: .int p :: d2) m2
  | _ => none)
def z1n (f g : Nat → Bool) : List Cap → Bool
 | [] => true
 | .c _ :: l => z1n f g l
 | .v x :: l => x.ok f g && z1n f g l
theorem q80 {f g : Nat → Bool} : ∀ (l : List Cap) (i : Nat) (ds : List C), z1n f g l = true → V.oks f g (F3 l i ds) = true
 | [], _, _, _ => rfl
 | .c _ :: l, i, ds, h => by
  simp only [z1n] at h
  simp only [F3, V.oks, V.ok, Bool.true_and]
  exact q80 l _ _ h
 | .v x :: l, i, ds, h => by
  simp only [z1n, Bool.and_eq_true] at h
  simp only [F3, V.oks, Bool.and_eq_true]
  exact ⟨h.1, q80 l _ _ h.2⟩
mutual
def Sh.okB (f g : Nat → Bool) : Sh → Bool
 | .sl _ _ t => g t
 | .sr (.l k) _ _ _ _ => f k
 | .vec (.l k) _ _ => f k
 | .agg _ l => Sh.y0B f g l
 | .as v => v.ok f g
 | .fnc _ l => z1n f g l
 | _ => true
def Sh.y0B (f g : Nat → Bool) : List Sh → Bool
 | [] => true
 | s :: l => s.okB f g && Sh.y0B f g l
end
mutual
theorem Sh.z4D {f g : Nat → Bool} : ∀ (s : Sh) (i : Nat) (ds : List C), s.okB f g = true → (s.fill i ds).ok f g = true
 | .sl _ _ t, _, _, h => by simpa only [Sh.fill, V.ok, Sh.okB] using h
 | .sr (.l k) _ _ _ _, _, _, h => by simpa only [Sh.fill, V.ok, Sh.okB] using h
 | .sr (.g k) _ _ _ _, _, _, h => by simp only [Sh.fill, V.ok]
 | .vec (.l k) _ _, _, _, h => by simpa only [Sh.fill, V.ok, Sh.okB] using h
 | .vec (.g k) _ _, _, _, h => by simp only [Sh.fill, V.ok]
 | .agg _ l, _, _, h => by simp only [Sh.fill, V.ok, Sh.okB] at h ⊢; exact Sh.z78 l _ _ h
 | .as v, _, _, h => by simpa only [Sh.fill, Sh.okB] using h
 | .fnc _ l, i, ds, h => by simp only [Sh.fill, V.ok, Sh.okB] at h ⊢; exact q80 l i ds h
 | .d _, _, _, _ | .ts _ _, _, _, _ | .cptr _, _, _, _ | .arr _, _, _, _ => by simp only [Sh.fill, V.ok]
theorem Sh.z78 {f g : Nat → Bool} : ∀ (l : List Sh) (i : Nat) (ds : List C), Sh.y0B f g l = true → V.oks f g (Sh.X7 l i ds) = true
 | [], _, _, _ => rfl
 | s :: l, i, ds, h => by
  simp only [Sh.y0B, Bool.and_eq_true] at h
  simp only [Sh.X7, V.oks, Bool.and_eq_true]
  exact ⟨Sh.z4D s _ _ h.1, Sh.z78 l _ _ h.2⟩
end
def OSh.okB (f g : Nat → Bool) : OSh → Bool
 | .box s => s.okB f g
 | .map _ _ => true
 | .dead _ | .it => true
def q7d : List (Key × OSh) → Key → Bool
 | [], _ => false
 | (j, _) :: l, k => if j = k then true else q7d l k
def z6u (l : List (Key × OSh)) (n : Nat) : Bool := q7d l (.l n)
def q8N : List (Nat × Sh) → Nat → Bool
 | [], _ => false
 | (_, .sl _ _ t) :: l, u => if t = u then true else q8N l u
 | _ :: l, u => q8N l u
def z1o (L : List (Key × OSh)) : List (Key × O) → Bool
 | [] => true
 | (.g k, _) :: l => q7d L (.g k) && z1o L l
 | (.l _, _) :: l => z1o L l
def q71 (f g : Nat → Bool) : List (Key × OSh) → Bool
 | [] => true
 | (_, o) :: l => o.okB f g && q71 f g l
def z3F (f g : Nat → Bool) : List (Nat × Sh) → Bool
 | [] => true
 | (_, s) :: l => s.okB f g && z3F f g l
def okS (sh : SSh) (loc : List (Key × O)) : Bool :=
 q71 (z6u sh.loc) (q8N sh.env) sh.loc && z1o sh.loc loc && z3F (z6u sh.loc) (q8N sh.env) sh.env
theorem q55 : ∀ (l : List (Key × OSh)) (i j : Nat) (ds : List C) (ms : List Es) (k : Key), (z6 (w7 l i j ds ms) k).isSome = q7d l k
 | [], _, _, _, _, _ => rfl
 | (n, .box s) :: l, i, j, ds, ms, k => by
  simp only [w7, z6, q7d]
  split
  ·rfl
  ·exact q55 l _ _ _ _ _
 | (n, .map _ _) :: l, i, j, ds, ms, k | (n, .dead _) :: l, i, j, ds, ms, k | (n, .it) :: l, i, j, ds, ms, k => by
  simp only [w7, z6, q7d]
  split
  ·rfl
  ·exact q55 l _ _ _ _ _
theorem y2p (l : List (Key × OSh)) (i j : Nat) (ds : List C) (ms : List Es) : Q3 (w7 l i j ds ms) = z6u l := by
 funext n; exact q55 l i j ds ms (.l n)
theorem z5A : ∀ (l : List (Nat × Sh)) (i : Nat) (ds : List C), U5 (q1L l i ds) = q8N l
 | [], _, _ => rfl
 | (_, s) :: l, i, ds => by
  have ih := z5A l (i + s.many) ds
  funext u
  have ih := congrFun ih u
  unfold U5 at ih ⊢
  cases s <;> simp only [q1L, q8N, look] <;> (try exact ih)
  split
  ·rfl
  ·exact ih
theorem q7b {f g : Nat → Bool} : ∀ (l : List (Key × OSh)) (i j : Nat) (ds : List C) (ms : List Es), q71 f g l = true → q0R f g (w7 l i j ds ms) = true
 | [], _, _, _, _, _ => rfl
 | (n, .box s) :: l, i, j, ds, ms, h => by
  simp only [q71, Bool.and_eq_true] at h
  simp only [w7, q0R, Bool.and_eq_true, O.okB, O.ok]
  exact ⟨Sh.z4D s _ _ h.1, q7b l _ _ _ _ h.2⟩
 | (n, .map _ vτ) :: l, i, j, ds, ms, h => by
  simp only [q71, Bool.and_eq_true] at h
  simp only [w7, q0R, Bool.and_eq_true, O.okB, O.ok]
  exact ⟨z5U vτ _, q7b l _ _ _ _ h.2⟩
 | (n, .dead _) :: l, i, j, ds, ms, h | (n, .it) :: l, i, j, ds, ms, h => by
  simp only [q71, Bool.and_eq_true] at h
  simp only [w7, q0R, Bool.and_eq_true, O.okB, O.ok]
  exact ⟨trivial, q7b l _ _ _ _ h.2⟩
theorem z5F {f g : Nat → Bool} : ∀ (l : List (Nat × Sh)) (i : Nat) (ds : List C), z3F f g l = true → q3g f g (F2 l i ds) = true
 | [], _, _, _ => rfl
 | (n, s) :: l, i, ds, h => by
  simp only [z3F, Bool.and_eq_true] at h
  simp only [F2, q3g, Bool.and_eq_true]
  exact ⟨Sh.z4D s _ _ h.1, z5F l _ _ h.2⟩
theorem z2v {L : List (Key × OSh)} {i j : Nat} {ds : List C} {ms : List Es} : ∀ {l : List (Key × O)}, z1o L l = true → q4d (w7 L i j ds ms) l = true
 | [], _ => rfl
 | (.g k, _) :: l, h => by
  simp only [z1o, Bool.and_eq_true] at h
  simp only [q4d, Bool.and_eq_true, q55]
  exact ⟨h.1, z2v h.2⟩
 | (.l _, _) :: l, h => by
  simp only [z1o] at h
  simp only [q4d]
  exact z2v h
def y1l {R : Type} (sh : SSh) (s : S) (K : List C → List Es → Option R) : Option R :=
 z3H s sh.env fun d1 => q3d s sh.loc fun d2 ms => if okS sh s.loc = true then K (d1 ++ d2) ms else none
theorem q7A : ∀ (l : List (Nat × Sh)) (i i' : Nat) (ds ds' : List C), (∀ j, j < q2c l → dk ds (i + j) = dk ds' (i' + j)) → F2 l i ds = F2 l i' ds'
 | [], _, _, _, _, _ => rfl
 | (n, s) :: l, i, i', ds, ds', h => by
  simp only [q2c] at h
  simp only [F2]
  rw [Sh.q2G s i i' ds ds' (fun j hj => h j (by omega)), q7A l (i + s.many) (i' + s.many) ds ds' (fun j hj => by
   have := h (s.many + j) (by omega)
   rwa [← Nat.add_assoc, ← Nat.add_assoc] at this)]
theorem z0t : ∀ (l : List (Nat × Sh)) (i i' : Nat) (ds ds' : List C), (∀ j, j < q2c l → dk ds (i + j) = dk ds' (i' + j)) → q1L l i ds = q1L l i' ds'
 | [], _, _, _, _, _ => rfl
 | (n, s) :: l, i, i', ds, ds', h => by
  simp only [q2c] at h
  simp only [q1L]
  have e := z0t l (i + s.many) (i' + s.many) ds ds' (fun j hj => by
   have := h (s.many + j) (by omega)
   rwa [← Nat.add_assoc, ← Nat.add_assoc] at this)
  cases s <;> simp only at e ⊢ <;> (try exact e)
  have h0 := h 0 (by simp only [Sh.many]; omega)
  simp only [Nat.add_zero] at h0
  rw [e, h0]
theorem J2 : ∀ (l : List (Key × OSh)) (i i' m : Nat) (ds ds' : List C) (ms : List Es), (∀ j, j < U2 l → dk ds (i + j) = dk ds' (i' + j)) → w7 l i m ds ms = w7 l i' m ds' ms
 | [], _, _, _, _, _, _, _ => rfl
 | (n, .box s) :: l, i, i', m, ds, ds', ms, h => by
  simp only [U2] at h
  simp only [w7]
  rw [Sh.q2G s i i' ds ds' (fun j hj => h j (by omega)), J2 l (i + s.many) (i' + s.many) m ds ds' ms (fun j hj => by
   have := h (s.many + j) (by omega)
   rwa [← Nat.add_assoc, ← Nat.add_assoc] at this)]
 | (n, .map _ _) :: l, i, i', m, ds, ds', ms, h => by
  simp only [U2] at h
  simp only [w7]
  rw [J2 l i i' (m + 1) ds ds' ms h]
 | (n, .dead e) :: l, i, i', m, ds, ds', ms, h => by
  simp only [U2] at h
  simp only [w7]
  have h0 := h 0 (by omega)
  simp only [Nat.add_zero] at h0
  rw [h0, J2 l (i + 1) (i' + 1) m ds ds' ms (fun j hj => by
   have := h (1 + j) (by omega)
   rwa [← Nat.add_assoc, ← Nat.add_assoc] at this)]
 | (n, .it) :: l, i, i', m, ds, ds', ms, h => by
  simp only [U2] at h
  simp only [w7]
  have h0 := h 0 (by omega)
  have h1 := h 1 (by omega)
  simp only [Nat.add_zero] at h0
  rw [h0, h1, J2 l (i + 2) (i' + 2) m ds ds' ms (fun j hj => by
   have := h (2 + j) (by omega)
   rwa [← Nat.add_assoc, ← Nat.add_assoc] at this)]
theorem q2z : ∀ (l : List (Key × OSh)) (i m : Nat) (ds : List C) (e : Es) (ms : List Es), w7 l i (m + 1) ds (e :: ms) = w7 l i m ds ms
 | [], _, _, _, _, _ => rfl
 | (n, .box s) :: l, i, m, ds, e, ms => by simp only [w7]; rw [q2z l]
 | (n, .map _ _) :: l, i, m, ds, e, ms => by simp only [w7]; rw [q2z l]; rfl
 | (n, .dead _) :: l, i, m, ds, e, ms | (n, .it) :: l, i, m, ds, e, ms => by simp only [w7]; rw [q2z l]
theorem z5G {R : Type} {r : R} {s : S} : ∀ (l : List (Nat × Sh)) {K : List C → Option R}, z3H s l K = some r →
  ∃ ds, K ds = some r ∧ ds.length = q2c l ∧ (∀ f g, q3g f g (F2 l 0 ds) = true → q5N f g s (F2 l 0 ds)) ∧ tkW s (q1L l 0 ds)
 | [], K, h => ⟨[], h, rfl, fun _ _ _ => trivial, trivial⟩
 | (n, sh) :: l, K, h => by
  simp only [z3H] at h
  obtain ⟨d1, h1, h2, h3, h4⟩ := Sh.z8A sh _ h
  simp only [Option.ite_none_right_eq_some] at h1
  obtain ⟨h5, h1⟩ := h1
  cases htk : y3b s sh d1 with
  | false => rw [htk] at h1; cases h1
  | true =>
   rw [htk, cond_true] at h1
   obtain ⟨d2, h6, h7, h8, h9⟩ := z5G l h1
   have e1 : sh.fill 0 (d1 ++ d2) = sh.fill 0 d1 := Sh.q2G sh 0 0 _ _ fun j hj => F7 (by omega)
   have sft : ∀ j, dk (d1 ++ d2) (sh.many + j) = dk d2 (0 + j) := fun j => by
    rw [q0N (by omega), h2]
    congr 1; omega
   have e2 : F2 l sh.many (d1 ++ d2) = F2 l 0 d2 := q7A l _ 0 _ _ fun j hj => sft j
   have e3 : q1L l sh.many (d1 ++ d2) = q1L l 0 d2 := z0t l _ 0 _ _ fun j hj => sft j
   refine ⟨_, h6, by simp [q2c, h2, h7], fun f g hok => ?_, ?_⟩
   ·simp only [F2, Nat.zero_add, e1, e2, q3g, Bool.and_eq_true] at hok ⊢
    exact ⟨h3, hok.1, .inr h5, h8 f g hok.2⟩
   ·simp only [q1L, Nat.zero_add]
    cases sh <;> simp only [e3] <;> (try exact h9)
    simp only [y3b] at htk
    simp only [Sh.many] at h2
    rw [F7 (by omega)]
    refine ⟨?_, h9⟩
    split at htk
    ·rename_i L hL
     have := Nat.eq_of_beq_eq_true htk
     show s.live _ = some _
     rw [← this]; exact hL
    ·cases htk
theorem y1F {s : S} {A' : Key → Option O} : ∀ {l : List (Nat × Option Nat)}, tkW s l → tkW (s.wA A') l
 | [], _ => trivial
 | (_, _) :: _, h => ⟨h.1, y1F h.2⟩
theorem z9T {f g : Nat → Bool} {s : S} {A' : Key → Option O} : ∀ {l : List (Nat × V)}, q5N f g s l → q5N f g (s.wA A') l
 | [], _ => trivial
 | (_, _) :: _, h => ⟨h.1, h.2.1, h.2.2.1, z9T h.2.2.2⟩
theorem y5S {R : Type} {r : R} {sh : SSh} {s : S} {K : List C → List Es → Option R} (h : y1l sh s K = some r) :
  ∃ ds ms, K ds ms = some r ∧ ∀ (X : Cx) (n : Nat) (A' : Key → Option O), leA s.A A' → J1 X n (s.wA A') ((q59 sh s.A ds ms).wA A') := by
 unfold y1l at h
 obtain ⟨d1, h1, h2, h3, h4⟩ := z5G _ h
 have det : ∃ d2 ms, K (d1 ++ d2) ms = some r ∧ okS sh s.loc = true ∧ d2.length = U2 sh.loc ∧ ∀ A', leA s.A A' → q25 (s.wA A') (w7 sh.loc 0 0 d2 ms) := by
  -- what is read does not lean on A'
  have gen : ∀ (l : List (Key × OSh)) {K : List C → List Es → Option R}, q3d s l K = some r → ∃ ds ms, K ds ms = some r ∧ ds.length = U2 l ∧ ∀ A', leA s.A A' → q25 (s.wA A') (w7 l 0 0 ds ms) := by
   intro l
   induction l with
   | nil => intro K h; exact ⟨[], [], h, rfl, fun _ _ => trivial⟩
   | cons p l ih =>
    obtain ⟨k, o⟩ := p
    intro K h
    cases o with
    | box sh =>
     simp only [q3d] at h
     split at h
     ·rename_i x hx
      simp only [Option.ite_none_right_eq_some] at h
      obtain ⟨h0, h⟩ := h
      obtain ⟨d1, h1, h2, h3, h4⟩ := Sh.z8A sh _ h
      simp only [Option.ite_none_right_eq_some] at h1
      obtain ⟨h5, h1⟩ := h1
      obtain ⟨d2, ms, h6, h7, h8⟩ := ih h1
      have e1 : sh.fill 0 (d1 ++ d2) = sh.fill 0 d1 := Sh.q2G sh 0 0 _ _ fun j hj => F7 (by omega)
      have e2 : w7 l sh.many 0 (d1 ++ d2) ms = w7 l 0 0 d2 ms := J2 l _ 0 0 _ _ _ fun j hj => by
       rw [q0N (by omega), h2]
       congr 1; omega
      refine ⟨_, _, h6, by simp [U2, h2, h7], fun A' hA => ?_⟩
      simp only [w7, Nat.zero_add, e1, e2, q25]
      rw [W0 hA hx]
      exact ⟨⟨h3, h4 (by intro e; subst e; simp [y2h] at h0), h5.1, h5.2⟩, h8 A' hA⟩
     ·cases h
    | map kτ vτ =>
     simp only [q3d] at h
     split at h
     ·rename_i kτ' vτ' es hx
      simp only [Option.ite_none_right_eq_some] at h
      obtain ⟨⟨rfl, rfl⟩, hd, h⟩ := h
      obtain ⟨d2, ms, h6, h7, h8⟩ := ih h
      refine ⟨_, _, h6, by simp [U2, h7], fun A' hA => ?_⟩
      simp only [w7, q25, q2z]
      rw [W0 hA hx]
      exact ⟨⟨rfl, rfl, (z8w hd).symm⟩, h8 A' hA⟩
     ·cases h
    | dead e =>
     simp only [q3d] at h
     split at h
     ·rename_i o hx
      split at h
      ·rename_i M e' ht
       simp only [Option.ite_none_right_eq_some] at h
       obtain ⟨rfl, h⟩ := h
       obtain ⟨d2, ms, h6, h7, h8⟩ := ih h
       have e2 : w7 l 1 0 (.int M :: d2) ms = w7 l 0 0 d2 ms := J2 l _ 0 0 _ _ _ fun j hj => by
        unfold dk; simp [Nat.add_comm 1 j]
       refine ⟨_, _, h6, by simp [U2, h7, Nat.add_comm], fun A' hA => ?_⟩
       simp only [w7, Nat.zero_add, e2, q25]
       rw [W0 hA hx]
       refine ⟨?_, h8 A' hA⟩
       have : (dk (C.int M :: d2) 0).toInt.toNat = M := by simp [dk, C.toInt]
       rw [this]
       cases o <;> exact ht.symm
      ·cases h
     ·cases h
    | it =>
     simp only [q3d] at h
     split at h
     ·rename_i x p hx
      obtain ⟨d2, ms, h6, h7, h8⟩ := ih h
      have e2 : w7 l 2 0 (.str x :: .int p :: d2) ms = w7 l 0 0 d2 ms := J2 l _ 0 0 _ _ _ fun j hj => by
       unfold dk; simp [Nat.add_comm 2 j]
      refine ⟨_, _, h6, by simp [U2, h7]; omega, fun A' hA => ?_⟩
      simp only [w7, Nat.zero_add, e2, q25]
      rw [W0 hA hx]
      refine ⟨?_, h8 A' hA⟩
      have e3 : (dk (C.str x :: C.int p :: d2) 0).toStr = x := by simp [dk, C.toStr]
      have e4 : (dk (C.str x :: C.int p :: d2) 1).toInt.toNat = p := by simp [dk, C.toInt]
      rw [e3, e4]
      exact ⟨rfl, rfl⟩
     ·cases h
  obtain ⟨d2, ms, h5, h6, h7⟩ := gen _ h1
  simp only [Option.ite_none_right_eq_some] at h5
  exact ⟨d2, ms, h5.2, h5.1, h6, h7⟩
 obtain ⟨d2, ms, h5, h6, h7, h8⟩ := det
 refine ⟨d1 ++ d2, ms, h5, fun X n A' hA => ?_⟩
 have e1 : F2 sh.env 0 (d1 ++ d2) = F2 sh.env 0 d1 := q7A _ 0 0 _ _ fun j hj => F7 (by omega)
 have e2 : q1L sh.env 0 (d1 ++ d2) = q1L sh.env 0 d1 := z0t _ 0 0 _ _ fun j hj => F7 (by omega)
 have e3 : w7 sh.loc (q2c sh.env) 0 (d1 ++ d2) ms = w7 sh.loc 0 0 d2 ms := J2 _ _ 0 0 _ _ _ fun j hj => by
  rw [q0N (by omega), h2]
  congr 1; omega
 simp only [okS, Bool.and_eq_true] at h6
 have hL : Q3 (q59 sh s.A (d1 ++ d2) ms).loc = z6u sh.loc := y2p ..
 have hT : U5 (q59 sh s.A (d1 ++ d2) ms).tk = q8N sh.env := z5A ..
 refine q10 rfl ?_ ?_ (q4G (z2v h6.1.2)) ?_ ?_
 ·show q25 (s.wA A') (w7 sh.loc (q2c sh.env) 0 (d1 ++ d2) ms)
  rw [e3]; exact h8 A' hA
 ·show q0R (Q3 (q59 sh s.A (d1 ++ d2) ms).loc) (U5 (q59 sh s.A (d1 ++ d2) ms).tk) _ = true
  rw [hL, hT]
  exact q7b _ _ _ _ _ h6.1.1
 ·show tkW (s.wA A') (q1L sh.env 0 (d1 ++ d2))
  rw [e2]; exact y1F h4
 ·show q5N (Q3 (q59 sh s.A (d1 ++ d2) ms).loc) (U5 (q59 sh s.A (d1 ++ d2) ms).tk) (s.wA A') (F2 sh.env 0 (d1 ++ d2))
  refine z9T ?_
  rw [hL, hT, e1]
  exact h3 _ _ (z5F _ _ _ h6.2)
theorem z8.y0o {Γ : G} {w : World} {s : S} (c : z8 Γ w s) {k : Key} {x x' : V} (h : s.obj k = some (.box x)) (h1 : Own Γ w k (.box x) → Own Γ w k (.box x')) (h2 : (O.box x).q7n → (O.box x').q7n) : z8 Γ w (s.put k (.box x')) := by
 refine ⟨c.hH, c.hZ, c.hκ, fun j o hj => ?_, fun j hj => ?_, c.z0j (fun j hj => ?_), c.tok, c.tdom, c.hgl, c.hoo, c.hσ⟩
 ·rw [Z2] at hj
  split at hj
  ·rename_i e
   subst e; cases hj
   exact (c.obj _ _ h).imp (fun h => ⟨h.1, h2 h.2⟩) h1
  ·exact c.obj j o hj
 ·rw [Z2]
  split
  ·simp
  ·exact c.dom j hj
 ·unfold S.k9 at hj ⊢
  rw [Z2]
  split
  ·rename_i e; subst e; rw [h] at hj; cases hj
  ·exact hj
def mvK (K : Key) (t : Nat) (k : Key) : Key := if k = K then .l t else k
def AtE (X : Cx) (n : Nat) (Γ0 : G) (K : Key) (t : Nat) (s : S) (a : Act) (w : World) : Prop :=
 ∃ Γ, GLe Γ0 Γ ∧ Γ.gl = X.gl ∧ z8 Γ w s ∧ q1Q Γ s a.tmps ∧ a.tmps.size = n ∧ a.defers = [] ∧ AOk s.A ∧ ∀ x, Γ.ι K = some x → Γ.ι (.l t) = some x
theorem z7A {Γ : G} {K : Key} {t : Nat} (h : ∀ x, Γ.ι K = some x → Γ.ι (.l t) = some x) {hm : Option Key} (hn : hm ≠ some K) : q2o Γ Γ (mvK K t) hm :=
 ⟨Hp.le_refl _, fun k x hk => by
  unfold mvK
  split
  ·rename_i e; subst e; exact h x hk
  ·exact hk, fun _ _ h => h, fun k b p sz e hk => by
  have : mvK K t k = k := by
   unfold mvK
   split
   ·rename_i e2; subst e2; exact absurd e hn
   ·rfl
  rw [this]; exact ⟨hk, rfl⟩⟩
theorem q9.mv {Γ : G} {K : Key} {t : Nat} (h : ∀ x, Γ.ι K = some x → Γ.ι (.l t) = some x) {x : V} {v : Value} (hr : q9 Γ x v) : q9 Γ (x.ren (mvK K t) id) v :=
 q9.ren (z7A h (by simp)) (fun _ _ h => h) hr
def q1S (K : Key) (t : Nat) : List Key → S → S
 | [], s => s
 | k :: ks, s => if k = K ∨ k = .l t then q1S K t ks s else (match s.obj k with
  | some (.box x) => q1S K t ks (s.put k (.box (x.ren (mvK K t) id)))
  | _ => q1S K t ks s)
theorem q8t (K : Key) (t : Nat) : ∀ (ks : List Key) (s : S), (q1S K t ks s).A = s.A
 | [], _ => rfl
 | k :: ks, s => by
  simp only [q1S]
  split
  ·exact q8t K t ks s
  ·split
   ·exact q8t K t ks _
   ·exact q8t K t ks s
def WkE (K : Key) (t : Nat) (s s' : S) : Prop := s'.A = s.A ∧ ∀ (X : Cx) (n : Nat) (A' : Key → Option O), leA s.A A' → ∀ (Γ0 : G) (a : Act) (w : World), AtE X n Γ0 K t (s.wA A') a w → AtE X n Γ0 K t (s'.wA A') a w
theorem WkE.refl {K : Key} {t : Nat} (s : S) : WkE K t s s := ⟨rfl, fun _ _ _ _ _ _ _ h => h⟩
theorem WkE.trans {K : Key} {t : Nat} {a b c : S} (h : WkE K t a b) (h' : WkE K t b c) : WkE K t a c :=
 ⟨h'.1.trans h.1, fun X n A' hA Γ0 ac w hat => h'.2 X n A' (by rw [h.1]; exact hA) Γ0 ac w (h.2 X n A' hA Γ0 ac w hat)⟩
theorem y4t {X : Cx} {n : Nat} {Γ0 : G} {K : Key} {t : Nat} {a : Act} {w : World} {s : S} {k : Key} {x : V} (hk : ¬ (k = K ∨ k = .l t)) (hx : s.obj k = some (.box x)) (h : AtE X n Γ0 K t s a w) : AtE X n Γ0 K t (s.put k (.box (x.ren (mvK K t) id))) a w := by
 obtain ⟨Γ, g1, g3, c, hs, hn, hf, hA, hι⟩ := h
 have hkK : (some k : Option Key) ≠ some K := fun e => hk (.inl (by cases e; rfl))
 refine ⟨Γ, g1, g3, c.y0o hx (fun hown => ?_) (fun hv => ?_), hs, hn, hf, hA, hι⟩
 ·obtain ⟨b, cells, T, h1, h2, h3, h4, h5, h6, h7, h8⟩ := hown
  have hmv : mvK K t k = k := by unfold mvK; rw [if_neg (fun e => hk (.inl e))]
  have := q8.Q2 (θ := id) (z7A hι hkK) h8 h6
  simp only [Option.map_some, hmv] at this
  exact ⟨b, cells, T, by rw [V.q2r]; exact h1, h2, h3, h4, by rw [V.q2r]; exact h5, by rw [V.q2r]; exact this, by rw [V.q9Q]; exact h7, by rw [V.q8v]; exact h8⟩
 ·obtain ⟨e, rfl⟩ := hv
  exact ⟨e, by simp [V.ren]⟩
theorem q61 (K : Key) (t : Nat) : ∀ (ks : List Key) (s : S), WkE K t s (q1S K t ks s)
 | [], s => WkE.refl s
 | k :: ks, s => by
  simp only [q1S]
  split
  ·exact q61 K t ks s
  ·rename_i hk
   split
   ·rename_i x hx
    exact WkE.trans (b := s.put k (.box (x.ren (mvK K t) id))) ⟨rfl, fun X n A' hA Γ0 a w h => y4t (s := s.wA A') hk (W0 hA hx) h⟩ (q61 K t ks _)
   ·exact q61 K t ks s
def z0N (K : Key) (t : Nat) (ks : List Key) (s : S) : S :=
 match s.obj K with
 | some (.box (.d (.arr M e) cc)) => if (s.obj (.l t)).isNone = true then
   { q1S K t ks ((s.put K (.dead (.arr M e))).put (.l t) (.box (.d (.arr M e) cc))) with env := s.env.map fun p => (p.1, p.2.ren (mvK K t) id) } else s
 | _ => s
theorem y4y {X : Cx} {n : Nat} {Γ0 : G} {K : Key} {t : Nat} {a : Act} {w : World} {s : S} {M : Nat} {e : Ty} {cc : C} (hK : s.obj K = some (.box (.d (.arr M e) cc))) (ht : s.obj (.l t) = none) (h : At X n Γ0 s a w) :
  AtE X n Γ0 K t ((s.put K (.dead (.arr M e))).put (.l t) (.box (.d (.arr M e) cc))) a w := by
 obtain ⟨Γ, g1, g3, c, hs, hn, hf, hA⟩ := h
 have hobj : ∀ j, S.obj ((s.put K (.dead (.arr M e))).put (.l t) (.box (.d (.arr M e) cc))) j = S.obj { s with loc := (Key.l t, O.box (.d (.arr M e) cc)) :: (K, O.dead (.arr M e)) :: s.loc } j := fun j => by
  rw [Z2, Z2, show S.obj { s with loc := (Key.l t, O.box (.d (.arr M e) cc)) :: (K, O.dead (.arr M e)) :: s.loc } j = S.obj { ({ s with loc := (K, O.dead (.arr M e)) :: s.loc } : S) with loc := (Key.l t, O.box (.d (.arr M e) cc)) :: ({ s with loc := (K, O.dead (.arr M e)) :: s.loc } : S).loc } j from rfl, c9, c9]
 rcases c.obj K _ hK with ⟨h1, h2⟩ | hown
 ·-- without a block
  refine ⟨Γ, g1, g3, ⟨c.hH, c.hZ, c.hκ, fun j o hj => ?_, fun j hj => ?_, c.z0j (fun j hj => ?_), c.tok, c.tdom, c.hgl, c.hoo, c.hσ⟩, hs, hn, hf, hA, fun x hx => by rw [h1] at hx; cases hx⟩
  ·rw [Z2] at hj
   split at hj
   ·rename_i e1; subst e1; cases hj
    exact .inl ⟨c.q9w ht, h2⟩
   ·rw [Z2] at hj
    split at hj
    ·rename_i e1; subst e1; cases hj; exact .inl ⟨h1, trivial⟩
    ·exact c.obj j o hj
  ·rw [Z2]
   split
   ·simp
   ·rw [Z2]
    split
    ·simp
    ·exact c.dom j hj
  ·unfold S.k9 at hj ⊢
   rw [Z2]
   split
   ·rename_i e1; subst e1; rw [ht] at hj; cases hj
   ·rw [Z2]
    split
    ·rfl
    ·exact hj
 ·obtain ⟨b, cells, T, e1, e2, e3, e4, e5, e6, e7, e8⟩ := hown
  have hx0 : q8 Γ none [] (.d (.arr M e) cc) (chunk cells.toList 0 (V.d (.arr M e) cc).ty.size) := by
   simp only [q8] at e6 ⊢; exact e6
  obtain ⟨k1, k2, k3⟩ := c.y1W (w' := w) (j := .l t) (x' := .d (.arr M e) cc) hK rfl e1 ht e4 (fun _ _ => rfl) rfl rfl e5 hx0 e7 e8 (fun arr T' fr h => by rw [e4] at h; cases h; rfl)
  have hkt : K ≠ .l t := fun e => by rw [e, ht] at hK; cases hK
  refine ⟨_, g1.trans k3, by rw [k3.gl]; exact g3, k1.congr hobj (fun _ => rfl) (fun _ h => h), hs.j6 k2, hn, hf, hA, fun x hx => ?_⟩
  have : Γ.ι K = some x := by simpa [G.o8, q0u, hkt] using hx
  rw [e1] at this; cases this
  simp [G.o8, q0u, V.ty]
theorem y2Y (K : Key) (t : Nat) (ks : List Key) (s : S) : (z0N K t ks s).A = s.A ∧ ∀ (X : Cx) (n : Nat) (A' : Key → Option O), leA s.A A' → J1 X n (s.wA A') ((z0N K t ks s).wA A') := by
 unfold z0N
 split
 ·rename_i M e cc hK
  split
  ·rename_i ht
   have ht' : s.obj (.l t) = none := by simpa using ht
   refine ⟨q8t K t ks _, fun X n A' hA Γ0 a w hat => ?_⟩
   have h1 := y4y (s := s.wA A') (W0 hA hK) (by rw [q2x]; exact ht') hat
   obtain ⟨_, h2⟩ := q61 K t ks ((s.put K (.dead (.arr M e))).put (.l t) (.box (.d (.arr M e) cc)))
   obtain ⟨Γ, g1, g3, c, hs, hn, hf, hAok, hι⟩ := h2 X n A' hA Γ0 a w h1
   refine ⟨Γ, g1, g3, c.congr (fun _ => rfl) (fun _ => rfl) (fun _ h => h), fun i => ?_, hn, hf, hAok⟩
   have henv : ((q1S K t ks ((s.put K (.dead (.arr M e))).put (.l t) (.box (.d (.arr M e) cc)))).wA A').env = s.env := by
    have : ∀ (ks : List Key) (s : S), (q1S K t ks s).env = s.env := by
     intro ks
     induction ks with
     | nil => intro s; rfl
     | cons k ks ih =>
      intro s
      simp only [q1S]
      split
      ·exact ih s
      ·split
       ·exact ih _
       ·exact ih s
    exact this ks _
   have hi := hs i
   have e1 : S.get ((q1S K t ks ((s.put K (.dead (.arr M e))).put (.l t) (.box (.d (.arr M e) cc)))).wA A') i = (look s.env i).getD .any := by
    unfold S.get; rw [henv]
   rw [e1] at hi
   show q9 Γ ((look (s.env.map fun p => (p.1, p.2.ren (mvK K t) id)) i).getD .any) _
   rw [q6A]
   cases hl : look s.env i with
   | none => trivial
   | some x =>
    rw [hl] at hi
    exact q9.mv hι hi
  ·exact ⟨rfl, fun _ _ _ _ => J1.refl _⟩
 ·exact ⟨rfl, fun _ _ _ _ => J1.refl _⟩
def T0 : Nat := 1000000000000000
mutual
def V.H6 : Sh → V → V
 | .vec (.l a) eb e, x => (match x with
  | .emp eb' e' => if eb' = eb ∧ e' = e then .sr (.l (a + T0)) [] 0 0 none eb e else x
  | x => x)
 | .agg _ l, x => (match x with
  | .agg τ xs => .agg τ (V.q05 l xs)
  | x => x)
 | _, x => x
def V.q05 : List Sh → List V → List V
 | s :: l, x :: xs => V.H6 s x :: V.q05 l xs
 | _, xs => xs
end
theorem V.q9y : ∀ (l : List Sh) (xs : List V), (V.q05 l xs).length = xs.length
 | [], xs => by simp [V.q05]
 | s :: l, [] => by simp [V.q05]
 | s :: l, x :: xs => by simp [V.q05, V.q9y l xs]
theorem V.q7L (s : Sh) (x : V) : (V.H6 s x).ty = x.ty := by
 unfold V.H6
 split
 ·split
  ·split
   ·rename_i h; obtain ⟨rfl, rfl⟩ := h; rfl
   ·rfl
  ·rfl
 ·split <;> rfl
 ·rfl
theorem V.z2B (s : Sh) (x : V) : (V.H6 s x).plain = x.plain := by
 unfold V.H6
 split
 ·split
  ·split
   ·rfl
   ·rfl
  ·rfl
 ·split <;> rfl
 ·rfl
mutual
theorem V.z41 : ∀ (s : Sh) (x : V), (V.H6 s x).r6 = x.r6
 | .vec (.l a) eb e, x => by
  simp only [V.H6]
  split
  ·split <;> simp [V.r6]
  ·rfl
 | .agg _ l, x => by
  simp only [V.H6]
  split
  ·simp only [V.r6]; exact V.z2A l _
  ·rfl
 | .vec (.g _) _ _, _ | .d _, _ | .sl _ _ _, _ | .ts _ _, _ | .sr _ _ _ _ _, _ | .cptr _, _ | .arr _, _ | .as _, _ | .fnc _ _, _ => by simp [V.H6]
theorem V.z2A : ∀ (l : List Sh) (xs : List V), V.Z3 (V.q05 l xs) = V.Z3 xs
 | [], xs => by simp [V.q05]
 | s :: l, [] => by simp [V.q05]
 | s :: l, x :: xs => by simp only [V.q05, V.Z3, V.z41 s x, V.z2A l xs]
end
mutual
theorem q8.H6 {Γ : G} {hm : Option Key} : ∀ (s : Sh) (x : V) {p : List Nat} {vs : List Value}, q8 Γ hm p x vs → q8 Γ hm p (V.H6 s x) vs
 | .vec (.l a) eb e, x, p, vs, h => by
  simp only [V.H6]
  split
  ·split
   ·simp only [q8] at h ⊢
    obtain ⟨a, h⟩ := h
    exact .inl ⟨trivial, trivial, a, h⟩
   ·exact h
  ·exact h
 | .agg _ l, x, p, vs, h => by
  simp only [V.H6]
  split
  ·simp only [q8] at h ⊢
   exact ⟨h.1, h.2.1, by rw [V.q9y]; exact h.2.2.1, h.2.2.2.1, y4.q05 l _ h.2.2.2.2⟩
  ·exact h
 | .vec (.g _) _ _, _, _, _, h | .d _, _, _, _, h | .sl _ _ _, _, _, _, h | .ts _ _, _, _, _, h | .sr _ _ _ _ _, _, _, _, h | .cptr _, _, _, _, h | .arr _, _, _, _, h | .as _, _, _, _, h | .fnc _ _, _, _, _, h => by simpa only [V.H6] using h
theorem y4.q05 {Γ : G} {hm : Option Key} : ∀ (l : List Sh) (xs : List V) {p : List Nat} {i : Nat} {τ : Ty} {vs : List Value}, y4 Γ hm p i τ xs vs → y4 Γ hm p i τ (V.q05 l xs) vs
 | [], xs, _, _, _, _, h => by simpa only [V.q05] using h
 | s :: l, [], _, _, _, _, h => by simpa only [V.q05] using h
 | s :: l, x :: xs, _, _, _, _, h => by
  simp only [y4, V.q05, V.q7L] at h ⊢
  obtain ⟨⟨o, f, h1, h2, h3, h4⟩, h5⟩ := h
  exact ⟨⟨o, f, h1, h2, h3, q8.H6 s x h4⟩, y4.q05 l xs h5⟩
end
mutual
def V.y25 : Sh → V → List (Nat × Ty)
 | .vec (.l a) eb e, x => (match x with
  | .emp eb' e' => if eb' = eb ∧ e' = e then [(a + T0, e)] else []
  | .nilc => [(a + T0, e)]
  | _ => [])
 | .agg _ l, x => (match x with
  | .agg _ xs => V.y4C l xs
  | _ => [])
 | _, _ => []
def V.y4C : List Sh → List V → List (Nat × Ty)
 | s :: l, x :: xs => V.y25 s x ++ V.y4C l xs
 | _, _ => []
end
def z0R : List (Nat × Ty) → S → S
 | [], s => s
 | (t, e) :: l, s => if (s.obj (.l t)).isNone = true then z0R l (s.put (.l t) (.box (.d (.arr 0 e) (.agg [])))) else z0R l s
def V.q9z (s : Sh) (x : V) : V :=
 match s, x with
 | .vec (.l a) eb e, .nilc => .sr (.l (a + T0)) [] 0 0 none eb e
 | s, x => V.H6 s x
def q9B : List (Nat × Sh) → S → S
 | [], s => s
 | (i, sh) :: l, s => (match V.y25 sh (s.get i) with
  | [] => q9B l s
  | ns => q9B l (z0R ns (s.set (some i) (V.q9z sh (s.get i)))))
def q6l : List (Key × OSh) → S → S
 | [], s => s
 | (k, .box sh) :: l, s => (match s.obj k with
  | some (.box x) => (match V.y25 sh x with
   | [] => q6l l s
   | ns => q6l l (z0R ns (s.put k (.box (V.H6 sh x)))))
  | _ => q6l l s)
 | _ :: l, s => q6l l s
end Go.E
namespace Go.E
open Go
set_option linter.unusedSectionVars false
mutual
def V.q0T (s : S) : V → V
 | .agg τ vs => .agg τ (V.q1u s vs)
 | x => X6 s x
def V.q1u (s : S) : List V → List V
 | [] => []
 | x :: xs => V.q0T s x :: V.q1u s xs
end
mutual
def V.z0g : V → List Nat
 | .agg _ vs => V.z02 vs
 | x => q1l x
def V.z02 : List V → List Nat
 | [] => []
 | x :: xs => V.z0g x ++ V.z02 xs
end
mutual
def V.frz (s : S) : Sh → V → V
 | .d _, x => x.q0T s
 | .agg _ l, x => (match x with
  | .agg τ xs => .agg τ (V.q2h s l xs)
  | x => x)
 | _, x => x
def V.q2h (s : S) : List Sh → List V → List V
 | sh :: l, x :: xs => V.frz s sh x :: V.q2h s l xs
 | _, xs => xs
end
mutual
def V.q7y : Sh → V → List Nat
 | .d _, x => x.z0g
 | .agg _ l, x => (match x with
  | .agg _ xs => V.z6w l xs
  | _ => [])
 | _, _ => []
def V.z6w : List Sh → List V → List Nat
 | sh :: l, x :: xs => V.q7y sh x ++ V.z6w l xs
 | _, _ => []
end
theorem q8.z2X {Γ Γ' : G} (p : o9 Γ Γ') {q : List Nat} {x : V} {vs : List Value} (h : q8 Γ none q x vs) : q8 Γ' none q x vs := q8.j6 p (hm := none) trivial x h
theorem z7N (s : S) (x : V) : (X6 s x).ty = x.ty ∧ (X6 s x).plain = x.plain := by
 unfold X6
 split
 ·split
  ·split
   ·split
    ·split
     ·exact ⟨rfl, rfl⟩
     ·exact ⟨rfl, rfl⟩
    ·exact ⟨rfl, rfl⟩
   ·exact ⟨rfl, rfl⟩
  ·exact ⟨rfl, rfl⟩
 ·exact ⟨rfl, rfl⟩
theorem V.z7P (s : S) (x : V) : (x.q0T s).ty = x.ty ∧ (x.q0T s).plain = x.plain := by
 cases x <;> simp only [V.q0T] <;> first | exact z7N s _ | exact ⟨rfl, rfl⟩
theorem V.q9c (s : S) : ∀ xs : List V, (V.q1u s xs).length = xs.length
 | [] => rfl
 | x :: xs => by simp [V.q1u, V.q9c s xs]
theorem V.z7W (s : S) (sh : Sh) (x : V) : (V.frz s sh x).ty = x.ty ∧ (V.frz s sh x).plain = x.plain := by
 unfold V.frz
 split
 ·exact V.z7P s x
 ·split <;> exact ⟨rfl, rfl⟩
 ·exact ⟨rfl, rfl⟩
theorem V.z1S (s : S) : ∀ (l : List Sh) (xs : List V), (V.q2h s l xs).length = xs.length
 | [], xs => by simp [V.q2h]
 | _ :: _, [] => by simp [V.q2h]
 | sh :: l, x :: xs => by simp [V.q2h, V.z1S s l xs]
section
variable {Γ Γ' : G} {s : S} {js : List Nat} (p : o9 Γ Γ') (hc : ∀ (x : V) (v : Value), q9 Γ x v → (∀ j ∈ q1l x, j ∈ js) → q9 Γ' (X6 s x) v)
include p hc
theorem q8.X6 {x : V} {q : List Nat} {vs : List Value} (hx : x.plain = true) (ha : x.ty.isAgg = false) (h : q8 Γ none q x vs) (hk : ∀ j ∈ q1l x, j ∈ js) : q8 Γ' none q (X6 s x) vs := by
 by_cases hn : q1l x = []
 ·rw [z3l (fun j hj => by rw [hn] at hj; cases hj)]
  exact h.z2X p
 ·cases x <;> (try (exact absurd rfl hn))
  rename_i k q0 lo n cp eb e
  cases k with
  | g k => exact absurd rfl hn
  | l j =>
   have hv : ∃ v, vs = [v] ∧ q9 Γ (.sr (.l j) q0 lo n cp eb e) v := by
    have h' := h
    simp only [q8] at h
    rcases h with ⟨_, _, a, rfl⟩ | ⟨b, τ0, o, m, cap, _, _, _, ⟨a, rfl, _⟩, _⟩
    ·exact ⟨_, rfl, (w9 rfl rfl).2 ⟨by simpa only [q8] using h', rfl⟩⟩
    ·exact ⟨_, rfl, (w9 rfl rfl).2 ⟨by simpa only [q8] using h', rfl⟩⟩
   obtain ⟨v, rfl, hv⟩ := hv
   have h2 := hc _ _ hv hk
   have h3 := z7N s (.sr (.l j) q0 lo n cp eb e)
   have hvc : v.cells.toList = [v] := by
    rcases q0f hv with ⟨_, _, a, rfl⟩ | ⟨b, τ0, o, m, cap, a, _, _, _, rfl, _⟩ <;> rfl
   obtain ⟨h4, _⟩ := (y7 (by rw [h3.2]; rfl)).1 h2
   rw [hvc] at h4
   exact q8.Q8 _ h4
mutual
theorem q8.q0T : ∀ (x : V) {q : List Nat} {vs : List Value}, q8 Γ none q x vs → (∀ j ∈ x.z0g, j ∈ js) → q8 Γ' none q (x.q0T s) vs
 | .agg τ xs, q, vs, h, hk => by
  simp only [V.q0T, V.z0g] at hk ⊢
  simp only [q8] at h ⊢
  exact ⟨h.1, h.2.1, by rw [V.q9c]; exact h.2.2.1, h.2.2.2.1, y4.q1u xs h.2.2.2.2 hk⟩
 | .any, q, vs, _, _ => by simp only [V.q0T, Go.E.X6, q8]
 | .tup _, q, vs, h, _ => by simp only [q8] at h
 | .d τ c, q, vs, h, _ => by simp only [V.q0T, Go.E.X6]; exact h.z2X p
 | .sl _ _ _ _, q, vs, h, hk | .ts _ _ _, q, vs, h, hk | .emp _ _, q, vs, h, hk | .nilc, q, vs, h, hk | .ptr _ _ _, q, vs, h, hk | .cptr _ _, q, vs, h, hk | .mp _, q, vs, h, hk | .fn _ _, q, vs, h, hk | .top _, q, vs, h, hk => by
  simp only [V.q0T, Go.E.X6]; exact h.z2X p
 | .sr k q0 lo n cp eb e, q, vs, h, hk => by
  simp only [V.q0T]
  exact q8.X6 p hc rfl rfl h (by simpa only [V.z0g] using hk)
theorem y4.q1u : ∀ (xs : List V) {q : List Nat} {i : Nat} {τ : Ty} {vs : List Value}, y4 Γ none q i τ xs vs → (∀ j ∈ V.z02 xs, j ∈ js) → y4 Γ' none q i τ (V.q1u s xs) vs
 | [], _, _, _, _, _, _ => by simp only [V.q1u, y4]
 | x :: xs, _, _, _, _, h, hk => by
  simp only [y4, V.q1u, (V.z7P s x).1] at h ⊢
  simp only [V.z02, List.mem_append] at hk
  obtain ⟨⟨o, f, h1, h2, h3, h4⟩, h5⟩ := h
  exact ⟨⟨o, f, h1, h2, h3, q8.q0T x h4 fun j hj => hk j (.inl hj)⟩, y4.q1u xs h5 fun j hj => hk j (.inr hj)⟩
end
mutual
theorem q8.frz : ∀ (sh : Sh) (x : V) {q : List Nat} {vs : List Value}, q8 Γ none q x vs → (∀ j ∈ V.q7y sh x, j ∈ js) → q8 Γ' none q (V.frz s sh x) vs
 | .d _, x, q, vs, h, hk => by simp only [V.frz, V.q7y] at hk ⊢; exact q8.q0T p hc x h hk
 | .agg _ l, x, q, vs, h, hk => by
  simp only [V.frz, V.q7y] at hk ⊢
  split
  ·simp only [q8] at h ⊢
   exact ⟨h.1, h.2.1, by rw [V.z1S]; exact h.2.2.1, h.2.2.2.1, y4.q2h l _ h.2.2.2.2 hk⟩
  ·exact h.z2X p
 | .sl _ _ _, x, q, vs, h, _ | .ts _ _, x, q, vs, h, _ | .sr _ _ _ _ _, x, q, vs, h, _ | .cptr _, x, q, vs, h, _ | .arr _, x, q, vs, h, _ | .as _, x, q, vs, h, _ | .vec _ _ _, x, q, vs, h, _ | .fnc _ _, x, q, vs, h, _ => by
  simp only [V.frz]; exact h.z2X p
theorem y4.q2h : ∀ (l : List Sh) (xs : List V) {q : List Nat} {i : Nat} {τ : Ty} {vs : List Value}, y4 Γ none q i τ xs vs → (∀ j ∈ V.z6w l xs, j ∈ js) → y4 Γ' none q i τ (V.q2h s l xs) vs
 | [], xs, _, _, _, _, h, _ => by simp only [V.q2h]; exact y4.j6 p (hm := none) trivial xs h
 | _ :: _, [], _, _, _, _, _, _ => by simp only [V.q2h, y4]
 | sh :: l, x :: xs, _, _, _, _, h, hk => by
  simp only [y4, V.q2h, (V.z7W s sh x).1] at h ⊢
  simp only [V.z6w, List.mem_append] at hk
  obtain ⟨⟨o, f, h1, h2, h3, h4⟩, h5⟩ := h
  exact ⟨⟨o, f, h1, h2, h3, q8.frz sh x h4 fun j hj => hk j (.inl hj)⟩, y4.q2h l xs h5 fun j hj => hk j (.inr hj)⟩
end
theorem q9.frz {sh : Sh} {x : V} {v : Value} (h : q9 Γ x v) (hk : ∀ j ∈ V.q7y sh x, j ∈ js) : q9 Γ' (V.frz s sh x) v := by
 by_cases hp : x.plain = true
 ·obtain ⟨h1, h2⟩ := (y7 hp).1 h
  exact (y7 (by rw [(V.z7W s sh x).2]; exact hp)).2 ⟨q8.frz p hc sh x h1 hk, by rw [(V.z7W s sh x).1]; exact h2⟩
 ·have : V.frz s sh x = x := by
   cases x <;> simp [V.plain] at hp <;> (unfold V.frz; split <;> rfl)
  rw [this]; exact h.j6 p
end
def q1v (s : S) : List (Nat × Sh) → List Nat
 | [] => []
 | (i, sh) :: l => V.q7y sh (s.get i) ++ q1v s l
def q2F (s0 : S) : List (Nat × Sh) → S → S
 | [], s => s
 | (i, sh) :: l, s => q2F s0 l (match V.q7y sh (s0.get i) with
  | [] => s
  | _ => s.set (some i) (V.frz s0 sh (s0.get i)))
def q8O (sh : SSh) (s : S) : S :=
 match q1v s sh.env with
 | [] => s
 | js => q2F s sh.env (J5 js s)
theorem q8P (s0 : S) : ∀ (l : List (Nat × Sh)) (s : S), (q2F s0 l s).loc = s.loc ∧ (q2F s0 l s).tk = s.tk ∧ (q2F s0 l s).A = s.A
 | [], s => ⟨rfl, rfl, rfl⟩
 | (i, sh) :: l, s => by
  simp only [q2F]
  have := q8P s0 l (match V.q7y sh (s0.get i) with
   | [] => s
   | _ => s.set (some i) (V.frz s0 sh (s0.get i)))
  refine ⟨this.1.trans ?_, this.2.1.trans ?_, this.2.2.trans ?_⟩ <;> (split <;> rfl)
theorem z3v {Γ' : G} {tmps : Array Value} {s0 : S} {js : List Nat} (h0 : ∀ i sh, (∀ j ∈ V.q7y sh (s0.get i), j ∈ js) → q9 Γ' (V.frz s0 sh (s0.get i)) (tmps.getD i undef)) : ∀ (l : List (Nat × Sh)) (s : S), (∀ j ∈ q1v s0 l, j ∈ js) → (∀ i, q9 Γ' (s.get i) (tmps.getD i undef)) → ∀ i, q9 Γ' ((q2F s0 l s).get i) (tmps.getD i undef)
 | [], s, _, h => h
 | (i, sh) :: l, s, hk, h => by
  simp only [q2F]
  simp only [q1v, List.mem_append] at hk
  refine z3v h0 l _ (fun j hj => hk j (.inr hj)) fun m => ?_
  split
  ·exact h m
  ·rw [q2Z]
   split
   ·rename_i e
    cases e
    exact h0 i sh fun j hj => hk j (.inl hj)
   ·exact h m
theorem y6J {X : Cx} {n : Nat} {Γ0 : G} {a : Act} {w : World} {sh : SSh} {s : S} (h : At X n Γ0 s a w) : At X n Γ0 (q8O sh s) a w := by
 unfold q8O
 split
 ·exact h
 ·obtain ⟨Γ, g1, g3, c, hs, hn, hf, hA⟩ := h
  obtain ⟨Γ', g, p, c', hcv⟩ := q8H (q1v s sh.env) s c
  have hl := q8P s sh.env (J5 (q1v s sh.env) s)
  have hE := q5h (q1v s sh.env) s
  refine ⟨Γ', g1.trans g, g.gl.trans g3, c'.congr (fun k => ?_) (fun t => ?_) (fun t ht => ?_), ?_, hn, hf, by rw [hl.2.2, hE.2]; exact hA⟩
  ·unfold S.obj; rw [hl.1, hl.2.2]
  ·unfold S.live; rw [hl.2.1]
  ·unfold S.known at ht ⊢; rw [hl.2.1]; exact ht
  ·refine z3v (js := q1v s sh.env) (fun i sh' hk => q9.frz p hcv (hs i) hk) sh.env _ (fun j hj => hj) fun i => ?_
   exact q1z hE.1 (hs.j6 p) i
mutual
theorem V.z7O (s : S) (A' : Key → Option O) : ∀ x : V, x.q0T (s.wA A') = x.q0T s
 | .agg τ vs => by simp only [V.q0T]; rw [V.z5v s A' vs]
 | .d _ _ | .sl _ _ _ _ | .ts _ _ _ | .emp _ _ | .nilc | .ptr _ _ _ | .cptr _ _ | .mp _ | .fn _ _ | .top _ | .any | .tup _ | .sr _ _ _ _ _ _ _ => by simp only [V.q0T]; exact z7M s A' _
theorem V.z5v (s : S) (A' : Key → Option O) : ∀ xs : List V, V.q1u (s.wA A') xs = V.q1u s xs
 | [] => rfl
 | x :: xs => by simp only [V.q1u]; rw [V.z7O s A' x, V.z5v s A' xs]
end
mutual
theorem V.y2r (s : S) (A' : Key → Option O) : ∀ (sh : Sh) (x : V), V.frz (s.wA A') sh x = V.frz s sh x
 | .d _, x => by simp only [V.frz]; exact V.z7O s A' x
 | .agg _ l, x => by simp only [V.frz]; split <;> (try rfl); rw [V.z9N s A' l]
 | .sl _ _ _, x | .ts _ _, x | .sr _ _ _ _ _, x | .cptr _, x | .arr _, x | .as _, x | .vec _ _ _, x | .fnc _ _, x => by simp only [V.frz]
theorem V.z9N (s : S) (A' : Key → Option O) : ∀ (l : List Sh) (xs : List V), V.q2h (s.wA A') l xs = V.q2h s l xs
 | [], xs => by simp only [V.q2h]
 | _ :: _, [] => by simp only [V.q2h]
 | sh :: l, x :: xs => by simp only [V.q2h]; rw [V.y2r s A' sh x, V.z9N s A' l xs]
end
theorem z3G (s : S) (A' : Key → Option O) : ∀ l : List (Nat × Sh), q1v (s.wA A') l = q1v s l
 | [] => rfl
 | (i, sh) :: l => by simp only [q1v]; rw [z3G s A' l]; rfl
theorem z5B (s0 : S) (A' : Key → Option O) : ∀ (l : List (Nat × Sh)) (s : S), q2F (s0.wA A') l (s.wA A') = (q2F s0 l s).wA A'
 | [], _ => rfl
 | (i, sh) :: l, s => by
  simp only [q2F]
  rw [← z5B s0 A' l]
  congr 1
  show (match V.q7y sh (s0.get i) with
   | [] => s.wA A'
   | _ => (s.wA A').set (some i) (V.frz (s0.wA A') sh (s0.get i))) = _
  rw [V.y2r]
  split <;> rfl
theorem y5A (sh : SSh) (s : S) (A' : Key → Option O) : q8O sh (s.wA A') = (q8O sh s).wA A' := by
 unfold q8O
 rw [z3G]
 split
 ·rfl
 ·rw [z2h]; exact z5B s A' sh.env _
end Go.E
namespace Go.E
open Go
def q5M {R : Type} : Key → (Key → Option R) → Option R
 | .l 0, K => K (.l 0)
 | .l (n + 1), K => K (.l (n + 1))
 | .g k, K => q5M k fun k => K (.g k)
theorem q3y {R : Type} : ∀ (k : Key) (K : Key → Option R), q5M k K = K k
 | .l 0, K => rfl
 | .l (n + 1), K => rfl
 | .g k, K => by simp only [q5M, q3y k]
mutual
def q5L {R : Type} : V → (V → Option R) → Option R
 | .d τ c, K => K (.d τ c)
 | .sl eb e cs t, K => K (.sl eb e cs t)
 | .ts eb e cs, K => K (.ts eb e cs)
 | .emp eb e, K => K (.emp eb e)
 | .nilc, K => K .nilc
 | .ptr k q τ, K => q5M k fun k => K (.ptr k q τ)
 | .cptr τ c, K => K (.cptr τ c)
 | .sr k q lo n cp eb e, K => q5M k fun k => K (.sr k q lo n cp eb e)
 | .mp k, K => q5M k fun k => K (.mp k)
 | .agg τ l, K => z1a l fun l => K (.agg τ l)
 | .fn f l, K => K (.fn f l)
 | .tup l, K => z1a l fun l => K (.tup l)
 | .top τ, K => K (.top τ)
 | .any, K => K .any
def z1a {R : Type} : List V → (List V → Option R) → Option R
 | [], K => K []
 | x :: l, K => q5L x fun x => z1a l fun l => K (x :: l)
end
mutual
theorem q76 {R : Type} : ∀ (x : V) (K : V → Option R), q5L x K = K x
 | .d _ _, _ | .sl _ _ _ _, _ | .ts _ _ _, _ | .emp _ _, _ | .nilc, _ | .cptr _ _, _ | .fn _ _, _ | .top _, _ | .any, _ => by simp only [q5L]
 | .ptr k q τ, K => by simp only [q5L, q3y]
 | .sr k q lo n cp eb e, K => by simp only [q5L, q3y]
 | .mp k, K => by simp only [q5L, q3y]
 | .agg τ l, K => by simp only [q5L, z2o l]
 | .tup l, K => by simp only [q5L, z2o l]
theorem z2o {R : Type} : ∀ (l : List V) (K : List V → Option R), z1a l K = K l
 | [], K => by simp only [z1a]
 | x :: l, K => by simp only [z1a, q76 x, z2o l]
end
def y03 {R : Type} : List (Nat × V) → (List (Nat × V) → Option R) → Option R
 | [], K => K []
 | (i, x) :: l, K => q5L x fun x => y03 l fun l => K ((i, x) :: l)
theorem z9Q {R : Type} : ∀ (l : List (Nat × V)) (K : List (Nat × V) → Option R), y03 l K = K l
 | [], K => rfl
 | (i, x) :: l, K => by simp only [y03, q76, z9Q l]
def z73 {R : Type} : List (Key × O) → (List (Key × O) → Option R) → Option R
 | [], K => K []
 | (k, .box x) :: l, K => q5M k fun k => q5L x fun x => z73 l fun l => K ((k, .box x) :: l)
 | (k, o) :: l, K => q5M k fun k => z73 l fun l => K ((k, o) :: l)
theorem z9P {R : Type} : ∀ (l : List (Key × O)) (K : List (Key × O) → Option R), z73 l K = K l
 | [], K => rfl
 | (k, o) :: l, K => by
  cases o <;> simp only [z73, q3y, q76, z9P l]
def z7Y {R : Type} : List (Nat × Option Nat) → (List (Nat × Option Nat) → Option R) → Option R
 | [], K => K []
 | (i, none) :: l, K => z7Y l fun l => K ((i, none) :: l)
 | (i, some n) :: l, K => z7Y l fun l => K ((i, some n) :: l)
theorem z9O {R : Type} : ∀ (l : List (Nat × Option Nat)) (K : List (Nat × Option Nat) → Option R), z7Y l K = K l
 | [], K => rfl
 | (i, o) :: l, K => by cases o <;> simp only [z7Y, z9O l]
def frc {R : Type} (s : S) (K : S → Option R) : Option R :=
 match s with
 | ⟨env, loc, A, tk⟩ => y03 env fun env => z73 loc fun loc => z7Y tk fun tk => K ⟨env, loc, A, tk⟩
theorem z7X {R : Type} (s : S) (K : S → Option R) : frc s K = K s := by
 unfold frc
 simp only [z9Q, z9P, z9O]
def z4z {R : Type} : List Cap → (List Cap → Option R) → Option R
 | [], K => K []
 | .c τ :: l, K => z4z l fun l => K (.c τ :: l)
 | .v x :: l, K => q5L x fun x => z4z l fun l => K (.v x :: l)
theorem z4y {R : Type} : ∀ (l : List Cap) (K : List Cap → Option R), z4z l K = K l
 | [], K => rfl
 | .c τ :: l, K => by simp only [z4z, z4y l]
 | .v x :: l, K => by simp only [z4z, q76, z4y l]
mutual
def q4T {R : Type} : Sh → (Sh → Option R) → Option R
 | .sr k q cp eb e, K => q5M k fun k => K (.sr k q cp eb e)
 | .vec k eb e, K => q5M k fun k => K (.vec k eb e)
 | .agg τ l, K => z0p l fun l => K (.agg τ l)
 | .as v, K => q5L v fun v => K (.as v)
 | .d τ, K => K (.d τ)
 | .sl eb e t, K => K (.sl eb e t)
 | .ts eb e, K => K (.ts eb e)
 | .cptr τ, K => K (.cptr τ)
 | .arr e, K => K (.arr e)
 | .fnc f l, K => z4z l fun l => K (.fnc f l)
def z0p {R : Type} : List Sh → (List Sh → Option R) → Option R
 | [], K => K []
 | x :: l, K => q4T x fun x => z0p l fun l => K (x :: l)
end
mutual
theorem z2p {R : Type} : ∀ (x : Sh) (K : Sh → Option R), q4T x K = K x
 | .d _, _ | .sl _ _ _, _ | .ts _ _, _ | .cptr _, _ | .arr _, _ => by simp only [q4T]
 | .sr _ _ _ _ _, K => by simp only [q4T, q3y]
 | .vec _ _ _, K => by simp only [q4T, q3y]
 | .as v, K => by simp only [q4T, q76]
 | .fnc f l, K => by simp only [q4T, z4y]
 | .agg τ l, K => by simp only [q4T, z5C l]
theorem z5C {R : Type} : ∀ (l : List Sh) (K : List Sh → Option R), z0p l K = K l
 | [], K => by simp only [z0p]
 | x :: l, K => by simp only [z0p, z2p x, z5C l]
end
def z6x {R : Type} : List (Nat × Sh) → (List (Nat × Sh) → Option R) → Option R
 | [], K => K []
 | (i, x) :: l, K => q4T x fun x => z6x l fun l => K ((i, x) :: l)
theorem z71 {R : Type} : ∀ (l : List (Nat × Sh)) (K : List (Nat × Sh) → Option R), z6x l K = K l
 | [], K => rfl
 | (i, x) :: l, K => by simp only [z6x, z2p, z71 l]
def z3x {R : Type} : List (Key × OSh) → (List (Key × OSh) → Option R) → Option R
 | [], K => K []
 | (k, .box x) :: l, K => q5M k fun k => q4T x fun x => z3x l fun l => K ((k, .box x) :: l)
 | (k, o) :: l, K => q5M k fun k => z3x l fun l => K ((k, o) :: l)
theorem z7Z {R : Type} : ∀ (l : List (Key × OSh)) (K : List (Key × OSh) → Option R), z3x l K = K l
 | [], K => rfl
 | (k, o) :: l, K => by cases o <;> simp only [z3x, q3y, z2p, z7Z l]
def z3w {R : Type} (s : SSh) (K : SSh → Option R) : Option R :=
 match s with
 | ⟨env, loc⟩ => z6x env fun env => z3x loc fun loc => K ⟨env, loc⟩
theorem z2q {R : Type} (s : SSh) (K : SSh → Option R) : z3w s K = K s := by
 unfold z3w
 simp only [z71, z7Z]
def y2Q : List V → Bool
 | [] => false
 | .cptr _ _ :: _ => true
 | _ :: l => y2Q l
def z8F : List V → List Cap
 | [] => []
 | .cptr τ _ :: l => .c τ :: z8F l
 | x :: l => .v x :: z8F l
mutual
def V.y1t : V → Sh
 | .d τ _ => (match τ with
  | .ptr => .as (.d .ptr .nil)
  | .map => .as (.d .map .nil)
  | .func => .as (.d .func .nil)
  | τ => .d τ)
 | .sl eb e _ _ => .d (.slice eb e)
 | .ts eb e _ => .ts eb e
 | .sr k q _ _ cp eb e => (match q, cp with
  | [], none => .vec k eb e
  | q, cp => .sr k q cp.isSome eb e)
 | .cptr τ _ => .cptr τ
 | .agg τ vs => .agg τ (V.y4W vs)
 | .tup _ => .as .any
 | .fn f vs => bif y2Q vs then .fnc f (z8F vs) else .as (.fn f vs)
 | x => .as x
def V.y4W : List V → List Sh
 | [] => []
 | x :: xs => x.y1t :: V.y4W xs
end
mutual
def V.z3p : V → List Key
 | .ptr k _ _ | .mp k | .sr k _ _ _ _ _ _ => [k]
 | .agg _ vs | .fn _ vs | .tup vs => V.y2f vs
 | _ => []
def V.y2f : List V → List Key
 | [] => []
 | x :: xs => x.z3p ++ V.y2f xs
end
def O.z3p : O → List Key
 | .box x => x.z3p
 | .map _ _ _ => []
 | .it _ _ | .dead _ => []
def y0K : Key → List Key → Bool
 | _, [] => false
 | k, j :: l => if j = k then true else y0K k l
def z2V (s : S) : Nat → List Key → List Key → List Key
 | 0, _, acc => acc
 | _, [], acc => acc
 | f + 1, k :: ks, acc => if y0K k acc = true then z2V s f ks acc else (match s.obj k with
  | some o => z2V s f (o.z3p ++ ks) (acc ++ [k])
  | none => z2V s f ks acc)
structure Hint where
 live : List Nat
 new : List (Nat × Sh)
 roots : List Key
 obs : List (Key × OSh)
 drop : List Key
 vecs : List Ty := []
def y4S (s : S) : List Nat → List Key
 | [] => []
 | i :: l => (s.get i).z3p ++ y4S s l
def z8P (s : S) : List Nat → List (Nat × Sh)
 | [] => []
 | i :: l => (match s.get i with
  | .any => z8P s l
  | x => (i, x.y1t) :: z8P s l)
def z06 (e : Ty) : List Ty → Bool
 | [] => false
 | t :: l => if Ty.beq t e = true then true else z06 e l
def z6C : Key → Nat
 | .l n => 2 * n
 | .g k => 2 * z6C k + 1
def V1 : Nat := 1000000000000
mutual
def Sh.y24 (ts : List Ty) : Nat → Sh → V → Sh
 | b, .vec (.g k) eb e, _ => if z06 e ts = true then .vec (.l (V1 + 8 * z6C (.g k) + 2)) eb e else .vec (.g k) eb e
 | b, .as v, _ => (match v with
  | .emp eb e => if z06 e ts = true then .vec (.l b) eb e else .as v
  | v => .as v)
 | b, .ts eb e, x => (match x with
  | .emp _ _ => if z06 e ts = true then .vec (.l b) eb e else .ts eb e
  | _ => .ts eb e)
 | b, .agg τ l, x => (match x with
  | .agg _ xs => .agg τ (Sh.y4B ts (64 * b) l xs)
  | _ => .agg τ l)
 | _, s, _ => s
def Sh.y4B (ts : List Ty) : Nat → List Sh → List V → List Sh
 | b, s :: l, x :: xs => Sh.y24 ts b s x :: Sh.y4B ts (b + 1) l xs
 | _, _, _ => []
end
mutual
def Sh.y22 : Sh → List (Key × OSh)
 | .vec (.l a) _ e => if V1 ≤ a then [(.l a, .box (.arr e))] else []
 | .agg _ l => Sh.y4A l
 | _ => []
def Sh.y4A : List Sh → List (Key × OSh)
 | [] => []
 | s :: l => s.y22 ++ Sh.y4A l
end
def z9V (s : S) (ts : List Ty) : List (Nat × Sh) → List (Nat × Sh)
 | [] => []
 | (i, sh) :: l => (i, sh.y24 ts (V1 + 8 * i + 3) (s.get i)) :: z9V s ts l
def q6f (s : S) (ts : List Ty) : List (Key × OSh) → List (Key × OSh)
 | [] => []
 | (k, .box sh) :: l => (match k, sh with
  | .g k, .arr e => if z06 e ts = true then (.g k, .dead e) :: (.l (V1 + 8 * z6C (.g k) + 2), .box (.arr e)) :: q6f s ts l else (.g k, .box sh) :: q6f s ts l
  | k, sh => (match s.obj k with
   | some (.box x) => (k, .box (sh.y24 ts (V1 + 8 * z6C k + 1) x)) :: q6f s ts l
   | _ => (k, .box sh) :: q6f s ts l))
 | p :: l => p :: q6f s ts l
def z9U : List (Nat × Sh) → List (Key × OSh)
 | [] => []
 | (_, sh) :: l => sh.y22 ++ z9U l
def z4t : List (Key × OSh) → List (Key × OSh)
 | [] => []
 | (_, .box sh) :: l => sh.y22 ++ z4t l
 | _ :: l => z4t l
def z8N : List (Key × OSh) → List (Key × OSh) → List (Key × OSh)
 | [], acc => acc
 | (k, o) :: l, acc => if q7d acc k = true then z8N l acc else z8N l (acc ++ [(k, o)])
def y58 (s : S) (ts : List Ty) (sh : SSh) : SSh :=
 match ts with
 | [] => sh
 | ts => (match z9V s ts sh.env, q6f s ts sh.loc with
  | env, loc => ⟨env, z8N (z9U env ++ z4t loc) loc⟩)
def q5z (s : S) (h : Hint) : List Key → List (Key × OSh)
 | [] => []
 | k :: l => if y0K k h.drop = true then q5z s h l else if q7d h.obs k = true then q5z s h l else (match s.obj k with
  | some (.box x) => (k, .box (match x with
    | .d (.arr M e) _ => (match k, M with
     | _, _ => if z06 e h.vecs = true then .arr e else .d (.arr M e))
    | .d τ _ => .d τ
    | x => (match h.vecs with
     | [] => bif (c5 x).isSome then .d x.ty else x.q0Y.y1t
     | _ => x.y1t))) :: q5z s h l
  | some (.map kτ vτ _) => (k, .map kτ vτ) :: q5z s h l
  | some (.it _ _) => (k, .it) :: q5z s h l
  | some (.dead (.arr _ e)) => (k, .dead e) :: q5z s h l
  | _ => q5z s h l)
def z8q : List (Key × O) → List Key
 | [] => []
 | (.g k, .dead _) :: l => .g k :: z8q l
 | _ :: l => z8q l
def y3H (h : Hint) (s : S) : SSh :=
 y58 s h.vecs ⟨z8P s h.live ++ h.new, h.obs ++ q5z s h (z2V s 1000 (y4S s h.live ++ h.roots) [] ++ z8q s.loc)⟩
def q8R : List (Key × OSh) → S → S
 | [], s => s
 | (k, .box _) :: l, s => (match s.obj k with
  | some (.box x) => q8R l (s.put k (.box x.q0Y))
  | _ => q8R l s)
 | _ :: l, s => q8R l s
def q4J : List (Nat × Sh) → S → S
 | [], s => s
 | (i, sh) :: l, s => (match sh with
  | .sl eb e t => (match s.get i with
   | .nilc => if s.known t = false then q4J l (S.set { s with tk := (t, some 0) :: s.tk } (some i) (.sl eb e [] t)) else q4J l s
   | .emp eb' e' => if eb' = eb ∧ e' = e ∧ s.known t = false then q4J l (S.set { s with tk := (t, some 0) :: s.tk } (some i) (.sl eb e [] t)) else q4J l s
   | _ => q4J l s)
  | _ => q4J l s)
mutual
def V.un : V → V → List (Nat × Nat)
 | .ptr (.l a) _ _, .ptr (.l b) _ _ => [(b, a)]
 | .mp (.l a), .mp (.l b) => [(b, a)]
 | .fn _ l, .fn _ l' => V.uns l l'
 | .tup l, .tup l' => V.uns l l'
 | _, _ => []
def V.uns : List V → List V → List (Nat × Nat)
 | x :: xs, y :: ys => V.un x y ++ V.uns xs ys
 | _, _ => []
end
def y1p : List Cap → List V → List (Nat × Nat)
 | .v y :: l, x :: xs => V.un y x ++ y1p l xs
 | .c _ :: l, _ :: xs => y1p l xs
 | _, _ => []
mutual
def Sh.un : Sh → V → List (Nat × Nat)
 | .sr (.l a) _ _ _ _, .sr (.l b) _ _ _ _ _ _ => [(b, a)]
 | .vec (.l a) _ _, .sr (.l b) _ _ _ _ _ _ => [(b, a)]
 | .as v, x => V.un v x
 | .fnc _ l, .fn _ xs => y1p l xs
 | .agg _ l, .agg _ xs => Sh.uns l xs
 | _, _ => []
def Sh.uns : List Sh → List V → List (Nat × Nat)
 | s :: l, x :: xs => s.un x ++ Sh.uns l xs
 | _, _ => []
end
def y0e (s : S) : List (Nat × Sh) → List (Nat × Nat)
 | [] => []
 | (i, sh) :: l => sh.un (s.get i) ++ y0e s l
def z6r (s : S) : List (Nat × Sh) → List (Nat × Nat)
 | [] => []
 | (i, sh) :: l => (match sh, s.get i with
  | .sl _ _ t, .sl _ _ _ t' => (t', t) :: z6r s l
  | _, _ => z6r s l)
def y0L : List (Key × OSh) → Key → Option OSh
 | [], _ => none
 | (j, x) :: l, k => if j = k then some x else y0L l k
def y4D (s : S) (l : List (Key × OSh)) (b a : Key) : List (Nat × Nat) :=
 match y0L l a, s.obj b with
 | some (.box sh), some (.box x) => sh.un x
 | _, _ => []
def unG (s : S) (l0 : List (Key × OSh)) : List (Key × OSh) → List (Nat × Nat)
 | [] => []
 | (.g k, _) :: l => y4D s l0 (.g k) (.g k) ++ unG s l0 l
 | (.l _, _) :: l => unG s l0 l
def z6s (s : S) (l : List (Key × OSh)) : Nat → List (Nat × Nat) → List (Nat × Nat) → List (Nat × Nat)
 | 0, _, acc => acc
 | _, [], acc => acc
 | f + 1, (b, a) :: todo, acc => (match look acc b with
  | some _ => z6s s l f todo acc
  | none => z6s s l f (y4D s l (.l b) (.l a) ++ todo) ((b, a) :: acc))
def z4a : List (Nat × Nat) → Bool
 | [] => true
 | (a, b) :: l => Nat.beq a b && z4a l
def z4Q (l : List (Nat × Nat)) (n : Nat) : Nat := (look l n).getD (n + 1000000000)
def q9F (s : S) : List (Nat × Sh) → Bool
 | [] => false
 | (i, sh) :: l => (match sh, s.get i with
  | .sl _ _ t, .nilc => s.known t || q9F s l
  | .sl _ _ t, .emp _ _ => s.known t || q9F s l
  | _, _ => q9F s l)
def y0w (sh : SSh) (s : S) : S :=
 match z6s s sh.loc 1000 (y0e s sh.env ++ unG s sh.loc sh.loc) [], z6r s sh.env with
 | ps, ts => bif z4a ps && z4a ts && !q9F s sh.env then s
  else bif q8K (z4Q ps) (q1n s.loc) && q8K (z4Q ts) (q1k s.tk) then s.ren (z4Q ps) (z4Q ts) else s
mutual
def Sh.ad : Sh → V → List (Key × Nat)
 | .vec (.l a) _ _, .sr (.g b) _ _ _ _ _ _ => [(.g b, a + T0)]
 | .agg _ l, .agg _ xs => Sh.ads l xs
 | _, _ => []
def Sh.ads : List Sh → List V → List (Key × Nat)
 | s :: l, x :: xs => s.ad x ++ Sh.ads l xs
 | _, _ => []
end
def y4V (s : S) : List (Nat × Sh) → List (Key × Nat)
 | [] => []
 | (i, sh) :: l => sh.ad (s.get i) ++ y4V s l
def z6E (s : S) : List (Key × OSh) → List (Key × Nat)
 | [] => []
 | (k, .box sh) :: l => (match s.obj k with
  | some (.box x) => sh.ad x ++ z6E s l
  | _ => z6E s l)
 | _ :: l => z6E s l
def y4M {α : Type} : List (Key × α) → List Key
 | [] => []
 | (k, _) :: l => k :: y4M l
def z8M (ks : List Key) : List (Key × Nat) → S → S
 | [], s => s
 | (K, t) :: l, s => z8M ks l (z0N K t ks s)
def y2X : List (Key × OSh) → Bool
 | [] => false
 | (_, .box (.arr _)) :: _ => true
 | _ :: l => y2X l
def z99 (sh : SSh) (s : S) : S :=
 match y2X sh.loc with
 | false => s
 | true => (match z8M (y4M sh.loc) (y4V s sh.env ++ z6E s sh.loc) s with
  | s => q6l sh.loc (q9B sh.env s))
def q7C {R : Type} (sh : SSh) (s : S) (K : List C → List Es → Option R) : Option R :=
 frc (q8O sh s) fun s => frc (z99 sh s) fun s => frc (q4J sh.env (q8R sh.loc (y0w sh s))) fun s => y1l sh s K
theorem y5T {R : Type} (sh : SSh) (s : S) (K : List C → List Es → Option R) : q7C sh s K = y1l sh (q4J sh.env (q8R sh.loc (y0w sh (z99 sh (q8O sh s))))) K := by
 unfold q7C
 simp only [z7X]
def WkA (s s' : S) : Prop := s'.A = s.A ∧ ∀ (X : Cx) (n : Nat) (A' : Key → Option O), leA s.A A' → J1 X n (s.wA A') (s'.wA A')
theorem WkA.refl (s : S) : WkA s s := ⟨rfl, fun _ _ _ _ => J1.refl _⟩
theorem WkA.trans {a b c : S} (h : WkA a b) (h' : WkA b c) : WkA a c :=
 ⟨h'.1.trans h.1, fun X n A' hA => (h.2 X n A' hA).trans (h'.2 X n A' (by rw [h.1]; exact hA))⟩
theorem z1f : ∀ (l : List (Key × OSh)) (s : S), WkA s (q8R l s)
 | [], s => WkA.refl s
 | (k, .box _) :: l, s => by
  simp only [q8R]
  split
  ·rename_i x hx
   exact WkA.trans (b := s.put k (.box x.q0Y)) ⟨rfl, fun X n A' hA => y1C (W0 hA hx)⟩ (z1f l _)
  ·exact z1f l s
 | (_, .map _ _) :: l, s | (_, .dead _) :: l, s | (_, .it) :: l, s => z1f l s
theorem q4m : ∀ (l : List (Nat × Sh)) (s : S), WkA s (q4J l s)
 | [], s => WkA.refl s
 | (i, sh) :: l, s => by
  simp only [q4J]
  split
  ·rename_i eb e t
   have one : ∀ (hu : s.known t = false) (ht : s.get i = .nilc ∨ s.get i = .emp eb e), WkA s (S.set { s with tk := (t, some 0) :: s.tk } (some i) (.sl eb e [] t)) := fun hu ht =>
    ⟨rfl, fun X n A' hA => z6J (s := s.wA A') hu ht⟩
   split
   ·rename_i hx
    split
    ·rename_i hu
     exact (one hu (.inl hx)).trans (q4m l _)
    ·exact q4m l s
   ·rename_i eb' e' hx
    split
    ·rename_i hu
     obtain ⟨rfl, rfl, hu⟩ := hu
     exact (one hu (.inr hx)).trans (q4m l _)
    ·exact q4m l s
   ·exact q4m l s
  ·exact q4m l s
theorem y5f (sh : SSh) (s : S) : WkA s (y0w sh s) := by
 unfold y0w
 dsimp only
 generalize z6s s sh.loc 1000 (y0e s sh.env ++ unG s sh.loc sh.loc) [] = ps
 generalize z6r s sh.env = ts
 cases z4a ps && z4a ts && !q9F s sh.env
 ·cases hi : q8K (z4Q ps) (q1n s.loc) && q8K (z4Q ts) (q1k s.tk)
  ·exact WkA.refl s
  ·simp only [Bool.and_eq_true] at hi
   exact ⟨rfl, fun X n A' _ => y21 (s := s.wA A') _ _ hi.1 hi.2⟩
 ·exact WkA.refl s
theorem z5W (ks : List Key) : ∀ (l : List (Key × Nat)) (s : S), WkA s (z8M ks l s)
 | [], s => WkA.refl s
 | (K, t) :: l, s => WkA.trans (b := z0N K t ks s) (y2Y K t ks s) (z5W ks l _)
theorem y5W {X : Cx} {n : Nat} {Γ0 : G} {t : Nat} {e : Ty} {a : Act} {w : World} {s : S} (ht : s.obj (.l t) = none) (h : At X n Γ0 s a w) : At X n Γ0 (s.put (.l t) (.box (.d (.arr 0 e) (.agg [])))) a w := by
 obtain ⟨Γ, g1, g3, c, hs, hn, hf, hA⟩ := h
 refine ⟨Γ, g1, g3, ⟨c.hH, c.hZ, c.hκ, fun j o hj => ?_, fun j hj => ?_, c.z0j (fun j hj => ?_), c.tok, c.tdom, c.hgl, c.hoo, c.hσ⟩, hs, hn, hf, hA⟩
 ·rw [Z2] at hj
  split at hj
  ·rename_i e1; subst e1; cases hj
   exact .inl ⟨c.q9w ht, e, rfl⟩
  ·exact c.obj j o hj
 ·rw [Z2]
  split
  ·simp
  ·exact c.dom j hj
 ·unfold S.k9 at hj ⊢
  rw [Z2]
  split
  ·rename_i e1; subst e1; rw [ht] at hj; cases hj
  ·exact hj
theorem q8l : ∀ (l : List (Nat × Ty)) (s : S), WkA s (z0R l s)
 | [], s => WkA.refl s
 | (t, e) :: l, s => by
  simp only [z0R]
  split
  ·rename_i h
   have h' : s.obj (.l t) = none := by simpa using h
   exact WkA.trans (b := s.put (.l t) (.box (.d (.arr 0 e) (.agg [])))) ⟨rfl, fun X n A' hA Γ0 a w hat => y5W (s := s.wA A') (by rw [q2x]; exact h') hat⟩ (q8l l _)
  ·exact q8l l s
theorem q9.H6 {Γ : G} {sh : Sh} {x : V} {v : Value} (h : q9 Γ x v) : q9 Γ (V.H6 sh x) v := by
 by_cases hp : x.plain = true
 ·obtain ⟨h1, h2⟩ := (y7 hp).1 h
  exact (y7 (by rw [V.z2B]; exact hp)).2 ⟨q8.H6 sh x h1, by rw [V.q7L]; exact h2⟩
 ·have : V.H6 sh x = x := by
   cases x <;> simp [V.plain] at hp <;> (unfold V.H6; split <;> rfl)
  rw [this]; exact h
theorem q9.q9z {Γ : G} {sh : Sh} {x : V} {v : Value} (h : q9 Γ x v) : q9 Γ (V.q9z sh x) v := by
 unfold V.q9z
 split
 ·have := Y3 h
  subst this
  exact z1F
 ·exact h.H6
theorem q9A : ∀ (l : List (Nat × Sh)) (s : S), WkA s (q9B l s)
 | [], s => WkA.refl s
 | (i, sh) :: l, s => by
  simp only [q9B]
  split
  ·exact q9A l s
  ·refine WkA.trans (b := s.set (some i) (V.q9z sh (s.get i))) ⟨rfl, fun X n A' hA Γ0 a w hat => ?_⟩ (WkA.trans (q8l _ _) (q9A l _))
   obtain ⟨Γ, g1, g3, c, hs, hn, hf, hA⟩ := hat
   refine ⟨Γ, g1, g3, show z8 Γ w ((s.wA A').set (some i) (V.q9z sh (s.get i))) from q6P c _ _, fun j => ?_, hn, hf, hA⟩
   have hj := hs j
   show q9 Γ (S.get (S.set (s.wA A') (some i) (V.q9z sh (s.get i))) j) _
   rw [q2Z]
   split
   ·rename_i e
    cases e
    exact q9.q9z hj
   ·exact hj
theorem q40 : ∀ (l : List (Key × OSh)) (s : S), WkA s (q6l l s)
 | [], s => WkA.refl s
 | (k, .box sh) :: l, s => by
  simp only [q6l]
  split
  ·rename_i x hx
   split
   ·exact q40 l s
   ·refine WkA.trans (b := s.put k (.box (V.H6 sh x))) ⟨rfl, fun X n A' hA Γ0 a w hat => ?_⟩ (WkA.trans (q8l _ _) (q40 l _))
    obtain ⟨Γ, g1, g3, c, hs, hn, hf, hAok⟩ := hat
    refine ⟨Γ, g1, g3, c.y0o (W0 hA hx) (fun hown => ?_) (fun hv => ?_), hs, hn, hf, hAok⟩
    ·obtain ⟨b, cells, T, h1, h2, h3, h4, h5, h6, h7, h8⟩ := hown
     exact ⟨b, cells, T, by rw [V.q7L]; exact h1, h2, h3, h4, by rw [V.q7L]; exact h5, by rw [V.q7L]; exact q8.H6 sh x h6, by rw [V.z2B]; exact h7, by rw [V.z41]; exact h8⟩
    ·obtain ⟨e, rfl⟩ := hv
     have : V.H6 sh (.d (.arr 0 e) (.agg [])) = .d (.arr 0 e) (.agg []) := by unfold V.H6; split <;> rfl
     rw [this]; exact ⟨e, rfl⟩
  ·exact q40 l s
 | (_, .map _ _) :: l, s | (_, .dead _) :: l, s | (_, .it) :: l, s => q40 l s
theorem y41 (sh : SSh) (s : S) : WkA s (z99 sh s) := by
 unfold z99
 split
 ·exact WkA.refl s
 ·exact ((z5W _ _ s).trans (q9A _ _)).trans (q40 _ _)
theorem y5B (sh : SSh) (s : S) : WkA s (q8O sh s) := by
 refine ⟨?_, fun X n A' hA Γ0 a w hat => ?_⟩
 ·unfold q8O
  split
  ·rfl
  ·rw [(q8P _ _ _).2.2, (q5h _ _).2]
 ·rw [← y5A]
  exact y6J hat
def nbV : V → V
 | .d τ c => (match τ with
  | .bool => .d .bool (.bool c.toBool)
  | τ => .d τ c)
 | x => x
def nbE : List (Nat × V) → List (Nat × V)
 | [] => []
 | (i, x) :: l => (i, nbV x) :: nbE l
def nbS (s : S) : S := { s with env := nbE s.env }
theorem y5k {Γ : G} {x : V} {v : Value} (h : q9 Γ x v) : q9 Γ (nbV x) v := by
 cases x <;> (try exact h)
 rename_i τ c
 cases τ <;> (try exact h)
 obtain ⟨_, e⟩ := Y4 h
 rw [e] at h
 exact h
theorem z7K : ∀ (l : List (Nat × V)) (i : Nat), look (nbE l) i = (look l i).map nbV
 | [], _ => rfl
 | (j, x) :: l, i => by
  simp only [nbE, look]
  by_cases e : j = i
  ·rw [if_pos e, if_pos e]; rfl
  ·rw [if_neg e, if_neg e]; exact z7K l i
theorem y14 (s : S) : WkA s (nbS s) := by
 refine ⟨rfl, fun X n A' _ => ?_⟩
 rintro Γ0 a w ⟨Γ, g1, g3, c, hs, hn, hf, hA⟩
 refine ⟨Γ, g1, g3, c.env _, fun i => ?_, hn, hf, hA⟩
 have := hs i
 have e : ((nbS s).wA A').get i = nbV ((s.wA A').get i) := by
  show (look (nbE s.env) i).getD .any = nbV ((look s.env i).getD .any)
  rw [z7K]
  cases look s.env i <;> rfl
 rw [e]
 exact y5k this
def q2n (sh : SSh) (A : Key → Option O) (ds : List C) (ms : List Es) : S := nbS (q59 sh A ds ms)
theorem q8g {R : Type} {r : R} {sh : SSh} {s : S} {K : List C → List Es → Option R} (h : q7C sh s K = some r) : ∃ ds ms, K ds ms = some r ∧ WkA s (q2n sh s.A ds ms) := by
 have key : ∃ ds ms, K ds ms = some r ∧ WkA s (q59 sh s.A ds ms) := by
  rw [y5T] at h
  obtain ⟨ds, ms, h1, h2⟩ := y5S h
  have h3 := ((((y5B sh s).trans (y41 sh _)).trans (y5f sh _)).trans (z1f sh.loc _)).trans (q4m sh.env _)
  refine ⟨ds, ms, h1, rfl, fun X n A' hA => ?_⟩
  have := (h3.2 X n A' hA).trans (h2 X n A' (by rw [h3.1]; exact hA))
  exact this
 obtain ⟨ds, ms, h1, h2⟩ := key
 exact ⟨ds, ms, h1, h2.trans (y14 _)⟩
def z7w (j : Nat) : List Nat → List Nat
 | [] => []
 | i :: l => if i = j then z7w j l else i :: z7w j l
def fxS (t j : Nat) (s : S) : S := ⟨q0V s (z7w t (slotsOf s.env)), q1G s.loc (z7w j (q1n s.loc)) s.loc, s.A, q0k s (q1k s.tk)⟩
def fxB (t j : Nat) (s : S) : Bool :=
 q3B (fxS t j s).loc && q0R (Q3 (fxS t j s).loc) (U5 (fxS t j s).tk) (fxS t j s).loc && q4d (fxS t j s).loc s.loc && q3g (Q3 (fxS t j s).loc) (U5 (fxS t j s).tk) (fxS t j s).env && !(Q3 (fxS t j s).loc j)
def y30 (t : Nat) (s : S) : S :=
 match s.get t with
 | .ptr (.l j) [] τ => (match s.obj (.l j) with
  | some (.box x) => (match c5 x with
   | some cc => if x.ty = τ ∧ fxB t j s = true then (fxS t j s).set (some t) (.cptr τ cc) else s
   | none => s)
  | _ => s)
 | _ => s
def y1n (t : Nat) (s : S) : S :=
 match s.get t with
 | .ptr k [] _ => (match s.obj k with
  | some (.box x) => (match x with
   | .d _ _ => s
   | x => (match c5 x with
    | some c => s.put k (.box (.d x.ty c))
    | none => s))
  | _ => s)
 | _ => s
theorem y4q (t : Nat) (s : S) : WkA s (y1n t s) := by
 unfold y1n
 split
 ·split
  ·rename_i x hx
   split
   ·exact WkA.refl s
   ·split
    ·rename_i c hc
     refine ⟨rfl, fun X n A' hA Γ0 a w hat => ?_⟩
     obtain ⟨Γ, g1, g3, cc, hs, hn, hf, hAok⟩ := hat
     have hin : V.r7 x (.d x.ty c) := by
      cases x <;> first | exact ⟨hc, rfl⟩ | (simp [c5] at hc)
     refine ⟨Γ, g1, g3, cc.y0o (W0 hA hx) (fun hown => ?_) (fun hv => ?_), hs, hn, hf, hAok⟩
     ·obtain ⟨b, cells, T, h1, h2, h3, h4, h5, h6, h7, h8⟩ := hown
      exact ⟨b, cells, T, h1, h2, h3, h4, h5, by have := (q8.r7 _ _ hin h6).1; simp only [q8] at this ⊢; exact this, rfl, rfl⟩
     ·obtain ⟨e, rfl⟩ := hv
      simp only [c5, Option.some.injEq] at hc
      subst hc
      exact ⟨e, rfl⟩
    ·exact WkA.refl s
  ·exact WkA.refl s
 ·exact WkA.refl s
def y3N (t : Nat) (s : S) : S :=
 match s.get t with
 | .sr (.l j) [] lo n _ eb e => (match s.obj (.l j) with
  | some (.box (.d (.arr M e') cc)) => if e' = e then ({ s with loc := (.l j, .dead (.arr M e)) :: s.loc } : S).set (some t) (.d (.slice eb e) (.slice ((cc.elems.drop lo).take n))) else s
  | _ => s)
 | _ => s
theorem y5p (t : Nat) (s : S) : WkA s (y3N t s) := by
 unfold y3N
 split
 ·rename_i j lo n cp eb e hs
  split
  ·rename_i M e' cc ho
   split
   ·rename_i he
    subst he
    refine ⟨rfl, fun X n' A' hA Γ0 a w hat => ?_⟩
    obtain ⟨Γ, g1, g3, c, hsl, hn, hf, hAok⟩ := hat
    obtain ⟨Γ', gle, p, c', h⟩ := c.y6y (show (s.wA A').obj (.l j) = some (.box (.d (.arr M _) cc)) from ho)
    have hrep := hsl t
    rw [show (s.wA A').get t = _ from hs] at hrep
    have hv := h hrep
    refine ⟨Γ', g1.trans gle, gle.gl.trans g3, q6P (s := (({ s with loc := (.l j, .dead (.arr M _)) :: s.loc } : S).wA A')) c' (some t) _, fun i => ?_, hn, hf, hAok⟩
    rw [show ((({ s with loc := (.l j, .dead (.arr M _)) :: s.loc } : S).set (some t) (.d (.slice eb _) (.slice ((cc.elems.drop lo).take n)))).wA A').get i = (({ s with loc := (.l j, .dead (.arr M _)) :: s.loc } : S).set (some t) (.d (.slice eb _) (.slice ((cc.elems.drop lo).take n)))).get i from rfl, q2Z]
    split
    ·rename_i hi
     cases hi
     exact hv
    ·exact (hsl i).j6 p
   ·exact WkA.refl s
  ·exact WkA.refl s
 ·exact WkA.refl s
def z4B : List (Nat × Nat) → S → S
 | [], s => s
 | (t, m) :: l, s => z4B l (if m = 6 then y30 t s else if m = 16 then y1n t s else if m = 17 then y3N (t - 1000000) s else s)
theorem y5C (t : Nat) (s : S) : WkA s (y30 t s) := by
 unfold y30
 split
 ·rename_i j τ hs
  split
  ·rename_i x hx
   split
   ·rename_i cc hcc
    split
    ·rename_i h
     obtain ⟨hτ, h⟩ := h
     simp only [fxB, Bool.and_eq_true, Bool.not_eq_true'] at h
     obtain ⟨⟨⟨⟨h1, h2⟩, h3⟩, h4⟩, h5⟩ := h
     refine ⟨rfl, fun X n A' hA => ?_⟩
     have henv : ∀ l, q0V (s.wA A') l = q0V s l := by
      intro l
      induction l with
      | nil => rfl
      | cons i l ih => simp only [q0V, ih]; rfl
     have htk : ∀ l, q0k (s.wA A') l = q0k s l := by
      intro l
      induction l with
      | nil => rfl
      | cons i l ih => simp only [q0k, ih]; rfl
     exact z8R (s := s.wA A') (s' := (fxS t j s).wA A') hs (W0 hA hx) hcc hτ h5 rfl (q3w (s := s.wA A') _ h1) h2 (q4G h3)
      (by show tkW (s.wA A') (q0k s (q1k s.tk)); rw [← htk]; exact z2D)
      (by
       have h4' : q3g (Q3 (fxS t j s).loc) (U5 (fxS t j s).tk) (q0V (s.wA A') (z7w t (slotsOf s.env))) = true := by rw [henv]; exact h4
       have := z4E h4'
       rw [henv] at this
       exact this)
    ·exact WkA.refl s
   ·exact WkA.refl s
  ·exact WkA.refl s
 ·exact WkA.refl s
theorem q77 : ∀ (l : List (Nat × Nat)) (s : S), WkA s (z4B l s)
 | [], s => WkA.refl s
 | (t, m) :: l, s => by
  simp only [z4B]
  split
  ·exact (y5C t s).trans (q77 l _)
  ·split
   ·exact (y4q t s).trans (q77 l _)
   ·split
    ·exact (y5p _ s).trans (q77 l _)
    ·exact q77 l s
end Go.E
namespace Go.E
open Go
abbrev KD (R : Type) := List C → List Es → Option R
theorem y19 {α : Type} (_ : String) (a : α) : ∃ b, b = a := ⟨a, rfl⟩
noncomputable def lid {α : Type} (n : String) (a : α) : α := Classical.choose (y19 n a)
theorem W7 {α : Type} (n : String) (a : α) : lid n a = a := Classical.choose_spec (y19 n a)
noncomputable def jn {R : Type} : KD R → (KD R → Option R) → Option R := lid "" fun k b => b k
theorem Y2 {R : Type} (k : KD R) (b : KD R → Option R) : jn k b = b k := by unfold jn; rw [W7]
def y4L {R : Type} : Nat → (KD R → List C → List Es → Option R) → List C → List Es → Option R
 | 0, _, _, _ => none
 | n + 1, F, ds, ms => F (y4L n F) ds ms
noncomputable def U4 {R : Type} : Nat → (KD R → List C → List Es → Option R) → List C → List Es → Option R := lid "" y4L
theorem z3g {R : Type} (F : KD R → List C → List Es → Option R) (ds : List C) (ms : List Es) : U4 0 F ds ms = none := by unfold U4; rw [W7]; rfl
theorem q1b {R : Type} (n : Nat) (F : KD R → List C → List Es → Option R) (ds : List C) (ms : List Es) : U4 (n + 1) F ds ms = F (U4 n F) ds ms := by unfold U4; rw [W7]; rfl
abbrev Hints := List (List Nat × Hint)
def q6H : Hints → List Nat → Option Hint
 | [], _ => none
 | (q, h) :: l, p => if q = p then some h else q6H l p
noncomputable def exJ {R : Type} (h : Option Hint) (s : S) (K : S → Option R) (body : (S → Option R) → Option R) : Option R :=
 match h with
 | none => body K
 | some h => z3w (y3H h s) fun sh => jn (fun ds ms => K (q2n sh s.A ds ms)) fun k => body fun s1 => q7C sh s1 k
theorem z3E {R : Type} {r : R} {h : Option Hint} {s : S} {K : S → Option R} {body : (S → Option R) → Option R} {P : S → Prop} {G : Prop} (hP : ∀ s1 s2, P s1 → WkA s1 s2 → P s2) (hA : ∀ s1, P s1 → s1.A = s.A) (hj : exJ h s K body = some r)
  (hb : ∀ k : S → Option R, body k = some r → (∃ s1, k s1 = some r ∧ P s1) ∨ G) : (∃ s2, K s2 = some r ∧ P s2) ∨ G := by
 unfold exJ at hj
 split at hj
 ·exact hb _ hj
 ·rename_i h'
  rw [z2q, Y2] at hj
  rcases hb _ hj with ⟨s1, h1, h2⟩ | hg
  ·obtain ⟨ds, ms, h3, h4⟩ := q8g h1
   rw [hA s1 h2] at h4
   exact .inl ⟨_, h3, hP _ _ h2 h4⟩
  ·exact .inr hg
def q2E : Code → Option (List Code × Nat × Code)
 | .seq a b => (match a with
  | .label l => some ([], l, b)
  | a => (match q2E b with
   | some x => some (a :: x.1, x.2)
   | none => none))
 | _ => none
def z00 (l : Nat) : List Code → Bool
 | [] => true
 | a :: as => (match findLabel a l with
  | some _ => false
  | none => z00 l as)
theorem z1Q : ∀ (c : Code) {as : List Code} {r : Code} {l : Nat}, q2E c = some (as, l, r) → z00 l as = true → findLabel c l = some (.seq .skip r)
 | .seq a b, as, r, l, h, hn => by
  unfold q2E at h
  split at h
  ·cases h; simp [findLabel]
  ·split at h
   ·rename_i x hx
    obtain ⟨as', l', r'⟩ := x
    cases h
    simp only [z00] at hn
    simp only [findLabel]
    cases ha : findLabel a l with
    | some y => rw [ha] at hn; cases hn
    | none => rw [ha] at hn; exact z1Q b hx hn
   ·cases h
 | .skip, _, _, _, h, _ | .region _ _ _, _, _, _, h, _ | .cond _ _ _, _, _, _, h, _ | .block _ _, _, _, _, h, _ | .loop _, _, _, _, h, _ | .exit _, _, _, _, h, _ | .scope _, _, _, _, h, _ | .label _, _, _, _, h, _ | .goto _, _, _, _, h, _ | .ret, _, _, _, h, _ | .rangeFunc _ _ _ _, _, _, _, h, _ | .refuse _, _, _, _, h, _ => by simp [q2E] at h
def z1c {R : Type} (run : List Nat → Code → S → KE R → Option R) : List Code → List Nat → S → (S → Option R) → KE R → Option R
 | [], _, s, k, _ => k s
 | a :: l, p, s, k, K => run (0 :: p) a s fun e s1 => match e with
  | .normal => frc s1 fun s1 => z1c run l (1 :: p) s1 k K
  | e => K e s1
noncomputable def exC {R : Type} (X : Cx) (call : q0W R) (ext : q1R) (tbl : Nat → List (Nat × Nat)) (hs : Hints) (N : Nat) (n : Nat) : Nat → List Nat → Code → S → KE R → Option R
 | 0, _, _, _, _ => none
 | f + 1, p, c, s, K => match c with
  | .skip => K .normal s
  | .region id ops draw => exJ (q6H hs p) (z4B (tbl id) s) (fun s => K .normal s) fun k => y1d X call ext (tbl id) n ops.toList draw (z4B (tbl id) s) k
  | .seq a b => exC X call ext tbl hs N n f (0 :: p) a s fun e s1 => match e with
    | .normal => frc s1 fun s1 => exC X call ext tbl hs N n f (1 :: p) b s1 K
    | e => K e s1
  | .cond (.tmp t) a b => exJ (q6H hs p) s (fun s => K .normal s) fun k => (match s.get t with
    | .d .bool c => bif c.toBool then exC X call ext tbl hs N n f (2 :: p) a (s.lit t c true) fun e s1 => (match e with
      | .normal => k s1
      | e => K e s1) else exC X call ext tbl hs N n f (3 :: p) b (s.lit t c false) fun e s1 => (match e with
      | .normal => k s1
      | e => K e s1)
    | _ => none)
  | .block id a => exJ (q6H hs p) s (fun s => K .normal s) fun k => exC X call ext tbl hs N n f (4 :: p) a s fun e s1 => match e with
     | .exit i => if i = id then k s1 else K (.exit i) s1
     | .normal => k s1
     | e => K e s1
  | .loop a => (match q6H hs p with
    | none => z0w (exC X call ext tbl hs N n f (5 :: p) a) (slotsOf s.env) f s K
    | some h => z3w (y3H h s) fun sh => q7C sh s fun ds ms => U4 N (fun rec ds ms => exC X call ext tbl hs N n f (5 :: p) a (q2n sh s.A ds ms) fun e s1 => match e with
      | .normal => q7C sh s1 rec
      | e => K e s1) ds ms)
  | .exit id => K (.exit id) s
  | .scope a => (match q6H hs p with
    | none => exC X call ext tbl hs N n f (6 :: p) a s fun e s1 => match e with
     | .goto _ => none
     | e => K e s1
    | some h => (match q2E a with
     | some (as, l, rest) => if z00 l as = true then z1c (exC X call ext tbl hs N n f) as (6 :: p) s
       (fun s1 => z3w (y3H h s1) fun sh => q7C sh s1 fun ds ms => U4 N (fun rec ds ms => exC X call ext tbl hs N n f (7 :: p) rest (q2n sh s1.A ds ms) fun e s2 => match e with
        | .goto l' => if l' = l then q7C sh s2 rec else none
        | e => K e s2) ds ms)
       (fun e s1 => match e with
        | .goto _ => none
        | e => K e s1) else none
     | none => none))
  | .label _ => K .normal s
  | .goto l => K (.goto l) s
  | .ret => K .ret s
  | _ => none
def Way (X : Cx) (n : Nat) (c : Code) (s : S) (e : Exit) (s' : S) : Prop :=
 s'.A = s.A ∧ ∀ A', leA s.A A' → ∀ Ψ : Exit → S → Prop, Ψ e (s'.wA A') → DC X n c (s.wA A') Ψ
theorem Way.q8j {X : Cx} {n : Nat} {c : Code} {s s1 s2 : S} {e : Exit} (h : Way X n c s e s1) (hw : WkA s1 s2) : Way X n c s e s2 := by
 refine ⟨hw.1.trans h.1, fun A' hA Ψ hΨ => ?_⟩
 refine (h.2 A' hA (fun e1 s3 => e1 = e ∧ s3 = s1.wA A') ⟨rfl, rfl⟩).post ?_
 rintro e1 s3 ⟨rfl, rfl⟩
 exact ⟨_, hw.2 X n A' (by rw [h.1]; exact hA), hΨ⟩
section
variable {X : Cx} {R : Type} {call : q0W R} {ext : q1R} (hP : x5 X.P = true) (hmo : X.P.follows .mixedOrders = true) (hc : q3C X call) (he : q4f X ext)
theorem z7I {c : Code} {n : Nat} {sh : SSh} {A0 : Key → Option O} {body : S → KE R → Option R} {K : KE R} {r : R} (hb : ∀ s (K : KE R), body s K = some r → z2x X n c s r K) :
  ∀ (N : Nat) (ds : List C) (ms : List Es), U4 N (fun rec ds ms => body (q2n sh A0 ds ms) fun e s1 => match e with
      | .normal => q7C sh s1 rec
      | e => K e s1) ds ms = some r → ∃ e s', K e s' = some r ∧ s'.A = A0 ∧ ∀ A', leA A0 A' → ∀ Ψ : Exit → S → Prop, Ψ e (s'.wA A') → ∀ (Γ0 : G) (a : Act) (w : World), At X n Γ0 ((q2n sh A0 ds ms).wA A') a w → Code.rounds X.P c (fun e a w => ∃ s', Ψ e s' ∧ At X n Γ0 s' a w) N a w
 | 0, ds, ms, h => by simp [z3g] at h
 | N + 1, ds, ms, h => by
  simp only [q1b] at h
  obtain ⟨e0, s1, h1, hA1, hD⟩ := hb _ _ h
  have hother : ∀ (hne : e0 ≠ .normal), K e0 s1 = some r → ∃ e s', K e s' = some r ∧ s'.A = A0 ∧ ∀ A', leA A0 A' → ∀ Ψ : Exit → S → Prop, Ψ e (s'.wA A') → ∀ (Γ0 : G) (a : Act) (w : World), At X n Γ0 ((q2n sh A0 ds ms).wA A') a w → Code.rounds X.P c (fun e a w => ∃ s', Ψ e s' ∧ At X n Γ0 s' a w) (N + 1) a w := by
   intro hne h1
   refine ⟨e0, s1, h1, hA1, fun A' hA Ψ hΨ Γ0 a w hat => ?_⟩
   rw [rounds_succ]
   refine wp_mono (hD A' hA (fun e1 s2 => e1 = e0 ∧ s2 = s1.wA A') ⟨rfl, rfl⟩ Γ0 a w hat) ?_
   rintro e1 a1 w1 ⟨s2, ⟨rfl, rfl⟩, hat1⟩
   cases e1 with
   | normal => exact absurd rfl hne
   | exit _ | goto _ | ret | panic _ | outgrown => exact ⟨_, hΨ, hat1⟩
  cases e0 with
  | normal =>
   obtain ⟨ds', ms', h3, hw⟩ := q8g h1
   rw [show s1.A = A0 from hA1] at hw
   obtain ⟨e, s', h4, h5, h6⟩ := z7I hb N ds' ms' h3
   refine ⟨e, s', h4, h5, fun A' hA Ψ hΨ Γ0 a w hat => ?_⟩
   rw [rounds_succ]
   refine wp_mono (hD A' hA (fun e1 s2 => e1 = .normal ∧ s2 = s1.wA A') ⟨rfl, rfl⟩ Γ0 a w hat) ?_
   rintro e1 a1 w1 ⟨s2, ⟨rfl, rfl⟩, hat1⟩
   exact h6 A' hA Ψ hΨ Γ0 a1 w1 (hw.2 X n A' (by rw [show s1.A = A0 from hA1]; exact hA) Γ0 a1 w1 hat1)
  | exit _ | goto _ | ret | panic _ | outgrown => exact hother (by simp) h1
theorem z3D {n : Nat} {r : R} {run : List Nat → Code → S → KE R → Option R} (hrun : ∀ p c s (K : KE R), run p c s K = some r → z2x X n c s r K) : ∀ (as : List Code) (p : List Nat) (s : S) (k : S → Option R) (K : KE R), z1c run as p s k K = some r →
  (∃ s1, k s1 = some r ∧ s1.A = s.A ∧ ∀ c l rest, q2E c = some (as, l, rest) → ∀ A', leA s.A A' → ∀ Ψ : Exit → S → Prop, DC X n rest (s1.wA A') Ψ → DC X n c (s.wA A') Ψ) ∨
  (∃ e s1, e ≠ .normal ∧ K e s1 = some r ∧ s1.A = s.A ∧ ∀ c l rest, q2E c = some (as, l, rest) → ∀ A', leA s.A A' → ∀ Ψ : Exit → S → Prop, Ψ e (s1.wA A') → DC X n c (s.wA A') Ψ)
 | [], p, s, k, K, h => by
  refine .inl ⟨s, h, rfl, fun c l rest hc A' hA Ψ hd => ?_⟩
  cases c <;> simp only [q2E, reduceCtorEq] at hc
  rename_i a b
  split at hc
  ·cases hc
   exact x9 (z8r hd)
  ·split at hc
   ·cases hc
   ·cases hc
 | a :: as, p, s, k, K, h => by
  simp only [z1c] at h
  obtain ⟨e, s1, h1, a1, d1⟩ := hrun _ _ _ _ h
  have inv : ∀ c l rest, q2E c = some (a :: as, l, rest) → ∃ b, c = .seq a b ∧ q2E b = some (as, l, rest) := by
   intro c l rest hc
   cases c <;> simp only [q2E, reduceCtorEq] at hc
   split at hc
   ·cases hc
   ·split at hc
    ·rename_i x hx
     obtain ⟨x1, x2⟩ := x
     cases hc
     exact ⟨_, rfl, hx⟩
    ·cases hc
  cases e with
  | normal =>
   rcases z3D hrun as (1 :: p) s1 k K (by dsimp only at h1; rw [z7X] at h1; exact h1) with ⟨s2, h2, a2, d2⟩ | ⟨e, s2, hne, h2, a2, d2⟩
   ·refine .inl ⟨s2, h2, a2.trans a1, fun c l rest hc A' hA Ψ hd => ?_⟩
    obtain ⟨b, rfl, hb⟩ := inv c l rest hc
    exact x9 (d1 A' hA _ (d2 b l rest hb A' (by rw [a1]; exact hA) Ψ hd))
   ·refine .inr ⟨e, s2, hne, h2, a2.trans a1, fun c l rest hc A' hA Ψ hd => ?_⟩
    obtain ⟨b, rfl, hb⟩ := inv c l rest hc
    exact x9 (d1 A' hA _ (d2 b l rest hb A' (by rw [a1]; exact hA) Ψ hd))
  | exit _ | goto _ | ret | panic _ | outgrown =>
   refine .inr ⟨_, s1, by simp, h1, a1, fun c l rest hc A' hA Ψ hd => ?_⟩
   obtain ⟨b, rfl, hb⟩ := inv c l rest hc
   exact x9 (d1 A' hA _ hd)
def Ends (X : Cx) (n : Nat) (l : Nat) (rest : Code) (sh : SSh) (A0 : Key → Option O) (e : Exit) (s' : S) : Nat → List C → List Es → Prop
 | 0, _, _ => False
 | m + 1, ds, ms => ∃ e2 s2, Way X n rest (q2n sh A0 ds ms) e2 s2 ∧ ((e2 = .goto l ∧ ∃ ds' ms', WkA s2 (q2n sh A0 ds' ms') ∧ Ends X n l rest sh A0 e s' m ds' ms') ∨ ((∀ l', e2 ≠ .goto l') ∧ e2 = e ∧ s2 = s'))
theorem z5b {n l : Nat} {rest : Code} {sh : SSh} {A0 : Key → Option O} {body : S → KE R → Option R} {K : KE R} {r : R} (hb : ∀ s (K : KE R), body s K = some r → z2x X n rest s r K) :
  ∀ (N : Nat) (ds : List C) (ms : List Es), U4 N (fun rec ds ms => body (q2n sh A0 ds ms) fun e s2 => match e with
      | .goto l' => if l' = l then q7C sh s2 rec else none
      | e => K e s2) ds ms = some r → ∃ e s', K e s' = some r ∧ s'.A = A0 ∧ (∀ l', e ≠ .goto l') ∧ Ends X n l rest sh A0 e s' N ds ms
 | 0, ds, ms, h => by simp [z3g] at h
 | N + 1, ds, ms, h => by
  rw [q1b] at h
  obtain ⟨e0, s1, h1, a1, d1⟩ := hb _ _ h
  have a1 : s1.A = A0 := a1
  cases e0 with
  | goto l' =>
   dsimp only at h1
   by_cases hl : l' = l
   ·rw [if_pos hl] at h1
    subst hl
    obtain ⟨ds', ms', h2, hw⟩ := q8g h1
    rw [a1] at hw
    obtain ⟨e, s', h3, h4, h5, h6⟩ := z5b hb N ds' ms' h2
    exact ⟨e, s', h3, h4, h5, _, s1, ⟨a1, d1⟩, .inl ⟨rfl, ds', ms', hw, h6⟩⟩
   ·rw [if_neg hl] at h1; cases h1
  | normal | exit _ | ret | panic _ | outgrown =>
   exact ⟨_, s1, h1, a1, by simp, _, s1, ⟨a1, d1⟩, .inr ⟨by simp, rfl, rfl⟩⟩
theorem y3n {n l : Nat} {c rest : Code} {sh : SSh} {A0 : Key → Option O} {e : Exit} {s' : S} (hf : findLabel c l = some (.seq .skip rest)) {N : Nat} {ds : List C} {ms : List Es} (hE : Ends X n l rest sh A0 e s' N ds ms) {A' : Key → Option O} (hA : leA A0 A') {s0 : S}
  (first : ∀ Ψ : Exit → S → Prop, DC X n rest ((q2n sh A0 ds ms).wA A') Ψ → DC X n c s0 Ψ) {Ψ : Exit → S → Prop} (hΨ : Ψ e (s'.wA A')) : DC X n (.scope c) s0 Ψ := by
 have pass : ∀ i : { x : Nat × List C × List Es // Ends X n l rest sh A0 e s' x.1 x.2.1 x.2.2 }, DC X n rest ((q2n sh A0 i.1.2.1 i.1.2.2).wA A') fun e2 s2 => match e2 with
   | .goto l' => l' = l ∧ ∃ j : { x : Nat × List C × List Es // Ends X n l rest sh A0 e s' x.1 x.2.1 x.2.2 }, J1 X n s2 ((q2n sh A0 j.1.2.1 j.1.2.2).wA A') ∧ j.1.1 < i.1.1
   | e2 => Ψ e2 s2 := by
  rintro ⟨⟨m, ds, ms⟩, h⟩
  cases m with
  | zero => exact h.elim
  | succ m =>
   obtain ⟨e2, s2, hw, h1⟩ := h
   refine hw.2 A' hA _ ?_
   rcases h1 with ⟨rfl, ds', ms', hwk, hE'⟩ | ⟨hne, rfl, rfl⟩
   ·exact ⟨rfl, ⟨⟨m, ds', ms'⟩, hE'⟩, hwk.2 X n A' (by rw [hw.1]; exact hA), Nat.lt_succ_self m⟩
   ·cases e2 with
    | goto l' => exact absurd rfl (hne l')
    | normal | exit _ | ret | panic _ | outgrown => exact hΨ
 refine y4l l hf (fun i => (q2n sh A0 i.1.2.1 i.1.2.2).wA A') (fun i => i.1.1) ?_ (fun i => x9 (q02 (pass i)))
 refine first _ ((pass ⟨⟨N, ds, ms⟩, hE⟩).post ?_)
 intro e2 s2 h
 refine ⟨s2, J1.refl _, ?_⟩
 cases e2 with
 | goto l' => exact ⟨h.1, h.2.choose, h.2.choose_spec.1⟩
 | normal | exit _ | ret | panic _ | outgrown => exact h
include hP hmo hc he
theorem y2z {tbl : Nat → List (Nat × Nat)} {hs : Hints} {N n : Nat} {r : R} : ∀ (f : Nat) (p : List Nat) (c : Code) (s : S) (K : KE R), exC X call ext tbl hs N n f p c s K = some r → z2x X n c s r K
 | 0, p, c, s, K, h => by simp [exC] at h
 | f + 1, p, c, s, K, h => by
  have IH := y2z (tbl := tbl) (hs := hs) (N := N) (n := n) (r := r) f
  cases c with
  | skip => exact ⟨_, _, h, rfl, fun A' hA Ψ hΨ => q02 hΨ⟩
  | region id ops draw =>
   simp only [exC] at h
   have hw := q77 (tbl id) s
   have := z3E (P := fun s1 => Way X n (.region id ops draw) (z4B (tbl id) s) .normal s1) (G := False) (fun s1 s2 h1 h2 => h1.q8j h2) (fun s1 h => h.1) h fun k hk => by
    obtain ⟨s', h1, h2, h3⟩ := y4d hP hmo hc he (id := id) hk
    refine .inl ⟨s', h1, h2, fun A' hA Ψ hΨ => ?_⟩
    have := h3 A' hA Ψ hΨ
    simpa using this
   rcases this with ⟨s2, h1, h2⟩ | h
   ·exact ⟨_, s2, h1, h2.1.trans hw.1, fun A' hA Ψ hΨ => DC.q8j (hw.2 X n A' hA) (h2.2 A' (by rw [hw.1]; exact hA) Ψ hΨ)⟩
   ·exact h.elim
  | seq c1 c2 =>
   simp only [exC] at h
   obtain ⟨e0, s1, h1, a1, d1⟩ := IH _ c1 s _ h
   cases e0 with
   | normal =>
    obtain ⟨e2, s2, h2, a2, d2⟩ := IH (1 :: p) c2 s1 K (by dsimp only at h1; rw [z7X] at h1; exact h1)
    exact ⟨e2, s2, h2, a2.trans a1, fun A' hA Ψ hΨ => x9 (d1 A' hA _ (d2 A' (by rw [a1]; exact hA) Ψ hΨ))⟩
   | exit _ | goto _ | ret | panic _ | outgrown => exact ⟨_, s1, h1, a1, fun A' hA Ψ hΨ => x9 (d1 A' hA _ hΨ)⟩
  | cond t c1 c2 =>
   cases t with
   | tmp t =>
    simp only [exC] at h
    have := z3E (P := fun s1 => Way X n (.cond (.tmp t) c1 c2) s .normal s1) (G := z2x X n (.cond (.tmp t) c1 c2) s r K) (fun s1 s2 h1 h2 => h1.q8j h2) (fun s1 h => h.1) h fun k hk => by
     split at hk
     ·rename_i v hv
      cases hb : v.toBool with
      | true =>
       rw [hb] at hk
       simp only [cond_true] at hk
       rw [z7L hv hb] at hk
       obtain ⟨e2, s2, h2, a2, d2⟩ := IH _ c1 s _ hk
       have w2 : Way X n (.cond (.tmp t) c1 c2) s e2 s2 := ⟨a2, fun A' hA Ψ hΨ => z8t hv (fun _ => d2 A' hA Ψ hΨ) (fun h => by rw [hb] at h; cases h)⟩
       cases e2 with
       | normal => exact .inl ⟨s2, h2, w2⟩
       | exit _ | goto _ | ret | panic _ | outgrown => exact .inr ⟨_, s2, h2, w2⟩
      | false =>
       rw [hb] at hk
       simp only [cond_false] at hk
       rw [z7L hv hb] at hk
       obtain ⟨e2, s2, h2, a2, d2⟩ := IH _ c2 s _ hk
       have w2 : Way X n (.cond (.tmp t) c1 c2) s e2 s2 := ⟨a2, fun A' hA Ψ hΨ => z8t hv (fun h => by rw [hb] at h; cases h) (fun _ => d2 A' hA Ψ hΨ)⟩
       cases e2 with
       | normal => exact .inl ⟨s2, h2, w2⟩
       | exit _ | goto _ | ret | panic _ | outgrown => exact .inr ⟨_, s2, h2, w2⟩
     ·cases hk
    rcases this with ⟨s2, h1, h2⟩ | h
    ·exact ⟨_, s2, h1, h2⟩
    ·exact h
   | const _ | global _ | func _ => simp [exC] at h
  | block id c1 =>
   simp only [exC] at h
   have := z3E (P := fun s1 => Way X n (.block id c1) s .normal s1) (G := z2x X n (.block id c1) s r K) (fun s1 s2 h1 h2 => h1.q8j h2) (fun s1 h => h.1) h fun k hk => by
    obtain ⟨e0, s1, h1, a1, d1⟩ := IH _ c1 s _ hk
    cases e0 with
    | exit i =>
     dsimp only at h1
     by_cases hi : i = id
     ·rw [if_pos hi] at h1
      refine .inl ⟨s1, h1, a1, fun A' hA Ψ hΨ => q1i (d1 A' hA _ ?_)⟩
      simp only
      rw [if_pos hi]; exact hΨ
     ·rw [if_neg hi] at h1
      refine .inr ⟨_, s1, h1, a1, fun A' hA Ψ hΨ => q1i (d1 A' hA _ ?_)⟩
      simp only
      rw [if_neg hi]; exact hΨ
    | normal => exact .inl ⟨s1, h1, a1, fun A' hA Ψ hΨ => q1i (d1 A' hA _ hΨ)⟩
    | goto _ | ret | panic _ | outgrown => exact .inr ⟨_, s1, h1, a1, fun A' hA Ψ hΨ => q1i (d1 A' hA _ hΨ)⟩
   rcases this with ⟨s2, h1, h2⟩ | h
   ·exact ⟨_, s2, h1, h2⟩
   ·exact h
  | loop c1 =>
   simp only [exC] at h
   split at h
   ·obtain ⟨e, s', h1, h2, h3⟩ := z5J (fun s K h => IH _ c1 s K h) f s K h
    exact ⟨e, s', h1, h2, fun A' hA Ψ hΨ Γ0 a w hat => wp_loop_rounds f (h3 A' hA Ψ hΨ Γ0 a w hat)⟩
   ·rename_i hh
    rw [z2q] at h
    obtain ⟨ds, ms, h1, hw⟩ := q8g h
    obtain ⟨e, s', h4, h5, h6⟩ := z7I (c := c1) (body := exC X call ext tbl hs N n f (5 :: p) c1) (fun s K h => IH _ c1 s K h) N ds ms h1
    exact ⟨e, s', h4, h5, fun A' hA Ψ hΨ Γ0 a w hat => wp_loop_rounds N (h6 A' hA Ψ hΨ Γ0 a w (hw.2 X n A' hA Γ0 a w hat))⟩
  | exit id => exact ⟨_, _, h, rfl, fun A' hA Ψ hΨ => z1l hΨ⟩
  | scope c1 =>
   simp only [exC] at h
   split at h
   ·obtain ⟨e0, s1, h1, a1, d1⟩ := IH _ c1 s _ h
    cases e0 with
    | goto i => cases h1
    | normal | exit _ | ret | panic _ | outgrown => exact ⟨_, s1, h1, a1, fun A' hA Ψ hΨ => q5W (d1 A' hA _ hΨ)⟩
   ·rename_i hh _
    split at h
    ·rename_i as l rest hd
     simp only [Option.ite_none_right_eq_some] at h
     obtain ⟨hnl, h⟩ := h
     rcases z3D (fun p c s K h => IH p c s K h) as _ s _ _ h with ⟨s1, h1, a1, d1⟩ | ⟨e, s1, hne, h1, a1, d1⟩
     ·rw [z2q] at h1
      obtain ⟨ds, ms, h2, hw⟩ := q8g h1
      obtain ⟨e, s', h3, h4, h5, h6⟩ := z5b (rest := rest) (body := exC X call ext tbl hs N n f (7 :: p) rest) (fun s K h => IH _ rest s K h) N ds ms h2
      refine ⟨e, s', h3, h4.trans a1, fun A' hA Ψ hΨ => ?_⟩
      exact y3n (z1Q _ hd hnl) h6 (by rw [a1]; exact hA) (fun Ψ' hd' => d1 c1 l rest hd A' hA Ψ' (DC.q8j (hw.2 X n A' (by rw [a1]; exact hA)) hd')) hΨ
     ·cases e with
      | goto i => cases h1
      | normal | exit _ | ret | panic _ | outgrown => exact ⟨_, s1, h1, a1, fun A' hA Ψ hΨ => q5W (d1 c1 l rest hd A' hA _ hΨ)⟩
    ·cases h
  | label _ => exact ⟨_, _, h, rfl, fun A' hA Ψ hΨ => z8r hΨ⟩
  | goto _ => exact ⟨_, _, h, rfl, fun A' hA Ψ hΨ => y5R hΨ⟩
  | ret => exact ⟨_, _, h, rfl, fun A' hA Ψ hΨ => q35 hΨ⟩
  | rangeFunc _ _ _ _ => simp [exC] at h
  | refuse _ => simp [exC] at h
end
noncomputable def exF {R : Type} (X : Cx) (ov : OvK R) (ext : q1R) (tbl : FuncId → Nat → List (Nat × Nat)) (hs : FuncId → Hints) (N fuel : Nat) : Nat → q0W R
 | 0, _, _, _, _ => none
 | d + 1, f, xs, A, K => match ov f with
  | some g => g xs A K
  | none => (match X.P.funcs[f]? with
   | some fn => (match fn.body with
    | some c => if xs.length ≤ fn.ntmps then exJ (q6H (hs f) [9]) (S.start xs A) (fun s => y4T X fn s K) fun k => exC X (exF X ov ext tbl hs N fuel d) ext (tbl f) (hs f) N fn.ntmps fuel [] c (nbS (S.start xs A)) fun e s => (match e with
       | .normal => k s
       | .ret => k s
       | _ => none) else none
    | none => none)
   | none => none)
section
variable {X : Cx} {R : Type} {ov : OvK R} {ext : q1R} (hP : x5 X.P = true) (hmo : X.P.follows .mixedOrders = true) (hov : y1v X ov) (he : q4f X ext)
include hP hmo hov he
theorem y2y {tbl : FuncId → Nat → List (Nat × Nat)} {hs : FuncId → Hints} {N fuel : Nat} : ∀ d, q3C X (exF X ov ext tbl hs N fuel d)
 | 0 => by intro f xs A K r h; simp [exF] at h
 | d + 1 => by
  intro f xs A K r h
  simp only [exF] at h
  split at h
  ·rename_i g hg
   exact hov f g hg xs A K r h
  split at h
  ·rename_i fn hf
   split at h
   ·rename_i c hb
    simp only [Option.ite_none_right_eq_some] at h
    obtain ⟨hl, h⟩ := h
    have := z3E (P := fun s1 => ∃ e : Exit, (e = .normal ∨ e = .ret) ∧ Way X fn.ntmps c (S.start xs A) e s1) (G := False) (fun s1 s2 ⟨e, h1, h2⟩ h3 => ⟨e, h1, h2.q8j h3⟩) (fun s1 ⟨e, _, h⟩ => h.1) h fun k hk => by
     obtain ⟨e, s', h1, h2⟩ := y2z hP hmo (y2y d) he fuel [] c (nbS (S.start xs A)) _ hk
     have h2 : Way X fn.ntmps c (S.start xs A) e s' := ⟨h2.1, fun A' hA Ψ hΨ => DC.q8j ((y14 (S.start xs A)).2 X fn.ntmps A' hA) (h2.2 A' hA Ψ hΨ)⟩
     cases e with
     | normal => exact .inl ⟨s', h1, _, .inl rfl, h2⟩
     | ret => exact .inl ⟨s', h1, _, .inr rfl, h2⟩
     | exit _ | goto _ | panic _ | outgrown => cases h1
    rcases this with ⟨s', h1, e, he', h2, h3⟩ | h
    ·obtain ⟨v, L, h4, h5⟩ := y4c h1
     refine ⟨v, L, q6O hP hf hb rfl hl fun A' hA => ?_, h4⟩
     exact h3 A' hA (fun e s' => (e = .normal ∨ e = .ret) ∧ q3j X fn A' v L s') ⟨he', h5 A' (by rw [h2]; exact hA)⟩
    ·exact h.elim
   ·cases h
  ·cases h
end
end Go.E
namespace Go.E
open Go
def q3i (a b k : Key) : Key := if k = a then b else if k = b then a else k
theorem q12 (a b k : Key) : q3i a b (q3i a b k) = k := by
 unfold q3i
 by_cases h1 : k = a
 ·subst h1
  rw [if_pos rfl]
  by_cases h2 : b = k
  ·rw [if_pos h2]; exact h2
  ·rw [if_neg h2, if_pos rfl]
 ·rw [if_neg h1]
  by_cases h2 : k = b
  ·subst h2; rw [if_pos rfl, if_pos rfl]
  ·rw [if_neg h2, if_neg h1, if_neg h2]
def swU (a b : Key) : Key → Key
 | .g k => .g (q3i a b k)
 | .l n => .l n
theorem q13 (a b k : Key) : swU a b (swU a b k) = k := by
 cases k <;> simp [swU, q12]
def Tip.y3p (ρ : Key → Key) : Tip → Tip
 | .tok t => .tok t
 | .home k p => .home (ρ k) p
def G.perm (Γ : G) (ρ : Key → Key) : G := { Γ with ι := fun k => Γ.ι (ρ k), κ := fun b => (Γ.κ b).map fun p => (p.1.y3p ρ, p.2) }
def q09 (a b : Key) (A : Key → Option O) : Key → Option O := fun k => (A (q3i a b k)).map (O.ren (swU a b))
theorem z81 (a b : Key) (A : Key → Option O) : q09 a b (q09 a b A) = A := by
 funext k
 unfold q09
 rw [q12]
 cases A k with
 | none => rfl
 | some o => simp [O.q2T _ _ (q13 a b)]
def z0X (a b : Key) (L : List (Key × O)) : List (Key × O) := L.map fun p => (swU a b p.1, p.2.ren (swU a b))
theorem z3h (a b : Key) : ∀ (L : List (Key × O)) (k : Key), z6 (z0X a b L) k = (z6 L (swU a b k)).map (O.ren (swU a b))
 | [], _ => rfl
 | (j, o) :: L, k => by
  show (if swU a b j = k then some (o.ren (swU a b)) else z6 (z0X a b L) k) = (if j = swU a b k then some o else z6 L (swU a b k)).map (O.ren (swU a b))
  by_cases h : j = swU a b k
  ·have : swU a b j = k := by rw [h, q13]
   rw [if_pos this, if_pos h]; rfl
  ·have : swU a b j ≠ k := fun e => h (by rw [← e, q13])
   rw [if_neg this, if_neg h]; exact z3h a b L k
theorem z8.perm {Γ : G} {w : World} {s s' : S} {ρ : Key → Key} (c : z8 Γ w s) (hρ : ∀ k, ρ (ρ k) = k) (ho : ∀ k, s'.obj k = (s.obj (ρ k)).map (O.ren ρ)) (hl : ∀ t, s'.live t = s.live t) (hk : ∀ t, s.known t = true → s'.known t = true) : z8 (Γ.perm ρ) w s' := by
 have pr : ∀ hm, q2o Γ (Γ.perm ρ) ρ hm := fun hm => ⟨Hp.le_refl _, fun k x h => by simp [G.perm, hρ, h], fun _ _ h => h, fun k b p sz _ h => ⟨by simp [G.perm, h, Tip.y3p], rfl⟩⟩
 have hd : ∀ k, s.k9 (ρ k) = true → s'.k9 k = true := fun k h => by
  unfold S.k9 at h ⊢
  rw [ho]
  cases hs : s.obj (ρ k) with
  | none => rw [hs] at h; cases h
  | some o => rw [hs] at h; simpa [z1k, O.q3L] using h
 refine ⟨c.hH, c.hZ, fun b o sz h => ?_, fun k o h => ?_, fun k h => ?_, fun k k' b τ τ' h1 h2 => ?_, fun t L h => ?_, fun t ht => hk t (c.tdom t ht), c.hgl, c.hoo, c.hσ⟩
 ·cases hb : Γ.κ b with
  | none => simp [G.perm, hb] at h
  | some p =>
   obtain ⟨t, sz'⟩ := p
   simp [G.perm, hb] at h
   obtain ⟨rfl, rfl⟩ := h
   obtain ⟨a1, a2, arr, T, a3, a4, a5⟩ := c.hκ b t sz' hb
   exact ⟨a1, a2, arr, T, a3, a4, by cases t with
    | tok => trivial
    | home _ p => cases p <;> exact a5⟩
 ·rw [ho] at h
  cases hs : s.obj (ρ k) with
  | none => rw [hs] at h; cases h
  | some o0 =>
   rw [hs] at h; cases h
   refine (c.obj (ρ k) o0 hs).imp (fun h => ⟨h.1, O.q8k h.2⟩) fun hown => ?_
   have := Own.ren (pr _) (w' := w) (fun hd b τ hb => by
    obtain ⟨e1, e2, _⟩ := c.q0d hb hs hd
    exact ⟨rfl, e1, e2⟩) (Nat.le_refl _) hown
   rw [hρ] at this
   exact this
 ·rw [ho]
  have := c.dom (ρ k) h
  cases hs : s.obj (ρ k) with
  | none => exact absurd hs this
  | some o => simp
 ·refine (c.inj (ρ k) (ρ k') b τ τ' h1 h2).imp (fun e => by rw [← hρ k, e, hρ]) (And.imp (Or.imp (hd k) (hd k')) id)
 ·rw [hl] at h
  obtain ⟨x, h1, h2⟩ := c.tok t L h
  refine ⟨x, h1, fun b pos sz hx => ?_⟩
  obtain ⟨h3, h4⟩ := h2 b pos sz hx
  exact ⟨h3, by simp [G.perm, h4, Tip.y3p]⟩
def W9 (a b : Key) (x : V) : V := x.ren (swU a b) id
theorem q9S (a b : Key) (x : V) : W9 a b (W9 a b x) = x := V.q2T _ _ (q13 a b) x
theorem y1U (a b : Key) (n : Nat) (x : V) : (W9 a b x).q0k n = x.q0k n := by cases x <;> simp [W9, V.ren, V.q0k]
theorem y1V (a b : Key) (n : Nat) (x : V) : (W9 a b x).slot n = W9 a b (x.slot n) := by cases x <;> simp [W9, V.ren, V.slot]
theorem q50 (a b : Key) : ∀ (n : Nat) (xs : List V), q1j n (xs.map (W9 a b)) = q1j n xs
 | _, [] => rfl
 | n, x :: xs => by simp only [List.map_cons, q1j, y1U, q50 a b (n + 1) xs]
theorem q8o (a b : Key) : ∀ (n : Nat) (xs : List V), X2 n (xs.map (W9 a b)) = (X2 n xs).map (W9 a b)
 | _, [] => rfl
 | n, x :: xs => by simp only [List.map_cons, X2, y1V, q8o a b (n + 1) xs]
theorem z6Y (a b : Key) : ∀ (xs : List V), V.H8 (swU a b) id xs = xs.map (W9 a b)
 | [] => rfl
 | x :: xs => by simp only [V.H8, List.map_cons, z6Y a b xs]; rfl
theorem z15 (a b : Key) (xs : List V) : W9 a b (.tup xs) = .tup (xs.map (W9 a b)) := by
 simp only [W9, V.ren, z6Y]
theorem y0q (a b : Key) (n : Nat) (x : V) : (W9 a b x).X5 n = W9 a b (x.X5 n) := by
 cases x with
 | tup xs => rw [z15]; simp only [V.X5]; rw [q8o, z15]
 | nilc => rfl
 | d | sl | ts | emp | ptr | cptr | sr | mp | agg | fn | top | any => simp [W9, V.ren, V.X5, V.slot]
theorem z6Z (a b : Key) (n : Nat) (x : V) : (W9 a b x).tkR n = x.tkR n := by
 cases x with
 | tup xs => rw [z15]; simp only [V.tkR]; exact q50 a b n xs
 | nilc => rfl
 | d | sl | ts | emp | ptr | cptr | sr | mp | agg | fn | top | any => simp [W9, V.ren, V.tkR, V.q0k]
theorem O.y5i (a b : Key) {o : O} (h : o.ok k5 k5 = true) : (o.ren (swU a b)).ok k5 k5 = true := by
 have key : (∀ x : V, x.ok k5 k5 = true → (x.ren (swU a b) id).ok k5 k5 = true) := by
  intro x
  induction x using V.rec (motive_2 := fun xs => V.oks k5 k5 xs = true → V.oks k5 k5 (V.H8 (swU a b) id xs) = true) with
  | ptr k q τ => intro h; cases k <;> simp [V.ok, V.ren, swU, k5] at h ⊢
  | sr k q lo n cp eb e => intro h; cases k <;> simp [V.ok, V.ren, swU, k5] at h ⊢
  | mp k => intro h; cases k <;> simp [V.ok, V.ren, swU, k5] at h ⊢
  | sl => intro h; simp [V.ok, k5] at h
  | agg τ vs ih => intro h; simp only [V.ok, V.ren] at h ⊢; exact ih h
  | fn f vs ih => intro h; simp only [V.ok, V.ren] at h ⊢; exact ih h
  | tup vs ih => intro h; simp only [V.ok, V.ren] at h ⊢; exact ih h
  | nil => simp only [V.H8, V.oks]
  | cons x xs ih1 ih2 h =>
   simp only [V.oks, Bool.and_eq_true] at h
   simp only [V.H8, V.oks, Bool.and_eq_true]
   exact ⟨ih1 h.1, ih2 h.2⟩
  | _ => intro _; simp only [V.ren, V.ok]
 cases o with
 | box x => exact key x h
 | map kτ vτ es =>
  simp only [O.ren, O.ok] at h ⊢
  induction es with
  | nil => rfl
  | cons c es ih =>
   simp only [V.q0w, Bool.and_eq_true] at h
   simp only [List.map_cons, V.q0w, Bool.and_eq_true]
   exact ⟨key _ h.1, ih h.2⟩
 | it => rfl
 | dead => rfl
theorem r9.swap {X : Cx} {f : FuncId} {xs : List V} {A : Key → Option O} {v : V} {L : List (Key × O)} (a b : Key) (D : r9 X f xs A v L) :
  r9 X f (xs.map (W9 a b)) (q09 a b A) (W9 a b v) (z0X a b L) := by
 intro A' Γ w args hA hgl ⟨c, hok⟩ hlen hr
 have hxs : (xs.map (W9 a b)).map (W9 a b) = xs := by
  rw [List.map_map]
  exact (List.map_congr_left (g := id) fun x _ => q9S a b x).trans (List.map_id _)
 have hA' : ∀ k o, A k = some o → q09 a b A' k = some o := by
  intro k o h
  have h1 : q09 a b A (q3i a b k) = some (o.ren (swU a b)) := by simp [q09, q12, h]
  have h2 := hA _ _ h1
  simp [q09, h2, O.q2T _ _ (q13 a b)]
 have hobj : ∀ k, S.obj (S.start xs (q09 a b A')) k = (S.obj (S.start (xs.map (W9 a b)) A') (swU a b k)).map (O.ren (swU a b)) := by
  intro k
  cases k with
  | l n => rfl
  | g k => simp [S.start, S.obj, b9, z6, swU, q09]
 have c1 := c.perm (s' := S.start xs (q09 a b A')) (q13 a b) hobj (fun t => by simp only [S.start, S.live, q50]) (fun t h => by simpa only [S.start, S.known, q50] using h)
 have hok1 : AOk (q09 a b A') := by
  intro k o h
  unfold q09 at h
  cases hk : A' (q3i a b k) with
  | none => rw [hk] at h; cases h
  | some o0 => rw [hk] at h; cases h; exact O.y5i a b (hok _ _ hk)
 have pr : q2o Γ (Γ.perm (swU a b)) (swU a b) none := ⟨Hp.le_refl _, fun k x h => by simp [G.perm, q13, h], fun _ _ h => h, fun k _ _ _ h => by cases h⟩
 refine (D (q09 a b A') (Γ.perm (swU a b)) w args hA' hgl ⟨c1, hok1⟩ (by simpa using hlen) fun i x u hx hu => ?_).mono ?_
 ·have h1 : (X2 1000 (xs.map (W9 a b)))[i]? = some (W9 a b x) := by rw [q8o, List.getElem?_map, hx]; rfl
  have := (hr i _ u h1 hu).ren (θ := id) pr (fun _ _ h => h)
  have e : V.ren (swU a b) id (W9 a b x) = x := q9S a b x
  rwa [e] at this
 ·rintro e w' ⟨u, Γ', rfl, gle, c', hu⟩
  have hobj' : ∀ k, S.obj (S.fin (W9 a b v) (z0X a b L) A') k = (S.obj (S.fin v L (q09 a b A')) (swU a b k)).map (O.ren (swU a b)) := by
   intro k
   simp only [S.fin, S.obj, b9, z3h]
   cases hl : z6 L (swU a b k) with
   | some o => rfl
   | none =>
    cases k with
    | l n => rfl
    | g k =>
     simp only [Option.map_none, swU, q09, q12]
     cases A' k with
     | none => rfl
     | some o => simp [O.q2T _ _ (q13 a b)]
  have c2 := c'.perm (s' := S.fin (W9 a b v) (z0X a b L) A') (q13 a b) hobj' (fun t => by simp only [S.fin, S.live, z6Z]) (fun t h => by simpa only [S.fin, S.known, z6Z] using h)
  have pr' : q2o Γ' (Γ'.perm (swU a b)) (swU a b) none := ⟨Hp.le_refl _, fun k x h => by simp [G.perm, q13, h], fun _ _ h => h, fun k _ _ _ h => by cases h⟩
  refine ⟨u, Γ'.perm (swU a b), rfl, ⟨gle.H, gle.Z, gle.ZH, fun k x h => ?_, gle.gl, gle.oo, gle.σ, fun k h => ?_⟩, c2, ?_⟩
  ·refine gle.g (q3i a b k) x ?_
   show Γ.ι (swU a b (.g (q3i a b k))) = some x
   simp [swU, q12, h]
  ·refine gle.gn (q3i a b k) ?_
   show Γ.ι (swU a b (.g (q3i a b k))) = none
   simp [swU, q12, h]
  ·rw [y0q]
   exact hu.ren (θ := id) pr' (fun _ _ h => h)
mutual
def Sh.fit {R : Type} : Sh → V → (List C → Option R) → Option R
 | .d τ, x, K => (match x with
  | .d τ' c => if τ' = τ then K [c] else none
  | _ => none)
 | .sl _ _ _, _, _ => none
 | .ts eb e, x, K => (match x with
  | .ts eb' e' cs => if eb' = eb ∧ e' = e then K [.slice cs] else none
  | _ => none)
 | .sr k q cp eb e, x, K => (match x with
  | .sr k' q' lo n cp' eb' e' => if k' = k ∧ q' = q ∧ eb' = eb ∧ e' = e then (match cp, cp' with
   | false, none => K [.int lo, .int n]
   | true, some c => K [.int lo, .int n, .int c]
   | _, _ => none) else none
  | _ => none)
 | .cptr τ, x, K => (match x with
  | .cptr τ' c => if τ' = τ then K [c] else none
  | _ => none)
 | .arr e, x, K => (match x with
  | .d (.arr n e') c => if e' = e then (if n = c.elems.length then K [c] else none) else none
  | _ => none)
 | .agg τ l, x, K => (match x with
  | .agg τ' vs => if τ' = τ then Sh.fits l vs K else none
  | _ => none)
 | .as v, x, K => if V.same x v = true then K [] else none
 | .vec k eb e, x, K => (match x with
  | .sr k' q' lo n cp' eb' e' => if k' = k ∧ q' = [] ∧ lo = 0 ∧ cp'.isNone = true ∧ eb' = eb ∧ e' = e then K [.int n] else none
  | _ => none)
 | .fnc f l, x, K => (match x with
  | .fn f' vs => if f' = f then q2P l vs K else none
  | _ => none)
def Sh.fits {R : Type} : List Sh → List V → (List C → Option R) → Option R
 | [], [], K => K []
 | s :: l, x :: xs, K => s.fit x fun d1 => Sh.fits l xs fun d2 => K (d1 ++ d2)
 | _, _, _ => none
end
mutual
theorem Sh.y2u {R : Type} {r : R} : ∀ (s : Sh) (x : V) {K : List C → Option R}, s.fit x K = some r → ∃ ds, K ds = some r ∧ ds.length = s.many ∧ s.fill 0 ds = x
 | .d τ, x, K, h => by
  cases x <;> simp only [Sh.fit, reduceCtorEq, Option.ite_none_right_eq_some] at h
  obtain ⟨rfl, h⟩ := h
  exact ⟨_, h, by simp [Sh.many], by simp [Sh.fill, dk]⟩
 | .sl _ _ _, x, K, h => by simp [Sh.fit] at h
 | .ts eb e, x, K, h => by
  cases x <;> simp only [Sh.fit, reduceCtorEq, Option.ite_none_right_eq_some] at h
  obtain ⟨⟨rfl, rfl⟩, h⟩ := h
  exact ⟨_, h, by simp [Sh.many], by simp [Sh.fill, dk, C.elems]⟩
 | .sr k q cp eb e, x, K, h => by
  cases x <;> simp only [Sh.fit, reduceCtorEq, Option.ite_none_right_eq_some] at h
  obtain ⟨⟨rfl, rfl, rfl, rfl⟩, h⟩ := h
  split at h
  ·exact ⟨_, h, by simp [Sh.many], by simp [Sh.fill, dk, C.toInt]⟩
  ·exact ⟨_, h, by simp [Sh.many], by simp [Sh.fill, dk, C.toInt]⟩
  ·cases h
 | .cptr τ, x, K, h => by
  cases x <;> simp only [Sh.fit, reduceCtorEq, Option.ite_none_right_eq_some] at h
  obtain ⟨rfl, h⟩ := h
  exact ⟨_, h, by simp [Sh.many], by simp [Sh.fill, dk]⟩
 | .arr e, x, K, h => by
  simp only [Sh.fit] at h
  split at h
  ·simp only [Option.ite_none_right_eq_some] at h
   obtain ⟨rfl, h1, h⟩ := h
   subst h1
   exact ⟨_, h, by simp [Sh.many], by simp [Sh.fill, dk]⟩
  ·cases h
 | .agg τ l, x, K, h => by
  cases x <;> simp only [Sh.fit, reduceCtorEq, Option.ite_none_right_eq_some] at h
  obtain ⟨rfl, h⟩ := h
  obtain ⟨ds, h1, h2, h3⟩ := Sh.z4C l _ h
  exact ⟨ds, h1, by simpa only [Sh.many] using h2, by simp only [Sh.fill]; rw [h3]⟩
 | .as v, x, K, h => by
  simp only [Sh.fit, Option.ite_none_right_eq_some] at h
  obtain ⟨h1, h⟩ := h
  have := V.z0T _ _ h1
  subst this
  exact ⟨_, h, by simp [Sh.many], by simp only [Sh.fill]⟩
 | .vec k eb e, x, K, h => by
  cases x <;> simp only [Sh.fit, reduceCtorEq, Option.ite_none_right_eq_some] at h
  obtain ⟨⟨rfl, rfl, rfl, hc, rfl, rfl⟩, h⟩ := h
  rename_i cp _ _
  cases cp with
  | some c => cases hc
  | none => exact ⟨_, h, by simp [Sh.many], by simp [Sh.fill, dk, C.toInt]⟩
 | .fnc f l, x, K, h => by
  cases x <;> simp only [Sh.fit, reduceCtorEq, Option.ite_none_right_eq_some] at h
  obtain ⟨rfl, h⟩ := h
  obtain ⟨ds, h1, h2, h3⟩ := q7i l _ h
  exact ⟨ds, h1, by simpa only [Sh.many] using h2, by simp only [Sh.fill, h3]⟩
theorem Sh.z4C {R : Type} {r : R} : ∀ (l : List Sh) (xs : List V) {K : List C → Option R}, Sh.fits l xs K = some r → ∃ ds, K ds = some r ∧ ds.length = Sh.q0x l ∧ Sh.X7 l 0 ds = xs
 | [], xs, K, h => by
  cases xs <;> simp only [Sh.fits, reduceCtorEq] at h
  exact ⟨_, h, by simp [Sh.q0x], by simp [Sh.X7]⟩
 | s :: l, [], K, h => by simp [Sh.fits] at h
 | s :: l, x :: xs, K, h => by
  simp only [Sh.fits] at h
  obtain ⟨d1, h1, h2, h3⟩ := Sh.y2u s x h
  obtain ⟨d2, h5, h6, h7⟩ := Sh.z4C l xs h1
  refine ⟨_, h5, by simp [Sh.q0x, h2, h6], ?_⟩
  have e1 : s.fill 0 (d1 ++ d2) = s.fill 0 d1 := Sh.q2G s 0 0 _ _ fun j hj => F7 (by omega)
  have e2 : Sh.X7 l s.many (d1 ++ d2) = Sh.X7 l 0 d2 := Sh.q5m l _ 0 _ _ fun j hj => by
   rw [q0N (by omega), h2]
   congr 1; omega
  simp only [Sh.X7, Nat.zero_add, e1, e2]
  rw [h3, h7]
end
def q5l {R : Type} (A : Key → Option O) : List (Key × OSh) → (List C → List Es → Option R) → Option R
 | [], K => K [] []
 | (k, .box sh) :: l, K => (match A k with
  | some (.box x) => sh.fit x fun d1 => q5l A l fun d2 m2 => K (d1 ++ d2) m2
  | _ => none)
 | (k, .map kτ vτ) :: l, K => (match A k with
  | some (.map kτ' vτ' es) => if kτ' = kτ ∧ vτ' = vτ then (if z8L vτ es = true then q5l A l fun d2 m2 => K d2 (unE es :: m2) else none) else none
  | _ => none)
 | _ :: _, _ => none
theorem z0r {R : Type} {r : R} {A : Key → Option O} : ∀ (l : List (Key × OSh)) {K : List C → List Es → Option R}, q5l A l K = some r →
  ∃ ds ms, K ds ms = some r ∧ ds.length = U2 l ∧ ∀ k o, z6 (w7 l 0 0 ds ms) k = some o → A k = some o
 | [], K, h => ⟨[], [], h, rfl, fun k o h => by simp [w7, z6] at h⟩
 | (j, .box sh) :: l, K, h => by
  simp only [q5l] at h
  split at h
  ·rename_i x hx
   obtain ⟨d1, h1, h2, h3⟩ := Sh.y2u sh x h
   obtain ⟨d2, ms, h4, h5, h6⟩ := z0r l h1
   refine ⟨_, ms, h4, by simp [U2, h2, h5], fun k o hk => ?_⟩
   have e1 : sh.fill 0 (d1 ++ d2) = sh.fill 0 d1 := Sh.q2G sh 0 0 _ _ fun j hj => F7 (by omega)
   have e2 : w7 l sh.many 0 (d1 ++ d2) ms = w7 l 0 0 d2 ms := J2 l _ 0 0 _ _ _ fun j hj => by
    rw [q0N (by omega), h2]
    congr 1; omega
   simp only [w7, Nat.zero_add, e1, e2, h3, z6] at hk
   split at hk
   ·rename_i e; subst e; cases hk; exact hx
   ·exact h6 k o hk
  ·cases h
 | (j, .map kτ vτ) :: l, K, h => by
  simp only [q5l] at h
  split at h
  ·rename_i kτ' vτ' es hx
   simp only [Option.ite_none_right_eq_some] at h
   obtain ⟨⟨rfl, rfl⟩, hd, h⟩ := h
   obtain ⟨d2, ms, h4, h5, h6⟩ := z0r l h
   refine ⟨_, _, h4, by simp [U2, h5], fun k o hk => ?_⟩
   simp only [w7, q2z, z6] at hk
   split at hk
   ·rename_i e; subst e; cases hk
    rw [show dm (unE es :: ms) 0 = unE es from rfl, z8w hd]; exact hx
   ·exact h6 k o hk
  ·cases h
 | (_, .dead _) :: l, K, h => by simp [q5l] at h
 | (_, .it) :: l, K, h => by simp [q5l] at h
mutual
def Sh.unP : Sh → V → List (Key × Key)
 | .as (.ptr (.g a) _ _), .ptr (.g b) _ _ => [(a, b)]
 | .as (.mp (.g a)), .mp (.g b) => [(a, b)]
 | .sr (.g a) _ _ _ _, .sr (.g b) _ _ _ _ _ _ => [(a, b)]
 | .vec (.g a) _ _, .sr (.g b) _ _ _ _ _ _ => [(a, b)]
 | .agg _ l, .agg _ xs => Sh.y0d l xs
 | _, _ => []
def Sh.y0d : List Sh → List V → List (Key × Key)
 | s :: l, x :: xs => s.unP x ++ Sh.y0d l xs
 | _, _ => []
end
def y4I : List (Key × Key) → Key → Key
 | [], k => k
 | (a, b) :: l, k => y4I l (q3i a b k)
def y0g (objs : List (Key × OSh)) (A : Key → Option O) : Nat → List (Key × Key) → List (Key × Key) → List Key → List (Key × Key)
 | 0, _, sw, _ => sw
 | _, [], sw, _ => sw
 | f + 1, (a, b) :: todo, sw, seen => if y0K a seen = true then y0g objs A f todo sw seen else
   (match y4I sw b with
   | b' => y0g objs A f ((match y0L objs a, A b with
     | some (.box sh), some (.box x) => sh.unP x
     | _, _ => []) ++ todo) (if a = b' then sw else sw ++ [(a, b')]) (a :: seen))
def y3d : List (Key × Key) → List V → List V
 | [], xs => xs
 | (a, b) :: l, xs => y3d l (xs.map (W9 a b))
def swA : List (Key × Key) → (Key → Option O) → Key → Option O
 | [], A => A
 | (a, b) :: l, A => swA l (q09 a b A)
def y29 : List (Key × Key) → V → V
 | [], x => x
 | (a, b) :: l, x => W9 a b (y29 l x)
def y3a : List (Key × Key) → List (Key × O) → List (Key × O)
 | [], x => x
 | (a, b) :: l, x => z0X a b (y3a l x)
theorem r9.sws {X : Cx} {f : FuncId} : ∀ (sw : List (Key × Key)) {xs : List V} {A : Key → Option O} {v : V} {L : List (Key × O)}, r9 X f (y3d sw xs) (swA sw A) v L → r9 X f xs A (y29 sw v) (y3a sw L)
 | [], xs, A, v, L, h => h
 | (a, b) :: l, xs, A, v, L, h => by
  have h1 := (r9.sws l h).swap a b
  have hxs : (xs.map (W9 a b)).map (W9 a b) = xs := by
   rw [List.map_map]
   exact (List.map_congr_left (g := id) fun x _ => q9S a b x).trans (List.map_id _)
  rw [hxs, z81] at h1
  exact h1
def q8w (args : List Sh) (objs : List (Key × OSh)) {R : Type} (p : List C → List Es → (V → List (Key × O) → Option R) → Option R) : OvG R := fun xs A K =>
 match y0g objs A 1000 (Sh.y0d args xs) [] [] with
 | sw => Sh.fits args (y3d sw xs) fun d1 => q5l (swA sw A) objs fun d2 ms => p (d1 ++ d2) ms fun v L => K (y29 sw v) (y3a sw L)
theorem q4q {X : Cx} {f : FuncId} {args : List Sh} {objs : List (Key × OSh)} {R : Type} {p : List C → List Es → (V → List (Key × O) → Option R) → Option R}
  (hp : ∀ ds ms (K : V → List (Key × O) → Option R) r, p ds ms K = some r → ∃ v L, r9 X f (Sh.X7 args 0 ds) (z6 (w7 objs (Sh.q0x args) 0 ds ms)) v L ∧ K v L = some r) : GOk X f (q8w args objs p) := by
 intro xs A Kr r hr
 unfold q8w at hr
 dsimp only at hr
 generalize y0g objs A 1000 (Sh.y0d args xs) [] [] = sw at hr
 obtain ⟨d1, h1, h2, h3⟩ := Sh.z4C args _ hr
 obtain ⟨d2, ms, h4, h5, h6⟩ := z0r objs h1
 obtain ⟨v, L, h7, h8⟩ := hp _ _ _ _ h4
 refine ⟨_, _, r9.sws sw (v := v) (L := L) ?_, h8⟩
 have e1 : Sh.X7 args 0 (d1 ++ d2) = Sh.X7 args 0 d1 := Sh.q5m args 0 0 _ _ fun j hj => F7 (by omega)
 have e2 : w7 objs (Sh.q0x args) 0 (d1 ++ d2) ms = w7 objs 0 0 d2 ms := J2 objs _ 0 0 _ _ _ fun j hj => by
  rw [q0N (by omega), h2]
  congr 1; omega
 rw [e1, h3, e2] at h7
 exact h7.mono h6
def z1b : List (Nat × (List V → Option V)) → q1R
 | [], _ => none
 | (i, g) :: l, f => bif Nat.beq f i then some g else z1b l f
def q5A (X : Cx) : List (Nat × (List V → Option V)) → Prop
 | [] => True
 | p :: l => (∀ xs v, p.2 xs = some v → q7l X p.1 xs v) ∧ q5A X l
theorem z3C {X : Cx} : ∀ {l : List (Nat × (List V → Option V))}, q5A X l → q4f X (z1b l)
 | [], _ => fun f g xs v h _ => by cases h
 | (i, g0) :: l, h => fun f g xs v hf hv => by
  simp only [z1b] at hf
  cases hb : Nat.beq f i with
  | true =>
   rw [hb, cond_true] at hf
   cases hf
   obtain rfl := Nat.eq_of_beq_eq_true hb
   exact h.1 xs v hv
  | false =>
   rw [hb, cond_false] at hf
   exact z3C h.2 f g xs v hf hv
theorem q5A.append {X : Cx} : ∀ {l m : List (Nat × (List V → Option V))}, q5A X l → q5A X m → q5A X (l ++ m)
 | [], _, _, h => h
 | _ :: _, _, h, h' => ⟨h.1, h.2.append h'⟩
@[go_sem] theorem q2i {a0 : C} {l : List C} : dk (a0 :: l) 0 = a0 := rfl
@[go_sem] theorem q5O {a0 a1 : C} {l : List C} : dk (a0 :: a1 :: l) 1 = a1 := rfl
@[go_sem] theorem q8W {a0 a1 a2 : C} {l : List C} : dk (a0 :: a1 :: a2 :: l) 2 = a2 := rfl
@[go_sem] theorem z8o {a0 a1 a2 a3 : C} {l : List C} : dk (a0 :: a1 :: a2 :: a3 :: l) 3 = a3 := rfl
@[go_sem] theorem y8M {a0 a1 a2 a3 a4 : C} {l : List C} : dk (a0 :: a1 :: a2 :: a3 :: a4 :: l) 4 = a4 := rfl
@[go_sem] theorem y8L {a0 a1 a2 a3 a4 a5 : C} {l : List C} : dk (a0 :: a1 :: a2 :: a3 :: a4 :: a5 :: l) 5 = a5 := rfl
@[go_sem] theorem y8K {a0 a1 a2 a3 a4 a5 a6 : C} {l : List C} : dk (a0 :: a1 :: a2 :: a3 :: a4 :: a5 :: a6 :: l) 6 = a6 := rfl
@[go_sem] theorem y8J {a0 a1 a2 a3 a4 a5 a6 a7 : C} {l : List C} : dk (a0 :: a1 :: a2 :: a3 :: a4 :: a5 :: a6 :: a7 :: l) 7 = a7 := rfl
@[go_sem] theorem y8I {a0 a1 a2 a3 a4 a5 a6 a7 a8 : C} {l : List C} : dk (a0 :: a1 :: a2 :: a3 :: a4 :: a5 :: a6 :: a7 :: a8 :: l) 8 = a8 := rfl
@[go_sem] theorem y8H {a0 a1 a2 a3 a4 a5 a6 a7 a8 a9 : C} {l : List C} : dk (a0 :: a1 :: a2 :: a3 :: a4 :: a5 :: a6 :: a7 :: a8 :: a9 :: l) 9 = a9 := rfl
@[go_sem] theorem y8v {a0 a1 a2 a3 a4 a5 a6 a7 a8 a9 a10 : C} {l : List C} : dk (a0 :: a1 :: a2 :: a3 :: a4 :: a5 :: a6 :: a7 :: a8 :: a9 :: a10 :: l) 10 = a10 := rfl
@[go_sem] theorem y8u {a0 a1 a2 a3 a4 a5 a6 a7 a8 a9 a10 a11 : C} {l : List C} : dk (a0 :: a1 :: a2 :: a3 :: a4 :: a5 :: a6 :: a7 :: a8 :: a9 :: a10 :: a11 :: l) 11 = a11 := rfl
@[go_sem] theorem y8t {a0 a1 a2 a3 a4 a5 a6 a7 a8 a9 a10 a11 a12 : C} {l : List C} : dk (a0 :: a1 :: a2 :: a3 :: a4 :: a5 :: a6 :: a7 :: a8 :: a9 :: a10 :: a11 :: a12 :: l) 12 = a12 := rfl
@[go_sem] theorem y8s {a0 a1 a2 a3 a4 a5 a6 a7 a8 a9 a10 a11 a12 a13 : C} {l : List C} : dk (a0 :: a1 :: a2 :: a3 :: a4 :: a5 :: a6 :: a7 :: a8 :: a9 :: a10 :: a11 :: a12 :: a13 :: l) 13 = a13 := rfl
@[go_sem] theorem y8r {a0 a1 a2 a3 a4 a5 a6 a7 a8 a9 a10 a11 a12 a13 a14 : C} {l : List C} : dk (a0 :: a1 :: a2 :: a3 :: a4 :: a5 :: a6 :: a7 :: a8 :: a9 :: a10 :: a11 :: a12 :: a13 :: a14 :: l) 14 = a14 := rfl
@[go_sem] theorem y8q {a0 a1 a2 a3 a4 a5 a6 a7 a8 a9 a10 a11 a12 a13 a14 a15 : C} {l : List C} : dk (a0 :: a1 :: a2 :: a3 :: a4 :: a5 :: a6 :: a7 :: a8 :: a9 :: a10 :: a11 :: a12 :: a13 :: a14 :: a15 :: l) 15 = a15 := rfl
@[go_sem] theorem y8p {a0 a1 a2 a3 a4 a5 a6 a7 a8 a9 a10 a11 a12 a13 a14 a15 a16 : C} {l : List C} : dk (a0 :: a1 :: a2 :: a3 :: a4 :: a5 :: a6 :: a7 :: a8 :: a9 :: a10 :: a11 :: a12 :: a13 :: a14 :: a15 :: a16 :: l) 16 = a16 := rfl
@[go_sem] theorem y8o {a0 a1 a2 a3 a4 a5 a6 a7 a8 a9 a10 a11 a12 a13 a14 a15 a16 a17 : C} {l : List C} : dk (a0 :: a1 :: a2 :: a3 :: a4 :: a5 :: a6 :: a7 :: a8 :: a9 :: a10 :: a11 :: a12 :: a13 :: a14 :: a15 :: a16 :: a17 :: l) 17 = a17 := rfl
@[go_sem] theorem y8n {a0 a1 a2 a3 a4 a5 a6 a7 a8 a9 a10 a11 a12 a13 a14 a15 a16 a17 a18 : C} {l : List C} : dk (a0 :: a1 :: a2 :: a3 :: a4 :: a5 :: a6 :: a7 :: a8 :: a9 :: a10 :: a11 :: a12 :: a13 :: a14 :: a15 :: a16 :: a17 :: a18 :: l) 18 = a18 := rfl
@[go_sem] theorem y8m {a0 a1 a2 a3 a4 a5 a6 a7 a8 a9 a10 a11 a12 a13 a14 a15 a16 a17 a18 a19 : C} {l : List C} : dk (a0 :: a1 :: a2 :: a3 :: a4 :: a5 :: a6 :: a7 :: a8 :: a9 :: a10 :: a11 :: a12 :: a13 :: a14 :: a15 :: a16 :: a17 :: a18 :: a19 :: l) 19 = a19 := rfl
@[go_sem] theorem y8l {a0 a1 a2 a3 a4 a5 a6 a7 a8 a9 a10 a11 a12 a13 a14 a15 a16 a17 a18 a19 a20 : C} {l : List C} : dk (a0 :: a1 :: a2 :: a3 :: a4 :: a5 :: a6 :: a7 :: a8 :: a9 :: a10 :: a11 :: a12 :: a13 :: a14 :: a15 :: a16 :: a17 :: a18 :: a19 :: a20 :: l) 20 = a20 := rfl
@[go_sem] theorem y8k {a0 a1 a2 a3 a4 a5 a6 a7 a8 a9 a10 a11 a12 a13 a14 a15 a16 a17 a18 a19 a20 a21 : C} {l : List C} : dk (a0 :: a1 :: a2 :: a3 :: a4 :: a5 :: a6 :: a7 :: a8 :: a9 :: a10 :: a11 :: a12 :: a13 :: a14 :: a15 :: a16 :: a17 :: a18 :: a19 :: a20 :: a21 :: l) 21 = a21 := rfl
@[go_sem] theorem y8j {a0 a1 a2 a3 a4 a5 a6 a7 a8 a9 a10 a11 a12 a13 a14 a15 a16 a17 a18 a19 a20 a21 a22 : C} {l : List C} : dk (a0 :: a1 :: a2 :: a3 :: a4 :: a5 :: a6 :: a7 :: a8 :: a9 :: a10 :: a11 :: a12 :: a13 :: a14 :: a15 :: a16 :: a17 :: a18 :: a19 :: a20 :: a21 :: a22 :: l) 22 = a22 := rfl
@[go_sem] theorem y8i {a0 a1 a2 a3 a4 a5 a6 a7 a8 a9 a10 a11 a12 a13 a14 a15 a16 a17 a18 a19 a20 a21 a22 a23 : C} {l : List C} : dk (a0 :: a1 :: a2 :: a3 :: a4 :: a5 :: a6 :: a7 :: a8 :: a9 :: a10 :: a11 :: a12 :: a13 :: a14 :: a15 :: a16 :: a17 :: a18 :: a19 :: a20 :: a21 :: a22 :: a23 :: l) 23 = a23 := rfl
@[go_sem] theorem y8h {a0 a1 a2 a3 a4 a5 a6 a7 a8 a9 a10 a11 a12 a13 a14 a15 a16 a17 a18 a19 a20 a21 a22 a23 a24 : C} {l : List C} : dk (a0 :: a1 :: a2 :: a3 :: a4 :: a5 :: a6 :: a7 :: a8 :: a9 :: a10 :: a11 :: a12 :: a13 :: a14 :: a15 :: a16 :: a17 :: a18 :: a19 :: a20 :: a21 :: a22 :: a23 :: a24 :: l) 24 = a24 := rfl
@[go_sem] theorem y8g {a0 a1 a2 a3 a4 a5 a6 a7 a8 a9 a10 a11 a12 a13 a14 a15 a16 a17 a18 a19 a20 a21 a22 a23 a24 a25 : C} {l : List C} : dk (a0 :: a1 :: a2 :: a3 :: a4 :: a5 :: a6 :: a7 :: a8 :: a9 :: a10 :: a11 :: a12 :: a13 :: a14 :: a15 :: a16 :: a17 :: a18 :: a19 :: a20 :: a21 :: a22 :: a23 :: a24 :: a25 :: l) 25 = a25 := rfl
@[go_sem] theorem y7T {a0 : C} {l : List C} : C.get (.agg (a0 :: l)) 0 = a0 := rfl
@[go_sem] theorem y7S {a0 a1 : C} {l : List C} : C.get (.agg (a0 :: a1 :: l)) 1 = a1 := rfl
@[go_sem] theorem y7R {a0 a1 a2 : C} {l : List C} : C.get (.agg (a0 :: a1 :: a2 :: l)) 2 = a2 := rfl
@[go_sem] theorem y7Q {a0 a1 a2 a3 : C} {l : List C} : C.get (.agg (a0 :: a1 :: a2 :: a3 :: l)) 3 = a3 := rfl
@[go_sem] theorem y7P {a0 a1 a2 a3 a4 : C} {l : List C} : C.get (.agg (a0 :: a1 :: a2 :: a3 :: a4 :: l)) 4 = a4 := rfl
@[go_sem] theorem y7O {a0 a1 a2 a3 a4 a5 : C} {l : List C} : C.get (.agg (a0 :: a1 :: a2 :: a3 :: a4 :: a5 :: l)) 5 = a5 := rfl
@[go_sem] theorem y7N {a0 a1 a2 a3 a4 a5 a6 : C} {l : List C} : C.get (.agg (a0 :: a1 :: a2 :: a3 :: a4 :: a5 :: a6 :: l)) 6 = a6 := rfl
@[go_sem] theorem y7M {a0 a1 a2 a3 a4 a5 a6 a7 : C} {l : List C} : C.get (.agg (a0 :: a1 :: a2 :: a3 :: a4 :: a5 :: a6 :: a7 :: l)) 7 = a7 := rfl
@[go_sem] theorem y7L {a0 a1 a2 a3 a4 a5 a6 a7 a8 : C} {l : List C} : C.get (.agg (a0 :: a1 :: a2 :: a3 :: a4 :: a5 :: a6 :: a7 :: a8 :: l)) 8 = a8 := rfl
@[go_sem] theorem y7K {a0 a1 a2 a3 a4 a5 a6 a7 a8 a9 : C} {l : List C} : C.get (.agg (a0 :: a1 :: a2 :: a3 :: a4 :: a5 :: a6 :: a7 :: a8 :: a9 :: l)) 9 = a9 := rfl
@[go_sem] theorem y7u {a0 a1 a2 a3 a4 a5 a6 a7 a8 a9 a10 : C} {l : List C} : C.get (.agg (a0 :: a1 :: a2 :: a3 :: a4 :: a5 :: a6 :: a7 :: a8 :: a9 :: a10 :: l)) 10 = a10 := rfl
@[go_sem] theorem y7t {a0 a1 a2 a3 a4 a5 a6 a7 a8 a9 a10 a11 : C} {l : List C} : C.get (.agg (a0 :: a1 :: a2 :: a3 :: a4 :: a5 :: a6 :: a7 :: a8 :: a9 :: a10 :: a11 :: l)) 11 = a11 := rfl
@[go_sem] theorem y7s {a0 a1 a2 a3 a4 a5 a6 a7 a8 a9 a10 a11 a12 : C} {l : List C} : C.get (.agg (a0 :: a1 :: a2 :: a3 :: a4 :: a5 :: a6 :: a7 :: a8 :: a9 :: a10 :: a11 :: a12 :: l)) 12 = a12 := rfl
@[go_sem] theorem y7r {a0 a1 a2 a3 a4 a5 a6 a7 a8 a9 a10 a11 a12 a13 : C} {l : List C} : C.get (.agg (a0 :: a1 :: a2 :: a3 :: a4 :: a5 :: a6 :: a7 :: a8 :: a9 :: a10 :: a11 :: a12 :: a13 :: l)) 13 = a13 := rfl
@[go_sem] theorem y7q {a0 a1 a2 a3 a4 a5 a6 a7 a8 a9 a10 a11 a12 a13 a14 : C} {l : List C} : C.get (.agg (a0 :: a1 :: a2 :: a3 :: a4 :: a5 :: a6 :: a7 :: a8 :: a9 :: a10 :: a11 :: a12 :: a13 :: a14 :: l)) 14 = a14 := rfl
@[go_sem] theorem y7p {a0 a1 a2 a3 a4 a5 a6 a7 a8 a9 a10 a11 a12 a13 a14 a15 : C} {l : List C} : C.get (.agg (a0 :: a1 :: a2 :: a3 :: a4 :: a5 :: a6 :: a7 :: a8 :: a9 :: a10 :: a11 :: a12 :: a13 :: a14 :: a15 :: l)) 15 = a15 := rfl
@[go_sem] theorem y7H {a0 b : C} {l : List C} : C.set (.agg (a0 :: l)) 0 b = .agg (b :: l) := rfl
@[go_sem] theorem y7G {a0 a1 b : C} {l : List C} : C.set (.agg (a0 :: a1 :: l)) 1 b = .agg (a0 :: b :: l) := rfl
@[go_sem] theorem y7F {a0 a1 a2 b : C} {l : List C} : C.set (.agg (a0 :: a1 :: a2 :: l)) 2 b = .agg (a0 :: a1 :: b :: l) := rfl
@[go_sem] theorem y7E {a0 a1 a2 a3 b : C} {l : List C} : C.set (.agg (a0 :: a1 :: a2 :: a3 :: l)) 3 b = .agg (a0 :: a1 :: a2 :: b :: l) := rfl
@[go_sem] theorem y7D {a0 a1 a2 a3 a4 b : C} {l : List C} : C.set (.agg (a0 :: a1 :: a2 :: a3 :: a4 :: l)) 4 b = .agg (a0 :: a1 :: a2 :: a3 :: b :: l) := rfl
@[go_sem] theorem y7C {a0 a1 a2 a3 a4 a5 b : C} {l : List C} : C.set (.agg (a0 :: a1 :: a2 :: a3 :: a4 :: a5 :: l)) 5 b = .agg (a0 :: a1 :: a2 :: a3 :: a4 :: b :: l) := rfl
@[go_sem] theorem y7B {a0 a1 a2 a3 a4 a5 a6 b : C} {l : List C} : C.set (.agg (a0 :: a1 :: a2 :: a3 :: a4 :: a5 :: a6 :: l)) 6 b = .agg (a0 :: a1 :: a2 :: a3 :: a4 :: a5 :: b :: l) := rfl
@[go_sem] theorem y7A {a0 a1 a2 a3 a4 a5 a6 a7 b : C} {l : List C} : C.set (.agg (a0 :: a1 :: a2 :: a3 :: a4 :: a5 :: a6 :: a7 :: l)) 7 b = .agg (a0 :: a1 :: a2 :: a3 :: a4 :: a5 :: a6 :: b :: l) := rfl
attribute [go_sem] Y2 Nat.beq_refl Bool.and_true Bool.true_and Bool.not_true Bool.not_false beq_self_eq_true Int.toNat_natCast decide_true decide_false Bool.cond_decide Int.toNat_zero Int.toNat_one
attribute [go_sem 500] Int.ofNat_eq_natCast
attribute [go_sem] Int.cast_ofNat_Int
@[go_sem] theorem y7I (n : Nat) : Int.ofNat (@OfNat.ofNat Nat n (instOfNatNat n)) = @OfNat.ofNat Int n instOfNat := rfl
@[go_sem] theorem y66 (n : Nat) : ((@OfNat.ofNat Nat n (instOfNatNat n) : Nat) : Int) = @OfNat.ofNat Int n instOfNat := rfl
@[go_sem] theorem y7J (a b : Bool) : y3K (.bool a) b = .bool b := rfl
theorem q69 {R : Type} {ι : Type} {F : KD R → List C → List Es → Option R} (st : ι → List C) (sm : ι → List Es) (μ : ι → Nat) (P : ι → Prop) (spec : ι → Option R)
  (h : ∀ i, P i → ∀ rec : KD R, (∀ j, P j → μ j < μ i → rec (st j) (sm j) = spec j) → F rec (st i) (sm i) = spec i) : ∀ (N : Nat) (i : ι), P i → μ i < N → U4 N F (st i) (sm i) = spec i
 | 0, _, _, h2 => absurd h2 (Nat.not_lt_zero _)
 | N + 1, i, h1, h2 => by
  rw [q1b]
  exact h i h1 _ fun j hj hlt => q69 st sm μ P spec h N j hj (by omega)
theorem z88 {R : Type} {F : KD R → List C → List Es → Option R} (st : Nat → List C) (sm : Nat → List Es) (m : Nat) (r : Option R) (step : ∀ i, i < m → ∀ rec : KD R, F rec (st i) (sm i) = rec (st (i + 1)) (sm (i + 1))) (stop : ∀ rec : KD R, F rec (st m) (sm m) = r) {N : Nat} (hN : m < N) :
  U4 N F (st 0) (sm 0) = r := by
 refine q69 (F := F) st sm (fun i => m - i) (fun i => i ≤ m) (fun _ => r) (fun i hi rec hrec => ?_) N 0 (Nat.zero_le _) (by omega)
 by_cases e : i = m
 ·subst e; exact stop rec
 ·rw [step i (by omega) rec]
  exact hrec (i + 1) (by omega) (by omega)
theorem y2L {X : Cx} {f : FuncId} {ts : List Ty} {cs : List C} {A : Key → Option O} {v : V} {L : List (Key × O)} (h : (∀ (i : Nat) (t : Ty) (c : C), ts[i]? = some t → cs[i]? = some c → C.wf t c) → r9 X f (List.zipWith V.d ts cs) A v L) : r9 X f (List.zipWith V.d ts cs) A v L := by
 intro A' Γ w args hA hg hc hn hr
 refine h (fun i t c ht hcs => ?_) A' Γ w args hA hg hc hn hr
 have hx : (List.zipWith V.d ts cs)[i]? = some (.d t c) := by simp [List.getElem?_zipWith, ht, hcs]
 have hs : (X2 1000 (List.zipWith V.d ts cs))[i]? = some (.d t c) := by rw [q44, hx]; rfl
 have hl : i < args.size := by rw [← hn]; exact (List.getElem?_eq_some_iff.1 hx).1
 exact (hr i _ _ hs (Array.getElem?_eq_getElem hl)).wf
theorem y3T {w : World} {gl gl' : Nat → Option (Ty × C)} (h : z4W w gl) (hs : ∀ g x, gl' g = some x → gl g = some x) : z4W w gl' := fun g τ c hg => h g τ c (hs g (τ, c) hg)
theorem y6u {X : Cx} {f : FuncId} {g : OvG (V × List (Key × O))} (h : GOk X f g) {xs : List V} {A : Key → Option O} {v : V} {L : List (Key × O)} (hr : g xs A kR = some (v, L)) : r9 X f xs A v L := by
 obtain ⟨v', L', h1, h2⟩ := h xs A kR (v, L) hr
 simp only [kR, Option.some.injEq, Prod.mk.injEq] at h2
 obtain ⟨rfl, rfl⟩ := h2
 exact h1
def q1f {α σ ε : Type} (f : Nat → σ → α → σ ⊕ ε) : Nat → σ → List α → σ ⊕ ε
 | _, s, [] => .inl s
 | i, s, c :: l => match f i s c with
  | .inl s' => q1f f (i + 1) s' l
  | .inr e => .inr e
def y37 {R σ ε : Type} (fin : σ → Option R) (err : ε → Option R) : σ ⊕ ε → Option R
 | .inl s => fin s
 | .inr e => err e
theorem z5l {α R σ ε : Type} {F : KD R → List C → List Es → Option R} (st : Nat → σ → List C) (sm : Nat → σ → List Es) (l : List α) (f : Nat → σ → α → σ ⊕ ε) (fin : σ → Option R) (err : ε → Option R) (P : Nat → σ → Prop) {s0 : σ} {N : Nat}
  (h0 : P 0 s0) (step : ∀ i s c, l[i]? = some c → P i s → (∀ rec : KD R, F rec (st i s) (sm i s) = match f i s c with
   | .inl s' => rec (st (i + 1) s') (sm (i + 1) s')
   | .inr e => err e) ∧ (∀ s', f i s c = .inl s' → P (i + 1) s'))
  (stop : ∀ s, P l.length s → ∀ rec : KD R, F rec (st l.length s) (sm l.length s) = fin s) (hN : l.length < N) :
  U4 N F (st 0 s0) (sm 0 s0) = y37 fin err (q1f f 0 s0 l) := by
 have key := q69 (R := R) (ι := Nat × σ) (F := F) (fun x => st x.1 x.2) (fun x => sm x.1 x.2) (fun x => l.length - x.1) (fun x => x.1 ≤ l.length ∧ P x.1 x.2) (fun x => y37 fin err (q1f f x.1 x.2 (l.drop x.1)))
  (fun x hx rec hrec => ?_) N (0, s0) ⟨Nat.zero_le _, h0⟩ (by show l.length - 0 < N; omega)
 ·simpa using key
 ·obtain ⟨i, s⟩ := x
  obtain ⟨h1, h2⟩ := hx
  dsimp only at h1 h2 hrec ⊢
  by_cases h : i = l.length
  ·subst h
   rw [stop s h2, List.drop_length]
   rfl
  ·have hi : i < l.length := by omega
   obtain ⟨h3, h4⟩ := step i s l[i] (List.getElem?_eq_getElem hi) h2
   rw [h3, List.drop_eq_getElem_cons hi]
   simp only [q1f]
   cases hf : f i s l[i] with
   | inl s' => exact hrec (i + 1, s') ⟨hi, h4 s' hf⟩ (by dsimp only; omega)
   | inr e => rfl
theorem q6W {i : Nat} (h : i < 4611686018427387904) : IntKind.i64.wrap ((i : Int) + 1) = ((i + 1 : Nat) : Int) := by rw [IntWalk.i64_in _ (by omega)]; omega
open Go Go.ChangeShapes Go.WideShapes Go.RowKit
def z3u (P : Program) : List (String × DataW Unit) → Nat → Option (Ty × C)
 | [], _ => none
 | (n, d) :: r, g => if P.globalNamed n = some g then (match (P.globals[g]?).map (·.type) with
  | some t => (match d with
   | .iface _ _ => some (.iface, .bool true)
   | d => some (ty P t, cOf d))
  | none => none) else z3u P r g
def z2m (P : Program) (t : TypeId) : Bool := match P.underlying t with
 | some (.interface _) => true
 | _ => false
def z05 (P : Program) (l : List (String × DataW Unit)) : Bool := l.all fun x => match P.globalNamed x.1 with
 | some g => match (P.globals[g]?).map (·.type) with
  | some t => (match x.2 with
   | .iface _ _ => z2m P t
   | d => decide (t < P.types.size) && (ty P t).dat && (d.weights P t).all (· ≤ reachBytes))
  | none => false
 | none => false
theorem iface_of_trod {P : Program} {w : World} {b : Nat} {sp : Nat → Bool} {fuel : Nat} {t : TypeId} {cs : List Value} {s : String} {d : DataW Unit} {p : List MemPlace} (hu : z2m P t = true)
  (h : DataW.trod (fun _ => ()) P w b sp false fuel t cs = some (.iface s d, p)) : ∃ u v, cs = [.iface u v] := by
 unfold z2m at hu
 split at hu
 ·rename_i ms hu'
  cases fuel with
  | zero => simp [DataW.trod] at h
  | succ fuel =>
   unfold DataW.trod at h
   rw [hu'] at h
   split at h <;> simp_all
 ·cases hu
theorem z3t {P : Program} (hP : x5 P = true) {w : World} : ∀ {l : List (String × DataW Unit)} {ps : List MemPlace}, z05 P l = true → DataW.LaidVars P w l ps → z4W w (z3u P l)
 | [], _, _, _ => fun g τ c h => by simp [z3u] at h
 | (n, d) :: r, ps, hk, h => by
  obtain ⟨g0, t, cs, fuel, p, q, hg, ht, hv, hd, hr, _⟩ := h
  simp only [z05, List.all_cons, Bool.and_eq_true, hg, ht] at hk
  obtain ⟨k1, k4⟩ := hk
  intro g τ c h
  simp only [z3u] at h
  split at h
  ·rename_i e
   rw [hg] at e; cases e
   rw [ht] at h
   simp only [World.var?, hg, Option.bind_some] at hv
   split at hv
   ·rename_i cc T fr hc
    cases hv
    cases hdd : d with
    | iface s d' =>
     subst hdd
     simp only at h k1
     cases h
     obtain ⟨u, v, e⟩ := iface_of_trod k1 hd
     refine ⟨cs.toList, by simp [q32, hc], by rw [e]; exact Nat.le_refl _, ?_⟩
     rw [e]
     exact .inr ⟨rfl, u, v, rfl⟩
    | _ =>
     subst hdd
     simp only [Bool.and_eq_true, decide_eq_true_eq] at h k1
     cases h
     obtain ⟨⟨k1, k2⟩, k3⟩ := k1
     have hrep := q3a hP (fun _ => rfl) fuel 12 k1 k2 hd k3
     have hl := hrep.length
     refine ⟨cs.toList, by simp [q32, hc], by show (tyF P 12 t).size ≤ _; omega, ?_⟩
     have : chunk cs.toList 0 (ty P t).size = cs.toList := by
      show chunk cs.toList 0 (tyF P 12 t).size = _
      rw [← hl]; exact q3A _
     rw [this]
     exact hrep
   ·cases hv
  ·exact z3t hP k4 hr g τ c h
theorem y2q {P : Program} (hP : x5 P = true) {w : World} {l : List (String × DataW Unit)} (hk : z05 P l = true) (hn : (l.all fun x => x.2.handleName?.isNone) = true) (h : laidMetH P l w) : z4W w (z3u P l) := by
 rw [MakeChecks.laidMetH_plain _ _ _ hn] at h
 obtain ⟨ps, h1, _⟩ := h
 exact z3t hP hk h1
def J3 : Ty := .struct 3 [0, 1, 2] [(.slice 8 (.int .u64)), (.slice 1 .bool), (.int .u64)]
@[go_sem] theorem y6e : J3.known = true := rfl
@[go_sem] theorem y4F : J3.H9 = true := rfl
@[go_sem] theorem y6f : J3.isAgg = true := rfl
@[go_sem] theorem y6R : J3.size = 3 := rfl
@[go_sem] theorem y50 : J3.q1T = [(.slice 8 (.int .u64)), (.slice 1 .bool), (.int .u64)] := rfl
@[go_sem] theorem y6S : J3.kids = 3 := rfl
@[go_sem] theorem y6W : J3.J0 = true := by kernel_rfl
@[go_sem] theorem y6V : J3.get 0 = (.slice 8 (.int .u64)) := rfl
@[go_sem] theorem y53 : J3.child 0 = some (0, (.slice 8 (.int .u64))) := rfl
@[go_sem] theorem y6U : J3.get 1 = (.slice 1 .bool) := rfl
@[go_sem] theorem y52 : J3.child 1 = some (1, (.slice 1 .bool)) := rfl
@[go_sem] theorem y6T : J3.get 2 = (.int .u64) := rfl
@[go_sem] theorem y51 : J3.child 2 = some (2, (.int .u64)) := rfl
@[go_sem] theorem y6d : Y1 J3 = .agg [(.slice []), (.slice []), (.int 0)] := rfl
@[go_sem] theorem y6Q : k8 J3 = .agg J3 [k8 (.slice 8 (.int .u64)), k8 (.slice 1 .bool), k8 (.int .u64)] := rfl
def F5 : Ty := .struct 3 [0, 1, 2] [.str, (.int .i64), (.int .i64)]
@[go_sem] theorem y64 : F5.known = true := rfl
@[go_sem] theorem y47 : F5.H9 = true := rfl
@[go_sem] theorem y65 : F5.isAgg = true := rfl
@[go_sem] theorem y7e : F5.size = 3 := rfl
@[go_sem] theorem y6j : F5.q1T = [.str, (.int .i64), (.int .i64)] := rfl
@[go_sem] theorem y7f : F5.kids = 3 := rfl
@[go_sem] theorem y7j : F5.J0 = true := by kernel_rfl
@[go_sem] theorem y7i : F5.get 0 = .str := rfl
@[go_sem] theorem y6m : F5.child 0 = some (0, .str) := rfl
@[go_sem] theorem y7h : F5.get 1 = (.int .i64) := rfl
@[go_sem] theorem y6l : F5.child 1 = some (1, (.int .i64)) := rfl
@[go_sem] theorem y7g : F5.get 2 = (.int .i64) := rfl
@[go_sem] theorem y6k : F5.child 2 = some (2, (.int .i64)) := rfl
@[go_sem] theorem y63 : Y1 F5 = .agg [(.str []), (.int 0), (.int 0)] := rfl
@[go_sem] theorem y7d : k8 F5 = .d F5 (Y1 F5) := rfl
def j4 : Ty := .struct 2 [0, 1] [(.slice 8 (.int .u64)), (.int .i64)]
@[go_sem] theorem y6h : j4.known = true := rfl
@[go_sem] theorem y4G : j4.H9 = true := rfl
@[go_sem] theorem y6i : j4.isAgg = true := rfl
@[go_sem] theorem y6Y : j4.size = 2 := rfl
@[go_sem] theorem y54 : j4.q1T = [(.slice 8 (.int .u64)), (.int .i64)] := rfl
@[go_sem] theorem y6Z : j4.kids = 2 := rfl
@[go_sem] theorem y62 : j4.J0 = true := by kernel_rfl
@[go_sem] theorem y61 : j4.get 0 = (.slice 8 (.int .u64)) := rfl
@[go_sem] theorem y56 : j4.child 0 = some (0, (.slice 8 (.int .u64))) := rfl
@[go_sem] theorem y60 : j4.get 1 = (.int .i64) := rfl
@[go_sem] theorem y55 : j4.child 1 = some (1, (.int .i64)) := rfl
@[go_sem] theorem y6g : Y1 j4 = .agg [(.slice []), (.int 0)] := rfl
@[go_sem] theorem y6X : k8 j4 = .agg j4 [k8 (.slice 8 (.int .u64)), k8 (.int .i64)] := rfl
end Go.E
