/-
 A framework for runs of Go code over abstract data: what it needs, and that it is sound, part 7.
 Conditions: none.
-/
import Derived.Test.YtefppgmopnnphaaDoorEf
import Derived.Lib.UnsafeStr
import Derived.Lib.Builder
import Derived.Lib.AppendStr
import Derived.WalkKit
set_option linter.all false
namespace Go.E
open Go
def q2J : List (Nat × Sh) → Nat
 | [] => 0
 | (_, s) :: l => s.many + q2J l
def q0m : List (Nat × Sh) → Nat → List C → List (Nat × V)
 | [], _, _ => []
 | (j, s) :: l, i, ds => (j, s.fill i ds) :: q0m l (i + s.many) ds
def q2o : List (Nat × Sh) → Nat → List C → List (Nat × Option Nat)
 | [], _, _ => []
 | (_, s) :: l, i, ds => (match s with
  | .sl _ _ t => (t, some (dk ds i).elems.length) :: q2o l (i + s.many) ds
  | _ => q2o l (i + s.many) ds)
def q0g : List (Key × OSh) → Nat
 | [] => 0
 | (_, .box s) :: l => s.many + q0g l
 | (_, .map _ _) :: l => q0g l
 | (_, .dead _) :: l => 1 + q0g l
 | (_, .it) :: l => 2 + q0g l
def dE (τ : Ty) (l : Es) : List (C × V) := l.map fun p => (p.1, .d τ p.2)
def isD (τ : Ty) : V → Bool
 | .d τ' _ => decide (τ' = τ)
 | _ => false
def unV : V → C
 | .d _ c => c
 | _ => .nil
def q2T (τ : Ty) : List (C × V) → Bool
 | [] => true
 | (_, v) :: es => isD τ v && q2T τ es
def unE (es : List (C × V)) : Es := es.map fun p => (p.1, unV p.2)
theorem y0Z {τ : Ty} : ∀ {es : List (C × V)}, q2T τ es = true → dE τ (unE es) = es
 | [], _ => rfl
 | (k, v) :: es, h => by
  simp only [q2T, Bool.and_eq_true] at h
  have := y0Z h.2
  simp only [dE, unE, List.map_cons, List.map_map] at this ⊢
  rw [this]
  cases v <;> simp only [isD, reduceCtorEq, decide_eq_true_eq] at h <;> first | exact h.1.elim | (rw [h.1]; rfl)
theorem q5E (τ : Ty) : ∀ (l : Es), q2T τ (dE τ l) = true
 | [] => rfl
 | (k, v) :: l => by
  have := q5E τ l
  simp only [dE, List.map_cons, q2T, isD, decide_true, Bool.true_and] at this ⊢
  exact this
theorem q8W (τ : Ty) (l : Es) : unE (dE τ l) = l := by
 induction l with
 | nil => rfl
 | cons p l ih => simp only [dE, unE, List.map_cons, unV] at ih ⊢; rw [ih]
theorem z7Z (τ : Ty) : ∀ m : Es, q0b τ (dE τ m) = true
 | [] => rfl
 | _ :: m => by
  have := z7Z τ m
  have h : Ty.beq τ τ = true := (Ty.beq_iff τ τ).2 rfl
  simp only [dE, List.map_cons, q0b, h, Bool.true_and] at this ⊢
  exact this
def s8 : List (Key × OSh) → Nat → Nat → List C → List Es → List (Key × O)
 | [], _, _, _, _ => []
 | (k, .box s) :: l, i, j, ds, ms => (k, .box (s.fill i ds)) :: s8 l (i + s.many) j ds ms
 | (k, .map kτ vτ) :: l, i, j, ds, ms => (k, .map kτ vτ (dE vτ (dm ms j))) :: s8 l i (j + 1) ds ms
 | (k, .dead e) :: l, i, j, ds, ms => (k, .dead (.arr (dk ds i).toInt.toNat e)) :: s8 l (i + 1) j ds ms
 | (k, .it) :: l, i, j, ds, ms => (k, .it (dk ds i).toStr (dk ds (i + 1)).toInt.toNat) :: s8 l (i + 2) j ds ms
def q6X (sh : SSh) (A : Key → Option O) (ds : List C) (ms : List Es) : S :=
 ⟨q0m sh.env 0 ds, s8 sh.loc (q2J sh.env) 0 ds ms, A, q2o sh.env 0 ds⟩
def y57 (s : S) (sh : Sh) (d : List C) : Bool :=
 match sh with
 | .sl _ _ t => (match H7 s.tk t with
  | some L => Nat.beq L (dk d 0).elems.length
  | none => false)
 | _ => true
def z5s {R : Type} (s : S) : List (Nat × Sh) → (List C → Option R) → Option R
 | [], K => K []
 | (j, sh) :: l, K => sh.coe (s.get j) fun d1 => if (sh.fill 0 d1).ty.isAgg = (s.get j).ty.isAgg then (bif y57 s sh d1 then z5s s l fun d2 => K (d1 ++ d2) else none) else none
def y49 : V → Bool
 | .nilc => true
 | _ => false
def q3N {R : Type} (s : S) : List (Key × OSh) → (List C → List Es → Option R) → Option R
 | [], K => K [] []
 | (k, .box sh) :: l, K => (match s.obj k with
  | some (.box x) => if y49 x = false then sh.coe x fun d1 => if (sh.fill 0 d1).plain = true ∧ (sh.fill 0 d1).u7 = true then q3N s l fun d2 m2 => K (d1 ++ d2) m2 else none else none
  | _ => none)
 | (k, .map kτ vτ) :: l, K => (match s.obj k with
  | some (.map kτ' vτ' es) => if kτ' = kτ ∧ vτ' = vτ then (if q2T vτ es = true then q3N s l fun d2 m2 => K d2 (unE es :: m2) else none) else none
  | _ => none)
 | (k, .dead e) :: l, K => (match s.obj k with
  | some o => (match o.ty with
   | .arr M e' => if e' = e then q3N s l fun d2 m2 => K (.int M :: d2) m2 else none
   | _ => none)
  | _ => none)
 | (k, .it) :: l, K => (match s.obj k with
  | some (.it x p) => q3N s l fun d2 m2 => K (.str x :: .int p :: d2) m2
  | _ => none)
def z2K (f g : Nat → Bool) : List Cap → Bool
 | [] => true
 | .c _ :: l => z2K f g l
 | .v x :: l => x.ok f g && z2K f g l
theorem z0p {f g : Nat → Bool} : ∀ (l : List Cap) (i : Nat) (ds : List C), z2K f g l = true → V.oks f g (q0n l i ds) = true
 | [], _, _, _ => rfl
 | .c _ :: l, i, ds, h => by
  simp only [z2K] at h
  simp only [q0n, V.oks, V.ok, Bool.true_and]
  exact z0p l _ _ h
 | .v x :: l, i, ds, h => by
  simp only [z2K, Bool.and_eq_true] at h
  simp only [q0n, V.oks, Bool.and_eq_true]
  exact ⟨h.1, z0p l _ _ h.2⟩
mutual
def Sh.okB (f g : Nat → Bool) : Sh → Bool
 | .sl _ _ t => g t
 | .sr (.l k) _ _ _ _ => f k
 | .vec (.l k) _ _ => f k
 | .agg _ l => Sh.y3g f g l
 | .as v => v.ok f g
 | .fnc _ l => z2K f g l
 | _ => true
def Sh.y3g (f g : Nat → Bool) : List Sh → Bool
 | [] => true
 | s :: l => s.okB f g && Sh.y3g f g l
end
mutual
theorem Sh.z6F {f g : Nat → Bool} : ∀ (s : Sh) (i : Nat) (ds : List C), s.okB f g = true → (s.fill i ds).ok f g = true
 | .sl _ _ t, _, _, h => by simpa only [Sh.fill, V.ok, Sh.okB] using h
 | .sr (.l k) _ _ _ _, _, _, h => by simpa only [Sh.fill, V.ok, Sh.okB] using h
 | .sr (.g k) _ _ _ _, _, _, h => by simp only [Sh.fill, V.ok]
 | .vec (.l k) _ _, _, _, h => by simpa only [Sh.fill, V.ok, Sh.okB] using h
 | .vec (.g k) _ _, _, _, h => by simp only [Sh.fill, V.ok]
 | .agg _ l, _, _, h => by simp only [Sh.fill, V.ok, Sh.okB] at h ⊢; exact Sh.y0w l _ _ h
 | .as v, _, _, h => by simpa only [Sh.fill, Sh.okB] using h
 | .fnc _ l, i, ds, h => by simp only [Sh.fill, V.ok, Sh.okB] at h ⊢; exact z0p l i ds h
 | .d _, _, _, _ | .ts _ _, _, _, _ | .cptr _, _, _, _ | .arr _, _, _, _ => by simp only [Sh.fill, V.ok]
theorem Sh.y0w {f g : Nat → Bool} : ∀ (l : List Sh) (i : Nat) (ds : List C), Sh.y3g f g l = true → V.oks f g (Sh.q3x l i ds) = true
 | [], _, _, _ => rfl
 | s :: l, i, ds, h => by
  simp only [Sh.y3g, Bool.and_eq_true] at h
  simp only [Sh.q3x, V.oks, Bool.and_eq_true]
  exact ⟨Sh.z6F s _ _ h.1, Sh.y0w l _ _ h.2⟩
end
def OSh.okB (f g : Nat → Bool) : OSh → Bool
 | .box s => s.okB f g
 | .map _ _ => true
 | .dead _ | .it => true
def q8i : List (Key × OSh) → Key → Bool
 | [], _ => false
 | (j, _) :: l, k => if j = k then true else q8i l k
def z8D (l : List (Key × OSh)) (n : Nat) : Bool := q8i l (.l n)
def z0c : List (Nat × Sh) → Nat → Bool
 | [], _ => false
 | (_, .sl _ _ t) :: l, u => if t = u then true else z0c l u
 | _ :: l, u => z0c l u
def z2L (L : List (Key × OSh)) : List (Key × O) → Bool
 | [] => true
 | (.g k, _) :: l => q8i L (.g k) && z2L L l
 | (.l _, _) :: l => z2L L l
def q9b (f g : Nat → Bool) : List (Key × OSh) → Bool
 | [] => true
 | (_, o) :: l => o.okB f g && q9b f g l
def z5q (f g : Nat → Bool) : List (Nat × Sh) → Bool
 | [] => true
 | (_, s) :: l => s.okB f g && z5q f g l
def okS (sh : SSh) (loc : List (Key × O)) : Bool :=
 q9b (z8D sh.loc) (z0c sh.env) sh.loc && z2L sh.loc loc && z5q (z8D sh.loc) (z0c sh.env) sh.env
theorem q6T : ∀ (l : List (Key × OSh)) (i j : Nat) (ds : List C) (ms : List Es) (k : Key), (z7 (s8 l i j ds ms) k).isSome = q8i l k
 | [], _, _, _, _, _ => rfl
 | (n, .box s) :: l, i, j, ds, ms, k => by
  simp only [s8, z7, q8i]
  split
  ·rfl
  ·exact q6T l _ _ _ _ _
 | (n, .map _ _) :: l, i, j, ds, ms, k | (n, .dead _) :: l, i, j, ds, ms, k | (n, .it) :: l, i, j, ds, ms, k => by
  simp only [s8, z7, q8i]
  split
  ·rfl
  ·exact q6T l _ _ _ _ _
theorem y5i (l : List (Key × OSh)) (i j : Nat) (ds : List C) (ms : List Es) : Q0 (s8 l i j ds ms) = z8D l := by
 funext n; exact q6T l i j ds ms (.l n)
theorem z7G : ∀ (l : List (Nat × Sh)) (i : Nat) (ds : List C), J2 (q2o l i ds) = z0c l
 | [], _, _ => rfl
 | (_, s) :: l, i, ds => by
  have ih := z7G l (i + s.many) ds
  funext u
  have ih := congrFun ih u
  unfold J2 at ih ⊢
  cases s <;> simp only [q2o, z0c, look] <;> (try exact ih)
  split
  ·rfl
  ·exact ih
theorem q8g {f g : Nat → Bool} : ∀ (l : List (Key × OSh)) (i j : Nat) (ds : List C) (ms : List Es), q9b f g l = true → q1o f g (s8 l i j ds ms) = true
 | [], _, _, _, _, _ => rfl
 | (n, .box s) :: l, i, j, ds, ms, h => by
  simp only [q9b, Bool.and_eq_true] at h
  simp only [s8, q1o, Bool.and_eq_true, O.okB, O.ok]
  exact ⟨Sh.z6F s _ _ h.1, q8g l _ _ _ _ h.2⟩
 | (n, .map _ vτ) :: l, i, j, ds, ms, h => by
  simp only [q9b, Bool.and_eq_true] at h
  simp only [s8, q1o, Bool.and_eq_true, O.okB, O.ok]
  exact ⟨z7Z vτ _, q8g l _ _ _ _ h.2⟩
 | (n, .dead _) :: l, i, j, ds, ms, h | (n, .it) :: l, i, j, ds, ms, h => by
  simp only [q9b, Bool.and_eq_true] at h
  simp only [s8, q1o, Bool.and_eq_true, O.okB, O.ok]
  exact ⟨trivial, q8g l _ _ _ _ h.2⟩
theorem z7N {f g : Nat → Bool} : ∀ (l : List (Nat × Sh)) (i : Nat) (ds : List C), z5q f g l = true → q32 f g (q0m l i ds) = true
 | [], _, _, _ => rfl
 | (n, s) :: l, i, ds, h => by
  simp only [z5q, Bool.and_eq_true] at h
  simp only [q0m, q32, Bool.and_eq_true]
  exact ⟨Sh.z6F s _ _ h.1, z7N l _ _ h.2⟩
theorem z4c {L : List (Key × OSh)} {i j : Nat} {ds : List C} {ms : List Es} : ∀ {l : List (Key × O)}, z2L L l = true → q5d (s8 L i j ds ms) l = true
 | [], _ => rfl
 | (.g k, _) :: l, h => by
  simp only [z2L, Bool.and_eq_true] at h
  simp only [q5d, Bool.and_eq_true, q6T]
  exact ⟨h.1, z4c h.2⟩
 | (.l _, _) :: l, h => by
  simp only [z2L] at h
  simp only [q5d]
  exact z4c h
def y3W {R : Type} (sh : SSh) (s : S) (K : List C → List Es → Option R) : Option R :=
 z5s s sh.env fun d1 => q3N s sh.loc fun d2 ms => if okS sh s.loc = true then K (d1 ++ d2) ms else none
theorem q8M : ∀ (l : List (Nat × Sh)) (i i' : Nat) (ds ds' : List C), (∀ j, j < q2J l → dk ds (i + j) = dk ds' (i' + j)) → q0m l i ds = q0m l i' ds'
 | [], _, _, _, _, _ => rfl
 | (n, s) :: l, i, i', ds, ds', h => by
  simp only [q2J] at h
  simp only [q0m]
  rw [Sh.q5t s i i' ds ds' (fun j hj => h j (by omega)), q8M l (i + s.many) (i' + s.many) ds ds' (fun j hj => by
   have := h (s.many + j) (by omega)
   rwa [← Nat.add_assoc, ← Nat.add_assoc] at this)]
theorem z1V : ∀ (l : List (Nat × Sh)) (i i' : Nat) (ds ds' : List C), (∀ j, j < q2J l → dk ds (i + j) = dk ds' (i' + j)) → q2o l i ds = q2o l i' ds'
 | [], _, _, _, _, _ => rfl
 | (n, s) :: l, i, i', ds, ds', h => by
  simp only [q2J] at h
  simp only [q2o]
  have e := z1V l (i + s.many) (i' + s.many) ds ds' (fun j hj => by
   have := h (s.many + j) (by omega)
   rwa [← Nat.add_assoc, ← Nat.add_assoc] at this)
  cases s <;> simp only at e ⊢ <;> (try exact e)
  have h0 := h 0 (by simp only [Sh.many]; omega)
  simp only [Nat.add_zero] at h0
  rw [e, h0]
theorem q02 : ∀ (l : List (Key × OSh)) (i i' m : Nat) (ds ds' : List C) (ms : List Es), (∀ j, j < q0g l → dk ds (i + j) = dk ds' (i' + j)) → s8 l i m ds ms = s8 l i' m ds' ms
 | [], _, _, _, _, _, _, _ => rfl
 | (n, .box s) :: l, i, i', m, ds, ds', ms, h => by
  simp only [q0g] at h
  simp only [s8]
  rw [Sh.q5t s i i' ds ds' (fun j hj => h j (by omega)), q02 l (i + s.many) (i' + s.many) m ds ds' ms (fun j hj => by
   have := h (s.many + j) (by omega)
   rwa [← Nat.add_assoc, ← Nat.add_assoc] at this)]
 | (n, .map _ _) :: l, i, i', m, ds, ds', ms, h => by
  simp only [q0g] at h
  simp only [s8]
  rw [q02 l i i' (m + 1) ds ds' ms h]
 | (n, .dead e) :: l, i, i', m, ds, ds', ms, h => by
  simp only [q0g] at h
  simp only [s8]
  have h0 := h 0 (by omega)
  simp only [Nat.add_zero] at h0
  rw [h0, q02 l (i + 1) (i' + 1) m ds ds' ms (fun j hj => by
   have := h (1 + j) (by omega)
   rwa [← Nat.add_assoc, ← Nat.add_assoc] at this)]
 | (n, .it) :: l, i, i', m, ds, ds', ms, h => by
  simp only [q0g] at h
  simp only [s8]
  have h0 := h 0 (by omega)
  have h1 := h 1 (by omega)
  simp only [Nat.add_zero] at h0
  rw [h0, h1, q02 l (i + 2) (i' + 2) m ds ds' ms (fun j hj => by
   have := h (2 + j) (by omega)
   rwa [← Nat.add_assoc, ← Nat.add_assoc] at this)]
theorem q4S : ∀ (l : List (Key × OSh)) (i m : Nat) (ds : List C) (e : Es) (ms : List Es), s8 l i (m + 1) ds (e :: ms) = s8 l i m ds ms
 | [], _, _, _, _, _ => rfl
 | (n, .box s) :: l, i, m, ds, e, ms => by simp only [s8]; rw [q4S l]
 | (n, .map _ _) :: l, i, m, ds, e, ms => by simp only [s8]; rw [q4S l]; rfl
 | (n, .dead _) :: l, i, m, ds, e, ms | (n, .it) :: l, i, m, ds, e, ms => by simp only [s8]; rw [q4S l]
theorem z7O {R : Type} {r : R} {s : S} : ∀ (l : List (Nat × Sh)) {K : List C → Option R}, z5s s l K = some r →
  ∃ ds, K ds = some r ∧ ds.length = q2J l ∧ (∀ f g, q32 f g (q0m l 0 ds) = true → q6C f g s (q0m l 0 ds)) ∧ tkW s (q2o l 0 ds)
 | [], K, h => ⟨[], h, rfl, fun _ _ _ => trivial, trivial⟩
 | (n, sh) :: l, K, h => by
  simp only [z5s] at h
  obtain ⟨d1, h1, h2, h3, h4⟩ := Sh.y03 sh _ h
  simp only [Option.ite_none_right_eq_some] at h1
  obtain ⟨h5, h1⟩ := h1
  cases htk : y57 s sh d1 with
  | false => rw [htk] at h1; cases h1
  | true =>
   rw [htk, cond_true] at h1
   obtain ⟨d2, h6, h7, h8, h9⟩ := z7O l h1
   have e1 : sh.fill 0 (d1 ++ d2) = sh.fill 0 d1 := Sh.q5t sh 0 0 _ _ fun j hj => q2M (by omega)
   have sft : ∀ j, dk (d1 ++ d2) (sh.many + j) = dk d2 (0 + j) := fun j => by
    rw [q44 (by omega), h2]
    congr 1; omega
   have e2 : q0m l sh.many (d1 ++ d2) = q0m l 0 d2 := q8M l _ 0 _ _ fun j hj => sft j
   have e3 : q2o l sh.many (d1 ++ d2) = q2o l 0 d2 := z1V l _ 0 _ _ fun j hj => sft j
   refine ⟨_, h6, by simp [q2J, h2, h7], fun f g hok => ?_, ?_⟩
   ·simp only [q0m, Nat.zero_add, e1, e2, q32, Bool.and_eq_true] at hok ⊢
    exact ⟨h3, hok.1, .inr h5, h8 f g hok.2⟩
   ·simp only [q2o, Nat.zero_add]
    cases sh <;> simp only [e3] <;> (try exact h9)
    simp only [y57] at htk
    simp only [Sh.many] at h2
    rw [q2M (by omega)]
    refine ⟨?_, h9⟩
    split at htk
    ·rename_i L hL
     have := Nat.eq_of_beq_eq_true htk
     show s.live _ = some _
     rw [← this]; exact hL
    ·cases htk
theorem y4k {s : S} {A' : Key → Option O} : ∀ {l : List (Nat × Option Nat)}, tkW s l → tkW (s.wA A') l
 | [], _ => trivial
 | (_, _) :: _, h => ⟨h.1, y4k h.2⟩
theorem y2w {f g : Nat → Bool} {s : S} {A' : Key → Option O} : ∀ {l : List (Nat × V)}, q6C f g s l → q6C f g (s.wA A') l
 | [], _ => trivial
 | (_, _) :: _, h => ⟨h.1, h.2.1, h.2.2.1, y2w h.2.2.2⟩
theorem y8U {R : Type} {r : R} {sh : SSh} {s : S} {K : List C → List Es → Option R} (h : y3W sh s K = some r) :
  ∃ ds ms, K ds ms = some r ∧ ∀ (X : Cx) (n : Nat) (A' : Key → Option O), leA s.A A' → q00 X n (s.wA A') ((q6X sh s.A ds ms).wA A') := by
 unfold y3W at h
 obtain ⟨d1, h1, h2, h3, h4⟩ := z7O _ h
 have det : ∃ d2 ms, K (d1 ++ d2) ms = some r ∧ okS sh s.loc = true ∧ d2.length = q0g sh.loc ∧ ∀ A', leA s.A A' → q3C (s.wA A') (s8 sh.loc 0 0 d2 ms) := by
  -- what is read does not lean on A'
  have gen : ∀ (l : List (Key × OSh)) {K : List C → List Es → Option R}, q3N s l K = some r → ∃ ds ms, K ds ms = some r ∧ ds.length = q0g l ∧ ∀ A', leA s.A A' → q3C (s.wA A') (s8 l 0 0 ds ms) := by
   intro l
   induction l with
   | nil => intro K h; exact ⟨[], [], h, rfl, fun _ _ => trivial⟩
   | cons p l ih =>
    obtain ⟨k, o⟩ := p
    intro K h
    cases o with
    | box sh =>
     simp only [q3N] at h
     split at h
     ·rename_i x hx
      simp only [Option.ite_none_right_eq_some] at h
      obtain ⟨h0, h⟩ := h
      obtain ⟨d1, h1, h2, h3, h4⟩ := Sh.y03 sh _ h
      simp only [Option.ite_none_right_eq_some] at h1
      obtain ⟨h5, h1⟩ := h1
      obtain ⟨d2, ms, h6, h7, h8⟩ := ih h1
      have e1 : sh.fill 0 (d1 ++ d2) = sh.fill 0 d1 := Sh.q5t sh 0 0 _ _ fun j hj => q2M (by omega)
      have e2 : s8 l sh.many 0 (d1 ++ d2) ms = s8 l 0 0 d2 ms := q02 l _ 0 0 _ _ _ fun j hj => by
       rw [q44 (by omega), h2]
       congr 1; omega
      refine ⟨_, _, h6, by simp [q0g, h2, h7], fun A' hA => ?_⟩
      simp only [s8, Nat.zero_add, e1, e2, q3C]
      rw [W0 hA hx]
      exact ⟨⟨h3, h4 (by intro e; subst e; simp [y49] at h0), h5.1, h5.2⟩, h8 A' hA⟩
     ·cases h
    | map kτ vτ =>
     simp only [q3N] at h
     split at h
     ·rename_i kτ' vτ' es hx
      simp only [Option.ite_none_right_eq_some] at h
      obtain ⟨⟨rfl, rfl⟩, hd, h⟩ := h
      obtain ⟨d2, ms, h6, h7, h8⟩ := ih h
      refine ⟨_, _, h6, by simp [q0g, h7], fun A' hA => ?_⟩
      simp only [s8, q3C, q4S]
      rw [W0 hA hx]
      exact ⟨⟨rfl, rfl, (y0Z hd).symm⟩, h8 A' hA⟩
     ·cases h
    | dead e =>
     simp only [q3N] at h
     split at h
     ·rename_i o hx
      split at h
      ·rename_i M e' ht
       simp only [Option.ite_none_right_eq_some] at h
       obtain ⟨rfl, h⟩ := h
       obtain ⟨d2, ms, h6, h7, h8⟩ := ih h
       have e2 : s8 l 1 0 (.int M :: d2) ms = s8 l 0 0 d2 ms := q02 l _ 0 0 _ _ _ fun j hj => by
        unfold dk; simp [Nat.add_comm 1 j]
       refine ⟨_, _, h6, by simp [q0g, h7, Nat.add_comm], fun A' hA => ?_⟩
       simp only [s8, Nat.zero_add, e2, q3C]
       rw [W0 hA hx]
       refine ⟨?_, h8 A' hA⟩
       have : (dk (C.int M :: d2) 0).toInt.toNat = M := by simp [dk, C.toInt]
       rw [this]
       cases o <;> exact ht.symm
      ·cases h
     ·cases h
    | it =>
     simp only [q3N] at h
     split at h
     ·rename_i x p hx
      obtain ⟨d2, ms, h6, h7, h8⟩ := ih h
      have e2 : s8 l 2 0 (.str x :: .int p :: d2) ms = s8 l 0 0 d2 ms := q02 l _ 0 0 _ _ _ fun j hj => by
       unfold dk; simp [Nat.add_comm 2 j]
      refine ⟨_, _, h6, by simp [q0g, h7]; omega, fun A' hA => ?_⟩
      simp only [s8, Nat.zero_add, e2, q3C]
      rw [W0 hA hx]
      refine ⟨?_, h8 A' hA⟩
      have e3 : (dk (C.str x :: C.int p :: d2) 0).toStr = x := by simp [dk, C.toStr]
      have e4 : (dk (C.str x :: C.int p :: d2) 1).toInt.toNat = p := by simp [dk, C.toInt]
      rw [e3, e4]
      exact ⟨rfl, rfl⟩
     ·cases h
  obtain ⟨d2, ms, h5, h6, h7⟩ := gen _ h1
  simp only [Option.ite_none_right_eq_some] at h5
  exact ⟨d2, ms, h5.2, h5.1, h6, h7⟩
 obtain ⟨d2, ms, h5, h6, h7, h8⟩ := det
 refine ⟨d1 ++ d2, ms, h5, fun X n A' hA => ?_⟩
 have e1 : q0m sh.env 0 (d1 ++ d2) = q0m sh.env 0 d1 := q8M _ 0 0 _ _ fun j hj => q2M (by omega)
 have e2 : q2o sh.env 0 (d1 ++ d2) = q2o sh.env 0 d1 := z1V _ 0 0 _ _ fun j hj => q2M (by omega)
 have e3 : s8 sh.loc (q2J sh.env) 0 (d1 ++ d2) ms = s8 sh.loc 0 0 d2 ms := q02 _ _ 0 0 _ _ _ fun j hj => by
  rw [q44 (by omega), h2]
  congr 1; omega
 simp only [okS, Bool.and_eq_true] at h6
 have hL : Q0 (q6X sh s.A (d1 ++ d2) ms).loc = z8D sh.loc := y5i ..
 have hT : J2 (q6X sh s.A (d1 ++ d2) ms).tk = z0c sh.env := z7G ..
 refine y1U rfl ?_ ?_ (q5D (z4c h6.1.2)) ?_ ?_
 ·show q3C (s.wA A') (s8 sh.loc (q2J sh.env) 0 (d1 ++ d2) ms)
  rw [e3]; exact h8 A' hA
 ·show q1o (Q0 (q6X sh s.A (d1 ++ d2) ms).loc) (J2 (q6X sh s.A (d1 ++ d2) ms).tk) _ = true
  rw [hL, hT]
  exact q8g _ _ _ _ _ h6.1.1
 ·show tkW (s.wA A') (q2o sh.env 0 (d1 ++ d2))
  rw [e2]; exact y4k h4
 ·show q6C (Q0 (q6X sh s.A (d1 ++ d2) ms).loc) (J2 (q6X sh s.A (d1 ++ d2) ms).tk) (s.wA A') (q0m sh.env 0 (d1 ++ d2))
  refine y2w ?_
  rw [hL, hT, e1]
  exact h3 _ _ (z7N _ _ _ h6.2)
theorem z8.y24 {Γ : G} {w : World} {s : S} (c : z8 Γ w s) {k : Key} {x x' : V} (h : s.obj k = some (.box x)) (h1 : Own Γ w k (.box x) → Own Γ w k (.box x')) (h2 : (O.box x).q8s → (O.box x').q8s) : z8 Γ w (s.put k (.box x')) := by
 refine ⟨c.hH, c.hZ, c.hκ, fun j o hj => ?_, fun j hj => ?_, c.q6y (fun j hj => ?_), c.tok, c.tdom, c.hgl, c.hoo, c.hσ⟩
 ·rw [Z7] at hj
  split at hj
  ·rename_i e
   subst e; cases hj
   exact (c.obj _ _ h).imp (fun h => ⟨h.1, h2 h.2⟩) h1
  ·exact c.obj j o hj
 ·rw [Z7]
  split
  ·simp
  ·exact c.dom j hj
 ·unfold S.o5 at hj ⊢
  rw [Z7]
  split
  ·rename_i e; subst e; rw [h] at hj; cases hj
  ·exact hj
def mvK (K : Key) (t : Nat) (k : Key) : Key := if k = K then .l t else k
def AtE (X : Cx) (n : Nat) (Γ0 : G) (K : Key) (t : Nat) (s : S) (a : Act) (w : World) : Prop :=
 ∃ Γ, GLe Γ0 Γ ∧ Γ.gl = X.gl ∧ z8 Γ w s ∧ q2t Γ s a.tmps ∧ a.tmps.size = n ∧ a.defers = [] ∧ AOk s.A ∧ ∀ x, Γ.ι K = some x → Γ.ι (.l t) = some x
theorem z9W {Γ : G} {K : Key} {t : Nat} (h : ∀ x, Γ.ι K = some x → Γ.ι (.l t) = some x) {hm : Option Key} (hn : hm ≠ some K) : q2Y Γ Γ (mvK K t) hm :=
 ⟨Hp.le_refl _, fun k x hk => by
  unfold mvK
  split
  ·rename_i e; subst e; exact h x hk
  ·exact hk, fun _ _ h => h, fun k b p sz e hk => by
  have : mvK K t k = k := by
   unfold mvK
   split
   ·rename_i e2; subst e2; exact absurd e hn
   ·rfl
  rw [this]; exact ⟨hk, rfl⟩⟩
theorem q9.mv {Γ : G} {K : Key} {t : Nat} (h : ∀ x, Γ.ι K = some x → Γ.ι (.l t) = some x) {x : V} {v : Value} (hr : q9 Γ x v) : q9 Γ (x.ren (mvK K t) id) v :=
 q9.ren (z9W h (by simp)) (fun _ _ h => h) hr
def q2u (K : Key) (t : Nat) : List Key → S → S
 | [], s => s
 | k :: ks, s => if k = K ∨ k = .l t then q2u K t ks s else (match s.obj k with
  | some (.box x) => q2u K t ks (s.put k (.box (x.ren (mvK K t) id)))
  | _ => q2u K t ks s)
theorem q9R (K : Key) (t : Nat) : ∀ (ks : List Key) (s : S), (q2u K t ks s).A = s.A
 | [], _ => rfl
 | k :: ks, s => by
  simp only [q2u]
  split
  ·exact q9R K t ks s
  ·split
   ·exact q9R K t ks _
   ·exact q9R K t ks s
def WkE (K : Key) (t : Nat) (s s' : S) : Prop := s'.A = s.A ∧ ∀ (X : Cx) (n : Nat) (A' : Key → Option O), leA s.A A' → ∀ (Γ0 : G) (a : Act) (w : World), AtE X n Γ0 K t (s.wA A') a w → AtE X n Γ0 K t (s'.wA A') a w
theorem WkE.refl {K : Key} {t : Nat} (s : S) : WkE K t s s := ⟨rfl, fun _ _ _ _ _ _ _ h => h⟩
theorem WkE.trans {K : Key} {t : Nat} {a b c : S} (h : WkE K t a b) (h' : WkE K t b c) : WkE K t a c :=
 ⟨h'.1.trans h.1, fun X n A' hA Γ0 ac w hat => h'.2 X n A' (by rw [h.1]; exact hA) Γ0 ac w (h.2 X n A' hA Γ0 ac w hat)⟩
theorem y7o {X : Cx} {n : Nat} {Γ0 : G} {K : Key} {t : Nat} {a : Act} {w : World} {s : S} {k : Key} {x : V} (hk : ¬ (k = K ∨ k = .l t)) (hx : s.obj k = some (.box x)) (h : AtE X n Γ0 K t s a w) : AtE X n Γ0 K t (s.put k (.box (x.ren (mvK K t) id))) a w := by
 obtain ⟨Γ, g1, g3, c, hs, hn, hf, hA, hι⟩ := h
 have hkK : (some k : Option Key) ≠ some K := fun e => hk (.inl (by cases e; rfl))
 refine ⟨Γ, g1, g3, c.y24 hx (fun hown => ?_) (fun hv => ?_), hs, hn, hf, hA, hι⟩
 ·obtain ⟨b, cells, T, h1, h2, h3, h4, h5, h6, h7, h8⟩ := hown
  have hmv : mvK K t k = k := by unfold mvK; rw [if_neg (fun e => hk (.inl e))]
  have := q8.b9 (θ := id) (z9W hι hkK) h8 h6
  simp only [Option.map_some, hmv] at this
  exact ⟨b, cells, T, by rw [V.q22]; exact h1, h2, h3, h4, by rw [V.q22]; exact h5, by rw [V.q22]; exact this, by rw [V.z1f]; exact h7, by rw [V.q9T]; exact h8⟩
 ·obtain ⟨e, rfl⟩ := hv
  exact ⟨e, by simp [V.ren]⟩
theorem q76 (K : Key) (t : Nat) : ∀ (ks : List Key) (s : S), WkE K t s (q2u K t ks s)
 | [], s => WkE.refl s
 | k :: ks, s => by
  simp only [q2u]
  split
  ·exact q76 K t ks s
  ·rename_i hk
   split
   ·rename_i x hx
    exact WkE.trans (b := s.put k (.box (x.ren (mvK K t) id))) ⟨rfl, fun X n A' hA Γ0 a w h => y7o (s := s.wA A') hk (W0 hA hx) h⟩ (q76 K t ks _)
   ·exact q76 K t ks s
def z2f (K : Key) (t : Nat) (ks : List Key) (s : S) : S :=
 match s.obj K with
 | some (.box (.d (.arr M e) cc)) => if (s.obj (.l t)).isNone = true then
   { q2u K t ks ((s.put K (.dead (.arr M e))).put (.l t) (.box (.d (.arr M e) cc))) with env := s.env.map fun p => (p.1, p.2.ren (mvK K t) id) } else s
 | _ => s
theorem y7t {X : Cx} {n : Nat} {Γ0 : G} {K : Key} {t : Nat} {a : Act} {w : World} {s : S} {M : Nat} {e : Ty} {cc : C} (hK : s.obj K = some (.box (.d (.arr M e) cc))) (ht : s.obj (.l t) = none) (h : At X n Γ0 s a w) :
  AtE X n Γ0 K t ((s.put K (.dead (.arr M e))).put (.l t) (.box (.d (.arr M e) cc))) a w := by
 obtain ⟨Γ, g1, g3, c, hs, hn, hf, hA⟩ := h
 have hobj : ∀ j, S.obj ((s.put K (.dead (.arr M e))).put (.l t) (.box (.d (.arr M e) cc))) j = S.obj { s with loc := (Key.l t, O.box (.d (.arr M e) cc)) :: (K, O.dead (.arr M e)) :: s.loc } j := fun j => by
  rw [Z7, Z7, show S.obj { s with loc := (Key.l t, O.box (.d (.arr M e) cc)) :: (K, O.dead (.arr M e)) :: s.loc } j = S.obj { ({ s with loc := (K, O.dead (.arr M e)) :: s.loc } : S) with loc := (Key.l t, O.box (.d (.arr M e) cc)) :: ({ s with loc := (K, O.dead (.arr M e)) :: s.loc } : S).loc } j from rfl, s7, s7]
 rcases c.obj K _ hK with ⟨h1, h2⟩ | hown
 ·-- without a block
  refine ⟨Γ, g1, g3, ⟨c.hH, c.hZ, c.hκ, fun j o hj => ?_, fun j hj => ?_, c.q6y (fun j hj => ?_), c.tok, c.tdom, c.hgl, c.hoo, c.hσ⟩, hs, hn, hf, hA, fun x hx => by rw [h1] at hx; cases hx⟩
  ·rw [Z7] at hj
   split at hj
   ·rename_i e1; subst e1; cases hj
    exact .inl ⟨c.q8T ht, h2⟩
   ·rw [Z7] at hj
    split at hj
    ·rename_i e1; subst e1; cases hj; exact .inl ⟨h1, trivial⟩
    ·exact c.obj j o hj
  ·rw [Z7]
   split
   ·simp
   ·rw [Z7]
    split
    ·simp
    ·exact c.dom j hj
  ·unfold S.o5 at hj ⊢
   rw [Z7]
   split
   ·rename_i e1; subst e1; rw [ht] at hj; cases hj
   ·rw [Z7]
    split
    ·rfl
    ·exact hj
 ·obtain ⟨b, cells, T, e1, e2, e3, e4, e5, e6, e7, e8⟩ := hown
  have hx0 : q8 Γ none [] (.d (.arr M e) cc) (chunk cells.toList 0 (V.d (.arr M e) cc).ty.size) := by
   simp only [q8] at e6 ⊢; exact e6
  obtain ⟨k1, k2, k3⟩ := c.y4D (w' := w) (j := .l t) (x' := .d (.arr M e) cc) hK rfl e1 ht e4 (fun _ _ => rfl) rfl rfl e5 hx0 e7 e8 (fun arr T' fr h => by rw [e4] at h; cases h; rfl)
  have hkt : K ≠ .l t := fun e => by rw [e, ht] at hK; cases hK
  refine ⟨_, g1.trans k3, by rw [k3.gl]; exact g3, k1.congr hobj (fun _ => rfl) (fun _ h => h), hs.k8 k2, hn, hf, hA, fun x hx => ?_⟩
  have : Γ.ι K = some x := by simpa [G.addKey, q0R, hkt] using hx
  rw [e1] at this; cases this
  simp [G.addKey, q0R, V.ty]
theorem y5O (K : Key) (t : Nat) (ks : List Key) (s : S) : (z2f K t ks s).A = s.A ∧ ∀ (X : Cx) (n : Nat) (A' : Key → Option O), leA s.A A' → q00 X n (s.wA A') ((z2f K t ks s).wA A') := by
 unfold z2f
 split
 ·rename_i M e cc hK
  split
  ·rename_i ht
   have ht' : s.obj (.l t) = none := by simpa using ht
   refine ⟨q9R K t ks _, fun X n A' hA Γ0 a w hat => ?_⟩
   have h1 := y7t (s := s.wA A') (W0 hA hK) (by rw [q27]; exact ht') hat
   obtain ⟨_, h2⟩ := q76 K t ks ((s.put K (.dead (.arr M e))).put (.l t) (.box (.d (.arr M e) cc)))
   obtain ⟨Γ, g1, g3, c, hs, hn, hf, hAok, hι⟩ := h2 X n A' hA Γ0 a w h1
   refine ⟨Γ, g1, g3, c.congr (fun _ => rfl) (fun _ => rfl) (fun _ h => h), fun i => ?_, hn, hf, hAok⟩
   have henv : ((q2u K t ks ((s.put K (.dead (.arr M e))).put (.l t) (.box (.d (.arr M e) cc)))).wA A').env = s.env := by
    have : ∀ (ks : List Key) (s : S), (q2u K t ks s).env = s.env := by
     intro ks
     induction ks with
     | nil => intro s; rfl
     | cons k ks ih =>
      intro s
      simp only [q2u]
      split
      ·exact ih s
      ·split
       ·exact ih _
       ·exact ih s
    exact this ks _
   have hi := hs i
   have e1 : S.get ((q2u K t ks ((s.put K (.dead (.arr M e))).put (.l t) (.box (.d (.arr M e) cc)))).wA A') i = (look s.env i).getD .any := by
    unfold S.get; rw [henv]
   rw [e1] at hi
   show q9 Γ ((look (s.env.map fun p => (p.1, p.2.ren (mvK K t) id)) i).getD .any) _
   rw [q7u]
   cases hl : look s.env i with
   | none => trivial
   | some x =>
    rw [hl] at hi
    exact q9.mv hι hi
  ·exact ⟨rfl, fun _ _ _ _ => q00.refl _⟩
 ·exact ⟨rfl, fun _ _ _ _ => q00.refl _⟩
def T0 : Nat := 1000000000000000
mutual
def V.q0e : Sh → V → V
 | .vec (.l a) eb e, x => (match x with
  | .emp eb' e' => if eb' = eb ∧ e' = e then .sr (.l (a + T0)) [] 0 0 none eb e else x
  | x => x)
 | .agg _ l, x => (match x with
  | .agg τ xs => .agg τ (V.q1D l xs)
  | x => x)
 | _, x => x
def V.q1D : List Sh → List V → List V
 | s :: l, x :: xs => V.q0e s x :: V.q1D l xs
 | _, xs => xs
end
theorem V.z0W : ∀ (l : List Sh) (xs : List V), (V.q1D l xs).length = xs.length
 | [], xs => by simp [V.q1D]
 | s :: l, [] => by simp [V.q1D]
 | s :: l, x :: xs => by simp [V.q1D, V.z0W l xs]
theorem V.q8V (s : Sh) (x : V) : (V.q0e s x).ty = x.ty := by
 unfold V.q0e
 split
 ·split
  ·split
   ·rename_i h; obtain ⟨rfl, rfl⟩ := h; rfl
   ·rfl
  ·rfl
 ·split <;> rfl
 ·rfl
theorem V.z4m (s : Sh) (x : V) : (V.q0e s x).plain = x.plain := by
 unfold V.q0e
 split
 ·split
  ·split
   ·rfl
   ·rfl
  ·rfl
 ·split <;> rfl
 ·rfl
mutual
theorem V.z7b : ∀ (s : Sh) (x : V), (V.q0e s x).u7 = x.u7
 | .vec (.l a) eb e, x => by
  simp only [V.q0e]
  split
  ·split <;> simp [V.u7]
  ·rfl
 | .agg _ l, x => by
  simp only [V.q0e]
  split
  ·simp only [V.u7]; exact V.z4l l _
  ·rfl
 | .vec (.g _) _ _, _ | .d _, _ | .sl _ _ _, _ | .ts _ _, _ | .sr _ _ _ _ _, _ | .cptr _, _ | .arr _, _ | .as _, _ | .fnc _ _, _ => by simp [V.q0e]
theorem V.z4l : ∀ (l : List Sh) (xs : List V), V.Z8 (V.q1D l xs) = V.Z8 xs
 | [], xs => by simp [V.q1D]
 | s :: l, [] => by simp [V.q1D]
 | s :: l, x :: xs => by simp only [V.q1D, V.Z8, V.z7b s x, V.z4l l xs]
end
mutual
theorem q8.q0e {Γ : G} {hm : Option Key} : ∀ (s : Sh) (x : V) {p : List Nat} {vs : List Value}, q8 Γ hm p x vs → q8 Γ hm p (V.q0e s x) vs
 | .vec (.l a) eb e, x, p, vs, h => by
  simp only [V.q0e]
  split
  ·split
   ·simp only [q8] at h ⊢
    obtain ⟨a, h⟩ := h
    exact .inl ⟨trivial, trivial, a, h⟩
   ·exact h
  ·exact h
 | .agg _ l, x, p, vs, h => by
  simp only [V.q0e]
  split
  ·simp only [q8] at h ⊢
   exact ⟨h.1, h.2.1, by rw [V.z0W]; exact h.2.2.1, h.2.2.2.1, y6.q1D l _ h.2.2.2.2⟩
  ·exact h
 | .vec (.g _) _ _, _, _, _, h | .d _, _, _, _, h | .sl _ _ _, _, _, _, h | .ts _ _, _, _, _, h | .sr _ _ _ _ _, _, _, _, h | .cptr _, _, _, _, h | .arr _, _, _, _, h | .as _, _, _, _, h | .fnc _ _, _, _, _, h => by simpa only [V.q0e] using h
theorem y6.q1D {Γ : G} {hm : Option Key} : ∀ (l : List Sh) (xs : List V) {p : List Nat} {i : Nat} {τ : Ty} {vs : List Value}, y6 Γ hm p i τ xs vs → y6 Γ hm p i τ (V.q1D l xs) vs
 | [], xs, _, _, _, _, h => by simpa only [V.q1D] using h
 | s :: l, [], _, _, _, _, h => by simpa only [V.q1D] using h
 | s :: l, x :: xs, _, _, _, _, h => by
  simp only [y6, V.q1D, V.q8V] at h ⊢
  obtain ⟨⟨o, f, h1, h2, h3, h4⟩, h5⟩ := h
  exact ⟨⟨o, f, h1, h2, h3, q8.q0e s x h4⟩, y6.q1D l xs h5⟩
end
mutual
def V.y53 : Sh → V → List (Nat × Ty)
 | .vec (.l a) eb e, x => (match x with
  | .emp eb' e' => if eb' = eb ∧ e' = e then [(a + T0, e)] else []
  | .nilc => [(a + T0, e)]
  | _ => [])
 | .agg _ l, x => (match x with
  | .agg _ xs => V.y7y l xs
  | _ => [])
 | _, _ => []
def V.y7y : List Sh → List V → List (Nat × Ty)
 | s :: l, x :: xs => V.y53 s x ++ V.y7y l xs
 | _, _ => []
end
def z2j : List (Nat × Ty) → S → S
 | [], s => s
 | (t, e) :: l, s => if (s.obj (.l t)).isNone = true then z2j l (s.put (.l t) (.box (.d (.arr 0 e) (.agg [])))) else z2j l s
def V.z0X (s : Sh) (x : V) : V :=
 match s, x with
 | .vec (.l a) eb e, .nilc => .sr (.l (a + T0)) [] 0 0 none eb e
 | s, x => V.q0e s x
def z0Z : List (Nat × Sh) → S → S
 | [], s => s
 | (i, sh) :: l, s => (match V.y53 sh (s.get i) with
  | [] => z0Z l s
  | ns => z0Z l (z2j ns (s.set (some i) (V.z0X sh (s.get i)))))
def q7c : List (Key × OSh) → S → S
 | [], s => s
 | (k, .box sh) :: l, s => (match s.obj k with
  | some (.box x) => (match V.y53 sh x with
   | [] => q7c l s
   | ns => q7c l (z2j ns (s.put k (.box (V.q0e sh x)))))
  | _ => q7c l s)
 | _ :: l, s => q7c l s
end Go.E
namespace Go.E
open Go
set_option linter.unusedSectionVars false
mutual
def V.q1p (s : S) : V → V
 | .agg τ vs => .agg τ (V.q16 s vs)
 | x => W1 s x
def V.q16 (s : S) : List V → List V
 | [] => []
 | x :: xs => V.q1p s x :: V.q16 s xs
end
mutual
def V.z1G : V → List Nat
 | .agg _ vs => V.z2s vs
 | x => q1W x
def V.z2s : List V → List Nat
 | [] => []
 | x :: xs => V.z1G x ++ V.z2s xs
end
mutual
def V.frz (s : S) : Sh → V → V
 | .d _, x => x.q1p s
 | .agg _ l, x => (match x with
  | .agg τ xs => .agg τ (V.q2R s l xs)
  | x => x)
 | _, x => x
def V.q2R (s : S) : List Sh → List V → List V
 | sh :: l, x :: xs => V.frz s sh x :: V.q2R s l xs
 | _, xs => xs
end
mutual
def V.q8K : Sh → V → List Nat
 | .d _, x => x.z1G
 | .agg _ l, x => (match x with
  | .agg _ xs => V.z8F l xs
  | _ => [])
 | _, _ => []
def V.z8F : List Sh → List V → List Nat
 | sh :: l, x :: xs => V.q8K sh x ++ V.z8F l xs
 | _, _ => []
end
theorem q8.z4J {Γ Γ' : G} (p : r8 Γ Γ') {q : List Nat} {x : V} {vs : List Value} (h : q8 Γ none q x vs) : q8 Γ' none q x vs := q8.k8 p (hm := none) trivial x h
theorem y0d (s : S) (x : V) : (W1 s x).ty = x.ty ∧ (W1 s x).plain = x.plain := by
 unfold W1
 split
 ·split
  ·split
   ·split
    ·split
     ·exact ⟨rfl, rfl⟩
     ·exact ⟨rfl, rfl⟩
    ·exact ⟨rfl, rfl⟩
   ·exact ⟨rfl, rfl⟩
  ·exact ⟨rfl, rfl⟩
 ·exact ⟨rfl, rfl⟩
theorem V.y0f (s : S) (x : V) : (x.q1p s).ty = x.ty ∧ (x.q1p s).plain = x.plain := by
 cases x <;> simp only [V.q1p] <;> first | exact y0d s _ | exact ⟨rfl, rfl⟩
theorem V.z0F (s : S) : ∀ xs : List V, (V.q16 s xs).length = xs.length
 | [] => rfl
 | x :: xs => by simp [V.q16, V.z0F s xs]
theorem V.y0p (s : S) (sh : Sh) (x : V) : (V.frz s sh x).ty = x.ty ∧ (V.frz s sh x).plain = x.plain := by
 unfold V.frz
 split
 ·exact V.y0f s x
 ·split <;> exact ⟨rfl, rfl⟩
 ·exact ⟨rfl, rfl⟩
theorem V.z3l (s : S) : ∀ (l : List Sh) (xs : List V), (V.q2R s l xs).length = xs.length
 | [], xs => by simp [V.q2R]
 | _ :: _, [] => by simp [V.q2R]
 | sh :: l, x :: xs => by simp [V.q2R, V.z3l s l xs]
section
variable {Γ Γ' : G} {s : S} {js : List Nat} (p : r8 Γ Γ') (hc : ∀ (x : V) (v : Value), q9 Γ x v → (∀ j ∈ q1W x, j ∈ js) → q9 Γ' (W1 s x) v)
include p hc
theorem q8.W1 {x : V} {q : List Nat} {vs : List Value} (hx : x.plain = true) (ha : x.ty.isAgg = false) (h : q8 Γ none q x vs) (hk : ∀ j ∈ q1W x, j ∈ js) : q8 Γ' none q (W1 s x) vs := by
 by_cases hn : q1W x = []
 ·rw [z4Y (fun j hj => by rw [hn] at hj; cases hj)]
  exact h.z4J p
 ·cases x <;> (try (exact absurd rfl hn))
  rename_i k q0 lo n cp eb e
  cases k with
  | g k => exact absurd rfl hn
  | l j =>
   have hv : ∃ v, vs = [v] ∧ q9 Γ (.sr (.l j) q0 lo n cp eb e) v := by
    have h' := h
    simp only [q8] at h
    rcases h with ⟨_, _, a, rfl⟩ | ⟨b, τ0, o, m, cap, _, _, _, ⟨a, rfl, _⟩, _⟩
    ·exact ⟨_, rfl, (w7 rfl rfl).2 ⟨by simpa only [q8] using h', rfl⟩⟩
    ·exact ⟨_, rfl, (w7 rfl rfl).2 ⟨by simpa only [q8] using h', rfl⟩⟩
   obtain ⟨v, rfl, hv⟩ := hv
   have h2 := hc _ _ hv hk
   have h3 := y0d s (.sr (.l j) q0 lo n cp eb e)
   have hvc : v.cells.toList = [v] := by
    rcases q0A hv with ⟨_, _, a, rfl⟩ | ⟨b, τ0, o, m, cap, a, _, _, _, rfl, _⟩ <;> rfl
   obtain ⟨h4, _⟩ := (x3 (by rw [h3.2]; rfl)).1 h2
   rw [hvc] at h4
   exact q8.Z2 _ h4
mutual
theorem q8.q1p : ∀ (x : V) {q : List Nat} {vs : List Value}, q8 Γ none q x vs → (∀ j ∈ x.z1G, j ∈ js) → q8 Γ' none q (x.q1p s) vs
 | .agg τ xs, q, vs, h, hk => by
  simp only [V.q1p, V.z1G] at hk ⊢
  simp only [q8] at h ⊢
  exact ⟨h.1, h.2.1, by rw [V.z0F]; exact h.2.2.1, h.2.2.2.1, y6.q16 xs h.2.2.2.2 hk⟩
 | .any, q, vs, _, _ => by simp only [V.q1p, Go.E.W1, q8]
 | .tup _, q, vs, h, _ => by simp only [q8] at h
 | .d τ c, q, vs, h, _ => by simp only [V.q1p, Go.E.W1]; exact h.z4J p
 | .sl _ _ _ _, q, vs, h, hk | .ts _ _ _, q, vs, h, hk | .emp _ _, q, vs, h, hk | .nilc, q, vs, h, hk | .ptr _ _ _, q, vs, h, hk | .cptr _ _, q, vs, h, hk | .mp _, q, vs, h, hk | .fn _ _, q, vs, h, hk | .top _, q, vs, h, hk => by
  simp only [V.q1p, Go.E.W1]; exact h.z4J p
 | .sr k q0 lo n cp eb e, q, vs, h, hk => by
  simp only [V.q1p]
  exact q8.W1 p hc rfl rfl h (by simpa only [V.z1G] using hk)
theorem y6.q16 : ∀ (xs : List V) {q : List Nat} {i : Nat} {τ : Ty} {vs : List Value}, y6 Γ none q i τ xs vs → (∀ j ∈ V.z2s xs, j ∈ js) → y6 Γ' none q i τ (V.q16 s xs) vs
 | [], _, _, _, _, _, _ => by simp only [V.q16, y6]
 | x :: xs, _, _, _, _, h, hk => by
  simp only [y6, V.q16, (V.y0f s x).1] at h ⊢
  simp only [V.z2s, List.mem_append] at hk
  obtain ⟨⟨o, f, h1, h2, h3, h4⟩, h5⟩ := h
  exact ⟨⟨o, f, h1, h2, h3, q8.q1p x h4 fun j hj => hk j (.inl hj)⟩, y6.q16 xs h5 fun j hj => hk j (.inr hj)⟩
end
mutual
theorem q8.frz : ∀ (sh : Sh) (x : V) {q : List Nat} {vs : List Value}, q8 Γ none q x vs → (∀ j ∈ V.q8K sh x, j ∈ js) → q8 Γ' none q (V.frz s sh x) vs
 | .d _, x, q, vs, h, hk => by simp only [V.frz, V.q8K] at hk ⊢; exact q8.q1p p hc x h hk
 | .agg _ l, x, q, vs, h, hk => by
  simp only [V.frz, V.q8K] at hk ⊢
  split
  ·simp only [q8] at h ⊢
   exact ⟨h.1, h.2.1, by rw [V.z3l]; exact h.2.2.1, h.2.2.2.1, y6.q2R l _ h.2.2.2.2 hk⟩
  ·exact h.z4J p
 | .sl _ _ _, x, q, vs, h, _ | .ts _ _, x, q, vs, h, _ | .sr _ _ _ _ _, x, q, vs, h, _ | .cptr _, x, q, vs, h, _ | .arr _, x, q, vs, h, _ | .as _, x, q, vs, h, _ | .vec _ _ _, x, q, vs, h, _ | .fnc _ _, x, q, vs, h, _ => by
  simp only [V.frz]; exact h.z4J p
theorem y6.q2R : ∀ (l : List Sh) (xs : List V) {q : List Nat} {i : Nat} {τ : Ty} {vs : List Value}, y6 Γ none q i τ xs vs → (∀ j ∈ V.z8F l xs, j ∈ js) → y6 Γ' none q i τ (V.q2R s l xs) vs
 | [], xs, _, _, _, _, h, _ => by simp only [V.q2R]; exact y6.k8 p (hm := none) trivial xs h
 | _ :: _, [], _, _, _, _, _, _ => by simp only [V.q2R, y6]
 | sh :: l, x :: xs, _, _, _, _, h, hk => by
  simp only [y6, V.q2R, (V.y0p s sh x).1] at h ⊢
  simp only [V.z8F, List.mem_append] at hk
  obtain ⟨⟨o, f, h1, h2, h3, h4⟩, h5⟩ := h
  exact ⟨⟨o, f, h1, h2, h3, q8.frz sh x h4 fun j hj => hk j (.inl hj)⟩, y6.q2R l xs h5 fun j hj => hk j (.inr hj)⟩
end
theorem q9.frz {sh : Sh} {x : V} {v : Value} (h : q9 Γ x v) (hk : ∀ j ∈ V.q8K sh x, j ∈ js) : q9 Γ' (V.frz s sh x) v := by
 by_cases hp : x.plain = true
 ·obtain ⟨h1, h2⟩ := (x3 hp).1 h
  exact (x3 (by rw [(V.y0p s sh x).2]; exact hp)).2 ⟨q8.frz p hc sh x h1 hk, by rw [(V.y0p s sh x).1]; exact h2⟩
 ·have : V.frz s sh x = x := by
   cases x <;> simp [V.plain] at hp <;> (unfold V.frz; split <;> rfl)
  rw [this]; exact h.k8 p
end
def q2c (s : S) : List (Nat × Sh) → List Nat
 | [] => []
 | (i, sh) :: l => V.q8K sh (s.get i) ++ q2c s l
def q3i (s0 : S) : List (Nat × Sh) → S → S
 | [], s => s
 | (i, sh) :: l, s => q3i s0 l (match V.q8K sh (s0.get i) with
  | [] => s
  | _ => s.set (some i) (V.frz s0 sh (s0.get i)))
def z0f (sh : SSh) (s : S) : S :=
 match q2c s sh.env with
 | [] => s
 | js => q3i s sh.env (H8 js s)
theorem z0g (s0 : S) : ∀ (l : List (Nat × Sh)) (s : S), (q3i s0 l s).loc = s.loc ∧ (q3i s0 l s).tk = s.tk ∧ (q3i s0 l s).A = s.A
 | [], s => ⟨rfl, rfl, rfl⟩
 | (i, sh) :: l, s => by
  simp only [q3i]
  have := z0g s0 l (match V.q8K sh (s0.get i) with
   | [] => s
   | _ => s.set (some i) (V.frz s0 sh (s0.get i)))
  refine ⟨this.1.trans ?_, this.2.1.trans ?_, this.2.2.trans ?_⟩ <;> (split <;> rfl)
theorem z5g {Γ' : G} {tmps : Array Value} {s0 : S} {js : List Nat} (h0 : ∀ i sh, (∀ j ∈ V.q8K sh (s0.get i), j ∈ js) → q9 Γ' (V.frz s0 sh (s0.get i)) (tmps.getD i undef)) : ∀ (l : List (Nat × Sh)) (s : S), (∀ j ∈ q2c s0 l, j ∈ js) → (∀ i, q9 Γ' (s.get i) (tmps.getD i undef)) → ∀ i, q9 Γ' ((q3i s0 l s).get i) (tmps.getD i undef)
 | [], s, _, h => h
 | (i, sh) :: l, s, hk, h => by
  simp only [q3i]
  simp only [q2c, List.mem_append] at hk
  refine z5g h0 l _ (fun j hj => hk j (.inr hj)) fun m => ?_
  split
  ·exact h m
  ·rw [q3w]
   split
   ·rename_i e
    cases e
    exact h0 i sh fun j hj => hk j (.inl hj)
   ·exact h m
theorem y9O {X : Cx} {n : Nat} {Γ0 : G} {a : Act} {w : World} {sh : SSh} {s : S} (h : At X n Γ0 s a w) : At X n Γ0 (z0f sh s) a w := by
 unfold z0f
 split
 ·exact h
 ·obtain ⟨Γ, g1, g3, c, hs, hn, hf, hA⟩ := h
  obtain ⟨Γ', g, p, c', hcv⟩ := q93 (q2c s sh.env) s c
  have hl := z0g s sh.env (H8 (q2c s sh.env) s)
  have hE := q6j (q2c s sh.env) s
  refine ⟨Γ', g1.trans g, g.gl.trans g3, c'.congr (fun k => ?_) (fun t => ?_) (fun t ht => ?_), ?_, hn, hf, by rw [hl.2.2, hE.2]; exact hA⟩
  ·unfold S.obj; rw [hl.1, hl.2.2]
  ·unfold S.live; rw [hl.2.1]
  ·unfold S.known at ht ⊢; rw [hl.2.1]; exact ht
  ·refine z5g (js := q2c s sh.env) (fun i sh' hk => q9.frz p hcv (hs i) hk) sh.env _ (fun j hj => hj) fun i => ?_
   exact q2g hE.1 (hs.k8 p) i
mutual
theorem V.y0e (s : S) (A' : Key → Option O) : ∀ x : V, x.q1p (s.wA A') = x.q1p s
 | .agg τ vs => by simp only [V.q1p]; rw [V.z7A s A' vs]
 | .d _ _ | .sl _ _ _ _ | .ts _ _ _ | .emp _ _ | .nilc | .ptr _ _ _ | .cptr _ _ | .mp _ | .fn _ _ | .top _ | .any | .tup _ | .sr _ _ _ _ _ _ _ => by simp only [V.q1p]; exact y0c s A' _
theorem V.z7A (s : S) (A' : Key → Option O) : ∀ xs : List V, V.q16 (s.wA A') xs = V.q16 s xs
 | [] => rfl
 | x :: xs => by simp only [V.q16]; rw [V.y0e s A' x, V.z7A s A' xs]
end
mutual
theorem V.y5l (s : S) (A' : Key → Option O) : ∀ (sh : Sh) (x : V), V.frz (s.wA A') sh x = V.frz s sh x
 | .d _, x => by simp only [V.frz]; exact V.y0e s A' x
 | .agg _ l, x => by simp only [V.frz]; split <;> (try rfl); rw [V.y2p s A' l]
 | .sl _ _ _, x | .ts _ _, x | .sr _ _ _ _ _, x | .cptr _, x | .arr _, x | .as _, x | .vec _ _ _, x | .fnc _ _, x => by simp only [V.frz]
theorem V.y2p (s : S) (A' : Key → Option O) : ∀ (l : List Sh) (xs : List V), V.q2R (s.wA A') l xs = V.q2R s l xs
 | [], xs => by simp only [V.q2R]
 | _ :: _, [] => by simp only [V.q2R]
 | sh :: l, x :: xs => by simp only [V.q2R]; rw [V.y5l s A' sh x, V.y2p s A' l xs]
end
theorem z5r (s : S) (A' : Key → Option O) : ∀ l : List (Nat × Sh), q2c (s.wA A') l = q2c s l
 | [] => rfl
 | (i, sh) :: l => by simp only [q2c]; rw [z5r s A' l]; rfl
theorem z7I (s0 : S) (A' : Key → Option O) : ∀ (l : List (Nat × Sh)) (s : S), q3i (s0.wA A') l (s.wA A') = (q3i s0 l s).wA A'
 | [], _ => rfl
 | (i, sh) :: l, s => by
  simp only [q3i]
  rw [← z7I s0 A' l]
  congr 1
  show (match V.q8K sh (s0.get i) with
   | [] => s.wA A'
   | _ => (s.wA A').set (some i) (V.frz (s0.wA A') sh (s0.get i))) = _
  rw [V.y5l]
  split <;> rfl
theorem y8A (sh : SSh) (s : S) (A' : Key → Option O) : z0f sh (s.wA A') = (z0f sh s).wA A' := by
 unfold z0f
 rw [z5r]
 split
 ·rfl
 ·rw [z3L]; exact z7I s A' sh.env _
end Go.E
namespace Go.E
open Go
def q6B {R : Type} : Key → (Key → Option R) → Option R
 | .l 0, K => K (.l 0)
 | .l (n + 1), K => K (.l (n + 1))
 | .g k, K => q6B k fun k => K (.g k)
theorem q4n {R : Type} : ∀ (k : Key) (K : Key → Option R), q6B k K = K k
 | .l 0, K => rfl
 | .l (n + 1), K => rfl
 | .g k, K => by simp only [q6B, q4n k]
mutual
def q6A {R : Type} : V → (V → Option R) → Option R
 | .d τ c, K => K (.d τ c)
 | .sl eb e cs t, K => K (.sl eb e cs t)
 | .ts eb e cs, K => K (.ts eb e cs)
 | .emp eb e, K => K (.emp eb e)
 | .nilc, K => K .nilc
 | .ptr k q τ, K => q6B k fun k => K (.ptr k q τ)
 | .cptr τ c, K => K (.cptr τ c)
 | .sr k q lo n cp eb e, K => q6B k fun k => K (.sr k q lo n cp eb e)
 | .mp k, K => q6B k fun k => K (.mp k)
 | .agg τ l, K => z2z l fun l => K (.agg τ l)
 | .fn f l, K => K (.fn f l)
 | .tup l, K => z2z l fun l => K (.tup l)
 | .top τ, K => K (.top τ)
 | .any, K => K .any
def z2z {R : Type} : List V → (List V → Option R) → Option R
 | [], K => K []
 | x :: l, K => q6A x fun x => z2z l fun l => K (x :: l)
end
mutual
theorem q9j {R : Type} : ∀ (x : V) (K : V → Option R), q6A x K = K x
 | .d _ _, _ | .sl _ _ _ _, _ | .ts _ _ _, _ | .emp _ _, _ | .nilc, _ | .cptr _ _, _ | .fn _ _, _ | .top _, _ | .any, _ => by simp only [q6A]
 | .ptr k q τ, K => by simp only [q6A, q4n]
 | .sr k q lo n cp eb e, K => by simp only [q6A, q4n]
 | .mp k, K => by simp only [q6A, q4n]
 | .agg τ l, K => by simp only [q6A, z3X l]
 | .tup l, K => by simp only [q6A, z3X l]
theorem z3X {R : Type} : ∀ (l : List V) (K : List V → Option R), z2z l K = K l
 | [], K => by simp only [z2z]
 | x :: l, K => by simp only [z2z, q9j x, z3X l]
end
def y3C {R : Type} : List (Nat × V) → (List (Nat × V) → Option R) → Option R
 | [], K => K []
 | (i, x) :: l, K => q6A x fun x => y3C l fun l => K ((i, x) :: l)
theorem y2s {R : Type} : ∀ (l : List (Nat × V)) (K : List (Nat × V) → Option R), y3C l K = K l
 | [], K => rfl
 | (i, x) :: l, K => by simp only [y3C, q9j, y2s l]
def y0t {R : Type} : List (Key × O) → (List (Key × O) → Option R) → Option R
 | [], K => K []
 | (k, .box x) :: l, K => q6B k fun k => q6A x fun x => y0t l fun l => K ((k, .box x) :: l)
 | (k, o) :: l, K => q6B k fun k => y0t l fun l => K ((k, o) :: l)
theorem y2r {R : Type} : ∀ (l : List (Key × O)) (K : List (Key × O) → Option R), y0t l K = K l
 | [], K => rfl
 | (k, o) :: l, K => by
  cases o <;> simp only [y0t, q4n, q9j, y2r l]
def y0q {R : Type} : List (Nat × Option Nat) → (List (Nat × Option Nat) → Option R) → Option R
 | [], K => K []
 | (i, none) :: l, K => y0q l fun l => K ((i, none) :: l)
 | (i, some n) :: l, K => y0q l fun l => K ((i, some n) :: l)
theorem y2q {R : Type} : ∀ (l : List (Nat × Option Nat)) (K : List (Nat × Option Nat) → Option R), y0q l K = K l
 | [], K => rfl
 | (i, o) :: l, K => by cases o <;> simp only [y0q, y2q l]
def frc {R : Type} (s : S) (K : S → Option R) : Option R :=
 match s with
 | ⟨env, loc, A, tk⟩ => y3C env fun env => y0t loc fun loc => y0q tk fun tk => K ⟨env, loc, A, tk⟩
theorem z5h {R : Type} (s : S) (K : S → Option R) : frc s K = K s := by
 unfold frc
 simp only [y2s, y2r, y2q]
def z6C {R : Type} : List Cap → (List Cap → Option R) → Option R
 | [], K => K []
 | .c τ :: l, K => z6C l fun l => K (.c τ :: l)
 | .v x :: l, K => q6A x fun x => z6C l fun l => K (.v x :: l)
theorem z6B {R : Type} : ∀ (l : List Cap) (K : List Cap → Option R), z6C l K = K l
 | [], K => rfl
 | .c τ :: l, K => by simp only [z6C, z6B l]
 | .v x :: l, K => by simp only [z6C, q9j, z6B l]
mutual
def q5W {R : Type} : Sh → (Sh → Option R) → Option R
 | .sr k q cp eb e, K => q6B k fun k => K (.sr k q cp eb e)
 | .vec k eb e, K => q6B k fun k => K (.vec k eb e)
 | .agg τ l, K => z1Q l fun l => K (.agg τ l)
 | .as v, K => q6A v fun v => K (.as v)
 | .d τ, K => K (.d τ)
 | .sl eb e t, K => K (.sl eb e t)
 | .ts eb e, K => K (.ts eb e)
 | .cptr τ, K => K (.cptr τ)
 | .arr e, K => K (.arr e)
 | .fnc f l, K => z6C l fun l => K (.fnc f l)
def z1Q {R : Type} : List Sh → (List Sh → Option R) → Option R
 | [], K => K []
 | x :: l, K => q5W x fun x => z1Q l fun l => K (x :: l)
end
mutual
theorem z3Y {R : Type} : ∀ (x : Sh) (K : Sh → Option R), q5W x K = K x
 | .d _, _ | .sl _ _ _, _ | .ts _ _, _ | .cptr _, _ | .arr _, _ => by simp only [q5W]
 | .sr _ _ _ _ _, K => by simp only [q5W, q4n]
 | .vec _ _ _, K => by simp only [q5W, q4n]
 | .as v, K => by simp only [q5W, q9j]
 | .fnc f l, K => by simp only [q5W, z6B]
 | .agg τ l, K => by simp only [q5W, z7J l]
theorem z7J {R : Type} : ∀ (l : List Sh) (K : List Sh → Option R), z1Q l K = K l
 | [], K => by simp only [z1Q]
 | x :: l, K => by simp only [z1Q, z3Y x, z7J l]
end
def z8G {R : Type} : List (Nat × Sh) → (List (Nat × Sh) → Option R) → Option R
 | [], K => K []
 | (i, x) :: l, K => q5W x fun x => z8G l fun l => K ((i, x) :: l)
theorem y0s {R : Type} : ∀ (l : List (Nat × Sh)) (K : List (Nat × Sh) → Option R), z8G l K = K l
 | [], K => rfl
 | (i, x) :: l, K => by simp only [z8G, z3Y, y0s l]
def z5j {R : Type} : List (Key × OSh) → (List (Key × OSh) → Option R) → Option R
 | [], K => K []
 | (k, .box x) :: l, K => q6B k fun k => q5W x fun x => z5j l fun l => K ((k, .box x) :: l)
 | (k, o) :: l, K => q6B k fun k => z5j l fun l => K ((k, o) :: l)
theorem y0r {R : Type} : ∀ (l : List (Key × OSh)) (K : List (Key × OSh) → Option R), z5j l K = K l
 | [], K => rfl
 | (k, o) :: l, K => by cases o <;> simp only [z5j, q4n, z3Y, y0r l]
def z5i {R : Type} (s : SSh) (K : SSh → Option R) : Option R :=
 match s with
 | ⟨env, loc⟩ => z8G env fun env => z5j loc fun loc => K ⟨env, loc⟩
theorem z3Z {R : Type} (s : SSh) (K : SSh → Option R) : z5i s K = K s := by
 unfold z5i
 simp only [y0s, y0r]
def y5F : List V → Bool
 | [] => false
 | .cptr _ _ :: _ => true
 | _ :: l => y5F l
def y06 : List V → List Cap
 | [] => []
 | .cptr τ _ :: l => .c τ :: y06 l
 | x :: l => .v x :: y06 l
mutual
def V.y36 : V → Sh
 | .d τ _ => (match τ with
  | .ptr => .as (.d .ptr .nil)
  | .map => .as (.d .map .nil)
  | .func => .as (.d .func .nil)
  | τ => .d τ)
 | .sl eb e _ _ => .d (.slice eb e)
 | .ts eb e _ => .ts eb e
 | .sr k q _ _ cp eb e => (match q, cp with
  | [], none => .vec k eb e
  | q, cp => .sr k q cp.isSome eb e)
 | .cptr τ _ => .cptr τ
 | .agg τ vs => .agg τ (V.y7T vs)
 | .tup _ => .as .any
 | .fn f vs => bif y5F vs then .fnc f (y06 vs) else .as (.fn f vs)
 | x => .as x
def V.y7T : List V → List Sh
 | [] => []
 | x :: xs => x.y36 :: V.y7T xs
end
mutual
def V.z5a : V → List Key
 | .ptr k _ _ | .mp k | .sr k _ _ _ _ _ _ => [k]
 | .agg _ vs | .fn _ vs | .tup vs => V.y46 vs
 | _ => []
def V.y46 : List V → List Key
 | [] => []
 | x :: xs => x.z5a ++ V.y46 xs
end
def O.z5a : O → List Key
 | .box x => x.z5a
 | .map _ _ _ => []
 | .it _ _ | .dead _ => []
def y6G : Key → List Key → Bool
 | _, [] => false
 | k, j :: l => if j = k then true else y6G k l
def z4G (s : S) : Nat → List Key → List Key → List Key
 | 0, _, acc => acc
 | _, [], acc => acc
 | f + 1, k :: ks, acc => if y6G k acc = true then z4G s f ks acc else (match s.obj k with
  | some o => z4G s f (o.z5a ++ ks) (acc ++ [k])
  | none => z4G s f ks acc)
structure Hint where
 live : List Nat
 new : List (Nat × Sh)
 roots : List Key
 obs : List (Key × OSh)
 drop : List Key
 vecs : List Ty := []
def y7Q (s : S) : List Nat → List Key
 | [] => []
 | i :: l => (s.get i).z5a ++ y7Q s l
def y1g (s : S) : List Nat → List (Nat × Sh)
 | [] => []
 | i :: l => (match s.get i with
  | .any => y1g s l
  | x => (i, x.y36) :: y1g s l)
def z2v (e : Ty) : List Ty → Bool
 | [] => false
 | t :: l => if Ty.beq t e = true then true else z2v e l
def z8L : Key → Nat
 | .l n => 2 * n
 | .g k => 2 * z8L k + 1
def V1 : Nat := 1000000000000
mutual
def Sh.y52 (ts : List Ty) : Nat → Sh → V → Sh
 | b, .vec (.g k) eb e, _ => if z2v e ts = true then .vec (.l (V1 + 8 * z8L (.g k) + 2)) eb e else .vec (.g k) eb e
 | b, .as v, _ => (match v with
  | .emp eb e => if z2v e ts = true then .vec (.l b) eb e else .as v
  | v => .as v)
 | b, .ts eb e, x => (match x with
  | .emp _ _ => if z2v e ts = true then .vec (.l b) eb e else .ts eb e
  | _ => .ts eb e)
 | b, .agg τ l, x => (match x with
  | .agg _ xs => .agg τ (Sh.y7x ts (64 * b) l xs)
  | _ => .agg τ l)
 | _, s, _ => s
def Sh.y7x (ts : List Ty) : Nat → List Sh → List V → List Sh
 | b, s :: l, x :: xs => Sh.y52 ts b s x :: Sh.y7x ts (b + 1) l xs
 | _, _, _ => []
end
mutual
def Sh.y50 : Sh → List (Key × OSh)
 | .vec (.l a) _ e => if V1 ≤ a then [(.l a, .box (.arr e))] else []
 | .agg _ l => Sh.y7w l
 | _ => []
def Sh.y7w : List Sh → List (Key × OSh)
 | [] => []
 | s :: l => s.y50 ++ Sh.y7w l
end
def y2y (s : S) (ts : List Ty) : List (Nat × Sh) → List (Nat × Sh)
 | [] => []
 | (i, sh) :: l => (i, sh.y52 ts (V1 + 8 * i + 3) (s.get i)) :: y2y s ts l
def q64 (s : S) (ts : List Ty) : List (Key × OSh) → List (Key × OSh)
 | [] => []
 | (k, .box sh) :: l => (match k, sh with
  | .g k, .arr e => if z2v e ts = true then (.g k, .dead e) :: (.l (V1 + 8 * z8L (.g k) + 2), .box (.arr e)) :: q64 s ts l else (.g k, .box sh) :: q64 s ts l
  | k, sh => (match s.obj k with
   | some (.box x) => (k, .box (sh.y52 ts (V1 + 8 * z8L k + 1) x)) :: q64 s ts l
   | _ => (k, .box sh) :: q64 s ts l))
 | p :: l => p :: q64 s ts l
def y2x : List (Nat × Sh) → List (Key × OSh)
 | [] => []
 | (_, sh) :: l => sh.y50 ++ y2x l
def z6r : List (Key × OSh) → List (Key × OSh)
 | [] => []
 | (_, .box sh) :: l => sh.y50 ++ z6r l
 | _ :: l => z6r l
def y1e : List (Key × OSh) → List (Key × OSh) → List (Key × OSh)
 | [], acc => acc
 | (k, o) :: l, acc => if q8i acc k = true then y1e l acc else y1e l (acc ++ [(k, o)])
def y88 (s : S) (ts : List Ty) (sh : SSh) : SSh :=
 match ts with
 | [] => sh
 | ts => (match y2y s ts sh.env, q64 s ts sh.loc with
  | env, loc => ⟨env, y1e (y2x env ++ z6r loc) loc⟩)
def q6p (s : S) (h : Hint) : List Key → List (Key × OSh)
 | [] => []
 | k :: l => if y6G k h.drop = true then q6p s h l else if q8i h.obs k = true then q6p s h l else (match s.obj k with
  | some (.box x) => (k, .box (match x with
    | .d (.arr M e) _ => (match k, M with
     | _, _ => if z2v e h.vecs = true then .arr e else .d (.arr M e))
    | .d τ _ => .d τ
    | x => (match h.vecs with
     | [] => bif (c6 x).isSome then .d x.ty else x.q1A.y36
     | _ => x.y36))) :: q6p s h l
  | some (.map kτ vτ _) => (k, .map kτ vτ) :: q6p s h l
  | some (.it _ _) => (k, .it) :: q6p s h l
  | some (.dead (.arr _ e)) => (k, .dead e) :: q6p s h l
  | _ => q6p s h l)
def y0T : List (Key × O) → List Key
 | [] => []
 | (.g k, .dead _) :: l => .g k :: y0T l
 | _ :: l => y0T l
def y6E (h : Hint) (s : S) : SSh :=
 y88 s h.vecs ⟨y1g s h.live ++ h.new, h.obs ++ q6p s h (z4G s 1000 (y7Q s h.live ++ h.roots) [] ++ y0T s.loc)⟩
def z0h : List (Key × OSh) → S → S
 | [], s => s
 | (k, .box _) :: l, s => (match s.obj k with
  | some (.box x) => z0h l (s.put k (.box x.q1A))
  | _ => z0h l s)
 | _ :: l, s => z0h l s
def q5H : List (Nat × Sh) → S → S
 | [], s => s
 | (i, sh) :: l, s => (match sh with
  | .sl eb e t => (match s.get i with
   | .nilc => if s.known t = false then q5H l (S.set { s with tk := (t, some 0) :: s.tk } (some i) (.sl eb e [] t)) else q5H l s
   | .emp eb' e' => if eb' = eb ∧ e' = e ∧ s.known t = false then q5H l (S.set { s with tk := (t, some 0) :: s.tk } (some i) (.sl eb e [] t)) else q5H l s
   | _ => q5H l s)
  | _ => q5H l s)
mutual
def V.un : V → V → List (Nat × Nat)
 | .ptr (.l a) _ _, .ptr (.l b) _ _ => [(b, a)]
 | .mp (.l a), .mp (.l b) => [(b, a)]
 | .fn _ l, .fn _ l' => V.uns l l'
 | .tup l, .tup l' => V.uns l l'
 | _, _ => []
def V.uns : List V → List V → List (Nat × Nat)
 | x :: xs, y :: ys => V.un x y ++ V.uns xs ys
 | _, _ => []
end
def y30 : List Cap → List V → List (Nat × Nat)
 | .v y :: l, x :: xs => V.un y x ++ y30 l xs
 | .c _ :: l, _ :: xs => y30 l xs
 | _, _ => []
mutual
def Sh.un : Sh → V → List (Nat × Nat)
 | .sr (.l a) _ _ _ _, .sr (.l b) _ _ _ _ _ _ => [(b, a)]
 | .vec (.l a) _ _, .sr (.l b) _ _ _ _ _ _ => [(b, a)]
 | .as v, x => V.un v x
 | .fnc _ l, .fn _ xs => y30 l xs
 | .agg _ l, .agg _ xs => Sh.uns l xs
 | _, _ => []
def Sh.uns : List Sh → List V → List (Nat × Nat)
 | s :: l, x :: xs => s.un x ++ Sh.uns l xs
 | _, _ => []
end
def y2S (s : S) : List (Nat × Sh) → List (Nat × Nat)
 | [] => []
 | (i, sh) :: l => sh.un (s.get i) ++ y2S s l
def z8z (s : S) : List (Nat × Sh) → List (Nat × Nat)
 | [] => []
 | (i, sh) :: l => (match sh, s.get i with
  | .sl _ _ t, .sl _ _ _ t' => (t', t) :: z8z s l
  | _, _ => z8z s l)
def y7J : List (Key × OSh) → Key → Option OSh
 | [], _ => none
 | (j, x) :: l, k => if j = k then some x else y7J l k
def y7z (s : S) (l : List (Key × OSh)) (b a : Key) : List (Nat × Nat) :=
 match y7J l a, s.obj b with
 | some (.box sh), some (.box x) => sh.un x
 | _, _ => []
def unG (s : S) (l0 : List (Key × OSh)) : List (Key × OSh) → List (Nat × Nat)
 | [] => []
 | (.g k, _) :: l => y7z s l0 (.g k) (.g k) ++ unG s l0 l
 | (.l _, _) :: l => unG s l0 l
def z8A (s : S) (l : List (Key × OSh)) : Nat → List (Nat × Nat) → List (Nat × Nat) → List (Nat × Nat)
 | 0, _, acc => acc
 | _, [], acc => acc
 | f + 1, (b, a) :: todo, acc => (match look acc b with
  | some _ => z8A s l f todo acc
  | none => z8A s l f (y7z s l (.l b) (.l a) ++ todo) ((b, a) :: acc))
def z5T : List (Nat × Nat) → Bool
 | [] => true
 | (a, b) :: l => Nat.beq a b && z5T l
def z6V (l : List (Nat × Nat)) (n : Nat) : Nat := (look l n).getD (n + 1000000000)
def z04 (s : S) : List (Nat × Sh) → Bool
 | [] => false
 | (i, sh) :: l => (match sh, s.get i with
  | .sl _ _ t, .nilc => s.known t || z04 s l
  | .sl _ _ t, .emp _ _ => s.known t || z04 s l
  | _, _ => z04 s l)
def y3c (sh : SSh) (s : S) : S :=
 match z8A s sh.loc 1000 (y2S s sh.env ++ unG s sh.loc sh.loc) [], z8z s sh.env with
 | ps, ts => bif z5T ps && z5T ts && !z04 s sh.env then s
  else bif q99 (z6V ps) (q1X s.loc) && q99 (z6V ts) (q1R s.tk) then s.ren (z6V ps) (z6V ts) else s
mutual
def Sh.ad : Sh → V → List (Key × Nat)
 | .vec (.l a) _ _, .sr (.g b) _ _ _ _ _ _ => [(.g b, a + T0)]
 | .agg _ l, .agg _ xs => Sh.ads l xs
 | _, _ => []
def Sh.ads : List Sh → List V → List (Key × Nat)
 | s :: l, x :: xs => s.ad x ++ Sh.ads l xs
 | _, _ => []
end
def y7S (s : S) : List (Nat × Sh) → List (Key × Nat)
 | [] => []
 | (i, sh) :: l => sh.ad (s.get i) ++ y7S s l
def z8O (s : S) : List (Key × OSh) → List (Key × Nat)
 | [] => []
 | (k, .box sh) :: l => (match s.obj k with
  | some (.box x) => sh.ad x ++ z8O s l
  | _ => z8O s l)
 | _ :: l => z8O s l
def y7K {α : Type} : List (Key × α) → List Key
 | [] => []
 | (k, _) :: l => k :: y7K l
def y1d (ks : List Key) : List (Key × Nat) → S → S
 | [], s => s
 | (K, t) :: l, s => y1d ks l (z2f K t ks s)
def y5N : List (Key × OSh) → Bool
 | [] => false
 | (_, .box (.arr _)) :: _ => true
 | _ :: l => y5N l
def y2P (sh : SSh) (s : S) : S :=
 match y5N sh.loc with
 | false => s
 | true => (match y1d (y7K sh.loc) (y7S s sh.env ++ z8O s sh.loc) s with
  | s => q7c sh.loc (z0Z sh.env s))
def q8O {R : Type} (sh : SSh) (s : S) (K : List C → List Es → Option R) : Option R :=
 frc (z0f sh s) fun s => frc (y2P sh s) fun s => frc (q5H sh.env (z0h sh.loc (y3c sh s))) fun s => y3W sh s K
theorem y8V {R : Type} (sh : SSh) (s : S) (K : List C → List Es → Option R) : q8O sh s K = y3W sh (q5H sh.env (z0h sh.loc (y3c sh (y2P sh (z0f sh s))))) K := by
 unfold q8O
 simp only [z5h]
def WkA (s s' : S) : Prop := s'.A = s.A ∧ ∀ (X : Cx) (n : Nat) (A' : Key → Option O), leA s.A A' → q00 X n (s.wA A') (s'.wA A')
theorem WkA.refl (s : S) : WkA s s := ⟨rfl, fun _ _ _ _ => q00.refl _⟩
theorem WkA.trans {a b c : S} (h : WkA a b) (h' : WkA b c) : WkA a c :=
 ⟨h'.1.trans h.1, fun X n A' hA => (h.2 X n A' hA).trans (h'.2 X n A' (by rw [h.1]; exact hA))⟩
theorem z2D : ∀ (l : List (Key × OSh)) (s : S), WkA s (z0h l s)
 | [], s => WkA.refl s
 | (k, .box _) :: l, s => by
  simp only [z0h]
  split
  ·rename_i x hx
   exact WkA.trans (b := s.put k (.box x.q1A)) ⟨rfl, fun X n A' hA => y4h (W0 hA hx)⟩ (z2D l _)
  ·exact z2D l s
 | (_, .map _ _) :: l, s | (_, .dead _) :: l, s | (_, .it) :: l, s => z2D l s
theorem q5j : ∀ (l : List (Nat × Sh)) (s : S), WkA s (q5H l s)
 | [], s => WkA.refl s
 | (i, sh) :: l, s => by
  simp only [q5H]
  split
  ·rename_i eb e t
   have one : ∀ (hu : s.known t = false) (ht : s.get i = .nilc ∨ s.get i = .emp eb e), WkA s (S.set { s with tk := (t, some 0) :: s.tk } (some i) (.sl eb e [] t)) := fun hu ht =>
    ⟨rfl, fun X n A' hA => y5Y (s := s.wA A') hu ht⟩
   split
   ·rename_i hx
    split
    ·rename_i hu
     exact (one hu (.inl hx)).trans (q5j l _)
    ·exact q5j l s
   ·rename_i eb' e' hx
    split
    ·rename_i hu
     obtain ⟨rfl, rfl, hu⟩ := hu
     exact (one hu (.inr hx)).trans (q5j l _)
    ·exact q5j l s
   ·exact q5j l s
  ·exact q5j l s
theorem y8f (sh : SSh) (s : S) : WkA s (y3c sh s) := by
 unfold y3c
 dsimp only
 generalize z8A s sh.loc 1000 (y2S s sh.env ++ unG s sh.loc sh.loc) [] = ps
 generalize z8z s sh.env = ts
 cases z5T ps && z5T ts && !z04 s sh.env
 ·cases hi : q99 (z6V ps) (q1X s.loc) && q99 (z6V ts) (q1R s.tk)
  ·exact WkA.refl s
  ·simp only [Bool.and_eq_true] at hi
   exact ⟨rfl, fun X n A' _ => y5Z (s := s.wA A') _ _ hi.1 hi.2⟩
 ·exact WkA.refl s
theorem z73 (ks : List Key) : ∀ (l : List (Key × Nat)) (s : S), WkA s (y1d ks l s)
 | [], s => WkA.refl s
 | (K, t) :: l, s => WkA.trans (b := z2f K t ks s) (y5O K t ks s) (z73 ks l _)
theorem y8Z {X : Cx} {n : Nat} {Γ0 : G} {t : Nat} {e : Ty} {a : Act} {w : World} {s : S} (ht : s.obj (.l t) = none) (h : At X n Γ0 s a w) : At X n Γ0 (s.put (.l t) (.box (.d (.arr 0 e) (.agg [])))) a w := by
 obtain ⟨Γ, g1, g3, c, hs, hn, hf, hA⟩ := h
 refine ⟨Γ, g1, g3, ⟨c.hH, c.hZ, c.hκ, fun j o hj => ?_, fun j hj => ?_, c.q6y (fun j hj => ?_), c.tok, c.tdom, c.hgl, c.hoo, c.hσ⟩, hs, hn, hf, hA⟩
 ·rw [Z7] at hj
  split at hj
  ·rename_i e1; subst e1; cases hj
   exact .inl ⟨c.q8T ht, e, rfl⟩
  ·exact c.obj j o hj
 ·rw [Z7]
  split
  ·simp
  ·exact c.dom j hj
 ·unfold S.o5 at hj ⊢
  rw [Z7]
  split
  ·rename_i e1; subst e1; rw [ht] at hj; cases hj
  ·exact hj
theorem q9C : ∀ (l : List (Nat × Ty)) (s : S), WkA s (z2j l s)
 | [], s => WkA.refl s
 | (t, e) :: l, s => by
  simp only [z2j]
  split
  ·rename_i h
   have h' : s.obj (.l t) = none := by simpa using h
   exact WkA.trans (b := s.put (.l t) (.box (.d (.arr 0 e) (.agg [])))) ⟨rfl, fun X n A' hA Γ0 a w hat => y8Z (s := s.wA A') (by rw [q27]; exact h') hat⟩ (q9C l _)
  ·exact q9C l s
theorem q9.q0e {Γ : G} {sh : Sh} {x : V} {v : Value} (h : q9 Γ x v) : q9 Γ (V.q0e sh x) v := by
 by_cases hp : x.plain = true
 ·obtain ⟨h1, h2⟩ := (x3 hp).1 h
  exact (x3 (by rw [V.z4m]; exact hp)).2 ⟨q8.q0e sh x h1, by rw [V.q8V]; exact h2⟩
 ·have : V.q0e sh x = x := by
   cases x <;> simp [V.plain] at hp <;> (unfold V.q0e; split <;> rfl)
  rw [this]; exact h
theorem q9.z0X {Γ : G} {sh : Sh} {x : V} {v : Value} (h : q9 Γ x v) : q9 Γ (V.z0X sh x) v := by
 unfold V.z0X
 split
 ·have := Y1 h
  subst this
  exact z29
 ·exact h.q0e
theorem z0Y : ∀ (l : List (Nat × Sh)) (s : S), WkA s (z0Z l s)
 | [], s => WkA.refl s
 | (i, sh) :: l, s => by
  simp only [z0Z]
  split
  ·exact z0Y l s
  ·refine WkA.trans (b := s.set (some i) (V.z0X sh (s.get i))) ⟨rfl, fun X n A' hA Γ0 a w hat => ?_⟩ (WkA.trans (q9C _ _) (z0Y l _))
   obtain ⟨Γ, g1, g3, c, hs, hn, hf, hA⟩ := hat
   refine ⟨Γ, g1, g3, show z8 Γ w ((s.wA A').set (some i) (V.z0X sh (s.get i))) from q7R c _ _, fun j => ?_, hn, hf, hA⟩
   have hj := hs j
   show q9 Γ (S.get (S.set (s.wA A') (some i) (V.z0X sh (s.get i))) j) _
   rw [q3w]
   split
   ·rename_i e
    cases e
    exact q9.z0X hj
   ·exact hj
theorem q52 : ∀ (l : List (Key × OSh)) (s : S), WkA s (q7c l s)
 | [], s => WkA.refl s
 | (k, .box sh) :: l, s => by
  simp only [q7c]
  split
  ·rename_i x hx
   split
   ·exact q52 l s
   ·refine WkA.trans (b := s.put k (.box (V.q0e sh x))) ⟨rfl, fun X n A' hA Γ0 a w hat => ?_⟩ (WkA.trans (q9C _ _) (q52 l _))
    obtain ⟨Γ, g1, g3, c, hs, hn, hf, hAok⟩ := hat
    refine ⟨Γ, g1, g3, c.y24 (W0 hA hx) (fun hown => ?_) (fun hv => ?_), hs, hn, hf, hAok⟩
    ·obtain ⟨b, cells, T, h1, h2, h3, h4, h5, h6, h7, h8⟩ := hown
     exact ⟨b, cells, T, by rw [V.q8V]; exact h1, h2, h3, h4, by rw [V.q8V]; exact h5, by rw [V.q8V]; exact q8.q0e sh x h6, by rw [V.z4m]; exact h7, by rw [V.z7b]; exact h8⟩
    ·obtain ⟨e, rfl⟩ := hv
     have : V.q0e sh (.d (.arr 0 e) (.agg [])) = .d (.arr 0 e) (.agg []) := by unfold V.q0e; split <;> rfl
     rw [this]; exact ⟨e, rfl⟩
  ·exact q52 l s
 | (_, .map _ _) :: l, s | (_, .dead _) :: l, s | (_, .it) :: l, s => q52 l s
theorem y7X (sh : SSh) (s : S) : WkA s (y2P sh s) := by
 unfold y2P
 split
 ·exact WkA.refl s
 ·exact ((z73 _ _ s).trans (z0Y _ _)).trans (q52 _ _)
theorem y8B (sh : SSh) (s : S) : WkA s (z0f sh s) := by
 refine ⟨?_, fun X n A' hA Γ0 a w hat => ?_⟩
 ·unfold z0f
  split
  ·rfl
  ·rw [(z0g _ _ _).2.2, (q6j _ _).2]
 ·rw [← y8A]
  exact y9O hat
def nbV : V → V
 | .d τ c => (match τ with
  | .bool => .d .bool (.bool c.toBool)
  | τ => .d τ c)
 | x => x
def nbE : List (Nat × V) → List (Nat × V)
 | [] => []
 | (i, x) :: l => (i, nbV x) :: nbE l
def nbS (s : S) : S := { s with env := nbE s.env }
theorem y8l {Γ : G} {x : V} {v : Value} (h : q9 Γ x v) : q9 Γ (nbV x) v := by
 cases x <;> (try exact h)
 rename_i τ c
 cases τ <;> (try exact h)
 obtain ⟨_, e⟩ := Y9 h
 rw [e] at h
 exact h
theorem z94 : ∀ (l : List (Nat × V)) (i : Nat), look (nbE l) i = (look l i).map nbV
 | [], _ => rfl
 | (j, x) :: l, i => by
  simp only [nbE, look]
  by_cases e : j = i
  ·rw [if_pos e, if_pos e]; rfl
  ·rw [if_neg e, if_neg e]; exact z94 l i
theorem z9V (s : S) : WkA s (nbS s) := by
 refine ⟨rfl, fun X n A' _ => ?_⟩
 rintro Γ0 a w ⟨Γ, g1, g3, c, hs, hn, hf, hA⟩
 refine ⟨Γ, g1, g3, c.env _, fun i => ?_, hn, hf, hA⟩
 have := hs i
 have e : ((nbS s).wA A').get i = nbV ((s.wA A').get i) := by
  show (look (nbE s.env) i).getD .any = nbV ((look s.env i).getD .any)
  rw [z94]
  cases look s.env i <;> rfl
 rw [e]
 exact y8l this
def q2X (sh : SSh) (A : Key → Option O) (ds : List C) (ms : List Es) : S := nbS (q6X sh A ds ms)
theorem q9u {R : Type} {r : R} {sh : SSh} {s : S} {K : List C → List Es → Option R} (h : q8O sh s K = some r) : ∃ ds ms, K ds ms = some r ∧ WkA s (q2X sh s.A ds ms) := by
 have key : ∃ ds ms, K ds ms = some r ∧ WkA s (q6X sh s.A ds ms) := by
  rw [y8V] at h
  obtain ⟨ds, ms, h1, h2⟩ := y8U h
  have h3 := ((((y8B sh s).trans (y7X sh _)).trans (y8f sh _)).trans (z2D sh.loc _)).trans (q5j sh.env _)
  refine ⟨ds, ms, h1, rfl, fun X n A' hA => ?_⟩
  have := (h3.2 X n A' hA).trans (h2 X n A' (by rw [h3.1]; exact hA))
  exact this
 obtain ⟨ds, ms, h1, h2⟩ := key
 exact ⟨ds, ms, h1, h2.trans (z9V _)⟩
def z9S (j : Nat) : List Nat → List Nat
 | [] => []
 | i :: l => if i = j then z9S j l else i :: z9S j l
def fxS (t j : Nat) (s : S) : S := ⟨q1w s (z9S t (slotsOf s.env)), q2k s.loc (z9S j (q1X s.loc)) s.loc, s.A, q0J s (q1R s.tk)⟩
def fxB (t j : Nat) (s : S) : Bool :=
 q4r (fxS t j s).loc && q1o (Q0 (fxS t j s).loc) (J2 (fxS t j s).tk) (fxS t j s).loc && q5d (fxS t j s).loc s.loc && q32 (Q0 (fxS t j s).loc) (J2 (fxS t j s).tk) (fxS t j s).env && !(Q0 (fxS t j s).loc j)
def y6V (t : Nat) (s : S) : S :=
 match s.get t with
 | .ptr (.l j) [] τ => (match s.obj (.l j) with
  | some (.box x) => (match c6 x with
   | some cc => if x.ty = τ ∧ fxB t j s = true then (fxS t j s).set (some t) (.cptr τ cc) else s
   | none => s)
  | _ => s)
 | _ => s
def y3X (t : Nat) (s : S) : S :=
 match s.get t with
 | .ptr k [] _ => (match s.obj k with
  | some (.box x) => (match x with
   | .d _ _ => s
   | x => (match c6 x with
    | some c => s.put k (.box (.d x.ty c))
    | none => s))
  | _ => s)
 | _ => s
theorem y7l (t : Nat) (s : S) : WkA s (y3X t s) := by
 unfold y3X
 split
 ·split
  ·rename_i x hx
   split
   ·exact WkA.refl s
   ·split
    ·rename_i c hc
     refine ⟨rfl, fun X n A' hA Γ0 a w hat => ?_⟩
     obtain ⟨Γ, g1, g3, cc, hs, hn, hf, hAok⟩ := hat
     have hin : V.s6 x (.d x.ty c) := by
      cases x <;> first | exact ⟨hc, rfl⟩ | (simp [c6] at hc)
     refine ⟨Γ, g1, g3, cc.y24 (W0 hA hx) (fun hown => ?_) (fun hv => ?_), hs, hn, hf, hAok⟩
     ·obtain ⟨b, cells, T, h1, h2, h3, h4, h5, h6, h7, h8⟩ := hown
      exact ⟨b, cells, T, h1, h2, h3, h4, h5, by have := (q8.s6 _ _ hin h6).1; simp only [q8] at this ⊢; exact this, rfl, rfl⟩
     ·obtain ⟨e, rfl⟩ := hv
      simp only [c6, Option.some.injEq] at hc
      subst hc
      exact ⟨e, rfl⟩
    ·exact WkA.refl s
  ·exact WkA.refl s
 ·exact WkA.refl s
def y6K (t : Nat) (s : S) : S :=
 match s.get t with
 | .sr (.l j) [] lo n _ eb e => (match s.obj (.l j) with
  | some (.box (.d (.arr M e') cc)) => if e' = e then ({ s with loc := (.l j, .dead (.arr M e)) :: s.loc } : S).set (some t) (.d (.slice eb e) (.slice ((cc.elems.drop lo).take n))) else s
  | _ => s)
 | _ => s
theorem y8r (t : Nat) (s : S) : WkA s (y6K t s) := by
 unfold y6K
 split
 ·rename_i j lo n cp eb e hs
  split
  ·rename_i M e' cc ho
   split
   ·rename_i he
    subst he
    refine ⟨rfl, fun X n' A' hA Γ0 a w hat => ?_⟩
    obtain ⟨Γ, g1, g3, c, hsl, hn, hf, hAok⟩ := hat
    obtain ⟨Γ', gle, p, c', h⟩ := c.y9C (show (s.wA A').obj (.l j) = some (.box (.d (.arr M _) cc)) from ho)
    have hrep := hsl t
    rw [show (s.wA A').get t = _ from hs] at hrep
    have hv := h hrep
    refine ⟨Γ', g1.trans gle, gle.gl.trans g3, q7R (s := (({ s with loc := (.l j, .dead (.arr M _)) :: s.loc } : S).wA A')) c' (some t) _, fun i => ?_, hn, hf, hAok⟩
    rw [show ((({ s with loc := (.l j, .dead (.arr M _)) :: s.loc } : S).set (some t) (.d (.slice eb _) (.slice ((cc.elems.drop lo).take n)))).wA A').get i = (({ s with loc := (.l j, .dead (.arr M _)) :: s.loc } : S).set (some t) (.d (.slice eb _) (.slice ((cc.elems.drop lo).take n)))).get i from rfl, q3w]
    split
    ·rename_i hi
     cases hi
     exact hv
    ·exact (hsl i).k8 p
   ·exact WkA.refl s
  ·exact WkA.refl s
 ·exact WkA.refl s
def z6E : List (Nat × Nat) → S → S
 | [], s => s
 | (t, m) :: l, s => z6E l (if m = 6 then y6V t s else if m = 16 then y3X t s else if m = 17 then y6K (t - 1000000) s else s)
theorem y8C (t : Nat) (s : S) : WkA s (y6V t s) := by
 unfold y6V
 split
 ·rename_i j τ hs
  split
  ·rename_i x hx
   split
   ·rename_i cc hcc
    split
    ·rename_i h
     obtain ⟨hτ, h⟩ := h
     simp only [fxB, Bool.and_eq_true, Bool.not_eq_true'] at h
     obtain ⟨⟨⟨⟨h1, h2⟩, h3⟩, h4⟩, h5⟩ := h
     refine ⟨rfl, fun X n A' hA => ?_⟩
     have henv : ∀ l, q1w (s.wA A') l = q1w s l := by
      intro l
      induction l with
      | nil => rfl
      | cons i l ih => simp only [q1w, ih]; rfl
     have htk : ∀ l, q0J (s.wA A') l = q0J s l := by
      intro l
      induction l with
      | nil => rfl
      | cons i l ih => simp only [q0J, ih]; rfl
     exact y1k (s := s.wA A') (s' := (fxS t j s).wA A') hs (W0 hA hx) hcc hτ h5 rfl (q4l (s := s.wA A') _ h1) h2 (q5D h3)
      (by show tkW (s.wA A') (q0J s (q1R s.tk)); rw [← htk]; exact z4o)
      (by
       have h4' : q32 (Q0 (fxS t j s).loc) (J2 (fxS t j s).tk) (q1w (s.wA A') (z9S t (slotsOf s.env))) = true := by rw [henv]; exact h4
       have := z6G h4'
       rw [henv] at this
       exact this)
    ·exact WkA.refl s
   ·exact WkA.refl s
  ·exact WkA.refl s
 ·exact WkA.refl s
theorem q9k : ∀ (l : List (Nat × Nat)) (s : S), WkA s (z6E l s)
 | [], s => WkA.refl s
 | (t, m) :: l, s => by
  simp only [z6E]
  split
  ·exact (y8C t s).trans (q9k l _)
  ·split
   ·exact (y7l t s).trans (q9k l _)
   ·split
    ·exact (y8r _ s).trans (q9k l _)
    ·exact q9k l s
end Go.E
namespace Go.E
open Go
abbrev KD (R : Type) := List C → List Es → Option R
theorem y4Y {α : Type} (_ : String) (a : α) : ∃ b, b = a := ⟨a, rfl⟩
noncomputable def lid {α : Type} (n : String) (a : α) : α := Classical.choose (y4Y n a)
theorem Q9 {α : Type} (n : String) (a : α) : lid n a = a := Classical.choose_spec (y4Y n a)
noncomputable def jn {R : Type} : KD R → (KD R → Option R) → Option R := lid "" fun k b => b k
theorem s5 {R : Type} (k : KD R) (b : KD R → Option R) : jn k b = b k := by unfold jn; rw [Q9]
def y7I {R : Type} : Nat → (KD R → List C → List Es → Option R) → List C → List Es → Option R
 | 0, _, _, _ => none
 | n + 1, F, ds, ms => F (y7I n F) ds ms
noncomputable def c4 {R : Type} : Nat → (KD R → List C → List Es → Option R) → List C → List Es → Option R := lid "" y7I
theorem z4U {R : Type} (F : KD R → List C → List Es → Option R) (ds : List C) (ms : List Es) : c4 0 F ds ms = none := by unfold c4; rw [Q9]; rfl
theorem q9Y {R : Type} (n : Nat) (F : KD R → List C → List Es → Option R) (ds : List C) (ms : List Es) : c4 (n + 1) F ds ms = F (c4 n F) ds ms := by unfold c4; rw [Q9]; rfl
abbrev Hints := List (List Nat × Hint)
def hintOf : Hints → List Nat → Option Hint
 | [], _ => none
 | (q, h) :: l, p => if q = p then some h else hintOf l p
noncomputable def exJ {R : Type} (h : Option Hint) (s : S) (K : S → Option R) (body : (S → Option R) → Option R) : Option R :=
 match h with
 | none => body K
 | some h => z5i (y6E h s) fun sh => jn (fun ds ms => K (q2X sh s.A ds ms)) fun k => body fun s1 => q8O sh s1 k
theorem z1T {R : Type} {r : R} {h : Option Hint} {s : S} {K : S → Option R} {body : (S → Option R) → Option R} {P : S → Prop} {G : Prop} (hP : ∀ s1 s2, P s1 → WkA s1 s2 → P s2) (hA : ∀ s1, P s1 → s1.A = s.A) (hj : exJ h s K body = some r)
  (hb : ∀ k : S → Option R, body k = some r → (∃ s1, k s1 = some r ∧ P s1) ∨ G) : (∃ s2, K s2 = some r ∧ P s2) ∨ G := by
 unfold exJ at hj
 split at hj
 ·exact hb _ hj
 ·rename_i h'
  rw [z3Z, s5] at hj
  rcases hb _ hj with ⟨s1, h1, h2⟩ | hg
  ·obtain ⟨ds, ms, h3, h4⟩ := q9u h1
   rw [hA s1 h2] at h4
   exact .inl ⟨_, h3, hP _ _ h2 h4⟩
  ·exact .inr hg
def q3h : Code → Option (List Code × Nat × Code)
 | .seq a b => (match a with
  | .label l => some ([], l, b)
  | a => (match q3h b with
   | some x => some (a :: x.1, x.2)
   | none => none))
 | _ => none
def z2q (l : Nat) : List Code → Bool
 | [] => true
 | a :: as => (match findLabel a l with
  | some _ => false
  | none => z2q l as)
theorem z3j : ∀ (c : Code) {as : List Code} {r : Code} {l : Nat}, q3h c = some (as, l, r) → z2q l as = true → findLabel c l = some (.seq .skip r)
 | .seq a b, as, r, l, h, hn => by
  unfold q3h at h
  split at h
  ·cases h; simp [findLabel]
  ·split at h
   ·rename_i x hx
    obtain ⟨as', l', r'⟩ := x
    cases h
    simp only [z2q] at hn
    simp only [findLabel]
    cases ha : findLabel a l with
    | some y => rw [ha] at hn; cases hn
    | none => rw [ha] at hn; exact z3j b hx hn
   ·cases h
 | .skip, _, _, _, h, _ | .region _ _ _, _, _, _, h, _ | .cond _ _ _, _, _, _, h, _ | .block _ _, _, _, _, h, _ | .loop _, _, _, _, h, _ | .exit _, _, _, _, h, _ | .scope _, _, _, _, h, _ | .label _, _, _, _, h, _ | .goto _, _, _, _, h, _ | .ret, _, _, _, h, _ | .rangeFunc _ _ _ _, _, _, _, h, _ | .refuse _, _, _, _, h, _ => by simp [q3h] at h
def q5u {R : Type} (run : List Nat → Code → S → KE R → Option R) : List Code → List Nat → S → (S → Option R) → KE R → Option R
 | [], _, s, k, _ => k s
 | a :: l, p, s, k, K => run (0 :: p) a s fun e s1 => match e with
  | .normal => frc s1 fun s1 => q5u run l (1 :: p) s1 k K
  | e => K e s1
noncomputable def exC {R : Type} (X : Cx) (call : q1x R) (ext : q1P) (tbl : Nat → List (Nat × Nat)) (hs : Hints) (N : Nat) (n : Nat) : Nat → List Nat → Code → S → KE R → Option R
 | 0, _, _, _, _ => none
 | f + 1, p, c, s, K => match c with
  | .skip => K .normal s
  | .region id ops draw => exJ (hintOf hs p) (z6E (tbl id) s) (fun s => K .normal s) fun k => y3N X call ext (tbl id) n ops.toList draw (z6E (tbl id) s) k
  | .seq a b => exC X call ext tbl hs N n f (0 :: p) a s fun e s1 => match e with
    | .normal => frc s1 fun s1 => exC X call ext tbl hs N n f (1 :: p) b s1 K
    | e => K e s1
  | .cond (.tmp t) a b => exJ (hintOf hs p) s (fun s => K .normal s) fun k => (match s.get t with
    | .d .bool c => bif c.toBool then exC X call ext tbl hs N n f (2 :: p) a (s.lit t c true) fun e s1 => (match e with
      | .normal => k s1
      | e => K e s1) else exC X call ext tbl hs N n f (3 :: p) b (s.lit t c false) fun e s1 => (match e with
      | .normal => k s1
      | e => K e s1)
    | _ => none)
  | .block id a => exJ (hintOf hs p) s (fun s => K .normal s) fun k => exC X call ext tbl hs N n f (4 :: p) a s fun e s1 => match e with
     | .exit i => if i = id then k s1 else K (.exit i) s1
     | .normal => k s1
     | e => K e s1
  | .loop a => (match hintOf hs p with
    | none => z10 (exC X call ext tbl hs N n f (5 :: p) a) (slotsOf s.env) f s K
    | some h => z5i (y6E h s) fun sh => q8O sh s fun ds ms => c4 N (fun rec ds ms => exC X call ext tbl hs N n f (5 :: p) a (q2X sh s.A ds ms) fun e s1 => match e with
      | .normal => q8O sh s1 rec
      | e => K e s1) ds ms)
  | .exit id => K (.exit id) s
  | .scope a => (match hintOf hs p with
    | none => exC X call ext tbl hs N n f (6 :: p) a s fun e s1 => match e with
     | .goto _ => none
     | e => K e s1
    | some h => (match q3h a with
     | some (as, l, rest) => if z2q l as = true then q5u (exC X call ext tbl hs N n f) as (6 :: p) s
       (fun s1 => z5i (y6E h s1) fun sh => q8O sh s1 fun ds ms => c4 N (fun rec ds ms => exC X call ext tbl hs N n f (7 :: p) rest (q2X sh s1.A ds ms) fun e s2 => match e with
        | .goto l' => if l' = l then q8O sh s2 rec else none
        | e => K e s2) ds ms)
       (fun e s1 => match e with
        | .goto _ => none
        | e => K e s1) else none
     | none => none))
  | .label _ => K .normal s
  | .goto l => K (.goto l) s
  | .ret => K .ret s
  | _ => none
def Way (X : Cx) (n : Nat) (c : Code) (s : S) (e : Exit) (s' : S) : Prop :=
 s'.A = s.A ∧ ∀ A', leA s.A A' → ∀ Ψ : Exit → S → Prop, Ψ e (s'.wA A') → DC X n c (s.wA A') Ψ
theorem Way.q8r {X : Cx} {n : Nat} {c : Code} {s s1 s2 : S} {e : Exit} (h : Way X n c s e s1) (hw : WkA s1 s2) : Way X n c s e s2 := by
 refine ⟨hw.1.trans h.1, fun A' hA Ψ hΨ => ?_⟩
 refine (h.2 A' hA (fun e1 s3 => e1 = e ∧ s3 = s1.wA A') ⟨rfl, rfl⟩).post ?_
 rintro e1 s3 ⟨rfl, rfl⟩
 exact ⟨_, hw.2 X n A' (by rw [h.1]; exact hA), hΨ⟩
section
variable {X : Cx} {R : Type} {call : q1x R} {ext : q1P} (hP : x6 X.P = true) (hmo : X.P.follows .mixedOrders = true) (hc : q4s X call) (he : q34 X ext)
theorem z90 {c : Code} {n : Nat} {sh : SSh} {A0 : Key → Option O} {body : S → KE R → Option R} {K : KE R} {r : R} (hb : ∀ s (K : KE R), body s K = some r → z2h X n c s r K) :
  ∀ (N : Nat) (ds : List C) (ms : List Es), c4 N (fun rec ds ms => body (q2X sh A0 ds ms) fun e s1 => match e with
      | .normal => q8O sh s1 rec
      | e => K e s1) ds ms = some r → ∃ e s', K e s' = some r ∧ s'.A = A0 ∧ ∀ A', leA A0 A' → ∀ Ψ : Exit → S → Prop, Ψ e (s'.wA A') → ∀ (Γ0 : G) (a : Act) (w : World), At X n Γ0 ((q2X sh A0 ds ms).wA A') a w → Code.rounds X.P c (fun e a w => ∃ s', Ψ e s' ∧ At X n Γ0 s' a w) N a w
 | 0, ds, ms, h => by simp [z4U] at h
 | N + 1, ds, ms, h => by
  simp only [q9Y] at h
  obtain ⟨e0, s1, h1, hA1, hD⟩ := hb _ _ h
  have hother : ∀ (hne : e0 ≠ .normal), K e0 s1 = some r → ∃ e s', K e s' = some r ∧ s'.A = A0 ∧ ∀ A', leA A0 A' → ∀ Ψ : Exit → S → Prop, Ψ e (s'.wA A') → ∀ (Γ0 : G) (a : Act) (w : World), At X n Γ0 ((q2X sh A0 ds ms).wA A') a w → Code.rounds X.P c (fun e a w => ∃ s', Ψ e s' ∧ At X n Γ0 s' a w) (N + 1) a w := by
   intro hne h1
   refine ⟨e0, s1, h1, hA1, fun A' hA Ψ hΨ Γ0 a w hat => ?_⟩
   rw [rounds_succ]
   refine wp_mono (hD A' hA (fun e1 s2 => e1 = e0 ∧ s2 = s1.wA A') ⟨rfl, rfl⟩ Γ0 a w hat) ?_
   rintro e1 a1 w1 ⟨s2, ⟨rfl, rfl⟩, hat1⟩
   cases e1 with
   | normal => exact absurd rfl hne
   | exit _ | goto _ | ret | panic _ | outgrown => exact ⟨_, hΨ, hat1⟩
  cases e0 with
  | normal =>
   obtain ⟨ds', ms', h3, hw⟩ := q9u h1
   rw [show s1.A = A0 from hA1] at hw
   obtain ⟨e, s', h4, h5, h6⟩ := z90 hb N ds' ms' h3
   refine ⟨e, s', h4, h5, fun A' hA Ψ hΨ Γ0 a w hat => ?_⟩
   rw [rounds_succ]
   refine wp_mono (hD A' hA (fun e1 s2 => e1 = .normal ∧ s2 = s1.wA A') ⟨rfl, rfl⟩ Γ0 a w hat) ?_
   rintro e1 a1 w1 ⟨s2, ⟨rfl, rfl⟩, hat1⟩
   exact h6 A' hA Ψ hΨ Γ0 a1 w1 (hw.2 X n A' (by rw [show s1.A = A0 from hA1]; exact hA) Γ0 a1 w1 hat1)
  | exit _ | goto _ | ret | panic _ | outgrown => exact hother (by simp) h1
theorem z5p {n : Nat} {r : R} {run : List Nat → Code → S → KE R → Option R} (hrun : ∀ p c s (K : KE R), run p c s K = some r → z2h X n c s r K) : ∀ (as : List Code) (p : List Nat) (s : S) (k : S → Option R) (K : KE R), q5u run as p s k K = some r →
  (∃ s1, k s1 = some r ∧ s1.A = s.A ∧ ∀ c l rest, q3h c = some (as, l, rest) → ∀ A', leA s.A A' → ∀ Ψ : Exit → S → Prop, DC X n rest (s1.wA A') Ψ → DC X n c (s.wA A') Ψ) ∨
  (∃ e s1, e ≠ .normal ∧ K e s1 = some r ∧ s1.A = s.A ∧ ∀ c l rest, q3h c = some (as, l, rest) → ∀ A', leA s.A A' → ∀ Ψ : Exit → S → Prop, Ψ e (s1.wA A') → DC X n c (s.wA A') Ψ)
 | [], p, s, k, K, h => by
  refine .inl ⟨s, h, rfl, fun c l rest hc A' hA Ψ hd => ?_⟩
  cases c <;> simp only [q3h, reduceCtorEq] at hc
  rename_i a b
  split at hc
  ·cases hc
   exact U3 (y0V hd)
  ·split at hc
   ·cases hc
   ·cases hc
 | a :: as, p, s, k, K, h => by
  simp only [q5u] at h
  obtain ⟨e, s1, h1, a1, d1⟩ := hrun _ _ _ _ h
  have inv : ∀ c l rest, q3h c = some (a :: as, l, rest) → ∃ b, c = .seq a b ∧ q3h b = some (as, l, rest) := by
   intro c l rest hc
   cases c <;> simp only [q3h, reduceCtorEq] at hc
   split at hc
   ·cases hc
   ·split at hc
    ·rename_i x hx
     obtain ⟨x1, x2⟩ := x
     cases hc
     exact ⟨_, rfl, hx⟩
    ·cases hc
  cases e with
  | normal =>
   rcases z5p hrun as (1 :: p) s1 k K (by dsimp only at h1; rw [z5h] at h1; exact h1) with ⟨s2, h2, a2, d2⟩ | ⟨e, s2, hne, h2, a2, d2⟩
   ·refine .inl ⟨s2, h2, a2.trans a1, fun c l rest hc A' hA Ψ hd => ?_⟩
    obtain ⟨b, rfl, hb⟩ := inv c l rest hc
    exact U3 (d1 A' hA _ (d2 b l rest hb A' (by rw [a1]; exact hA) Ψ hd))
   ·refine .inr ⟨e, s2, hne, h2, a2.trans a1, fun c l rest hc A' hA Ψ hd => ?_⟩
    obtain ⟨b, rfl, hb⟩ := inv c l rest hc
    exact U3 (d1 A' hA _ (d2 b l rest hb A' (by rw [a1]; exact hA) Ψ hd))
  | exit _ | goto _ | ret | panic _ | outgrown =>
   refine .inr ⟨_, s1, by simp, h1, a1, fun c l rest hc A' hA Ψ hd => ?_⟩
   obtain ⟨b, rfl, hb⟩ := inv c l rest hc
   exact U3 (d1 A' hA _ hd)
def Ends (X : Cx) (n : Nat) (l : Nat) (rest : Code) (sh : SSh) (A0 : Key → Option O) (e : Exit) (s' : S) : Nat → List C → List Es → Prop
 | 0, _, _ => False
 | m + 1, ds, ms => ∃ e2 s2, Way X n rest (q2X sh A0 ds ms) e2 s2 ∧ ((e2 = .goto l ∧ ∃ ds' ms', WkA s2 (q2X sh A0 ds' ms') ∧ Ends X n l rest sh A0 e s' m ds' ms') ∨ ((∀ l', e2 ≠ .goto l') ∧ e2 = e ∧ s2 = s'))
theorem z7f {n l : Nat} {rest : Code} {sh : SSh} {A0 : Key → Option O} {body : S → KE R → Option R} {K : KE R} {r : R} (hb : ∀ s (K : KE R), body s K = some r → z2h X n rest s r K) :
  ∀ (N : Nat) (ds : List C) (ms : List Es), c4 N (fun rec ds ms => body (q2X sh A0 ds ms) fun e s2 => match e with
      | .goto l' => if l' = l then q8O sh s2 rec else none
      | e => K e s2) ds ms = some r → ∃ e s', K e s' = some r ∧ s'.A = A0 ∧ (∀ l', e ≠ .goto l') ∧ Ends X n l rest sh A0 e s' N ds ms
 | 0, ds, ms, h => by simp [z4U] at h
 | N + 1, ds, ms, h => by
  rw [q9Y] at h
  obtain ⟨e0, s1, h1, a1, d1⟩ := hb _ _ h
  have a1 : s1.A = A0 := a1
  cases e0 with
  | goto l' =>
   dsimp only at h1
   by_cases hl : l' = l
   ·rw [if_pos hl] at h1
    subst hl
    obtain ⟨ds', ms', h2, hw⟩ := q9u h1
    rw [a1] at hw
    obtain ⟨e, s', h3, h4, h5, h6⟩ := z7f hb N ds' ms' h2
    exact ⟨e, s', h3, h4, h5, _, s1, ⟨a1, d1⟩, .inl ⟨rfl, ds', ms', hw, h6⟩⟩
   ·rw [if_neg hl] at h1; cases h1
  | normal | exit _ | ret | panic _ | outgrown =>
   exact ⟨_, s1, h1, a1, by simp, _, s1, ⟨a1, d1⟩, .inr ⟨by simp, rfl, rfl⟩⟩
theorem y6n {n l : Nat} {c rest : Code} {sh : SSh} {A0 : Key → Option O} {e : Exit} {s' : S} (hf : findLabel c l = some (.seq .skip rest)) {N : Nat} {ds : List C} {ms : List Es} (hE : Ends X n l rest sh A0 e s' N ds ms) {A' : Key → Option O} (hA : leA A0 A') {s0 : S}
  (first : ∀ Ψ : Exit → S → Prop, DC X n rest ((q2X sh A0 ds ms).wA A') Ψ → DC X n c s0 Ψ) {Ψ : Exit → S → Prop} (hΨ : Ψ e (s'.wA A')) : DC X n (.scope c) s0 Ψ := by
 have pass : ∀ i : { x : Nat × List C × List Es // Ends X n l rest sh A0 e s' x.1 x.2.1 x.2.2 }, DC X n rest ((q2X sh A0 i.1.2.1 i.1.2.2).wA A') fun e2 s2 => match e2 with
   | .goto l' => l' = l ∧ ∃ j : { x : Nat × List C × List Es // Ends X n l rest sh A0 e s' x.1 x.2.1 x.2.2 }, q00 X n s2 ((q2X sh A0 j.1.2.1 j.1.2.2).wA A') ∧ j.1.1 < i.1.1
   | e2 => Ψ e2 s2 := by
  rintro ⟨⟨m, ds, ms⟩, h⟩
  cases m with
  | zero => exact h.elim
  | succ m =>
   obtain ⟨e2, s2, hw, h1⟩ := h
   refine hw.2 A' hA _ ?_
   rcases h1 with ⟨rfl, ds', ms', hwk, hE'⟩ | ⟨hne, rfl, rfl⟩
   ·exact ⟨rfl, ⟨⟨m, ds', ms'⟩, hE'⟩, hwk.2 X n A' (by rw [hw.1]; exact hA), Nat.lt_succ_self m⟩
   ·cases e2 with
    | goto l' => exact absurd rfl (hne l')
    | normal | exit _ | ret | panic _ | outgrown => exact hΨ
 refine y7g l hf (fun i => (q2X sh A0 i.1.2.1 i.1.2.2).wA A') (fun i => i.1.1) ?_ (fun i => U3 (q69 (pass i)))
 refine first _ ((pass ⟨⟨N, ds, ms⟩, hE⟩).post ?_)
 intro e2 s2 h
 refine ⟨s2, q00.refl _, ?_⟩
 cases e2 with
 | goto l' => exact ⟨h.1, h.2.choose, h.2.choose_spec.1⟩
 | normal | exit _ | ret | panic _ | outgrown => exact h
include hP hmo hc he
theorem y0z {tbl : Nat → List (Nat × Nat)} {hs : Hints} {N n : Nat} {r : R} : ∀ (f : Nat) (p : List Nat) (c : Code) (s : S) (K : KE R), exC X call ext tbl hs N n f p c s K = some r → z2h X n c s r K
 | 0, p, c, s, K, h => by simp [exC] at h
 | f + 1, p, c, s, K, h => by
  have IH := y0z (tbl := tbl) (hs := hs) (N := N) (n := n) (r := r) f
  cases c with
  | skip => exact ⟨_, _, h, rfl, fun A' hA Ψ hΨ => q69 hΨ⟩
  | region id ops draw =>
   simp only [exC] at h
   have hw := q9k (tbl id) s
   have := z1T (P := fun s1 => Way X n (.region id ops draw) (z6E (tbl id) s) .normal s1) (G := False) (fun s1 s2 h1 h2 => h1.q8r h2) (fun s1 h => h.1) h fun k hk => by
    obtain ⟨s', h1, h2, h3⟩ := y69 hP hmo hc he (id := id) hk
    refine .inl ⟨s', h1, h2, fun A' hA Ψ hΨ => ?_⟩
    have := h3 A' hA Ψ hΨ
    simpa using this
   rcases this with ⟨s2, h1, h2⟩ | h
   ·exact ⟨_, s2, h1, h2.1.trans hw.1, fun A' hA Ψ hΨ => DC.q8r (hw.2 X n A' hA) (h2.2 A' (by rw [hw.1]; exact hA) Ψ hΨ)⟩
   ·exact h.elim
  | seq c1 c2 =>
   simp only [exC] at h
   obtain ⟨e0, s1, h1, a1, d1⟩ := IH _ c1 s _ h
   cases e0 with
   | normal =>
    obtain ⟨e2, s2, h2, a2, d2⟩ := IH (1 :: p) c2 s1 K (by dsimp only at h1; rw [z5h] at h1; exact h1)
    exact ⟨e2, s2, h2, a2.trans a1, fun A' hA Ψ hΨ => U3 (d1 A' hA _ (d2 A' (by rw [a1]; exact hA) Ψ hΨ))⟩
   | exit _ | goto _ | ret | panic _ | outgrown => exact ⟨_, s1, h1, a1, fun A' hA Ψ hΨ => U3 (d1 A' hA _ hΨ)⟩
  | cond t c1 c2 =>
   cases t with
   | tmp t =>
    simp only [exC] at h
    have := z1T (P := fun s1 => Way X n (.cond (.tmp t) c1 c2) s .normal s1) (G := z2h X n (.cond (.tmp t) c1 c2) s r K) (fun s1 s2 h1 h2 => h1.q8r h2) (fun s1 h => h.1) h fun k hk => by
     split at hk
     ·rename_i v hv
      cases hb : v.toBool with
      | true =>
       rw [hb] at hk
       simp only [cond_true] at hk
       rw [z95 hv hb] at hk
       obtain ⟨e2, s2, h2, a2, d2⟩ := IH _ c1 s _ hk
       have w2 : Way X n (.cond (.tmp t) c1 c2) s e2 s2 := ⟨a2, fun A' hA Ψ hΨ => y0W hv (fun _ => d2 A' hA Ψ hΨ) (fun h => by rw [hb] at h; cases h)⟩
       cases e2 with
       | normal => exact .inl ⟨s2, h2, w2⟩
       | exit _ | goto _ | ret | panic _ | outgrown => exact .inr ⟨_, s2, h2, w2⟩
      | false =>
       rw [hb] at hk
       simp only [cond_false] at hk
       rw [z95 hv hb] at hk
       obtain ⟨e2, s2, h2, a2, d2⟩ := IH _ c2 s _ hk
       have w2 : Way X n (.cond (.tmp t) c1 c2) s e2 s2 := ⟨a2, fun A' hA Ψ hΨ => y0W hv (fun h => by rw [hb] at h; cases h) (fun _ => d2 A' hA Ψ hΨ)⟩
       cases e2 with
       | normal => exact .inl ⟨s2, h2, w2⟩
       | exit _ | goto _ | ret | panic _ | outgrown => exact .inr ⟨_, s2, h2, w2⟩
     ·cases hk
    rcases this with ⟨s2, h1, h2⟩ | h
    ·exact ⟨_, s2, h1, h2⟩
    ·exact h
   | const _ | global _ | func _ => simp [exC] at h
  | block id c1 =>
   simp only [exC] at h
   have := z1T (P := fun s1 => Way X n (.block id c1) s .normal s1) (G := z2h X n (.block id c1) s r K) (fun s1 s2 h1 h2 => h1.q8r h2) (fun s1 h => h.1) h fun k hk => by
    obtain ⟨e0, s1, h1, a1, d1⟩ := IH _ c1 s _ hk
    cases e0 with
    | exit i =>
     dsimp only at h1
     by_cases hi : i = id
     ·rw [if_pos hi] at h1
      refine .inl ⟨s1, h1, a1, fun A' hA Ψ hΨ => z0n (d1 A' hA _ ?_)⟩
      simp only
      rw [if_pos hi]; exact hΨ
     ·rw [if_neg hi] at h1
      refine .inr ⟨_, s1, h1, a1, fun A' hA Ψ hΨ => z0n (d1 A' hA _ ?_)⟩
      simp only
      rw [if_neg hi]; exact hΨ
    | normal => exact .inl ⟨s1, h1, a1, fun A' hA Ψ hΨ => z0n (d1 A' hA _ hΨ)⟩
    | goto _ | ret | panic _ | outgrown => exact .inr ⟨_, s1, h1, a1, fun A' hA Ψ hΨ => z0n (d1 A' hA _ hΨ)⟩
   rcases this with ⟨s2, h1, h2⟩ | h
   ·exact ⟨_, s2, h1, h2⟩
   ·exact h
  | loop c1 =>
   simp only [exC] at h
   split at h
   ·obtain ⟨e, s', h1, h2, h3⟩ := z7R (fun s K h => IH _ c1 s K h) f s K h
    exact ⟨e, s', h1, h2, fun A' hA Ψ hΨ Γ0 a w hat => wp_loop_rounds f (h3 A' hA Ψ hΨ Γ0 a w hat)⟩
   ·rename_i hh
    rw [z3Z] at h
    obtain ⟨ds, ms, h1, hw⟩ := q9u h
    obtain ⟨e, s', h4, h5, h6⟩ := z90 (c := c1) (body := exC X call ext tbl hs N n f (5 :: p) c1) (fun s K h => IH _ c1 s K h) N ds ms h1
    exact ⟨e, s', h4, h5, fun A' hA Ψ hΨ Γ0 a w hat => wp_loop_rounds N (h6 A' hA Ψ hΨ Γ0 a w (hw.2 X n A' hA Γ0 a w hat))⟩
  | exit id => exact ⟨_, _, h, rfl, fun A' hA Ψ hΨ => y8T hΨ⟩
  | scope c1 =>
   simp only [exC] at h
   split at h
   ·obtain ⟨e0, s1, h1, a1, d1⟩ := IH _ c1 s _ h
    cases e0 with
    | goto i => cases h1
    | normal | exit _ | ret | panic _ | outgrown => exact ⟨_, s1, h1, a1, fun A' hA Ψ hΨ => q6J (d1 A' hA _ hΨ)⟩
   ·rename_i hh _
    split at h
    ·rename_i as l rest hd
     simp only [Option.ite_none_right_eq_some] at h
     obtain ⟨hnl, h⟩ := h
     rcases z5p (fun p c s K h => IH p c s K h) as _ s _ _ h with ⟨s1, h1, a1, d1⟩ | ⟨e, s1, hne, h1, a1, d1⟩
     ·rw [z3Z] at h1
      obtain ⟨ds, ms, h2, hw⟩ := q9u h1
      obtain ⟨e, s', h3, h4, h5, h6⟩ := z7f (rest := rest) (body := exC X call ext tbl hs N n f (7 :: p) rest) (fun s K h => IH _ rest s K h) N ds ms h2
      refine ⟨e, s', h3, h4.trans a1, fun A' hA Ψ hΨ => ?_⟩
      exact y6n (z3j _ hd hnl) h6 (by rw [a1]; exact hA) (fun Ψ' hd' => d1 c1 l rest hd A' hA Ψ' (DC.q8r (hw.2 X n A' (by rw [a1]; exact hA)) hd')) hΨ
     ·cases e with
      | goto i => cases h1
      | normal | exit _ | ret | panic _ | outgrown => exact ⟨_, s1, h1, a1, fun A' hA Ψ hΨ => q6J (d1 c1 l rest hd A' hA _ hΨ)⟩
    ·cases h
  | label _ => exact ⟨_, _, h, rfl, fun A' hA Ψ hΨ => y0V hΨ⟩
  | goto _ => exact ⟨_, _, h, rfl, fun A' hA Ψ hΨ => y8S hΨ⟩
  | ret => exact ⟨_, _, h, rfl, fun A' hA Ψ hΨ => q7Q hΨ⟩
  | rangeFunc _ _ _ _ => simp [exC] at h
  | refuse _ => simp [exC] at h
end
noncomputable def exF {R : Type} (X : Cx) (ov : OvK R) (ext : q1P) (tbl : FuncId → Nat → List (Nat × Nat)) (hs : FuncId → Hints) (N fuel : Nat) : Nat → q1x R
 | 0, _, _, _, _ => none
 | d + 1, f, xs, A, K => match ov f with
  | some g => g xs A K
  | none => (match X.P.funcs[f]? with
   | some fn => (match fn.body with
    | some c => if xs.length ≤ fn.ntmps then exJ (hintOf (hs f) [9]) (S.start xs A) (fun s => y3M X fn s K) fun k => exC X (exF X ov ext tbl hs N fuel d) ext (tbl f) (hs f) N fn.ntmps fuel [] c (nbS (S.start xs A)) fun e s => (match e with
       | .normal => k s
       | .ret => k s
       | _ => none) else none
    | none => none)
   | none => none)
section
variable {X : Cx} {R : Type} {ov : OvK R} {ext : q1P} (hP : x6 X.P = true) (hmo : X.P.follows .mixedOrders = true) (hov : z8R X ov) (he : q34 X ext)
include hP hmo hov he
theorem y0y {tbl : FuncId → Nat → List (Nat × Nat)} {hs : FuncId → Hints} {N fuel : Nat} : ∀ d, q4s X (exF X ov ext tbl hs N fuel d)
 | 0 => by intro f xs A K r h; simp [exF] at h
 | d + 1 => by
  intro f xs A K r h
  simp only [exF] at h
  split at h
  ·rename_i g hg
   exact hov f g hg xs A K r h
  split at h
  ·rename_i fn hf
   split at h
   ·rename_i c hb
    simp only [Option.ite_none_right_eq_some] at h
    obtain ⟨hl, h⟩ := h
    have := z1T (P := fun s1 => ∃ e : Exit, (e = .normal ∨ e = .ret) ∧ Way X fn.ntmps c (S.start xs A) e s1) (G := False) (fun s1 s2 ⟨e, h1, h2⟩ h3 => ⟨e, h1, h2.q8r h3⟩) (fun s1 ⟨e, _, h⟩ => h.1) h fun k hk => by
     obtain ⟨e, s', h1, h2⟩ := y0z hP hmo (y0y d) he fuel [] c (nbS (S.start xs A)) _ hk
     have h2 : Way X fn.ntmps c (S.start xs A) e s' := ⟨h2.1, fun A' hA Ψ hΨ => DC.q8r ((z9V (S.start xs A)).2 X fn.ntmps A' hA) (h2.2 A' hA Ψ hΨ)⟩
     cases e with
     | normal => exact .inl ⟨s', h1, _, .inl rfl, h2⟩
     | ret => exact .inl ⟨s', h1, _, .inr rfl, h2⟩
     | exit _ | goto _ | panic _ | outgrown => cases h1
    rcases this with ⟨s', h1, e, he', h2, h3⟩ | h
    ·obtain ⟨v, L, h4, h5⟩ := y0H h1
     refine ⟨v, L, q46 hP hf hb rfl hl fun A' hA => ?_, h4⟩
     exact h3 A' hA (fun e s' => (e = .normal ∨ e = .ret) ∧ q4G X fn A' v L s') ⟨he', h5 A' (by rw [h2]; exact hA)⟩
    ·exact h.elim
   ·cases h
  ·cases h
end
end Go.E
namespace Go.E
open Go
def q4w (a b k : Key) : Key := if k = a then b else if k = b then a else k
theorem q3J (a b k : Key) : q4w a b (q4w a b k) = k := by
 unfold q4w
 by_cases h1 : k = a
 ·subst h1
  rw [if_pos rfl]
  by_cases h2 : b = k
  ·rw [if_pos h2]; exact h2
  ·rw [if_neg h2, if_pos rfl]
 ·rw [if_neg h1]
  by_cases h2 : k = b
  ·subst h2; rw [if_pos rfl, if_pos rfl]
  ·rw [if_neg h2, if_neg h1, if_neg h2]
def swU (a b : Key) : Key → Key
 | .g k => .g (q4w a b k)
 | .l n => .l n
theorem q3l (a b k : Key) : swU a b (swU a b k) = k := by
 cases k <;> simp [swU, q3J]
def Tip.y6p (ρ : Key → Key) : Tip → Tip
 | .tok t => .tok t
 | .home k p => .home (ρ k) p
def G.perm (Γ : G) (ρ : Key → Key) : G := { Γ with ι := fun k => Γ.ι (ρ k), κ := fun b => (Γ.κ b).map fun p => (p.1.y6p ρ, p.2) }
def permA (a b : Key) (A : Key → Option O) : Key → Option O := fun k => (A (q4w a b k)).map (O.ren (swU a b))
def z4K (a b : Key) (L : List (Key × O)) : List (Key × O) := L.map fun p => (swU a b p.1, p.2.ren (swU a b))
theorem z4V (a b : Key) : ∀ (L : List (Key × O)) (k : Key), z7 (z4K a b L) k = (z7 L (swU a b k)).map (O.ren (swU a b))
 | [], _ => rfl
 | (j, o) :: L, k => by
  show (if swU a b j = k then some (o.ren (swU a b)) else z7 (z4K a b L) k) = (if j = swU a b k then some o else z7 L (swU a b k)).map (O.ren (swU a b))
  by_cases h : j = swU a b k
  ·have : swU a b j = k := by rw [h, q3l]
   rw [if_pos this, if_pos h]; rfl
  ·have : swU a b j ≠ k := fun e => h (by rw [← e, q3l])
   rw [if_neg this, if_neg h]; exact z4V a b L k
theorem z8.perm {Γ : G} {w : World} {s s' : S} {ρ : Key → Key} (c : z8 Γ w s) (hρ : ∀ k, ρ (ρ k) = k) (ho : ∀ k, s'.obj k = (s.obj (ρ k)).map (O.ren ρ)) (hl : ∀ t, s'.live t = s.live t) (hk : ∀ t, s.known t = true → s'.known t = true) : z8 (Γ.perm ρ) w s' := by
 have pr : ∀ hm, q2Y Γ (Γ.perm ρ) ρ hm := fun hm => ⟨Hp.le_refl _, fun k x h => by simp [G.perm, hρ, h], fun _ _ h => h, fun k b p sz _ h => ⟨by simp [G.perm, h, Tip.y6p], rfl⟩⟩
 have hd : ∀ k, s.o5 (ρ k) = true → s'.o5 k = true := fun k h => by
  unfold S.o5 at h ⊢
  rw [ho]
  cases hs : s.obj (ρ k) with
  | none => rw [hs] at h; cases h
  | some o => rw [hs] at h; simpa [z2J, O.q4I] using h
 refine ⟨c.hH, c.hZ, fun b o sz h => ?_, fun k o h => ?_, fun k h => ?_, fun k k' b τ τ' h1 h2 => ?_, fun t L h => ?_, fun t ht => hk t (c.tdom t ht), c.hgl, c.hoo, c.hσ⟩
 ·cases hb : Γ.κ b with
  | none => simp [G.perm, hb] at h
  | some p =>
   obtain ⟨t, sz'⟩ := p
   simp [G.perm, hb] at h
   obtain ⟨rfl, rfl⟩ := h
   obtain ⟨a1, a2, arr, T, a3, a4, a5⟩ := c.hκ b t sz' hb
   exact ⟨a1, a2, arr, T, a3, a4, by cases t with
    | tok => trivial
    | home _ p => cases p <;> exact a5⟩
 ·rw [ho] at h
  cases hs : s.obj (ρ k) with
  | none => rw [hs] at h; cases h
  | some o0 =>
   rw [hs] at h; cases h
   refine (c.obj (ρ k) o0 hs).imp (fun h => ⟨h.1, O.q9B h.2⟩) fun hown => ?_
   have := Own.ren (pr _) (w' := w) (fun hd b τ hb => by
    obtain ⟨e1, e2, _⟩ := c.U4 hb hs hd
    exact ⟨rfl, e1, e2⟩) (Nat.le_refl _) hown
   rw [hρ] at this
   exact this
 ·rw [ho]
  have := c.dom (ρ k) h
  cases hs : s.obj (ρ k) with
  | none => exact absurd hs this
  | some o => simp
 ·refine (c.inj (ρ k) (ρ k') b τ τ' h1 h2).imp (fun e => by rw [← hρ k, e, hρ]) (And.imp (Or.imp (hd k) (hd k')) id)
 ·rw [hl] at h
  obtain ⟨x, h1, h2⟩ := c.tok t L h
  refine ⟨x, h1, fun b pos sz hx => ?_⟩
  obtain ⟨h3, h4⟩ := h2 b pos sz hx
  exact ⟨h3, by simp [G.perm, h4, Tip.y6p]⟩
def H6 (a b : Key) (x : V) : V := x.ren (swU a b) id
theorem z7h (a b : Key) (x : V) : H6 a b (H6 a b x) = x := V.q4j _ _ (q3l a b) x
theorem y4B (a b : Key) (n : Nat) (x : V) : (H6 a b x).q0J n = x.q0J n := by cases x <;> simp [H6, V.ren, V.q0J]
theorem y4C (a b : Key) (n : Nat) (x : V) : (H6 a b x).slot n = H6 a b (x.slot n) := by cases x <;> simp [H6, V.ren, V.slot]
theorem q6K (a b : Key) : ∀ (n : Nat) (xs : List V), q1Q n (xs.map (H6 a b)) = q1Q n xs
 | _, [] => rfl
 | n, x :: xs => by simp only [List.map_cons, q1Q, y4B, q6K a b (n + 1) xs]
theorem q9M (a b : Key) : ∀ (n : Nat) (xs : List V), X3 n (xs.map (H6 a b)) = (X3 n xs).map (H6 a b)
 | _, [] => rfl
 | n, x :: xs => by simp only [List.map_cons, X3, y4C, q9M a b (n + 1) xs]
theorem z9n (a b : Key) : ∀ (xs : List V), V.q0f (swU a b) id xs = xs.map (H6 a b)
 | [] => rfl
 | x :: xs => by simp only [V.q0f, List.map_cons, z9n a b xs]; rfl
theorem z3A (a b : Key) (xs : List V) : H6 a b (.tup xs) = .tup (xs.map (H6 a b)) := by
 simp only [H6, V.ren, z9n]
theorem y26 (a b : Key) (n : Nat) (x : V) : (H6 a b x).X9 n = H6 a b (x.X9 n) := by
 cases x with
 | tup xs => rw [z3A]; simp only [V.X9]; rw [q9M, z3A]
 | nilc => rfl
 | d | sl | ts | emp | ptr | cptr | sr | mp | agg | fn | top | any => simp [H6, V.ren, V.X9, V.slot]
theorem z9o (a b : Key) (n : Nat) (x : V) : (H6 a b x).tkR n = x.tkR n := by
 cases x with
 | tup xs => rw [z3A]; simp only [V.tkR]; exact q6K a b n xs
 | nilc => rfl
 | d | sl | ts | emp | ptr | cptr | sr | mp | agg | fn | top | any => simp [H6, V.ren, V.tkR, V.q0J]
theorem O.y8j (a b : Key) {o : O} (h : o.ok p8 p8 = true) : (o.ren (swU a b)).ok p8 p8 = true := by
 have key : (∀ x : V, x.ok p8 p8 = true → (x.ren (swU a b) id).ok p8 p8 = true) := by
  intro x
  induction x using V.rec (motive_2 := fun xs => V.oks p8 p8 xs = true → V.oks p8 p8 (V.q0f (swU a b) id xs) = true) with
  | ptr k q τ => intro h; cases k <;> simp [V.ok, V.ren, swU, p8] at h ⊢
  | sr k q lo n cp eb e => intro h; cases k <;> simp [V.ok, V.ren, swU, p8] at h ⊢
  | mp k => intro h; cases k <;> simp [V.ok, V.ren, swU, p8] at h ⊢
  | sl => intro h; simp [V.ok, p8] at h
  | agg τ vs ih => intro h; simp only [V.ok, V.ren] at h ⊢; exact ih h
  | fn f vs ih => intro h; simp only [V.ok, V.ren] at h ⊢; exact ih h
  | tup vs ih => intro h; simp only [V.ok, V.ren] at h ⊢; exact ih h
  | nil => simp only [V.q0f, V.oks]
  | cons x xs ih1 ih2 h =>
   simp only [V.oks, Bool.and_eq_true] at h
   simp only [V.q0f, V.oks, Bool.and_eq_true]
   exact ⟨ih1 h.1, ih2 h.2⟩
  | _ => intro _; simp only [V.ren, V.ok]
 cases o with
 | box x => exact key x h
 | map kτ vτ es =>
  simp only [O.ren, O.ok] at h ⊢
  induction es with
  | nil => rfl
  | cons c es ih =>
   simp only [V.q0X, Bool.and_eq_true] at h
   simp only [List.map_cons, V.q0X, Bool.and_eq_true]
   exact ⟨key _ h.1, ih h.2⟩
 | it => rfl
 | dead => rfl
theorem j7.swap {X : Cx} {f : FuncId} {xs : List V} {A : Key → Option O} {v : V} {L : List (Key × O)} (a b : Key) (D : j7 X f xs A v L) :
  j7 X f (xs.map (H6 a b)) (permA a b A) (H6 a b v) (z4K a b L) := by
 intro A' Γ w args hA hgl ⟨c, hok⟩ hlen hr
 have hxs : (xs.map (H6 a b)).map (H6 a b) = xs := by
  rw [List.map_map]
  exact (List.map_congr_left (g := id) fun x _ => z7h a b x).trans (List.map_id _)
 have hA' : ∀ k o, A k = some o → permA a b A' k = some o := by
  intro k o h
  have h1 : permA a b A (q4w a b k) = some (o.ren (swU a b)) := by simp [permA, q3J, h]
  have h2 := hA _ _ h1
  simp [permA, h2, O.q4j _ _ (q3l a b)]
 have hobj : ∀ k, S.obj (S.start xs (permA a b A')) k = (S.obj (S.start (xs.map (H6 a b)) A') (swU a b k)).map (O.ren (swU a b)) := by
  intro k
  cases k with
  | l n => rfl
  | g k => simp [S.start, S.obj, Q2, z7, swU, permA]
 have c1 := c.perm (s' := S.start xs (permA a b A')) (q3l a b) hobj (fun t => by simp only [S.start, S.live, q6K]) (fun t h => by simpa only [S.start, S.known, q6K] using h)
 have hok1 : AOk (permA a b A') := by
  intro k o h
  unfold permA at h
  cases hk : A' (q4w a b k) with
  | none => rw [hk] at h; cases h
  | some o0 => rw [hk] at h; cases h; exact O.y8j a b (hok _ _ hk)
 have pr : q2Y Γ (Γ.perm (swU a b)) (swU a b) none := ⟨Hp.le_refl _, fun k x h => by simp [G.perm, q3l, h], fun _ _ h => h, fun k _ _ _ h => by cases h⟩
 refine (D (permA a b A') (Γ.perm (swU a b)) w args hA' hgl ⟨c1, hok1⟩ (by simpa using hlen) fun i x u hx hu => ?_).mono ?_
 ·have h1 : (X3 1000 (xs.map (H6 a b)))[i]? = some (H6 a b x) := by rw [q9M, List.getElem?_map, hx]; rfl
  have := (hr i _ u h1 hu).ren (θ := id) pr (fun _ _ h => h)
  have e : V.ren (swU a b) id (H6 a b x) = x := z7h a b x
  rwa [e] at this
 ·rintro e w' ⟨u, Γ', rfl, gle, c', hu⟩
  have hobj' : ∀ k, S.obj (S.fin (H6 a b v) (z4K a b L) A') k = (S.obj (S.fin v L (permA a b A')) (swU a b k)).map (O.ren (swU a b)) := by
   intro k
   simp only [S.fin, S.obj, Q2, z4V]
   cases hl : z7 L (swU a b k) with
   | some o => rfl
   | none =>
    cases k with
    | l n => rfl
    | g k =>
     simp only [Option.map_none, swU, permA, q3J]
     cases A' k with
     | none => rfl
     | some o => simp [O.q4j _ _ (q3l a b)]
  have c2 := c'.perm (s' := S.fin (H6 a b v) (z4K a b L) A') (q3l a b) hobj' (fun t => by simp only [S.fin, S.live, z9o]) (fun t h => by simpa only [S.fin, S.known, z9o] using h)
  have pr' : q2Y Γ' (Γ'.perm (swU a b)) (swU a b) none := ⟨Hp.le_refl _, fun k x h => by simp [G.perm, q3l, h], fun _ _ h => h, fun k _ _ _ h => by cases h⟩
  refine ⟨u, Γ'.perm (swU a b), rfl, ⟨gle.H, gle.Z, gle.ZH, fun k x h => ?_, gle.gl, gle.oo, gle.σ, fun k h => ?_⟩, c2, ?_⟩
  ·refine gle.g (q4w a b k) x ?_
   show Γ.ι (swU a b (.g (q4w a b k))) = some x
   simp [swU, q3J, h]
  ·refine gle.gn (q4w a b k) ?_
   show Γ.ι (swU a b (.g (q4w a b k))) = none
   simp [swU, q3J, h]
  ·rw [y26]
   exact hu.ren (θ := id) pr' (fun _ _ h => h)
def z2A : List (Nat × (List V → Option V)) → q1P
 | [], _ => none
 | (i, g) :: l, f => bif Nat.beq f i then some g else z2A l f
def q6q (X : Cx) : List (Nat × (List V → Option V)) → Prop
 | [] => True
 | p :: l => (∀ xs v, p.2 xs = some v → q8o X p.1 xs v) ∧ q6q X l
theorem z5o {X : Cx} : ∀ {l : List (Nat × (List V → Option V))}, q6q X l → q34 X (z2A l)
 | [], _ => fun f g xs v h _ => by cases h
 | (i, g0) :: l, h => fun f g xs v hf hv => by
  simp only [z2A] at hf
  cases hb : Nat.beq f i with
  | true =>
   rw [hb, cond_true] at hf
   cases hf
   obtain rfl := Nat.eq_of_beq_eq_true hb
   exact h.1 xs v hv
  | false =>
   rw [hb, cond_false] at hf
   exact z5o h.2 f g xs v hf hv
theorem q6q.append {X : Cx} : ∀ {l m : List (Nat × (List V → Option V))}, q6q X l → q6q X m → q6q X (l ++ m)
 | [], _, _, h => h
 | _ :: _, _, h, h' => ⟨h.1, h.2.append h'⟩
@[go_sem] theorem Z4 {a0 : C} {l : List C} : dk (a0 :: l) 0 = a0 := rfl
@[go_sem] theorem Y5 {a0 a1 : C} {l : List C} : dk (a0 :: a1 :: l) 1 = a1 := rfl
@[go_sem] theorem q3H {a0 a1 a2 : C} {l : List C} : dk (a0 :: a1 :: a2 :: l) 2 = a2 := rfl
@[go_sem] theorem q5z {a0 a1 a2 a3 : C} {l : List C} : dk (a0 :: a1 :: a2 :: a3 :: l) 3 = a3 := rfl
@[go_sem] theorem q7O {a0 a1 a2 a3 a4 : C} {l : List C} : dk (a0 :: a1 :: a2 :: a3 :: a4 :: l) 4 = a4 := rfl
@[go_sem] theorem z6Q {a0 a1 a2 a3 a4 a5 : C} {l : List C} : dk (a0 :: a1 :: a2 :: a3 :: a4 :: a5 :: l) 5 = a5 := rfl
@[go_sem] theorem y9L {a0 a1 a2 a3 a4 a5 a6 : C} {l : List C} : dk (a0 :: a1 :: a2 :: a3 :: a4 :: a5 :: a6 :: l) 6 = a6 := rfl
@[go_sem] theorem x1D {a0 a1 a2 a3 a4 a5 a6 a7 : C} {l : List C} : dk (a0 :: a1 :: a2 :: a3 :: a4 :: a5 :: a6 :: a7 :: l) 7 = a7 := rfl
@[go_sem] theorem x1C {a0 a1 a2 a3 a4 a5 a6 a7 a8 : C} {l : List C} : dk (a0 :: a1 :: a2 :: a3 :: a4 :: a5 :: a6 :: a7 :: a8 :: l) 8 = a8 := rfl
@[go_sem] theorem x1B {a0 a1 a2 a3 a4 a5 a6 a7 a8 a9 : C} {l : List C} : dk (a0 :: a1 :: a2 :: a3 :: a4 :: a5 :: a6 :: a7 :: a8 :: a9 :: l) 9 = a9 := rfl
@[go_sem] theorem x1t {a0 a1 a2 a3 a4 a5 a6 a7 a8 a9 a10 : C} {l : List C} : dk (a0 :: a1 :: a2 :: a3 :: a4 :: a5 :: a6 :: a7 :: a8 :: a9 :: a10 :: l) 10 = a10 := rfl
@[go_sem] theorem x1s {a0 a1 a2 a3 a4 a5 a6 a7 a8 a9 a10 a11 : C} {l : List C} : dk (a0 :: a1 :: a2 :: a3 :: a4 :: a5 :: a6 :: a7 :: a8 :: a9 :: a10 :: a11 :: l) 11 = a11 := rfl
@[go_sem] theorem x1r {a0 a1 a2 a3 a4 a5 a6 a7 a8 a9 a10 a11 a12 : C} {l : List C} : dk (a0 :: a1 :: a2 :: a3 :: a4 :: a5 :: a6 :: a7 :: a8 :: a9 :: a10 :: a11 :: a12 :: l) 12 = a12 := rfl
@[go_sem] theorem x1q {a0 a1 a2 a3 a4 a5 a6 a7 a8 a9 a10 a11 a12 a13 : C} {l : List C} : dk (a0 :: a1 :: a2 :: a3 :: a4 :: a5 :: a6 :: a7 :: a8 :: a9 :: a10 :: a11 :: a12 :: a13 :: l) 13 = a13 := rfl
@[go_sem] theorem x1p {a0 a1 a2 a3 a4 a5 a6 a7 a8 a9 a10 a11 a12 a13 a14 : C} {l : List C} : dk (a0 :: a1 :: a2 :: a3 :: a4 :: a5 :: a6 :: a7 :: a8 :: a9 :: a10 :: a11 :: a12 :: a13 :: a14 :: l) 14 = a14 := rfl
@[go_sem] theorem x1o {a0 a1 a2 a3 a4 a5 a6 a7 a8 a9 a10 a11 a12 a13 a14 a15 : C} {l : List C} : dk (a0 :: a1 :: a2 :: a3 :: a4 :: a5 :: a6 :: a7 :: a8 :: a9 :: a10 :: a11 :: a12 :: a13 :: a14 :: a15 :: l) 15 = a15 := rfl
@[go_sem] theorem x1n {a0 a1 a2 a3 a4 a5 a6 a7 a8 a9 a10 a11 a12 a13 a14 a15 a16 : C} {l : List C} : dk (a0 :: a1 :: a2 :: a3 :: a4 :: a5 :: a6 :: a7 :: a8 :: a9 :: a10 :: a11 :: a12 :: a13 :: a14 :: a15 :: a16 :: l) 16 = a16 := rfl
@[go_sem] theorem x1m {a0 a1 a2 a3 a4 a5 a6 a7 a8 a9 a10 a11 a12 a13 a14 a15 a16 a17 : C} {l : List C} : dk (a0 :: a1 :: a2 :: a3 :: a4 :: a5 :: a6 :: a7 :: a8 :: a9 :: a10 :: a11 :: a12 :: a13 :: a14 :: a15 :: a16 :: a17 :: l) 17 = a17 := rfl
@[go_sem] theorem x1l {a0 a1 a2 a3 a4 a5 a6 a7 a8 a9 a10 a11 a12 a13 a14 a15 a16 a17 a18 : C} {l : List C} : dk (a0 :: a1 :: a2 :: a3 :: a4 :: a5 :: a6 :: a7 :: a8 :: a9 :: a10 :: a11 :: a12 :: a13 :: a14 :: a15 :: a16 :: a17 :: a18 :: l) 18 = a18 := rfl
@[go_sem] theorem x1k {a0 a1 a2 a3 a4 a5 a6 a7 a8 a9 a10 a11 a12 a13 a14 a15 a16 a17 a18 a19 : C} {l : List C} : dk (a0 :: a1 :: a2 :: a3 :: a4 :: a5 :: a6 :: a7 :: a8 :: a9 :: a10 :: a11 :: a12 :: a13 :: a14 :: a15 :: a16 :: a17 :: a18 :: a19 :: l) 19 = a19 := rfl
@[go_sem] theorem x1j {a0 a1 a2 a3 a4 a5 a6 a7 a8 a9 a10 a11 a12 a13 a14 a15 a16 a17 a18 a19 a20 : C} {l : List C} : dk (a0 :: a1 :: a2 :: a3 :: a4 :: a5 :: a6 :: a7 :: a8 :: a9 :: a10 :: a11 :: a12 :: a13 :: a14 :: a15 :: a16 :: a17 :: a18 :: a19 :: a20 :: l) 20 = a20 := rfl
@[go_sem] theorem x1i {a0 a1 a2 a3 a4 a5 a6 a7 a8 a9 a10 a11 a12 a13 a14 a15 a16 a17 a18 a19 a20 a21 : C} {l : List C} : dk (a0 :: a1 :: a2 :: a3 :: a4 :: a5 :: a6 :: a7 :: a8 :: a9 :: a10 :: a11 :: a12 :: a13 :: a14 :: a15 :: a16 :: a17 :: a18 :: a19 :: a20 :: a21 :: l) 21 = a21 := rfl
@[go_sem] theorem x1h {a0 a1 a2 a3 a4 a5 a6 a7 a8 a9 a10 a11 a12 a13 a14 a15 a16 a17 a18 a19 a20 a21 a22 : C} {l : List C} : dk (a0 :: a1 :: a2 :: a3 :: a4 :: a5 :: a6 :: a7 :: a8 :: a9 :: a10 :: a11 :: a12 :: a13 :: a14 :: a15 :: a16 :: a17 :: a18 :: a19 :: a20 :: a21 :: a22 :: l) 22 = a22 := rfl
@[go_sem] theorem x1g {a0 a1 a2 a3 a4 a5 a6 a7 a8 a9 a10 a11 a12 a13 a14 a15 a16 a17 a18 a19 a20 a21 a22 a23 : C} {l : List C} : dk (a0 :: a1 :: a2 :: a3 :: a4 :: a5 :: a6 :: a7 :: a8 :: a9 :: a10 :: a11 :: a12 :: a13 :: a14 :: a15 :: a16 :: a17 :: a18 :: a19 :: a20 :: a21 :: a22 :: a23 :: l) 23 = a23 := rfl
@[go_sem] theorem x1f {a0 a1 a2 a3 a4 a5 a6 a7 a8 a9 a10 a11 a12 a13 a14 a15 a16 a17 a18 a19 a20 a21 a22 a23 a24 : C} {l : List C} : dk (a0 :: a1 :: a2 :: a3 :: a4 :: a5 :: a6 :: a7 :: a8 :: a9 :: a10 :: a11 :: a12 :: a13 :: a14 :: a15 :: a16 :: a17 :: a18 :: a19 :: a20 :: a21 :: a22 :: a23 :: a24 :: l) 24 = a24 := rfl
@[go_sem] theorem x1e {a0 a1 a2 a3 a4 a5 a6 a7 a8 a9 a10 a11 a12 a13 a14 a15 a16 a17 a18 a19 a20 a21 a22 a23 a24 a25 : C} {l : List C} : dk (a0 :: a1 :: a2 :: a3 :: a4 :: a5 :: a6 :: a7 :: a8 :: a9 :: a10 :: a11 :: a12 :: a13 :: a14 :: a15 :: a16 :: a17 :: a18 :: a19 :: a20 :: a21 :: a22 :: a23 :: a24 :: a25 :: l) 25 = a25 := rfl
@[go_sem] theorem x0Y {a0 : C} {l : List C} : C.get (.agg (a0 :: l)) 0 = a0 := rfl
@[go_sem] theorem x0X {a0 a1 : C} {l : List C} : C.get (.agg (a0 :: a1 :: l)) 1 = a1 := rfl
@[go_sem] theorem x0W {a0 a1 a2 : C} {l : List C} : C.get (.agg (a0 :: a1 :: a2 :: l)) 2 = a2 := rfl
@[go_sem] theorem x0V {a0 a1 a2 a3 : C} {l : List C} : C.get (.agg (a0 :: a1 :: a2 :: a3 :: l)) 3 = a3 := rfl
@[go_sem] theorem x0U {a0 a1 a2 a3 a4 : C} {l : List C} : C.get (.agg (a0 :: a1 :: a2 :: a3 :: a4 :: l)) 4 = a4 := rfl
@[go_sem] theorem x0T {a0 a1 a2 a3 a4 a5 : C} {l : List C} : C.get (.agg (a0 :: a1 :: a2 :: a3 :: a4 :: a5 :: l)) 5 = a5 := rfl
@[go_sem] theorem x0S {a0 a1 a2 a3 a4 a5 a6 : C} {l : List C} : C.get (.agg (a0 :: a1 :: a2 :: a3 :: a4 :: a5 :: a6 :: l)) 6 = a6 := rfl
@[go_sem] theorem x0R {a0 a1 a2 a3 a4 a5 a6 a7 : C} {l : List C} : C.get (.agg (a0 :: a1 :: a2 :: a3 :: a4 :: a5 :: a6 :: a7 :: l)) 7 = a7 := rfl
@[go_sem] theorem x0Q {a0 a1 a2 a3 a4 a5 a6 a7 a8 : C} {l : List C} : C.get (.agg (a0 :: a1 :: a2 :: a3 :: a4 :: a5 :: a6 :: a7 :: a8 :: l)) 8 = a8 := rfl
@[go_sem] theorem x0P {a0 a1 a2 a3 a4 a5 a6 a7 a8 a9 : C} {l : List C} : C.get (.agg (a0 :: a1 :: a2 :: a3 :: a4 :: a5 :: a6 :: a7 :: a8 :: a9 :: l)) 9 = a9 := rfl
@[go_sem] theorem x0x {a0 a1 a2 a3 a4 a5 a6 a7 a8 a9 a10 : C} {l : List C} : C.get (.agg (a0 :: a1 :: a2 :: a3 :: a4 :: a5 :: a6 :: a7 :: a8 :: a9 :: a10 :: l)) 10 = a10 := rfl
@[go_sem] theorem x0w {a0 a1 a2 a3 a4 a5 a6 a7 a8 a9 a10 a11 : C} {l : List C} : C.get (.agg (a0 :: a1 :: a2 :: a3 :: a4 :: a5 :: a6 :: a7 :: a8 :: a9 :: a10 :: a11 :: l)) 11 = a11 := rfl
@[go_sem] theorem x0v {a0 a1 a2 a3 a4 a5 a6 a7 a8 a9 a10 a11 a12 : C} {l : List C} : C.get (.agg (a0 :: a1 :: a2 :: a3 :: a4 :: a5 :: a6 :: a7 :: a8 :: a9 :: a10 :: a11 :: a12 :: l)) 12 = a12 := rfl
@[go_sem] theorem x0u {a0 a1 a2 a3 a4 a5 a6 a7 a8 a9 a10 a11 a12 a13 : C} {l : List C} : C.get (.agg (a0 :: a1 :: a2 :: a3 :: a4 :: a5 :: a6 :: a7 :: a8 :: a9 :: a10 :: a11 :: a12 :: a13 :: l)) 13 = a13 := rfl
@[go_sem] theorem x0t {a0 a1 a2 a3 a4 a5 a6 a7 a8 a9 a10 a11 a12 a13 a14 : C} {l : List C} : C.get (.agg (a0 :: a1 :: a2 :: a3 :: a4 :: a5 :: a6 :: a7 :: a8 :: a9 :: a10 :: a11 :: a12 :: a13 :: a14 :: l)) 14 = a14 := rfl
@[go_sem] theorem x0s {a0 a1 a2 a3 a4 a5 a6 a7 a8 a9 a10 a11 a12 a13 a14 a15 : C} {l : List C} : C.get (.agg (a0 :: a1 :: a2 :: a3 :: a4 :: a5 :: a6 :: a7 :: a8 :: a9 :: a10 :: a11 :: a12 :: a13 :: a14 :: a15 :: l)) 15 = a15 := rfl
@[go_sem] theorem x0M {a0 b : C} {l : List C} : C.set (.agg (a0 :: l)) 0 b = .agg (b :: l) := rfl
@[go_sem] theorem x0L {a0 a1 b : C} {l : List C} : C.set (.agg (a0 :: a1 :: l)) 1 b = .agg (a0 :: b :: l) := rfl
@[go_sem] theorem x0K {a0 a1 a2 b : C} {l : List C} : C.set (.agg (a0 :: a1 :: a2 :: l)) 2 b = .agg (a0 :: a1 :: b :: l) := rfl
@[go_sem] theorem x0J {a0 a1 a2 a3 b : C} {l : List C} : C.set (.agg (a0 :: a1 :: a2 :: a3 :: l)) 3 b = .agg (a0 :: a1 :: a2 :: b :: l) := rfl
@[go_sem] theorem x0I {a0 a1 a2 a3 a4 b : C} {l : List C} : C.set (.agg (a0 :: a1 :: a2 :: a3 :: a4 :: l)) 4 b = .agg (a0 :: a1 :: a2 :: a3 :: b :: l) := rfl
@[go_sem] theorem x0H {a0 a1 a2 a3 a4 a5 b : C} {l : List C} : C.set (.agg (a0 :: a1 :: a2 :: a3 :: a4 :: a5 :: l)) 5 b = .agg (a0 :: a1 :: a2 :: a3 :: a4 :: b :: l) := rfl
@[go_sem] theorem x0G {a0 a1 a2 a3 a4 a5 a6 b : C} {l : List C} : C.set (.agg (a0 :: a1 :: a2 :: a3 :: a4 :: a5 :: a6 :: l)) 6 b = .agg (a0 :: a1 :: a2 :: a3 :: a4 :: a5 :: b :: l) := rfl
@[go_sem] theorem x0F {a0 a1 a2 a3 a4 a5 a6 a7 b : C} {l : List C} : C.set (.agg (a0 :: a1 :: a2 :: a3 :: a4 :: a5 :: a6 :: a7 :: l)) 7 b = .agg (a0 :: a1 :: a2 :: a3 :: a4 :: a5 :: a6 :: b :: l) := rfl
attribute [go_sem] s5 Nat.beq_refl Bool.and_true Bool.true_and Bool.not_true Bool.not_false beq_self_eq_true Int.toNat_natCast decide_true decide_false Bool.cond_decide Int.toNat_zero Int.toNat_one
attribute [go_sem 500] Int.ofNat_eq_natCast
attribute [go_sem] Int.cast_ofNat_Int
@[go_sem] theorem x0N (n : Nat) : Int.ofNat (@OfNat.ofNat Nat n (instOfNatNat n)) = @OfNat.ofNat Int n instOfNat := rfl
@[go_sem] theorem y91 (n : Nat) : ((@OfNat.ofNat Nat n (instOfNatNat n) : Nat) : Int) = @OfNat.ofNat Int n instOfNat := rfl
@[go_sem] theorem x0O (a b : Bool) : y6I (.bool a) b = .bool b := rfl
@[go_sem] theorem x0Z (c : C) : C.beq c c = true := (C.beq_iff c c).2 rfl
theorem q8e {R : Type} {ι : Type} {F : KD R → List C → List Es → Option R} (st : ι → List C) (sm : ι → List Es) (μ : ι → Nat) (P : ι → Prop) (spec : ι → Option R)
  (h : ∀ i, P i → ∀ rec : KD R, (∀ j, P j → μ j < μ i → rec (st j) (sm j) = spec j) → F rec (st i) (sm i) = spec i) : ∀ (N : Nat) (i : ι), P i → μ i < N → c4 N F (st i) (sm i) = spec i
 | 0, _, _, h2 => absurd h2 (Nat.not_lt_zero _)
 | N + 1, i, h1, h2 => by
  rw [q9Y]
  exact h i h1 _ fun j hj hlt => q8e st sm μ P spec h N j hj (by omega)
theorem q1K {R : Type} {F : KD R → List C → List Es → Option R} (st : Nat → List C) (sm : Nat → List Es) (m : Nat) (r : Option R) (step : ∀ i, i < m → ∀ rec : KD R, F rec (st i) (sm i) = rec (st (i + 1)) (sm (i + 1))) (stop : ∀ rec : KD R, F rec (st m) (sm m) = r) {N : Nat} (hN : m < N) :
  c4 N F (st 0) (sm 0) = r := by
 refine q8e (F := F) st sm (fun i => m - i) (fun i => i ≤ m) (fun _ => r) (fun i hi rec hrec => ?_) N 0 (Nat.zero_le _) (by omega)
 by_cases e : i = m
 ·subst e; exact stop rec
 ·rw [step i (by omega) rec]
  exact hrec (i + 1) (by omega) (by omega)
theorem y5A {X : Cx} {f : FuncId} {ts : List Ty} {cs : List C} {A : Key → Option O} {v : V} {L : List (Key × O)} (h : (∀ (i : Nat) (t : Ty) (c : C), ts[i]? = some t → cs[i]? = some c → C.wf t c) → j7 X f (List.zipWith V.d ts cs) A v L) : j7 X f (List.zipWith V.d ts cs) A v L := by
 intro A' Γ w args hA hg hc hn hr
 refine h (fun i t c ht hcs => ?_) A' Γ w args hA hg hc hn hr
 have hx : (List.zipWith V.d ts cs)[i]? = some (.d t c) := by simp [List.getElem?_zipWith, ht, hcs]
 have hs : (X3 1000 (List.zipWith V.d ts cs))[i]? = some (.d t c) := by rw [q57, hx]; rfl
 have hl : i < args.size := by rw [← hn]; exact (List.getElem?_eq_some_iff.1 hx).1
 exact (hr i _ _ hs (Array.getElem?_eq_getElem hl)).wf
theorem y6O {w : World} {gl gl' : Nat → Option (Ty × C)} (h : z6Z w gl) (hs : ∀ g x, gl' g = some x → gl g = some x) : z6Z w gl' := fun g τ c hg => h g τ c (hs g (τ, c) hg)
theorem y9x {X : Cx} {f : FuncId} {g : OvG (V × List (Key × O))} (h : GOk X f g) {xs : List V} {A : Key → Option O} {v : V} {L : List (Key × O)} (hr : g xs A kR = some (v, L)) : j7 X f xs A v L := by
 obtain ⟨v', L', h1, h2⟩ := h xs A kR (v, L) hr
 simp only [kR, Option.some.injEq, Prod.mk.injEq] at h2
 obtain ⟨rfl, rfl⟩ := h2
 exact h1
def o7 {α σ ε : Type} (f : Nat → σ → α → σ ⊕ ε) : Nat → σ → List α → σ ⊕ ε
 | _, s, [] => .inl s
 | i, s, c :: l => match f i s c with
  | .inl s' => o7 f (i + 1) s' l
  | .inr e => .inr e
def z6J {R σ ε : Type} (fin : σ → Option R) (err : ε → Option R) : σ ⊕ ε → Option R
 | .inl s => fin s
 | .inr e => err e
theorem q1F {α R σ ε : Type} {F : KD R → List C → List Es → Option R} (st : Nat → σ → List C) (sm : Nat → σ → List Es) (l : List α) (f : Nat → σ → α → σ ⊕ ε) (fin : σ → Option R) (err : ε → Option R) (P : Nat → σ → Prop) {s0 : σ} {N : Nat}
  (h0 : P 0 s0) (step : ∀ i s c, l[i]? = some c → P i s → (∀ rec : KD R, F rec (st i s) (sm i s) = match f i s c with
   | .inl s' => rec (st (i + 1) s') (sm (i + 1) s')
   | .inr e => err e) ∧ (∀ s', f i s c = .inl s' → P (i + 1) s'))
  (stop : ∀ s, P l.length s → ∀ rec : KD R, F rec (st l.length s) (sm l.length s) = fin s) (hN : l.length < N) :
  c4 N F (st 0 s0) (sm 0 s0) = z6J fin err (o7 f 0 s0 l) := by
 have key := q8e (R := R) (ι := Nat × σ) (F := F) (fun x => st x.1 x.2) (fun x => sm x.1 x.2) (fun x => l.length - x.1) (fun x => x.1 ≤ l.length ∧ P x.1 x.2) (fun x => z6J fin err (o7 f x.1 x.2 (l.drop x.1)))
  (fun x hx rec hrec => ?_) N (0, s0) ⟨Nat.zero_le _, h0⟩ (by show l.length - 0 < N; omega)
 ·simpa using key
 ·obtain ⟨i, s⟩ := x
  obtain ⟨h1, h2⟩ := hx
  dsimp only at h1 h2 hrec ⊢
  by_cases h : i = l.length
  ·subst h
   rw [stop s h2, List.drop_length]
   rfl
  ·have hi : i < l.length := by omega
   obtain ⟨h3, h4⟩ := step i s l[i] (List.getElem?_eq_getElem hi) h2
   rw [h3, List.drop_eq_getElem_cons hi]
   simp only [o7]
   cases hf : f i s l[i] with
   | inl s' => exact hrec (i + 1, s') ⟨hi, h4 s' hf⟩ (by dsimp only; omega)
   | inr e => rfl
theorem q9Z {α R σ ε : Type} {F : KD R → List C → List Es → Option R} (st : Nat → σ → List C) (sm : Nat → σ → List Es) (l : List α) (f : Nat → σ → α → σ ⊕ ε) (fin : σ → Option R) (err : ε → Option R) {s0 : σ} {N : Nat}
  (step : ∀ i s c, l[i]? = some c → i < l.length → ∀ rec : KD R, F rec (st i s) (sm i s) = match f i s c with
   | .inl s' => rec (st (i + 1) s') (sm (i + 1) s')
   | .inr e => err e)
  (stop : ∀ s, ∀ rec : KD R, F rec (st l.length s) (sm l.length s) = fin s) (hN : l.length < N) :
  c4 N F (st 0 s0) (sm 0 s0) = z6J fin err (o7 f 0 s0 l) :=
 q1F st sm l f fin err (fun _ _ => True) trivial (fun i s c hc _ => ⟨step i s c hc (List.getElem?_eq_some_iff.1 hc).1, fun _ _ => trivial⟩) (fun s _ => stop s) hN
theorem q2b {l : List C} {i : Nat} {c : C} (h : l[i]? = some c) : l.getD i .nil = c := by rw [List.getD_eq_getElem?_getD, h]; rfl
theorem c9 {i : Nat} (h : i < 4611686018427387904) : IntKind.i64.wrap ((i : Int) + 1) = ((i + 1 : Nat) : Int) := by rw [IntWalk.i64_in _ (by omega)]; omega
theorem wrap_u64 {n : Int} (h : 0 ≤ n) (h2 : n < 18446744073709551616) : IntKind.u64.wrap n = n := by
 have hm1 : IntKind.u64.min = 0 := by decide
 have hm2 : IntKind.u64.max = 18446744073709551615 := by decide
 exact y7W (by omega) (by omega)
attribute [go_sem] q8W q5E
@[go_sem] theorem z4d (τ : Ty) : ∀ m : Es, q0b τ (dE τ m) = true
 | [] => rfl
 | _ :: m => by
  have := z4d τ m
  have h : Ty.beq τ τ = true := (Ty.beq_iff τ τ).2 rfl
  simp only [dE, List.map_cons, q0b, h, Bool.true_and] at this ⊢
  exact this
def z1N : Es → C → Bool
 | [], _ => false
 | (k, _) :: l, c => bif C.beq c k then true else z1N l c
def getM : Es → C → C
 | [], _ => .nil
 | (k, v) :: l, c => bif C.beq c k then v else getM l c
@[go_sem] theorem y2l (τ : Ty) (c : C) : ∀ m : Es, z0d (dE τ m) c = z1N m c
 | [] => rfl
 | (k, v) :: m => by
  have := y2l τ c m
  simp only [dE, List.map_cons, z0d, z1N] at this ⊢
  rw [this]
@[go_sem] theorem y2n (τ : Ty) (c : C) : ∀ m : Es, z3V (dE τ m) c = getM m c
 | [] => rfl
 | (k, v) :: m => by
  have := y2n τ c m
  simp only [dE, List.map_cons, z3V, getM] at this ⊢
  rw [this]
@[go_sem] theorem y7Y : unE [] = [] := rfl
@[go_sem] theorem x1a (τ : Ty) : dE τ [] = [] := rfl
def iter {α : Type} (f : α → α) : Nat → α → α
 | 0, x => x
 | n + 1, x => iter f n (f x)
end Go.E
namespace Go.E
open Go
def z2g (w : World) (v : Value) (l : List UInt8) : Prop :=
 (v = .slice none 0 0 ∧ l = []) ∨ ∃ g cap arr, v = .slice (some ⟨g, 0, none⟩) l.length cap ∧ w.heap[g]? = some (.cells arr 5 (0, 0)) ∧ arr.size = cap ∧ arr.toList.take l.length = p9 l ∧ l.length ≤ cap ∧ cap ≤ maxLen ∧ 0 < cap
def y4b (w w' : World) (v v' : Value) (l l' : List UInt8) : Prop :=
 oof w' = oof w ∧ w.heap.size ≤ w'.heap.size ∧ ((v' = v ∧ l' = l ∧ ∀ b, b < w.heap.size → w'.heap[b]? = w.heap[b]?) ∨
  ∃ g cap arr, v' = .slice (some ⟨g, 0, none⟩) l'.length cap ∧ w'.heap[g]? = some (.cells arr 5 (0, 0)) ∧ arr.size = cap ∧ arr.toList.take l'.length = p9 l' ∧ l'.length ≤ cap ∧ cap ≤ maxLen ∧ 0 < cap ∧
   (w.heap.size ≤ g ∨ v = .slice (some ⟨g, 0, none⟩) l.length cap) ∧ ∀ b, b < w.heap.size → b ≠ g → w'.heap[b]? = w.heap[b]?)
theorem F6 (l : List UInt8) : (p9 l).length = l.length := by simp [p9]
theorem q6D (l m : List UInt8) : p9 (l ++ m) = p9 l ++ p9 m := by simp [p9]
section
variable {P : Program} {w : World}
theorem y35 {t tx ty : TypeId} {i : TypeInfo} {z : Value} (ht : P.underlying t = some (.slice 5)) (hi : P.info? 5 = some i) (hz : i.zero = some z) (h1 : i.size = 1) (h2 : i.bytes = 1) (h3 : z.cells.size = 1)
  {l m : List UInt8} {v x : Value} (hl : (l ++ m).length ≤ 140737488355328) (hs : Src P 1 tx x m.length (p9 m) w) (hv : z2g w v l) :
  ∃ v' w', (Builtin.append_ #[t, tx] ty #[v, x]).run P w = .ok v' w' ∧ y4b w w' v v' l (l ++ m) := by
 have hs' : Src P i.size tx x m.length (p9 m) w := by rw [h1]; exact hs
 rw [List.length_append] at hl
 have hmx : l.length + m.length ≤ maxLen := by unfold maxLen; omega
 have hmx' : ((l.length + m.length : Nat) : Int) ≤ 9223372036854775807 := by omega
 have fresh : ∀ (olds : List Value) (sc : Nat), olds = p9 l → sc < l.length + m.length → y4b w (w.drew.alloc (.cells ((olds ++ p9 m).toArray ++ Builtin.zeroCells z.cells (grownCap w (l.length + m.length) sc 5 - (l.length + m.length))) 5)) v
   (.slice (some ⟨w.heap.size, 0, none⟩) (l.length + m.length) (grownCap w (l.length + m.length) sc 5)) l (l ++ m) := by
  intro olds sc ho hsc
  subst ho
  have hge := grownCap_ge w (l.length + m.length) sc 5
  have hcm := grownCap_le_maxLen w (l.length + m.length) sc 5 hmx
  refine ⟨rfl, by simp, .inr ⟨w.heap.size, _, _, by rw [List.length_append], heap_alloc_new w.drew _, ?_, ?_, by rw [List.length_append]; exact hge, hcm, by omega, .inl (Nat.le_refl _), fun b hb _ => heap_alloc_old w.drew _ hb⟩⟩
  ·simp only [Array.size_append, List.size_toArray, List.length_append, size_zeroCells, h3, F6, Nat.mul_one]
   omega
  ·rw [Array.toList_append, List.toList_toArray, ← q6D]
   have : (p9 (l ++ m)).length = (l ++ m).length := F6 _
   rw [← this, List.take_left']
   rfl
 by_cases hm : m = []
 ·subst hm
  refine ⟨v, w, ?_, rfl, Nat.le_refl _, .inl ⟨rfl, by simp, fun _ _ => rfl⟩⟩
  rcases hv with ⟨rfl, _⟩ | ⟨g, cap, arr, rfl, _, _, _, hle, _⟩
  ·exact q1l ht hi hs' (Nat.le_refl _)
  ·exact q1l ht hi hs' hle
 ·have hml : 0 < m.length := List.length_pos_iff.2 hm
  rcases hv with ⟨rfl, rfl⟩ | ⟨g, cap, arr, rfl, hg, hsz, htk, hle, hcm, hc0⟩
  ·have run := run_append_grow_src (P := P) w t tx ty 5 i z ht hi hz none 0 0 [] (by simpa [h1] using run_firstCells_none (P := P) w.drew i.size 0 0 0) x m.length (p9 m) hs' (by omega) (by simpa using hmx') (by
    rw [h2]; exact growslice_fits (by omega) (by simp at hl; omega))
   have f := fresh [] 0 rfl (by simp; omega)
   simp only [List.length_nil] at f
   exact ⟨_, _, run, f⟩
  ·by_cases hroom : l.length + m.length ≤ cap
   ·have run := run_append_room_src (P := P) w t tx ty 5 i ht hi g 0 l.length cap x m.length (p9 m) hs' hroom
     (fun j hj => by
      rw [F6] at hj
      simp [World.cell?, hg]
      rw [h1]; omega)
     (fun j hj => by simp [World.frozen?, hg])
    rw [Nat.zero_add, h1, Nat.mul_one] at run
    obtain ⟨arr', hw', harr'⟩ := q35 g (p9 m) l.length w arr 5 (0, 0) hg (by rw [F6]; omega)
    refine ⟨_, _, run, by unfold oof; rw [World.os_setCells, World.output_setCells], by rw [z0y]; exact Nat.le_refl _, .inr ⟨g, cap, arr', by rw [List.length_append], hw', ?_, ?_, by rw [List.length_append]; exact hroom, hcm, hc0, .inr rfl, fun b _ hb => q3m g (p9 m) _ w b hb⟩⟩
    ·rw [← hsz, ← Array.length_toList, ← Array.length_toList, harr', Z3 (by rw [F6]; simp; omega)]
    ·rw [harr', v7, htk, q6D]
     have e : (l ++ m).length = (p9 l ++ p9 m).length := by simp [F6]
     rw [e, List.take_left']
     rfl
   ·have hcell : ∀ j u, (p9 l)[j]? = some u → w.cell? ((⟨g, 0, none⟩ : Addr).add j) = some u := fun j u hu => by
     rw [← htk, List.getElem?_take] at hu
     split at hu
     ·rw [Array.getElem?_toList] at hu
      simp [World.cell?, Addr.add_lit, hg, hu]
     ·cases hu
    have run := run_append_grow_src (P := P) w t tx ty 5 i z ht hi hz (some ⟨g, 0, none⟩) l.length cap (p9 l) (by
      have := run_firstCells_some (P := P) w.drew i.size l.length ⟨g, 0, none⟩ l.length cap (p9 l) (by rw [F6, h1, Nat.mul_one]) (by simpa using hcell)
      exact this) x m.length (p9 m) hs' (by omega) hmx' (by
     rw [h2]; exact growslice_fits (by omega) (by omega))
    exact ⟨_, _, run, fresh (p9 l) cap rfl (by omega)⟩
open RowKit in
theorem z2N {ops : Array Oper} {rest : List Oper} {o : Oper} {a : Act} {Q : Exit → Act → World → Prop} (hgd : o.guard = none) (sl x : Operand) (t u : TypeId)
  (ho : o.op = .call { callee := .builtin .append, args := #[sl, x], argTypes := #[t, u] }) {i : TypeInfo} {z : Value} (ht : P.underlying t = some (.slice 5)) (hi : P.info? 5 = some i) (hz : i.zero = some z) (h1 : i.size = 1) (h2 : i.bytes = 1) (h3 : z.cells.size = 1)
  {l m : List UInt8} {v xv : Value} (hsl : a.eval sl = v) (hx : a.eval x = xv) (hl : (l ++ m).length ≤ 140737488355328) (hs : Src P 1 u xv m.length (p9 m) w) (hv : z2g w v l)
  (h : ∀ v' w', y4b w w' v v' l (l ++ m) → wpList P ops Q rest (a.put o.dst v') w') : wpList P ops Q (o :: rest) a w := by
 refine wpList_plain hgd fun K hK => ?_
 obtain ⟨v', w', hr, h4⟩ := y35 (ty := o.type) ht hi hz h1 h2 h3 hl hs hv
 unfold Oper.wp execOp
 simp only [ho, resolve, invoke, builtin, Sem.run_bind, Sem.run_pure, Result.andThen_ok, List.map_toArray, List.map_cons, List.map_nil, hsl, hx, hr]
 exact hK _ _ (h v' w' h4)
end
section
variable {Γ : G} {w w' : World} {s : S}
theorem z8.y9N (c : z8 Γ w s) {k : Key} {l : List UInt8} {v : Value}
  (h : (v = .slice none 0 0 ∧ l = []) ∨ ∃ g cap, v = .slice (some ⟨g, 0, none⟩) l.length cap ∧ Γ.H g = some (p9 l) ∧ Γ.κ g = some (.home k .bld, cap) ∧ l.length ≤ cap ∧ cap ≤ maxLen ∧ 0 < cap) : z2g w v l := by
 rcases h with h | ⟨g, cap, h1, h2, h3, h4, h5, h6⟩
 ·exact .inl h
 ·obtain ⟨_, _, arr, T, a1, a2, a3⟩ := c.hκ g _ _ h3
  have a3 : T = 5 := a3
  subst a3
  obtain ⟨arr', T', fr, r, b1, b2⟩ := c.hH g _ h2
  rw [a1] at b1; cases b1
  refine .inr ⟨g, cap, arr, h1, a1, a2, ?_, h4, h5, h6⟩
  rw [b2, ← F6 l, List.take_left']
  rfl
theorem z8.x0A (c : z8 Γ w s) {k : Key} {T : TypeId} {l l' : List UInt8} {b : Nat} {adr v adr' v' : Value} (ho : s.obj k = some (.it l T)) (hι : Γ.ι k = some (b, q0S)) (hw : w.heap[b]? = some (.cells #[adr, v] T (0, 0)))
  (hv : (v = .slice none 0 0 ∧ l = []) ∨ ∃ g cap, v = .slice (some ⟨g, 0, none⟩) l.length cap ∧ Γ.H g = some (p9 l) ∧ Γ.κ g = some (.home k .bld, cap) ∧ l.length ≤ cap ∧ cap ≤ maxLen ∧ 0 < cap)
  (hoo : oof w' = oof w) (hsz : w.heap.size ≤ w'.heap.size) (hb' : w'.heap[b]? = some (.cells #[adr', v'] T (0, 0))) (hadr : adr' = .pointer none ∨ adr' = .pointer (some ⟨b, 0, none⟩)) (hlen : l'.length ≤ 140737488355328) (hpre : ∃ m, l' = l ++ m)
  (hrow : (v' = v ∧ l' = l ∧ ∀ b2, b2 < w.heap.size → b2 ≠ b → w'.heap[b2]? = w.heap[b2]?) ∨
   ∃ g cap arr, v' = .slice (some ⟨g, 0, none⟩) l'.length cap ∧ w'.heap[g]? = some (.cells arr 5 (0, 0)) ∧ arr.size = cap ∧ arr.toList.take l'.length = p9 l' ∧ l'.length ≤ cap ∧ cap ≤ maxLen ∧ 0 < cap ∧
    (w.heap.size ≤ g ∨ v = .slice (some ⟨g, 0, none⟩) l.length cap) ∧ ∀ b2, b2 < w.heap.size → b2 ≠ g → b2 ≠ b → w'.heap[b2]? = w.heap[b2]?) :
  ∃ Γ', GLe Γ Γ' ∧ r8 Γ Γ' ∧ z8 Γ' w' { s with loc := (k, .it l' T) :: s.loc } := by
 obtain ⟨hH, hZ, hlt, _⟩ := c.U4 hι ho rfl
 have hdk : s.o5 k = false := by rw [b6 ho]; rfl
 have hdom : ∀ j, Γ.ι j ≠ none → S.obj { s with loc := (k, .it l' T) :: s.loc } j ≠ none := fun j h => by
  rw [s7]
  split
  ·simp
  ·exact c.dom j h
 have nek : ∀ j b2 τ o, k ≠ j → Γ.ι j = some (b2, τ) → s.obj j = some o → o.U1 = false → b2 ≠ b := fun j b2 τ o hj h1 h2 h3 e => by
  subst e
  exact hj (c.y3v hι h1 hdk (by rw [b6 h2]; exact h3))
 rcases hrow with ⟨rfl, rfl, hsame⟩ | ⟨g, cap, arr, rfl, hg, hasz, htk, hle, hcm, hc0, hgv, hsame⟩
 ·refine ⟨Γ, .refl Γ, .refl Γ, ?_⟩
  refine c.change (.refl Γ) rfl rfl rfl hoo (fun b2 l0 h => ?_) (fun b2 h => hsame b2 (c.Zlt h) fun e => by subst e; exact h hZ) (fun b2 o sz h => ?_) (fun j o h => ?_) (fun _ h _ => h) hdom (fun b2 sz h => ?_) (c.q6y (q3z fun h => by rw [hdk] at h; cases h)) c.tok c.tdom hsz
  ·rw [hsame b2 (c.Hlt (by rw [h]; simp)) (fun e => by subst e; rw [hH] at h; cases h)]; exact c.hH b2 l0 h
  ·obtain ⟨a1, a2, a3⟩ := c.hκ b2 o sz h
   rw [hsame b2 (c.Hlt a2) (fun e => by subst e; exact a2 hH)]; exact ⟨a1, a2, a3⟩
  ·rw [s7] at h
   split at h
   ·rename_i e
    subst e; cases h
    exact .inr ⟨b, adr', v', hι, hH, hZ, hb', hadr, hlen, hv⟩
   ·rename_i e
    refine .inl ⟨h, fun hd => ⟨fun _ _ _ _ => ⟨rfl, rfl⟩, fun b2 τ' hb => ?_⟩⟩
    obtain ⟨a1, a2, a3, _⟩ := c.U4 hb h hd
    exact ⟨hsame b2 a3 (nek j b2 τ' o e hb h hd), a1⟩
  ·obtain ⟨arr, T1, fr, a1, a2⟩ := c.hσ b2 sz h
   by_cases e : b2 = b
   ·subst e
    rw [hw] at a1; cases a1
    exact ⟨_, _, _, hb', a2⟩
   ·exact ⟨arr, T1, fr, by rw [hsame b2 (lt_of_heap a1) e]; exact a1, a2⟩
 ·-- the row's place
  have hgz : Γ.Z g = none := by
   rcases hgv with h | h
   ·cases hz : Γ.Z g with
    | none => rfl
    | some x => exact absurd (c.Zlt (by rw [hz]; simp)) (by omega)
   ·rcases hv with ⟨h', _⟩ | ⟨g2, cap2, h', a1, a2, _⟩
    ·rw [h] at h'; cases h'
    ·rw [h] at h'; cases h'
     exact (c.hκ g _ _ a2).1
  have hgκ : ∀ o sz, Γ.κ g = some (o, sz) → o = .home k .bld ∧ sz = cap := by
   intro o sz hk
   rcases hgv with h | h
   ·exact absurd (c.κlt (by rw [hk]; simp)) (by omega)
   ·rcases hv with ⟨h', _⟩ | ⟨g2, cap2, h', a1, a2, _⟩
    ·rw [h] at h'; cases h'
    ·rw [h] at h'; cases h'
     rw [hk] at a2; cases a2; exact ⟨rfl, rfl⟩
  have hgH : ∀ l0, Γ.H g = some l0 → l0 = p9 l := by
   intro l0 hk
   rcases hgv with h | h
   ·exact absurd (c.Hlt (by rw [hk]; simp)) (by omega)
   ·rcases hv with ⟨h', _⟩ | ⟨g2, cap2, h', a1, a2, _⟩
    ·rw [h] at h'; cases h'
    ·rw [h] at h'; cases h'
     rw [hk] at a1; cases a1; rfl
  have hgι : ∀ j b2 τ o, Γ.ι j = some (b2, τ) → s.obj j = some o → o.U1 = false → b2 ≠ g := by
   intro j b2 τ o h1 h2 h3 e
   subst e
   obtain ⟨a1, a2, a3, _⟩ := c.U4 h1 h2 h3
   rcases hgv with h | h
   ·omega
   ·rcases hv with ⟨h', _⟩ | ⟨g2, cap2, h', q1, q2, _⟩
    ·rw [h] at h'; cases h'
    ·rw [h] at h'; cases h'
     rw [a1] at q1; cases q1
  have hbg : b ≠ g := hgι k b _ _ hι ho rfl
  obtain ⟨m, rfl⟩ := hpre
  have hle' : Γ.H.le (o6 Γ.H g (p9 (l ++ m))) := fun b2 l0 h => by
   by_cases e : b2 = g
   ·subst e
    refine ⟨p9 m, ?_⟩
    rw [w9, hgH l0 h, q6D]
   ·exact ⟨[], by rw [c8 _ _ e, h]; simp⟩
  refine ⟨{ Γ with H := o6 Γ.H g (p9 (l ++ m)), κ := o6 Γ.κ g (.home k .bld, cap) }, ⟨hle', rfl, fun b2 h => c8 _ _ fun e => by subst e; exact h hgz, fun _ _ h => h, rfl, rfl, fun _ _ h => h, fun _ h => h⟩,
   ⟨hle', fun _ _ h => h, fun t x L h => ⟨x, L, h, Nat.le_refl _, fun _ => rfl⟩, fun _ _ h => h⟩, ?_⟩
  refine c.change (Γ' := { Γ with H := o6 Γ.H g (p9 (l ++ m)), κ := o6 Γ.κ g (.home k .bld, cap) }) ⟨hle', fun _ _ h => h, fun t x L h => ⟨x, L, h, Nat.le_refl _, fun _ => rfl⟩, fun _ _ h => h⟩ rfl rfl rfl hoo (fun b2 l0 h => ?_)
   (fun b2 h => hsame b2 (c.Zlt h) (fun e => by subst e; exact h hgz) fun e => by subst e; exact h hZ) (fun b2 o sz h => ?_) (fun j o h => ?_) (fun _ h _ => h) hdom (fun b2 sz h => ?_) (c.q6y (q3z fun h => by rw [hdk] at h; cases h)) (fun t L h => ?_) c.tdom hsz
  ·by_cases e : b2 = g
   ·subst e
    have h' : o6 Γ.H b2 (p9 (l ++ m)) b2 = some l0 := h
    rw [w9] at h'; cases h'
    exact ⟨arr, 5, (0, 0), arr.toList.drop (l ++ m).length, hg, by rw [← htk, List.take_append_drop]⟩
   ·have h' : Γ.H b2 = some l0 := (c8 _ _ e).symm.trans h
    rw [hsame b2 (c.Hlt (by rw [h']; simp)) e (fun e => by subst e; rw [hH] at h'; cases h')]; exact c.hH b2 l0 h'
  ·by_cases e : b2 = g
   ·subst e
    have h' : o6 Γ.κ b2 (.home k .bld, cap) b2 = some (o, sz) := h
    rw [w9] at h'; cases h'
    exact ⟨hgz, by show o6 Γ.H b2 (p9 (l ++ m)) b2 ≠ none; rw [w9]; simp, arr, 5, hg, hasz, rfl⟩
   ·have h' : Γ.κ b2 = some (o, sz) := (c8 _ _ e).symm.trans h
    obtain ⟨a1, a2, a3⟩ := c.hκ b2 o sz h'
    rw [hsame b2 (c.Hlt a2) e (fun e => by subst e; exact a2 hH)]
    exact ⟨a1, by show o6 Γ.H g (p9 (l ++ m)) b2 ≠ none; rw [c8 _ _ e]; exact a2, a3⟩
  ·rw [s7] at h
   split at h
   ·rename_i e
    subst e; cases h
    exact .inr ⟨b, adr', _, hι, by show o6 Γ.H g (p9 (l ++ m)) b = none; rw [c8 _ _ hbg]; exact hH, hZ, hb', hadr, hlen, .inr ⟨g, cap, rfl, w9 _ _ _, w9 _ _ _, hle, hcm, hc0⟩⟩
   ·rename_i e
    refine .inl ⟨h, fun hd => ⟨fun b2 p sz hk => ?_, fun b2 τ' hb => ?_⟩⟩
    ·have hne : b2 ≠ g := fun e2 => by
      subst e2
      obtain ⟨q, _⟩ := hgκ _ _ hk
      cases q
      exact e rfl
     exact ⟨c8 _ _ hne, c8 _ _ hne⟩
    ·obtain ⟨a1, a2, a3, _⟩ := c.U4 hb h hd
     have hne := hgι j b2 τ' o hb h hd
     exact ⟨hsame b2 a3 hne (nek j b2 τ' o e hb h hd), (c8 _ _ hne).trans a1⟩
  ·obtain ⟨arr1, T1, fr, a1, a2⟩ := c.hσ b2 sz h
   by_cases e : b2 = b
   ·subst e
    rw [hw] at a1; cases a1
    exact ⟨_, _, _, hb', a2⟩
   ·by_cases e2 : b2 = g
    ·subst e2
     refine ⟨arr, 5, (0, 0), hg, ?_⟩
     rcases hgv with h' | h'
     ·have := lt_of_heap a1; omega
     ·rcases hv with ⟨h2, _⟩ | ⟨g2, cap2, h2, q1, q2, _⟩
      ·rw [h'] at h2; cases h2
      ·rw [h'] at h2; cases h2
       obtain ⟨_, _, arr2, T2, b1, b2, _⟩ := c.hκ b2 _ _ q2
       rw [a1] at b1; cases b1
       omega
    ·exact ⟨arr1, T1, fr, by rw [hsame b2 (lt_of_heap a1) e2 e]; exact a1, a2⟩
  ·obtain ⟨x, h1, h2⟩ := c.tok t L h
   refine ⟨x, h1, fun b2 pos sz hx => ?_⟩
   obtain ⟨⟨l0, a1, a2⟩, a3⟩ := h2 b2 pos sz hx
   have hne : b2 ≠ g := fun e => by subst e; have := (hgκ _ _ a3).1; cases this
   exact ⟨⟨l0, (c8 _ _ hne).trans a1, a2⟩, (c8 _ _ hne).trans a3⟩
theorem z8.y5J (c : z8 Γ w s) {k : Key} {T : TypeId} {l : List UInt8} {b : Nat} {adr v : Value} (ho : s.obj k = some (.it l T)) (hι : Γ.ι k = some (b, q0S)) (hw : w.heap[b]? = some (.cells #[adr, v] T (0, 0))) (h1c : q0o [adr, v])
  (hoo : oof w' = oof w) (hsz : w.heap.size ≤ w'.heap.size) (gopt : Option Nat) (hg : ∀ g, gopt = some g → (∃ sz, Γ.κ g = some (.home k .bld, sz)) ∧ ∃ arr T2 fr, w.heap[g]? = some (.cells arr T2 (0, 0)) ∧ w'.heap[g]? = some (.cells arr T2 fr))
  (hsame : ∀ b2, b2 < w.heap.size → some b2 ≠ gopt → w'.heap[b2]? = w.heap[b2]?) :
  ∃ Γ', GLe Γ Γ' ∧ r8 Γ Γ' ∧ z8 Γ' w' { s with loc := (k, .box (.top q0S)) :: s.loc } := by
 obtain ⟨hH, hZ, hlt, _⟩ := c.U4 hι ho rfl
 have hdk : s.o5 k = false := by rw [b6 ho]; rfl
 have gk : ∀ g, gopt = some g → Γ.H g ≠ none ∧ Γ.Z g = none := fun g h => by
  obtain ⟨⟨sz, h1⟩, _⟩ := hg g h
  exact ⟨(c.hκ g _ _ h1).2.1, (c.hκ g _ _ h1).1⟩
 have hbg : some b ≠ gopt := fun e => (gk b e.symm).1 hH
 have pr : r8 Γ { Γ with κ := fun b2 => if some b2 = gopt then none else Γ.κ b2 } := ⟨Hp.le_refl _, fun _ _ h => h, fun t x L h => ⟨x, L, h, Nat.le_refl _, fun _ => rfl⟩, fun _ _ h => h⟩
 refine ⟨{ Γ with κ := fun b2 => if some b2 = gopt then none else Γ.κ b2 }, ⟨Hp.le_refl _, rfl, fun _ _ => rfl, fun _ _ h => h, rfl, rfl, fun _ _ h => h, fun _ h => h⟩, pr, ?_⟩
 have cells : ∀ (b2 : Nat) (arr : Array Value) (T2 : TypeId) (fr : Nat × Nat), w.heap[b2]? = some (Obj.cells arr T2 fr) → ∃ fr', w'.heap[b2]? = some (Obj.cells arr T2 fr') := fun b2 arr T2 fr h => by
  by_cases e : some b2 = gopt
  ·obtain ⟨_, arr', T', fr', a1, a2⟩ := hg b2 e.symm
   rw [h] at a1; cases a1
   exact ⟨fr', a2⟩
  ·exact ⟨fr, by rw [hsame b2 (lt_of_heap h) e]; exact h⟩
 refine c.change pr rfl rfl rfl hoo (fun b2 l0 h => ?_) (fun b2 h => hsame b2 (c.Zlt h) fun e => h (gk b2 e.symm).2) (fun b2 o sz h => ?_) (fun j o h => ?_) (fun _ h _ => h) (fun j h => ?_) (fun b2 sz h => ?_) (c.q6y (q3z fun h => by rw [hdk] at h; cases h)) (fun t L h => ?_) c.tdom hsz
 ·obtain ⟨arr, T2, fr, r, a1, a2⟩ := c.hH b2 l0 h
  obtain ⟨fr', a3⟩ := cells b2 _ _ _ a1
  exact ⟨arr, T2, fr', r, a3, a2⟩
 ·by_cases e : some b2 = gopt
  ·simp [e] at h
  ·have h' : Γ.κ b2 = some (o, sz) := by simpa [e] using h
   obtain ⟨a1, a2, a3⟩ := c.hκ b2 o sz h'
   rw [hsame b2 (c.Hlt a2) e]
   exact ⟨a1, a2, a3⟩
 ·rw [s7] at h
  split at h
  ·rename_i e
   subst e; cases h
   refine .inr ⟨b, #[adr, v], T, hι, hH, hZ, by rw [hsame b hlt hbg]; exact hw, Nat.le_refl _, ?_, rfl, rfl⟩
   simp only [q8]
   refine ⟨rfl, h1c, fun h => by cases h⟩
  ·rename_i e
   refine .inl ⟨h, fun hd => ⟨fun b2 p sz hk => ⟨?_, rfl⟩, fun b2 τ' hb => ?_⟩⟩
   ·by_cases e2 : some b2 = gopt
    ·obtain ⟨⟨sz2, h1⟩, _⟩ := hg b2 e2.symm
     rw [hk] at h1; cases h1
     exact absurd rfl e
    ·simp [e2]
   ·obtain ⟨a1, a2, a3, _⟩ := c.U4 hb h hd
    exact ⟨hsame b2 a3 fun e2 => (gk b2 e2.symm).1 a1, a1⟩
 ·rw [s7]
  split
  ·simp
  ·exact c.dom j h
 ·obtain ⟨arr, T2, fr, a1, a2⟩ := c.hσ b2 sz h
  obtain ⟨fr', a3⟩ := cells b2 _ _ _ a1
  exact ⟨arr, T2, fr', a3, a2⟩
 ·obtain ⟨x, h1, h2⟩ := c.tok t L h
  refine ⟨x, h1, fun b2 pos sz hx => ?_⟩
  obtain ⟨a0, a3⟩ := h2 b2 pos sz hx
  refine ⟨a0, ?_⟩
  by_cases e2 : some b2 = gopt
  ·obtain ⟨⟨sz2, h1⟩, _⟩ := hg b2 e2.symm
   rw [a3] at h1; cases h1
  ·simpa [e2] using a3
end
end Go.E
namespace Go.E
open Go Go.ChangeShapes Go.WideShapes Go.RowKit
def z5f (P : Program) : List (String × DataW Unit) → Nat → Option (Ty × C)
 | [], _ => none
 | (n, d) :: r, g => if P.globalNamed n = some g then (match (P.globals[g]?).map (·.type) with
  | some t => (match d with
   | .iface _ _ => some (.iface, .bool true)
   | d => some (ty P t, cOf d))
  | none => none) else z5f P r g
def z3U (P : Program) (t : TypeId) : Bool := match P.underlying t with
 | some (.interface _) => true
 | _ => false
def z2u (P : Program) (l : List (String × DataW Unit)) : Bool := l.all fun x => match P.globalNamed x.1 with
 | some g => match (P.globals[g]?).map (·.type) with
  | some t => (match x.2 with
   | .iface _ _ => z3U P t
   | d => decide (t < P.types.size) && (ty P t).dat && (d.weights P t).all (· ≤ reachBytes))
  | none => false
 | none => false
theorem iface_of_trod {P : Program} {w : World} {b : Nat} {sp : Nat → Bool} {fuel : Nat} {t : TypeId} {cs : List Value} {s : String} {d : DataW Unit} {p : List MemPlace} (hu : z3U P t = true)
  (h : DataW.trod (fun _ => ()) P w b sp false fuel t cs = some (.iface s d, p)) : ∃ u v, cs = [.iface u v] := by
 unfold z3U at hu
 split at hu
 ·rename_i ms hu'
  cases fuel with
  | zero => simp [DataW.trod] at h
  | succ fuel =>
   unfold DataW.trod at h
   rw [hu'] at h
   split at h <;> simp_all
 ·cases hu
theorem z5e {P : Program} (hP : x6 P = true) {w : World} : ∀ {l : List (String × DataW Unit)} {ps : List MemPlace}, z2u P l = true → DataW.LaidVars P w l ps → z6Z w (z5f P l)
 | [], _, _, _ => fun g τ c h => by simp [z5f] at h
 | (n, d) :: r, ps, hk, h => by
  obtain ⟨g0, t, cs, fuel, p, q, hg, ht, hv, hd, hr, _⟩ := h
  simp only [z2u, List.all_cons, Bool.and_eq_true, hg, ht] at hk
  obtain ⟨k1, k4⟩ := hk
  intro g τ c h
  simp only [z5f] at h
  split at h
  ·rename_i e
   rw [hg] at e; cases e
   rw [ht] at h
   simp only [World.var?, hg, Option.bind_some] at hv
   split at hv
   ·rename_i cc T fr hc
    cases hv
    cases hdd : d with
    | iface s d' =>
     subst hdd
     simp only at h k1
     cases h
     obtain ⟨u, v, e⟩ := iface_of_trod k1 hd
     refine ⟨cs.toList, by simp [q41, hc], by rw [e]; exact Nat.le_refl _, ?_⟩
     rw [e]
     exact .inr ⟨rfl, u, v, rfl⟩
    | _ =>
     subst hdd
     simp only [Bool.and_eq_true, decide_eq_true_eq] at h k1
     cases h
     obtain ⟨⟨k1, k2⟩, k3⟩ := k1
     have hrep := q3K hP (fun _ => rfl) fuel 12 k1 k2 hd k3
     have hl := hrep.length
     refine ⟨cs.toList, by simp [q41, hc], by show (tyF P 12 t).size ≤ _; omega, ?_⟩
     have : chunk cs.toList 0 (ty P t).size = cs.toList := by
      show chunk cs.toList 0 (tyF P 12 t).size = _
      rw [← hl]; exact q4q _
     rw [this]
     exact hrep
   ·cases hv
  ·exact z5e hP k4 hr g τ c h
theorem y5j {P : Program} (hP : x6 P = true) {w : World} {l : List (String × DataW Unit)} (hk : z2u P l = true) (hn : (l.all fun x => x.2.handleName?.isNone) = true) (h : laidMetH P l w) : z6Z w (z5f P l) := by
 rw [MakeChecks.laidMetH_plain _ _ _ hn] at h
 obtain ⟨ps, h1, _⟩ := h
 exact z5e hP hk h1
end Go.E
namespace Go.E
open Go
def z8C : Nat → Code → List Code
 | n + 1, .seq a b => a :: z8C n b
 | _, _ => []
def z0m : Nat → Code → Code
 | n + 1, .seq _ b => z0m n b
 | _, c => c
def y5Q {R : Type} (X : Cx) (n : Nat) (c : Code) (tl : S → (S → Option R) → Option R) : Prop :=
 ∀ s k r, tl s k = some r → ∃ s', k s' = some r ∧ s'.A = s.A ∧ ∀ A', leA s.A A' → ∀ Ψ : Exit → S → Prop, Ψ .ret (s'.wA A') → DC X n c (s.wA A') Ψ
section
variable {X : Cx} {R : Type}
theorem z7L {n : Nat} {r : R} {run : List Nat → Code → S → KE R → Option R} (hrun : ∀ p c s (K : KE R), run p c s K = some r → z2h X n c s r K) : ∀ (m : Nat) (c : Code) (p : List Nat) (s : S) (k : S → Option R) (K : KE R), q5u run (z8C m c) p s k K = some r →
  (∃ s1, k s1 = some r ∧ s1.A = s.A ∧ ∀ A', leA s.A A' → ∀ Ψ : Exit → S → Prop, DC X n (z0m m c) (s1.wA A') Ψ → DC X n c (s.wA A') Ψ) ∨
  (∃ e s1, e ≠ .normal ∧ K e s1 = some r ∧ s1.A = s.A ∧ ∀ A', leA s.A A' → ∀ Ψ : Exit → S → Prop, Ψ e (s1.wA A') → DC X n c (s.wA A') Ψ)
 | 0, c, p, s, k, K, h => .inl ⟨s, h, rfl, fun A' _ Ψ hd => hd⟩
 | m + 1, .seq a b, p, s, k, K, h => by
  simp only [z8C, q5u] at h
  obtain ⟨e, s1, h1, a1, d1⟩ := hrun _ _ _ _ h
  cases e with
  | normal =>
   rcases z7L hrun m b (1 :: p) s1 k K (by dsimp only at h1; rw [z5h] at h1; exact h1) with ⟨s2, h2, a2, d2⟩ | ⟨e, s2, hne, h2, a2, d2⟩
   ·exact .inl ⟨s2, h2, a2.trans a1, fun A' hA Ψ hd => U3 (d1 A' hA _ (d2 A' (by rw [a1]; exact hA) Ψ hd))⟩
   ·exact .inr ⟨e, s2, hne, h2, a2.trans a1, fun A' hA Ψ hd => U3 (d1 A' hA _ (d2 A' (by rw [a1]; exact hA) Ψ hd))⟩
  | exit _ | goto _ | ret | panic _ | outgrown => exact .inr ⟨_, s1, by simp, h1, a1, fun A' hA Ψ hd => U3 (d1 A' hA _ hd)⟩
 | m + 1, .skip, _, s, _, _, h | m + 1, .region _ _ _, _, s, _, _, h | m + 1, .cond _ _ _, _, s, _, _, h | m + 1, .block _ _, _, s, _, _, h | m + 1, .loop _, _, s, _, _, h | m + 1, .exit _, _, s, _, _, h | m + 1, .scope _, _, s, _, _, h | m + 1, .label _, _, s, _, _, h
 | m + 1, .goto _, _, s, _, _, h | m + 1, .ret, _, s, _, _, h | m + 1, .rangeFunc _ _ _ _, _, s, _, _, h | m + 1, .refuse _, _, s, _, _, h => .inl ⟨s, h, rfl, fun A' _ Ψ hd => hd⟩
noncomputable def y61 (X : Cx) (ov : OvK R) (ext : q1P) (tbl : FuncId → Nat → List (Nat × Nat)) (hs : FuncId → Hints) (N fuel d : Nat) (m : Nat) (tl : S → (S → Option R) → Option R) (f : FuncId) (xs : List V) (A : Key → Option O) (K : V → List (Key × O) → Option R) : Option R :=
 match X.P.funcs[f]? with
 | some fn => (match fn.body with
  | some c => if xs.length ≤ fn.ntmps then exJ (hintOf (hs f) [9]) (S.start xs A) (fun s => y3M X fn s K) fun k => q5u (exC X (exF X ov ext tbl hs N fuel d) ext (tbl f) (hs f) N fn.ntmps fuel) (z8C m c) [] (nbS (S.start xs A)) (fun s1 => tl s1 k) fun e s => (match e with
     | .ret => k s
     | _ => none) else none
  | none => none)
 | none => none
variable {ov : OvK R} {ext : q1P} (hP : x6 X.P = true) (hmo : X.P.follows .mixedOrders = true) (hov : z8R X ov) (he : q34 X ext)
include hP hmo hov he
theorem y8E {tbl : FuncId → Nat → List (Nat × Nat)} {hs : FuncId → Hints} {N fuel d m : Nat} {tl : S → (S → Option R) → Option R} {f : FuncId} (htl : ∀ fn c, X.P.funcs[f]? = some fn → fn.body = some c → y5Q X fn.ntmps (z0m m c) tl)
  {xs : List V} {A : Key → Option O} {K : V → List (Key × O) → Option R} {r : R} (h : y61 X ov ext tbl hs N fuel d m tl f xs A K = some r) : ∃ v L, j7 X f xs A v L ∧ K v L = some r := by
 unfold y61 at h
 split at h
 ·rename_i fn hf
  split at h
  ·rename_i c hb
   simp only [Option.ite_none_right_eq_some] at h
   obtain ⟨hl, h⟩ := h
   have := z1T (P := fun s1 => Way X fn.ntmps c (S.start xs A) .ret s1) (G := False) (fun s1 s2 h1 h2 => h1.q8r h2) (fun s1 h => h.1) h fun k hk => by
    have hn : ∀ s1, Way X fn.ntmps c (nbS (S.start xs A)) .ret s1 → Way X fn.ntmps c (S.start xs A) .ret s1 := fun s1 h2 => ⟨h2.1, fun A' hA Ψ hΨ => DC.q8r ((z9V (S.start xs A)).2 X fn.ntmps A' hA) (h2.2 A' hA Ψ hΨ)⟩
    rcases z7L (fun p c s K h => y0z hP hmo (y0y hP hmo hov he d) he fuel p c s K h) m c [] _ _ _ hk with ⟨s1, h1, a1, d1⟩ | ⟨e, s1, hne, h1, a1, d1⟩
    ·obtain ⟨s2, h2, a2, d2⟩ := htl fn c hf hb _ _ _ h1
     exact .inl ⟨s2, h2, hn s2 ⟨a2.trans a1, fun A' hA Ψ hΨ => d1 A' hA Ψ (d2 A' (by rw [a1]; exact hA) Ψ hΨ)⟩⟩
    ·cases e with
     | ret => exact .inl ⟨s1, h1, hn s1 ⟨a1, d1⟩⟩
     | normal | exit _ | goto _ | panic _ | outgrown => cases h1
   rcases this with ⟨s', h1, h2, h3⟩ | h
   ·obtain ⟨v, L, h4, h5⟩ := y0H h1
    refine ⟨v, L, q46 hP hf hb rfl hl fun A' hA => ?_, h4⟩
    exact h3 A' hA (fun e s' => (e = .normal ∨ e = .ret) ∧ q4G X fn A' v L s') ⟨.inr rfl, h5 A' (by rw [h2]; exact hA)⟩
   ·exact h.elim
  ·cases h
 ·cases h
end
end Go.E
