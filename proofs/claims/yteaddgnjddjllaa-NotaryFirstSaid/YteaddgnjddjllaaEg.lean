/-
  A framework for runs of Go code over abstract data: what it needs, and that it is sound, part 7.
  Conditions: none.
-/
import Derived.Test.YteaddgnjddjllaaEf
import Derived.Maps.RangeRun
import Derived.Sort.MapsRangeIn
import Derived.OwnWalkIn
import Derived.Laws.IdiomRangeMap
set_option linter.all false
namespace Go.E
open Go

def envMany : List (Nat × Sh) → Nat
  | [] => 0
  | (_, s) :: l => s.many + envMany l
def envFill : List (Nat × Sh) → Nat → List C → List (Nat × V)
  | [], _, _ => []
  | (j, s) :: l, i, ds => (j, s.fill i ds) :: envFill l (i + s.many) ds
def envTk : List (Nat × Sh) → Nat → List C → List (Nat × Option Nat)
  | [], _, _ => []
  | (_, s) :: l, i, ds => (match s with
    | .sl _ _ t => (t, some (dk ds i).elems.length) :: envTk l (i + s.many) ds
    | _ => envTk l (i + s.many) ds)
def locMany : List (Key × OSh) → Nat
  | [] => 0
  | (_, .box s) :: l => s.many + locMany l
  | (_, .map _ _) :: l => locMany l
  | (_, .dead _) :: l => 1 + locMany l
  | (_, .it) :: l => 2 + locMany l
def dE (τ : Ty) (l : Es) : List (C × V) := l.map fun p => (p.1, .d τ p.2)
def isD (τ : Ty) : V → Bool
  | .d τ' _ => decide (τ' = τ)
  | _ => false
def unV : V → C
  | .d _ c => c
  | _ => .nil
def allD (τ : Ty) : List (C × V) → Bool
  | [] => true
  | (_, v) :: es => isD τ v && allD τ es
def unE (es : List (C × V)) : Es := es.map fun p => (p.1, unV p.2)
theorem dE_unE {τ : Ty} : ∀ {es : List (C × V)}, allD τ es = true → dE τ (unE es) = es
  | [], _ => rfl
  | (k, v) :: es, h => by
    simp only [allD, Bool.and_eq_true] at h
    have := dE_unE h.2
    simp only [dE, unE, List.map_cons, List.map_map] at this ⊢
    rw [this]
    cases v <;> simp only [isD, reduceCtorEq, decide_eq_true_eq] at h <;> first | exact h.1.elim | (rw [h.1]; rfl)
theorem allD_dE (τ : Ty) : ∀ (l : Es), allD τ (dE τ l) = true
  | [] => rfl
  | (k, v) :: l => by
    have := allD_dE τ l
    simp only [dE, List.map_cons, allD, isD, decide_true, Bool.true_and] at this ⊢
    exact this
theorem unE_dE (τ : Ty) (l : Es) : unE (dE τ l) = l := by
  induction l with
  | nil => rfl
  | cons p l ih => simp only [dE, unE, List.map_cons, unV] at ih ⊢; rw [ih]
theorem allDB_dE0 (τ : Ty) : ∀ m : Es, allDB τ (dE τ m) = true
  | [] => rfl
  | _ :: m => by
    have := allDB_dE0 τ m
    have h : Ty.beq τ τ = true := (Ty.beq_iff τ τ).2 rfl
    simp only [dE, List.map_cons, allDB, h, Bool.true_and] at this ⊢
    exact this
def locFill : List (Key × OSh) → Nat → Nat → List C → List Es → List (Key × O)
  | [], _, _, _, _ => []
  | (k, .box s) :: l, i, j, ds, ms => (k, .box (s.fill i ds)) :: locFill l (i + s.many) j ds ms
  | (k, .map kτ vτ) :: l, i, j, ds, ms => (k, .map kτ vτ (dE vτ (dm ms j))) :: locFill l i (j + 1) ds ms
  | (k, .dead e) :: l, i, j, ds, ms => (k, .dead (.arr (dk ds i).toInt.toNat e)) :: locFill l (i + 1) j ds ms
  | (k, .it) :: l, i, j, ds, ms => (k, .it (dk ds i).toStr (dk ds (i + 1)).toInt.toNat) :: locFill l (i + 2) j ds ms
def fillS (sh : SSh) (A : Key → Option O) (ds : List C) (ms : List Es) : S :=
  ⟨envFill sh.env 0 ds, locFill sh.loc (envMany sh.env) 0 ds ms, A, envTk sh.env 0 ds⟩
def tokB (s : S) (sh : Sh) (d : List C) : Bool :=
  match sh with
  | .sl _ _ t => (match liveT s.tk t with
    | some L => Nat.beq L (dk d 0).elems.length
    | none => false)
  | _ => true
def envCoe {R : Type} (s : S) : List (Nat × Sh) → (List C → Option R) → Option R
  | [], K => K []
  | (j, sh) :: l, K => sh.coe (s.get j) fun d1 => if (sh.fill 0 d1).ty.isAgg = (s.get j).ty.isAgg then (bif tokB s sh d1 then envCoe s l fun d2 => K (d1 ++ d2) else none) else none
def isNilc : V → Bool
  | .nilc => true
  | _ => false
def locCoe {R : Type} (s : S) : List (Key × OSh) → (List C → List Es → Option R) → Option R
  | [], K => K [] []
  | (k, .box sh) :: l, K => (match s.obj k with
    | some (.box x) => if isNilc x = false then sh.coe x fun d1 => if (sh.fill 0 d1).plain = true ∧ (sh.fill 0 d1).noSl = true then locCoe s l fun d2 m2 => K (d1 ++ d2) m2 else none else none
    | _ => none)
  | (k, .map kτ vτ) :: l, K => (match s.obj k with
    | some (.map kτ' vτ' es) => if kτ' = kτ ∧ vτ' = vτ then (if allD vτ es = true then locCoe s l fun d2 m2 => K d2 (unE es :: m2) else none) else none
    | _ => none)
  | (k, .dead e) :: l, K => (match s.obj k with
    | some o => (match o.ty with
      | .arr M e' => if e' = e then locCoe s l fun d2 m2 => K (.int M :: d2) m2 else none
      | _ => none)
    | _ => none)
  | (k, .it) :: l, K => (match s.obj k with
    | some (.it x p) => locCoe s l fun d2 m2 => K (.str x :: .int p :: d2) m2
    | _ => none)
def capOk (f g : Nat → Bool) : List Cap → Bool
  | [] => true
  | .c _ :: l => capOk f g l
  | .v x :: l => x.ok f g && capOk f g l
theorem capFill_ok {f g : Nat → Bool} : ∀ (l : List Cap) (i : Nat) (ds : List C), capOk f g l = true → V.oks f g (capFill l i ds) = true
  | [], _, _, _ => rfl
  | .c _ :: l, i, ds, h => by
    simp only [capOk] at h
    simp only [capFill, V.oks, V.ok, Bool.true_and]
    exact capFill_ok l _ _ h
  | .v x :: l, i, ds, h => by
    simp only [capOk, Bool.and_eq_true] at h
    simp only [capFill, V.oks, Bool.and_eq_true]
    exact ⟨h.1, capFill_ok l _ _ h.2⟩
mutual
def Sh.okB (f g : Nat → Bool) : Sh → Bool
  | .sl _ _ t => g t
  | .sr (.l k) _ _ _ _ => f k
  | .vec (.l k) _ _ => f k
  | .agg _ l => Sh.oksB f g l
  | .as v => v.ok f g
  | .fnc _ l => capOk f g l
  | _ => true
def Sh.oksB (f g : Nat → Bool) : List Sh → Bool
  | [] => true
  | s :: l => s.okB f g && Sh.oksB f g l
end
mutual
theorem Sh.fill_ok {f g : Nat → Bool} : ∀ (s : Sh) (i : Nat) (ds : List C), s.okB f g = true → (s.fill i ds).ok f g = true
  | .sl _ _ t, _, _, h => by simpa only [Sh.fill, V.ok, Sh.okB] using h
  | .sr (.l k) _ _ _ _, _, _, h => by simpa only [Sh.fill, V.ok, Sh.okB] using h
  | .sr (.g k) _ _ _ _, _, _, h => by simp only [Sh.fill, V.ok]
  | .vec (.l k) _ _, _, _, h => by simpa only [Sh.fill, V.ok, Sh.okB] using h
  | .vec (.g k) _ _, _, _, h => by simp only [Sh.fill, V.ok]
  | .agg _ l, _, _, h => by simp only [Sh.fill, V.ok, Sh.okB] at h ⊢; exact Sh.fills_ok l _ _ h
  | .as v, _, _, h => by simpa only [Sh.fill, Sh.okB] using h
  | .fnc _ l, i, ds, h => by simp only [Sh.fill, V.ok, Sh.okB] at h ⊢; exact capFill_ok l i ds h
  | .d _, _, _, _ | .ts _ _, _, _, _ | .cptr _, _, _, _ | .arr _, _, _, _ => by simp only [Sh.fill, V.ok]
theorem Sh.fills_ok {f g : Nat → Bool} : ∀ (l : List Sh) (i : Nat) (ds : List C), Sh.oksB f g l = true → V.oks f g (Sh.fills l i ds) = true
  | [], _, _, _ => rfl
  | s :: l, i, ds, h => by
    simp only [Sh.oksB, Bool.and_eq_true] at h
    simp only [Sh.fills, V.oks, Bool.and_eq_true]
    exact ⟨Sh.fill_ok s _ _ h.1, Sh.fills_ok l _ _ h.2⟩
end
def OSh.okB (f g : Nat → Bool) : OSh → Bool
  | .box s => s.okB f g
  | .map _ _ => true
  | .dead _ | .it => true
def keyIn : List (Key × OSh) → Key → Bool
  | [], _ => false
  | (j, _) :: l, k => if j = k then true else keyIn l k
def hasLs (l : List (Key × OSh)) (n : Nat) : Bool := keyIn l (.l n)
def hasTs : List (Nat × Sh) → Nat → Bool
  | [], _ => false
  | (_, .sl _ _ t) :: l, u => if t = u then true else hasTs l u
  | _ :: l, u => hasTs l u
def allGs (L : List (Key × OSh)) : List (Key × O) → Bool
  | [] => true
  | (.g k, _) :: l => keyIn L (.g k) && allGs L l
  | (.l _, _) :: l => allGs L l
def locOks (f g : Nat → Bool) : List (Key × OSh) → Bool
  | [] => true
  | (_, o) :: l => o.okB f g && locOks f g l
def envOks (f g : Nat → Bool) : List (Nat × Sh) → Bool
  | [] => true
  | (_, s) :: l => s.okB f g && envOks f g l
def okS (sh : SSh) (loc : List (Key × O)) : Bool :=
  locOks (hasLs sh.loc) (hasTs sh.env) sh.loc && allGs sh.loc loc && envOks (hasLs sh.loc) (hasTs sh.env) sh.env
theorem keyIn_fill : ∀ (l : List (Key × OSh)) (i j : Nat) (ds : List C) (ms : List Es) (k : Key), (lookK (locFill l i j ds ms) k).isSome = keyIn l k
  | [], _, _, _, _, _ => rfl
  | (n, .box s) :: l, i, j, ds, ms, k => by
    simp only [locFill, lookK, keyIn]
    split
    · rfl
    · exact keyIn_fill l _ _ _ _ _
  | (n, .map _ _) :: l, i, j, ds, ms, k | (n, .dead _) :: l, i, j, ds, ms, k | (n, .it) :: l, i, j, ds, ms, k => by
    simp only [locFill, lookK, keyIn]
    split
    · rfl
    · exact keyIn_fill l _ _ _ _ _
theorem hasL_fill (l : List (Key × OSh)) (i j : Nat) (ds : List C) (ms : List Es) : hasL (locFill l i j ds ms) = hasLs l := by
  funext n; exact keyIn_fill l i j ds ms (.l n)
theorem hasT_fill : ∀ (l : List (Nat × Sh)) (i : Nat) (ds : List C), hasT (envTk l i ds) = hasTs l
  | [], _, _ => rfl
  | (_, s) :: l, i, ds => by
    have ih := hasT_fill l (i + s.many) ds
    funext u
    have ih := congrFun ih u
    unfold hasT at ih ⊢
    cases s <;> simp only [envTk, hasTs, look] <;> (try exact ih)
    split
    · rfl
    · exact ih
theorem locOks_ok {f g : Nat → Bool} : ∀ (l : List (Key × OSh)) (i j : Nat) (ds : List C) (ms : List Es), locOks f g l = true → locOk f g (locFill l i j ds ms) = true
  | [], _, _, _, _, _ => rfl
  | (n, .box s) :: l, i, j, ds, ms, h => by
    simp only [locOks, Bool.and_eq_true] at h
    simp only [locFill, locOk, Bool.and_eq_true, O.okB, O.ok]
    exact ⟨Sh.fill_ok s _ _ h.1, locOks_ok l _ _ _ _ h.2⟩
  | (n, .map _ vτ) :: l, i, j, ds, ms, h => by
    simp only [locOks, Bool.and_eq_true] at h
    simp only [locFill, locOk, Bool.and_eq_true, O.okB, O.ok]
    exact ⟨allDB_dE0 vτ _, locOks_ok l _ _ _ _ h.2⟩
  | (n, .dead _) :: l, i, j, ds, ms, h | (n, .it) :: l, i, j, ds, ms, h => by
    simp only [locOks, Bool.and_eq_true] at h
    simp only [locFill, locOk, Bool.and_eq_true, O.okB, O.ok]
    exact ⟨trivial, locOks_ok l _ _ _ _ h.2⟩
theorem envOks_ok {f g : Nat → Bool} : ∀ (l : List (Nat × Sh)) (i : Nat) (ds : List C), envOks f g l = true → allOkE f g (envFill l i ds) = true
  | [], _, _, _ => rfl
  | (n, s) :: l, i, ds, h => by
    simp only [envOks, Bool.and_eq_true] at h
    simp only [envFill, allOkE, Bool.and_eq_true]
    exact ⟨Sh.fill_ok s _ _ h.1, envOks_ok l _ _ h.2⟩
theorem allGs_ok {L : List (Key × OSh)} {i j : Nat} {ds : List C} {ms : List Es} : ∀ {l : List (Key × O)}, allGs L l = true → allGB (locFill L i j ds ms) l = true
  | [], _ => rfl
  | (.g k, _) :: l, h => by
    simp only [allGs, Bool.and_eq_true] at h
    simp only [allGB, Bool.and_eq_true, keyIn_fill]
    exact ⟨h.1, allGs_ok h.2⟩
  | (.l _, _) :: l, h => by
    simp only [allGs] at h
    simp only [allGB]
    exact allGs_ok h
def coeS {R : Type} (sh : SSh) (s : S) (K : List C → List Es → Option R) : Option R :=
  envCoe s sh.env fun d1 => locCoe s sh.loc fun d2 ms => if okS sh s.loc = true then K (d1 ++ d2) ms else none
theorem envFill_ext : ∀ (l : List (Nat × Sh)) (i i' : Nat) (ds ds' : List C), (∀ j, j < envMany l → dk ds (i + j) = dk ds' (i' + j)) → envFill l i ds = envFill l i' ds'
  | [], _, _, _, _, _ => rfl
  | (n, s) :: l, i, i', ds, ds', h => by
    simp only [envMany] at h
    simp only [envFill]
    rw [Sh.fill_ext s i i' ds ds' (fun j hj => h j (by omega)), envFill_ext l (i + s.many) (i' + s.many) ds ds' (fun j hj => by
      have := h (s.many + j) (by omega)
      rwa [← Nat.add_assoc, ← Nat.add_assoc] at this)]
theorem envTk_ext : ∀ (l : List (Nat × Sh)) (i i' : Nat) (ds ds' : List C), (∀ j, j < envMany l → dk ds (i + j) = dk ds' (i' + j)) → envTk l i ds = envTk l i' ds'
  | [], _, _, _, _, _ => rfl
  | (n, s) :: l, i, i', ds, ds', h => by
    simp only [envMany] at h
    simp only [envTk]
    have e := envTk_ext l (i + s.many) (i' + s.many) ds ds' (fun j hj => by
      have := h (s.many + j) (by omega)
      rwa [← Nat.add_assoc, ← Nat.add_assoc] at this)
    cases s <;> simp only at e ⊢ <;> (try exact e)
    have h0 := h 0 (by simp only [Sh.many]; omega)
    simp only [Nat.add_zero] at h0
    rw [e, h0]
theorem locFill_ext : ∀ (l : List (Key × OSh)) (i i' m : Nat) (ds ds' : List C) (ms : List Es), (∀ j, j < locMany l → dk ds (i + j) = dk ds' (i' + j)) → locFill l i m ds ms = locFill l i' m ds' ms
  | [], _, _, _, _, _, _, _ => rfl
  | (n, .box s) :: l, i, i', m, ds, ds', ms, h => by
    simp only [locMany] at h
    simp only [locFill]
    rw [Sh.fill_ext s i i' ds ds' (fun j hj => h j (by omega)), locFill_ext l (i + s.many) (i' + s.many) m ds ds' ms (fun j hj => by
      have := h (s.many + j) (by omega)
      rwa [← Nat.add_assoc, ← Nat.add_assoc] at this)]
  | (n, .map _ _) :: l, i, i', m, ds, ds', ms, h => by
    simp only [locMany] at h
    simp only [locFill]
    rw [locFill_ext l i i' (m + 1) ds ds' ms h]
  | (n, .dead e) :: l, i, i', m, ds, ds', ms, h => by
    simp only [locMany] at h
    simp only [locFill]
    have h0 := h 0 (by omega)
    simp only [Nat.add_zero] at h0
    rw [h0, locFill_ext l (i + 1) (i' + 1) m ds ds' ms (fun j hj => by
      have := h (1 + j) (by omega)
      rwa [← Nat.add_assoc, ← Nat.add_assoc] at this)]
  | (n, .it) :: l, i, i', m, ds, ds', ms, h => by
    simp only [locMany] at h
    simp only [locFill]
    have h0 := h 0 (by omega)
    have h1 := h 1 (by omega)
    simp only [Nat.add_zero] at h0
    rw [h0, h1, locFill_ext l (i + 2) (i' + 2) m ds ds' ms (fun j hj => by
      have := h (2 + j) (by omega)
      rwa [← Nat.add_assoc, ← Nat.add_assoc] at this)]
theorem locFill_cons : ∀ (l : List (Key × OSh)) (i m : Nat) (ds : List C) (e : Es) (ms : List Es), locFill l i (m + 1) ds (e :: ms) = locFill l i m ds ms
  | [], _, _, _, _, _ => rfl
  | (n, .box s) :: l, i, m, ds, e, ms => by simp only [locFill]; rw [locFill_cons l]
  | (n, .map _ _) :: l, i, m, ds, e, ms => by simp only [locFill]; rw [locFill_cons l]; rfl
  | (n, .dead _) :: l, i, m, ds, e, ms | (n, .it) :: l, i, m, ds, e, ms => by simp only [locFill]; rw [locFill_cons l]
theorem envCoe_ok {R : Type} {r : R} {s : S} : ∀ (l : List (Nat × Sh)) {K : List C → Option R}, envCoe s l K = some r →
    ∃ ds, K ds = some r ∧ ds.length = envMany l ∧ (∀ f g, allOkE f g (envFill l 0 ds) = true → envW f g s (envFill l 0 ds)) ∧ tkW s (envTk l 0 ds)
  | [], K, h => ⟨[], h, rfl, fun _ _ _ => trivial, trivial⟩
  | (n, sh) :: l, K, h => by
    simp only [envCoe] at h
    obtain ⟨d1, h1, h2, h3, h4⟩ := Sh.coe_ok sh _ h
    simp only [Option.ite_none_right_eq_some] at h1
    obtain ⟨h5, h1⟩ := h1
    cases htk : tokB s sh d1 with
    | false => rw [htk] at h1; cases h1
    | true =>
      rw [htk, cond_true] at h1
      obtain ⟨d2, h6, h7, h8, h9⟩ := envCoe_ok l h1
      have e1 : sh.fill 0 (d1 ++ d2) = sh.fill 0 d1 := Sh.fill_ext sh 0 0 _ _ fun j hj => dk_app_left (by omega)
      have sft : ∀ j, dk (d1 ++ d2) (sh.many + j) = dk d2 (0 + j) := fun j => by
        rw [dk_app_right (by omega), h2]
        congr 1; omega
      have e2 : envFill l sh.many (d1 ++ d2) = envFill l 0 d2 := envFill_ext l _ 0 _ _ fun j hj => sft j
      have e3 : envTk l sh.many (d1 ++ d2) = envTk l 0 d2 := envTk_ext l _ 0 _ _ fun j hj => sft j
      refine ⟨_, h6, by simp [envMany, h2, h7], fun f g hok => ?_, ?_⟩
      · simp only [envFill, Nat.zero_add, e1, e2, allOkE, Bool.and_eq_true] at hok ⊢
        exact ⟨h3, hok.1, .inr h5, h8 f g hok.2⟩
      · simp only [envTk, Nat.zero_add]
        cases sh <;> simp only [e3] <;> (try exact h9)
        simp only [tokB] at htk
        simp only [Sh.many] at h2
        rw [dk_app_left (by omega)]
        refine ⟨?_, h9⟩
        split at htk
        · rename_i L hL
          have := Nat.eq_of_beq_eq_true htk
          show s.live _ = some _
          rw [← this]; exact hL
        · cases htk
theorem tkW_wA {s : S} {A' : Key → Option O} : ∀ {l : List (Nat × Option Nat)}, tkW s l → tkW (s.wA A') l
  | [], _ => trivial
  | (_, _) :: _, h => ⟨h.1, tkW_wA h.2⟩
theorem envW_wA {f g : Nat → Bool} {s : S} {A' : Key → Option O} : ∀ {l : List (Nat × V)}, envW f g s l → envW f g (s.wA A') l
  | [], _ => trivial
  | (_, _) :: _, h => ⟨h.1, h.2.1, h.2.2.1, envW_wA h.2.2.2⟩
theorem coeS_ok {R : Type} {r : R} {sh : SSh} {s : S} {K : List C → List Es → Option R} (h : coeS sh s K = some r) :
    ∃ ds ms, K ds ms = some r ∧ ∀ (X : Cx) (n : Nat) (A' : Key → Option O), leA s.A A' → Weak X n (s.wA A') ((fillS sh s.A ds ms).wA A') := by
  unfold coeS at h
  obtain ⟨d1, h1, h2, h3, h4⟩ := envCoe_ok _ h
  have det : ∃ d2 ms, K (d1 ++ d2) ms = some r ∧ okS sh s.loc = true ∧ d2.length = locMany sh.loc ∧ ∀ A', leA s.A A' → locW (s.wA A') (locFill sh.loc 0 0 d2 ms) := by
    -- what is read does not lean on A'
    have gen : ∀ (l : List (Key × OSh)) {K : List C → List Es → Option R}, locCoe s l K = some r → ∃ ds ms, K ds ms = some r ∧ ds.length = locMany l ∧ ∀ A', leA s.A A' → locW (s.wA A') (locFill l 0 0 ds ms) := by
      intro l
      induction l with
      | nil => intro K h; exact ⟨[], [], h, rfl, fun _ _ => trivial⟩
      | cons p l ih =>
        obtain ⟨k, o⟩ := p
        intro K h
        cases o with
        | box sh =>
          simp only [locCoe] at h
          split at h
          · rename_i x hx
            simp only [Option.ite_none_right_eq_some] at h
            obtain ⟨h0, h⟩ := h
            obtain ⟨d1, h1, h2, h3, h4⟩ := Sh.coe_ok sh _ h
            simp only [Option.ite_none_right_eq_some] at h1
            obtain ⟨h5, h1⟩ := h1
            obtain ⟨d2, ms, h6, h7, h8⟩ := ih h1
            have e1 : sh.fill 0 (d1 ++ d2) = sh.fill 0 d1 := Sh.fill_ext sh 0 0 _ _ fun j hj => dk_app_left (by omega)
            have e2 : locFill l sh.many 0 (d1 ++ d2) ms = locFill l 0 0 d2 ms := locFill_ext l _ 0 0 _ _ _ fun j hj => by
              rw [dk_app_right (by omega), h2]
              congr 1; omega
            refine ⟨_, _, h6, by simp [locMany, h2, h7], fun A' hA => ?_⟩
            simp only [locFill, Nat.zero_add, e1, e2, locW]
            rw [obj_wA hA hx]
            exact ⟨⟨h3, h4 (by intro e; subst e; simp [isNilc] at h0), h5.1, h5.2⟩, h8 A' hA⟩
          · cases h
        | map kτ vτ =>
          simp only [locCoe] at h
          split at h
          · rename_i kτ' vτ' es hx
            simp only [Option.ite_none_right_eq_some] at h
            obtain ⟨⟨rfl, rfl⟩, hd, h⟩ := h
            obtain ⟨d2, ms, h6, h7, h8⟩ := ih h
            refine ⟨_, _, h6, by simp [locMany, h7], fun A' hA => ?_⟩
            simp only [locFill, locW, locFill_cons]
            rw [obj_wA hA hx]
            exact ⟨⟨rfl, rfl, (dE_unE hd).symm⟩, h8 A' hA⟩
          · cases h
        | dead e =>
          simp only [locCoe] at h
          split at h
          · rename_i o hx
            split at h
            · rename_i M e' ht
              simp only [Option.ite_none_right_eq_some] at h
              obtain ⟨rfl, h⟩ := h
              obtain ⟨d2, ms, h6, h7, h8⟩ := ih h
              have e2 : locFill l 1 0 (.int M :: d2) ms = locFill l 0 0 d2 ms := locFill_ext l _ 0 0 _ _ _ fun j hj => by
                unfold dk; simp [Nat.add_comm 1 j]
              refine ⟨_, _, h6, by simp [locMany, h7, Nat.add_comm], fun A' hA => ?_⟩
              simp only [locFill, Nat.zero_add, e2, locW]
              rw [obj_wA hA hx]
              refine ⟨?_, h8 A' hA⟩
              have : (dk (C.int M :: d2) 0).toInt.toNat = M := by simp [dk, C.toInt]
              rw [this]
              cases o <;> exact ht.symm
            · cases h
          · cases h
        | it =>
          simp only [locCoe] at h
          split at h
          · rename_i x p hx
            obtain ⟨d2, ms, h6, h7, h8⟩ := ih h
            have e2 : locFill l 2 0 (.str x :: .int p :: d2) ms = locFill l 0 0 d2 ms := locFill_ext l _ 0 0 _ _ _ fun j hj => by
              unfold dk; simp [Nat.add_comm 2 j]
            refine ⟨_, _, h6, by simp [locMany, h7]; omega, fun A' hA => ?_⟩
            simp only [locFill, Nat.zero_add, e2, locW]
            rw [obj_wA hA hx]
            refine ⟨?_, h8 A' hA⟩
            have e3 : (dk (C.str x :: C.int p :: d2) 0).toStr = x := by simp [dk, C.toStr]
            have e4 : (dk (C.str x :: C.int p :: d2) 1).toInt.toNat = p := by simp [dk, C.toInt]
            rw [e3, e4]
            exact ⟨rfl, rfl⟩
          · cases h
    obtain ⟨d2, ms, h5, h6, h7⟩ := gen _ h1
    simp only [Option.ite_none_right_eq_some] at h5
    exact ⟨d2, ms, h5.2, h5.1, h6, h7⟩
  obtain ⟨d2, ms, h5, h6, h7, h8⟩ := det
  refine ⟨d1 ++ d2, ms, h5, fun X n A' hA => ?_⟩
  have e1 : envFill sh.env 0 (d1 ++ d2) = envFill sh.env 0 d1 := envFill_ext _ 0 0 _ _ fun j hj => dk_app_left (by omega)
  have e2 : envTk sh.env 0 (d1 ++ d2) = envTk sh.env 0 d1 := envTk_ext _ 0 0 _ _ fun j hj => dk_app_left (by omega)
  have e3 : locFill sh.loc (envMany sh.env) 0 (d1 ++ d2) ms = locFill sh.loc 0 0 d2 ms := locFill_ext _ _ 0 0 _ _ _ fun j hj => by
    rw [dk_app_right (by omega), h2]
    congr 1; omega
  simp only [okS, Bool.and_eq_true] at h6
  have hL : hasL (fillS sh s.A (d1 ++ d2) ms).loc = hasLs sh.loc := hasL_fill ..
  have hT : hasT (fillS sh s.A (d1 ++ d2) ms).tk = hasTs sh.env := hasT_fill ..
  refine weak_to rfl ?_ ?_ (allGB_ok (allGs_ok h6.1.2)) ?_ ?_
  · show locW (s.wA A') (locFill sh.loc (envMany sh.env) 0 (d1 ++ d2) ms)
    rw [e3]; exact h8 A' hA
  · show locOk (hasL (fillS sh s.A (d1 ++ d2) ms).loc) (hasT (fillS sh s.A (d1 ++ d2) ms).tk) _ = true
    rw [hL, hT]
    exact locOks_ok _ _ _ _ _ h6.1.1
  · show tkW (s.wA A') (envTk sh.env 0 (d1 ++ d2))
    rw [e2]; exact tkW_wA h4
  · show envW (hasL (fillS sh s.A (d1 ++ d2) ms).loc) (hasT (fillS sh s.A (d1 ++ d2) ms).tk) (s.wA A') (envFill sh.env 0 (d1 ++ d2))
    refine envW_wA ?_
    rw [hL, hT, e1]
    exact h3 _ _ (envOks_ok _ _ _ h6.2)
end Go.E


namespace Go.E
open Go

theorem Conc.reput {Γ : G} {w : World} {s : S} (c : Conc Γ w s) {k : Key} {x x' : V} (h : s.obj k = some (.box x)) (h1 : Own Γ w k (.box x) → Own Γ w k (.box x')) (h2 : (O.box x).virt → (O.box x').virt) : Conc Γ w (s.put k (.box x')) := by
  refine ⟨c.hH, c.hZ, c.hκ, fun j o hj => ?_, fun j hj => ?_, c.injD (fun j hj => ?_), c.tok, c.tdom, c.hgl, c.hoo, c.hσ⟩
  · rw [obj_put] at hj
    split at hj
    · rename_i e
      subst e; cases hj
      exact (c.obj _ _ h).imp (fun h => ⟨h.1, h2 h.2⟩) h1
    · exact c.obj j o hj
  · rw [obj_put]
    split
    · simp
    · exact c.dom j hj
  · unfold S.deadK at hj ⊢
    rw [obj_put]
    split
    · rename_i e; subst e; rw [h] at hj; cases hj
    · exact hj
def mvK (K : Key) (t : Nat) (k : Key) : Key := if k = K then .l t else k
def AtE (X : Cx) (n : Nat) (Γ0 : G) (K : Key) (t : Nat) (s : S) (a : Act) (w : World) : Prop :=
  ∃ Γ, GLe Γ0 Γ ∧ Γ.gl = X.gl ∧ Conc Γ w s ∧ Slots Γ s a.tmps ∧ a.tmps.size = n ∧ a.defers = [] ∧ AOk s.A ∧ ∀ x, Γ.ι K = some x → Γ.ι (.l t) = some x
theorem mv_presR {Γ : G} {K : Key} {t : Nat} (h : ∀ x, Γ.ι K = some x → Γ.ι (.l t) = some x) {hm : Option Key} (hn : hm ≠ some K) : PresR Γ Γ (mvK K t) hm :=
  ⟨Hp.le_refl _, fun k x hk => by
    unfold mvK
    split
    · rename_i e; subst e; exact h x hk
    · exact hk, fun _ _ h => h, fun k b p sz e hk => by
    have : mvK K t k = k := by
      unfold mvK
      split
      · rename_i e2; subst e2; exact absurd e hn
      · rfl
    rw [this]; exact ⟨hk, rfl⟩⟩
theorem RepV.mv {Γ : G} {K : Key} {t : Nat} (h : ∀ x, Γ.ι K = some x → Γ.ι (.l t) = some x) {x : V} {v : Value} (hr : RepV Γ x v) : RepV Γ (x.ren (mvK K t) id) v :=
  RepV.ren (mv_presR h (by simp)) (fun _ _ h => h) hr
def reputs (K : Key) (t : Nat) : List Key → S → S
  | [], s => s
  | k :: ks, s => if k = K ∨ k = .l t then reputs K t ks s else (match s.obj k with
    | some (.box x) => reputs K t ks (s.put k (.box (x.ren (mvK K t) id)))
    | _ => reputs K t ks s)
theorem reputs_A (K : Key) (t : Nat) : ∀ (ks : List Key) (s : S), (reputs K t ks s).A = s.A
  | [], _ => rfl
  | k :: ks, s => by
    simp only [reputs]
    split
    · exact reputs_A K t ks s
    · split
      · exact reputs_A K t ks _
      · exact reputs_A K t ks s
def WkE (K : Key) (t : Nat) (s s' : S) : Prop := s'.A = s.A ∧ ∀ (X : Cx) (n : Nat) (A' : Key → Option O), leA s.A A' → ∀ (Γ0 : G) (a : Act) (w : World), AtE X n Γ0 K t (s.wA A') a w → AtE X n Γ0 K t (s'.wA A') a w
theorem WkE.refl {K : Key} {t : Nat} (s : S) : WkE K t s s := ⟨rfl, fun _ _ _ _ _ _ _ h => h⟩
theorem WkE.trans {K : Key} {t : Nat} {a b c : S} (h : WkE K t a b) (h' : WkE K t b c) : WkE K t a c :=
  ⟨h'.1.trans h.1, fun X n A' hA Γ0 ac w hat => h'.2 X n A' (by rw [h.1]; exact hA) Γ0 ac w (h.2 X n A' hA Γ0 ac w hat)⟩
theorem at_reput {X : Cx} {n : Nat} {Γ0 : G} {K : Key} {t : Nat} {a : Act} {w : World} {s : S} {k : Key} {x : V} (hk : ¬ (k = K ∨ k = .l t)) (hx : s.obj k = some (.box x)) (h : AtE X n Γ0 K t s a w) : AtE X n Γ0 K t (s.put k (.box (x.ren (mvK K t) id))) a w := by
  obtain ⟨Γ, g1, g3, c, hs, hn, hf, hA, hι⟩ := h
  have hkK : (some k : Option Key) ≠ some K := fun e => hk (.inl (by cases e; rfl))
  refine ⟨Γ, g1, g3, c.reput hx (fun hown => ?_) (fun hv => ?_), hs, hn, hf, hA, hι⟩
  · obtain ⟨b, cells, T, h1, h2, h3, h4, h5, h6, h7, h8⟩ := hown
    have hmv : mvK K t k = k := by unfold mvK; rw [if_neg (fun e => hk (.inl e))]
    have := RepX.renK (θ := id) (mv_presR hι hkK) h8 h6
    simp only [Option.map_some, hmv] at this
    exact ⟨b, cells, T, by rw [V.ren_ty]; exact h1, h2, h3, h4, by rw [V.ren_ty]; exact h5, by rw [V.ren_ty]; exact this, by rw [V.ren_plain]; exact h7, by rw [V.ren_noSl]; exact h8⟩
  · obtain ⟨e, rfl⟩ := hv
    exact ⟨e, by simp [V.ren]⟩
theorem reputs_ok (K : Key) (t : Nat) : ∀ (ks : List Key) (s : S), WkE K t s (reputs K t ks s)
  | [], s => WkE.refl s
  | k :: ks, s => by
    simp only [reputs]
    split
    · exact reputs_ok K t ks s
    · rename_i hk
      split
      · rename_i x hx
        exact WkE.trans (b := s.put k (.box (x.ren (mvK K t) id))) ⟨rfl, fun X n A' hA Γ0 a w h => at_reput (s := s.wA A') hk (obj_wA hA hx) h⟩ (reputs_ok K t ks _)
      · exact reputs_ok K t ks s
def adoptS (K : Key) (t : Nat) (ks : List Key) (s : S) : S :=
  match s.obj K with
  | some (.box (.d (.arr M e) cc)) => if (s.obj (.l t)).isNone = true then
      { reputs K t ks ((s.put K (.dead (.arr M e))).put (.l t) (.box (.d (.arr M e) cc))) with env := s.env.map fun p => (p.1, p.2.ren (mvK K t) id) } else s
  | _ => s
theorem adopt_at {X : Cx} {n : Nat} {Γ0 : G} {K : Key} {t : Nat} {a : Act} {w : World} {s : S} {M : Nat} {e : Ty} {cc : C} (hK : s.obj K = some (.box (.d (.arr M e) cc))) (ht : s.obj (.l t) = none) (h : At X n Γ0 s a w) :
    AtE X n Γ0 K t ((s.put K (.dead (.arr M e))).put (.l t) (.box (.d (.arr M e) cc))) a w := by
  obtain ⟨Γ, g1, g3, c, hs, hn, hf, hA⟩ := h
  have hobj : ∀ j, S.obj ((s.put K (.dead (.arr M e))).put (.l t) (.box (.d (.arr M e) cc))) j = S.obj { s with loc := (Key.l t, O.box (.d (.arr M e) cc)) :: (K, O.dead (.arr M e)) :: s.loc } j := fun j => by
    rw [obj_put, obj_put, show S.obj { s with loc := (Key.l t, O.box (.d (.arr M e) cc)) :: (K, O.dead (.arr M e)) :: s.loc } j = S.obj { ({ s with loc := (K, O.dead (.arr M e)) :: s.loc } : S) with loc := (Key.l t, O.box (.d (.arr M e) cc)) :: ({ s with loc := (K, O.dead (.arr M e)) :: s.loc } : S).loc } j from rfl, obj_cons, obj_cons]
  rcases c.obj K _ hK with ⟨h1, h2⟩ | hown
  · -- without a block
    refine ⟨Γ, g1, g3, ⟨c.hH, c.hZ, c.hκ, fun j o hj => ?_, fun j hj => ?_, c.injD (fun j hj => ?_), c.tok, c.tdom, c.hgl, c.hoo, c.hσ⟩, hs, hn, hf, hA, fun x hx => by rw [h1] at hx; cases hx⟩
    · rw [obj_put] at hj
      split at hj
      · rename_i e1; subst e1; cases hj
        exact .inl ⟨c.ι_none ht, h2⟩
      · rw [obj_put] at hj
        split at hj
        · rename_i e1; subst e1; cases hj; exact .inl ⟨h1, trivial⟩
        · exact c.obj j o hj
    · rw [obj_put]
      split
      · simp
      · rw [obj_put]
        split
        · simp
        · exact c.dom j hj
    · unfold S.deadK at hj ⊢
      rw [obj_put]
      split
      · rename_i e1; subst e1; rw [ht] at hj; cases hj
      · rw [obj_put]
        split
        · rfl
        · exact hj
  · obtain ⟨b, cells, T, e1, e2, e3, e4, e5, e6, e7, e8⟩ := hown
    have hx0 : RepX Γ none [] (.d (.arr M e) cc) (chunk cells.toList 0 (V.d (.arr M e) cc).ty.size) := by
      simp only [RepX] at e6 ⊢; exact e6
    obtain ⟨k1, k2, k3⟩ := c.regrow (w' := w) (j := .l t) (x' := .d (.arr M e) cc) hK rfl e1 ht e4 (fun _ _ => rfl) rfl rfl e5 hx0 e7 e8 (fun arr T' fr h => by rw [e4] at h; cases h; rfl)
    have hkt : K ≠ .l t := fun e => by rw [e, ht] at hK; cases hK
    refine ⟨_, g1.trans k3, by rw [k3.gl]; exact g3, k1.congr hobj (fun _ => rfl) (fun _ h => h), hs.pres k2, hn, hf, hA, fun x hx => ?_⟩
    have : Γ.ι K = some x := by simpa [G.addKey, updK, hkt] using hx
    rw [e1] at this; cases this
    simp [G.addKey, updK, V.ty]
theorem adoptS_ok (K : Key) (t : Nat) (ks : List Key) (s : S) : (adoptS K t ks s).A = s.A ∧ ∀ (X : Cx) (n : Nat) (A' : Key → Option O), leA s.A A' → Weak X n (s.wA A') ((adoptS K t ks s).wA A') := by
  unfold adoptS
  split
  · rename_i M e cc hK
    split
    · rename_i ht
      have ht' : s.obj (.l t) = none := by simpa using ht
      refine ⟨reputs_A K t ks _, fun X n A' hA Γ0 a w hat => ?_⟩
      have h1 := adopt_at (s := s.wA A') (obj_wA hA hK) (by rw [obj_wA_l]; exact ht') hat
      obtain ⟨_, h2⟩ := reputs_ok K t ks ((s.put K (.dead (.arr M e))).put (.l t) (.box (.d (.arr M e) cc)))
      obtain ⟨Γ, g1, g3, c, hs, hn, hf, hAok, hι⟩ := h2 X n A' hA Γ0 a w h1
      refine ⟨Γ, g1, g3, c.congr (fun _ => rfl) (fun _ => rfl) (fun _ h => h), fun i => ?_, hn, hf, hAok⟩
      have henv : ((reputs K t ks ((s.put K (.dead (.arr M e))).put (.l t) (.box (.d (.arr M e) cc)))).wA A').env = s.env := by
        have : ∀ (ks : List Key) (s : S), (reputs K t ks s).env = s.env := by
          intro ks
          induction ks with
          | nil => intro s; rfl
          | cons k ks ih =>
            intro s
            simp only [reputs]
            split
            · exact ih s
            · split
              · exact ih _
              · exact ih s
        exact this ks _
      have hi := hs i
      have e1 : S.get ((reputs K t ks ((s.put K (.dead (.arr M e))).put (.l t) (.box (.d (.arr M e) cc)))).wA A') i = (look s.env i).getD .any := by
        unfold S.get; rw [henv]
      rw [e1] at hi
      show RepV Γ ((look (s.env.map fun p => (p.1, p.2.ren (mvK K t) id)) i).getD .any) _
      rw [look_map_env]
      cases hl : look s.env i with
      | none => trivial
      | some x =>
        rw [hl] at hi
        exact RepV.mv hι hi
    · exact ⟨rfl, fun _ _ _ _ => Weak.refl _⟩
  · exact ⟨rfl, fun _ _ _ _ => Weak.refl _⟩

def T0 : Nat := 1000000000000000
mutual
def V.vecV : Sh → V → V
  | .vec (.l a) eb e, x => (match x with
    | .emp eb' e' => if eb' = eb ∧ e' = e then .sr (.l (a + T0)) [] 0 0 none eb e else x
    | x => x)
  | .agg _ l, x => (match x with
    | .agg τ xs => .agg τ (V.vecVs l xs)
    | x => x)
  | _, x => x
def V.vecVs : List Sh → List V → List V
  | s :: l, x :: xs => V.vecV s x :: V.vecVs l xs
  | _, xs => xs
end
theorem V.vecVs_length : ∀ (l : List Sh) (xs : List V), (V.vecVs l xs).length = xs.length
  | [], xs => by simp [V.vecVs]
  | s :: l, [] => by simp [V.vecVs]
  | s :: l, x :: xs => by simp [V.vecVs, V.vecVs_length l xs]
theorem V.vecV_ty (s : Sh) (x : V) : (V.vecV s x).ty = x.ty := by
  unfold V.vecV
  split
  · split
    · split
      · rename_i h; obtain ⟨rfl, rfl⟩ := h; rfl
      · rfl
    · rfl
  · split <;> rfl
  · rfl
theorem V.vecV_plain (s : Sh) (x : V) : (V.vecV s x).plain = x.plain := by
  unfold V.vecV
  split
  · split
    · split
      · rfl
      · rfl
    · rfl
  · split <;> rfl
  · rfl
mutual
theorem V.vecV_noSl : ∀ (s : Sh) (x : V), (V.vecV s x).noSl = x.noSl
  | .vec (.l a) eb e, x => by
    simp only [V.vecV]
    split
    · split <;> simp [V.noSl]
    · rfl
  | .agg _ l, x => by
    simp only [V.vecV]
    split
    · simp only [V.noSl]; exact V.vecVs_noSl l _
    · rfl
  | .vec (.g _) _ _, _ | .d _, _ | .sl _ _ _, _ | .ts _ _, _ | .sr _ _ _ _ _, _ | .cptr _, _ | .arr _, _ | .as _, _ | .fnc _ _, _ => by simp [V.vecV]
theorem V.vecVs_noSl : ∀ (l : List Sh) (xs : List V), V.noSls (V.vecVs l xs) = V.noSls xs
  | [], xs => by simp [V.vecVs]
  | s :: l, [] => by simp [V.vecVs]
  | s :: l, x :: xs => by simp only [V.vecVs, V.noSls, V.vecV_noSl s x, V.vecVs_noSl l xs]
end
mutual
theorem RepX.vecV {Γ : G} {hm : Option Key} : ∀ (s : Sh) (x : V) {p : List Nat} {vs : List Value}, RepX Γ hm p x vs → RepX Γ hm p (V.vecV s x) vs
  | .vec (.l a) eb e, x, p, vs, h => by
    simp only [V.vecV]
    split
    · split
      · simp only [RepX] at h ⊢
        obtain ⟨a, h⟩ := h
        exact .inl ⟨trivial, trivial, a, h⟩
      · exact h
    · exact h
  | .agg _ l, x, p, vs, h => by
    simp only [V.vecV]
    split
    · simp only [RepX] at h ⊢
      exact ⟨h.1, h.2.1, by rw [V.vecVs_length]; exact h.2.2.1, h.2.2.2.1, RepXs.vecVs l _ h.2.2.2.2⟩
    · exact h
  | .vec (.g _) _ _, _, _, _, h | .d _, _, _, _, h | .sl _ _ _, _, _, _, h | .ts _ _, _, _, _, h | .sr _ _ _ _ _, _, _, _, h | .cptr _, _, _, _, h | .arr _, _, _, _, h | .as _, _, _, _, h | .fnc _ _, _, _, _, h => by simpa only [V.vecV] using h
theorem RepXs.vecVs {Γ : G} {hm : Option Key} : ∀ (l : List Sh) (xs : List V) {p : List Nat} {i : Nat} {τ : Ty} {vs : List Value}, RepXs Γ hm p i τ xs vs → RepXs Γ hm p i τ (V.vecVs l xs) vs
  | [], xs, _, _, _, _, h => by simpa only [V.vecVs] using h
  | s :: l, [], _, _, _, _, h => by simpa only [V.vecVs] using h
  | s :: l, x :: xs, _, _, _, _, h => by
    simp only [RepXs, V.vecVs, V.vecV_ty] at h ⊢
    obtain ⟨⟨o, f, h1, h2, h3, h4⟩, h5⟩ := h
    exact ⟨⟨o, f, h1, h2, h3, RepX.vecV s x h4⟩, RepXs.vecVs l xs h5⟩
end
mutual
def V.vecN : Sh → V → List (Nat × Ty)
  | .vec (.l a) eb e, x => (match x with
    | .emp eb' e' => if eb' = eb ∧ e' = e then [(a + T0, e)] else []
    | .nilc => [(a + T0, e)]
    | _ => [])
  | .agg _ l, x => (match x with
    | .agg _ xs => V.vecNs l xs
    | _ => [])
  | _, _ => []
def V.vecNs : List Sh → List V → List (Nat × Ty)
  | s :: l, x :: xs => V.vecN s x ++ V.vecNs l xs
  | _, _ => []
end
def virtL : List (Nat × Ty) → S → S
  | [], s => s
  | (t, e) :: l, s => if (s.obj (.l t)).isNone = true then virtL l (s.put (.l t) (.box (.d (.arr 0 e) (.agg [])))) else virtL l s
def V.vecT (s : Sh) (x : V) : V :=
  match s, x with
  | .vec (.l a) eb e, .nilc => .sr (.l (a + T0)) [] 0 0 none eb e
  | s, x => V.vecV s x
def vecEnv : List (Nat × Sh) → S → S
  | [], s => s
  | (i, sh) :: l, s => (match V.vecN sh (s.get i) with
    | [] => vecEnv l s
    | ns => vecEnv l (virtL ns (s.set (some i) (V.vecT sh (s.get i)))))
def vecLoc : List (Key × OSh) → S → S
  | [], s => s
  | (k, .box sh) :: l, s => (match s.obj k with
    | some (.box x) => (match V.vecN sh x with
      | [] => vecLoc l s
      | ns => vecLoc l (virtL ns (s.put k (.box (V.vecV sh x)))))
    | _ => vecLoc l s)
  | _ :: l, s => vecLoc l s
end Go.E


namespace Go.E
open Go
set_option linter.unusedSectionVars false

mutual
def V.lendD (s : S) : V → V
  | .agg τ vs => .agg τ (V.lendDs s vs)
  | x => lendV s x
def V.lendDs (s : S) : List V → List V
  | [] => []
  | x :: xs => V.lendD s x :: V.lendDs s xs
end
mutual
def V.lendKD : V → List Nat
  | .agg _ vs => V.lendKDs vs
  | x => lendK x
def V.lendKDs : List V → List Nat
  | [] => []
  | x :: xs => V.lendKD x ++ V.lendKDs xs
end
mutual
def V.frz (s : S) : Sh → V → V
  | .d _, x => x.lendD s
  | .agg _ l, x => (match x with
    | .agg τ xs => .agg τ (V.frzs s l xs)
    | x => x)
  | _, x => x
def V.frzs (s : S) : List Sh → List V → List V
  | sh :: l, x :: xs => V.frz s sh x :: V.frzs s l xs
  | _, xs => xs
end
mutual
def V.frzK : Sh → V → List Nat
  | .d _, x => x.lendKD
  | .agg _ l, x => (match x with
    | .agg _ xs => V.frzKs l xs
    | _ => [])
  | _, _ => []
def V.frzKs : List Sh → List V → List Nat
  | sh :: l, x :: xs => V.frzK sh x ++ V.frzKs l xs
  | _, _ => []
end
theorem RepX.presN {Γ Γ' : G} (p : Pres Γ Γ') {q : List Nat} {x : V} {vs : List Value} (h : RepX Γ none q x vs) : RepX Γ' none q x vs := RepX.pres p (hm := none) trivial x h
theorem lendV_ty (s : S) (x : V) : (lendV s x).ty = x.ty ∧ (lendV s x).plain = x.plain := by
  unfold lendV
  split
  · split
    · split
      · split
        · split
          · exact ⟨rfl, rfl⟩
          · exact ⟨rfl, rfl⟩
        · exact ⟨rfl, rfl⟩
      · exact ⟨rfl, rfl⟩
    · exact ⟨rfl, rfl⟩
  · exact ⟨rfl, rfl⟩
theorem V.lendD_ty (s : S) (x : V) : (x.lendD s).ty = x.ty ∧ (x.lendD s).plain = x.plain := by
  cases x <;> simp only [V.lendD] <;> first | exact lendV_ty s _ | exact ⟨rfl, rfl⟩
theorem V.lendDs_length (s : S) : ∀ xs : List V, (V.lendDs s xs).length = xs.length
  | [] => rfl
  | x :: xs => by simp [V.lendDs, V.lendDs_length s xs]
theorem V.frz_ty (s : S) (sh : Sh) (x : V) : (V.frz s sh x).ty = x.ty ∧ (V.frz s sh x).plain = x.plain := by
  unfold V.frz
  split
  · exact V.lendD_ty s x
  · split <;> exact ⟨rfl, rfl⟩
  · exact ⟨rfl, rfl⟩
theorem V.frzs_length (s : S) : ∀ (l : List Sh) (xs : List V), (V.frzs s l xs).length = xs.length
  | [], xs => by simp [V.frzs]
  | _ :: _, [] => by simp [V.frzs]
  | sh :: l, x :: xs => by simp [V.frzs, V.frzs_length s l xs]
section
variable {Γ Γ' : G} {s : S} {js : List Nat} (p : Pres Γ Γ') (hc : ∀ (x : V) (v : Value), RepV Γ x v → (∀ j ∈ lendK x, j ∈ js) → RepV Γ' (lendV s x) v)
include p hc
theorem RepX.lendV {x : V} {q : List Nat} {vs : List Value} (hx : x.plain = true) (ha : x.ty.isAgg = false) (h : RepX Γ none q x vs) (hk : ∀ j ∈ lendK x, j ∈ js) : RepX Γ' none q (lendV s x) vs := by
  by_cases hn : lendK x = []
  · rw [lendV_same (fun j hj => by rw [hn] at hj; cases hj)]
    exact h.presN p
  · cases x <;> (try (exact absurd rfl hn))
    rename_i k q0 lo n cp eb e
    cases k with
    | g k => exact absurd rfl hn
    | l j =>
      have hv : ∃ v, vs = [v] ∧ RepV Γ (.sr (.l j) q0 lo n cp eb e) v := by
        have h' := h
        simp only [RepX] at h
        rcases h with ⟨_, _, a, rfl⟩ | ⟨b, τ0, o, m, cap, _, _, _, ⟨a, rfl, _⟩, _⟩
        · exact ⟨_, rfl, (repV_one rfl rfl).2 ⟨by simpa only [RepX] using h', rfl⟩⟩
        · exact ⟨_, rfl, (repV_one rfl rfl).2 ⟨by simpa only [RepX] using h', rfl⟩⟩
      obtain ⟨v, rfl, hv⟩ := hv
      have h2 := hc _ _ hv hk
      have h3 := lendV_ty s (.sr (.l j) q0 lo n cp eb e)
      have hvc : v.cells.toList = [v] := by
        rcases repV_sr hv with ⟨_, _, a, rfl⟩ | ⟨b, τ0, o, m, cap, a, _, _, _, rfl, _⟩ <;> rfl
      obtain ⟨h4, _⟩ := (repV_plain (by rw [h3.2]; rfl)).1 h2
      rw [hvc] at h4
      exact RepX.any_home _ h4
mutual
theorem RepX.lendD : ∀ (x : V) {q : List Nat} {vs : List Value}, RepX Γ none q x vs → (∀ j ∈ x.lendKD, j ∈ js) → RepX Γ' none q (x.lendD s) vs
  | .agg τ xs, q, vs, h, hk => by
    simp only [V.lendD, V.lendKD] at hk ⊢
    simp only [RepX] at h ⊢
    exact ⟨h.1, h.2.1, by rw [V.lendDs_length]; exact h.2.2.1, h.2.2.2.1, RepXs.lendDs xs h.2.2.2.2 hk⟩
  | .any, q, vs, _, _ => by simp only [V.lendD, Go.E.lendV, RepX]
  | .tup _, q, vs, h, _ => by simp only [RepX] at h
  | .d τ c, q, vs, h, _ => by simp only [V.lendD, Go.E.lendV]; exact h.presN p
  | .sl _ _ _ _, q, vs, h, hk | .ts _ _ _, q, vs, h, hk | .emp _ _, q, vs, h, hk | .nilc, q, vs, h, hk | .ptr _ _ _, q, vs, h, hk | .cptr _ _, q, vs, h, hk | .mp _, q, vs, h, hk | .fn _ _, q, vs, h, hk | .top _, q, vs, h, hk => by
    simp only [V.lendD, Go.E.lendV]; exact h.presN p
  | .sr k q0 lo n cp eb e, q, vs, h, hk => by
    simp only [V.lendD]
    exact RepX.lendV p hc rfl rfl h (by simpa only [V.lendKD] using hk)
theorem RepXs.lendDs : ∀ (xs : List V) {q : List Nat} {i : Nat} {τ : Ty} {vs : List Value}, RepXs Γ none q i τ xs vs → (∀ j ∈ V.lendKDs xs, j ∈ js) → RepXs Γ' none q i τ (V.lendDs s xs) vs
  | [], _, _, _, _, _, _ => by simp only [V.lendDs, RepXs]
  | x :: xs, _, _, _, _, h, hk => by
    simp only [RepXs, V.lendDs, (V.lendD_ty s x).1] at h ⊢
    simp only [V.lendKDs, List.mem_append] at hk
    obtain ⟨⟨o, f, h1, h2, h3, h4⟩, h5⟩ := h
    exact ⟨⟨o, f, h1, h2, h3, RepX.lendD x h4 fun j hj => hk j (.inl hj)⟩, RepXs.lendDs xs h5 fun j hj => hk j (.inr hj)⟩
end
mutual
theorem RepX.frz : ∀ (sh : Sh) (x : V) {q : List Nat} {vs : List Value}, RepX Γ none q x vs → (∀ j ∈ V.frzK sh x, j ∈ js) → RepX Γ' none q (V.frz s sh x) vs
  | .d _, x, q, vs, h, hk => by simp only [V.frz, V.frzK] at hk ⊢; exact RepX.lendD p hc x h hk
  | .agg _ l, x, q, vs, h, hk => by
    simp only [V.frz, V.frzK] at hk ⊢
    split
    · simp only [RepX] at h ⊢
      exact ⟨h.1, h.2.1, by rw [V.frzs_length]; exact h.2.2.1, h.2.2.2.1, RepXs.frzs l _ h.2.2.2.2 hk⟩
    · exact h.presN p
  | .sl _ _ _, x, q, vs, h, _ | .ts _ _, x, q, vs, h, _ | .sr _ _ _ _ _, x, q, vs, h, _ | .cptr _, x, q, vs, h, _ | .arr _, x, q, vs, h, _ | .as _, x, q, vs, h, _ | .vec _ _ _, x, q, vs, h, _ | .fnc _ _, x, q, vs, h, _ => by
    simp only [V.frz]; exact h.presN p
theorem RepXs.frzs : ∀ (l : List Sh) (xs : List V) {q : List Nat} {i : Nat} {τ : Ty} {vs : List Value}, RepXs Γ none q i τ xs vs → (∀ j ∈ V.frzKs l xs, j ∈ js) → RepXs Γ' none q i τ (V.frzs s l xs) vs
  | [], xs, _, _, _, _, h, _ => by simp only [V.frzs]; exact RepXs.pres p (hm := none) trivial xs h
  | _ :: _, [], _, _, _, _, _, _ => by simp only [V.frzs, RepXs]
  | sh :: l, x :: xs, _, _, _, _, h, hk => by
    simp only [RepXs, V.frzs, (V.frz_ty s sh x).1] at h ⊢
    simp only [V.frzKs, List.mem_append] at hk
    obtain ⟨⟨o, f, h1, h2, h3, h4⟩, h5⟩ := h
    exact ⟨⟨o, f, h1, h2, h3, RepX.frz sh x h4 fun j hj => hk j (.inl hj)⟩, RepXs.frzs l xs h5 fun j hj => hk j (.inr hj)⟩
end
theorem RepV.frz {sh : Sh} {x : V} {v : Value} (h : RepV Γ x v) (hk : ∀ j ∈ V.frzK sh x, j ∈ js) : RepV Γ' (V.frz s sh x) v := by
  by_cases hp : x.plain = true
  · obtain ⟨h1, h2⟩ := (repV_plain hp).1 h
    exact (repV_plain (by rw [(V.frz_ty s sh x).2]; exact hp)).2 ⟨RepX.frz p hc sh x h1 hk, by rw [(V.frz_ty s sh x).1]; exact h2⟩
  · have : V.frz s sh x = x := by
      cases x <;> simp [V.plain] at hp <;> (unfold V.frz; split <;> rfl)
    rw [this]; exact h.pres p
end
def envFrzK (s : S) : List (Nat × Sh) → List Nat
  | [] => []
  | (i, sh) :: l => V.frzK sh (s.get i) ++ envFrzK s l
def frzEnv (s0 : S) : List (Nat × Sh) → S → S
  | [], s => s
  | (i, sh) :: l, s => frzEnv s0 l (match V.frzK sh (s0.get i) with
    | [] => s
    | _ => s.set (some i) (V.frz s0 sh (s0.get i)))
def frzS (sh : SSh) (s : S) : S :=
  match envFrzK s sh.env with
  | [] => s
  | js => frzEnv s sh.env (lendS js s)
theorem frzEnv_loc (s0 : S) : ∀ (l : List (Nat × Sh)) (s : S), (frzEnv s0 l s).loc = s.loc ∧ (frzEnv s0 l s).tk = s.tk ∧ (frzEnv s0 l s).A = s.A
  | [], s => ⟨rfl, rfl, rfl⟩
  | (i, sh) :: l, s => by
    simp only [frzEnv]
    have := frzEnv_loc s0 l (match V.frzK sh (s0.get i) with
      | [] => s
      | _ => s.set (some i) (V.frz s0 sh (s0.get i)))
    refine ⟨this.1.trans ?_, this.2.1.trans ?_, this.2.2.trans ?_⟩ <;> (split <;> rfl)
theorem frzEnv_get {Γ' : G} {tmps : Array Value} {s0 : S} {js : List Nat} (h0 : ∀ i sh, (∀ j ∈ V.frzK sh (s0.get i), j ∈ js) → RepV Γ' (V.frz s0 sh (s0.get i)) (tmps.getD i undef)) : ∀ (l : List (Nat × Sh)) (s : S), (∀ j ∈ envFrzK s0 l, j ∈ js) → (∀ i, RepV Γ' (s.get i) (tmps.getD i undef)) → ∀ i, RepV Γ' ((frzEnv s0 l s).get i) (tmps.getD i undef)
  | [], s, _, h => h
  | (i, sh) :: l, s, hk, h => by
    simp only [frzEnv]
    simp only [envFrzK, List.mem_append] at hk
    refine frzEnv_get h0 l _ (fun j hj => hk j (.inr hj)) fun m => ?_
    split
    · exact h m
    · rw [get_set]
      split
      · rename_i e
        cases e
        exact h0 i sh fun j hj => hk j (.inl hj)
      · exact h m
theorem at_frz {X : Cx} {n : Nat} {Γ0 : G} {a : Act} {w : World} {sh : SSh} {s : S} (h : At X n Γ0 s a w) : At X n Γ0 (frzS sh s) a w := by
  unfold frzS
  split
  · exact h
  · obtain ⟨Γ, g1, g3, c, hs, hn, hf, hA⟩ := h
    obtain ⟨Γ', g, p, c', hcv⟩ := lendS_ok (envFrzK s sh.env) s c
    have hl := frzEnv_loc s sh.env (lendS (envFrzK s sh.env) s)
    have hE := lendS_env (envFrzK s sh.env) s
    refine ⟨Γ', g1.trans g, g.gl.trans g3, c'.congr (fun k => ?_) (fun t => ?_) (fun t ht => ?_), ?_, hn, hf, by rw [hl.2.2, hE.2]; exact hA⟩
    · unfold S.obj; rw [hl.1, hl.2.2]
    · unfold S.live; rw [hl.2.1]
    · unfold S.known at ht ⊢; rw [hl.2.1]; exact ht
    · refine frzEnv_get (js := envFrzK s sh.env) (fun i sh' hk => RepV.frz p hcv (hs i) hk) sh.env _ (fun j hj => hj) fun i => ?_
      exact slots_env hE.1 (hs.pres p) i
mutual
theorem V.lendD_wA (s : S) (A' : Key → Option O) : ∀ x : V, x.lendD (s.wA A') = x.lendD s
  | .agg τ vs => by simp only [V.lendD]; rw [V.lendDs_wA s A' vs]
  | .d _ _ | .sl _ _ _ _ | .ts _ _ _ | .emp _ _ | .nilc | .ptr _ _ _ | .cptr _ _ | .mp _ | .fn _ _ | .top _ | .any | .tup _ | .sr _ _ _ _ _ _ _ => by simp only [V.lendD]; exact lendV_wA s A' _
theorem V.lendDs_wA (s : S) (A' : Key → Option O) : ∀ xs : List V, V.lendDs (s.wA A') xs = V.lendDs s xs
  | [] => rfl
  | x :: xs => by simp only [V.lendDs]; rw [V.lendD_wA s A' x, V.lendDs_wA s A' xs]
end
mutual
theorem V.frz_wA (s : S) (A' : Key → Option O) : ∀ (sh : Sh) (x : V), V.frz (s.wA A') sh x = V.frz s sh x
  | .d _, x => by simp only [V.frz]; exact V.lendD_wA s A' x
  | .agg _ l, x => by simp only [V.frz]; split <;> (try rfl); rw [V.frzs_wA s A' l]
  | .sl _ _ _, x | .ts _ _, x | .sr _ _ _ _ _, x | .cptr _, x | .arr _, x | .as _, x | .vec _ _ _, x | .fnc _ _, x => by simp only [V.frz]
theorem V.frzs_wA (s : S) (A' : Key → Option O) : ∀ (l : List Sh) (xs : List V), V.frzs (s.wA A') l xs = V.frzs s l xs
  | [], xs => by simp only [V.frzs]
  | _ :: _, [] => by simp only [V.frzs]
  | sh :: l, x :: xs => by simp only [V.frzs]; rw [V.frz_wA s A' sh x, V.frzs_wA s A' l xs]
end
theorem envFrzK_wA (s : S) (A' : Key → Option O) : ∀ l : List (Nat × Sh), envFrzK (s.wA A') l = envFrzK s l
  | [] => rfl
  | (i, sh) :: l => by simp only [envFrzK]; rw [envFrzK_wA s A' l]; rfl
theorem frzEnv_wA (s0 : S) (A' : Key → Option O) : ∀ (l : List (Nat × Sh)) (s : S), frzEnv (s0.wA A') l (s.wA A') = (frzEnv s0 l s).wA A'
  | [], _ => rfl
  | (i, sh) :: l, s => by
    simp only [frzEnv]
    rw [← frzEnv_wA s0 A' l]
    congr 1
    show (match V.frzK sh (s0.get i) with
      | [] => s.wA A'
      | _ => (s.wA A').set (some i) (V.frz (s0.wA A') sh (s0.get i))) = _
    rw [V.frz_wA]
    split <;> rfl
theorem frzS_wA (sh : SSh) (s : S) (A' : Key → Option O) : frzS sh (s.wA A') = (frzS sh s).wA A' := by
  unfold frzS
  rw [envFrzK_wA]
  split
  · rfl
  · rw [lendS_wA]; exact frzEnv_wA s A' sh.env _
end Go.E


namespace Go.E
open Go

def frcK {R : Type} : Key → (Key → Option R) → Option R
  | .l 0, K => K (.l 0)
  | .l (n + 1), K => K (.l (n + 1))
  | .g k, K => frcK k fun k => K (.g k)
theorem frcK_eq {R : Type} : ∀ (k : Key) (K : Key → Option R), frcK k K = K k
  | .l 0, K => rfl
  | .l (n + 1), K => rfl
  | .g k, K => by simp only [frcK, frcK_eq k]
mutual
def frcV {R : Type} : V → (V → Option R) → Option R
  | .d τ c, K => K (.d τ c)
  | .sl eb e cs t, K => K (.sl eb e cs t)
  | .ts eb e cs, K => K (.ts eb e cs)
  | .emp eb e, K => K (.emp eb e)
  | .nilc, K => K .nilc
  | .ptr k q τ, K => frcK k fun k => K (.ptr k q τ)
  | .cptr τ c, K => K (.cptr τ c)
  | .sr k q lo n cp eb e, K => frcK k fun k => K (.sr k q lo n cp eb e)
  | .mp k, K => frcK k fun k => K (.mp k)
  | .agg τ l, K => frcVs l fun l => K (.agg τ l)
  | .fn f l, K => K (.fn f l)
  | .tup l, K => frcVs l fun l => K (.tup l)
  | .top τ, K => K (.top τ)
  | .any, K => K .any
def frcVs {R : Type} : List V → (List V → Option R) → Option R
  | [], K => K []
  | x :: l, K => frcV x fun x => frcVs l fun l => K (x :: l)
end
mutual
theorem frcV_eq {R : Type} : ∀ (x : V) (K : V → Option R), frcV x K = K x
  | .d _ _, _ | .sl _ _ _ _, _ | .ts _ _ _, _ | .emp _ _, _ | .nilc, _ | .cptr _ _, _ | .fn _ _, _ | .top _, _ | .any, _ => by simp only [frcV]
  | .ptr k q τ, K => by simp only [frcV, frcK_eq]
  | .sr k q lo n cp eb e, K => by simp only [frcV, frcK_eq]
  | .mp k, K => by simp only [frcV, frcK_eq]
  | .agg τ l, K => by simp only [frcV, frcVs_eq l]
  | .tup l, K => by simp only [frcV, frcVs_eq l]
theorem frcVs_eq {R : Type} : ∀ (l : List V) (K : List V → Option R), frcVs l K = K l
  | [], K => by simp only [frcVs]
  | x :: l, K => by simp only [frcVs, frcV_eq x, frcVs_eq l]
end
def frcE {R : Type} : List (Nat × V) → (List (Nat × V) → Option R) → Option R
  | [], K => K []
  | (i, x) :: l, K => frcV x fun x => frcE l fun l => K ((i, x) :: l)
theorem frcE_eq {R : Type} : ∀ (l : List (Nat × V)) (K : List (Nat × V) → Option R), frcE l K = K l
  | [], K => rfl
  | (i, x) :: l, K => by simp only [frcE, frcV_eq, frcE_eq l]
def frcL {R : Type} : List (Key × O) → (List (Key × O) → Option R) → Option R
  | [], K => K []
  | (k, .box x) :: l, K => frcK k fun k => frcV x fun x => frcL l fun l => K ((k, .box x) :: l)
  | (k, o) :: l, K => frcK k fun k => frcL l fun l => K ((k, o) :: l)
theorem frcL_eq {R : Type} : ∀ (l : List (Key × O)) (K : List (Key × O) → Option R), frcL l K = K l
  | [], K => rfl
  | (k, o) :: l, K => by
    cases o <;> simp only [frcL, frcK_eq, frcV_eq, frcL_eq l]
def frcT {R : Type} : List (Nat × Option Nat) → (List (Nat × Option Nat) → Option R) → Option R
  | [], K => K []
  | (i, none) :: l, K => frcT l fun l => K ((i, none) :: l)
  | (i, some n) :: l, K => frcT l fun l => K ((i, some n) :: l)
theorem frcT_eq {R : Type} : ∀ (l : List (Nat × Option Nat)) (K : List (Nat × Option Nat) → Option R), frcT l K = K l
  | [], K => rfl
  | (i, o) :: l, K => by cases o <;> simp only [frcT, frcT_eq l]
def frc {R : Type} (s : S) (K : S → Option R) : Option R :=
  match s with
  | ⟨env, loc, A, tk⟩ => frcE env fun env => frcL loc fun loc => frcT tk fun tk => K ⟨env, loc, A, tk⟩
theorem frc_eq {R : Type} (s : S) (K : S → Option R) : frc s K = K s := by
  unfold frc
  simp only [frcE_eq, frcL_eq, frcT_eq]
def frcC {R : Type} : List Cap → (List Cap → Option R) → Option R
  | [], K => K []
  | .c τ :: l, K => frcC l fun l => K (.c τ :: l)
  | .v x :: l, K => frcV x fun x => frcC l fun l => K (.v x :: l)
theorem frcC_eq {R : Type} : ∀ (l : List Cap) (K : List Cap → Option R), frcC l K = K l
  | [], K => rfl
  | .c τ :: l, K => by simp only [frcC, frcC_eq l]
  | .v x :: l, K => by simp only [frcC, frcV_eq, frcC_eq l]
mutual
def frcSh {R : Type} : Sh → (Sh → Option R) → Option R
  | .sr k q cp eb e, K => frcK k fun k => K (.sr k q cp eb e)
  | .vec k eb e, K => frcK k fun k => K (.vec k eb e)
  | .agg τ l, K => frcShs l fun l => K (.agg τ l)
  | .as v, K => frcV v fun v => K (.as v)
  | .d τ, K => K (.d τ)
  | .sl eb e t, K => K (.sl eb e t)
  | .ts eb e, K => K (.ts eb e)
  | .cptr τ, K => K (.cptr τ)
  | .arr e, K => K (.arr e)
  | .fnc f l, K => frcC l fun l => K (.fnc f l)
def frcShs {R : Type} : List Sh → (List Sh → Option R) → Option R
  | [], K => K []
  | x :: l, K => frcSh x fun x => frcShs l fun l => K (x :: l)
end
mutual
theorem frcSh_eq {R : Type} : ∀ (x : Sh) (K : Sh → Option R), frcSh x K = K x
  | .d _, _ | .sl _ _ _, _ | .ts _ _, _ | .cptr _, _ | .arr _, _ => by simp only [frcSh]
  | .sr _ _ _ _ _, K => by simp only [frcSh, frcK_eq]
  | .vec _ _ _, K => by simp only [frcSh, frcK_eq]
  | .as v, K => by simp only [frcSh, frcV_eq]
  | .fnc f l, K => by simp only [frcSh, frcC_eq]
  | .agg τ l, K => by simp only [frcSh, frcShs_eq l]
theorem frcShs_eq {R : Type} : ∀ (l : List Sh) (K : List Sh → Option R), frcShs l K = K l
  | [], K => by simp only [frcShs]
  | x :: l, K => by simp only [frcShs, frcSh_eq x, frcShs_eq l]
end
def frcSE {R : Type} : List (Nat × Sh) → (List (Nat × Sh) → Option R) → Option R
  | [], K => K []
  | (i, x) :: l, K => frcSh x fun x => frcSE l fun l => K ((i, x) :: l)
theorem frcSE_eq {R : Type} : ∀ (l : List (Nat × Sh)) (K : List (Nat × Sh) → Option R), frcSE l K = K l
  | [], K => rfl
  | (i, x) :: l, K => by simp only [frcSE, frcSh_eq, frcSE_eq l]
def frcSL {R : Type} : List (Key × OSh) → (List (Key × OSh) → Option R) → Option R
  | [], K => K []
  | (k, .box x) :: l, K => frcK k fun k => frcSh x fun x => frcSL l fun l => K ((k, .box x) :: l)
  | (k, o) :: l, K => frcK k fun k => frcSL l fun l => K ((k, o) :: l)
theorem frcSL_eq {R : Type} : ∀ (l : List (Key × OSh)) (K : List (Key × OSh) → Option R), frcSL l K = K l
  | [], K => rfl
  | (k, o) :: l, K => by cases o <;> simp only [frcSL, frcK_eq, frcSh_eq, frcSL_eq l]
def frcSS {R : Type} (s : SSh) (K : SSh → Option R) : Option R :=
  match s with
  | ⟨env, loc⟩ => frcSE env fun env => frcSL loc fun loc => K ⟨env, loc⟩
theorem frcSS_eq {R : Type} (s : SSh) (K : SSh → Option R) : frcSS s K = K s := by
  unfold frcSS
  simp only [frcSE_eq, frcSL_eq]
end Go.E


namespace Go.E
open Go

def capAny : List V → Bool
  | [] => false
  | .cptr _ _ :: _ => true
  | _ :: l => capAny l
def capsOf : List V → List Cap
  | [] => []
  | .cptr τ _ :: l => .c τ :: capsOf l
  | x :: l => .v x :: capsOf l
mutual
def V.absN : V → Sh
  | .d τ _ => (match τ with
    | .ptr => .as (.d .ptr .nil)
    | .map => .as (.d .map .nil)
    | .func => .as (.d .func .nil)
    | τ => .d τ)
  | .sl eb e _ _ => .d (.slice eb e)
  | .ts eb e _ => .ts eb e
  | .sr k q _ _ cp eb e => (match q, cp with
    | [], none => .vec k eb e
    | q, cp => .sr k q cp.isSome eb e)
  | .cptr τ _ => .cptr τ
  | .agg τ vs => .agg τ (V.absNs vs)
  | .tup _ => .as .any
  | .fn f vs => bif capAny vs then .fnc f (capsOf vs) else .as (.fn f vs)
  | x => .as x
def V.absNs : List V → List Sh
  | [] => []
  | x :: xs => x.absN :: V.absNs xs
end
mutual
def V.keysK : V → List Key
  | .ptr k _ _ | .mp k | .sr k _ _ _ _ _ _ => [k]
  | .agg _ vs | .fn _ vs | .tup vs => V.keysKs vs
  | _ => []
def V.keysKs : List V → List Key
  | [] => []
  | x :: xs => x.keysK ++ V.keysKs xs
end
def O.keysK : O → List Key
  | .box x => x.keysK
  | .map _ _ _ => []
  | .it _ _ | .dead _ => []
def memK : Key → List Key → Bool
  | _, [] => false
  | k, j :: l => if j = k then true else memK k l
def reachK (s : S) : Nat → List Key → List Key → List Key
  | 0, _, acc => acc
  | _, [], acc => acc
  | f + 1, k :: ks, acc => if memK k acc = true then reachK s f ks acc else (match s.obj k with
    | some o => reachK s f (o.keysK ++ ks) (acc ++ [k])
    | none => reachK s f ks acc)
structure Hint where
  live : List Nat
  new : List (Nat × Sh)
  roots : List Key
  obs : List (Key × OSh)
  drop : List Key
  vecs : List Ty := []
def envKs (s : S) : List Nat → List Key
  | [] => []
  | i :: l => (s.get i).keysK ++ envKs s l
def absEnv (s : S) : List Nat → List (Nat × Sh)
  | [] => []
  | i :: l => (match s.get i with
    | .any => absEnv s l
    | x => (i, x.absN) :: absEnv s l)
def inTys (e : Ty) : List Ty → Bool
  | [] => false
  | t :: l => if Ty.beq t e = true then true else inTys e l
def codeK : Key → Nat
  | .l n => 2 * n
  | .g k => 2 * codeK k + 1
def V1 : Nat := 1000000000000
mutual
def Sh.vecy (ts : List Ty) : Nat → Sh → V → Sh
  | b, .vec (.g k) eb e, _ => if inTys e ts = true then .vec (.l (V1 + 8 * codeK (.g k) + 2)) eb e else .vec (.g k) eb e
  | b, .as v, _ => (match v with
    | .emp eb e => if inTys e ts = true then .vec (.l b) eb e else .as v
    | v => .as v)
  | b, .ts eb e, x => (match x with
    | .emp _ _ => if inTys e ts = true then .vec (.l b) eb e else .ts eb e
    | _ => .ts eb e)
  | b, .agg τ l, x => (match x with
    | .agg _ xs => .agg τ (Sh.vecys ts (64 * b) l xs)
    | _ => .agg τ l)
  | _, s, _ => s
def Sh.vecys (ts : List Ty) : Nat → List Sh → List V → List Sh
  | b, s :: l, x :: xs => Sh.vecy ts b s x :: Sh.vecys ts (b + 1) l xs
  | _, _, _ => []
end
mutual
def Sh.vnew : Sh → List (Key × OSh)
  | .vec (.l a) _ e => if V1 ≤ a then [(.l a, .box (.arr e))] else []
  | .agg _ l => Sh.vnews l
  | _ => []
def Sh.vnews : List Sh → List (Key × OSh)
  | [] => []
  | s :: l => s.vnew ++ Sh.vnews l
end
def envVecy (s : S) (ts : List Ty) : List (Nat × Sh) → List (Nat × Sh)
  | [] => []
  | (i, sh) :: l => (i, sh.vecy ts (V1 + 8 * i + 3) (s.get i)) :: envVecy s ts l
def locVecy (s : S) (ts : List Ty) : List (Key × OSh) → List (Key × OSh)
  | [] => []
  | (k, .box sh) :: l => (match k, sh with
    | .g k, .arr e => if inTys e ts = true then (.g k, .dead e) :: (.l (V1 + 8 * codeK (.g k) + 2), .box (.arr e)) :: locVecy s ts l else (.g k, .box sh) :: locVecy s ts l
    | k, sh => (match s.obj k with
      | some (.box x) => (k, .box (sh.vecy ts (V1 + 8 * codeK k + 1) x)) :: locVecy s ts l
      | _ => (k, .box sh) :: locVecy s ts l))
  | p :: l => p :: locVecy s ts l
def envVnew : List (Nat × Sh) → List (Key × OSh)
  | [] => []
  | (_, sh) :: l => sh.vnew ++ envVnew l
def locVnew : List (Key × OSh) → List (Key × OSh)
  | [] => []
  | (_, .box sh) :: l => sh.vnew ++ locVnew l
  | _ :: l => locVnew l
def addNew : List (Key × OSh) → List (Key × OSh) → List (Key × OSh)
  | [], acc => acc
  | (k, o) :: l, acc => if keyIn acc k = true then addNew l acc else addNew l (acc ++ [(k, o)])
def vecySh (s : S) (ts : List Ty) (sh : SSh) : SSh :=
  match ts with
  | [] => sh
  | ts => (match envVecy s ts sh.env, locVecy s ts sh.loc with
    | env, loc => ⟨env, addNew (envVnew env ++ locVnew loc) loc⟩)
def absLoc (s : S) (h : Hint) : List Key → List (Key × OSh)
  | [] => []
  | k :: l => if memK k h.drop = true then absLoc s h l else if keyIn h.obs k = true then absLoc s h l else (match s.obj k with
    | some (.box x) => (k, .box (match x with
        | .d (.arr M e) _ => (match k, M with
          | _, _ => if inTys e h.vecs = true then .arr e else .d (.arr M e))
        | .d τ _ => .d τ
        | x => (match h.vecs with
          | [] => bif (closeV x).isSome then .d x.ty else x.emps.absN
          | _ => x.absN))) :: absLoc s h l
    | some (.map kτ vτ _) => (k, .map kτ vτ) :: absLoc s h l
    | some (.it _ _) => (k, .it) :: absLoc s h l
    | some (.dead (.arr _ e)) => (k, .dead e) :: absLoc s h l
    | _ => absLoc s h l)
def deadGs : List (Key × O) → List Key
  | [] => []
  | (.g k, .dead _) :: l => .g k :: deadGs l
  | _ :: l => deadGs l
def mkSh (h : Hint) (s : S) : SSh :=
  vecySh s h.vecs ⟨absEnv s h.live ++ h.new, h.obs ++ absLoc s h (reachK s 1000 (envKs s h.live ++ h.roots) [] ++ deadGs s.loc)⟩

def empsL : List (Key × OSh) → S → S
  | [], s => s
  | (k, .box _) :: l, s => (match s.obj k with
    | some (.box x) => empsL l (s.put k (.box x.emps))
    | _ => empsL l s)
  | _ :: l, s => empsL l s
def toksL : List (Nat × Sh) → S → S
  | [], s => s
  | (i, sh) :: l, s => (match sh with
    | .sl eb e t => (match s.get i with
      | .nilc => if s.known t = false then toksL l (S.set { s with tk := (t, some 0) :: s.tk } (some i) (.sl eb e [] t)) else toksL l s
      | .emp eb' e' => if eb' = eb ∧ e' = e ∧ s.known t = false then toksL l (S.set { s with tk := (t, some 0) :: s.tk } (some i) (.sl eb e [] t)) else toksL l s
      | _ => toksL l s)
    | _ => toksL l s)
mutual
def V.un : V → V → List (Nat × Nat)
  | .ptr (.l a) _ _, .ptr (.l b) _ _ => [(b, a)]
  | .mp (.l a), .mp (.l b) => [(b, a)]
  | .fn _ l, .fn _ l' => V.uns l l'
  | .tup l, .tup l' => V.uns l l'
  | _, _ => []
def V.uns : List V → List V → List (Nat × Nat)
  | x :: xs, y :: ys => V.un x y ++ V.uns xs ys
  | _, _ => []
end
def capUn : List Cap → List V → List (Nat × Nat)
  | .v y :: l, x :: xs => V.un y x ++ capUn l xs
  | .c _ :: l, _ :: xs => capUn l xs
  | _, _ => []
mutual
def Sh.un : Sh → V → List (Nat × Nat)
  | .sr (.l a) _ _ _ _, .sr (.l b) _ _ _ _ _ _ => [(b, a)]
  | .vec (.l a) _ _, .sr (.l b) _ _ _ _ _ _ => [(b, a)]
  | .as v, x => V.un v x
  | .fnc _ l, .fn _ xs => capUn l xs
  | .agg _ l, .agg _ xs => Sh.uns l xs
  | _, _ => []
def Sh.uns : List Sh → List V → List (Nat × Nat)
  | s :: l, x :: xs => s.un x ++ Sh.uns l xs
  | _, _ => []
end
def unEnv (s : S) : List (Nat × Sh) → List (Nat × Nat)
  | [] => []
  | (i, sh) :: l => sh.un (s.get i) ++ unEnv s l
def unTok (s : S) : List (Nat × Sh) → List (Nat × Nat)
  | [] => []
  | (i, sh) :: l => (match sh, s.get i with
    | .sl _ _ t, .sl _ _ _ t' => (t', t) :: unTok s l
    | _, _ => unTok s l)
def lookS : List (Key × OSh) → Key → Option OSh
  | [], _ => none
  | (j, x) :: l, k => if j = k then some x else lookS l k
def unLoc (s : S) (l : List (Key × OSh)) (b a : Key) : List (Nat × Nat) :=
  match lookS l a, s.obj b with
  | some (.box sh), some (.box x) => sh.un x
  | _, _ => []
def unG (s : S) (l0 : List (Key × OSh)) : List (Key × OSh) → List (Nat × Nat)
  | [] => []
  | (.g k, _) :: l => unLoc s l0 (.g k) (.g k) ++ unG s l0 l
  | (.l _, _) :: l => unG s l0 l
def unAll (s : S) (l : List (Key × OSh)) : Nat → List (Nat × Nat) → List (Nat × Nat) → List (Nat × Nat)
  | 0, _, acc => acc
  | _, [], acc => acc
  | f + 1, (b, a) :: todo, acc => (match look acc b with
    | some _ => unAll s l f todo acc
    | none => unAll s l f (unLoc s l (.l b) (.l a) ++ todo) ((b, a) :: acc))
def allId : List (Nat × Nat) → Bool
  | [] => true
  | (a, b) :: l => Nat.beq a b && allId l
def away (l : List (Nat × Nat)) (n : Nat) : Nat := (look l n).getD (n + 1000000000)
def tokOld (s : S) : List (Nat × Sh) → Bool
  | [] => false
  | (i, sh) :: l => (match sh, s.get i with
    | .sl _ _ t, .nilc => s.known t || tokOld s l
    | .sl _ _ t, .emp _ _ => s.known t || tokOld s l
    | _, _ => tokOld s l)
def preS (sh : SSh) (s : S) : S :=
  match unAll s sh.loc 1000 (unEnv s sh.env ++ unG s sh.loc sh.loc) [], unTok s sh.env with
  | ps, ts => bif allId ps && allId ts && !tokOld s sh.env then s
    else bif injB (away ps) (lNums s.loc) && injB (away ts) (tNums s.tk) then s.ren (away ps) (away ts) else s
mutual
def Sh.ad : Sh → V → List (Key × Nat)
  | .vec (.l a) _ _, .sr (.g b) _ _ _ _ _ _ => [(.g b, a + T0)]
  | .agg _ l, .agg _ xs => Sh.ads l xs
  | _, _ => []
def Sh.ads : List Sh → List V → List (Key × Nat)
  | s :: l, x :: xs => s.ad x ++ Sh.ads l xs
  | _, _ => []
end
def adEnv (s : S) : List (Nat × Sh) → List (Key × Nat)
  | [] => []
  | (i, sh) :: l => sh.ad (s.get i) ++ adEnv s l
def adLoc (s : S) : List (Key × OSh) → List (Key × Nat)
  | [] => []
  | (k, .box sh) :: l => (match s.obj k with
    | some (.box x) => sh.ad x ++ adLoc s l
    | _ => adLoc s l)
  | _ :: l => adLoc s l
def keysL {α : Type} : List (Key × α) → List Key
  | [] => []
  | (k, _) :: l => k :: keysL l
def adoptL (ks : List Key) : List (Key × Nat) → S → S
  | [], s => s
  | (K, t) :: l, s => adoptL ks l (adoptS K t ks s)
def anyVec : List (Key × OSh) → Bool
  | [] => false
  | (_, .box (.arr _)) :: _ => true
  | _ :: l => anyVec l
def vecS (sh : SSh) (s : S) : S :=
  match anyVec sh.loc with
  | false => s
  | true => (match adoptL (keysL sh.loc) (adEnv s sh.env ++ adLoc s sh.loc) s with
    | s => vecLoc sh.loc (vecEnv sh.env s))
def coeP {R : Type} (sh : SSh) (s : S) (K : List C → List Es → Option R) : Option R :=
  frc (frzS sh s) fun s => frc (vecS sh s) fun s => frc (toksL sh.env (empsL sh.loc (preS sh s))) fun s => coeS sh s K
theorem coeP_eq {R : Type} (sh : SSh) (s : S) (K : List C → List Es → Option R) : coeP sh s K = coeS sh (toksL sh.env (empsL sh.loc (preS sh (vecS sh (frzS sh s))))) K := by
  unfold coeP
  simp only [frc_eq]
def WkA (s s' : S) : Prop := s'.A = s.A ∧ ∀ (X : Cx) (n : Nat) (A' : Key → Option O), leA s.A A' → Weak X n (s.wA A') (s'.wA A')
theorem WkA.refl (s : S) : WkA s s := ⟨rfl, fun _ _ _ _ => Weak.refl _⟩
theorem WkA.trans {a b c : S} (h : WkA a b) (h' : WkA b c) : WkA a c :=
  ⟨h'.1.trans h.1, fun X n A' hA => (h.2 X n A' hA).trans (h'.2 X n A' (by rw [h.1]; exact hA))⟩
theorem emps_ok : ∀ (l : List (Key × OSh)) (s : S), WkA s (empsL l s)
  | [], s => WkA.refl s
  | (k, .box _) :: l, s => by
    simp only [empsL]
    split
    · rename_i x hx
      exact WkA.trans (b := s.put k (.box x.emps)) ⟨rfl, fun X n A' hA => weak_emps (obj_wA hA hx)⟩ (emps_ok l _)
    · exact emps_ok l s
  | (_, .map _ _) :: l, s | (_, .dead _) :: l, s | (_, .it) :: l, s => emps_ok l s
theorem toks_ok : ∀ (l : List (Nat × Sh)) (s : S), WkA s (toksL l s)
  | [], s => WkA.refl s
  | (i, sh) :: l, s => by
    simp only [toksL]
    split
    · rename_i eb e t
      have one : ∀ (hu : s.known t = false) (ht : s.get i = .nilc ∨ s.get i = .emp eb e), WkA s (S.set { s with tk := (t, some 0) :: s.tk } (some i) (.sl eb e [] t)) := fun hu ht =>
        ⟨rfl, fun X n A' hA => weak_tok (s := s.wA A') hu ht⟩
      split
      · rename_i hx
        split
        · rename_i hu
          exact (one hu (.inl hx)).trans (toks_ok l _)
        · exact toks_ok l s
      · rename_i eb' e' hx
        split
        · rename_i hu
          obtain ⟨rfl, rfl, hu⟩ := hu
          exact (one hu (.inr hx)).trans (toks_ok l _)
        · exact toks_ok l s
      · exact toks_ok l s
    · exact toks_ok l s
theorem preS_ok (sh : SSh) (s : S) : WkA s (preS sh s) := by
  unfold preS
  dsimp only
  generalize unAll s sh.loc 1000 (unEnv s sh.env ++ unG s sh.loc sh.loc) [] = ps
  generalize unTok s sh.env = ts
  cases allId ps && allId ts && !tokOld s sh.env
  · cases hi : injB (away ps) (lNums s.loc) && injB (away ts) (tNums s.tk)
    · exact WkA.refl s
    · simp only [Bool.and_eq_true] at hi
      exact ⟨rfl, fun X n A' _ => weak_ren (s := s.wA A') _ _ hi.1 hi.2⟩
  · exact WkA.refl s
theorem adoptL_ok (ks : List Key) : ∀ (l : List (Key × Nat)) (s : S), WkA s (adoptL ks l s)
  | [], s => WkA.refl s
  | (K, t) :: l, s => WkA.trans (b := adoptS K t ks s) (adoptS_ok K t ks s) (adoptL_ok ks l _)
theorem at_virt {X : Cx} {n : Nat} {Γ0 : G} {t : Nat} {e : Ty} {a : Act} {w : World} {s : S} (ht : s.obj (.l t) = none) (h : At X n Γ0 s a w) : At X n Γ0 (s.put (.l t) (.box (.d (.arr 0 e) (.agg [])))) a w := by
  obtain ⟨Γ, g1, g3, c, hs, hn, hf, hA⟩ := h
  refine ⟨Γ, g1, g3, ⟨c.hH, c.hZ, c.hκ, fun j o hj => ?_, fun j hj => ?_, c.injD (fun j hj => ?_), c.tok, c.tdom, c.hgl, c.hoo, c.hσ⟩, hs, hn, hf, hA⟩
  · rw [obj_put] at hj
    split at hj
    · rename_i e1; subst e1; cases hj
      exact .inl ⟨c.ι_none ht, e, rfl⟩
    · exact c.obj j o hj
  · rw [obj_put]
    split
    · simp
    · exact c.dom j hj
  · unfold S.deadK at hj ⊢
    rw [obj_put]
    split
    · rename_i e1; subst e1; rw [ht] at hj; cases hj
    · exact hj
theorem virtL_ok : ∀ (l : List (Nat × Ty)) (s : S), WkA s (virtL l s)
  | [], s => WkA.refl s
  | (t, e) :: l, s => by
    simp only [virtL]
    split
    · rename_i h
      have h' : s.obj (.l t) = none := by simpa using h
      exact WkA.trans (b := s.put (.l t) (.box (.d (.arr 0 e) (.agg [])))) ⟨rfl, fun X n A' hA Γ0 a w hat => at_virt (s := s.wA A') (by rw [obj_wA_l]; exact h') hat⟩ (virtL_ok l _)
    · exact virtL_ok l s
theorem RepV.vecV {Γ : G} {sh : Sh} {x : V} {v : Value} (h : RepV Γ x v) : RepV Γ (V.vecV sh x) v := by
  by_cases hp : x.plain = true
  · obtain ⟨h1, h2⟩ := (repV_plain hp).1 h
    exact (repV_plain (by rw [V.vecV_plain]; exact hp)).2 ⟨RepX.vecV sh x h1, by rw [V.vecV_ty]; exact h2⟩
  · have : V.vecV sh x = x := by
      cases x <;> simp [V.plain] at hp <;> (unfold V.vecV; split <;> rfl)
    rw [this]; exact h
theorem RepV.vecT {Γ : G} {sh : Sh} {x : V} {v : Value} (h : RepV Γ x v) : RepV Γ (V.vecT sh x) v := by
  unfold V.vecT
  split
  · have := repV_nilc h
    subst this
    exact repV_mk_sr0
  · exact h.vecV
theorem vecEnv_ok : ∀ (l : List (Nat × Sh)) (s : S), WkA s (vecEnv l s)
  | [], s => WkA.refl s
  | (i, sh) :: l, s => by
    simp only [vecEnv]
    split
    · exact vecEnv_ok l s
    · refine WkA.trans (b := s.set (some i) (V.vecT sh (s.get i))) ⟨rfl, fun X n A' hA Γ0 a w hat => ?_⟩ (WkA.trans (virtL_ok _ _) (vecEnv_ok l _))
      obtain ⟨Γ, g1, g3, c, hs, hn, hf, hA⟩ := hat
      refine ⟨Γ, g1, g3, show Conc Γ w ((s.wA A').set (some i) (V.vecT sh (s.get i))) from conc_set c _ _, fun j => ?_, hn, hf, hA⟩
      have hj := hs j
      show RepV Γ (S.get (S.set (s.wA A') (some i) (V.vecT sh (s.get i))) j) _
      rw [get_set]
      split
      · rename_i e
        cases e
        exact RepV.vecT hj
      · exact hj
theorem vecLoc_ok : ∀ (l : List (Key × OSh)) (s : S), WkA s (vecLoc l s)
  | [], s => WkA.refl s
  | (k, .box sh) :: l, s => by
    simp only [vecLoc]
    split
    · rename_i x hx
      split
      · exact vecLoc_ok l s
      · refine WkA.trans (b := s.put k (.box (V.vecV sh x))) ⟨rfl, fun X n A' hA Γ0 a w hat => ?_⟩ (WkA.trans (virtL_ok _ _) (vecLoc_ok l _))
        obtain ⟨Γ, g1, g3, c, hs, hn, hf, hAok⟩ := hat
        refine ⟨Γ, g1, g3, c.reput (obj_wA hA hx) (fun hown => ?_) (fun hv => ?_), hs, hn, hf, hAok⟩
        · obtain ⟨b, cells, T, h1, h2, h3, h4, h5, h6, h7, h8⟩ := hown
          exact ⟨b, cells, T, by rw [V.vecV_ty]; exact h1, h2, h3, h4, by rw [V.vecV_ty]; exact h5, by rw [V.vecV_ty]; exact RepX.vecV sh x h6, by rw [V.vecV_plain]; exact h7, by rw [V.vecV_noSl]; exact h8⟩
        · obtain ⟨e, rfl⟩ := hv
          have : V.vecV sh (.d (.arr 0 e) (.agg [])) = .d (.arr 0 e) (.agg []) := by unfold V.vecV; split <;> rfl
          rw [this]; exact ⟨e, rfl⟩
    · exact vecLoc_ok l s
  | (_, .map _ _) :: l, s | (_, .dead _) :: l, s | (_, .it) :: l, s => vecLoc_ok l s
theorem vecS_ok (sh : SSh) (s : S) : WkA s (vecS sh s) := by
  unfold vecS
  split
  · exact WkA.refl s
  · exact ((adoptL_ok _ _ s).trans (vecEnv_ok _ _)).trans (vecLoc_ok _ _)
theorem frzS_ok (sh : SSh) (s : S) : WkA s (frzS sh s) := by
  refine ⟨?_, fun X n A' hA Γ0 a w hat => ?_⟩
  · unfold frzS
    split
    · rfl
    · rw [(frzEnv_loc _ _ _).2.2, (lendS_env _ _).2]
  · rw [← frzS_wA]
    exact at_frz hat
def nbV : V → V
  | .d τ c => (match τ with
    | .bool => .d .bool (.bool c.toBool)
    | τ => .d τ c)
  | x => x
def nbE : List (Nat × V) → List (Nat × V)
  | [] => []
  | (i, x) :: l => (i, nbV x) :: nbE l
def nbS (s : S) : S := { s with env := nbE s.env }
theorem nbV_rep {Γ : G} {x : V} {v : Value} (h : RepV Γ x v) : RepV Γ (nbV x) v := by
  cases x <;> (try exact h)
  rename_i τ c
  cases τ <;> (try exact h)
  obtain ⟨_, e⟩ := repV_bool h
  rw [e] at h
  exact h
theorem look_nbE : ∀ (l : List (Nat × V)) (i : Nat), look (nbE l) i = (look l i).map nbV
  | [], _ => rfl
  | (j, x) :: l, i => by
    simp only [nbE, look]
    by_cases e : j = i
    · rw [if_pos e, if_pos e]; rfl
    · rw [if_neg e, if_neg e]; exact look_nbE l i
theorem nbS_ok (s : S) : WkA s (nbS s) := by
  refine ⟨rfl, fun X n A' _ => ?_⟩
  rintro Γ0 a w ⟨Γ, g1, g3, c, hs, hn, hf, hA⟩
  refine ⟨Γ, g1, g3, c.env _, fun i => ?_, hn, hf, hA⟩
  have := hs i
  have e : ((nbS s).wA A').get i = nbV ((s.wA A').get i) := by
    show (look (nbE s.env) i).getD .any = nbV ((look s.env i).getD .any)
    rw [look_nbE]
    cases look s.env i <;> rfl
  rw [e]
  exact nbV_rep this
def fillN (sh : SSh) (A : Key → Option O) (ds : List C) (ms : List Es) : S := nbS (fillS sh A ds ms)
theorem coeP_ok {R : Type} {r : R} {sh : SSh} {s : S} {K : List C → List Es → Option R} (h : coeP sh s K = some r) : ∃ ds ms, K ds ms = some r ∧ WkA s (fillN sh s.A ds ms) := by
  have key : ∃ ds ms, K ds ms = some r ∧ WkA s (fillS sh s.A ds ms) := by
    rw [coeP_eq] at h
    obtain ⟨ds, ms, h1, h2⟩ := coeS_ok h
    have h3 := ((((frzS_ok sh s).trans (vecS_ok sh _)).trans (preS_ok sh _)).trans (emps_ok sh.loc _)).trans (toks_ok sh.env _)
    refine ⟨ds, ms, h1, rfl, fun X n A' hA => ?_⟩
    have := (h3.2 X n A' hA).trans (h2 X n A' (by rw [h3.1]; exact hA))
    exact this
  obtain ⟨ds, ms, h1, h2⟩ := key
  exact ⟨ds, ms, h1, h2.trans (nbS_ok _)⟩
def notN (j : Nat) : List Nat → List Nat
  | [] => []
  | i :: l => if i = j then notN j l else i :: notN j l
def fxS (t j : Nat) (s : S) : S := ⟨envOf s (notN t (slotsOf s.env)), locOf s.loc (notN j (lNums s.loc)) s.loc, s.A, tkOf s (tNums s.tk)⟩
def fxB (t j : Nat) (s : S) : Bool :=
  allKeep (fxS t j s).loc && locOk (hasL (fxS t j s).loc) (hasT (fxS t j s).tk) (fxS t j s).loc && allGB (fxS t j s).loc s.loc && allOkE (hasL (fxS t j s).loc) (hasT (fxS t j s).tk) (fxS t j s).env && !(hasL (fxS t j s).loc j)
def fixS (t : Nat) (s : S) : S :=
  match s.get t with
  | .ptr (.l j) [] τ => (match s.obj (.l j) with
    | some (.box x) => (match closeV x with
      | some cc => if x.ty = τ ∧ fxB t j s = true then (fxS t j s).set (some t) (.cptr τ cc) else s
      | none => s)
    | _ => s)
  | _ => s
def closS (t : Nat) (s : S) : S :=
  match s.get t with
  | .ptr k [] _ => (match s.obj k with
    | some (.box x) => (match x with
      | .d _ _ => s
      | x => (match closeV x with
        | some c => s.put k (.box (.d x.ty c))
        | none => s))
    | _ => s)
  | _ => s
theorem closS_ok (t : Nat) (s : S) : WkA s (closS t s) := by
  unfold closS
  split
  · split
    · rename_i x hx
      split
      · exact WkA.refl s
      · split
        · rename_i c hc
          refine ⟨rfl, fun X n A' hA Γ0 a w hat => ?_⟩
          obtain ⟨Γ, g1, g3, cc, hs, hn, hf, hAok⟩ := hat
          have hin : V.into x (.d x.ty c) := by
            cases x <;> first | exact ⟨hc, rfl⟩ | (simp [closeV] at hc)
          refine ⟨Γ, g1, g3, cc.reput (obj_wA hA hx) (fun hown => ?_) (fun hv => ?_), hs, hn, hf, hAok⟩
          · obtain ⟨b, cells, T, h1, h2, h3, h4, h5, h6, h7, h8⟩ := hown
            exact ⟨b, cells, T, h1, h2, h3, h4, h5, by have := (RepX.into _ _ hin h6).1; simp only [RepX] at this ⊢; exact this, rfl, rfl⟩
          · obtain ⟨e, rfl⟩ := hv
            simp only [closeV, Option.some.injEq] at hc
            subst hc
            exact ⟨e, rfl⟩
        · exact WkA.refl s
    · exact WkA.refl s
  · exact WkA.refl s
def lenS (t : Nat) (s : S) : S :=
  match s.get t with
  | .sr (.l j) [] lo n _ eb e => (match s.obj (.l j) with
    | some (.box (.d (.arr M e') cc)) => if e' = e then ({ s with loc := (.l j, .dead (.arr M e)) :: s.loc } : S).set (some t) (.d (.slice eb e) (.slice ((cc.elems.drop lo).take n))) else s
    | _ => s)
  | _ => s
theorem lenS_ok (t : Nat) (s : S) : WkA s (lenS t s) := by
  unfold lenS
  split
  · rename_i j lo n cp eb e hs
    split
    · rename_i M e' cc ho
      split
      · rename_i he
        subst he
        refine ⟨rfl, fun X n' A' hA Γ0 a w hat => ?_⟩
        obtain ⟨Γ, g1, g3, c, hsl, hn, hf, hAok⟩ := hat
        obtain ⟨Γ', gle, p, c', h⟩ := c.lend (show (s.wA A').obj (.l j) = some (.box (.d (.arr M _) cc)) from ho)
        have hrep := hsl t
        rw [show (s.wA A').get t = _ from hs] at hrep
        have hv := h hrep
        refine ⟨Γ', g1.trans gle, gle.gl.trans g3, conc_set (s := (({ s with loc := (.l j, .dead (.arr M _)) :: s.loc } : S).wA A')) c' (some t) _, fun i => ?_, hn, hf, hAok⟩
        rw [show ((({ s with loc := (.l j, .dead (.arr M _)) :: s.loc } : S).set (some t) (.d (.slice eb _) (.slice ((cc.elems.drop lo).take n)))).wA A').get i = (({ s with loc := (.l j, .dead (.arr M _)) :: s.loc } : S).set (some t) (.d (.slice eb _) (.slice ((cc.elems.drop lo).take n)))).get i from rfl, get_set]
        split
        · rename_i hi
          cases hi
          exact hv
        · exact (hsl i).pres p
      · exact WkA.refl s
    · exact WkA.refl s
  · exact WkA.refl s
def fixL : List (Nat × Nat) → S → S
  | [], s => s
  | (t, m) :: l, s => fixL l (if m = 6 then fixS t s else if m = 16 then closS t s else if m = 17 then lenS (t - 1000000) s else s)
theorem fixS_ok (t : Nat) (s : S) : WkA s (fixS t s) := by
  unfold fixS
  split
  · rename_i j τ hs
    split
    · rename_i x hx
      split
      · rename_i cc hcc
        split
        · rename_i h
          obtain ⟨hτ, h⟩ := h
          simp only [fxB, Bool.and_eq_true, Bool.not_eq_true'] at h
          obtain ⟨⟨⟨⟨h1, h2⟩, h3⟩, h4⟩, h5⟩ := h
          refine ⟨rfl, fun X n A' hA => ?_⟩
          have henv : ∀ l, envOf (s.wA A') l = envOf s l := by
            intro l
            induction l with
            | nil => rfl
            | cons i l ih => simp only [envOf, ih]; rfl
          have htk : ∀ l, tkOf (s.wA A') l = tkOf s l := by
            intro l
            induction l with
            | nil => rfl
            | cons i l ih => simp only [tkOf, ih]; rfl
          exact weak_freeze (s := s.wA A') (s' := (fxS t j s).wA A') hs (obj_wA hA hx) hcc hτ h5 rfl (locW_of (s := s.wA A') _ h1) h2 (allGB_ok h3)
            (by show tkW (s.wA A') (tkOf s (tNums s.tk)); rw [← htk]; exact tkW_of)
            (by
              have h4' : allOkE (hasL (fxS t j s).loc) (hasT (fxS t j s).tk) (envOf (s.wA A') (notN t (slotsOf s.env))) = true := by rw [henv]; exact h4
              have := envW_of h4'
              rw [henv] at this
              exact this)
        · exact WkA.refl s
      · exact WkA.refl s
    · exact WkA.refl s
  · exact WkA.refl s
theorem fixL_ok : ∀ (l : List (Nat × Nat)) (s : S), WkA s (fixL l s)
  | [], s => WkA.refl s
  | (t, m) :: l, s => by
    simp only [fixL]
    split
    · exact (fixS_ok t s).trans (fixL_ok l _)
    · split
      · exact (closS_ok t s).trans (fixL_ok l _)
      · split
        · exact (lenS_ok _ s).trans (fixL_ok l _)
        · exact fixL_ok l s
end Go.E


namespace Go.E
open Go

abbrev KD (R : Type) := List C → List Es → Option R
theorem lid_ex {α : Type} (_ : String) (a : α) : ∃ b, b = a := ⟨a, rfl⟩
noncomputable def lid {α : Type} (n : String) (a : α) : α := Classical.choose (lid_ex n a)
theorem lid_eq {α : Type} (n : String) (a : α) : lid n a = a := Classical.choose_spec (lid_ex n a)
noncomputable def jn {R : Type} : KD R → (KD R → Option R) → Option R := lid "jn" fun k b => b k
theorem jn_eq {R : Type} (k : KD R) (b : KD R → Option R) : jn k b = b k := by unfold jn; rw [lid_eq]
def loop0 {R : Type} : Nat → (KD R → List C → List Es → Option R) → List C → List Es → Option R
  | 0, _, _, _ => none
  | n + 1, F, ds, ms => F (loop0 n F) ds ms
noncomputable def loopK {R : Type} : Nat → (KD R → List C → List Es → Option R) → List C → List Es → Option R := lid "loopK" loop0
theorem loopK_zero {R : Type} (F : KD R → List C → List Es → Option R) (ds : List C) (ms : List Es) : loopK 0 F ds ms = none := by unfold loopK; rw [lid_eq]; rfl
theorem loopK_succ {R : Type} (n : Nat) (F : KD R → List C → List Es → Option R) (ds : List C) (ms : List Es) : loopK (n + 1) F ds ms = F (loopK n F) ds ms := by unfold loopK; rw [lid_eq]; rfl
abbrev Hints := List (List Nat × Hint)
def hintOf : Hints → List Nat → Option Hint
  | [], _ => none
  | (q, h) :: l, p => if q = p then some h else hintOf l p
noncomputable def exJ {R : Type} (h : Option Hint) (s : S) (K : S → Option R) (body : (S → Option R) → Option R) : Option R :=
  match h with
  | none => body K
  | some h => frcSS (mkSh h s) fun sh => jn (fun ds ms => K (fillN sh s.A ds ms)) fun k => body fun s1 => coeP sh s1 k
theorem exJ_ok {R : Type} {r : R} {h : Option Hint} {s : S} {K : S → Option R} {body : (S → Option R) → Option R} {P : S → Prop} {G : Prop} (hP : ∀ s1 s2, P s1 → WkA s1 s2 → P s2) (hA : ∀ s1, P s1 → s1.A = s.A) (hj : exJ h s K body = some r)
    (hb : ∀ k : S → Option R, body k = some r → (∃ s1, k s1 = some r ∧ P s1) ∨ G) : (∃ s2, K s2 = some r ∧ P s2) ∨ G := by
  unfold exJ at hj
  split at hj
  · exact hb _ hj
  · rename_i h'
    rw [frcSS_eq, jn_eq] at hj
    rcases hb _ hj with ⟨s1, h1, h2⟩ | hg
    · obtain ⟨ds, ms, h3, h4⟩ := coeP_ok h1
      rw [hA s1 h2] at h4
      exact .inl ⟨_, h3, hP _ _ h2 h4⟩
    · exact .inr hg
def headTo : Code → Option (List Code × Nat × Code)
  | .seq a b => (match a with
    | .label l => some ([], l, b)
    | a => (match headTo b with
      | some x => some (a :: x.1, x.2)
      | none => none))
  | _ => none
def noLabel (l : Nat) : List Code → Bool
  | [] => true
  | a :: as => (match findLabel a l with
    | some _ => false
    | none => noLabel l as)
theorem headTo_find : ∀ (c : Code) {as : List Code} {r : Code} {l : Nat}, headTo c = some (as, l, r) → noLabel l as = true → findLabel c l = some (.seq .skip r)
  | .seq a b, as, r, l, h, hn => by
    unfold headTo at h
    split at h
    · cases h; simp [findLabel]
    · split at h
      · rename_i x hx
        obtain ⟨as', l', r'⟩ := x
        cases h
        simp only [noLabel] at hn
        simp only [findLabel]
        cases ha : findLabel a l with
        | some y => rw [ha] at hn; cases hn
        | none => rw [ha] at hn; exact headTo_find b hx hn
      · cases h
  | .skip, _, _, _, h, _ | .region _ _ _, _, _, _, h, _ | .cond _ _ _, _, _, _, h, _ | .block _ _, _, _, _, h, _ | .loop _, _, _, _, h, _ | .exit _, _, _, _, h, _ | .scope _, _, _, _, h, _ | .label _, _, _, _, h, _ | .goto _, _, _, _, h, _ | .ret, _, _, _, h, _ | .rangeFunc _ _ _ _, _, _, _, h, _ | .refuse _, _, _, _, h, _ => by simp [headTo] at h
def exSpine {R : Type} (run : List Nat → Code → S → KE R → Option R) : List Code → List Nat → S → (S → Option R) → KE R → Option R
  | [], _, s, k, _ => k s
  | a :: l, p, s, k, K => run (0 :: p) a s fun e s1 => match e with
    | .normal => frc s1 fun s1 => exSpine run l (1 :: p) s1 k K
    | e => K e s1
noncomputable def exC {R : Type} (X : Cx) (call : CallK R) (ext : ExtK) (tbl : Nat → List (Nat × Nat)) (hs : Hints) (N : Nat) (n : Nat) : Nat → List Nat → Code → S → KE R → Option R
  | 0, _, _, _, _ => none
  | f + 1, p, c, s, K => match c with
    | .skip => K .normal s
    | .region id ops draw => exJ (hintOf hs p) (fixL (tbl id) s) (fun s => K .normal s) fun k => ekReg X call ext (tbl id) n ops.toList draw (fixL (tbl id) s) k
    | .seq a b => exC X call ext tbl hs N n f (0 :: p) a s fun e s1 => match e with
        | .normal => frc s1 fun s1 => exC X call ext tbl hs N n f (1 :: p) b s1 K
        | e => K e s1
    | .cond (.tmp t) a b => exJ (hintOf hs p) s (fun s => K .normal s) fun k => (match s.get t with
        | .d .bool c => bif c.toBool then exC X call ext tbl hs N n f (2 :: p) a (s.lit t c true) fun e s1 => (match e with
            | .normal => k s1
            | e => K e s1) else exC X call ext tbl hs N n f (3 :: p) b (s.lit t c false) fun e s1 => (match e with
            | .normal => k s1
            | e => K e s1)
        | _ => none)
    | .block id a => exJ (hintOf hs p) s (fun s => K .normal s) fun k => exC X call ext tbl hs N n f (4 :: p) a s fun e s1 => match e with
          | .exit i => if i = id then k s1 else K (.exit i) s1
          | .normal => k s1
          | e => K e s1
    | .loop a => (match hintOf hs p with
        | none => ekLoop (exC X call ext tbl hs N n f (5 :: p) a) (slotsOf s.env) f s K
        | some h => frcSS (mkSh h s) fun sh => coeP sh s fun ds ms => loopK N (fun rec ds ms => exC X call ext tbl hs N n f (5 :: p) a (fillN sh s.A ds ms) fun e s1 => match e with
            | .normal => coeP sh s1 rec
            | e => K e s1) ds ms)
    | .exit id => K (.exit id) s
    | .scope a => (match hintOf hs p with
        | none => exC X call ext tbl hs N n f (6 :: p) a s fun e s1 => match e with
          | .goto _ => none
          | e => K e s1
        | some h => (match headTo a with
          | some (as, l, rest) => if noLabel l as = true then exSpine (exC X call ext tbl hs N n f) as (6 :: p) s
              (fun s1 => frcSS (mkSh h s1) fun sh => coeP sh s1 fun ds ms => loopK N (fun rec ds ms => exC X call ext tbl hs N n f (7 :: p) rest (fillN sh s1.A ds ms) fun e s2 => match e with
                | .goto l' => if l' = l then coeP sh s2 rec else none
                | e => K e s2) ds ms)
              (fun e s1 => match e with
                | .goto _ => none
                | e => K e s1) else none
          | none => none))
    | .label _ => K .normal s
    | .goto l => K (.goto l) s
    | .ret => K .ret s
    | _ => none
def Way (X : Cx) (n : Nat) (c : Code) (s : S) (e : Exit) (s' : S) : Prop :=
  s'.A = s.A ∧ ∀ A', leA s.A A' → ∀ Ψ : Exit → S → Prop, Ψ e (s'.wA A') → DC X n c (s.wA A') Ψ
theorem Way.weak {X : Cx} {n : Nat} {c : Code} {s s1 s2 : S} {e : Exit} (h : Way X n c s e s1) (hw : WkA s1 s2) : Way X n c s e s2 := by
  refine ⟨hw.1.trans h.1, fun A' hA Ψ hΨ => ?_⟩
  refine (h.2 A' hA (fun e1 s3 => e1 = e ∧ s3 = s1.wA A') ⟨rfl, rfl⟩).post ?_
  rintro e1 s3 ⟨rfl, rfl⟩
  exact ⟨_, hw.2 X n A' (by rw [h.1]; exact hA), hΨ⟩
section
variable {X : Cx} {R : Type} {call : CallK R} {ext : ExtK} (hP : allOk X.P = true) (hmo : X.P.follows .mixedOrders = true) (hc : CallKOk X call) (he : ExtKOk X ext)
theorem loopK_ex {c : Code} {n : Nat} {sh : SSh} {A0 : Key → Option O} {body : S → KE R → Option R} {K : KE R} {r : R} (hb : ∀ s (K : KE R), body s K = some r → Goes X n c s r K) :
    ∀ (N : Nat) (ds : List C) (ms : List Es), loopK N (fun rec ds ms => body (fillN sh A0 ds ms) fun e s1 => match e with
            | .normal => coeP sh s1 rec
            | e => K e s1) ds ms = some r → ∃ e s', K e s' = some r ∧ s'.A = A0 ∧ ∀ A', leA A0 A' → ∀ Ψ : Exit → S → Prop, Ψ e (s'.wA A') → ∀ (Γ0 : G) (a : Act) (w : World), At X n Γ0 ((fillN sh A0 ds ms).wA A') a w → Code.rounds X.P c (fun e a w => ∃ s', Ψ e s' ∧ At X n Γ0 s' a w) N a w
  | 0, ds, ms, h => by simp [loopK_zero] at h
  | N + 1, ds, ms, h => by
    simp only [loopK_succ] at h
    obtain ⟨e0, s1, h1, hA1, hD⟩ := hb _ _ h
    have hother : ∀ (hne : e0 ≠ .normal), K e0 s1 = some r → ∃ e s', K e s' = some r ∧ s'.A = A0 ∧ ∀ A', leA A0 A' → ∀ Ψ : Exit → S → Prop, Ψ e (s'.wA A') → ∀ (Γ0 : G) (a : Act) (w : World), At X n Γ0 ((fillN sh A0 ds ms).wA A') a w → Code.rounds X.P c (fun e a w => ∃ s', Ψ e s' ∧ At X n Γ0 s' a w) (N + 1) a w := by
      intro hne h1
      refine ⟨e0, s1, h1, hA1, fun A' hA Ψ hΨ Γ0 a w hat => ?_⟩
      rw [rounds_succ]
      refine wp_mono (hD A' hA (fun e1 s2 => e1 = e0 ∧ s2 = s1.wA A') ⟨rfl, rfl⟩ Γ0 a w hat) ?_
      rintro e1 a1 w1 ⟨s2, ⟨rfl, rfl⟩, hat1⟩
      cases e1 with
      | normal => exact absurd rfl hne
      | exit _ | goto _ | ret | panic _ | outgrown => exact ⟨_, hΨ, hat1⟩
    cases e0 with
    | normal =>
      obtain ⟨ds', ms', h3, hw⟩ := coeP_ok h1
      rw [show s1.A = A0 from hA1] at hw
      obtain ⟨e, s', h4, h5, h6⟩ := loopK_ex hb N ds' ms' h3
      refine ⟨e, s', h4, h5, fun A' hA Ψ hΨ Γ0 a w hat => ?_⟩
      rw [rounds_succ]
      refine wp_mono (hD A' hA (fun e1 s2 => e1 = .normal ∧ s2 = s1.wA A') ⟨rfl, rfl⟩ Γ0 a w hat) ?_
      rintro e1 a1 w1 ⟨s2, ⟨rfl, rfl⟩, hat1⟩
      exact h6 A' hA Ψ hΨ Γ0 a1 w1 (hw.2 X n A' (by rw [show s1.A = A0 from hA1]; exact hA) Γ0 a1 w1 hat1)
    | exit _ | goto _ | ret | panic _ | outgrown => exact hother (by simp) h1
theorem exSpine_ex {n : Nat} {r : R} {run : List Nat → Code → S → KE R → Option R} (hrun : ∀ p c s (K : KE R), run p c s K = some r → Goes X n c s r K) : ∀ (as : List Code) (p : List Nat) (s : S) (k : S → Option R) (K : KE R), exSpine run as p s k K = some r →
    (∃ s1, k s1 = some r ∧ s1.A = s.A ∧ ∀ c l rest, headTo c = some (as, l, rest) → ∀ A', leA s.A A' → ∀ Ψ : Exit → S → Prop, DC X n rest (s1.wA A') Ψ → DC X n c (s.wA A') Ψ) ∨
    (∃ e s1, e ≠ .normal ∧ K e s1 = some r ∧ s1.A = s.A ∧ ∀ c l rest, headTo c = some (as, l, rest) → ∀ A', leA s.A A' → ∀ Ψ : Exit → S → Prop, Ψ e (s1.wA A') → DC X n c (s.wA A') Ψ)
  | [], p, s, k, K, h => by
    refine .inl ⟨s, h, rfl, fun c l rest hc A' hA Ψ hd => ?_⟩
    cases c <;> simp only [headTo, reduceCtorEq] at hc
    rename_i a b
    split at hc
    · cases hc
      exact dc_seq (dc_label hd)
    · split at hc
      · cases hc
      · cases hc
  | a :: as, p, s, k, K, h => by
    simp only [exSpine] at h
    obtain ⟨e, s1, h1, a1, d1⟩ := hrun _ _ _ _ h
    have inv : ∀ c l rest, headTo c = some (a :: as, l, rest) → ∃ b, c = .seq a b ∧ headTo b = some (as, l, rest) := by
      intro c l rest hc
      cases c <;> simp only [headTo, reduceCtorEq] at hc
      split at hc
      · cases hc
      · split at hc
        · rename_i x hx
          obtain ⟨x1, x2⟩ := x
          cases hc
          exact ⟨_, rfl, hx⟩
        · cases hc
    cases e with
    | normal =>
      rcases exSpine_ex hrun as (1 :: p) s1 k K (by dsimp only at h1; rw [frc_eq] at h1; exact h1) with ⟨s2, h2, a2, d2⟩ | ⟨e, s2, hne, h2, a2, d2⟩
      · refine .inl ⟨s2, h2, a2.trans a1, fun c l rest hc A' hA Ψ hd => ?_⟩
        obtain ⟨b, rfl, hb⟩ := inv c l rest hc
        exact dc_seq (d1 A' hA _ (d2 b l rest hb A' (by rw [a1]; exact hA) Ψ hd))
      · refine .inr ⟨e, s2, hne, h2, a2.trans a1, fun c l rest hc A' hA Ψ hd => ?_⟩
        obtain ⟨b, rfl, hb⟩ := inv c l rest hc
        exact dc_seq (d1 A' hA _ (d2 b l rest hb A' (by rw [a1]; exact hA) Ψ hd))
    | exit _ | goto _ | ret | panic _ | outgrown =>
      refine .inr ⟨_, s1, by simp, h1, a1, fun c l rest hc A' hA Ψ hd => ?_⟩
      obtain ⟨b, rfl, hb⟩ := inv c l rest hc
      exact dc_seq (d1 A' hA _ hd)
def Ends (X : Cx) (n : Nat) (l : Nat) (rest : Code) (sh : SSh) (A0 : Key → Option O) (e : Exit) (s' : S) : Nat → List C → List Es → Prop
  | 0, _, _ => False
  | m + 1, ds, ms => ∃ e2 s2, Way X n rest (fillN sh A0 ds ms) e2 s2 ∧ ((e2 = .goto l ∧ ∃ ds' ms', WkA s2 (fillN sh A0 ds' ms') ∧ Ends X n l rest sh A0 e s' m ds' ms') ∨ ((∀ l', e2 ≠ .goto l') ∧ e2 = e ∧ s2 = s'))
theorem scopeK_ex {n l : Nat} {rest : Code} {sh : SSh} {A0 : Key → Option O} {body : S → KE R → Option R} {K : KE R} {r : R} (hb : ∀ s (K : KE R), body s K = some r → Goes X n rest s r K) :
    ∀ (N : Nat) (ds : List C) (ms : List Es), loopK N (fun rec ds ms => body (fillN sh A0 ds ms) fun e s2 => match e with
            | .goto l' => if l' = l then coeP sh s2 rec else none
            | e => K e s2) ds ms = some r → ∃ e s', K e s' = some r ∧ s'.A = A0 ∧ (∀ l', e ≠ .goto l') ∧ Ends X n l rest sh A0 e s' N ds ms
  | 0, ds, ms, h => by simp [loopK_zero] at h
  | N + 1, ds, ms, h => by
    rw [loopK_succ] at h
    obtain ⟨e0, s1, h1, a1, d1⟩ := hb _ _ h
    have a1 : s1.A = A0 := a1
    cases e0 with
    | goto l' =>
      dsimp only at h1
      by_cases hl : l' = l
      · rw [if_pos hl] at h1
        subst hl
        obtain ⟨ds', ms', h2, hw⟩ := coeP_ok h1
        rw [a1] at hw
        obtain ⟨e, s', h3, h4, h5, h6⟩ := scopeK_ex hb N ds' ms' h2
        exact ⟨e, s', h3, h4, h5, _, s1, ⟨a1, d1⟩, .inl ⟨rfl, ds', ms', hw, h6⟩⟩
      · rw [if_neg hl] at h1; cases h1
    | normal | exit _ | ret | panic _ | outgrown =>
      exact ⟨_, s1, h1, a1, by simp, _, s1, ⟨a1, d1⟩, .inr ⟨by simp, rfl, rfl⟩⟩
theorem scope_dc {n l : Nat} {c rest : Code} {sh : SSh} {A0 : Key → Option O} {e : Exit} {s' : S} (hf : findLabel c l = some (.seq .skip rest)) {N : Nat} {ds : List C} {ms : List Es} (hE : Ends X n l rest sh A0 e s' N ds ms) {A' : Key → Option O} (hA : leA A0 A') {s0 : S}
    (first : ∀ Ψ : Exit → S → Prop, DC X n rest ((fillN sh A0 ds ms).wA A') Ψ → DC X n c s0 Ψ) {Ψ : Exit → S → Prop} (hΨ : Ψ e (s'.wA A')) : DC X n (.scope c) s0 Ψ := by
  have pass : ∀ i : { x : Nat × List C × List Es // Ends X n l rest sh A0 e s' x.1 x.2.1 x.2.2 }, DC X n rest ((fillN sh A0 i.1.2.1 i.1.2.2).wA A') fun e2 s2 => match e2 with
      | .goto l' => l' = l ∧ ∃ j : { x : Nat × List C × List Es // Ends X n l rest sh A0 e s' x.1 x.2.1 x.2.2 }, Weak X n s2 ((fillN sh A0 j.1.2.1 j.1.2.2).wA A') ∧ j.1.1 < i.1.1
      | e2 => Ψ e2 s2 := by
    rintro ⟨⟨m, ds, ms⟩, h⟩
    cases m with
    | zero => exact h.elim
    | succ m =>
      obtain ⟨e2, s2, hw, h1⟩ := h
      refine hw.2 A' hA _ ?_
      rcases h1 with ⟨rfl, ds', ms', hwk, hE'⟩ | ⟨hne, rfl, rfl⟩
      · exact ⟨rfl, ⟨⟨m, ds', ms'⟩, hE'⟩, hwk.2 X n A' (by rw [hw.1]; exact hA), Nat.lt_succ_self m⟩
      · cases e2 with
        | goto l' => exact absurd rfl (hne l')
        | normal | exit _ | ret | panic _ | outgrown => exact hΨ
  refine dc_scope l hf (fun i => (fillN sh A0 i.1.2.1 i.1.2.2).wA A') (fun i => i.1.1) ?_ (fun i => dc_seq (dc_skip (pass i)))
  refine first _ ((pass ⟨⟨N, ds, ms⟩, hE⟩).post ?_)
  intro e2 s2 h
  refine ⟨s2, Weak.refl _, ?_⟩
  cases e2 with
  | goto l' => exact ⟨h.1, h.2.choose, h.2.choose_spec.1⟩
  | normal | exit _ | ret | panic _ | outgrown => exact h
include hP hmo hc he
theorem exC_ex {tbl : Nat → List (Nat × Nat)} {hs : Hints} {N n : Nat} {r : R} : ∀ (f : Nat) (p : List Nat) (c : Code) (s : S) (K : KE R), exC X call ext tbl hs N n f p c s K = some r → Goes X n c s r K
  | 0, p, c, s, K, h => by simp [exC] at h
  | f + 1, p, c, s, K, h => by
    have IH := exC_ex (tbl := tbl) (hs := hs) (N := N) (n := n) (r := r) f
    cases c with
    | skip => exact ⟨_, _, h, rfl, fun A' hA Ψ hΨ => dc_skip hΨ⟩
    | region id ops draw =>
      simp only [exC] at h
      have hw := fixL_ok (tbl id) s
      have := exJ_ok (P := fun s1 => Way X n (.region id ops draw) (fixL (tbl id) s) .normal s1) (G := False) (fun s1 s2 h1 h2 => h1.weak h2) (fun s1 h => h.1) h fun k hk => by
        obtain ⟨s', h1, h2, h3⟩ := ekReg_ex hP hmo hc he (id := id) hk
        refine .inl ⟨s', h1, h2, fun A' hA Ψ hΨ => ?_⟩
        have := h3 A' hA Ψ hΨ
        simpa using this
      rcases this with ⟨s2, h1, h2⟩ | h
      · exact ⟨_, s2, h1, h2.1.trans hw.1, fun A' hA Ψ hΨ => DC.weak (hw.2 X n A' hA) (h2.2 A' (by rw [hw.1]; exact hA) Ψ hΨ)⟩
      · exact h.elim
    | seq c1 c2 =>
      simp only [exC] at h
      obtain ⟨e0, s1, h1, a1, d1⟩ := IH _ c1 s _ h
      cases e0 with
      | normal =>
        obtain ⟨e2, s2, h2, a2, d2⟩ := IH (1 :: p) c2 s1 K (by dsimp only at h1; rw [frc_eq] at h1; exact h1)
        exact ⟨e2, s2, h2, a2.trans a1, fun A' hA Ψ hΨ => dc_seq (d1 A' hA _ (d2 A' (by rw [a1]; exact hA) Ψ hΨ))⟩
      | exit _ | goto _ | ret | panic _ | outgrown => exact ⟨_, s1, h1, a1, fun A' hA Ψ hΨ => dc_seq (d1 A' hA _ hΨ)⟩
    | cond t c1 c2 =>
      cases t with
      | tmp t =>
        simp only [exC] at h
        have := exJ_ok (P := fun s1 => Way X n (.cond (.tmp t) c1 c2) s .normal s1) (G := Goes X n (.cond (.tmp t) c1 c2) s r K) (fun s1 s2 h1 h2 => h1.weak h2) (fun s1 h => h.1) h fun k hk => by
          split at hk
          · rename_i v hv
            cases hb : v.toBool with
            | true =>
              rw [hb] at hk
              simp only [cond_true] at hk
              rw [lit_eq hv hb] at hk
              obtain ⟨e2, s2, h2, a2, d2⟩ := IH _ c1 s _ hk
              have w2 : Way X n (.cond (.tmp t) c1 c2) s e2 s2 := ⟨a2, fun A' hA Ψ hΨ => dc_condC hv (fun _ => d2 A' hA Ψ hΨ) (fun h => by rw [hb] at h; cases h)⟩
              cases e2 with
              | normal => exact .inl ⟨s2, h2, w2⟩
              | exit _ | goto _ | ret | panic _ | outgrown => exact .inr ⟨_, s2, h2, w2⟩
            | false =>
              rw [hb] at hk
              simp only [cond_false] at hk
              rw [lit_eq hv hb] at hk
              obtain ⟨e2, s2, h2, a2, d2⟩ := IH _ c2 s _ hk
              have w2 : Way X n (.cond (.tmp t) c1 c2) s e2 s2 := ⟨a2, fun A' hA Ψ hΨ => dc_condC hv (fun h => by rw [hb] at h; cases h) (fun _ => d2 A' hA Ψ hΨ)⟩
              cases e2 with
              | normal => exact .inl ⟨s2, h2, w2⟩
              | exit _ | goto _ | ret | panic _ | outgrown => exact .inr ⟨_, s2, h2, w2⟩
          · cases hk
        rcases this with ⟨s2, h1, h2⟩ | h
        · exact ⟨_, s2, h1, h2⟩
        · exact h
      | const _ | global _ | func _ => simp [exC] at h
    | block id c1 =>
      simp only [exC] at h
      have := exJ_ok (P := fun s1 => Way X n (.block id c1) s .normal s1) (G := Goes X n (.block id c1) s r K) (fun s1 s2 h1 h2 => h1.weak h2) (fun s1 h => h.1) h fun k hk => by
        obtain ⟨e0, s1, h1, a1, d1⟩ := IH _ c1 s _ hk
        cases e0 with
        | exit i =>
          dsimp only at h1
          by_cases hi : i = id
          · rw [if_pos hi] at h1
            refine .inl ⟨s1, h1, a1, fun A' hA Ψ hΨ => dc_block (d1 A' hA _ ?_)⟩
            simp only
            rw [if_pos hi]; exact hΨ
          · rw [if_neg hi] at h1
            refine .inr ⟨_, s1, h1, a1, fun A' hA Ψ hΨ => dc_block (d1 A' hA _ ?_)⟩
            simp only
            rw [if_neg hi]; exact hΨ
        | normal => exact .inl ⟨s1, h1, a1, fun A' hA Ψ hΨ => dc_block (d1 A' hA _ hΨ)⟩
        | goto _ | ret | panic _ | outgrown => exact .inr ⟨_, s1, h1, a1, fun A' hA Ψ hΨ => dc_block (d1 A' hA _ hΨ)⟩
      rcases this with ⟨s2, h1, h2⟩ | h
      · exact ⟨_, s2, h1, h2⟩
      · exact h
    | loop c1 =>
      simp only [exC] at h
      split at h
      · obtain ⟨e, s', h1, h2, h3⟩ := ekLoop_ex (fun s K h => IH _ c1 s K h) f s K h
        exact ⟨e, s', h1, h2, fun A' hA Ψ hΨ Γ0 a w hat => wp_loop_rounds f (h3 A' hA Ψ hΨ Γ0 a w hat)⟩
      · rename_i hh
        rw [frcSS_eq] at h
        obtain ⟨ds, ms, h1, hw⟩ := coeP_ok h
        obtain ⟨e, s', h4, h5, h6⟩ := loopK_ex (c := c1) (body := exC X call ext tbl hs N n f (5 :: p) c1) (fun s K h => IH _ c1 s K h) N ds ms h1
        exact ⟨e, s', h4, h5, fun A' hA Ψ hΨ Γ0 a w hat => wp_loop_rounds N (h6 A' hA Ψ hΨ Γ0 a w (hw.2 X n A' hA Γ0 a w hat))⟩
    | exit id => exact ⟨_, _, h, rfl, fun A' hA Ψ hΨ => dc_exit hΨ⟩
    | scope c1 =>
      simp only [exC] at h
      split at h
      · obtain ⟨e0, s1, h1, a1, d1⟩ := IH _ c1 s _ h
        cases e0 with
        | goto i => cases h1
        | normal | exit _ | ret | panic _ | outgrown => exact ⟨_, s1, h1, a1, fun A' hA Ψ hΨ => dc_scope_straight (d1 A' hA _ hΨ)⟩
      · rename_i hh _
        split at h
        · rename_i as l rest hd
          simp only [Option.ite_none_right_eq_some] at h
          obtain ⟨hnl, h⟩ := h
          rcases exSpine_ex (fun p c s K h => IH p c s K h) as _ s _ _ h with ⟨s1, h1, a1, d1⟩ | ⟨e, s1, hne, h1, a1, d1⟩
          · rw [frcSS_eq] at h1
            obtain ⟨ds, ms, h2, hw⟩ := coeP_ok h1
            obtain ⟨e, s', h3, h4, h5, h6⟩ := scopeK_ex (rest := rest) (body := exC X call ext tbl hs N n f (7 :: p) rest) (fun s K h => IH _ rest s K h) N ds ms h2
            refine ⟨e, s', h3, h4.trans a1, fun A' hA Ψ hΨ => ?_⟩
            exact scope_dc (headTo_find _ hd hnl) h6 (by rw [a1]; exact hA) (fun Ψ' hd' => d1 c1 l rest hd A' hA Ψ' (DC.weak (hw.2 X n A' (by rw [a1]; exact hA)) hd')) hΨ
          · cases e with
            | goto i => cases h1
            | normal | exit _ | ret | panic _ | outgrown => exact ⟨_, s1, h1, a1, fun A' hA Ψ hΨ => dc_scope_straight (d1 c1 l rest hd A' hA _ hΨ)⟩
        · cases h
    | label _ => exact ⟨_, _, h, rfl, fun A' hA Ψ hΨ => dc_label hΨ⟩
    | goto _ => exact ⟨_, _, h, rfl, fun A' hA Ψ hΨ => dc_goto hΨ⟩
    | ret => exact ⟨_, _, h, rfl, fun A' hA Ψ hΨ => dc_ret hΨ⟩
    | rangeFunc _ _ _ _ => simp [exC] at h
    | refuse _ => simp [exC] at h
end
noncomputable def exF {R : Type} (X : Cx) (ov : OvK R) (ext : ExtK) (tbl : FuncId → Nat → List (Nat × Nat)) (hs : FuncId → Hints) (N fuel : Nat) : Nat → CallK R
  | 0, _, _, _, _ => none
  | d + 1, f, xs, A, K => match ov f with
    | some g => g xs A K
    | none => (match X.P.funcs[f]? with
      | some fn => (match fn.body with
        | some c => if xs.length ≤ fn.ntmps then exJ (hintOf (hs f) [9]) (S.start xs A) (fun s => ekRet X fn s K) fun k => exC X (exF X ov ext tbl hs N fuel d) ext (tbl f) (hs f) N fn.ntmps fuel [] c (nbS (S.start xs A)) fun e s => (match e with
              | .normal => k s
              | .ret => k s
              | _ => none) else none
        | none => none)
      | none => none)
section
variable {X : Cx} {R : Type} {ov : OvK R} {ext : ExtK} (hP : allOk X.P = true) (hmo : X.P.follows .mixedOrders = true) (hov : OvKOk X ov) (he : ExtKOk X ext)
include hP hmo hov he
theorem exF_ok {tbl : FuncId → Nat → List (Nat × Nat)} {hs : FuncId → Hints} {N fuel : Nat} : ∀ d, CallKOk X (exF X ov ext tbl hs N fuel d)
  | 0 => by intro f xs A K r h; simp [exF] at h
  | d + 1 => by
    intro f xs A K r h
    simp only [exF] at h
    split at h
    · rename_i g hg
      exact hov f g hg xs A K r h
    split at h
    · rename_i fn hf
      split at h
      · rename_i c hb
        simp only [Option.ite_none_right_eq_some] at h
        obtain ⟨hl, h⟩ := h
        have := exJ_ok (P := fun s1 => ∃ e : Exit, (e = .normal ∨ e = .ret) ∧ Way X fn.ntmps c (S.start xs A) e s1) (G := False) (fun s1 s2 ⟨e, h1, h2⟩ h3 => ⟨e, h1, h2.weak h3⟩) (fun s1 ⟨e, _, h⟩ => h.1) h fun k hk => by
          obtain ⟨e, s', h1, h2⟩ := exC_ex hP hmo (exF_ok d) he fuel [] c (nbS (S.start xs A)) _ hk
          have h2 : Way X fn.ntmps c (S.start xs A) e s' := ⟨h2.1, fun A' hA Ψ hΨ => DC.weak ((nbS_ok (S.start xs A)).2 X fn.ntmps A' hA) (h2.2 A' hA Ψ hΨ)⟩
          cases e with
          | normal => exact .inl ⟨s', h1, _, .inl rfl, h2⟩
          | ret => exact .inl ⟨s', h1, _, .inr rfl, h2⟩
          | exit _ | goto _ | panic _ | outgrown => cases h1
        rcases this with ⟨s', h1, e, he', h2, h3⟩ | h
        · obtain ⟨v, L, h4, h5⟩ := ekRet_ex h1
          refine ⟨v, L, dcalls_intro hP hf hb rfl hl fun A' hA => ?_, h4⟩
          exact h3 A' hA (fun e s' => (e = .normal ∨ e = .ret) ∧ retOk X fn A' v L s') ⟨he', h5 A' (by rw [h2]; exact hA)⟩
        · exact h.elim
      · cases h
    · cases h
end
end Go.E


namespace Go.E
open Go

def swapK (a b k : Key) : Key := if k = a then b else if k = b then a else k
theorem swapK_swapK (a b k : Key) : swapK a b (swapK a b k) = k := by
  unfold swapK
  by_cases h1 : k = a
  · subst h1
    rw [if_pos rfl]
    by_cases h2 : b = k
    · rw [if_pos h2]; exact h2
    · rw [if_neg h2, if_pos rfl]
  · rw [if_neg h1]
    by_cases h2 : k = b
    · subst h2; rw [if_pos rfl, if_pos rfl]
    · rw [if_neg h2, if_neg h1, if_neg h2]
def swU (a b : Key) : Key → Key
  | .g k => .g (swapK a b k)
  | .l n => .l n
theorem swU_swU (a b k : Key) : swU a b (swU a b k) = k := by
  cases k <;> simp [swU, swapK_swapK]
def Tip.renT (ρ : Key → Key) : Tip → Tip
  | .tok t => .tok t
  | .home k p => .home (ρ k) p
def G.perm (Γ : G) (ρ : Key → Key) : G := { Γ with ι := fun k => Γ.ι (ρ k), κ := fun b => (Γ.κ b).map fun p => (p.1.renT ρ, p.2) }
def permA (a b : Key) (A : Key → Option O) : Key → Option O := fun k => (A (swapK a b k)).map (O.ren (swU a b))
theorem permA_permA (a b : Key) (A : Key → Option O) : permA a b (permA a b A) = A := by
  funext k
  unfold permA
  rw [swapK_swapK]
  cases A k with
  | none => rfl
  | some o => simp [O.ren_ren _ _ (swU_swU a b)]
def permL (a b : Key) (L : List (Key × O)) : List (Key × O) := L.map fun p => (swU a b p.1, p.2.ren (swU a b))
theorem look_permL (a b : Key) : ∀ (L : List (Key × O)) (k : Key), lookK (permL a b L) k = (lookK L (swU a b k)).map (O.ren (swU a b))
  | [], _ => rfl
  | (j, o) :: L, k => by
    show (if swU a b j = k then some (o.ren (swU a b)) else lookK (permL a b L) k) = (if j = swU a b k then some o else lookK L (swU a b k)).map (O.ren (swU a b))
    by_cases h : j = swU a b k
    · have : swU a b j = k := by rw [h, swU_swU]
      rw [if_pos this, if_pos h]; rfl
    · have : swU a b j ≠ k := fun e => h (by rw [← e, swU_swU])
      rw [if_neg this, if_neg h]; exact look_permL a b L k
theorem Conc.perm {Γ : G} {w : World} {s s' : S} {ρ : Key → Key} (c : Conc Γ w s) (hρ : ∀ k, ρ (ρ k) = k) (ho : ∀ k, s'.obj k = (s.obj (ρ k)).map (O.ren ρ)) (hl : ∀ t, s'.live t = s.live t) (hk : ∀ t, s.known t = true → s'.known t = true) : Conc (Γ.perm ρ) w s' := by
  have pr : ∀ hm, PresR Γ (Γ.perm ρ) ρ hm := fun hm => ⟨Hp.le_refl _, fun k x h => by simp [G.perm, hρ, h], fun _ _ h => h, fun k b p sz _ h => ⟨by simp [G.perm, h, Tip.renT], rfl⟩⟩
  have hd : ∀ k, s.deadK (ρ k) = true → s'.deadK k = true := fun k h => by
    unfold S.deadK at h ⊢
    rw [ho]
    cases hs : s.obj (ρ k) with
    | none => rw [hs] at h; cases h
    | some o => rw [hs] at h; simpa [deadO, O.ren_isDead] using h
  refine ⟨c.hH, c.hZ, fun b o sz h => ?_, fun k o h => ?_, fun k h => ?_, fun k k' b τ τ' h1 h2 => ?_, fun t L h => ?_, fun t ht => hk t (c.tdom t ht), c.hgl, c.hoo, c.hσ⟩
  · cases hb : Γ.κ b with
    | none => simp [G.perm, hb] at h
    | some p =>
      obtain ⟨t, sz'⟩ := p
      simp [G.perm, hb] at h
      obtain ⟨rfl, rfl⟩ := h
      obtain ⟨a1, a2, arr, T, a3, a4, a5⟩ := c.hκ b t sz' hb
      exact ⟨a1, a2, arr, T, a3, a4, by cases t with
        | tok => trivial
        | home _ p => cases p <;> exact a5⟩
  · rw [ho] at h
    cases hs : s.obj (ρ k) with
    | none => rw [hs] at h; cases h
    | some o0 =>
      rw [hs] at h; cases h
      refine (c.obj (ρ k) o0 hs).imp (fun h => ⟨h.1, O.virt_ren h.2⟩) fun hown => ?_
      have := Own.ren (pr _) (w' := w) (fun hd b τ hb => by
        obtain ⟨e1, e2, _⟩ := c.ιlive hb hs hd
        exact ⟨rfl, e1, e2⟩) (Nat.le_refl _) hown
      rw [hρ] at this
      exact this
  · rw [ho]
    have := c.dom (ρ k) h
    cases hs : s.obj (ρ k) with
    | none => exact absurd hs this
    | some o => simp
  · refine (c.inj (ρ k) (ρ k') b τ τ' h1 h2).imp (fun e => by rw [← hρ k, e, hρ]) (And.imp (Or.imp (hd k) (hd k')) id)
  · rw [hl] at h
    obtain ⟨x, h1, h2⟩ := c.tok t L h
    refine ⟨x, h1, fun b pos sz hx => ?_⟩
    obtain ⟨h3, h4⟩ := h2 b pos sz hx
    exact ⟨h3, by simp [G.perm, h4, Tip.renT]⟩
def renU (a b : Key) (x : V) : V := x.ren (swU a b) id
theorem renU_renU (a b : Key) (x : V) : renU a b (renU a b x) = x := V.ren_ren _ _ (swU_swU a b) x
theorem renU_tkOf (a b : Key) (n : Nat) (x : V) : (renU a b x).tkOf n = x.tkOf n := by cases x <;> simp [renU, V.ren, V.tkOf]
theorem renU_slot (a b : Key) (n : Nat) (x : V) : (renU a b x).slot n = renU a b (x.slot n) := by cases x <;> simp [renU, V.ren, V.slot]
theorem tksOf_renU (a b : Key) : ∀ (n : Nat) (xs : List V), tksOf n (xs.map (renU a b)) = tksOf n xs
  | _, [] => rfl
  | n, x :: xs => by simp only [List.map_cons, tksOf, renU_tkOf, tksOf_renU a b (n + 1) xs]
theorem slots_renU (a b : Key) : ∀ (n : Nat) (xs : List V), slots n (xs.map (renU a b)) = (slots n xs).map (renU a b)
  | _, [] => rfl
  | n, x :: xs => by simp only [List.map_cons, slots, renU_slot, slots_renU a b (n + 1) xs]
theorem rens_map (a b : Key) : ∀ (xs : List V), V.rens (swU a b) id xs = xs.map (renU a b)
  | [] => rfl
  | x :: xs => by simp only [V.rens, List.map_cons, rens_map a b xs]; rfl
theorem renU_tup (a b : Key) (xs : List V) : renU a b (.tup xs) = .tup (xs.map (renU a b)) := by
  simp only [renU, V.ren, rens_map]
theorem renU_slotR (a b : Key) (n : Nat) (x : V) : (renU a b x).slotR n = renU a b (x.slotR n) := by
  cases x with
  | tup xs => rw [renU_tup]; simp only [V.slotR]; rw [slots_renU, renU_tup]
  | nilc => rfl
  | d | sl | ts | emp | ptr | cptr | sr | mp | agg | fn | top | any => simp [renU, V.ren, V.slotR, V.slot]
theorem renU_tkR (a b : Key) (n : Nat) (x : V) : (renU a b x).tkR n = x.tkR n := by
  cases x with
  | tup xs => rw [renU_tup]; simp only [V.tkR]; exact tksOf_renU a b n xs
  | nilc => rfl
  | d | sl | ts | emp | ptr | cptr | sr | mp | agg | fn | top | any => simp [renU, V.ren, V.tkR, V.tkOf]
theorem O.ok_renU (a b : Key) {o : O} (h : o.ok none0 none0 = true) : (o.ren (swU a b)).ok none0 none0 = true := by
  have key : (∀ x : V, x.ok none0 none0 = true → (x.ren (swU a b) id).ok none0 none0 = true) := by
    intro x
    induction x using V.rec (motive_2 := fun xs => V.oks none0 none0 xs = true → V.oks none0 none0 (V.rens (swU a b) id xs) = true) with
    | ptr k q τ => intro h; cases k <;> simp [V.ok, V.ren, swU, none0] at h ⊢
    | sr k q lo n cp eb e => intro h; cases k <;> simp [V.ok, V.ren, swU, none0] at h ⊢
    | mp k => intro h; cases k <;> simp [V.ok, V.ren, swU, none0] at h ⊢
    | sl => intro h; simp [V.ok, none0] at h
    | agg τ vs ih => intro h; simp only [V.ok, V.ren] at h ⊢; exact ih h
    | fn f vs ih => intro h; simp only [V.ok, V.ren] at h ⊢; exact ih h
    | tup vs ih => intro h; simp only [V.ok, V.ren] at h ⊢; exact ih h
    | nil => simp only [V.rens, V.oks]
    | cons x xs ih1 ih2 h =>
      simp only [V.oks, Bool.and_eq_true] at h
      simp only [V.rens, V.oks, Bool.and_eq_true]
      exact ⟨ih1 h.1, ih2 h.2⟩
    | _ => intro _; simp only [V.ren, V.ok]
  cases o with
  | box x => exact key x h
  | map kτ vτ es =>
    simp only [O.ren, O.ok] at h ⊢
    induction es with
    | nil => rfl
    | cons c es ih =>
      simp only [V.oksM, Bool.and_eq_true] at h
      simp only [List.map_cons, V.oksM, Bool.and_eq_true]
      exact ⟨key _ h.1, ih h.2⟩
  | it => rfl
  | dead => rfl
theorem DCalls.swap {X : Cx} {f : FuncId} {xs : List V} {A : Key → Option O} {v : V} {L : List (Key × O)} (a b : Key) (D : DCalls X f xs A v L) :
    DCalls X f (xs.map (renU a b)) (permA a b A) (renU a b v) (permL a b L) := by
  intro A' Γ w args hA hgl ⟨c, hok⟩ hlen hr
  have hxs : (xs.map (renU a b)).map (renU a b) = xs := by
    rw [List.map_map]
    exact (List.map_congr_left (g := id) fun x _ => renU_renU a b x).trans (List.map_id _)
  have hA' : ∀ k o, A k = some o → permA a b A' k = some o := by
    intro k o h
    have h1 : permA a b A (swapK a b k) = some (o.ren (swU a b)) := by simp [permA, swapK_swapK, h]
    have h2 := hA _ _ h1
    simp [permA, h2, O.ren_ren _ _ (swU_swU a b)]
  have hobj : ∀ k, S.obj (S.start xs (permA a b A')) k = (S.obj (S.start (xs.map (renU a b)) A') (swU a b k)).map (O.ren (swU a b)) := by
    intro k
    cases k with
    | l n => rfl
    | g k => simp [S.start, S.obj, objOf, lookK, swU, permA]
  have c1 := c.perm (s' := S.start xs (permA a b A')) (swU_swU a b) hobj (fun t => by simp only [S.start, S.live, tksOf_renU]) (fun t h => by simpa only [S.start, S.known, tksOf_renU] using h)
  have hok1 : AOk (permA a b A') := by
    intro k o h
    unfold permA at h
    cases hk : A' (swapK a b k) with
    | none => rw [hk] at h; cases h
    | some o0 => rw [hk] at h; cases h; exact O.ok_renU a b (hok _ _ hk)
  have pr : PresR Γ (Γ.perm (swU a b)) (swU a b) none := ⟨Hp.le_refl _, fun k x h => by simp [G.perm, swU_swU, h], fun _ _ h => h, fun k _ _ _ h => by cases h⟩
  refine (D (permA a b A') (Γ.perm (swU a b)) w args hA' hgl ⟨c1, hok1⟩ (by simpa using hlen) fun i x u hx hu => ?_).mono ?_
  · have h1 : (slots 1000 (xs.map (renU a b)))[i]? = some (renU a b x) := by rw [slots_renU, List.getElem?_map, hx]; rfl
    have := (hr i _ u h1 hu).ren (θ := id) pr (fun _ _ h => h)
    have e : V.ren (swU a b) id (renU a b x) = x := renU_renU a b x
    rwa [e] at this
  · rintro e w' ⟨u, Γ', rfl, gle, c', hu⟩
    have hobj' : ∀ k, S.obj (S.fin (renU a b v) (permL a b L) A') k = (S.obj (S.fin v L (permA a b A')) (swU a b k)).map (O.ren (swU a b)) := by
      intro k
      simp only [S.fin, S.obj, objOf, look_permL]
      cases hl : lookK L (swU a b k) with
      | some o => rfl
      | none =>
        cases k with
        | l n => rfl
        | g k =>
          simp only [Option.map_none, swU, permA, swapK_swapK]
          cases A' k with
          | none => rfl
          | some o => simp [O.ren_ren _ _ (swU_swU a b)]
    have c2 := c'.perm (s' := S.fin (renU a b v) (permL a b L) A') (swU_swU a b) hobj' (fun t => by simp only [S.fin, S.live, renU_tkR]) (fun t h => by simpa only [S.fin, S.known, renU_tkR] using h)
    have pr' : PresR Γ' (Γ'.perm (swU a b)) (swU a b) none := ⟨Hp.le_refl _, fun k x h => by simp [G.perm, swU_swU, h], fun _ _ h => h, fun k _ _ _ h => by cases h⟩
    refine ⟨u, Γ'.perm (swU a b), rfl, ⟨gle.H, gle.Z, gle.ZH, fun k x h => ?_, gle.gl, gle.oo, gle.σ, fun k h => ?_⟩, c2, ?_⟩
    · refine gle.g (swapK a b k) x ?_
      show Γ.ι (swU a b (.g (swapK a b k))) = some x
      simp [swU, swapK_swapK, h]
    · refine gle.gn (swapK a b k) ?_
      show Γ.ι (swU a b (.g (swapK a b k))) = none
      simp [swU, swapK_swapK, h]
    · rw [renU_slotR]
      exact hu.ren (θ := id) pr' (fun _ _ h => h)
end Go.E


namespace Go.E
open Go

mutual
def Sh.fit {R : Type} : Sh → V → (List C → Option R) → Option R
  | .d τ, x, K => (match x with
    | .d τ' c => if τ' = τ then K [c] else none
    | _ => none)
  | .sl _ _ _, _, _ => none
  | .ts eb e, x, K => (match x with
    | .ts eb' e' cs => if eb' = eb ∧ e' = e then K [.slice cs] else none
    | _ => none)
  | .sr k q cp eb e, x, K => (match x with
    | .sr k' q' lo n cp' eb' e' => if k' = k ∧ q' = q ∧ eb' = eb ∧ e' = e then (match cp, cp' with
      | false, none => K [.int lo, .int n]
      | true, some c => K [.int lo, .int n, .int c]
      | _, _ => none) else none
    | _ => none)
  | .cptr τ, x, K => (match x with
    | .cptr τ' c => if τ' = τ then K [c] else none
    | _ => none)
  | .arr e, x, K => (match x with
    | .d (.arr n e') c => if e' = e then (if n = c.elems.length then K [c] else none) else none
    | _ => none)
  | .agg τ l, x, K => (match x with
    | .agg τ' vs => if τ' = τ then Sh.fits l vs K else none
    | _ => none)
  | .as v, x, K => if V.same x v = true then K [] else none
  | .vec k eb e, x, K => (match x with
    | .sr k' q' lo n cp' eb' e' => if k' = k ∧ q' = [] ∧ lo = 0 ∧ cp'.isNone = true ∧ eb' = eb ∧ e' = e then K [.int n] else none
    | _ => none)
  | .fnc f l, x, K => (match x with
    | .fn f' vs => if f' = f then capCoe l vs K else none
    | _ => none)
def Sh.fits {R : Type} : List Sh → List V → (List C → Option R) → Option R
  | [], [], K => K []
  | s :: l, x :: xs, K => s.fit x fun d1 => Sh.fits l xs fun d2 => K (d1 ++ d2)
  | _, _, _ => none
end
mutual
theorem Sh.fit_ok {R : Type} {r : R} : ∀ (s : Sh) (x : V) {K : List C → Option R}, s.fit x K = some r → ∃ ds, K ds = some r ∧ ds.length = s.many ∧ s.fill 0 ds = x
  | .d τ, x, K, h => by
    cases x <;> simp only [Sh.fit, reduceCtorEq, Option.ite_none_right_eq_some] at h
    obtain ⟨rfl, h⟩ := h
    exact ⟨_, h, by simp [Sh.many], by simp [Sh.fill, dk]⟩
  | .sl _ _ _, x, K, h => by simp [Sh.fit] at h
  | .ts eb e, x, K, h => by
    cases x <;> simp only [Sh.fit, reduceCtorEq, Option.ite_none_right_eq_some] at h
    obtain ⟨⟨rfl, rfl⟩, h⟩ := h
    exact ⟨_, h, by simp [Sh.many], by simp [Sh.fill, dk, C.elems]⟩
  | .sr k q cp eb e, x, K, h => by
    cases x <;> simp only [Sh.fit, reduceCtorEq, Option.ite_none_right_eq_some] at h
    obtain ⟨⟨rfl, rfl, rfl, rfl⟩, h⟩ := h
    split at h
    · exact ⟨_, h, by simp [Sh.many], by simp [Sh.fill, dk, C.toInt]⟩
    · exact ⟨_, h, by simp [Sh.many], by simp [Sh.fill, dk, C.toInt]⟩
    · cases h
  | .cptr τ, x, K, h => by
    cases x <;> simp only [Sh.fit, reduceCtorEq, Option.ite_none_right_eq_some] at h
    obtain ⟨rfl, h⟩ := h
    exact ⟨_, h, by simp [Sh.many], by simp [Sh.fill, dk]⟩
  | .arr e, x, K, h => by
    simp only [Sh.fit] at h
    split at h
    · simp only [Option.ite_none_right_eq_some] at h
      obtain ⟨rfl, h1, h⟩ := h
      subst h1
      exact ⟨_, h, by simp [Sh.many], by simp [Sh.fill, dk]⟩
    · cases h
  | .agg τ l, x, K, h => by
    cases x <;> simp only [Sh.fit, reduceCtorEq, Option.ite_none_right_eq_some] at h
    obtain ⟨rfl, h⟩ := h
    obtain ⟨ds, h1, h2, h3⟩ := Sh.fits_ok l _ h
    exact ⟨ds, h1, by simpa only [Sh.many] using h2, by simp only [Sh.fill]; rw [h3]⟩
  | .as v, x, K, h => by
    simp only [Sh.fit, Option.ite_none_right_eq_some] at h
    obtain ⟨h1, h⟩ := h
    have := V.same_ok _ _ h1
    subst this
    exact ⟨_, h, by simp [Sh.many], by simp only [Sh.fill]⟩
  | .vec k eb e, x, K, h => by
    cases x <;> simp only [Sh.fit, reduceCtorEq, Option.ite_none_right_eq_some] at h
    obtain ⟨⟨rfl, rfl, rfl, hc, rfl, rfl⟩, h⟩ := h
    rename_i cp _ _
    cases cp with
    | some c => cases hc
    | none => exact ⟨_, h, by simp [Sh.many], by simp [Sh.fill, dk, C.toInt]⟩
  | .fnc f l, x, K, h => by
    cases x <;> simp only [Sh.fit, reduceCtorEq, Option.ite_none_right_eq_some] at h
    obtain ⟨rfl, h⟩ := h
    obtain ⟨ds, h1, h2, h3⟩ := capCoe_ok l _ h
    exact ⟨ds, h1, by simpa only [Sh.many] using h2, by simp only [Sh.fill, h3]⟩
theorem Sh.fits_ok {R : Type} {r : R} : ∀ (l : List Sh) (xs : List V) {K : List C → Option R}, Sh.fits l xs K = some r → ∃ ds, K ds = some r ∧ ds.length = Sh.manys l ∧ Sh.fills l 0 ds = xs
  | [], xs, K, h => by
    cases xs <;> simp only [Sh.fits, reduceCtorEq] at h
    exact ⟨_, h, by simp [Sh.manys], by simp [Sh.fills]⟩
  | s :: l, [], K, h => by simp [Sh.fits] at h
  | s :: l, x :: xs, K, h => by
    simp only [Sh.fits] at h
    obtain ⟨d1, h1, h2, h3⟩ := Sh.fit_ok s x h
    obtain ⟨d2, h5, h6, h7⟩ := Sh.fits_ok l xs h1
    refine ⟨_, h5, by simp [Sh.manys, h2, h6], ?_⟩
    have e1 : s.fill 0 (d1 ++ d2) = s.fill 0 d1 := Sh.fill_ext s 0 0 _ _ fun j hj => dk_app_left (by omega)
    have e2 : Sh.fills l s.many (d1 ++ d2) = Sh.fills l 0 d2 := Sh.fills_ext l _ 0 _ _ fun j hj => by
      rw [dk_app_right (by omega), h2]
      congr 1; omega
    simp only [Sh.fills, Nat.zero_add, e1, e2]
    rw [h3, h7]
end
def fitObs {R : Type} (A : Key → Option O) : List (Key × OSh) → (List C → List Es → Option R) → Option R
  | [], K => K [] []
  | (k, .box sh) :: l, K => (match A k with
    | some (.box x) => sh.fit x fun d1 => fitObs A l fun d2 m2 => K (d1 ++ d2) m2
    | _ => none)
  | (k, .map kτ vτ) :: l, K => (match A k with
    | some (.map kτ' vτ' es) => if kτ' = kτ ∧ vτ' = vτ then (if allD vτ es = true then fitObs A l fun d2 m2 => K d2 (unE es :: m2) else none) else none
    | _ => none)
  | _ :: _, _ => none
theorem fitObs_ok {R : Type} {r : R} {A : Key → Option O} : ∀ (l : List (Key × OSh)) {K : List C → List Es → Option R}, fitObs A l K = some r →
    ∃ ds ms, K ds ms = some r ∧ ds.length = locMany l ∧ ∀ k o, lookK (locFill l 0 0 ds ms) k = some o → A k = some o
  | [], K, h => ⟨[], [], h, rfl, fun k o h => by simp [locFill, lookK] at h⟩
  | (j, .box sh) :: l, K, h => by
    simp only [fitObs] at h
    split at h
    · rename_i x hx
      obtain ⟨d1, h1, h2, h3⟩ := Sh.fit_ok sh x h
      obtain ⟨d2, ms, h4, h5, h6⟩ := fitObs_ok l h1
      refine ⟨_, ms, h4, by simp [locMany, h2, h5], fun k o hk => ?_⟩
      have e1 : sh.fill 0 (d1 ++ d2) = sh.fill 0 d1 := Sh.fill_ext sh 0 0 _ _ fun j hj => dk_app_left (by omega)
      have e2 : locFill l sh.many 0 (d1 ++ d2) ms = locFill l 0 0 d2 ms := locFill_ext l _ 0 0 _ _ _ fun j hj => by
        rw [dk_app_right (by omega), h2]
        congr 1; omega
      simp only [locFill, Nat.zero_add, e1, e2, h3, lookK] at hk
      split at hk
      · rename_i e; subst e; cases hk; exact hx
      · exact h6 k o hk
    · cases h
  | (j, .map kτ vτ) :: l, K, h => by
    simp only [fitObs] at h
    split at h
    · rename_i kτ' vτ' es hx
      simp only [Option.ite_none_right_eq_some] at h
      obtain ⟨⟨rfl, rfl⟩, hd, h⟩ := h
      obtain ⟨d2, ms, h4, h5, h6⟩ := fitObs_ok l h
      refine ⟨_, _, h4, by simp [locMany, h5], fun k o hk => ?_⟩
      simp only [locFill, locFill_cons, lookK] at hk
      split at hk
      · rename_i e; subst e; cases hk
        rw [show dm (unE es :: ms) 0 = unE es from rfl, dE_unE hd]; exact hx
      · exact h6 k o hk
    · cases h
  | (_, .dead _) :: l, K, h => by simp [fitObs] at h
  | (_, .it) :: l, K, h => by simp [fitObs] at h
mutual
def Sh.unP : Sh → V → List (Key × Key)
  | .as (.ptr (.g a) _ _), .ptr (.g b) _ _ => [(a, b)]
  | .as (.mp (.g a)), .mp (.g b) => [(a, b)]
  | .sr (.g a) _ _ _ _, .sr (.g b) _ _ _ _ _ _ => [(a, b)]
  | .vec (.g a) _ _, .sr (.g b) _ _ _ _ _ _ => [(a, b)]
  | .agg _ l, .agg _ xs => Sh.unPs l xs
  | _, _ => []
def Sh.unPs : List Sh → List V → List (Key × Key)
  | s :: l, x :: xs => s.unP x ++ Sh.unPs l xs
  | _, _ => []
end
def runSw : List (Key × Key) → Key → Key
  | [], k => k
  | (a, b) :: l, k => runSw l (swapK a b k)
def swOf (objs : List (Key × OSh)) (A : Key → Option O) : Nat → List (Key × Key) → List (Key × Key) → List Key → List (Key × Key)
  | 0, _, sw, _ => sw
  | _, [], sw, _ => sw
  | f + 1, (a, b) :: todo, sw, seen => if memK a seen = true then swOf objs A f todo sw seen else
      (match runSw sw b with
      | b' => swOf objs A f ((match lookS objs a, A b with
          | some (.box sh), some (.box x) => sh.unP x
          | _, _ => []) ++ todo) (if a = b' then sw else sw ++ [(a, b')]) (a :: seen))
def swXs : List (Key × Key) → List V → List V
  | [], xs => xs
  | (a, b) :: l, xs => swXs l (xs.map (renU a b))
def swA : List (Key × Key) → (Key → Option O) → Key → Option O
  | [], A => A
  | (a, b) :: l, A => swA l (permA a b A)
def unV' : List (Key × Key) → V → V
  | [], x => x
  | (a, b) :: l, x => renU a b (unV' l x)
def unL' : List (Key × Key) → List (Key × O) → List (Key × O)
  | [], x => x
  | (a, b) :: l, x => permL a b (unL' l x)
theorem DCalls.sws {X : Cx} {f : FuncId} : ∀ (sw : List (Key × Key)) {xs : List V} {A : Key → Option O} {v : V} {L : List (Key × O)}, DCalls X f (swXs sw xs) (swA sw A) v L → DCalls X f xs A (unV' sw v) (unL' sw L)
  | [], xs, A, v, L, h => h
  | (a, b) :: l, xs, A, v, L, h => by
    have h1 := (DCalls.sws l h).swap a b
    have hxs : (xs.map (renU a b)).map (renU a b) = xs := by
      rw [List.map_map]
      exact (List.map_congr_left (g := id) fun x _ => renU_renU a b x).trans (List.map_id _)
    rw [hxs, permA_permA] at h1
    exact h1
def ptrG (args : List Sh) (objs : List (Key × OSh)) {R : Type} (p : List C → List Es → (V → List (Key × O) → Option R) → Option R) : OvG R := fun xs A K =>
  match swOf objs A 1000 (Sh.unPs args xs) [] [] with
  | sw => Sh.fits args (swXs sw xs) fun d1 => fitObs (swA sw A) objs fun d2 ms => p (d1 ++ d2) ms fun v L => K (unV' sw v) (unL' sw L)
theorem ptrG_ok {X : Cx} {f : FuncId} {args : List Sh} {objs : List (Key × OSh)} {R : Type} {p : List C → List Es → (V → List (Key × O) → Option R) → Option R}
    (hp : ∀ ds ms (K : V → List (Key × O) → Option R) r, p ds ms K = some r → ∃ v L, DCalls X f (Sh.fills args 0 ds) (lookK (locFill objs (Sh.manys args) 0 ds ms)) v L ∧ K v L = some r) : GOk X f (ptrG args objs p) := by
  intro xs A Kr r hr
  unfold ptrG at hr
  dsimp only at hr
  generalize swOf objs A 1000 (Sh.unPs args xs) [] [] = sw at hr
  obtain ⟨d1, h1, h2, h3⟩ := Sh.fits_ok args _ hr
  obtain ⟨d2, ms, h4, h5, h6⟩ := fitObs_ok objs h1
  obtain ⟨v, L, h7, h8⟩ := hp _ _ _ _ h4
  refine ⟨_, _, DCalls.sws sw (v := v) (L := L) ?_, h8⟩
  have e1 : Sh.fills args 0 (d1 ++ d2) = Sh.fills args 0 d1 := Sh.fills_ext args 0 0 _ _ fun j hj => dk_app_left (by omega)
  have e2 : locFill objs (Sh.manys args) 0 (d1 ++ d2) ms = locFill objs 0 0 d2 ms := locFill_ext objs _ 0 0 _ _ _ fun j hj => by
    rw [dk_app_right (by omega), h2]
    congr 1; omega
  rw [e1, h3, e2] at h7
  exact h7.mono h6
end Go.E


namespace Go.E
open Go

def extLook : List (Nat × (List V → Option V)) → ExtK
  | [], _ => none
  | (i, g) :: l, f => bif Nat.beq f i then some g else extLook l f
def ExtLOk (X : Cx) : List (Nat × (List V → Option V)) → Prop
  | [] => True
  | p :: l => (∀ xs v, p.2 xs = some v → EDoes X p.1 xs v) ∧ ExtLOk X l
theorem extLook_ok {X : Cx} : ∀ {l : List (Nat × (List V → Option V))}, ExtLOk X l → ExtKOk X (extLook l)
  | [], _ => fun f g xs v h _ => by cases h
  | (i, g0) :: l, h => fun f g xs v hf hv => by
    simp only [extLook] at hf
    cases hb : Nat.beq f i with
    | true =>
      rw [hb, cond_true] at hf
      cases hf
      obtain rfl := Nat.eq_of_beq_eq_true hb
      exact h.1 xs v hv
    | false =>
      rw [hb, cond_false] at hf
      exact extLook_ok h.2 f g xs v hf hv
theorem ExtLOk.append {X : Cx} : ∀ {l m : List (Nat × (List V → Option V))}, ExtLOk X l → ExtLOk X m → ExtLOk X (l ++ m)
  | [], _, _, h => h
  | _ :: _, _, h, h' => ⟨h.1, h.2.append h'⟩
end Go.E


namespace Go.E
open Go

@[go_sem] theorem dk_0 {a0 : C} {l : List C} : dk (a0 :: l) 0 = a0 := rfl
@[go_sem] theorem dk_1 {a0 a1 : C} {l : List C} : dk (a0 :: a1 :: l) 1 = a1 := rfl
@[go_sem] theorem dk_2 {a0 a1 a2 : C} {l : List C} : dk (a0 :: a1 :: a2 :: l) 2 = a2 := rfl
@[go_sem] theorem dk_3 {a0 a1 a2 a3 : C} {l : List C} : dk (a0 :: a1 :: a2 :: a3 :: l) 3 = a3 := rfl
@[go_sem] theorem dk_4 {a0 a1 a2 a3 a4 : C} {l : List C} : dk (a0 :: a1 :: a2 :: a3 :: a4 :: l) 4 = a4 := rfl
@[go_sem] theorem dk_5 {a0 a1 a2 a3 a4 a5 : C} {l : List C} : dk (a0 :: a1 :: a2 :: a3 :: a4 :: a5 :: l) 5 = a5 := rfl
@[go_sem] theorem dk_6 {a0 a1 a2 a3 a4 a5 a6 : C} {l : List C} : dk (a0 :: a1 :: a2 :: a3 :: a4 :: a5 :: a6 :: l) 6 = a6 := rfl
@[go_sem] theorem dk_7 {a0 a1 a2 a3 a4 a5 a6 a7 : C} {l : List C} : dk (a0 :: a1 :: a2 :: a3 :: a4 :: a5 :: a6 :: a7 :: l) 7 = a7 := rfl
@[go_sem] theorem dk_8 {a0 a1 a2 a3 a4 a5 a6 a7 a8 : C} {l : List C} : dk (a0 :: a1 :: a2 :: a3 :: a4 :: a5 :: a6 :: a7 :: a8 :: l) 8 = a8 := rfl
@[go_sem] theorem dk_9 {a0 a1 a2 a3 a4 a5 a6 a7 a8 a9 : C} {l : List C} : dk (a0 :: a1 :: a2 :: a3 :: a4 :: a5 :: a6 :: a7 :: a8 :: a9 :: l) 9 = a9 := rfl
@[go_sem] theorem dk_10 {a0 a1 a2 a3 a4 a5 a6 a7 a8 a9 a10 : C} {l : List C} : dk (a0 :: a1 :: a2 :: a3 :: a4 :: a5 :: a6 :: a7 :: a8 :: a9 :: a10 :: l) 10 = a10 := rfl
@[go_sem] theorem dk_11 {a0 a1 a2 a3 a4 a5 a6 a7 a8 a9 a10 a11 : C} {l : List C} : dk (a0 :: a1 :: a2 :: a3 :: a4 :: a5 :: a6 :: a7 :: a8 :: a9 :: a10 :: a11 :: l) 11 = a11 := rfl
@[go_sem] theorem dk_12 {a0 a1 a2 a3 a4 a5 a6 a7 a8 a9 a10 a11 a12 : C} {l : List C} : dk (a0 :: a1 :: a2 :: a3 :: a4 :: a5 :: a6 :: a7 :: a8 :: a9 :: a10 :: a11 :: a12 :: l) 12 = a12 := rfl
@[go_sem] theorem dk_13 {a0 a1 a2 a3 a4 a5 a6 a7 a8 a9 a10 a11 a12 a13 : C} {l : List C} : dk (a0 :: a1 :: a2 :: a3 :: a4 :: a5 :: a6 :: a7 :: a8 :: a9 :: a10 :: a11 :: a12 :: a13 :: l) 13 = a13 := rfl
@[go_sem] theorem dk_14 {a0 a1 a2 a3 a4 a5 a6 a7 a8 a9 a10 a11 a12 a13 a14 : C} {l : List C} : dk (a0 :: a1 :: a2 :: a3 :: a4 :: a5 :: a6 :: a7 :: a8 :: a9 :: a10 :: a11 :: a12 :: a13 :: a14 :: l) 14 = a14 := rfl
@[go_sem] theorem dk_15 {a0 a1 a2 a3 a4 a5 a6 a7 a8 a9 a10 a11 a12 a13 a14 a15 : C} {l : List C} : dk (a0 :: a1 :: a2 :: a3 :: a4 :: a5 :: a6 :: a7 :: a8 :: a9 :: a10 :: a11 :: a12 :: a13 :: a14 :: a15 :: l) 15 = a15 := rfl
@[go_sem] theorem dk_16 {a0 a1 a2 a3 a4 a5 a6 a7 a8 a9 a10 a11 a12 a13 a14 a15 a16 : C} {l : List C} : dk (a0 :: a1 :: a2 :: a3 :: a4 :: a5 :: a6 :: a7 :: a8 :: a9 :: a10 :: a11 :: a12 :: a13 :: a14 :: a15 :: a16 :: l) 16 = a16 := rfl
@[go_sem] theorem dk_17 {a0 a1 a2 a3 a4 a5 a6 a7 a8 a9 a10 a11 a12 a13 a14 a15 a16 a17 : C} {l : List C} : dk (a0 :: a1 :: a2 :: a3 :: a4 :: a5 :: a6 :: a7 :: a8 :: a9 :: a10 :: a11 :: a12 :: a13 :: a14 :: a15 :: a16 :: a17 :: l) 17 = a17 := rfl
@[go_sem] theorem dk_18 {a0 a1 a2 a3 a4 a5 a6 a7 a8 a9 a10 a11 a12 a13 a14 a15 a16 a17 a18 : C} {l : List C} : dk (a0 :: a1 :: a2 :: a3 :: a4 :: a5 :: a6 :: a7 :: a8 :: a9 :: a10 :: a11 :: a12 :: a13 :: a14 :: a15 :: a16 :: a17 :: a18 :: l) 18 = a18 := rfl
@[go_sem] theorem dk_19 {a0 a1 a2 a3 a4 a5 a6 a7 a8 a9 a10 a11 a12 a13 a14 a15 a16 a17 a18 a19 : C} {l : List C} : dk (a0 :: a1 :: a2 :: a3 :: a4 :: a5 :: a6 :: a7 :: a8 :: a9 :: a10 :: a11 :: a12 :: a13 :: a14 :: a15 :: a16 :: a17 :: a18 :: a19 :: l) 19 = a19 := rfl
@[go_sem] theorem dk_20 {a0 a1 a2 a3 a4 a5 a6 a7 a8 a9 a10 a11 a12 a13 a14 a15 a16 a17 a18 a19 a20 : C} {l : List C} : dk (a0 :: a1 :: a2 :: a3 :: a4 :: a5 :: a6 :: a7 :: a8 :: a9 :: a10 :: a11 :: a12 :: a13 :: a14 :: a15 :: a16 :: a17 :: a18 :: a19 :: a20 :: l) 20 = a20 := rfl
@[go_sem] theorem dk_21 {a0 a1 a2 a3 a4 a5 a6 a7 a8 a9 a10 a11 a12 a13 a14 a15 a16 a17 a18 a19 a20 a21 : C} {l : List C} : dk (a0 :: a1 :: a2 :: a3 :: a4 :: a5 :: a6 :: a7 :: a8 :: a9 :: a10 :: a11 :: a12 :: a13 :: a14 :: a15 :: a16 :: a17 :: a18 :: a19 :: a20 :: a21 :: l) 21 = a21 := rfl
@[go_sem] theorem dk_22 {a0 a1 a2 a3 a4 a5 a6 a7 a8 a9 a10 a11 a12 a13 a14 a15 a16 a17 a18 a19 a20 a21 a22 : C} {l : List C} : dk (a0 :: a1 :: a2 :: a3 :: a4 :: a5 :: a6 :: a7 :: a8 :: a9 :: a10 :: a11 :: a12 :: a13 :: a14 :: a15 :: a16 :: a17 :: a18 :: a19 :: a20 :: a21 :: a22 :: l) 22 = a22 := rfl
@[go_sem] theorem dk_23 {a0 a1 a2 a3 a4 a5 a6 a7 a8 a9 a10 a11 a12 a13 a14 a15 a16 a17 a18 a19 a20 a21 a22 a23 : C} {l : List C} : dk (a0 :: a1 :: a2 :: a3 :: a4 :: a5 :: a6 :: a7 :: a8 :: a9 :: a10 :: a11 :: a12 :: a13 :: a14 :: a15 :: a16 :: a17 :: a18 :: a19 :: a20 :: a21 :: a22 :: a23 :: l) 23 = a23 := rfl
@[go_sem] theorem dk_24 {a0 a1 a2 a3 a4 a5 a6 a7 a8 a9 a10 a11 a12 a13 a14 a15 a16 a17 a18 a19 a20 a21 a22 a23 a24 : C} {l : List C} : dk (a0 :: a1 :: a2 :: a3 :: a4 :: a5 :: a6 :: a7 :: a8 :: a9 :: a10 :: a11 :: a12 :: a13 :: a14 :: a15 :: a16 :: a17 :: a18 :: a19 :: a20 :: a21 :: a22 :: a23 :: a24 :: l) 24 = a24 := rfl
@[go_sem] theorem dk_25 {a0 a1 a2 a3 a4 a5 a6 a7 a8 a9 a10 a11 a12 a13 a14 a15 a16 a17 a18 a19 a20 a21 a22 a23 a24 a25 : C} {l : List C} : dk (a0 :: a1 :: a2 :: a3 :: a4 :: a5 :: a6 :: a7 :: a8 :: a9 :: a10 :: a11 :: a12 :: a13 :: a14 :: a15 :: a16 :: a17 :: a18 :: a19 :: a20 :: a21 :: a22 :: a23 :: a24 :: a25 :: l) 25 = a25 := rfl
@[go_sem] theorem get_agg_0 {a0 : C} {l : List C} : C.get (.agg (a0 :: l)) 0 = a0 := rfl
@[go_sem] theorem get_agg_1 {a0 a1 : C} {l : List C} : C.get (.agg (a0 :: a1 :: l)) 1 = a1 := rfl
@[go_sem] theorem get_agg_2 {a0 a1 a2 : C} {l : List C} : C.get (.agg (a0 :: a1 :: a2 :: l)) 2 = a2 := rfl
@[go_sem] theorem get_agg_3 {a0 a1 a2 a3 : C} {l : List C} : C.get (.agg (a0 :: a1 :: a2 :: a3 :: l)) 3 = a3 := rfl
@[go_sem] theorem get_agg_4 {a0 a1 a2 a3 a4 : C} {l : List C} : C.get (.agg (a0 :: a1 :: a2 :: a3 :: a4 :: l)) 4 = a4 := rfl
@[go_sem] theorem get_agg_5 {a0 a1 a2 a3 a4 a5 : C} {l : List C} : C.get (.agg (a0 :: a1 :: a2 :: a3 :: a4 :: a5 :: l)) 5 = a5 := rfl
@[go_sem] theorem get_agg_6 {a0 a1 a2 a3 a4 a5 a6 : C} {l : List C} : C.get (.agg (a0 :: a1 :: a2 :: a3 :: a4 :: a5 :: a6 :: l)) 6 = a6 := rfl
@[go_sem] theorem get_agg_7 {a0 a1 a2 a3 a4 a5 a6 a7 : C} {l : List C} : C.get (.agg (a0 :: a1 :: a2 :: a3 :: a4 :: a5 :: a6 :: a7 :: l)) 7 = a7 := rfl
@[go_sem] theorem get_agg_8 {a0 a1 a2 a3 a4 a5 a6 a7 a8 : C} {l : List C} : C.get (.agg (a0 :: a1 :: a2 :: a3 :: a4 :: a5 :: a6 :: a7 :: a8 :: l)) 8 = a8 := rfl
@[go_sem] theorem get_agg_9 {a0 a1 a2 a3 a4 a5 a6 a7 a8 a9 : C} {l : List C} : C.get (.agg (a0 :: a1 :: a2 :: a3 :: a4 :: a5 :: a6 :: a7 :: a8 :: a9 :: l)) 9 = a9 := rfl
@[go_sem] theorem get_agg_10 {a0 a1 a2 a3 a4 a5 a6 a7 a8 a9 a10 : C} {l : List C} : C.get (.agg (a0 :: a1 :: a2 :: a3 :: a4 :: a5 :: a6 :: a7 :: a8 :: a9 :: a10 :: l)) 10 = a10 := rfl
@[go_sem] theorem get_agg_11 {a0 a1 a2 a3 a4 a5 a6 a7 a8 a9 a10 a11 : C} {l : List C} : C.get (.agg (a0 :: a1 :: a2 :: a3 :: a4 :: a5 :: a6 :: a7 :: a8 :: a9 :: a10 :: a11 :: l)) 11 = a11 := rfl
@[go_sem] theorem get_agg_12 {a0 a1 a2 a3 a4 a5 a6 a7 a8 a9 a10 a11 a12 : C} {l : List C} : C.get (.agg (a0 :: a1 :: a2 :: a3 :: a4 :: a5 :: a6 :: a7 :: a8 :: a9 :: a10 :: a11 :: a12 :: l)) 12 = a12 := rfl
@[go_sem] theorem get_agg_13 {a0 a1 a2 a3 a4 a5 a6 a7 a8 a9 a10 a11 a12 a13 : C} {l : List C} : C.get (.agg (a0 :: a1 :: a2 :: a3 :: a4 :: a5 :: a6 :: a7 :: a8 :: a9 :: a10 :: a11 :: a12 :: a13 :: l)) 13 = a13 := rfl
@[go_sem] theorem get_agg_14 {a0 a1 a2 a3 a4 a5 a6 a7 a8 a9 a10 a11 a12 a13 a14 : C} {l : List C} : C.get (.agg (a0 :: a1 :: a2 :: a3 :: a4 :: a5 :: a6 :: a7 :: a8 :: a9 :: a10 :: a11 :: a12 :: a13 :: a14 :: l)) 14 = a14 := rfl
@[go_sem] theorem get_agg_15 {a0 a1 a2 a3 a4 a5 a6 a7 a8 a9 a10 a11 a12 a13 a14 a15 : C} {l : List C} : C.get (.agg (a0 :: a1 :: a2 :: a3 :: a4 :: a5 :: a6 :: a7 :: a8 :: a9 :: a10 :: a11 :: a12 :: a13 :: a14 :: a15 :: l)) 15 = a15 := rfl
@[go_sem] theorem set_agg_0 {a0 b : C} {l : List C} : C.set (.agg (a0 :: l)) 0 b = .agg (b :: l) := rfl
@[go_sem] theorem set_agg_1 {a0 a1 b : C} {l : List C} : C.set (.agg (a0 :: a1 :: l)) 1 b = .agg (a0 :: b :: l) := rfl
@[go_sem] theorem set_agg_2 {a0 a1 a2 b : C} {l : List C} : C.set (.agg (a0 :: a1 :: a2 :: l)) 2 b = .agg (a0 :: a1 :: b :: l) := rfl
@[go_sem] theorem set_agg_3 {a0 a1 a2 a3 b : C} {l : List C} : C.set (.agg (a0 :: a1 :: a2 :: a3 :: l)) 3 b = .agg (a0 :: a1 :: a2 :: b :: l) := rfl
@[go_sem] theorem set_agg_4 {a0 a1 a2 a3 a4 b : C} {l : List C} : C.set (.agg (a0 :: a1 :: a2 :: a3 :: a4 :: l)) 4 b = .agg (a0 :: a1 :: a2 :: a3 :: b :: l) := rfl
@[go_sem] theorem set_agg_5 {a0 a1 a2 a3 a4 a5 b : C} {l : List C} : C.set (.agg (a0 :: a1 :: a2 :: a3 :: a4 :: a5 :: l)) 5 b = .agg (a0 :: a1 :: a2 :: a3 :: a4 :: b :: l) := rfl
@[go_sem] theorem set_agg_6 {a0 a1 a2 a3 a4 a5 a6 b : C} {l : List C} : C.set (.agg (a0 :: a1 :: a2 :: a3 :: a4 :: a5 :: a6 :: l)) 6 b = .agg (a0 :: a1 :: a2 :: a3 :: a4 :: a5 :: b :: l) := rfl
@[go_sem] theorem set_agg_7 {a0 a1 a2 a3 a4 a5 a6 a7 b : C} {l : List C} : C.set (.agg (a0 :: a1 :: a2 :: a3 :: a4 :: a5 :: a6 :: a7 :: l)) 7 b = .agg (a0 :: a1 :: a2 :: a3 :: a4 :: a5 :: a6 :: b :: l) := rfl
attribute [go_sem] jn_eq Nat.beq_refl Bool.and_true Bool.true_and Bool.not_true Bool.not_false beq_self_eq_true Int.toNat_natCast decide_true decide_false Bool.cond_decide Int.toNat_zero Int.toNat_one
attribute [go_sem 500] Int.ofNat_eq_natCast
attribute [go_sem] Int.cast_ofNat_Int
@[go_sem] theorem ofNat_lit (n : Nat) : Int.ofNat (@OfNat.ofNat Nat n (instOfNatNat n)) = @OfNat.ofNat Int n instOfNat := rfl
@[go_sem] theorem natCast_lit (n : Nat) : ((@OfNat.ofNat Nat n (instOfNatNat n) : Nat) : Int) = @OfNat.ofNat Int n instOfNat := rfl
@[go_sem] theorem litC_bool (a b : Bool) : litC (.bool a) b = .bool b := rfl
@[go_sem] theorem beqC_refl (c : C) : C.beq c c = true := (C.beq_iff c c).2 rfl
theorem dcalls_wf {X : Cx} {f : FuncId} {ts : List Ty} {cs : List C} {A : Key → Option O} {v : V} {L : List (Key × O)} (h : (∀ (i : Nat) (t : Ty) (c : C), ts[i]? = some t → cs[i]? = some c → C.wf t c) → DCalls X f (List.zipWith V.d ts cs) A v L) : DCalls X f (List.zipWith V.d ts cs) A v L := by
  intro A' Γ w args hA hg hc hn hr
  refine h (fun i t c ht hcs => ?_) A' Γ w args hA hg hc hn hr
  have hx : (List.zipWith V.d ts cs)[i]? = some (.d t c) := by simp [List.getElem?_zipWith, ht, hcs]
  have hs : (slots 1000 (List.zipWith V.d ts cs))[i]? = some (.d t c) := by rw [slots_get, hx]; rfl
  have hl : i < args.size := by rw [← hn]; exact (List.getElem?_eq_some_iff.1 hx).1
  exact (hr i _ _ hs (Array.getElem?_eq_getElem hl)).wf
theorem glOk_sub {w : World} {gl gl' : Nat → Option (Ty × C)} (h : GlOk w gl) (hs : ∀ g x, gl' g = some x → gl g = some x) : GlOk w gl' := fun g τ c hg => h g τ c (hs g (τ, c) hg)
theorem of_gok {X : Cx} {f : FuncId} {g : OvG (V × List (Key × O))} (h : GOk X f g) {xs : List V} {A : Key → Option O} {v : V} {L : List (Key × O)} (hr : g xs A kR = some (v, L)) : DCalls X f xs A v L := by
  obtain ⟨v', L', h1, h2⟩ := h xs A kR (v, L) hr
  simp only [kR, Option.some.injEq, Prod.mk.injEq] at h2
  obtain ⟨rfl, rfl⟩ := h2
  exact h1
end Go.E


namespace Go.E
open Go

theorem wrap_succ {i : Nat} (h : i < 4611686018427387904) : IntKind.i64.wrap ((i : Int) + 1) = ((i + 1 : Nat) : Int) := by rw [IntWalk.i64_in _ (by omega)]; omega
theorem wrap_u64 {n : Int} (h : 0 ≤ n) (h2 : n < 18446744073709551616) : IntKind.u64.wrap n = n := by
  have hm1 : IntKind.u64.min = 0 := by decide
  have hm2 : IntKind.u64.max = 18446744073709551615 := by decide
  exact wrap_id (by omega) (by omega)
end Go.E


namespace Go.E
open Go

@[go_sem] theorem renE_dE (g : Key → Key) (τ : Ty) (m : Es) : List.map (fun c => (Prod.fst c, V.ren g id (Prod.snd c))) (dE τ m) = dE τ m := by
  unfold dE
  rw [List.map_map]
  exact List.map_congr_left fun _ _ => rfl
attribute [go_sem] unE_dE allD_dE
@[go_sem] theorem allDB_dE (τ : Ty) : ∀ m : Es, allDB τ (dE τ m) = true
  | [] => rfl
  | _ :: m => by
    have := allDB_dE τ m
    have h : Ty.beq τ τ = true := (Ty.beq_iff τ τ).2 rfl
    simp only [dE, List.map_cons, allDB, h, Bool.true_and] at this ⊢
    exact this
def hasM : Es → C → Bool
  | [], _ => false
  | (k, _) :: l, c => bif C.beq c k then true else hasM l c
def getM : Es → C → C
  | [], _ => .nil
  | (k, v) :: l, c => bif C.beq c k then v else getM l c
@[go_sem] theorem hasE_dE (τ : Ty) (c : C) : ∀ m : Es, hasE (dE τ m) c = hasM m c
  | [] => rfl
  | (k, v) :: m => by
    have := hasE_dE τ c m
    simp only [dE, List.map_cons, hasE, hasM] at this ⊢
    rw [this]
@[go_sem] theorem getE_dE (τ : Ty) (c : C) : ∀ m : Es, getE (dE τ m) c = getM m c
  | [] => rfl
  | (k, v) :: m => by
    have := getE_dE τ c m
    simp only [dE, List.map_cons, getE, getM] at this ⊢
    rw [this]
@[go_sem] theorem unE_nil : unE [] = [] := rfl
@[go_sem] theorem dE_nil (τ : Ty) : dE τ [] = [] := rfl
end Go.E


namespace Go.E
open Go

end Go.E


namespace Go.E
open Go

section
variable {X : Cx} {R : Type}
variable {ov : OvK R} {ext : ExtK} (hP : allOk X.P = true) (hmo : X.P.follows .mixedOrders = true) (hov : OvKOk X ov) (he : ExtKOk X ext)
include hP hmo hov he
end
end Go.E


namespace Go.E
open Go
section
variable {F : Fence} {n : Nat} {P : Program} (w : World) {ops : Array Oper} {rest : List Oper} {o : Oper} {a : Act} {Q : Exit → Act → World → Prop}
theorem inRange_raw (hg : o.guard = none) (m : Operand) (t : TypeId) (hop : o.op = Op.range t m) (r : Value) (w' : World) (hrun : (Instr.range t (a.eval m)).run P w = .ok r w')
    (hK : wpListIn F n P ops Q rest (a.put o.dst r) w') : wpListIn F n P ops Q (o :: rest) a w := by
  refine wpListIn_plain hg fun K' hK' => ?_
  unfold Oper.wpIn
  refine ⟨by simp [Oper.about, hop], ?_⟩
  rw [Oper.semAt_plain F _ _ (by rw [hop]; intro c hc'; cases hc')]
  simp [execOp, hop, hrun, Result.andThen]
  exact hK' _ _ hK
theorem inLoad_raw (hg : o.guard = none) (t : TypeId) (p : Operand) (hop : o.op = Op.load t p) (r : Value) (w' : World) (hrun : (Instr.loadAt t (a.eval p)).run P w = .ok r w')
    (hK : wpListIn F n P ops Q rest (a.put o.dst r) w') : wpListIn F n P ops Q (o :: rest) a w := by
  refine wpListIn_plain hg fun K' hK' => ?_
  unfold Oper.wpIn
  refine ⟨by simp [Oper.about, hop], ?_⟩
  rw [Oper.semAt_plain F _ _ (by rw [hop]; intro c hc'; cases hc')]
  simp [execOp, hop, hrun, Result.andThen]
  exact hK' _ _ hK
theorem inStore_raw (hg : o.guard = none) (t : TypeId) (p v : Operand) (hop : o.op = Op.store t p v) (w' : World) (hrun : (Instr.storeAt t (a.eval p) (a.eval v)).run P w = .ok () w')
    (hK : wpListIn F n P ops Q rest (a.put o.dst undef) w') : wpListIn F n P ops Q (o :: rest) a w := by
  refine wpListIn_plain hg fun K' hK' => ?_
  unfold Oper.wpIn
  refine ⟨by simp [Oper.about, hop], ?_⟩
  rw [Oper.semAt_plain F _ _ (by rw [hop]; intro c hc'; cases hc')]
  simp [execOp, hop, hrun, Result.andThen]
  exact hK' _ _ hK
theorem inBuild_raw (hg : o.guard = none) (t : TypeId) (len : Nat) (parts : Array (Nat × Operand)) (hop : o.op = Op.buildSlice t len parts) (r : Value) (w' : World) (hrun : (Instr.buildSlice t len (parts.map fun (i, x) => (i, a.eval x))).run P w = .ok r w')
    (hK : wpListIn F n P ops Q rest (a.put o.dst r) w') : wpListIn F n P ops Q (o :: rest) a w := by
  refine wpListIn_plain hg fun K' hK' => ?_
  unfold Oper.wpIn
  refine ⟨by simp [Oper.about, hop], ?_⟩
  rw [Oper.semAt_plain F _ _ (by rw [hop]; intro c hc'; cases hc')]
  simp only [execOp, hop, Sem.run_bind, hrun, Result.andThen_ok]
  exact hK' _ _ hK
theorem inAlloc_raw (hg : o.guard = none) (t : TypeId) (hop : o.op = Op.alloc t) (r : Value) (w' : World) (hrun : (Instr.alloc t true (.tuple #[])).run P w = .ok r w')
    (hK : wpListIn F n P ops Q rest (a.put o.dst r) w') : wpListIn F n P ops Q (o :: rest) a w := by
  refine wpListIn_plain hg fun K' hK' => ?_
  unfold Oper.wpIn
  refine ⟨by simp [Oper.about, hop], ?_⟩
  rw [Oper.semAt_plain F _ _ (by rw [hop]; intro c hc'; cases hc')]
  simp only [execOp, hop, Sem.run_bind, hrun, Result.andThen_ok]
  exact hK' _ _ hK
theorem inNext_raw (hg : o.guard = none) (it : Operand) (hop : o.op = Op.next it false)
    (r bm since c0 : Nat) (seen : Array Nat) (es : Array MapEntry) (clock : Nat) (hit : a.eval it = .pointer (some ⟨r, 0, none⟩))
    (hr : w.heap[r]? = some (.mapIter (some bm) since seen c0)) (hb : w.heap[bm]? = some (.map es clock)) (hold : ∀ x ∈ es.toList, x.born < since) (hsc : since ≤ c0) (hcl : since ≤ clock) (hn : (es.toList.map (·.born)).Nodup)
    (hDone : (leftOf es seen).size = 0 → wpListIn F n P ops Q rest (a.put o.dst (.tuple #[.bool false])) w)
    (hMore : ∀ e ∈ (leftOf es seen).toList, ∀ w2 : World, w2.heap[r]? = some (.mapIter (some bm) since (seen.push e.born) clock) → w.grownBy w2 (some r) → w2.heap.size = w.heap.size →
      (Instr.entry (.pointer (some ⟨r, 0, none⟩))).run P w2 = .ok (.tuple #[e.key, e.val]) w2 → wpListIn F n P ops Q rest (a.put o.dst (.tuple #[.bool true, e.key, e.val])) w2) :
    wpListIn F n P ops Q (o :: rest) a w := by
  refine wpListIn_plain hg fun K' hK' => ?_
  unfold Oper.wpIn
  refine ⟨by simp [Oper.about, hop], ?_⟩
  rw [Oper.semAt_plain F _ _ (by rw [hop]; intro c hc'; cases hc')]
  rcases run_next_at (P := P) w o.type r bm since c0 seen es clock hr hb hold hsc with ⟨h0, hrun⟩ | ⟨e, he, w1, hw1, hrun⟩
  · simp [execOp, hop, hit, hrun, Result.andThen]
    exact hK' _ _ (hDone h0)
  · simp [execOp, hop, hit, hrun, Result.andThen]
    have hlt : r < w1.heap.size := by rcases hw1 with rfl | rfl <;> exact (Array.getElem?_eq_some_iff.1 hr).1
    have h1 : (ChangeMaps.setBlock w1 r (.mapIter (some bm) since (seen.push e.born) clock)).heap[r]? = some (.mapIter (some bm) since (seen.push e.born) clock) := by
      simp [ChangeMaps.setBlock, hlt]
    have h2 : ∀ b, b ≠ r → (ChangeMaps.setBlock w1 r (.mapIter (some bm) since (seen.push e.born) clock)).heap[b]? = w.heap[b]? := by
      intro b hb'
      rcases hw1 with rfl | rfl <;> simp [ChangeMaps.setBlock, Array.getElem?_setIfInBounds, Ne.symm hb'] <;> rfl
    have hsz : (ChangeMaps.setBlock w1 r (.mapIter (some bm) since (seen.push e.born) clock)).heap.size = w.heap.size := by rcases hw1 with rfl | rfl <;> simp [ChangeMaps.setBlock] <;> rfl
    have hne : bm ≠ r := by intro e; subst e; rw [hr] at hb; cases hb
    refine hK' _ _ (hMore e he _ h1 ⟨?_, ?_, ?_, ?_, fun k hk hkr => h2 k fun e => hkr (by rw [e])⟩ hsz ?_)
    · rcases hw1 with rfl | rfl <;> rfl
    · rcases hw1 with rfl | rfl <;> rfl
    · rcases hw1 with rfl | rfl <;> rfl
    · rw [hsz]; exact Nat.le_refl _
    · exact run_entry_at _ r bm since seen es clock e h1 (by rw [h2 _ hne]; exact hb) (mem_left he).1 hn
end
end Go.E


namespace Go.E
open Go

def tCond : Ty := .struct 36 [0, 1, 2, 3, 35] [(.int .u64), (.int .i64), (.int .u64), (.arr 32 (.int .u8)), (.int .u64)]
@[go_sem] theorem tCond_known : tCond.known = true := rfl
@[go_sem] theorem tCond_isStruct : tCond.isStruct = true := rfl
@[go_sem] theorem tCond_isAgg : tCond.isAgg = true := rfl
@[go_sem] theorem tCond_size : tCond.size = 36 := rfl
@[go_sem] theorem tCond_kidTys : tCond.kidTys = [(.int .u64), (.int .i64), (.int .u64), (.arr 32 (.int .u8)), (.int .u64)] := rfl
@[go_sem] theorem tCond_kids : tCond.kids = 5 := rfl
@[go_sem] theorem tCond_disj : tCond.disj = true := by kernel_rfl
@[go_sem] theorem tCond_get0 : tCond.get 0 = (.int .u64) := rfl
@[go_sem] theorem tCond_child0 : tCond.child 0 = some (0, (.int .u64)) := rfl
@[go_sem] theorem tCond_get1 : tCond.get 1 = (.int .i64) := rfl
@[go_sem] theorem tCond_child1 : tCond.child 1 = some (1, (.int .i64)) := rfl
@[go_sem] theorem tCond_get2 : tCond.get 2 = (.int .u64) := rfl
@[go_sem] theorem tCond_child2 : tCond.child 2 = some (2, (.int .u64)) := rfl
@[go_sem] theorem tCond_get3 : tCond.get 3 = (.arr 32 (.int .u8)) := rfl
@[go_sem] theorem tCond_child3 : tCond.child 3 = some (3, (.arr 32 (.int .u8))) := rfl
@[go_sem] theorem tCond_get4 : tCond.get 4 = (.int .u64) := rfl
@[go_sem] theorem tCond_child4 : tCond.child 4 = some (35, (.int .u64)) := rfl
@[go_sem] theorem tCond_zeroC : zeroC tCond = .agg [(.int 0), (.int 0), (.int 0), (zeroC (.arr 32 (.int .u8))), (.int 0)] := rfl
@[go_sem] theorem tCond_zero : zeroX tCond = .d tCond (zeroC tCond) := rfl
def tNotary2 : Ty := .struct 1 [0] [.map]
@[go_sem] theorem tNotary2_known : tNotary2.known = true := rfl
@[go_sem] theorem tNotary2_isStruct : tNotary2.isStruct = true := rfl
@[go_sem] theorem tNotary2_isAgg : tNotary2.isAgg = true := rfl
@[go_sem] theorem tNotary2_size : tNotary2.size = 1 := rfl
@[go_sem] theorem tNotary2_kidTys : tNotary2.kidTys = [.map] := rfl
@[go_sem] theorem tNotary2_kids : tNotary2.kids = 1 := rfl
@[go_sem] theorem tNotary2_disj : tNotary2.disj = true := by kernel_rfl
@[go_sem] theorem tNotary2_get0 : tNotary2.get 0 = .map := rfl
@[go_sem] theorem tNotary2_child0 : tNotary2.child 0 = some (0, .map) := rfl
@[go_sem] theorem tNotary2_zeroC : zeroC tNotary2 = .agg [.nil] := rfl
@[go_sem] theorem tNotary2_zero : zeroX tNotary2 = .d tNotary2 (zeroC tNotary2) := rfl
def tEntry2 : Ty := .struct 33 [0, 32] [(.arr 32 (.int .u8)), (.int .u64)]
@[go_sem] theorem tEntry2_known : tEntry2.known = true := rfl
@[go_sem] theorem tEntry2_isStruct : tEntry2.isStruct = true := rfl
@[go_sem] theorem tEntry2_isAgg : tEntry2.isAgg = true := rfl
@[go_sem] theorem tEntry2_size : tEntry2.size = 33 := rfl
@[go_sem] theorem tEntry2_kidTys : tEntry2.kidTys = [(.arr 32 (.int .u8)), (.int .u64)] := rfl
@[go_sem] theorem tEntry2_kids : tEntry2.kids = 2 := rfl
@[go_sem] theorem tEntry2_disj : tEntry2.disj = true := by kernel_rfl
@[go_sem] theorem tEntry2_get0 : tEntry2.get 0 = (.arr 32 (.int .u8)) := rfl
@[go_sem] theorem tEntry2_child0 : tEntry2.child 0 = some (0, (.arr 32 (.int .u8))) := rfl
@[go_sem] theorem tEntry2_get1 : tEntry2.get 1 = (.int .u64) := rfl
@[go_sem] theorem tEntry2_child1 : tEntry2.child 1 = some (32, (.int .u64)) := rfl
@[go_sem] theorem tEntry2_zeroC : zeroC tEntry2 = .agg [(zeroC (.arr 32 (.int .u8))), (.int 0)] := rfl
@[go_sem] theorem tEntry2_zero : zeroX tEntry2 = .d tEntry2 (zeroC tEntry2) := rfl
def tMill : Ty := .struct 73 [0, 8, 72] [(.arr 8 (.int .u32)), (.arr 64 (.int .u8)), (.int .u64)]
@[go_sem] theorem tMill_known : tMill.known = true := rfl
@[go_sem] theorem tMill_isStruct : tMill.isStruct = true := rfl
@[go_sem] theorem tMill_isAgg : tMill.isAgg = true := rfl
@[go_sem] theorem tMill_size : tMill.size = 73 := rfl
@[go_sem] theorem tMill_kidTys : tMill.kidTys = [(.arr 8 (.int .u32)), (.arr 64 (.int .u8)), (.int .u64)] := rfl
@[go_sem] theorem tMill_kids : tMill.kids = 3 := rfl
@[go_sem] theorem tMill_disj : tMill.disj = true := by kernel_rfl
@[go_sem] theorem tMill_get0 : tMill.get 0 = (.arr 8 (.int .u32)) := rfl
@[go_sem] theorem tMill_child0 : tMill.child 0 = some (0, (.arr 8 (.int .u32))) := rfl
@[go_sem] theorem tMill_get1 : tMill.get 1 = (.arr 64 (.int .u8)) := rfl
@[go_sem] theorem tMill_child1 : tMill.child 1 = some (8, (.arr 64 (.int .u8))) := rfl
@[go_sem] theorem tMill_get2 : tMill.get 2 = (.int .u64) := rfl
@[go_sem] theorem tMill_child2 : tMill.child 2 = some (72, (.int .u64)) := rfl
@[go_sem] theorem tMill_zeroC : zeroC tMill = .agg [(zeroC (.arr 8 (.int .u32))), (zeroC (.arr 64 (.int .u8))), (.int 0)] := rfl
@[go_sem] theorem tMill_zero : zeroX tMill = .d tMill (zeroC tMill) := rfl
end Go.E

