/-
 A framework for runs of Go code over abstract data: what it needs, and that it is sound, part 5.
 Conditions: none.
-/
import Derived.Test.YtdoajkacibicoaaDoorEd
set_option linter.all false
namespace Go.E
open Go
mutual
def Sh.fit {R : Type} : Sh → V → (List C → Option R) → Option R
 | .d τ, x, K => (match x with
  | .d τ' c => if τ' = τ then K [c] else none
  | _ => none)
 | .sl _ _ _, _, _ => none
 | .ts eb e, x, K => (match x with
  | .ts eb' e' cs => if eb' = eb ∧ e' = e then K [.slice cs] else none
  | _ => none)
 | .sr k q cp eb e, x, K => (match x with
  | .sr k' q' lo n cp' eb' e' => if k' = k ∧ q' = q ∧ eb' = eb ∧ e' = e then (match cp, cp' with
   | false, none => K [.int lo, .int n]
   | true, some c => K [.int lo, .int n, .int c]
   | _, _ => none) else none
  | _ => none)
 | .cptr τ, x, K => (match x with
  | .cptr τ' c => if τ' = τ then K [c] else none
  | _ => none)
 | .arr e, x, K => (match x with
  | .d (.arr n e') c => if e' = e then (if n = c.elems.length then K [c] else none) else none
  | _ => none)
 | .agg τ l, x, K => (match x with
  | .agg τ' vs => if τ' = τ then Sh.fits l vs K else none
  | _ => none)
 | .as v, x, K => if V.same x v = true then K [] else none
 | .vec k eb e, x, K => (match x with
  | .sr k' q' lo n cp' eb' e' => if k' = k ∧ q' = [] ∧ lo = 0 ∧ cp'.isNone = true ∧ eb' = eb ∧ e' = e then K [.int n] else none
  | _ => none)
 | .fnc f l, x, K => (match x with
  | .fn f' vs => if f' = f then q3u l vs K else none
  | _ => none)
def Sh.fits {R : Type} : List Sh → List V → (List C → Option R) → Option R
 | [], [], K => K []
 | s :: l, x :: xs, K => s.fit x fun d1 => Sh.fits l xs fun d2 => K (d1 ++ d2)
 | _, _, _ => none
end
mutual
theorem Sh.y4h {R : Type} {r : R} : ∀ (s : Sh) (x : V) {K : List C → Option R}, s.fit x K = some r → ∃ ds, K ds = some r ∧ ds.length = s.many ∧ s.fill 0 ds = x
 | .d τ, x, K, h => by
  cases x <;> simp only [Sh.fit, reduceCtorEq, Option.ite_none_right_eq_some] at h
  obtain ⟨rfl, h⟩ := h
  exact ⟨_, h, by simp [Sh.many], by simp [Sh.fill, dk]⟩
 | .sl _ _ _, x, K, h => by simp [Sh.fit] at h
 | .ts eb e, x, K, h => by
  cases x <;> simp only [Sh.fit, reduceCtorEq, Option.ite_none_right_eq_some] at h
  obtain ⟨⟨rfl, rfl⟩, h⟩ := h
  exact ⟨_, h, by simp [Sh.many], by simp [Sh.fill, dk, C.elems]⟩
 | .sr k q cp eb e, x, K, h => by
  cases x <;> simp only [Sh.fit, reduceCtorEq, Option.ite_none_right_eq_some] at h
  obtain ⟨⟨rfl, rfl, rfl, rfl⟩, h⟩ := h
  split at h
  ·exact ⟨_, h, by simp [Sh.many], by simp [Sh.fill, dk, C.toInt]⟩
  ·exact ⟨_, h, by simp [Sh.many], by simp [Sh.fill, dk, C.toInt]⟩
  ·cases h
 | .cptr τ, x, K, h => by
  cases x <;> simp only [Sh.fit, reduceCtorEq, Option.ite_none_right_eq_some] at h
  obtain ⟨rfl, h⟩ := h
  exact ⟨_, h, by simp [Sh.many], by simp [Sh.fill, dk]⟩
 | .arr e, x, K, h => by
  simp only [Sh.fit] at h
  split at h
  ·simp only [Option.ite_none_right_eq_some] at h
   obtain ⟨rfl, h1, h⟩ := h
   subst h1
   exact ⟨_, h, by simp [Sh.many], by simp [Sh.fill, dk]⟩
  ·cases h
 | .agg τ l, x, K, h => by
  cases x <;> simp only [Sh.fit, reduceCtorEq, Option.ite_none_right_eq_some] at h
  obtain ⟨rfl, h⟩ := h
  obtain ⟨ds, h1, h2, h3⟩ := Sh.z6m l _ h
  exact ⟨ds, h1, by simpa only [Sh.many] using h2, by simp only [Sh.fill]; rw [h3]⟩
 | .as v, x, K, h => by
  simp only [Sh.fit, Option.ite_none_right_eq_some] at h
  obtain ⟨h1, h⟩ := h
  have := V.z2e _ _ h1
  subst this
  exact ⟨_, h, by simp [Sh.many], by simp only [Sh.fill]⟩
 | .vec k eb e, x, K, h => by
  cases x <;> simp only [Sh.fit, reduceCtorEq, Option.ite_none_right_eq_some] at h
  obtain ⟨⟨rfl, rfl, rfl, hc, rfl, rfl⟩, h⟩ := h
  rename_i cp _ _
  cases cp with
  | some c => cases hc
  | none => exact ⟨_, h, by simp [Sh.many], by simp [Sh.fill, dk, C.toInt]⟩
 | .fnc f l, x, K, h => by
  cases x <;> simp only [Sh.fit, reduceCtorEq, Option.ite_none_right_eq_some] at h
  obtain ⟨rfl, h⟩ := h
  obtain ⟨ds, h1, h2, h3⟩ := q8l l _ h
  exact ⟨ds, h1, by simpa only [Sh.many] using h2, by simp only [Sh.fill, h3]⟩
theorem Sh.z6m {R : Type} {r : R} : ∀ (l : List Sh) (xs : List V) {K : List C → Option R}, Sh.fits l xs K = some r → ∃ ds, K ds = some r ∧ ds.length = Sh.q0T l ∧ Sh.U0 l 0 ds = xs
 | [], xs, K, h => by
  cases xs <;> simp only [Sh.fits, reduceCtorEq] at h
  exact ⟨_, h, by simp [Sh.q0T], by simp [Sh.U0]⟩
 | s :: l, [], K, h => by simp [Sh.fits] at h
 | s :: l, x :: xs, K, h => by
  simp only [Sh.fits] at h
  obtain ⟨d1, h1, h2, h3⟩ := Sh.y4h s x h
  obtain ⟨d2, h5, h6, h7⟩ := Sh.z6m l xs h1
  refine ⟨_, h5, by simp [Sh.q0T, h2, h6], ?_⟩
  have e1 : s.fill 0 (d1 ++ d2) = s.fill 0 d1 := Sh.q3m s 0 0 _ _ fun j hj => q0l (by omega)
  have e2 : Sh.U0 l s.many (d1 ++ d2) = Sh.U0 l 0 d2 := Sh.q6n l _ 0 _ _ fun j hj => by
   rw [q1c (by omega), h2]
   congr 1; omega
  simp only [Sh.U0, Nat.zero_add, e1, e2]
  rw [h3, h7]
end
def q6m {R : Type} (A : Key → Option O) : List (Key × OSh) → (List C → List Es → Option R) → Option R
 | [], K => K [] []
 | (k, .box sh) :: l, K => (match A k with
  | some (.box x) => sh.fit x fun d1 => q6m A l fun d2 m2 => K (d1 ++ d2) m2
  | _ => none)
 | (k, .map kτ vτ) :: l, K => (match A k with
  | some (.map kτ' vτ' es) => if kτ' = kτ ∧ vτ' = vτ then (if y0B vτ es = true then q6m A l fun d2 m2 => K d2 (unE es :: m2) else none) else none
  | _ => none)
 | _ :: _, _ => none
theorem z1K {R : Type} {r : R} {A : Key → Option O} : ∀ (l : List (Key × OSh)) {K : List C → List Es → Option R}, q6m A l K = some r →
  ∃ ds ms, K ds ms = some r ∧ ds.length = J6 l ∧ ∀ k o, z7 (u6 l 0 0 ds ms) k = some o → A k = some o
 | [], K, h => ⟨[], [], h, rfl, fun k o h => by simp [u6, z7] at h⟩
 | (j, .box sh) :: l, K, h => by
  simp only [q6m] at h
  split at h
  ·rename_i x hx
   obtain ⟨d1, h1, h2, h3⟩ := Sh.y4h sh x h
   obtain ⟨d2, ms, h4, h5, h6⟩ := z1K l h1
   refine ⟨_, ms, h4, by simp [J6, h2, h5], fun k o hk => ?_⟩
   have e1 : sh.fill 0 (d1 ++ d2) = sh.fill 0 d1 := Sh.q3m sh 0 0 _ _ fun j hj => q0l (by omega)
   have e2 : u6 l sh.many 0 (d1 ++ d2) ms = u6 l 0 0 d2 ms := F1 l _ 0 0 _ _ _ fun j hj => by
    rw [q1c (by omega), h2]
    congr 1; omega
   simp only [u6, Nat.zero_add, e1, e2, h3, z7] at hk
   split at hk
   ·rename_i e; subst e; cases hk; exact hx
   ·exact h6 k o hk
  ·cases h
 | (j, .map kτ vτ) :: l, K, h => by
  simp only [q6m] at h
  split at h
  ·rename_i kτ' vτ' es hx
   simp only [Option.ite_none_right_eq_some] at h
   obtain ⟨⟨rfl, rfl⟩, hd, h⟩ := h
   obtain ⟨d2, ms, h4, h5, h6⟩ := z1K l h
   refine ⟨_, _, h4, by simp [J6, h5], fun k o hk => ?_⟩
   simp only [u6, q3f, z7] at hk
   split at hk
   ·rename_i e; subst e; cases hk
    rw [show dm (unE es :: ms) 0 = unE es from rfl, y0o hd]; exact hx
   ·exact h6 k o hk
  ·cases h
 | (_, .dead _) :: l, K, h => by simp [q6m] at h
 | (_, .it) :: l, K, h => by simp [q6m] at h
mutual
def Sh.unP : Sh → V → List (Key × Key)
 | .as (.ptr (.g a) _ _), .ptr (.g b) _ _ => [(a, b)]
 | .as (.mp (.g a)), .mp (.g b) => [(a, b)]
 | .sr (.g a) _ _ _ _, .sr (.g b) _ _ _ _ _ _ => [(a, b)]
 | .vec (.g a) _ _, .sr (.g b) _ _ _ _ _ _ => [(a, b)]
 | .agg _ l, .agg _ xs => Sh.y16 l xs
 | _, _ => []
def Sh.y16 : List Sh → List V → List (Key × Key)
 | s :: l, x :: xs => s.unP x ++ Sh.y16 l xs
 | _, _ => []
end
def y6w : List (Key × Key) → Key → Key
 | [], k => k
 | (a, b) :: l, k => y6w l (q39 a b k)
def y19 (objs : List (Key × OSh)) (A : Key → Option O) : Nat → List (Key × Key) → List (Key × Key) → List Key → List (Key × Key)
 | 0, _, sw, _ => sw
 | _, [], sw, _ => sw
 | f + 1, (a, b) :: todo, sw, seen => if y2E a seen = true then y19 objs A f todo sw seen else
   (match y6w sw b with
   | b' => y19 objs A f ((match y2F objs a, A b with
     | some (.box sh), some (.box x) => sh.unP x
     | _, _ => []) ++ todo) (if a = b' then sw else sw ++ [(a, b')]) (a :: seen))
def y46 : List (Key × Key) → List V → List V
 | [], xs => xs
 | (a, b) :: l, xs => y46 l (xs.map (J2 a b))
def swA : List (Key × Key) → (Key → Option O) → Key → Option O
 | [], A => A
 | (a, b) :: l, A => swA l (q1w a b A)
def y42 : List (Key × Key) → V → V
 | [], x => x
 | (a, b) :: l, x => J2 a b (y42 l x)
def y43 : List (Key × Key) → List (Key × O) → List (Key × O)
 | [], x => x
 | (a, b) :: l, x => z2i a b (y43 l x)
theorem p8.sws {X : Cx} {f : FuncId} : ∀ (sw : List (Key × Key)) {xs : List V} {A : Key → Option O} {v : V} {L : List (Key × O)}, p8 X f (y46 sw xs) (swA sw A) v L → p8 X f xs A (y42 sw v) (y43 sw L)
 | [], xs, A, v, L, h => h
 | (a, b) :: l, xs, A, v, L, h => by
  have h1 := (p8.sws l h).swap a b
  have hxs : (xs.map (J2 a b)).map (J2 a b) = xs := by
   rw [List.map_map]
   exact (List.map_congr_left (g := id) fun x _ => z08 a b x).trans (List.map_id _)
  rw [hxs, y0V] at h1
  exact h1
def q9G (args : List Sh) (objs : List (Key × OSh)) {R : Type} (p : List C → List Es → (V → List (Key × O) → Option R) → Option R) : OvG R := fun xs A K =>
 match y19 objs A 1000 (Sh.y16 args xs) [] [] with
 | sw => Sh.fits args (y46 sw xs) fun d1 => q6m (swA sw A) objs fun d2 ms => p (d1 ++ d2) ms fun v L => K (y42 sw v) (y43 sw L)
theorem q5p {X : Cx} {f : FuncId} {args : List Sh} {objs : List (Key × OSh)} {R : Type} {p : List C → List Es → (V → List (Key × O) → Option R) → Option R}
  (hp : ∀ ds ms (K : V → List (Key × O) → Option R) r, p ds ms K = some r → ∃ v L, p8 X f (Sh.U0 args 0 ds) (z7 (u6 objs (Sh.q0T args) 0 ds ms)) v L ∧ K v L = some r) : GOk X f (q9G args objs p) := by
 intro xs A Kr r hr
 unfold q9G at hr
 dsimp only at hr
 generalize y19 objs A 1000 (Sh.y16 args xs) [] [] = sw at hr
 obtain ⟨d1, h1, h2, h3⟩ := Sh.z6m args _ hr
 obtain ⟨d2, ms, h4, h5, h6⟩ := z1K objs h1
 obtain ⟨v, L, h7, h8⟩ := hp _ _ _ _ h4
 refine ⟨_, _, p8.sws sw (v := v) (L := L) ?_, h8⟩
 have e1 : Sh.U0 args 0 (d1 ++ d2) = Sh.U0 args 0 d1 := Sh.q6n args 0 0 _ _ fun j hj => q0l (by omega)
 have e2 : u6 objs (Sh.q0T args) 0 (d1 ++ d2) ms = u6 objs 0 0 d2 ms := F1 objs _ 0 0 _ _ _ fun j hj => by
  rw [q1c (by omega), h2]
  congr 1; omega
 rw [e1, h3, e2] at h7
 exact h7.mono h6
def z2v : List (Nat × (List V → Option V)) → q1e
 | [], _ => none
 | (i, g) :: l, f => bif Nat.beq f i then some g else z2v l f
def q6B (X : Cx) : List (Nat × (List V → Option V)) → Prop
 | [] => True
 | p :: l => (∀ xs v, p.2 xs = some v → q8m X p.1 xs v) ∧ q6B X l
theorem z42 {X : Cx} : ∀ {l : List (Nat × (List V → Option V))}, q6B X l → q3x X (z2v l)
 | [], _ => fun f g xs v h _ => by cases h
 | (i, g0) :: l, h => fun f g xs v hf hv => by
  simp only [z2v] at hf
  cases hb : Nat.beq f i with
  | true =>
   rw [hb, cond_true] at hf
   cases hf
   obtain rfl := Nat.eq_of_beq_eq_true hb
   exact h.1 xs v hv
  | false =>
   rw [hb, cond_false] at hf
   exact z42 h.2 f g xs v hf hv
theorem q6B.append {X : Cx} : ∀ {l m : List (Nat × (List V → Option V))}, q6B X l → q6B X m → q6B X (l ++ m)
 | [], _, _, h => h
 | _ :: _, _, h, h' => ⟨h.1, h.2.append h'⟩
@[go_sem] theorem W6 {a0 : C} {l : List C} : dk (a0 :: l) 0 = a0 := rfl
@[go_sem] theorem q0V {a0 a1 : C} {l : List C} : dk (a0 :: a1 :: l) 1 = a1 := rfl
@[go_sem] theorem q1W {a0 a1 a2 : C} {l : List C} : dk (a0 :: a1 :: a2 :: l) 2 = a2 := rfl
@[go_sem] theorem q8D {a0 a1 a2 a3 : C} {l : List C} : dk (a0 :: a1 :: a2 :: a3 :: l) 3 = a3 := rfl
@[go_sem] theorem z6x {a0 a1 a2 a3 a4 : C} {l : List C} : dk (a0 :: a1 :: a2 :: a3 :: a4 :: l) 4 = a4 := rfl
@[go_sem] theorem y98 {a0 a1 a2 a3 a4 a5 : C} {l : List C} : dk (a0 :: a1 :: a2 :: a3 :: a4 :: a5 :: l) 5 = a5 := rfl
@[go_sem] theorem y97 {a0 a1 a2 a3 a4 a5 a6 : C} {l : List C} : dk (a0 :: a1 :: a2 :: a3 :: a4 :: a5 :: a6 :: l) 6 = a6 := rfl
@[go_sem] theorem x0T {a0 a1 a2 a3 a4 a5 a6 a7 : C} {l : List C} : dk (a0 :: a1 :: a2 :: a3 :: a4 :: a5 :: a6 :: a7 :: l) 7 = a7 := rfl
@[go_sem] theorem x0S {a0 a1 a2 a3 a4 a5 a6 a7 a8 : C} {l : List C} : dk (a0 :: a1 :: a2 :: a3 :: a4 :: a5 :: a6 :: a7 :: a8 :: l) 8 = a8 := rfl
@[go_sem] theorem x0R {a0 a1 a2 a3 a4 a5 a6 a7 a8 a9 : C} {l : List C} : dk (a0 :: a1 :: a2 :: a3 :: a4 :: a5 :: a6 :: a7 :: a8 :: a9 :: l) 9 = a9 := rfl
@[go_sem] theorem x0D {a0 a1 a2 a3 a4 a5 a6 a7 a8 a9 a10 : C} {l : List C} : dk (a0 :: a1 :: a2 :: a3 :: a4 :: a5 :: a6 :: a7 :: a8 :: a9 :: a10 :: l) 10 = a10 := rfl
@[go_sem] theorem x0C {a0 a1 a2 a3 a4 a5 a6 a7 a8 a9 a10 a11 : C} {l : List C} : dk (a0 :: a1 :: a2 :: a3 :: a4 :: a5 :: a6 :: a7 :: a8 :: a9 :: a10 :: a11 :: l) 11 = a11 := rfl
@[go_sem] theorem x0B {a0 a1 a2 a3 a4 a5 a6 a7 a8 a9 a10 a11 a12 : C} {l : List C} : dk (a0 :: a1 :: a2 :: a3 :: a4 :: a5 :: a6 :: a7 :: a8 :: a9 :: a10 :: a11 :: a12 :: l) 12 = a12 := rfl
@[go_sem] theorem x0A {a0 a1 a2 a3 a4 a5 a6 a7 a8 a9 a10 a11 a12 a13 : C} {l : List C} : dk (a0 :: a1 :: a2 :: a3 :: a4 :: a5 :: a6 :: a7 :: a8 :: a9 :: a10 :: a11 :: a12 :: a13 :: l) 13 = a13 := rfl
@[go_sem] theorem x0z {a0 a1 a2 a3 a4 a5 a6 a7 a8 a9 a10 a11 a12 a13 a14 : C} {l : List C} : dk (a0 :: a1 :: a2 :: a3 :: a4 :: a5 :: a6 :: a7 :: a8 :: a9 :: a10 :: a11 :: a12 :: a13 :: a14 :: l) 14 = a14 := rfl
@[go_sem] theorem x0y {a0 a1 a2 a3 a4 a5 a6 a7 a8 a9 a10 a11 a12 a13 a14 a15 : C} {l : List C} : dk (a0 :: a1 :: a2 :: a3 :: a4 :: a5 :: a6 :: a7 :: a8 :: a9 :: a10 :: a11 :: a12 :: a13 :: a14 :: a15 :: l) 15 = a15 := rfl
@[go_sem] theorem x0x {a0 a1 a2 a3 a4 a5 a6 a7 a8 a9 a10 a11 a12 a13 a14 a15 a16 : C} {l : List C} : dk (a0 :: a1 :: a2 :: a3 :: a4 :: a5 :: a6 :: a7 :: a8 :: a9 :: a10 :: a11 :: a12 :: a13 :: a14 :: a15 :: a16 :: l) 16 = a16 := rfl
@[go_sem] theorem x0w {a0 a1 a2 a3 a4 a5 a6 a7 a8 a9 a10 a11 a12 a13 a14 a15 a16 a17 : C} {l : List C} : dk (a0 :: a1 :: a2 :: a3 :: a4 :: a5 :: a6 :: a7 :: a8 :: a9 :: a10 :: a11 :: a12 :: a13 :: a14 :: a15 :: a16 :: a17 :: l) 17 = a17 := rfl
@[go_sem] theorem x0v {a0 a1 a2 a3 a4 a5 a6 a7 a8 a9 a10 a11 a12 a13 a14 a15 a16 a17 a18 : C} {l : List C} : dk (a0 :: a1 :: a2 :: a3 :: a4 :: a5 :: a6 :: a7 :: a8 :: a9 :: a10 :: a11 :: a12 :: a13 :: a14 :: a15 :: a16 :: a17 :: a18 :: l) 18 = a18 := rfl
@[go_sem] theorem x0u {a0 a1 a2 a3 a4 a5 a6 a7 a8 a9 a10 a11 a12 a13 a14 a15 a16 a17 a18 a19 : C} {l : List C} : dk (a0 :: a1 :: a2 :: a3 :: a4 :: a5 :: a6 :: a7 :: a8 :: a9 :: a10 :: a11 :: a12 :: a13 :: a14 :: a15 :: a16 :: a17 :: a18 :: a19 :: l) 19 = a19 := rfl
@[go_sem] theorem x0t {a0 a1 a2 a3 a4 a5 a6 a7 a8 a9 a10 a11 a12 a13 a14 a15 a16 a17 a18 a19 a20 : C} {l : List C} : dk (a0 :: a1 :: a2 :: a3 :: a4 :: a5 :: a6 :: a7 :: a8 :: a9 :: a10 :: a11 :: a12 :: a13 :: a14 :: a15 :: a16 :: a17 :: a18 :: a19 :: a20 :: l) 20 = a20 := rfl
@[go_sem] theorem x0s {a0 a1 a2 a3 a4 a5 a6 a7 a8 a9 a10 a11 a12 a13 a14 a15 a16 a17 a18 a19 a20 a21 : C} {l : List C} : dk (a0 :: a1 :: a2 :: a3 :: a4 :: a5 :: a6 :: a7 :: a8 :: a9 :: a10 :: a11 :: a12 :: a13 :: a14 :: a15 :: a16 :: a17 :: a18 :: a19 :: a20 :: a21 :: l) 21 = a21 := rfl
@[go_sem] theorem x0r {a0 a1 a2 a3 a4 a5 a6 a7 a8 a9 a10 a11 a12 a13 a14 a15 a16 a17 a18 a19 a20 a21 a22 : C} {l : List C} : dk (a0 :: a1 :: a2 :: a3 :: a4 :: a5 :: a6 :: a7 :: a8 :: a9 :: a10 :: a11 :: a12 :: a13 :: a14 :: a15 :: a16 :: a17 :: a18 :: a19 :: a20 :: a21 :: a22 :: l) 22 = a22 := rfl
@[go_sem] theorem x0q {a0 a1 a2 a3 a4 a5 a6 a7 a8 a9 a10 a11 a12 a13 a14 a15 a16 a17 a18 a19 a20 a21 a22 a23 : C} {l : List C} : dk (a0 :: a1 :: a2 :: a3 :: a4 :: a5 :: a6 :: a7 :: a8 :: a9 :: a10 :: a11 :: a12 :: a13 :: a14 :: a15 :: a16 :: a17 :: a18 :: a19 :: a20 :: a21 :: a22 :: a23 :: l) 23 = a23 := rfl
@[go_sem] theorem x0p {a0 a1 a2 a3 a4 a5 a6 a7 a8 a9 a10 a11 a12 a13 a14 a15 a16 a17 a18 a19 a20 a21 a22 a23 a24 : C} {l : List C} : dk (a0 :: a1 :: a2 :: a3 :: a4 :: a5 :: a6 :: a7 :: a8 :: a9 :: a10 :: a11 :: a12 :: a13 :: a14 :: a15 :: a16 :: a17 :: a18 :: a19 :: a20 :: a21 :: a22 :: a23 :: a24 :: l) 24 = a24 := rfl
@[go_sem] theorem x0o {a0 a1 a2 a3 a4 a5 a6 a7 a8 a9 a10 a11 a12 a13 a14 a15 a16 a17 a18 a19 a20 a21 a22 a23 a24 a25 : C} {l : List C} : dk (a0 :: a1 :: a2 :: a3 :: a4 :: a5 :: a6 :: a7 :: a8 :: a9 :: a10 :: a11 :: a12 :: a13 :: a14 :: a15 :: a16 :: a17 :: a18 :: a19 :: a20 :: a21 :: a22 :: a23 :: a24 :: a25 :: l) 25 = a25 := rfl
@[go_sem] theorem y9V {a0 : C} {l : List C} : C.get (.agg (a0 :: l)) 0 = a0 := rfl
@[go_sem] theorem y9U {a0 a1 : C} {l : List C} : C.get (.agg (a0 :: a1 :: l)) 1 = a1 := rfl
@[go_sem] theorem y9T {a0 a1 a2 : C} {l : List C} : C.get (.agg (a0 :: a1 :: a2 :: l)) 2 = a2 := rfl
@[go_sem] theorem y9S {a0 a1 a2 a3 : C} {l : List C} : C.get (.agg (a0 :: a1 :: a2 :: a3 :: l)) 3 = a3 := rfl
@[go_sem] theorem y9R {a0 a1 a2 a3 a4 : C} {l : List C} : C.get (.agg (a0 :: a1 :: a2 :: a3 :: a4 :: l)) 4 = a4 := rfl
@[go_sem] theorem y9Q {a0 a1 a2 a3 a4 a5 : C} {l : List C} : C.get (.agg (a0 :: a1 :: a2 :: a3 :: a4 :: a5 :: l)) 5 = a5 := rfl
@[go_sem] theorem y9P {a0 a1 a2 a3 a4 a5 a6 : C} {l : List C} : C.get (.agg (a0 :: a1 :: a2 :: a3 :: a4 :: a5 :: a6 :: l)) 6 = a6 := rfl
@[go_sem] theorem y9O {a0 a1 a2 a3 a4 a5 a6 a7 : C} {l : List C} : C.get (.agg (a0 :: a1 :: a2 :: a3 :: a4 :: a5 :: a6 :: a7 :: l)) 7 = a7 := rfl
@[go_sem] theorem y9N {a0 a1 a2 a3 a4 a5 a6 a7 a8 : C} {l : List C} : C.get (.agg (a0 :: a1 :: a2 :: a3 :: a4 :: a5 :: a6 :: a7 :: a8 :: l)) 8 = a8 := rfl
@[go_sem] theorem y9M {a0 a1 a2 a3 a4 a5 a6 a7 a8 a9 : C} {l : List C} : C.get (.agg (a0 :: a1 :: a2 :: a3 :: a4 :: a5 :: a6 :: a7 :: a8 :: a9 :: l)) 9 = a9 := rfl
@[go_sem] theorem y9r {a0 a1 a2 a3 a4 a5 a6 a7 a8 a9 a10 : C} {l : List C} : C.get (.agg (a0 :: a1 :: a2 :: a3 :: a4 :: a5 :: a6 :: a7 :: a8 :: a9 :: a10 :: l)) 10 = a10 := rfl
@[go_sem] theorem y9q {a0 a1 a2 a3 a4 a5 a6 a7 a8 a9 a10 a11 : C} {l : List C} : C.get (.agg (a0 :: a1 :: a2 :: a3 :: a4 :: a5 :: a6 :: a7 :: a8 :: a9 :: a10 :: a11 :: l)) 11 = a11 := rfl
@[go_sem] theorem y9p {a0 a1 a2 a3 a4 a5 a6 a7 a8 a9 a10 a11 a12 : C} {l : List C} : C.get (.agg (a0 :: a1 :: a2 :: a3 :: a4 :: a5 :: a6 :: a7 :: a8 :: a9 :: a10 :: a11 :: a12 :: l)) 12 = a12 := rfl
@[go_sem] theorem y9o {a0 a1 a2 a3 a4 a5 a6 a7 a8 a9 a10 a11 a12 a13 : C} {l : List C} : C.get (.agg (a0 :: a1 :: a2 :: a3 :: a4 :: a5 :: a6 :: a7 :: a8 :: a9 :: a10 :: a11 :: a12 :: a13 :: l)) 13 = a13 := rfl
@[go_sem] theorem y9n {a0 a1 a2 a3 a4 a5 a6 a7 a8 a9 a10 a11 a12 a13 a14 : C} {l : List C} : C.get (.agg (a0 :: a1 :: a2 :: a3 :: a4 :: a5 :: a6 :: a7 :: a8 :: a9 :: a10 :: a11 :: a12 :: a13 :: a14 :: l)) 14 = a14 := rfl
@[go_sem] theorem y9m {a0 a1 a2 a3 a4 a5 a6 a7 a8 a9 a10 a11 a12 a13 a14 a15 : C} {l : List C} : C.get (.agg (a0 :: a1 :: a2 :: a3 :: a4 :: a5 :: a6 :: a7 :: a8 :: a9 :: a10 :: a11 :: a12 :: a13 :: a14 :: a15 :: l)) 15 = a15 := rfl
@[go_sem] theorem y9J {a0 b : C} {l : List C} : C.set (.agg (a0 :: l)) 0 b = .agg (b :: l) := rfl
@[go_sem] theorem y9I {a0 a1 b : C} {l : List C} : C.set (.agg (a0 :: a1 :: l)) 1 b = .agg (a0 :: b :: l) := rfl
@[go_sem] theorem y9H {a0 a1 a2 b : C} {l : List C} : C.set (.agg (a0 :: a1 :: a2 :: l)) 2 b = .agg (a0 :: a1 :: b :: l) := rfl
@[go_sem] theorem y9G {a0 a1 a2 a3 b : C} {l : List C} : C.set (.agg (a0 :: a1 :: a2 :: a3 :: l)) 3 b = .agg (a0 :: a1 :: a2 :: b :: l) := rfl
@[go_sem] theorem y9F {a0 a1 a2 a3 a4 b : C} {l : List C} : C.set (.agg (a0 :: a1 :: a2 :: a3 :: a4 :: l)) 4 b = .agg (a0 :: a1 :: a2 :: a3 :: b :: l) := rfl
@[go_sem] theorem y9E {a0 a1 a2 a3 a4 a5 b : C} {l : List C} : C.set (.agg (a0 :: a1 :: a2 :: a3 :: a4 :: a5 :: l)) 5 b = .agg (a0 :: a1 :: a2 :: a3 :: a4 :: b :: l) := rfl
@[go_sem] theorem y9D {a0 a1 a2 a3 a4 a5 a6 b : C} {l : List C} : C.set (.agg (a0 :: a1 :: a2 :: a3 :: a4 :: a5 :: a6 :: l)) 6 b = .agg (a0 :: a1 :: a2 :: a3 :: a4 :: a5 :: b :: l) := rfl
@[go_sem] theorem y9C {a0 a1 a2 a3 a4 a5 a6 a7 b : C} {l : List C} : C.set (.agg (a0 :: a1 :: a2 :: a3 :: a4 :: a5 :: a6 :: a7 :: l)) 7 b = .agg (a0 :: a1 :: a2 :: a3 :: a4 :: a5 :: a6 :: b :: l) := rfl
attribute [go_sem] o5 Nat.beq_refl Bool.and_true Bool.true_and Bool.not_true Bool.not_false beq_self_eq_true Int.toNat_natCast decide_true decide_false Bool.cond_decide Int.toNat_zero Int.toNat_one
attribute [go_sem 500] Int.ofNat_eq_natCast
attribute [go_sem] Int.cast_ofNat_Int
@[go_sem] theorem y9K (n : Nat) : Int.ofNat (@OfNat.ofNat Nat n (instOfNatNat n)) = @OfNat.ofNat Int n instOfNat := rfl
@[go_sem] theorem y84 (n : Nat) : ((@OfNat.ofNat Nat n (instOfNatNat n) : Nat) : Int) = @OfNat.ofNat Int n instOfNat := rfl
@[go_sem] theorem y9L (a b : Bool) : z9z (.bool a) b = .bool b := rfl
theorem q8b {R : Type} {ι : Type} {F : KD R → List C → List Es → Option R} (st : ι → List C) (sm : ι → List Es) (μ : ι → Nat) (P : ι → Prop) (spec : ι → Option R)
  (h : ∀ i, P i → ∀ rec : KD R, (∀ j, P j → μ j < μ i → rec (st j) (sm j) = spec j) → F rec (st i) (sm i) = spec i) : ∀ (N : Nat) (i : ι), P i → μ i < N → b6 N F (st i) (sm i) = spec i
 | 0, _, _, h2 => absurd h2 (Nat.not_lt_zero _)
 | N + 1, i, h1, h2 => by
  rw [U7]
  exact h i h1 _ fun j hj hlt => q8b st sm μ P spec h N j hj (by omega)
theorem q8x {R : Type} {F : KD R → List C → List Es → Option R} (st : Nat → List C) (sm : Nat → List Es) (m : Nat) (r : Option R) (step : ∀ i, i < m → ∀ rec : KD R, F rec (st i) (sm i) = rec (st (i + 1)) (sm (i + 1))) (stop : ∀ rec : KD R, F rec (st m) (sm m) = r) {N : Nat} (hN : m < N) :
  b6 N F (st 0) (sm 0) = r := by
 refine q8b (F := F) st sm (fun i => m - i) (fun i => i ≤ m) (fun _ => r) (fun i hi rec hrec => ?_) N 0 (Nat.zero_le _) (by omega)
 by_cases e : i = m
 ·subst e; exact stop rec
 ·rw [step i (by omega) rec]
  exact hrec (i + 1) (by omega) (by omega)
theorem y4C {X : Cx} {f : FuncId} {ts : List Ty} {cs : List C} {A : Key → Option O} {v : V} {L : List (Key × O)} (h : (∀ (i : Nat) (t : Ty) (c : C), ts[i]? = some t → cs[i]? = some c → C.wf t c) → p8 X f (List.zipWith V.d ts cs) A v L) : p8 X f (List.zipWith V.d ts cs) A v L := by
 intro A' Γ w args hA hg hc hn hr
 refine h (fun i t c ht hcs => ?_) A' Γ w args hA hg hc hn hr
 have hx : (List.zipWith V.d ts cs)[i]? = some (.d t c) := by simp [List.getElem?_zipWith, ht, hcs]
 have hs : (W5 1000 (List.zipWith V.d ts cs))[i]? = some (.d t c) := by rw [q51, hx]; rfl
 have hl : i < args.size := by rw [← hn]; exact (List.getElem?_eq_some_iff.1 hx).1
 exact (hr i _ _ hs (Array.getElem?_eq_getElem hl)).wf
theorem y5H {w : World} {gl gl' : Nat → Option (Ty × C)} (h : z6I w gl) (hs : ∀ g x, gl' g = some x → gl g = some x) : z6I w gl' := fun g τ c hg => h g τ c (hs g (τ, c) hg)
theorem y8o {X : Cx} {f : FuncId} {g : OvG (V × List (Key × O))} (h : GOk X f g) {xs : List V} {A : Key → Option O} {v : V} {L : List (Key × O)} (hr : g xs A kR = some (v, L)) : p8 X f xs A v L := by
 obtain ⟨v', L', h1, h2⟩ := h xs A kR (v, L) hr
 simp only [kR, Option.some.injEq, Prod.mk.injEq] at h2
 obtain ⟨rfl, rfl⟩ := h2
 exact h1
def q0R {α σ ε : Type} (f : Nat → σ → α → σ ⊕ ε) : Nat → σ → List α → σ ⊕ ε
 | _, s, [] => .inl s
 | i, s, c :: l => match f i s c with
  | .inl s' => q0R f (i + 1) s' l
  | .inr e => .inr e
def z95 {R σ ε : Type} (fin : σ → Option R) (err : ε → Option R) : σ ⊕ ε → Option R
 | .inl s => fin s
 | .inr e => err e
theorem q6f {α R σ ε : Type} {F : KD R → List C → List Es → Option R} (st : Nat → σ → List C) (sm : Nat → σ → List Es) (l : List α) (f : Nat → σ → α → σ ⊕ ε) (fin : σ → Option R) (err : ε → Option R) (P : Nat → σ → Prop) {s0 : σ} {N : Nat}
  (h0 : P 0 s0) (step : ∀ i s c, l[i]? = some c → P i s → (∀ rec : KD R, F rec (st i s) (sm i s) = match f i s c with
   | .inl s' => rec (st (i + 1) s') (sm (i + 1) s')
   | .inr e => err e) ∧ (∀ s', f i s c = .inl s' → P (i + 1) s'))
  (stop : ∀ s, P l.length s → ∀ rec : KD R, F rec (st l.length s) (sm l.length s) = fin s) (hN : l.length < N) :
  b6 N F (st 0 s0) (sm 0 s0) = z95 fin err (q0R f 0 s0 l) := by
 have key := q8b (R := R) (ι := Nat × σ) (F := F) (fun x => st x.1 x.2) (fun x => sm x.1 x.2) (fun x => l.length - x.1) (fun x => x.1 ≤ l.length ∧ P x.1 x.2) (fun x => z95 fin err (q0R f x.1 x.2 (l.drop x.1)))
  (fun x hx rec hrec => ?_) N (0, s0) ⟨Nat.zero_le _, h0⟩ (by show l.length - 0 < N; omega)
 ·simpa using key
 ·obtain ⟨i, s⟩ := x
  obtain ⟨h1, h2⟩ := hx
  dsimp only at h1 h2 hrec ⊢
  by_cases h : i = l.length
  ·subst h
   rw [stop s h2, List.drop_length]
   rfl
  ·have hi : i < l.length := by omega
   obtain ⟨h3, h4⟩ := step i s l[i] (List.getElem?_eq_getElem hi) h2
   rw [h3, List.drop_eq_getElem_cons hi]
   simp only [q0R]
   cases hf : f i s l[i] with
   | inl s' => exact hrec (i + 1, s') ⟨hi, h4 s' hf⟩ (by dsimp only; omega)
   | inr e => rfl
theorem q0Y {i : Nat} (h : i < 4611686018427387904) : IntKind.i64.wrap ((i : Int) + 1) = ((i + 1 : Nat) : Int) := by rw [IntWalk.i64_in _ (by omega)]; omega
theorem wrap_u64 {n : Int} (h : 0 ≤ n) (h2 : n < 18446744073709551616) : IntKind.u64.wrap n = n := by
 have hm1 : IntKind.u64.min = 0 := by decide
 have hm2 : IntKind.u64.max = 18446744073709551615 := by decide
 exact q2y (by omega) (by omega)
open Go Go.ChangeShapes Go.WideShapes Go.RowKit
def z4T (P : Program) : List (String × DataW Unit) → Nat → Option (Ty × C)
 | [], _ => none
 | (n, d) :: r, g => if P.globalNamed n = some g then (match (P.globals[g]?).map (·.type) with
  | some t => (match d with
   | .iface _ _ => some (.iface, .bool true)
   | d => some (ty P t, cOf d))
  | none => none) else z4T P r g
def z3K (P : Program) (t : TypeId) : Bool := match P.underlying t with
 | some (.interface _) => true
 | _ => false
def z2o (P : Program) (l : List (String × DataW Unit)) : Bool := l.all fun x => match P.globalNamed x.1 with
 | some g => match (P.globals[g]?).map (·.type) with
  | some t => (match x.2 with
   | .iface _ _ => z3K P t
   | d => decide (t < P.types.size) && (ty P t).dat && (d.weights P t).all (· ≤ reachBytes))
  | none => false
 | none => false
theorem iface_of_trod {P : Program} {w : World} {b : Nat} {sp : Nat → Bool} {fuel : Nat} {t : TypeId} {cs : List Value} {s : String} {d : DataW Unit} {p : List MemPlace} (hu : z3K P t = true)
  (h : DataW.trod (fun _ => ()) P w b sp false fuel t cs = some (.iface s d, p)) : ∃ u v, cs = [.iface u v] := by
 unfold z3K at hu
 split at hu
 ·rename_i ms hu'
  cases fuel with
  | zero => simp [DataW.trod] at h
  | succ fuel =>
   unfold DataW.trod at h
   rw [hu'] at h
   split at h <;> simp_all
 ·cases hu
theorem z4S {P : Program} (hP : u3 P = true) {w : World} : ∀ {l : List (String × DataW Unit)} {ps : List MemPlace}, z2o P l = true → DataW.LaidVars P w l ps → z6I w (z4T P l)
 | [], _, _, _ => fun g τ c h => by simp [z4T] at h
 | (n, d) :: r, ps, hk, h => by
  obtain ⟨g0, t, cs, fuel, p, q, hg, ht, hv, hd, hr, _⟩ := h
  simp only [z2o, List.all_cons, Bool.and_eq_true, hg, ht] at hk
  obtain ⟨k1, k4⟩ := hk
  intro g τ c h
  simp only [z4T] at h
  split at h
  ·rename_i e
   rw [hg] at e; cases e
   rw [ht] at h
   simp only [World.var?, hg, Option.bind_some] at hv
   split at hv
   ·rename_i cc T fr hc
    cases hv
    cases hdd : d with
    | iface s d' =>
     subst hdd
     simp only at h k1
     cases h
     obtain ⟨u, v, e⟩ := iface_of_trod k1 hd
     refine ⟨cs.toList, by simp [q4Y, hc], by rw [e]; exact Nat.le_refl _, ?_⟩
     rw [e]
     exact .inr ⟨rfl, u, v, rfl⟩
    | _ =>
     subst hdd
     simp only [Bool.and_eq_true, decide_eq_true_eq] at h k1
     cases h
     obtain ⟨⟨k1, k2⟩, k3⟩ := k1
     have hrep := q30 hP (fun _ => rfl) fuel 12 k1 k2 hd k3
     have hl := hrep.length
     refine ⟨cs.toList, by simp [q4Y, hc], by show (tyF P 12 t).size ≤ _; omega, ?_⟩
     have : chunk cs.toList 0 (ty P t).size = cs.toList := by
      show chunk cs.toList 0 (tyF P 12 t).size = _
      rw [← hl]; exact q4u _
     rw [this]
     exact hrep
   ·cases hv
  ·exact z4S hP k4 hr g τ c h
theorem y4d {P : Program} (hP : u3 P = true) {w : World} {l : List (String × DataW Unit)} (hk : z2o P l = true) (hn : (l.all fun x => x.2.handleName?.isNone) = true) (h : laidMetH P l w) : z6I w (z4T P l) := by
 rw [MakeChecks.laidMetH_plain _ _ _ hn] at h
 obtain ⟨ps, h1, _⟩ := h
 exact z4S hP hk h1
def F2 : Ty := .struct 3 [0, 1, 2] [(.slice 8 (.int .u64)), (.slice 1 .bool), (.int .u64)]
@[go_sem] theorem y79 : F2.known = true := rfl
@[go_sem] theorem y6t : F2.J3 = true := rfl
@[go_sem] theorem y8a : F2.isAgg = true := rfl
@[go_sem] theorem y8P : F2.size = 3 := rfl
@[go_sem] theorem y7W : F2.q2r = [(.slice 8 (.int .u64)), (.slice 1 .bool), (.int .u64)] := rfl
@[go_sem] theorem y8Q : F2.kids = 3 := rfl
@[go_sem] theorem y8U : F2.J4 = true := by kernel_rfl
@[go_sem] theorem y8T : F2.get 0 = (.slice 8 (.int .u64)) := rfl
@[go_sem] theorem y7Z : F2.child 0 = some (0, (.slice 8 (.int .u64))) := rfl
@[go_sem] theorem y8S : F2.get 1 = (.slice 1 .bool) := rfl
@[go_sem] theorem y7Y : F2.child 1 = some (1, (.slice 1 .bool)) := rfl
@[go_sem] theorem y8R : F2.get 2 = (.int .u64) := rfl
@[go_sem] theorem y7X : F2.child 2 = some (2, (.int .u64)) := rfl
@[go_sem] theorem y78 : Y6 F2 = .agg [(.slice []), (.slice []), (.int 0)] := rfl
@[go_sem] theorem y8O : j3 F2 = .agg F2 [j3 (.slice 8 (.int .u64)), j3 (.slice 1 .bool), j3 (.int .u64)] := rfl
def q0k : Ty := .struct 3 [0, 1, 2] [.str, (.int .i64), (.int .i64)]
@[go_sem] theorem y82 : q0k.known = true := rfl
@[go_sem] theorem y60 : q0k.J3 = true := rfl
@[go_sem] theorem y83 : q0k.isAgg = true := rfl
@[go_sem] theorem y9c : q0k.size = 3 := rfl
@[go_sem] theorem y8e : q0k.q2r = [.str, (.int .i64), (.int .i64)] := rfl
@[go_sem] theorem y9d : q0k.kids = 3 := rfl
@[go_sem] theorem y9h : q0k.J4 = true := by kernel_rfl
@[go_sem] theorem y9g : q0k.get 0 = .str := rfl
@[go_sem] theorem y8h : q0k.child 0 = some (0, .str) := rfl
@[go_sem] theorem y9f : q0k.get 1 = (.int .i64) := rfl
@[go_sem] theorem y8g : q0k.child 1 = some (1, (.int .i64)) := rfl
@[go_sem] theorem y9e : q0k.get 2 = (.int .i64) := rfl
@[go_sem] theorem y8f : q0k.child 2 = some (2, (.int .i64)) := rfl
@[go_sem] theorem y81 : Y6 q0k = .agg [(.str []), (.int 0), (.int 0)] := rfl
@[go_sem] theorem y9b : j3 q0k = .d q0k (Y6 q0k) := rfl
def c9 : Ty := .struct 2 [0, 1] [(.slice 8 (.int .u64)), (.int .i64)]
@[go_sem] theorem y8c : c9.known = true := rfl
@[go_sem] theorem y6u : c9.J3 = true := rfl
@[go_sem] theorem y8d : c9.isAgg = true := rfl
@[go_sem] theorem y8W : c9.size = 2 := rfl
@[go_sem] theorem y70 : c9.q2r = [(.slice 8 (.int .u64)), (.int .i64)] := rfl
@[go_sem] theorem y8X : c9.kids = 2 := rfl
@[go_sem] theorem y80 : c9.J4 = true := by kernel_rfl
@[go_sem] theorem y8Z : c9.get 0 = (.slice 8 (.int .u64)) := rfl
@[go_sem] theorem y72 : c9.child 0 = some (0, (.slice 8 (.int .u64))) := rfl
@[go_sem] theorem y8Y : c9.get 1 = (.int .i64) := rfl
@[go_sem] theorem y71 : c9.child 1 = some (1, (.int .i64)) := rfl
@[go_sem] theorem y8b : Y6 c9 = .agg [(.slice []), (.int 0)] := rfl
@[go_sem] theorem y8V : j3 c9 = .agg c9 [j3 (.slice 8 (.int .u64)), j3 (.int .i64)] := rfl
end Go.E
