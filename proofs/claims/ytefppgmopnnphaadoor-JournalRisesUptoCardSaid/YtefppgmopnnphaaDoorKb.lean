/-
 What the functions on the way compute, part 2.
 Conditions: none.
-/
import Derived.Test.YtefppgmopnnphaaDoorKa
set_option linter.all false
namespace Go.Proofs.YtefppgmopnnphaaDoor
open Go Go.E
set_option maxRecDepth 100000
set_option maxHeartbeats 4000000
set_option linter.unusedVariables false
noncomputable def z2K : Hints := [([0, 1, 1, 1], ⟨[], [(0, .d .bool)], [], [], [], []⟩),
  ([9], ⟨[], [(0, .d .bool)], [], [], [], []⟩)]
noncomputable def q6T (N : Nat) : OvS (X0 gl0) where
 g R := [(28, q3l N), (24, z3U N), (25, z0l N), (36, q2u N), (50, z6j N), (38, q5O N)]
 ok := fun R => List.forall_mem_cons.2 ⟨z0J N, List.forall_mem_cons.2 ⟨z9R N, List.forall_mem_cons.2 ⟨z6V N, List.forall_mem_cons.2 ⟨q9g N, List.forall_mem_cons.2 ⟨y37 N, List.forall_mem_cons.2 ⟨z4s N, fun _ h => nomatch h⟩⟩⟩⟩⟩⟩
noncomputable def q2n {R : Type} (N : Nat) (k1 : KD R) : Option R := (jn (fun d1 m1 => (k1 [C.bool (C.toBool (dk d1 0))] [])) (fun k2 => (k2 [C.bool true] [])))
noncomputable def X5 {R : Type} (N : Nat) : KD R → Option R := lid "" (q2n N)
theorem q6S {R : Type} (N : Nat)  (k : KD R) : X5 N  k = q2n N  k := by unfold X5; rw [q0L]
theorem z1C {R : Type} (N : Nat)  (K : V → List (Key × O) → Option R) : exF (X0 gl0) ((q6T N).ov R) q3n (fun f r => bif Nat.beq f 11 then (bif Nat.beq r 8 then [(8, 6)] else []) else bif Nat.beq f 13 then (bif Nat.beq r 0 then [(1, 5)] else []) else bif Nat.beq f 29 then (bif Nat.beq r 0 then [(1, 5)] else bif Nat.beq r 7 then [(6, 6)] else []) else bif Nat.beq f 19 then (bif Nat.beq r 15 then [(9, 6)] else []) else []) (fun f => bif Nat.beq f 9 then z2K else []) N 3000 20 9 [] A0 K =
  X5 N  (fun d1 m1 => K (V.d Ty.bool (C.bool (C.toBool (dk d1 0)))) []) := by
 rw [q6S]
 exact (show _ = jn (fun d1 m1 => (K (V.d Ty.bool (C.bool (C.toBool (dk d1 0)))) [])) (q2n N ) by kernel_rfl).trans (J6 _ _)
noncomputable def q4J (N : Nat) {R : Type} : OvG R := fun xs _ K => match xs with
 | [] => X5 N  (fun d1 m1 => K (V.d Ty.bool (C.bool (C.toBool (dk d1 0)))) [])
 | _ => none
theorem z2J (N : Nat) {R : Type} : GOk (X0 gl0) 9 (q4J N (R := R)) := by
 intro xs A Kr r hr
 unfold q4J at hr
 split at hr
 ·skip
  rw [← z1C] at hr
  exact okA (q6T N) hr
 ·cases hr
end Go.Proofs.YtefppgmopnnphaaDoor
namespace Go.Proofs.YtefppgmopnnphaaDoor
open Go Go.E
set_option maxRecDepth 100000
set_option maxHeartbeats 4000000
set_option linter.unusedSimpArgs false
variable {R : Type} {N : Nat}
theorem y2X (k : KD R) : X5 N k = k [.bool true] [] := by
 rw [q6S]
 unfold q2n
 simp only [J6, q09, Z1]
def z2z : Es → C → C → Es
 | [], c, v => [(c, v)]
 | (k, u) :: l, c, v => if C.beq c k = true then (k, v) :: l else (k, u) :: z2z l c v
theorem z5m (τ : Ty) (c v : C) : ∀ m : Es, q35 (dE τ m) c (V.d τ v) = dE τ (z2z m c v)
 | [] => rfl
 | (k, u) :: m => by
  have ih := z5m τ c v m
  simp only [dE, List.map_cons, q35, z2z] at ih ⊢
  by_cases h : C.beq c k = true
  ·simp [h]
  ·simp [h, ih]
def mkE (s : List x7) : Es := s.map fun x => (.str x.1, r8 x)
def q0F : List x7 → List UInt8 → Int × Int
 | [], _ => (0, 0)
 | x :: s, n => if n = x.1 then x.2 else q0F s n
def Z4 : List x7 → List UInt8 → Int × Int → List x7
 | [], n, v => [(n, v)]
 | x :: s, n, v => if n = x.1 then (n, v) :: s else x :: Z4 s n v
theorem z8y (a b : List UInt8) : C.beq (.str a) (.str b) = decide (a = b) := by simp [C.beq]
theorem y03 (n : List UInt8) : ∀ s : List x7, (q80 (mkE s) (.str n) = true → getM (mkE s) (.str n) = r8 (n, q0F s n)) ∧ (q80 (mkE s) (.str n) = false → q0F s n = (0, 0))
 | [] => ⟨fun h => by simp [mkE, q80] at h, fun _ => rfl⟩
 | x :: s => by
  have ih := y03 n s
  simp only [mkE, List.map_cons, q80, getM, z8y, q0F] at ih ⊢
  by_cases h : n = x.1
  ·subst h
   simp [r8]
  ·simp only [h, decide_false, cond_false, if_false]
   exact ih
theorem y0w (n : List UInt8) (v : Int × Int) : ∀ s : List x7, z2z (mkE s) (.str n) (r8 (n, v)) = mkE (Z4 s n v)
 | [] => rfl
 | x :: s => by
  have ih := y0w n v s
  simp only [mkE, List.map_cons, z2z, z8y, Z4] at ih ⊢
  by_cases h : n = x.1
  ·subst h; simp
  ·simp only [h, decide_false, Bool.false_eq_true, if_false, List.map_cons]
   rw [ih]
def y3w (s : List x7) : Prop := ∀ x ∈ s, q9m x.2
theorem y0l : q9m (0, 0) := ⟨⟨by decide, by decide⟩, by decide, by decide⟩
theorem q82 {n : List UInt8} : ∀ {s : List x7}, y3w s → q9m (q0F s n)
 | [], _ => y0l
 | x :: s, h => by
  unfold q0F
  split
  ·exact h x (by simp)
  ·exact q82 fun y hy => h y (by simp [hy])
theorem z5M {n : List UInt8} {v : Int × Int} : ∀ {s : List x7} {y : x7}, y ∈ Z4 s n v → y = (n, v) ∨ y ∈ s
 | [], y, h => by simp [Z4] at h; exact .inl h
 | x :: s, y, h => by
  unfold Z4 at h
  split at h
  ·rcases List.mem_cons.1 h with h | h
   ·exact .inl h
   ·exact .inr (by simp [h])
  ·rcases List.mem_cons.1 h with h | h
   ·exact .inr (by simp [h])
   ·exact (z5M h).imp id fun h => by simp [h]
theorem q4Z {n : List UInt8} {v : Int × Int} : ∀ {s : List x7} {a : List UInt8}, a ∈ (Z4 s n v).map (·.1) ↔ a = n ∨ a ∈ s.map (·.1)
 | [], a => by simp [Z4]
 | x :: s, a => by
  unfold Z4
  split
  ·rename_i h; simp [h]
  ·have := q4Z (n := n) (v := v) (s := s) (a := a)
   simp only [List.map_cons, List.mem_cons, this]
   constructor
   ·rintro (h | h | h)
    ·exact .inr (.inl h)
    ·exact .inl h
    ·exact .inr (.inr h)
   ·rintro (h | h | h)
    ·exact .inr (.inl h)
    ·exact .inl h
    ·exact .inr (.inr h)
theorem z7X {n : List UInt8} {v : Int × Int} : ∀ {s : List x7}, (s.map (·.1)).Nodup → ((Z4 s n v).map (·.1)).Nodup
 | [], _ => by simp [Z4]
 | x :: s, h => by
  simp only [List.map_cons, List.nodup_cons] at h
  unfold Z4
  split
  ·rename_i e; subst e; simpa using h
  ·rename_i e
   simp only [List.map_cons, List.nodup_cons]
   refine ⟨fun hm => ?_, z7X h.2⟩
   rcases q4Z.1 hm with h1 | h1
   ·exact e h1.symm
   ·exact h.1 h1
theorem z5n {n : List UInt8} {v : Int × Int} : ∀ {s : List x7}, (Z4 s n v).length ≤ s.length + 1
 | [] => by simp [Z4]
 | x :: s => by
  unfold Z4
  split
  ·simp
  ·have := z5n (n := n) (v := v) (s := s); simp; omega
def q0U (s : List x7) (p : C) : List x7 ⊕ Unit := match q4S (q0F s (p.get 0).toStr) p with
 | .inl v => .inl (Z4 s (p.get 0).toStr v)
 | .inr e => .inr e
def z5a (s : List x7) (ps : List C) : List x7 ⊕ Unit := U2 (fun _ s p => q0U s p) 0 s ps
def q2e (h : Int) (s : List x7) (x : C) : List x7 ⊕ Unit := bif decide (h < (x.get 0).toInt) then .inl s else z5a s (x.get 1).elems
def q5s (h : Int) (s : List x7) (l : List C) : List x7 ⊕ Unit := U2 (fun _ s x => q2e h s x) 0 s l
def q0e (s : List x7) : Prop := y3w s ∧ (s.map (·.1)).Nodup
theorem z4U {s s' : List x7} {p : C} (hs : q0e s) (hp : C.wf c7 p) (h : q0U s p = .inl s') : q0e s' ∧ s'.length ≤ s.length + 1 := by
 unfold q0U at h
 cases ha : q4S (q0F s (p.get 0).toStr) p with
 | inr e => rw [ha] at h; cases h
 | inl v =>
  rw [ha] at h; cases h
  have hv := y4B (q82 hs.1) (z8Z hp) ha
  refine ⟨⟨fun y hy => ?_, z7X hs.2⟩, z5n⟩
  rcases z5M hy with rfl | hy
  ·exact hv
  ·exact hs.1 y hy
theorem z3k {α σ ε : Type} {f : Nat → σ → α → σ ⊕ ε} (P : Nat → σ → Prop) : ∀ (l : List α) (i : Nat) (s s' : σ), (∀ i s c s', c ∈ l → P i s → f i s c = .inl s' → P (i + 1) s') → P i s → U2 f i s l = .inl s' → P (i + l.length) s'
 | [], i, s, s', _, h, e => by cases e; exact h
 | c :: l, i, s, s', st, h, e => by
  simp only [U2] at e
  cases hf : f i s c with
  | inr x => rw [hf] at e; cases e
  | inl s1 =>
   rw [hf] at e
   have := z3k P l (i + 1) s1 s' (fun i s c s' hc => st i s c s' (by simp [hc])) (st i s c s1 (by simp) h hf) e
   rw [List.length_cons, show i + (l.length + 1) = i + 1 + l.length by omega]
   exact this
theorem z7Q {s s' : List x7} {ps : List C} (hs : q0e s) (hp : ∀ p ∈ ps, C.wf c7 p) (h : z5a s ps = .inl s') : q0e s' ∧ s'.length ≤ s.length + ps.length := by
 have := z3k (fun i t => q0e t ∧ t.length ≤ s.length + i) ps 0 s s' (fun i t c t' hc ht e => by
  obtain ⟨a, b⟩ := z4U ht.1 (hp c hc) e
  exact ⟨a, by have := ht.2; omega⟩) ⟨hs, by omega⟩ h
 simpa using this
def q7P (l : List C) : Nat := (l.map fun x => (x.get 1).elems.length).sum
theorem z2w {h : Int} : ∀ {l : List C} {s s' : List x7}, q0e s → (∀ x ∈ l, C.wf w5 x) → q5s h s l = .inl s' → q0e s' ∧ s'.length ≤ s.length + q7P l := by
 intro l
 have gen : ∀ (l : List C) (i : Nat) (s s' : List x7), q0e s → (∀ x ∈ l, C.wf w5 x) → U2 (fun _ s x => q2e h s x) i s l = .inl s' → q0e s' ∧ s'.length ≤ s.length + q7P l := by
  intro l
  induction l with
  | nil => intro i s s' hs _ e; cases e; exact ⟨hs, by simp⟩
  | cons x l ih =>
   intro i s s' hs hw e
   simp only [U2] at e
   cases hx : q2e h s x with
   | inr e' => rw [hx] at e; cases e
   | inl s1 =>
    rw [hx] at e
    have h1 : q0e s1 ∧ s1.length ≤ s.length + (x.get 1).elems.length := by
     unfold q2e at hx
     cases hb : decide (h < (x.get 0).toInt) with
     | true => rw [hb] at hx; cases hx; exact ⟨hs, by omega⟩
     | false => rw [hb] at hx; exact z7Q hs (z2S (hw x (by simp))).2.2 hx
    obtain ⟨a, b⟩ := ih (i + 1) s1 s' h1.1 (fun y hy => hw y (by simp [hy])) e
    refine ⟨a, ?_⟩
    have := h1.2
    simp only [q7P, List.map_cons, List.sum_cons] at b ⊢
    omega
 exact fun {s s'} hs hw e => gen l 0 s s' hs hw e
theorem y5P {p : C} (h : C.wf c7 p) : p.get 0 = .str (p.get 0).toStr := by
 have t := C.z0o (i := 0) (f := .str) h rfl
 simp only [C.wf] at t
 exact t.1
theorem y25 (ps : List C) (a b c d : C) (s : List x7) (hs : q0e s) (hp : ∀ p ∈ ps, C.wf c7 p) (hl : ps.length * 32 ≤ 140737488355328) (hN : 4398046511105 < N) (k1 k5 : KD R) :
  X3 N (Y5 N k1 k5) [a, b, c, d, .slice ps, .int (ps.length : Int), .int 0] [mkE s] = match z5a s ps with
   | .inl s' => k5 [a, b, c, d] [mkE s']
   | .inr _ => k1 [.slice [], .int 11] [] := by
 have key := q57 (N := N) (F := Y5 N k1 k5) (fun i (s : List x7) => [a, b, c, d, .slice ps, .int (ps.length : Int), .int (i : Int)]) (fun _ s => [mkE s]) ps
   (fun _ s p => q0U s p) (fun s => k5 [a, b, c, d] [mkE s]) (fun _ => k1 [.slice [], .int 11] []) (fun i s => i ≤ ps.length ∧ q0e s) (s0 := s) ⟨Nat.zero_le _, hs⟩
   (fun i s p hpi hi => ⟨fun rec => by
    have hi2 := (List.getElem?_eq_some_iff.1 hpi).1
    have h1 : (i : Int) < (ps.length : Int) := by omega
    have hw := hp p (List.mem_of_getElem? hpi)
    have hn := y5P hw
    have hg := q82 (n := (p.get 0).toStr) hi.2.1
    have hgE := y03 (p.get 0).toStr s
    have hv := z8Z hw
    have h3 : IntKind.i64.wrap ((i : Int) + 1) = ((i + 1 : Nat) : Int) := q1c (by omega)
    unfold Y5 q0U
    simp only [go_sem, J6, c9, Q1, Z1, h1, q5e hpi, decide_true, cond_true, Int.natCast_nonneg, and_self, if_true, Int.toNat_natCast, z8b, z8d, q3Y, z0V, q6D, z5m, h3]
    obtain ⟨g1, g2⟩ := hgE
    simp only [dm, List.getD_cons_zero] at g1 g2 ⊢
    rw [hn]
    simp only [y3r]
    generalize (p.get 0).toStr = n at g1 g2 hg ⊢
    have hput := fun v => y0w n v s
    unfold q4S
    cases hh : q80 (mkE s) (.str n) with
    | true =>
     rw [g1 hh]
     obtain ⟨q1, q2⟩ := hg
     generalize q0F s n = v at q1 q2 ⊢
     simp only [cond_true, r8, List.set_cons_zero, List.set_cons_succ, go_sem]
     rw [q56 _ _ (by simpa [c9] using q2) hv, q56 _ _ (by simpa [c9] using q1) hv]
     simp only [r8] at hput
     simp only [c9, q09, q1K, decide_true, Bool.not_true, cond_false]
     cases hb : (p.get 2).toBool with
     | true =>
      simp only [cond_true]
      by_cases h : v.2 + (p.get 1).toInt < 18446744073709551616
      ·simp only [h, if_true, q09, q1K, c9, decide_true, Bool.not_true, cond_false, hput (v.1, v.2 + (p.get 1).toInt)]
      ·simp [h, q09, q1K, c9]
     | false =>
      simp only [cond_false]
      by_cases h : v.1 + (p.get 1).toInt < 18446744073709551616
      ·simp only [h, if_true, q09, q1K, c9, decide_true, Bool.not_true, cond_false, hput (v.1 + (p.get 1).toInt, v.2)]
      ·simp [h, q09, q1K, c9]
    | false =>
     rw [g2 hh]
     obtain ⟨q1, q2⟩ := y0l
     have hput : ∀ w : Int × Int, z2z (mkE s) (C.str n) (r8 (n, w)) = mkE (Z4 s n w) := hput
     simp only [cond_false, List.set_cons_zero, List.set_cons_succ, go_sem]
     rw [q56 _ _ (by simpa [c9] using q2) hv, q56 _ _ (by simpa [c9] using q1) hv]
     simp only [r8] at hput
     simp only [c9, q09, q1K, decide_true, Bool.not_true, cond_false, Int.zero_add]
     cases hb : (p.get 2).toBool with
     | true =>
      simp only [cond_true]
      by_cases h : (p.get 1).toInt < 18446744073709551616
      ·simp only [h, if_true, q09, q1K, c9, decide_true, Bool.not_true, cond_false, hput (0, (p.get 1).toInt)]
      ·simp [h, q09, q1K, c9]
     | false =>
      simp only [cond_false]
      by_cases h : (p.get 1).toInt < 18446744073709551616
      ·simp only [h, if_true, q09, q1K, c9, decide_true, Bool.not_true, cond_false, hput ((p.get 1).toInt, 0)]
      ·simp [h, q09, q1K, c9], fun s' e => ⟨(List.getElem?_eq_some_iff.1 hpi).1, (z4U hi.2 (hp p (List.mem_of_getElem? hpi)) e).1⟩⟩)
   (fun s hs rec => by
    unfold Y5
    simp only [go_sem, c9, Q1, Z1, Int.lt_irrefl, decide_false, cond_false, q3Y, q6D, if_true]
    rfl) (by omega)
 refine key.trans ?_
 unfold z5a
 cases U2 (fun _ s p => q0U s p) 0 s ps <;> rfl
theorem y1w (l : List C) (h : Int) (hw : ∀ x ∈ l, C.wf w5 x) (hl : l.length * 32 ≤ 140737488355328) (hN : 4398046511105 < N) (k1 k2 : KD R) :
  X3 N (Y4 N k1 k2) [.int h, .slice l, .int (l.length : Int), .int 0] [mkE []] = match q5s h [] l with
   | .inl s' => k2 [] [mkE s']
   | .inr _ => k1 [.slice [], .int 11] [] := by
 have key := q57 (N := N) (F := Y4 N k1 k2) (fun i (s : List x7) => [.int h, .slice l, .int (l.length : Int), .int (i : Int)]) (fun _ s => [mkE s]) l
   (fun _ s x => q2e h s x) (fun s => k2 [] [mkE s]) (fun _ => k1 [.slice [], .int 11] []) (fun i s => i ≤ l.length ∧ q0e s) (s0 := []) ⟨Nat.zero_le _, fun x hx => (by cases hx), List.nodup_nil⟩
   (fun i s x hxi hi => ⟨fun rec => by
    have hi2 := (List.getElem?_eq_some_iff.1 hxi).1
    have h1 : (i : Int) < (l.length : Int) := by omega
    obtain ⟨p1, p2, p3⟩ := z2S (hw x (List.mem_of_getElem? hxi))
    have h3 : IntKind.i64.wrap ((i : Int) + 1) = ((i + 1 : Nat) : Int) := q1c (by omega)
    unfold Y4 q2e
    simp only [go_sem, J6, c9, Q1, Z1, h1, q5e hxi, decide_true, cond_true, Int.natCast_nonneg, and_self, if_true, Int.toNat_natCast, q3Y, z0V, q6D, h3]
    by_cases hb : h < (x.get 0).toInt
    ·rw [if_pos hb, if_pos hb]; rfl
    ·rw [if_neg hb, if_neg hb, p1, Q1]
     refine (y25 _ _ _ _ _ s hi.2 p3 p2 hN _ _).trans ?_
     cases z5a s (x.get 1).elems with
     | inl s' =>
      simp only [q09, q1K, z6F, z6E, c9, h3]
      rfl
     | inr e => rfl, fun s' e => ⟨(List.getElem?_eq_some_iff.1 hxi).1, by
      unfold q2e at e
      cases hb : decide (h < (x.get 0).toInt) with
      | true => rw [hb] at e; cases e; exact hi.2
      | false => rw [hb] at e; exact (z7Q hi.2 (z2S (hw x (List.mem_of_getElem? hxi))).2.2 e).1⟩⟩)
   (fun s hs rec => by
    unfold Y4
    simp only [go_sem, c9, Q1, Z1, Int.lt_irrefl, decide_false, cond_false, q3Y, q6D, if_true]
    rfl) (by omega)
 refine key.trans ?_
 unfold q5s
 cases U2 (fun _ s x => q2e h s x) 0 [] l <;> rfl
def srt (s : List x7) : List x7 := s.mergeSort fun x y => !Op.bytesLess y.1 x.1
theorem q3E (s : List x7) : (srt s).Perm s := List.mergeSort_perm _ _
theorem z07 (s : List x7) : (srt s).Pairwise fun x y => (!Op.bytesLess y.1 x.1) = true := by
 refine List.pairwise_mergeSort ?_ ?_ _
 ·intro a b c h1 h2
  simp only [Bool.not_eq_true'] at h1 h2 ⊢
  exact y1M h2 h1
 ·intro a b
  simp only [Bool.or_eq_true, Bool.not_eq_true']
  cases h : Op.bytesLess b.1 a.1 with
  | false => exact .inl rfl
  | true =>
   right
   cases h' : Op.bytesLess a.1 b.1 with
   | false => rfl
   | true => have := q9Q _ _ _ h h'; rw [q5P] at this; cases this
theorem y3g : ∀ {l : List (List UInt8)}, l.Nodup → ndB l = true
 | [], _ => rfl
 | x :: l, h => by
  rw [List.nodup_cons] at h
  simp only [ndB, Bool.and_eq_true, Bool.not_eq_true', List.contains_eq_mem, decide_eq_false_iff_not]
  exact ⟨h.1, y3g h.2⟩
theorem y3Y (x : x7) : q39 (r8 x) = x := rfl
theorem y0A {s : List x7} (hs : q0e s) (hn : s.length ≤ 1048576) : okL (mkE s) = true := by
 unfold okL
 rw [Bool.and_eq_true]
 refine ⟨Nat.ble_eq_true_of_le (by simpa [mkE] using hn), y3g ?_⟩
 have : (mkE s).map (fun e => q0s e.2) = s.map (·.1) := by simp only [mkE, List.map_map]; rfl
 rw [this]; exact hs.2
theorem y1S {s : List x7} (hs : q0e s) (hn : s.length ≤ 1048576) : q32 (mkE s) = (srt s).map r8 := by
 refine (q8s (y0A hs hn) (fun e he => ?_) ?_ ?_).symm
 ·obtain ⟨x, _, rfl⟩ := List.mem_map.1 he
  rfl
 ·have : (mkE s).map (fun e => q39 e.2) = s := by simp only [mkE, List.map_map]; exact (List.map_congr_left fun x _ => y3Y x).trans (List.map_id s)
  rw [this]; exact q3E s
 ·intro i j hij hj
  have := List.pairwise_iff_getElem.1 (z07 s) i j (by omega) hj hij
  rw [q8P, getElem!_pos _ j hj, getElem!_pos _ i (by omega)]
  simpa using this
theorem y26 (l : List C) (h : Int) (hw : ∀ x ∈ l, C.wf w5 x) (hl : l.length * 32 ≤ 140737488355328) (hc : q7P l ≤ 1048576) (hN : 4398046511105 < N) (k : KD R) :
  j6 N (.slice l) (.int h) k = match q5s h [] l with
   | .inl s => k [.slice ((srt s).map r8), .int 0] []
   | .inr _ => k [.slice [], .int 11] [] := by
 rw [q16]
 unfold W8
 simp only [J6, Q1, y3z]
 refine (y1w l h hw hl hN _ _).trans ?_
 cases hr : q5s h [] l with
 | inr e => rfl
 | inl s =>
  have hk := z2w (s := []) ⟨fun x hx => (by cases hx), List.nodup_nil⟩ hw hr
  have hn : s.length ≤ 1048576 := by have := hk.2; simp at this; omega
  simp only [dm, List.getD_cons_zero, q3Y, q6D, true_and, if_true, and_self, y0A hk.1 hn, cond_true, y1S hk.1 hn]
end Go.Proofs.YtefppgmopnnphaaDoor
namespace Go.Proofs.YtefppgmopnnphaaDoor
open Go Go.E
set_option maxRecDepth 100000
set_option maxHeartbeats 4000000
set_option linter.unusedVariables false
noncomputable def q6V : Hints := [([0, 2, 1, 0, 1, 1, 1, 1, 1], ⟨[], [(6, .d .bool)], [], [], [], []⟩),
  ([1, 0, 1, 1, 1, 1, 1, 1, 1, 1], ⟨[8], [(12, .d (.int .i64))], [], [], [], []⟩),
  ([4, 1, 0, 1, 1, 1, 1, 1, 1, 1, 1], ⟨[8, 47, 48], [(12, .d (.int .i64)), (49, .d (.int .i64))], [], [], [], []⟩),
  ([0, 1, 4, 0, 1, 1, 5, 4, 1, 0, 1, 1, 1, 1, 1, 1, 1, 1], ⟨[8, 12, 14, 47, 48, 49], [(66, .d .bool)], [], [], [], []⟩),
  ([1, 1, 4, 0, 1, 1, 5, 4, 1, 0, 1, 1, 1, 1, 1, 1, 1, 1], ⟨[8, 47, 48, 49], [(12, .d (.int .i64))], [], [], [], []⟩),
  ([0, 0, 2, 1, 1, 4, 0, 1, 1, 5, 4, 1, 0, 1, 1, 1, 1, 1, 1, 1, 1], ⟨[8, 12, 47, 48, 49], [(84, .d .bool)], [], [], [], []⟩),
  ([0, 1, 1, 1, 1, 1, 1, 1, 1, 1], ⟨[], [(6, .d .bool)], [], [], [], []⟩),
  ([9], ⟨[], [(6, .d .bool)], [], [], [], []⟩)]
noncomputable def q2S (N : Nat) : OvS (X0 gl0) where
 g R := [(8, q4I N), (9, q4J N), (10, q7x N), (16, q0E N)]
 ok := fun R => List.forall_mem_cons.2 ⟨z2F N, List.forall_mem_cons.2 ⟨z2J N, List.forall_mem_cons.2 ⟨z7r N, List.forall_mem_cons.2 ⟨q5E N, fun _ h => nomatch h⟩⟩⟩⟩
noncomputable def Y0 {R : Type} (N : Nat) (k1 : KD R) (k2 : KD R) : KD R → List C → List Es → Option R := (fun k3 d5 m5 => (bif decide (C.toInt (dk d5 4) < C.toInt (dk d5 2)) then (if 0 ≤ C.toInt (dk d5 4) ∧ C.toInt (dk d5 4) < (↑(List.length (C.elems (dk d5 1))) : Int) then (jn (fun d6 m6 => (jn (fun d7 m7 => (k3 [dk d7 0, dk d7 1, dk d7 2, dk d7 4, C.int (IntKind.wrap IntKind.i64 (C.toInt (dk d7 3) + 1))] [])) (fun k4 => (bif C.toBool (dk d6 6) then (jn (fun d7 m7 => (bif C.toBool (dk d7 5) then (k1 [C.bool false] []) else (k4 [dk d7 0, dk d7 2, dk d7 3, dk d7 4, C.int (IntKind.wrap IntKind.i64 (C.toInt (dk d7 1) + 1))] []))) (fun k5 => (if 0 ≤ C.toInt (dk d6 1) ∧ C.toInt (dk d6 1) < (↑(List.length (C.elems (dk d6 0))) : Int) then (bif decide (C.toInt (C.get (dk d6 2) 1) < C.toInt (C.get (List.getD (C.elems (dk d6 0)) (Int.toNat (C.toInt (dk d6 1))) C.nil) 1)) then (k5 [dk d6 0, dk d6 1, dk d6 3, dk d6 4, dk d6 5, C.bool true] []) else (if 0 ≤ C.toInt (dk d6 1) ∧ C.toInt (dk d6 1) < (↑(List.length (C.elems (dk d6 0))) : Int) then (k5 [dk d6 0, dk d6 1, dk d6 3, dk d6 4, dk d6 5, C.bool (decide (C.toInt (C.get (dk d6 2) 2) < C.toInt (C.get (List.getD (C.elems (dk d6 0)) (Int.toNat (C.toInt (dk d6 1))) C.nil) 2)))] []) else none)) else none))) else (k4 [dk d6 0, dk d6 3, dk d6 4, dk d6 5, dk d6 1] []))))) (fun k4 => (bif decide (C.toInt (dk d5 3) < (↑(List.length (C.elems (dk d5 0))) : Int)) then (if 0 ≤ C.toInt (dk d5 3) ∧ C.toInt (dk d5 3) < (↑(List.length (C.elems (dk d5 0))) : Int) then (k4 [dk d5 0, dk d5 3, List.getD (C.elems (dk d5 1)) (Int.toNat (C.toInt (dk d5 4))) C.nil, dk d5 1, dk d5 2, dk d5 4, C.bool (C.toStr (C.get (List.getD (C.elems (dk d5 0)) (Int.toNat (C.toInt (dk d5 3))) C.nil) 0) == C.toStr (C.get (List.getD (C.elems (dk d5 1)) (Int.toNat (C.toInt (dk d5 4))) C.nil) 0))] []) else none) else (k4 [dk d5 0, dk d5 3, List.getD (C.elems (dk d5 1)) (Int.toNat (C.toInt (dk d5 4))) C.nil, dk d5 1, dk d5 2, dk d5 4, C.bool false] [])))) else none) else (k2 [dk d5 0, dk d5 3] [])))
noncomputable def H4 {R : Type} (N : Nat) (a0 a1 a2 : C) (k1 : KD R) : Option R := (q0I N a0 (fun d1 m1 => (bif !C.toBool (dk d1 0) then (X5 N (fun d2 m2 => (k1 [C.bool (C.toBool (dk d2 0))] []))) else (q2k N a0 (fun d2 m2 => (j6 N (C.slice (C.elems (dk d2 0))) (C.int (if C.toInt a2 < C.toInt a1 then C.toInt a2 else C.toInt a1)) (fun d3 m3 => (j6 N (C.slice (C.elems (dk d2 0))) (C.int (if C.toInt a1 < C.toInt a2 then C.toInt a2 else C.toInt a1)) (fun d4 m4 => (bif !decide (C.toInt (dk d3 1) = 0) then (jn (fun d5 m5 => (k1 [C.bool (C.toBool (dk d5 0))] [])) (fun k2 => (X5 N (fun d5 m5 => (bif C.toBool (dk d5 0) then (k2 [C.bool !decide (C.toInt (dk d4 1) = 0)] []) else (k2 [C.bool false] [])))))) else (bif !decide (C.toInt (dk d4 1) = 0) then (X5 N (fun d5 m5 => (k1 [C.bool (C.toBool (dk d5 0))] []))) else (jn (fun d5 m5 => (jn (fun d6 m6 => (k1 [C.bool (C.toBool (dk d6 0))] [])) (fun k2 => (X5 N (fun d6 m6 => (bif C.toBool (dk d6 0) then (k2 [C.bool (decide (C.toInt (dk d5 1) = (↑(List.length (C.elems (dk d5 0))) : Int)))] []) else (k2 [C.bool false] []))))))) (fun k2 => (X3 N (Y0 N k1 k2) [dk d3 0, dk d4 0, C.int (↑(List.length (C.elems (dk d4 0))) : Int), C.int 0, C.int 0] []))))))))))))))
noncomputable def W7 {R : Type} (N : Nat) : C → C → C → KD R → Option R := lid "" (H4 N)
theorem q2R {R : Type} (N : Nat) (a0 a1 a2 : C) (k : KD R) : W7 N a0 a1 a2 k = H4 N a0 a1 a2 k := by unfold W7; rw [q0L]
theorem q6r {R : Type} (N : Nat) (a0 a1 a2 : C) (K : V → List (Key × O) → Option R) : exF (X0 gl0) ((q2S N).ov R) q3n (fun f r => bif Nat.beq f 4 then (bif Nat.beq r 14 then [(14, 6)] else bif Nat.beq r 15 then [(14, 6)] else []) else []) (fun f => bif Nat.beq f 4 then q6V else []) N 400 8 4 [.d (.slice 32 w5) a0, .d (.int .u64) a1, .d (.int .u64) a2] A0 K =
  W7 N a0 a1 a2 (fun d1 m1 => K (V.d Ty.bool (C.bool (C.toBool (dk d1 0)))) []) := by
 rw [q2R]
 exact (show _ = jn (fun d1 m1 => (K (V.d Ty.bool (C.bool (C.toBool (dk d1 0)))) [])) (H4 N a0 a1 a2) by kernel_rfl).trans (J6 _ _)
noncomputable def q0b (N : Nat) {R : Type} : OvG R := fun xs _ K => match xs with
 | [.d t0 a0, .d t1 a1, .d t2 a2] => if t0 = (.slice 32 w5) ∧ t1 = (.int .u64) ∧ t2 = (.int .u64) then W7 N a0 a1 a2 (fun d1 m1 => K (V.d Ty.bool (C.bool (C.toBool (dk d1 0)))) []) else none
 | _ => none
theorem q6U (N : Nat) {R : Type} : GOk (X0 gl0) 4 (q0b N (R := R)) := by
 intro xs A Kr r hr
 unfold q0b at hr
 split at hr
 ·simp only [Option.ite_none_right_eq_some] at hr
  obtain ⟨hty, hr⟩ := hr
  obtain ⟨rfl, rfl, rfl⟩ := hty
  rw [← q6r] at hr
  exact okA (q2S N) hr
 ·cases hr
end Go.Proofs.YtefppgmopnnphaaDoor
namespace Go.Proofs.YtefppgmopnnphaaDoor
open Go Go.E
set_option maxRecDepth 100000
set_option maxHeartbeats 4000000
set_option linter.unusedSimpArgs false
variable {R : Type} {N : Nat}
def Low (s t : List x7) : Prop := ∀ n, (n ∈ s.map (·.1) → n ∈ t.map (·.1)) ∧ (q0F s n).1 ≤ (q0F t n).1 ∧ (q0F s n).2 ≤ (q0F t n).2
theorem q7F (n m : List UInt8) (v : Int × Int) : ∀ s : List x7, q0F (Z4 s n v) m = if m = n then v else q0F s m
 | [] => by simp [Z4, q0F]
 | x :: s => by
  have ih := q7F n m v s
  unfold Z4
  by_cases h : n = x.1
  ·subst h
   rw [if_pos rfl]
   simp only [q0F]
   by_cases e : m = x.1 <;> simp [e]
  ·rw [if_neg h]
   simp only [q0F]
   by_cases e : m = x.1
   ·rw [if_pos e, if_pos e]
    rw [if_neg (fun h' => h (h'.symm.trans e))]
   ·rw [if_neg e, if_neg e, ih]
theorem y24 {u v u' : Int × Int} {p : C} (h : q4S u p = .inl u') (h1 : v.1 ≤ u.1) (h2 : v.2 ≤ u.2) : ∃ v', q4S v p = .inl v' ∧ v'.1 ≤ u'.1 ∧ v'.2 ≤ u'.2 := by
 unfold q4S at h ⊢
 cases hb : (p.get 2).toBool with
 | true =>
  rw [hb] at h
  simp only [cond_true] at h ⊢
  split at h
  ·cases h
   rw [if_pos (by omega)]
   exact ⟨_, rfl, h1, by simp only; omega⟩
  ·cases h
 | false =>
  rw [hb] at h
  simp only [cond_false] at h ⊢
  split at h
  ·cases h
   rw [if_pos (by omega)]
   exact ⟨_, rfl, by simp only; omega, h2⟩
  ·cases h
theorem y4A {u u' : Int × Int} {p : C} (h : q4S u p = .inl u') (hp : W64 (p.get 1).toInt) : u.1 ≤ u'.1 ∧ u.2 ≤ u'.2 := by
 obtain ⟨hp1, hp2⟩ := hp
 unfold q4S at h
 cases hb : (p.get 2).toBool <;> rw [hb] at h <;> simp only [cond_true, cond_false] at h <;> split at h <;> cases h <;> simp only <;> omega
theorem y0g {s t t' : List x7} {p : C} (hl : Low s t) (h : q0U t p = .inl t') : ∃ s', q0U s p = .inl s' ∧ Low s' t' := by
 unfold q0U at h ⊢
 cases ha : q4S (q0F t (p.get 0).toStr) p with
 | inr e => rw [ha] at h; cases h
 | inl v =>
  rw [ha] at h; cases h
  obtain ⟨w, h1, h2, h3⟩ := y24 ha (hl (p.get 0).toStr).2.1 (hl (p.get 0).toStr).2.2
  rw [h1]
  refine ⟨_, rfl, fun n => ⟨fun hn => ?_, ?_⟩⟩
  ·rw [q4Z] at hn ⊢
   exact hn.imp id (hl n).1
  ·rw [q7F, q7F]
   split
   ·exact ⟨h2, h3⟩
   ·exact (hl n).2
theorem y1R {s t t' : List x7} {p : C} (hl : Low s t) (hp : C.wf c7 p) (h : q0U t p = .inl t') : Low s t' := by
 unfold q0U at h
 cases ha : q4S (q0F t (p.get 0).toStr) p with
 | inr e => rw [ha] at h; cases h
 | inl v =>
  rw [ha] at h; cases h
  have hu := y4A ha (z8Z hp)
  intro n
  refine ⟨fun hn => q4Z.2 (.inr ((hl n).1 hn)), ?_⟩
  rw [q7F]
  split
  ·rename_i e
   subst e
   exact ⟨Int.le_trans (hl _).2.1 hu.1, Int.le_trans (hl _).2.2 hu.2⟩
  ·exact (hl n).2
theorem z43 : ∀ {ps : List C} {i : Nat} {s t t' : List x7}, Low s t → U2 (fun _ s p => q0U s p) i t ps = .inl t' → ∃ s', U2 (fun _ s p => q0U s p) i s ps = .inl s' ∧ Low s' t'
 | [], _, s, t, t', hl, h => by cases h; exact ⟨s, rfl, hl⟩
 | p :: ps, i, s, t, t', hl, h => by
  simp only [U2] at h ⊢
  cases hs : q0U t p with
  | inr e => rw [hs] at h; cases h
  | inl t1 =>
   rw [hs] at h
   obtain ⟨s1, h1, h2⟩ := y0g hl hs
   rw [h1]
   exact z43 h2 h
theorem z7P : ∀ {ps : List C} {i : Nat} {s t t' : List x7}, Low s t → (∀ p ∈ ps, C.wf c7 p) → U2 (fun _ s p => q0U s p) i t ps = .inl t' → Low s t'
 | [], _, s, t, t', hl, _, h => by cases h; exact hl
 | p :: ps, i, s, t, t', hl, hw, h => by
  simp only [U2] at h
  cases hs : q0U t p with
  | inr e => rw [hs] at h; cases h
  | inl t1 =>
   rw [hs] at h
   exact z7P (y1R hl (hw p (by simp)) hs) (fun q hq => hw q (by simp [hq])) h
theorem z42 {a b : Int} (hab : a ≤ b) : ∀ {l : List C} {i : Nat} {s t t' : List x7}, Low s t → (∀ x ∈ l, C.wf w5 x) → U2 (fun _ s x => q2e b s x) i t l = .inl t' → ∃ s', U2 (fun _ s x => q2e a s x) i s l = .inl s' ∧ Low s' t'
 | [], _, s, t, t', hl, _, h => by cases h; exact ⟨s, rfl, hl⟩
 | x :: l, i, s, t, t', hl, hw, h => by
  simp only [U2] at h ⊢
  cases hx : q2e b t x with
  | inr e => rw [hx] at h; cases h
  | inl t1 =>
   rw [hx] at h
   have : ∃ s1, q2e a s x = .inl s1 ∧ Low s1 t1 := by
    unfold q2e at hx ⊢
    by_cases h1 : b < (x.get 0).toInt
    ·have h2 : a < (x.get 0).toInt := by omega
     simp only [h1, h2, decide_true, cond_true] at hx ⊢
     cases hx
     exact ⟨s, rfl, hl⟩
    ·by_cases h2 : a < (x.get 0).toInt
     ·simp only [h1, h2, decide_true, decide_false, cond_true, cond_false] at hx ⊢
      exact ⟨s, rfl, z7P hl (z2S (hw x (by simp))).2.2 hx⟩
     ·simp only [h1, h2, decide_false, cond_false] at hx ⊢
      exact z43 hl hx
   obtain ⟨s1, h1, h2⟩ := this
   rw [h1]
   exact z42 hab h2 (fun y hy => hw y (by simp [hy])) h
def Asc (s : List x7) : Prop := s.Pairwise fun x y => Op.bytesLess x.1 y.1 = true
theorem z7N {s : List x7} (hs : q0e s) : Asc (srt s) := by
 have h1 := z07 s
 have h2 : ((srt s).map (·.1)).Nodup := ((q3E s).map _).nodup_iff.2 hs.2
 rw [List.nodup_iff_pairwise_ne, List.pairwise_map] at h2
 refine (h1.and h2).imp fun {x y} h => ?_
 simp only [Bool.not_eq_true'] at h
 rcases z2h x.1 y.1 with g | g | g
 ·exact g
 ·exact absurd g h.2
 ·rw [g] at h; cases h.1
def q2F (lo : List x7) (at_ : Nat) (x : x7) : Nat ⊕ Unit := match lo[at_]? with
 | none => .inl at_
 | some y => if y.1 = x.1 then (if x.2.1 < y.2.1 ∨ x.2.2 < y.2.2 then .inr () else .inl (at_ + 1)) else .inl at_
theorem q9R {lo : List x7} : ∀ {hi : List x7} {i at_ : Nat}, Asc hi → Asc lo → at_ ≤ lo.length → (∀ y ∈ lo.drop at_, ∃ x ∈ hi, x.1 = y.1 ∧ y.2.1 ≤ x.2.1 ∧ y.2.2 ≤ x.2.2) → U2 (fun _ a x => q2F lo a x) i at_ hi = .inl lo.length
 | [], i, at_, _, _, hle, h => by
  simp only [U2]
  have : lo.drop at_ = [] := by
   cases hd : lo.drop at_ with
   | nil => rfl
   | cons y l => obtain ⟨x, hx, _⟩ := h y (by rw [hd]; simp); cases hx
  have := List.drop_eq_nil_iff.1 this
  rw [show at_ = lo.length by omega]
 | x :: hi, i, at_, ha, hl, hle, h => by
  have ha' := List.pairwise_cons.1 ha
  simp only [U2]
  cases hy : lo[at_]? with
  | none =>
   have : lo.length ≤ at_ := List.getElem?_eq_none_iff.1 hy
   have hst : q2F lo at_ x = .inl at_ := by unfold q2F; rw [hy]
   rw [hst]
   refine q9R ha'.2 hl hle fun y hy' => ?_
   rw [List.drop_eq_nil_of_le this] at hy'; cases hy'
  | some y =>
   obtain ⟨hlt, he⟩ := List.getElem?_eq_some_iff.1 hy
   have hd : lo.drop at_ = y :: lo.drop (at_ + 1) := by rw [List.drop_eq_getElem_cons hlt, he]
   have hld : (lo.drop at_).Pairwise fun x y => Op.bytesLess x.1 y.1 = true := hl.sublist (List.drop_sublist _ _)
   rw [hd] at hld
   have hld := List.pairwise_cons.1 hld
   have hrest : ∀ z ∈ lo.drop (at_ + 1), x.1 = y.1 → ∃ w ∈ hi, w.1 = z.1 ∧ z.2.1 ≤ w.2.1 ∧ z.2.2 ≤ w.2.2 := by
    intro z hz e
    obtain ⟨w, hw, q⟩ := h z (by rw [hd]; simp [hz])
    rcases List.mem_cons.1 hw with rfl | hw
    ·have := hld.1 z hz
     rw [← e, q.1, q5P] at this; cases this
    ·exact ⟨w, hw, q⟩
   obtain ⟨w, hw, q1, q2, q3⟩ := h y (by rw [hd]; simp)
   by_cases e : y.1 = x.1
   ·have hwx : w = x := by
     rcases List.mem_cons.1 hw with rfl | hw
     ·rfl
     ·have := ha'.1 w hw
      rw [q1, e, q5P] at this; cases this
    subst hwx
    have hst : q2F lo at_ w = .inl (at_ + 1) := by
     unfold q2F; rw [hy]
     simp only
     rw [if_pos e, if_neg (by omega)]
    rw [hst]
    exact q9R ha'.2 hl hlt fun z hz => hrest z hz e.symm
   ·have hst : q2F lo at_ x = .inl at_ := by
     unfold q2F; rw [hy]
     simp only
     rw [if_neg e]
    rw [hst]
    refine q9R ha'.2 hl hle fun z hz => ?_
    obtain ⟨w', hw', q⟩ := h z hz
    rcases List.mem_cons.1 hw' with rfl | hw'
    ·-- a later one has the higher one's first name: then the next one's name is less, and is nowhere
     rw [hd] at hz
     rcases List.mem_cons.1 hz with rfl | hz
     ·exact absurd q.1.symm e
     ·have h1 := hld.1 z hz
      rcases List.mem_cons.1 hw with rfl | hw
      ·exact absurd q1.symm e
      ·have h2 := ha'.1 w hw
       rw [q1, q.1] at h2
       have := q9Q _ _ _ h1 h2
       rw [q5P] at this; cases this
    ·exact ⟨w', hw', q⟩
theorem z0K : ∀ {s : List x7} {x : x7}, (s.map (·.1)).Nodup → x ∈ s → q0F s x.1 = x.2
 | y :: s, x, hn, hx => by
  simp only [List.map_cons, List.nodup_cons] at hn
  unfold q0F
  rcases List.mem_cons.1 hx with rfl | hx
  ·rw [if_pos rfl]
  ·have : x.1 ≠ y.1 := fun e => hn.1 (e ▸ List.mem_map_of_mem hx)
   rw [if_neg this]
   exact z0K hn.2 hx
theorem y0D {s t : List x7} (hs : q0e s) (ht : q0e t) (hl : Low s t) : ∀ y ∈ (srt s).drop 0, ∃ x ∈ srt t, x.1 = y.1 ∧ y.2.1 ≤ x.2.1 ∧ y.2.2 ≤ x.2.2 := by
 intro y hy
 have hy : y ∈ s := (q3E s).mem_iff.1 (by simpa using hy)
 obtain ⟨x, hx, e⟩ := List.mem_map.1 ((hl y.1).1 (List.mem_map_of_mem hy))
 have e : x.1 = y.1 := e
 refine ⟨x, (q3E t).mem_iff.2 hx, e, ?_⟩
 have h1 := z0K hs.2 hy
 have h2 := z0K ht.2 hx
 have := (hl y.1).2
 rw [h1, ← e, h2] at this
 exact this
end Go.Proofs.YtefppgmopnnphaaDoor
namespace Go.Proofs.YtefppgmopnnphaaDoor
open Go Go.E
set_option maxRecDepth 100000
set_option maxHeartbeats 4000000
set_option linter.unusedSimpArgs false
variable {R : Type} {N : Nat}
theorem z90 (lo hi : List x7) (hlo : lo.length ≤ 1048576) (hhi : hi.length ≤ 1048576) (hN : 4398046511105 < N) (k1 k2 : KD R) :
  X3 N (Y0 N k1 k2) [.slice (lo.map r8), .slice (hi.map r8), .int (hi.length : Int), .int 0, .int 0] [] = match U2 (fun _ a x => q2F lo a x) 0 0 hi with
   | .inl a => k2 [.slice (lo.map r8), .int (a : Int)] []
   | .inr _ => k1 [.bool false] [] := by
 have key := q57 (N := N) (F := Y0 N k1 k2) (fun i (a : Nat) => [.slice (lo.map r8), .slice (hi.map r8), .int (hi.length : Int), .int (a : Int), .int (i : Int)]) (fun _ _ => []) hi
   (fun _ a x => q2F lo a x) (fun a => k2 [.slice (lo.map r8), .int (a : Int)] []) (fun _ => k1 [.bool false] []) (fun i a => i ≤ hi.length ∧ a ≤ lo.length) (s0 := 0) ⟨Nat.zero_le _, Nat.zero_le _⟩
   (fun i a x hxi hi' => ⟨fun rec => by
    have hi2 := (List.getElem?_eq_some_iff.1 hxi).1
    have h1 : (i : Int) < (hi.length : Int) := by omega
    have hx : (hi.map r8).getD i C.nil = r8 x := q5e (by rw [List.getElem?_map, hxi]; rfl)
    have h3 : IntKind.i64.wrap ((i : Int) + 1) = ((i + 1 : Nat) : Int) := q1c (by omega)
    have h4 : IntKind.i64.wrap ((a : Int) + 1) = ((a + 1 : Nat) : Int) := q1c (by omega)
    unfold Y0 q2F
    simp only [J6, q09, q1K, z6F, z6E, z9J, z9I, z9H, c9, Q1, Z1, List.length_map, h1, hx, decide_true, cond_true, Int.natCast_nonneg, true_and, if_true, Int.toNat_natCast, h3, h4]
    cases hy : lo[a]? with
    | none =>
     have : lo.length ≤ a := List.getElem?_eq_none_iff.1 hy
     have h5 : ¬ ((a : Int) < (lo.length : Int)) := by omega
     simp only [h5, decide_false, cond_false]
     all_goals simp [q09, q1K, z6F, z6E, z9J, z9I, z9H, Z1, c9, h3]
    | some y =>
     have hlt := (List.getElem?_eq_some_iff.1 hy).1
     have h5 : (a : Int) < (lo.length : Int) := by omega
     have hyD : (lo.map r8).getD a C.nil = r8 y := q5e (by rw [List.getElem?_map, hy]; rfl)
     simp only [h5, decide_true, cond_true, if_true, hyD]
     by_cases e : y.1 = x.1
     ·have hb : ((r8 y).get 0).toStr == ((r8 x).get 0).toStr := by simpa [r8, C.get, C.toStr] using e
      have c1 : ((r8 x).get 1).toInt = x.2.1 := rfl
      have c2 : ((r8 x).get 2).toInt = x.2.2 := rfl
      have c3 : ((r8 y).get 1).toInt = y.2.1 := rfl
      have c4 : ((r8 y).get 2).toInt = y.2.2 := rfl
      simp only [hb, q09, q1K, z6F, z6E, z9J, z9I, z9H, c9, Z1, h3, c1, c2, c3, c4, e, if_true, cond_true]
      by_cases q1 : x.2.1 < y.2.1
      ·simp [q1]
      ·by_cases q2 : x.2.2 < y.2.2 <;> simp [q1, q2, Z1]
     ·have hb : (((r8 y).get 0).toStr == ((r8 x).get 0).toStr) = false := by simpa [r8, C.get, C.toStr] using e
      simp only [hb, q09, q1K, z6F, z6E, z9J, z9I, z9H, c9, Z1, h3, e, if_false, cond_false], fun a' e => ⟨(List.getElem?_eq_some_iff.1 hxi).1, by
      unfold q2F at e
      cases hy : lo[a]? with
      | none => rw [hy] at e; cases e; exact hi'.2
      | some y =>
       have hlt := (List.getElem?_eq_some_iff.1 hy).1
       rw [hy] at e
       simp only at e
       split at e
       ·split at e
        ·cases e
        ·cases e; omega
       ·cases e; exact hi'.2⟩⟩)
   (fun a ha rec => by
    unfold Y0
    simp only [go_sem, c9, Q1, Z1, Int.lt_irrefl, decide_false, cond_false]) (by omega)
 refine key.trans ?_
 cases U2 (fun _ a x => q2F lo a x) 0 0 hi <;> rfl
theorem z4b : q0e [] := ⟨fun x hx => (by cases hx), List.nodup_nil⟩
theorem q7X (l : List C) (u v : Int) (hab : u ≤ v) (hw : ∀ x ∈ l, C.wf w5 x) (hl : l.length * 32 ≤ 140737488355328) (hc : q7P l ≤ 1048576) (N2 : 4398046511105 < N) (k : KD R) :
  (match q5s u [] l with
  | .inl s => (match q5s v [] l with
   | .inl t => X3 N (Y0 N k fun d5 m5 => k [C.bool (decide ((dk d5 1).toInt = ((dk d5 0).elems.length : Int)))] [])
     [.slice ((srt s).map r8), .slice ((srt t).map r8), .int ((srt t).length : Int), .int 0, .int 0] []
   | .inr _ => k [.bool true] [])
  | .inr _ => (match q5s v [] l with
   | .inl _ => k [.bool false] []
   | .inr _ => k [.bool true] [])) = k [.bool true] [] := by
 cases hv : q5s v [] l with
 | inr e => cases q5s u [] l <;> rfl
 | inl t =>
  obtain ⟨s, hu, hlow⟩ := z42 (i := 0) (s := []) (t := []) hab (fun n => ⟨id, Int.le_refl _, Int.le_refl _⟩) hw hv
  have hu : q5s u [] l = .inl s := hu
  rw [hu]
  have hs := z2w z4b hw hu
  have ht := z2w z4b hw hv
  have hs1 : (srt s).length ≤ 1048576 := by rw [(q3E s).length_eq]; have := hs.2; simp at this; omega
  have ht1 : (srt t).length ≤ 1048576 := by rw [(q3E t).length_eq]; have := ht.2; simp at this; omega
  refine (z90 (srt s) (srt t) hs1 ht1 N2 _ _).trans ?_
  rw [q9R (z7N ht.1) (z7N hs.1) (Nat.zero_le _) (y0D hs.1 ht.1 hlow)]
  simp [q09, q1K, c9, Z1, Q1]
theorem z2o (l : List C) (a b : Int) (hw : ∀ x ∈ l, C.wf w5 x) (hl : l.length * 32 ≤ 140737488355328) (hc : q7P l ≤ 1048576) (hN : 140737488355329 < N) (k : KD R) : W7 N (.slice l) (.int a) (.int b) k = k [.bool true] [] := by
 have N2 : 4398046511105 < N := by omega
 rw [q2R]
 unfold H4
 simp only [J6, z2I l hw hl N2, y2X, q09, q1K, Z1, c9]
 cases y0J l with
 | false => rfl
 | true =>
  simp only [Bool.not_true, cond_false, z7u l hw hl N2, q09, Q1]
  have f1 : ∀ (h : Int) (k : KD R), j6 N (C.slice l) (C.int h) k = _ := fun h k => y26 l h hw hl hc N2 k
  simp only [f1, q09, q1K, c9, Z1, Q1, decide_true, Bool.not_true, cond_false, cond_true, List.length_map, Int.reduceEq, decide_false, Bool.not_false]
  rcases Int.lt_trichotomy a b with h | h | h
  ·have h' : ¬ b < a := by omega
   simp only [h, h', if_true, if_false]
   exact q7X l a b (by omega) hw hl hc N2 k
  ·subst h
   simp only [Int.lt_irrefl, if_false]
   exact q7X l a a (by omega) hw hl hc N2 k
  ·have h' : ¬ a < b := by omega
   simp only [h, h', if_true, if_false]
   exact q7X l b a (by omega) hw hl hc N2 k
theorem z3S : ∀ l : List C, q7P l ≤ U5 l
 | [] => Nat.zero_le _
 | x :: l => by
  have ih := z3S l
  have h1 := z2f (x.get 1).elems
  have h2 := z2d (x.get 1)
  have h3 := y2U x 1
  simp only [q7P, List.map_cons, List.sum_cons, U5] at ih ⊢
  omega
theorem z0t (A : Key → Option O) (l a b : C) (hb : U5 [l, a, b] ≤ 1048576) : j3 (X0 gl0) 4 [.d (.slice 32 w5) l, .d (.int .u64) a, .d (.int .u64) b] A (.d .bool (.bool true)) [] := by
 refine y1g (ts := [.slice 32 w5, .int .u64, .int .u64]) (cs := [l, a, b]) fun W => ?_
 have h0 := W 0 _ _ rfl rfl
 have h1 := W 1 _ _ rfl rfl
 have h2 := W 2 _ _ rfl rfl
 simp only [C.wf] at h0 h1 h2
 refine y44 (q6U 140737488355330) ?_
 show q0b 140737488355330 [.d (.slice 32 w5) l, .d (.int .u64) a, .d (.int .u64) b] A kR = _
 simp only [q0b, and_self, if_true]
 have hc : q7P l.elems ≤ 1048576 := by
  have q1 := z3S l.elems
  have q2 := z2d l
  have q3 := z3V a
  simp only [U5] at hb
  omega
 rw [h0.1, h1.1, h2.1, z2o l.elems a.toInt b.toInt h0.2.2.2 h0.2.1 hc (by omega)]
 rfl
end Go.Proofs.YtefppgmopnnphaaDoor
