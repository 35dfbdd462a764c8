/-
 What the functions on the way compute, part 2.
 Conditions: none.
-/
import Derived.Test.YtefppgmopnnphaaDoorKa
set_option linter.all false
namespace Go.Proofs.YtefppgmopnnphaaDoor
open Go Go.E
set_option maxRecDepth 100000
set_option maxHeartbeats 4000000
set_option linter.unusedVariables false
noncomputable def z2C : Hints := [([0, 1, 1, 1], ⟨[], [(0, .d .bool)], [], [], [], []⟩),
  ([9], ⟨[], [(0, .d .bool)], [], [], [], []⟩)]
noncomputable def q6O (N : Nat) : OvS (X0 gl0) where
 g R := [(28, q3h N), (24, z3L N), (25, z0g N), (36, q2s N), (50, z5Z N), (38, q5L N)]
 ok := fun R => List.forall_mem_cons.2 ⟨z0E N, List.forall_mem_cons.2 ⟨z9B N, List.forall_mem_cons.2 ⟨z6G N, List.forall_mem_cons.2 ⟨q9b N, List.forall_mem_cons.2 ⟨y3T N, List.forall_mem_cons.2 ⟨z4i N, fun _ h => nomatch h⟩⟩⟩⟩⟩⟩
noncomputable def q2l {R : Type} (N : Nat) (k1 : KD R) : Option R := (jn (fun d1 m1 => (k1 [C.bool (C.toBool (dk d1 0))] [])) (fun k2 => (k2 [C.bool true] [])))
noncomputable def X3 {R : Type} (N : Nat) : KD R → Option R := lid "" (q2l N)
theorem q6N {R : Type} (N : Nat)  (k : KD R) : X3 N  k = q2l N  k := by unfold X3; rw [q0J]
theorem z1x {R : Type} (N : Nat)  (K : V → List (Key × O) → Option R) : exF (X0 gl0) ((q6O N).ov R) q3j (fun f r => bif Nat.beq f 11 then (bif Nat.beq r 8 then [(8, 6)] else []) else bif Nat.beq f 13 then (bif Nat.beq r 0 then [(1, 5)] else []) else bif Nat.beq f 29 then (bif Nat.beq r 0 then [(1, 5)] else bif Nat.beq r 7 then [(6, 6)] else []) else bif Nat.beq f 19 then (bif Nat.beq r 15 then [(9, 6)] else []) else []) (fun f => bif Nat.beq f 9 then z2C else []) N 3000 20 9 [] A0 K =
  X3 N  (fun d1 m1 => K (V.d Ty.bool (C.bool (C.toBool (dk d1 0)))) []) := by
 rw [q6N]
 exact (show _ = jn (fun d1 m1 => (K (V.d Ty.bool (C.bool (C.toBool (dk d1 0)))) [])) (q2l N ) by kernel_rfl).trans (J4 _ _)
noncomputable def q4F (N : Nat) {R : Type} : OvG R := fun xs _ K => match xs with
 | [] => X3 N  (fun d1 m1 => K (V.d Ty.bool (C.bool (C.toBool (dk d1 0)))) [])
 | _ => none
theorem z2B (N : Nat) {R : Type} : GOk (X0 gl0) 9 (q4F N (R := R)) := by
 intro xs A Kr r hr
 unfold q4F at hr
 split at hr
 ·skip
  rw [← z1x] at hr
  exact okA (q6O N) hr
 ·cases hr
end Go.Proofs.YtefppgmopnnphaaDoor
namespace Go.Proofs.YtefppgmopnnphaaDoor
open Go Go.E
set_option maxRecDepth 100000
set_option maxHeartbeats 4000000
set_option linter.unusedSimpArgs false
variable {R : Type} {N : Nat}
theorem y2I (k : KD R) : X3 N k = k [.bool true] [] := by
 rw [q6N]
 unfold q2l
 simp only [J4, q06, Z1]
def z2r : Es → C → C → Es
 | [], c, v => [(c, v)]
 | (k, u) :: l, c, v => if C.beq c k = true then (k, v) :: l else (k, u) :: z2r l c v
theorem z5a (τ : Ty) (c v : C) : ∀ m : Es, q31 (dE τ m) c (V.d τ v) = dE τ (z2r m c v)
 | [] => rfl
 | (k, u) :: m => by
  have ih := z5a τ c v m
  simp only [dE, List.map_cons, q31, z2r] at ih ⊢
  by_cases h : C.beq c k = true
  ·simp [h]
  ·simp [h, ih]
def mkE (s : List x7) : Es := s.map fun x => (.str x.1, r8 x)
def q0C : List x7 → List UInt8 → Int × Int
 | [], _ => (0, 0)
 | x :: s, n => if n = x.1 then x.2 else q0C s n
def Z4 : List x7 → List UInt8 → Int × Int → List x7
 | [], n, v => [(n, v)]
 | x :: s, n, v => if n = x.1 then (n, v) :: s else x :: Z4 s n v
theorem z8j (a b : List UInt8) : C.beq (.str a) (.str b) = decide (a = b) := by simp [C.beq]
theorem y0P (n : List UInt8) : ∀ s : List x7, (q8W (mkE s) (.str n) = true → getM (mkE s) (.str n) = r8 (n, q0C s n)) ∧ (q8W (mkE s) (.str n) = false → q0C s n = (0, 0))
 | [] => ⟨fun h => by simp [mkE, q8W] at h, fun _ => rfl⟩
 | x :: s => by
  have ih := y0P n s
  simp only [mkE, List.map_cons, q8W, getM, z8j, q0C] at ih ⊢
  by_cases h : n = x.1
  ·subst h
   simp [r8]
  ·simp only [h, decide_false, cond_false, if_false]
   exact ih
theorem y0h (n : List UInt8) (v : Int × Int) : ∀ s : List x7, z2r (mkE s) (.str n) (r8 (n, v)) = mkE (Z4 s n v)
 | [] => rfl
 | x :: s => by
  have ih := y0h n v s
  simp only [mkE, List.map_cons, z2r, z8j, Z4] at ih ⊢
  by_cases h : n = x.1
  ·subst h; simp
  ·simp only [h, decide_false, Bool.false_eq_true, if_false, List.map_cons]
   rw [ih]
def y3i (s : List x7) : Prop := ∀ x ∈ s, q9h x.2
theorem z96 : q9h (0, 0) := ⟨⟨by decide, by decide⟩, by decide, by decide⟩
theorem q8Y {n : List UInt8} : ∀ {s : List x7}, y3i s → q9h (q0C s n)
 | [], _ => z96
 | x :: s, h => by
  unfold q0C
  split
  ·exact h x (by simp)
  ·exact q8Y fun y hy => h y (by simp [hy])
theorem z5z {n : List UInt8} {v : Int × Int} : ∀ {s : List x7} {y : x7}, y ∈ Z4 s n v → y = (n, v) ∨ y ∈ s
 | [], y, h => by simp [Z4] at h; exact .inl h
 | x :: s, y, h => by
  unfold Z4 at h
  split at h
  ·rcases List.mem_cons.1 h with h | h
   ·exact .inl h
   ·exact .inr (by simp [h])
  ·rcases List.mem_cons.1 h with h | h
   ·exact .inr (by simp [h])
   ·exact (z5z h).imp id fun h => by simp [h]
theorem q4U {n : List UInt8} {v : Int × Int} : ∀ {s : List x7} {a : List UInt8}, a ∈ (Z4 s n v).map (·.1) ↔ a = n ∨ a ∈ s.map (·.1)
 | [], a => by simp [Z4]
 | x :: s, a => by
  unfold Z4
  split
  ·rename_i h; simp [h]
  ·have := q4U (n := n) (v := v) (s := s) (a := a)
   simp only [List.map_cons, List.mem_cons, this]
   constructor
   ·rintro (h | h | h)
    ·exact .inr (.inl h)
    ·exact .inl h
    ·exact .inr (.inr h)
   ·rintro (h | h | h)
    ·exact .inr (.inl h)
    ·exact .inl h
    ·exact .inr (.inr h)
theorem z7I {n : List UInt8} {v : Int × Int} : ∀ {s : List x7}, (s.map (·.1)).Nodup → ((Z4 s n v).map (·.1)).Nodup
 | [], _ => by simp [Z4]
 | x :: s, h => by
  simp only [List.map_cons, List.nodup_cons] at h
  unfold Z4
  split
  ·rename_i e; subst e; simpa using h
  ·rename_i e
   simp only [List.map_cons, List.nodup_cons]
   refine ⟨fun hm => ?_, z7I h.2⟩
   rcases q4U.1 hm with h1 | h1
   ·exact e h1.symm
   ·exact h.1 h1
theorem z5b {n : List UInt8} {v : Int × Int} : ∀ {s : List x7}, (Z4 s n v).length ≤ s.length + 1
 | [] => by simp [Z4]
 | x :: s => by
  unfold Z4
  split
  ·simp
  ·have := z5b (n := n) (v := v) (s := s); simp; omega
def q0R (s : List x7) (p : C) : List x7 ⊕ Unit := match q4N (q0C s (p.get 0).toStr) p with
 | .inl v => .inl (Z4 s (p.get 0).toStr v)
 | .inr e => .inr e
def z4Q (s : List x7) (ps : List C) : List x7 ⊕ Unit := U1 (fun _ s p => q0R s p) 0 s ps
def q2c (h : Int) (s : List x7) (x : C) : List x7 ⊕ Unit := bif decide (h < (x.get 0).toInt) then .inl s else z4Q s (x.get 1).elems
def q5n (h : Int) (s : List x7) (l : List C) : List x7 ⊕ Unit := U1 (fun _ s x => q2c h s x) 0 s l
def q0b (s : List x7) : Prop := y3i s ∧ (s.map (·.1)).Nodup
theorem z4I {s s' : List x7} {p : C} (hs : q0b s) (hp : C.wf c7 p) (h : q0R s p = .inl s') : q0b s' ∧ s'.length ≤ s.length + 1 := by
 unfold q0R at h
 cases ha : q4N (q0C s (p.get 0).toStr) p with
 | inr e => rw [ha] at h; cases h
 | inl v =>
  rw [ha] at h; cases h
  have hv := y4m (q8Y hs.1) (z8K hp) ha
  refine ⟨⟨fun y hy => ?_, z7I hs.2⟩, z5b⟩
  rcases z5z hy with rfl | hy
  ·exact hv
  ·exact hs.1 y hy
theorem z3c {α σ ε : Type} {f : Nat → σ → α → σ ⊕ ε} (P : Nat → σ → Prop) : ∀ (l : List α) (i : Nat) (s s' : σ), (∀ i s c s', c ∈ l → P i s → f i s c = .inl s' → P (i + 1) s') → P i s → U1 f i s l = .inl s' → P (i + l.length) s'
 | [], i, s, s', _, h, e => by cases e; exact h
 | c :: l, i, s, s', st, h, e => by
  simp only [U1] at e
  cases hf : f i s c with
  | inr x => rw [hf] at e; cases e
  | inl s1 =>
   rw [hf] at e
   have := z3c P l (i + 1) s1 s' (fun i s c s' hc => st i s c s' (by simp [hc])) (st i s c s1 (by simp) h hf) e
   rw [List.length_cons, show i + (l.length + 1) = i + 1 + l.length by omega]
   exact this
theorem z7B {s s' : List x7} {ps : List C} (hs : q0b s) (hp : ∀ p ∈ ps, C.wf c7 p) (h : z4Q s ps = .inl s') : q0b s' ∧ s'.length ≤ s.length + ps.length := by
 have := z3c (fun i t => q0b t ∧ t.length ≤ s.length + i) ps 0 s s' (fun i t c t' hc ht e => by
  obtain ⟨a, b⟩ := z4I ht.1 (hp c hc) e
  exact ⟨a, by have := ht.2; omega⟩) ⟨hs, by omega⟩ h
 simpa using this
def q7J (l : List C) : Nat := (l.map fun x => (x.get 1).elems.length).sum
theorem z2o {h : Int} : ∀ {l : List C} {s s' : List x7}, q0b s → (∀ x ∈ l, C.wf w4 x) → q5n h s l = .inl s' → q0b s' ∧ s'.length ≤ s.length + q7J l := by
 intro l
 have gen : ∀ (l : List C) (i : Nat) (s s' : List x7), q0b s → (∀ x ∈ l, C.wf w4 x) → U1 (fun _ s x => q2c h s x) i s l = .inl s' → q0b s' ∧ s'.length ≤ s.length + q7J l := by
  intro l
  induction l with
  | nil => intro i s s' hs _ e; cases e; exact ⟨hs, by simp⟩
  | cons x l ih =>
   intro i s s' hs hw e
   simp only [U1] at e
   cases hx : q2c h s x with
   | inr e' => rw [hx] at e; cases e
   | inl s1 =>
    rw [hx] at e
    have h1 : q0b s1 ∧ s1.length ≤ s.length + (x.get 1).elems.length := by
     unfold q2c at hx
     cases hb : decide (h < (x.get 0).toInt) with
     | true => rw [hb] at hx; cases hx; exact ⟨hs, by omega⟩
     | false => rw [hb] at hx; exact z7B hs (z2K (hw x (by simp))).2.2 hx
    obtain ⟨a, b⟩ := ih (i + 1) s1 s' h1.1 (fun y hy => hw y (by simp [hy])) e
    refine ⟨a, ?_⟩
    have := h1.2
    simp only [q7J, List.map_cons, List.sum_cons] at b ⊢
    omega
 exact fun {s s'} hs hw e => gen l 0 s s' hs hw e
theorem y5z {p : C} (h : C.wf c7 p) : p.get 0 = .str (p.get 0).toStr := by
 have t := C.z0j (i := 0) (f := .str) h rfl
 simp only [C.wf] at t
 exact t.1
theorem y2Q (ps : List C) (a b c d : C) (s : List x7) (hs : q0b s) (hp : ∀ p ∈ ps, C.wf c7 p) (hl : ps.length * 32 ≤ 140737488355328) (hN : 4398046511105 < N) (k1 k5 : KD R) :
  X1 N (Y4 N k1 k5) [a, b, c, d, .slice ps, .int (ps.length : Int), .int 0] [mkE s] = match z4Q s ps with
   | .inl s' => k5 [a, b, c, d] [mkE s']
   | .inr _ => k1 [.slice [], .int 11] [] := by
 have key := q54 (N := N) (F := Y4 N k1 k5) (fun i (s : List x7) => [a, b, c, d, .slice ps, .int (ps.length : Int), .int (i : Int)]) (fun _ s => [mkE s]) ps
   (fun _ s p => q0R s p) (fun s => k5 [a, b, c, d] [mkE s]) (fun _ => k1 [.slice [], .int 11] []) (fun i s => i ≤ ps.length ∧ q0b s) (s0 := s) ⟨Nat.zero_le _, hs⟩
   (fun i s p hpi hi => ⟨fun rec => by
    have hi2 := (List.getElem?_eq_some_iff.1 hpi).1
    have h1 : (i : Int) < (ps.length : Int) := by omega
    have hw := hp p (List.mem_of_getElem? hpi)
    have hn := y5z hw
    have hg := q8Y (n := (p.get 0).toStr) hi.2.1
    have hgE := y0P (p.get 0).toStr s
    have hv := z8K hw
    have h3 : IntKind.i64.wrap ((i : Int) + 1) = ((i + 1 : Nat) : Int) := q09 (by omega)
    unfold Y4 q0R
    simp only [go_sem, J4, c9, Q1, Z1, h1, q49 hpi, decide_true, cond_true, Int.natCast_nonneg, and_self, if_true, Int.toNat_natCast, z7P, z7R, q3T, z0Q, q6y, z5a, h3]
    obtain ⟨g1, g2⟩ := hgE
    simp only [dm, List.getD_cons_zero] at g1 g2 ⊢
    rw [hn]
    simp only [y3d]
    generalize (p.get 0).toStr = n at g1 g2 hg ⊢
    have hput := fun v => y0h n v s
    unfold q4N
    cases hh : q8W (mkE s) (.str n) with
    | true =>
     rw [g1 hh]
     obtain ⟨q1, q2⟩ := hg
     generalize q0C s n = v at q1 q2 ⊢
     simp only [cond_true, r8, List.set_cons_zero, List.set_cons_succ, go_sem]
     rw [q53 _ _ (by simpa [c9] using q2) hv, q53 _ _ (by simpa [c9] using q1) hv]
     simp only [r8] at hput
     simp only [c9, q06, q1I, decide_true, Bool.not_true, cond_false]
     cases hb : (p.get 2).toBool with
     | true =>
      simp only [cond_true]
      by_cases h : v.2 + (p.get 1).toInt < 18446744073709551616
      ·simp only [h, if_true, q06, q1I, c9, decide_true, Bool.not_true, cond_false, hput (v.1, v.2 + (p.get 1).toInt)]
      ·simp [h, q06, q1I, c9]
     | false =>
      simp only [cond_false]
      by_cases h : v.1 + (p.get 1).toInt < 18446744073709551616
      ·simp only [h, if_true, q06, q1I, c9, decide_true, Bool.not_true, cond_false, hput (v.1 + (p.get 1).toInt, v.2)]
      ·simp [h, q06, q1I, c9]
    | false =>
     rw [g2 hh]
     obtain ⟨q1, q2⟩ := z96
     have hput : ∀ w : Int × Int, z2r (mkE s) (C.str n) (r8 (n, w)) = mkE (Z4 s n w) := hput
     simp only [cond_false, List.set_cons_zero, List.set_cons_succ, go_sem]
     rw [q53 _ _ (by simpa [c9] using q2) hv, q53 _ _ (by simpa [c9] using q1) hv]
     simp only [r8] at hput
     simp only [c9, q06, q1I, decide_true, Bool.not_true, cond_false, Int.zero_add]
     cases hb : (p.get 2).toBool with
     | true =>
      simp only [cond_true]
      by_cases h : (p.get 1).toInt < 18446744073709551616
      ·simp only [h, if_true, q06, q1I, c9, decide_true, Bool.not_true, cond_false, hput (0, (p.get 1).toInt)]
      ·simp [h, q06, q1I, c9]
     | false =>
      simp only [cond_false]
      by_cases h : (p.get 1).toInt < 18446744073709551616
      ·simp only [h, if_true, q06, q1I, c9, decide_true, Bool.not_true, cond_false, hput ((p.get 1).toInt, 0)]
      ·simp [h, q06, q1I, c9], fun s' e => ⟨(List.getElem?_eq_some_iff.1 hpi).1, (z4I hi.2 (hp p (List.mem_of_getElem? hpi)) e).1⟩⟩)
   (fun s hs rec => by
    unfold Y4
    simp only [go_sem, c9, Q1, Z1, Int.lt_irrefl, decide_false, cond_false, q3T, q6y, if_true]
    rfl) (by omega)
 refine key.trans ?_
 unfold z4Q
 cases U1 (fun _ s p => q0R s p) 0 s ps <;> rfl
theorem y1i (l : List C) (h : Int) (hw : ∀ x ∈ l, C.wf w4 x) (hl : l.length * 32 ≤ 140737488355328) (hN : 4398046511105 < N) (k1 k2 : KD R) :
  X1 N (Y3 N k1 k2) [.int h, .slice l, .int (l.length : Int), .int 0] [mkE []] = match q5n h [] l with
   | .inl s' => k2 [] [mkE s']
   | .inr _ => k1 [.slice [], .int 11] [] := by
 have key := q54 (N := N) (F := Y3 N k1 k2) (fun i (s : List x7) => [.int h, .slice l, .int (l.length : Int), .int (i : Int)]) (fun _ s => [mkE s]) l
   (fun _ s x => q2c h s x) (fun s => k2 [] [mkE s]) (fun _ => k1 [.slice [], .int 11] []) (fun i s => i ≤ l.length ∧ q0b s) (s0 := []) ⟨Nat.zero_le _, fun x hx => (by cases hx), List.nodup_nil⟩
   (fun i s x hxi hi => ⟨fun rec => by
    have hi2 := (List.getElem?_eq_some_iff.1 hxi).1
    have h1 : (i : Int) < (l.length : Int) := by omega
    obtain ⟨p1, p2, p3⟩ := z2K (hw x (List.mem_of_getElem? hxi))
    have h3 : IntKind.i64.wrap ((i : Int) + 1) = ((i + 1 : Nat) : Int) := q09 (by omega)
    unfold Y3 q2c
    simp only [go_sem, J4, c9, Q1, Z1, h1, q49 hxi, decide_true, cond_true, Int.natCast_nonneg, and_self, if_true, Int.toNat_natCast, q3T, z0Q, q6y, h3]
    by_cases hb : h < (x.get 0).toInt
    ·rw [if_pos hb, if_pos hb]; rfl
    ·rw [if_neg hb, if_neg hb, p1, Q1]
     refine (y2Q _ _ _ _ _ s hi.2 p3 p2 hN _ _).trans ?_
     cases z4Q s (x.get 1).elems with
     | inl s' =>
      simp only [q06, q1I, z6q, z6p, c9, h3]
      rfl
     | inr e => rfl, fun s' e => ⟨(List.getElem?_eq_some_iff.1 hxi).1, by
      unfold q2c at e
      cases hb : decide (h < (x.get 0).toInt) with
      | true => rw [hb] at e; cases e; exact hi.2
      | false => rw [hb] at e; exact (z7B hi.2 (z2K (hw x (List.mem_of_getElem? hxi))).2.2 e).1⟩⟩)
   (fun s hs rec => by
    unfold Y3
    simp only [go_sem, c9, Q1, Z1, Int.lt_irrefl, decide_false, cond_false, q3T, q6y, if_true]
    rfl) (by omega)
 refine key.trans ?_
 unfold q5n
 cases U1 (fun _ s x => q2c h s x) 0 [] l <;> rfl
def srt (s : List x7) : List x7 := s.mergeSort fun x y => !Op.bytesLess y.1 x.1
theorem q3A (s : List x7) : (srt s).Perm s := List.mergeSort_perm _ _
theorem z03 (s : List x7) : (srt s).Pairwise fun x y => (!Op.bytesLess y.1 x.1) = true := by
 refine List.pairwise_mergeSort ?_ ?_ _
 ·intro a b c h1 h2
  simp only [Bool.not_eq_true'] at h1 h2 ⊢
  exact y1y h2 h1
 ·intro a b
  simp only [Bool.or_eq_true, Bool.not_eq_true']
  cases h : Op.bytesLess b.1 a.1 with
  | false => exact .inl rfl
  | true =>
   right
   cases h' : Op.bytesLess a.1 b.1 with
   | false => rfl
   | true => have := q9L _ _ _ h h'; rw [q5M] at this; cases this
theorem y21 : ∀ {l : List (List UInt8)}, l.Nodup → ndB l = true
 | [], _ => rfl
 | x :: l, h => by
  rw [List.nodup_cons] at h
  simp only [ndB, Bool.and_eq_true, Bool.not_eq_true', List.contains_eq_mem, decide_eq_false_iff_not]
  exact ⟨h.1, y21 h.2⟩
theorem y3K (x : x7) : q35 (r8 x) = x := rfl
theorem y0l {s : List x7} (hs : q0b s) (hn : s.length ≤ 1048576) : okL (mkE s) = true := by
 unfold okL
 rw [Bool.and_eq_true]
 refine ⟨Nat.ble_eq_true_of_le (by simpa [mkE] using hn), y21 ?_⟩
 have : (mkE s).map (fun e => q0p e.2) = s.map (·.1) := by simp only [mkE, List.map_map]; rfl
 rw [this]; exact hs.2
theorem y1E {s : List x7} (hs : q0b s) (hn : s.length ≤ 1048576) : q3X (mkE s) = (srt s).map r8 := by
 refine (q8o (y0l hs hn) (fun e he => ?_) ?_ ?_).symm
 ·obtain ⟨x, _, rfl⟩ := List.mem_map.1 he
  rfl
 ·have : (mkE s).map (fun e => q35 e.2) = s := by simp only [mkE, List.map_map]; exact (List.map_congr_left fun x _ => y3K x).trans (List.map_id s)
  rw [this]; exact q3A s
 ·intro i j hij hj
  have := List.pairwise_iff_getElem.1 (z03 s) i j (by omega) hj hij
  rw [q8L, getElem!_pos _ j hj, getElem!_pos _ i (by omega)]
  simpa using this
theorem y2R (l : List C) (h : Int) (hw : ∀ x ∈ l, C.wf w4 x) (hl : l.length * 32 ≤ 140737488355328) (hc : q7J l ≤ 1048576) (hN : 4398046511105 < N) (k : KD R) :
  j6 N (.slice l) (.int h) k = match q5n h [] l with
   | .inl s => k [.slice ((srt s).map r8), .int 0] []
   | .inr _ => k [.slice [], .int 11] [] := by
 rw [q14]
 unfold W6
 simp only [J4, Q1, y3l]
 refine (y1i l h hw hl hN _ _).trans ?_
 cases hr : q5n h [] l with
 | inr e => rfl
 | inl s =>
  have hk := z2o (s := []) ⟨fun x hx => (by cases hx), List.nodup_nil⟩ hw hr
  have hn : s.length ≤ 1048576 := by have := hk.2; simp at this; omega
  simp only [dm, List.getD_cons_zero, q3T, q6y, true_and, if_true, and_self, y0l hk.1 hn, cond_true, y1E hk.1 hn]
end Go.Proofs.YtefppgmopnnphaaDoor
namespace Go.Proofs.YtefppgmopnnphaaDoor
open Go Go.E
set_option maxRecDepth 100000
set_option maxHeartbeats 4000000
set_option linter.unusedVariables false
noncomputable def q6Q : Hints := [([0, 2, 1, 0, 1, 1, 1, 1, 1], ⟨[], [(6, .d .bool)], [], [], [], []⟩),
  ([1, 0, 1, 1, 1, 1, 1, 1, 1, 1], ⟨[8], [(12, .d (.int .i64))], [], [], [], []⟩),
  ([4, 1, 0, 1, 1, 1, 1, 1, 1, 1, 1], ⟨[8, 47, 48], [(12, .d (.int .i64)), (49, .d (.int .i64))], [], [], [], []⟩),
  ([0, 1, 4, 0, 1, 1, 5, 4, 1, 0, 1, 1, 1, 1, 1, 1, 1, 1], ⟨[8, 12, 14, 47, 48, 49], [(66, .d .bool)], [], [], [], []⟩),
  ([1, 1, 4, 0, 1, 1, 5, 4, 1, 0, 1, 1, 1, 1, 1, 1, 1, 1], ⟨[8, 47, 48, 49], [(12, .d (.int .i64))], [], [], [], []⟩),
  ([0, 0, 2, 1, 1, 4, 0, 1, 1, 5, 4, 1, 0, 1, 1, 1, 1, 1, 1, 1, 1], ⟨[8, 12, 47, 48, 49], [(84, .d .bool)], [], [], [], []⟩),
  ([0, 1, 1, 1, 1, 1, 1, 1, 1, 1], ⟨[], [(6, .d .bool)], [], [], [], []⟩),
  ([9], ⟨[], [(6, .d .bool)], [], [], [], []⟩)]
noncomputable def q2P (N : Nat) : OvS (X0 gl0) where
 g R := [(8, q4E N), (9, q4F N), (10, q7s N), (16, q0B N)]
 ok := fun R => List.forall_mem_cons.2 ⟨z2x N, List.forall_mem_cons.2 ⟨z2B N, List.forall_mem_cons.2 ⟨z7c N, List.forall_mem_cons.2 ⟨q5z N, fun _ h => nomatch h⟩⟩⟩⟩
noncomputable def Y0 {R : Type} (N : Nat) (k1 : KD R) (k2 : KD R) : KD R → List C → List Es → Option R := (fun k3 d5 m5 => (bif decide (C.toInt (dk d5 4) < C.toInt (dk d5 2)) then (if 0 ≤ C.toInt (dk d5 4) ∧ C.toInt (dk d5 4) < (↑(List.length (C.elems (dk d5 1))) : Int) then (jn (fun d6 m6 => (jn (fun d7 m7 => (k3 [dk d7 0, dk d7 1, dk d7 2, dk d7 4, C.int (IntKind.wrap IntKind.i64 (C.toInt (dk d7 3) + 1))] [])) (fun k4 => (bif C.toBool (dk d6 6) then (jn (fun d7 m7 => (bif C.toBool (dk d7 5) then (k1 [C.bool false] []) else (k4 [dk d7 0, dk d7 2, dk d7 3, dk d7 4, C.int (IntKind.wrap IntKind.i64 (C.toInt (dk d7 1) + 1))] []))) (fun k5 => (if 0 ≤ C.toInt (dk d6 1) ∧ C.toInt (dk d6 1) < (↑(List.length (C.elems (dk d6 0))) : Int) then (bif decide (C.toInt (C.get (dk d6 2) 1) < C.toInt (C.get (List.getD (C.elems (dk d6 0)) (Int.toNat (C.toInt (dk d6 1))) C.nil) 1)) then (k5 [dk d6 0, dk d6 1, dk d6 3, dk d6 4, dk d6 5, C.bool true] []) else (if 0 ≤ C.toInt (dk d6 1) ∧ C.toInt (dk d6 1) < (↑(List.length (C.elems (dk d6 0))) : Int) then (k5 [dk d6 0, dk d6 1, dk d6 3, dk d6 4, dk d6 5, C.bool (decide (C.toInt (C.get (dk d6 2) 2) < C.toInt (C.get (List.getD (C.elems (dk d6 0)) (Int.toNat (C.toInt (dk d6 1))) C.nil) 2)))] []) else none)) else none))) else (k4 [dk d6 0, dk d6 3, dk d6 4, dk d6 5, dk d6 1] []))))) (fun k4 => (bif decide (C.toInt (dk d5 3) < (↑(List.length (C.elems (dk d5 0))) : Int)) then (if 0 ≤ C.toInt (dk d5 3) ∧ C.toInt (dk d5 3) < (↑(List.length (C.elems (dk d5 0))) : Int) then (k4 [dk d5 0, dk d5 3, List.getD (C.elems (dk d5 1)) (Int.toNat (C.toInt (dk d5 4))) C.nil, dk d5 1, dk d5 2, dk d5 4, C.bool (C.toStr (C.get (List.getD (C.elems (dk d5 0)) (Int.toNat (C.toInt (dk d5 3))) C.nil) 0) == C.toStr (C.get (List.getD (C.elems (dk d5 1)) (Int.toNat (C.toInt (dk d5 4))) C.nil) 0))] []) else none) else (k4 [dk d5 0, dk d5 3, List.getD (C.elems (dk d5 1)) (Int.toNat (C.toInt (dk d5 4))) C.nil, dk d5 1, dk d5 2, dk d5 4, C.bool false] [])))) else none) else (k2 [dk d5 0, dk d5 3] [])))
noncomputable def H2 {R : Type} (N : Nat) (a0 a1 a2 : C) (k1 : KD R) : Option R := (q0F N a0 (fun d1 m1 => (bif !C.toBool (dk d1 0) then (X3 N (fun d2 m2 => (k1 [C.bool (C.toBool (dk d2 0))] []))) else (q2i N a0 (fun d2 m2 => (j6 N (C.slice (C.elems (dk d2 0))) (C.int (if C.toInt a2 < C.toInt a1 then C.toInt a2 else C.toInt a1)) (fun d3 m3 => (j6 N (C.slice (C.elems (dk d2 0))) (C.int (if C.toInt a1 < C.toInt a2 then C.toInt a2 else C.toInt a1)) (fun d4 m4 => (bif !decide (C.toInt (dk d3 1) = 0) then (jn (fun d5 m5 => (k1 [C.bool (C.toBool (dk d5 0))] [])) (fun k2 => (X3 N (fun d5 m5 => (bif C.toBool (dk d5 0) then (k2 [C.bool !decide (C.toInt (dk d4 1) = 0)] []) else (k2 [C.bool false] [])))))) else (bif !decide (C.toInt (dk d4 1) = 0) then (X3 N (fun d5 m5 => (k1 [C.bool (C.toBool (dk d5 0))] []))) else (jn (fun d5 m5 => (jn (fun d6 m6 => (k1 [C.bool (C.toBool (dk d6 0))] [])) (fun k2 => (X3 N (fun d6 m6 => (bif C.toBool (dk d6 0) then (k2 [C.bool (decide (C.toInt (dk d5 1) = (↑(List.length (C.elems (dk d5 0))) : Int)))] []) else (k2 [C.bool false] []))))))) (fun k2 => (X1 N (Y0 N k1 k2) [dk d3 0, dk d4 0, C.int (↑(List.length (C.elems (dk d4 0))) : Int), C.int 0, C.int 0] []))))))))))))))
noncomputable def W5 {R : Type} (N : Nat) : C → C → C → KD R → Option R := lid "" (H2 N)
theorem q2O {R : Type} (N : Nat) (a0 a1 a2 : C) (k : KD R) : W5 N a0 a1 a2 k = H2 N a0 a1 a2 k := by unfold W5; rw [q0J]
theorem q6n {R : Type} (N : Nat) (a0 a1 a2 : C) (K : V → List (Key × O) → Option R) : exF (X0 gl0) ((q2P N).ov R) q3j (fun f r => bif Nat.beq f 4 then (bif Nat.beq r 14 then [(14, 6)] else bif Nat.beq r 15 then [(14, 6)] else []) else []) (fun f => bif Nat.beq f 4 then q6Q else []) N 400 8 4 [.d (.slice 32 w4) a0, .d (.int .u64) a1, .d (.int .u64) a2] A0 K =
  W5 N a0 a1 a2 (fun d1 m1 => K (V.d Ty.bool (C.bool (C.toBool (dk d1 0)))) []) := by
 rw [q2O]
 exact (show _ = jn (fun d1 m1 => (K (V.d Ty.bool (C.bool (C.toBool (dk d1 0)))) [])) (H2 N a0 a1 a2) by kernel_rfl).trans (J4 _ _)
noncomputable def F8 (N : Nat) {R : Type} : OvG R := fun xs _ K => match xs with
 | [.d t0 a0, .d t1 a1, .d t2 a2] => if t0 = (.slice 32 w4) ∧ t1 = (.int .u64) ∧ t2 = (.int .u64) then W5 N a0 a1 a2 (fun d1 m1 => K (V.d Ty.bool (C.bool (C.toBool (dk d1 0)))) []) else none
 | _ => none
theorem q6P (N : Nat) {R : Type} : GOk (X0 gl0) 4 (F8 N (R := R)) := by
 intro xs A Kr r hr
 unfold F8 at hr
 split at hr
 ·simp only [Option.ite_none_right_eq_some] at hr
  obtain ⟨hty, hr⟩ := hr
  obtain ⟨rfl, rfl, rfl⟩ := hty
  rw [← q6n] at hr
  exact okA (q2P N) hr
 ·cases hr
end Go.Proofs.YtefppgmopnnphaaDoor
namespace Go.Proofs.YtefppgmopnnphaaDoor
open Go Go.E
set_option maxRecDepth 100000
set_option maxHeartbeats 4000000
set_option linter.unusedSimpArgs false
variable {R : Type} {N : Nat}
def Low (s t : List x7) : Prop := ∀ n, (n ∈ s.map (·.1) → n ∈ t.map (·.1)) ∧ (q0C s n).1 ≤ (q0C t n).1 ∧ (q0C s n).2 ≤ (q0C t n).2
theorem q7A (n m : List UInt8) (v : Int × Int) : ∀ s : List x7, q0C (Z4 s n v) m = if m = n then v else q0C s m
 | [] => by simp [Z4, q0C]
 | x :: s => by
  have ih := q7A n m v s
  unfold Z4
  by_cases h : n = x.1
  ·subst h
   rw [if_pos rfl]
   simp only [q0C]
   by_cases e : m = x.1 <;> simp [e]
  ·rw [if_neg h]
   simp only [q0C]
   by_cases e : m = x.1
   ·rw [if_pos e, if_pos e]
    rw [if_neg (fun h' => h (h'.symm.trans e))]
   ·rw [if_neg e, if_neg e, ih]
theorem y2P {u v u' : Int × Int} {p : C} (h : q4N u p = .inl u') (h1 : v.1 ≤ u.1) (h2 : v.2 ≤ u.2) : ∃ v', q4N v p = .inl v' ∧ v'.1 ≤ u'.1 ∧ v'.2 ≤ u'.2 := by
 unfold q4N at h ⊢
 cases hb : (p.get 2).toBool with
 | true =>
  rw [hb] at h
  simp only [cond_true] at h ⊢
  split at h
  ·cases h
   rw [if_pos (by omega)]
   exact ⟨_, rfl, h1, by simp only; omega⟩
  ·cases h
 | false =>
  rw [hb] at h
  simp only [cond_false] at h ⊢
  split at h
  ·cases h
   rw [if_pos (by omega)]
   exact ⟨_, rfl, by simp only; omega, h2⟩
  ·cases h
theorem y4l {u u' : Int × Int} {p : C} (h : q4N u p = .inl u') (hp : W64 (p.get 1).toInt) : u.1 ≤ u'.1 ∧ u.2 ≤ u'.2 := by
 obtain ⟨hp1, hp2⟩ := hp
 unfold q4N at h
 cases hb : (p.get 2).toBool <;> rw [hb] at h <;> simp only [cond_true, cond_false] at h <;> split at h <;> cases h <;> simp only <;> omega
theorem z9Z {s t t' : List x7} {p : C} (hl : Low s t) (h : q0R t p = .inl t') : ∃ s', q0R s p = .inl s' ∧ Low s' t' := by
 unfold q0R at h ⊢
 cases ha : q4N (q0C t (p.get 0).toStr) p with
 | inr e => rw [ha] at h; cases h
 | inl v =>
  rw [ha] at h; cases h
  obtain ⟨w, h1, h2, h3⟩ := y2P ha (hl (p.get 0).toStr).2.1 (hl (p.get 0).toStr).2.2
  rw [h1]
  refine ⟨_, rfl, fun n => ⟨fun hn => ?_, ?_⟩⟩
  ·rw [q4U] at hn ⊢
   exact hn.imp id (hl n).1
  ·rw [q7A, q7A]
   split
   ·exact ⟨h2, h3⟩
   ·exact (hl n).2
theorem y1D {s t t' : List x7} {p : C} (hl : Low s t) (hp : C.wf c7 p) (h : q0R t p = .inl t') : Low s t' := by
 unfold q0R at h
 cases ha : q4N (q0C t (p.get 0).toStr) p with
 | inr e => rw [ha] at h; cases h
 | inl v =>
  rw [ha] at h; cases h
  have hu := y4l ha (z8K hp)
  intro n
  refine ⟨fun hn => q4U.2 (.inr ((hl n).1 hn)), ?_⟩
  rw [q7A]
  split
  ·rename_i e
   subst e
   exact ⟨Int.le_trans (hl _).2.1 hu.1, Int.le_trans (hl _).2.2 hu.2⟩
  ·exact (hl n).2
theorem z4P : ∀ {ps : List C} {i : Nat} {s t t' : List x7}, Low s t → U1 (fun _ s p => q0R s p) i t ps = .inl t' → ∃ s', U1 (fun _ s p => q0R s p) i s ps = .inl s' ∧ Low s' t'
 | [], _, s, t, t', hl, h => by cases h; exact ⟨s, rfl, hl⟩
 | p :: ps, i, s, t, t', hl, h => by
  simp only [U1] at h ⊢
  cases hs : q0R t p with
  | inr e => rw [hs] at h; cases h
  | inl t1 =>
   rw [hs] at h
   obtain ⟨s1, h1, h2⟩ := z9Z hl hs
   rw [h1]
   exact z4P h2 h
theorem z7A : ∀ {ps : List C} {i : Nat} {s t t' : List x7}, Low s t → (∀ p ∈ ps, C.wf c7 p) → U1 (fun _ s p => q0R s p) i t ps = .inl t' → Low s t'
 | [], _, s, t, t', hl, _, h => by cases h; exact hl
 | p :: ps, i, s, t, t', hl, hw, h => by
  simp only [U1] at h
  cases hs : q0R t p with
  | inr e => rw [hs] at h; cases h
  | inl t1 =>
   rw [hs] at h
   exact z7A (y1D hl (hw p (by simp)) hs) (fun q hq => hw q (by simp [hq])) h
theorem z4O {a b : Int} (hab : a ≤ b) : ∀ {l : List C} {i : Nat} {s t t' : List x7}, Low s t → (∀ x ∈ l, C.wf w4 x) → U1 (fun _ s x => q2c b s x) i t l = .inl t' → ∃ s', U1 (fun _ s x => q2c a s x) i s l = .inl s' ∧ Low s' t'
 | [], _, s, t, t', hl, _, h => by cases h; exact ⟨s, rfl, hl⟩
 | x :: l, i, s, t, t', hl, hw, h => by
  simp only [U1] at h ⊢
  cases hx : q2c b t x with
  | inr e => rw [hx] at h; cases h
  | inl t1 =>
   rw [hx] at h
   have : ∃ s1, q2c a s x = .inl s1 ∧ Low s1 t1 := by
    unfold q2c at hx ⊢
    by_cases h1 : b < (x.get 0).toInt
    ·have h2 : a < (x.get 0).toInt := by omega
     simp only [h1, h2, decide_true, cond_true] at hx ⊢
     cases hx
     exact ⟨s, rfl, hl⟩
    ·by_cases h2 : a < (x.get 0).toInt
     ·simp only [h1, h2, decide_true, decide_false, cond_true, cond_false] at hx ⊢
      exact ⟨s, rfl, z7A hl (z2K (hw x (by simp))).2.2 hx⟩
     ·simp only [h1, h2, decide_false, cond_false] at hx ⊢
      exact z4P hl hx
   obtain ⟨s1, h1, h2⟩ := this
   rw [h1]
   exact z4O hab h2 (fun y hy => hw y (by simp [hy])) h
def Asc (s : List x7) : Prop := s.Pairwise fun x y => Op.bytesLess x.1 y.1 = true
theorem z7y {s : List x7} (hs : q0b s) : Asc (srt s) := by
 have h1 := z03 s
 have h2 : ((srt s).map (·.1)).Nodup := ((q3A s).map _).nodup_iff.2 hs.2
 rw [List.nodup_iff_pairwise_ne, List.pairwise_map] at h2
 refine (h1.and h2).imp fun {x y} h => ?_
 simp only [Bool.not_eq_true'] at h
 rcases z19 x.1 y.1 with g | g | g
 ·exact g
 ·exact absurd g h.2
 ·rw [g] at h; cases h.1
def q2C (lo : List x7) (at_ : Nat) (x : x7) : Nat ⊕ Unit := match lo[at_]? with
 | none => .inl at_
 | some y => if y.1 = x.1 then (if x.2.1 < y.2.1 ∨ x.2.2 < y.2.2 then .inr () else .inl (at_ + 1)) else .inl at_
theorem q9M {lo : List x7} : ∀ {hi : List x7} {i at_ : Nat}, Asc hi → Asc lo → at_ ≤ lo.length → (∀ y ∈ lo.drop at_, ∃ x ∈ hi, x.1 = y.1 ∧ y.2.1 ≤ x.2.1 ∧ y.2.2 ≤ x.2.2) → U1 (fun _ a x => q2C lo a x) i at_ hi = .inl lo.length
 | [], i, at_, _, _, hle, h => by
  simp only [U1]
  have : lo.drop at_ = [] := by
   cases hd : lo.drop at_ with
   | nil => rfl
   | cons y l => obtain ⟨x, hx, _⟩ := h y (by rw [hd]; simp); cases hx
  have := List.drop_eq_nil_iff.1 this
  rw [show at_ = lo.length by omega]
 | x :: hi, i, at_, ha, hl, hle, h => by
  have ha' := List.pairwise_cons.1 ha
  simp only [U1]
  cases hy : lo[at_]? with
  | none =>
   have : lo.length ≤ at_ := List.getElem?_eq_none_iff.1 hy
   have hst : q2C lo at_ x = .inl at_ := by unfold q2C; rw [hy]
   rw [hst]
   refine q9M ha'.2 hl hle fun y hy' => ?_
   rw [List.drop_eq_nil_of_le this] at hy'; cases hy'
  | some y =>
   obtain ⟨hlt, he⟩ := List.getElem?_eq_some_iff.1 hy
   have hd : lo.drop at_ = y :: lo.drop (at_ + 1) := by rw [List.drop_eq_getElem_cons hlt, he]
   have hld : (lo.drop at_).Pairwise fun x y => Op.bytesLess x.1 y.1 = true := hl.sublist (List.drop_sublist _ _)
   rw [hd] at hld
   have hld := List.pairwise_cons.1 hld
   have hrest : ∀ z ∈ lo.drop (at_ + 1), x.1 = y.1 → ∃ w ∈ hi, w.1 = z.1 ∧ z.2.1 ≤ w.2.1 ∧ z.2.2 ≤ w.2.2 := by
    intro z hz e
    obtain ⟨w, hw, q⟩ := h z (by rw [hd]; simp [hz])
    rcases List.mem_cons.1 hw with rfl | hw
    ·have := hld.1 z hz
     rw [← e, q.1, q5M] at this; cases this
    ·exact ⟨w, hw, q⟩
   obtain ⟨w, hw, q1, q2, q3⟩ := h y (by rw [hd]; simp)
   by_cases e : y.1 = x.1
   ·have hwx : w = x := by
     rcases List.mem_cons.1 hw with rfl | hw
     ·rfl
     ·have := ha'.1 w hw
      rw [q1, e, q5M] at this; cases this
    subst hwx
    have hst : q2C lo at_ w = .inl (at_ + 1) := by
     unfold q2C; rw [hy]
     simp only
     rw [if_pos e, if_neg (by omega)]
    rw [hst]
    exact q9M ha'.2 hl hlt fun z hz => hrest z hz e.symm
   ·have hst : q2C lo at_ x = .inl at_ := by
     unfold q2C; rw [hy]
     simp only
     rw [if_neg e]
    rw [hst]
    refine q9M ha'.2 hl hle fun z hz => ?_
    obtain ⟨w', hw', q⟩ := h z hz
    rcases List.mem_cons.1 hw' with rfl | hw'
    ·-- a later one has the higher one's first name: then the next one's name is less, and is nowhere
     rw [hd] at hz
     rcases List.mem_cons.1 hz with rfl | hz
     ·exact absurd q.1.symm e
     ·have h1 := hld.1 z hz
      rcases List.mem_cons.1 hw with rfl | hw
      ·exact absurd q1.symm e
      ·have h2 := ha'.1 w hw
       rw [q1, q.1] at h2
       have := q9L _ _ _ h1 h2
       rw [q5M] at this; cases this
    ·exact ⟨w', hw', q⟩
theorem z0F : ∀ {s : List x7} {x : x7}, (s.map (·.1)).Nodup → x ∈ s → q0C s x.1 = x.2
 | y :: s, x, hn, hx => by
  simp only [List.map_cons, List.nodup_cons] at hn
  unfold q0C
  rcases List.mem_cons.1 hx with rfl | hx
  ·rw [if_pos rfl]
  ·have : x.1 ≠ y.1 := fun e => hn.1 (e ▸ List.mem_map_of_mem hx)
   rw [if_neg this]
   exact z0F hn.2 hx
theorem y0p {s t : List x7} (hs : q0b s) (ht : q0b t) (hl : Low s t) : ∀ y ∈ (srt s).drop 0, ∃ x ∈ srt t, x.1 = y.1 ∧ y.2.1 ≤ x.2.1 ∧ y.2.2 ≤ x.2.2 := by
 intro y hy
 have hy : y ∈ s := (q3A s).mem_iff.1 (by simpa using hy)
 obtain ⟨x, hx, e⟩ := List.mem_map.1 ((hl y.1).1 (List.mem_map_of_mem hy))
 have e : x.1 = y.1 := e
 refine ⟨x, (q3A t).mem_iff.2 hx, e, ?_⟩
 have h1 := z0F hs.2 hy
 have h2 := z0F ht.2 hx
 have := (hl y.1).2
 rw [h1, ← e, h2] at this
 exact this
end Go.Proofs.YtefppgmopnnphaaDoor
namespace Go.Proofs.YtefppgmopnnphaaDoor
open Go Go.E
set_option maxRecDepth 100000
set_option maxHeartbeats 4000000
set_option linter.unusedSimpArgs false
variable {R : Type} {N : Nat}
theorem z9K (lo hi : List x7) (hlo : lo.length ≤ 1048576) (hhi : hi.length ≤ 1048576) (hN : 4398046511105 < N) (k1 k2 : KD R) :
  X1 N (Y0 N k1 k2) [.slice (lo.map r8), .slice (hi.map r8), .int (hi.length : Int), .int 0, .int 0] [] = match U1 (fun _ a x => q2C lo a x) 0 0 hi with
   | .inl a => k2 [.slice (lo.map r8), .int (a : Int)] []
   | .inr _ => k1 [.bool false] [] := by
 have key := q54 (N := N) (F := Y0 N k1 k2) (fun i (a : Nat) => [.slice (lo.map r8), .slice (hi.map r8), .int (hi.length : Int), .int (a : Int), .int (i : Int)]) (fun _ _ => []) hi
   (fun _ a x => q2C lo a x) (fun a => k2 [.slice (lo.map r8), .int (a : Int)] []) (fun _ => k1 [.bool false] []) (fun i a => i ≤ hi.length ∧ a ≤ lo.length) (s0 := 0) ⟨Nat.zero_le _, Nat.zero_le _⟩
   (fun i a x hxi hi' => ⟨fun rec => by
    have hi2 := (List.getElem?_eq_some_iff.1 hxi).1
    have h1 : (i : Int) < (hi.length : Int) := by omega
    have hx : (hi.map r8).getD i C.nil = r8 x := q49 (by rw [List.getElem?_map, hxi]; rfl)
    have h3 : IntKind.i64.wrap ((i : Int) + 1) = ((i + 1 : Nat) : Int) := q09 (by omega)
    have h4 : IntKind.i64.wrap ((a : Int) + 1) = ((a + 1 : Nat) : Int) := q09 (by omega)
    unfold Y0 q2C
    simp only [J4, q06, q1I, z6q, z6p, z9t, z9s, z9r, c9, Q1, Z1, List.length_map, h1, hx, decide_true, cond_true, Int.natCast_nonneg, true_and, if_true, Int.toNat_natCast, h3, h4]
    cases hy : lo[a]? with
    | none =>
     have : lo.length ≤ a := List.getElem?_eq_none_iff.1 hy
     have h5 : ¬ ((a : Int) < (lo.length : Int)) := by omega
     simp only [h5, decide_false, cond_false]
     all_goals simp [q06, q1I, z6q, z6p, z9t, z9s, z9r, Z1, c9, h3]
    | some y =>
     have hlt := (List.getElem?_eq_some_iff.1 hy).1
     have h5 : (a : Int) < (lo.length : Int) := by omega
     have hyD : (lo.map r8).getD a C.nil = r8 y := q49 (by rw [List.getElem?_map, hy]; rfl)
     simp only [h5, decide_true, cond_true, if_true, hyD]
     by_cases e : y.1 = x.1
     ·have hb : ((r8 y).get 0).toStr == ((r8 x).get 0).toStr := by simpa [r8, C.get, C.toStr] using e
      have c1 : ((r8 x).get 1).toInt = x.2.1 := rfl
      have c2 : ((r8 x).get 2).toInt = x.2.2 := rfl
      have c3 : ((r8 y).get 1).toInt = y.2.1 := rfl
      have c4 : ((r8 y).get 2).toInt = y.2.2 := rfl
      simp only [hb, q06, q1I, z6q, z6p, z9t, z9s, z9r, c9, Z1, h3, c1, c2, c3, c4, e, if_true, cond_true]
      by_cases q1 : x.2.1 < y.2.1
      ·simp [q1]
      ·by_cases q2 : x.2.2 < y.2.2 <;> simp [q1, q2, Z1]
     ·have hb : (((r8 y).get 0).toStr == ((r8 x).get 0).toStr) = false := by simpa [r8, C.get, C.toStr] using e
      simp only [hb, q06, q1I, z6q, z6p, z9t, z9s, z9r, c9, Z1, h3, e, if_false, cond_false], fun a' e => ⟨(List.getElem?_eq_some_iff.1 hxi).1, by
      unfold q2C at e
      cases hy : lo[a]? with
      | none => rw [hy] at e; cases e; exact hi'.2
      | some y =>
       have hlt := (List.getElem?_eq_some_iff.1 hy).1
       rw [hy] at e
       simp only at e
       split at e
       ·split at e
        ·cases e
        ·cases e; omega
       ·cases e; exact hi'.2⟩⟩)
   (fun a ha rec => by
    unfold Y0
    simp only [go_sem, c9, Q1, Z1, Int.lt_irrefl, decide_false, cond_false]) (by omega)
 refine key.trans ?_
 cases U1 (fun _ a x => q2C lo a x) 0 0 hi <;> rfl
theorem z3T : q0b [] := ⟨fun x hx => (by cases hx), List.nodup_nil⟩
theorem q7R (l : List C) (u v : Int) (hab : u ≤ v) (hw : ∀ x ∈ l, C.wf w4 x) (hl : l.length * 32 ≤ 140737488355328) (hc : q7J l ≤ 1048576) (N2 : 4398046511105 < N) (k : KD R) :
  (match q5n u [] l with
  | .inl s => (match q5n v [] l with
   | .inl t => X1 N (Y0 N k fun d5 m5 => k [C.bool (decide ((dk d5 1).toInt = ((dk d5 0).elems.length : Int)))] [])
     [.slice ((srt s).map r8), .slice ((srt t).map r8), .int ((srt t).length : Int), .int 0, .int 0] []
   | .inr _ => k [.bool true] [])
  | .inr _ => (match q5n v [] l with
   | .inl _ => k [.bool false] []
   | .inr _ => k [.bool true] [])) = k [.bool true] [] := by
 cases hv : q5n v [] l with
 | inr e => cases q5n u [] l <;> rfl
 | inl t =>
  obtain ⟨s, hu, hlow⟩ := z4O (i := 0) (s := []) (t := []) hab (fun n => ⟨id, Int.le_refl _, Int.le_refl _⟩) hw hv
  have hu : q5n u [] l = .inl s := hu
  rw [hu]
  have hs := z2o z3T hw hu
  have ht := z2o z3T hw hv
  have hs1 : (srt s).length ≤ 1048576 := by rw [(q3A s).length_eq]; have := hs.2; simp at this; omega
  have ht1 : (srt t).length ≤ 1048576 := by rw [(q3A t).length_eq]; have := ht.2; simp at this; omega
  refine (z9K (srt s) (srt t) hs1 ht1 N2 _ _).trans ?_
  rw [q9M (z7y ht.1) (z7y hs.1) (Nat.zero_le _) (y0p hs.1 ht.1 hlow)]
  simp [q06, q1I, c9, Z1, Q1]
theorem z2g (l : List C) (a b : Int) (hw : ∀ x ∈ l, C.wf w4 x) (hl : l.length * 32 ≤ 140737488355328) (hc : q7J l ≤ 1048576) (hN : 140737488355329 < N) (k : KD R) : W5 N (.slice l) (.int a) (.int b) k = k [.bool true] [] := by
 have N2 : 4398046511105 < N := by omega
 rw [q2O]
 unfold H2
 simp only [J4, z2A l hw hl N2, y2I, q06, q1I, Z1, c9]
 cases y0v l with
 | false => rfl
 | true =>
  simp only [Bool.not_true, cond_false, z7f l hw hl N2, q06, Q1]
  have f1 : ∀ (h : Int) (k : KD R), j6 N (C.slice l) (C.int h) k = _ := fun h k => y2R l h hw hl hc N2 k
  simp only [f1, q06, q1I, c9, Z1, Q1, decide_true, Bool.not_true, cond_false, cond_true, List.length_map, Int.reduceEq, decide_false, Bool.not_false]
  rcases Int.lt_trichotomy a b with h | h | h
  ·have h' : ¬ b < a := by omega
   simp only [h, h', if_true, if_false]
   exact q7R l a b (by omega) hw hl hc N2 k
  ·subst h
   simp only [Int.lt_irrefl, if_false]
   exact q7R l a a (by omega) hw hl hc N2 k
  ·have h' : ¬ a < b := by omega
   simp only [h, h', if_true, if_false]
   exact q7R l b a (by omega) hw hl hc N2 k
theorem z3J : ∀ l : List C, q7J l ≤ bulkCs l
 | [] => Nat.zero_le _
 | x :: l => by
  have ih := z3J l
  have h1 := bulkCs_len (x.get 1).elems
  have h2 := bulk_elems (x.get 1)
  have h3 := bulk_get x 1
  simp only [q7J, List.map_cons, List.sum_cons, bulkCs] at ih ⊢
  omega
theorem z0o (A : Key → Option O) (l a b : C) (hb : bulkCs [l, a, b] ≤ 1048576) : j5 (X0 gl0) 4 [.d (.slice 32 w4) l, .d (.int .u64) a, .d (.int .u64) b] A (.d .bool (.bool true)) [] := by
 refine y04 (ts := [.slice 32 w4, .int .u64, .int .u64]) (cs := [l, a, b]) fun W => ?_
 have h0 := W 0 _ _ rfl rfl
 have h1 := W 1 _ _ rfl rfl
 have h2 := W 2 _ _ rfl rfl
 simp only [C.wf] at h0 h1 h2
 refine y4P (q6P 140737488355330) ?_
 show F8 140737488355330 [.d (.slice 32 w4) l, .d (.int .u64) a, .d (.int .u64) b] A kR = _
 simp only [F8, and_self, if_true]
 have hc : q7J l.elems ≤ 1048576 := by
  have q1 := z3J l.elems
  have q2 := bulk_elems l
  have q3 := bulkC_pos a
  simp only [bulkCs] at hb
  omega
 rw [h0.1, h1.1, h2.1, z2g l.elems a.toInt b.toInt h0.2.2.2 h0.2.1 hc (by omega)]
 rfl
end Go.Proofs.YtefppgmopnnphaaDoor
