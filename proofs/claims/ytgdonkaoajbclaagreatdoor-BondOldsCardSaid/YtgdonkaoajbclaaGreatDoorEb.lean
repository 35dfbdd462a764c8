/-
 A framework for runs of Go code over abstract data: what it needs, and that it is sound, part 2.
 Conditions: none.
-/
import Derived.Test.YtgdonkaoajbclaaGreatDoorEa
import Derived.MapKept
import Derived.WideKeyRuns
import Derived.Laws.IdiomStrings
set_option linter.all false
namespace Go.E
open Go
mutual
def V.sites (lv : Nat → Option Nat) : List Nat → V → List (Nat × List Nat)
 | p, .sl _ _ cs t => if lv t = some cs.length then [(t, p)] else []
 | p, .agg _ vs => V.z5x lv p 0 vs
 | _, _ => []
def V.z5x (lv : Nat → Option Nat) : List Nat → Nat → List V → List (Nat × List Nat)
 | _, _, [] => []
 | p, i, x :: xs => V.sites lv (p ++ [i]) x ++ V.z5x lv p (i + 1) xs
end
mutual
def V.b6 (σ : List (Nat × List Nat)) (lv : Nat → Option Nat) : List Nat → V → V
 | p, .sl eb e cs t => if look σ t = some p ∧ lv t = some cs.length then .ts eb e cs else .d (.slice eb e) (.slice cs)
 | p, .agg τ vs => .agg τ (V.q3N σ lv p 0 vs)
 | _, x => x
def V.q3N (σ : List (Nat × List Nat)) (lv : Nat → Option Nat) : List Nat → Nat → List V → List V
 | _, _, [] => []
 | p, i, x :: xs => V.b6 σ lv (p ++ [i]) x :: V.q3N σ lv p (i + 1) xs
end
theorem V.z4Z (σ : List (Nat × List Nat)) (lv : Nat → Option Nat) : ∀ (p : List Nat) (i : Nat) (xs : List V), (V.q3N σ lv p i xs).length = xs.length
 | _, _, [] => rfl
 | p, i, x :: xs => by simp [V.q3N, V.z4Z σ lv p (i + 1) xs]
theorem V.z1f (σ : List (Nat × List Nat)) (lv : Nat → Option Nat) (p : List Nat) (x : V) : (x.b6 σ lv p).ty = x.ty := by
 cases x <;> simp only [V.b6] <;> (try split) <;> simp [V.ty]
theorem V.z8G (σ : List (Nat × List Nat)) (lv : Nat → Option Nat) (p : List Nat) (x : V) : (x.b6 σ lv p).plain = x.plain := by
 cases x <;> simp only [V.b6] <;> (try split) <;> simp [V.plain]
mutual
def V.okH : V → Bool
 | .fn _ vs => V.X4 vs
 | .agg _ vs => V.y5o vs
 | .tup _ => false
 | _ => true
def V.y5o : List V → Bool
 | [] => true
 | x :: xs => x.okH && V.y5o xs
end
mutual
theorem V.z3U (σ : List (Nat × List Nat)) (lv : Nat → Option Nat) : ∀ (x : V) (p : List Nat), x.okH = true → (x.b6 σ lv p).k6 = true
 | .sl eb e cs t, p, _ => by simp only [V.b6]; split <;> rfl
 | .agg τ vs, p, h => by simp only [V.b6, V.k6]; exact V.z8F σ lv vs p 0 (by simpa [V.okH] using h)
 | .fn f vs, p, h => by simpa [V.b6, V.k6, V.okH] using h
 | .tup _, p, h => by simp [V.okH] at h
 | .d _ _, _, _ | .ts _ _ _, _, _ | .emp _ _, _, _ | .nilc, _, _ | .ptr _ _ _, _, _ | .cptr _ _, _, _ | .sr _ _ _ _ _ _ _, _, _ | .mp _, _, _ | .top _, _, _ | .any, _, _ => by simp [V.b6, V.k6]
theorem V.z8F (σ : List (Nat × List Nat)) (lv : Nat → Option Nat) : ∀ (xs : List V) (p : List Nat) (i : Nat), V.y5o xs = true → V.X4 (V.q3N σ lv p i xs) = true
 | [], _, _, _ => rfl
 | x :: xs, p, i, h => by
  simp only [V.y5o, Bool.and_eq_true] at h
  simp only [V.q3N, V.X4, Bool.and_eq_true]
  exact ⟨V.z3U σ lv x _ h.1, V.z8F σ lv xs _ _ h.2⟩
end
def G.home (Γ : G) (k : Key) (σ : List (Nat × List Nat)) : G :=
 { Γ with κ := fun b => match Γ.κ b with
   | some (.tok t, sz) => match look σ t with
    | some p => some (.home k p, sz)
    | none => some (.tok t, sz)
   | x => x }
def q7q (σ : List (Nat × List Nat)) : List (Nat × Option Nat) := σ.map fun x => (x.1, none)
theorem q8t (σ : List (Nat × List Nat)) (tk : List (Nat × Option Nat)) (t : Nat) : look (q7q σ ++ tk) t = match look σ t with | some _ => some none | none => look tk t := by
 induction σ with
 | nil => rfl
 | cons x σ ih =>
  obtain ⟨u, p⟩ := x
  simp only [q7q, List.map_cons, List.cons_append, look] at ih ⊢
  split
  ·rfl
  ·exact ih
section
variable {P : Program} {Γ : G} {w w' : World} {s : S}
theorem g9.home (Γ : G) (k : Key) (σ : List (Nat × List Nat)) : g9 Γ (Γ.home k σ) := ⟨Hp.le_refl _, fun _ _ h => h, fun t x L h => ⟨x, L, h, Nat.le_refl _, fun _ => rfl⟩, fun _ _ h => h⟩
mutual
theorem z6.b6 (c : y9 Γ w s) (k : Key) (σ : List (Nat × List Nat)) : ∀ (x : V) {p : List Nat} {vs : List Value}, z6 Γ none p x vs → z6 (Γ.home k σ) (some k) p (x.b6 σ s.live p) vs
 | .sl eb e cs t, p, vs, h => by
  simp only [z6] at h
  obtain ⟨a, n, cap, rfl, h2, x, L, h3, h4, h5⟩ := h
  simp only [V.b6]
  split
  ·rename_i hc
   obtain ⟨hσ, hl⟩ := hc
   obtain ⟨x', h6, h7⟩ := c.tok t _ hl
   rw [h3] at h6; cases h6
   have h5 := h5 rfl
   simp only [z6]
   refine ⟨a, n, cap, k, rfl, rfl, h2, ?_⟩
   cases x with
   | none => exact .inl h5
   | some y =>
    obtain ⟨b, pos, sz⟩ := y
    simp only at h5
    obtain ⟨⟨l, a1, a2⟩, a3⟩ := h7 b pos sz rfl
    exact .inr ⟨b, l, sz, h5.1, a1, by rw [a2]; exact h5.2.1, by simp [G.home, a3, hσ], h5.2.2⟩
  ·simp only [z6]; exact h2
 | .agg τ xs, p, vs, h => by
  simp only [z6] at h
  simp only [V.b6, z6]
  exact ⟨h.1, h.2.1, by rw [V.z4Z]; exact h.2.2.1, h.2.2.2.1, w5.b6 c k σ xs h.2.2.2.2⟩
 | .ts _ _ _, _, _, h => by
  simp only [z6] at h
  obtain ⟨_, _, _, _, h0, _⟩ := h
  cases h0
 | .tup _, _, _, h => by simp only [z6] at h
 | .d τ cc, _, _, h => by simp only [V.b6]; exact (z6.b5 (g9.home Γ k σ) (hm := none) trivial _ h).Y6
 | .emp _ _, _, _, h => by simp only [V.b6]; exact (z6.b5 (g9.home Γ k σ) (hm := none) trivial _ h).Y6
 | .nilc, _, _, h => by simp only [V.b6]; exact (z6.b5 (g9.home Γ k σ) (hm := none) trivial _ h).Y6
 | .ptr _ _ _, _, _, h => by simp only [V.b6]; exact (z6.b5 (g9.home Γ k σ) (hm := none) trivial _ h).Y6
 | .cptr _ _, _, _, h => by simp only [V.b6]; exact (z6.b5 (g9.home Γ k σ) (hm := none) trivial _ h).Y6
 | .sr _ _ _ _ _ _ _, _, _, h => by simp only [V.b6]; exact (z6.b5 (g9.home Γ k σ) (hm := none) trivial _ h).Y6
 | .mp _, _, _, h => by simp only [V.b6]; exact (z6.b5 (g9.home Γ k σ) (hm := none) trivial _ h).Y6
 | .fn _ _, _, _, h => by simp only [V.b6]; exact (z6.b5 (g9.home Γ k σ) (hm := none) trivial _ h).Y6
 | .top _, _, _, h => by simp only [V.b6]; exact (z6.b5 (g9.home Γ k σ) (hm := none) trivial _ h).Y6
 | .any, _, _, _ => by simp only [V.b6, z6]
theorem w5.b6 (c : y9 Γ w s) (k : Key) (σ : List (Nat × List Nat)) : ∀ (xs : List V) {p : List Nat} {i : Nat} {τ : Ty} {vs : List Value}, w5 Γ none p i τ xs vs → w5 (Γ.home k σ) (some k) p i τ (V.q3N σ s.live p i xs) vs
 | [], _, _, _, _, _ => by simp only [V.q3N, w5]
 | x :: xs, _, _, _, _, h => by
  simp only [w5] at h
  simp only [V.q3N, w5, V.z1f]
  obtain ⟨⟨o, f, h1, h2, h3, h4⟩, h5⟩ := h
  exact ⟨⟨o, f, h1, h2, h3, z6.b6 c k σ x h4⟩, w5.b6 c k σ xs h5⟩
end
theorem y9.home (c : y9 Γ w s) (k : Key) (σ : List (Nat × List Nat)) : y9 (Γ.home k σ) w { s with tk := q7q σ ++ s.tk } ∧ GLe Γ (Γ.home k σ) := by
 refine ⟨?_, ⟨Hp.le_refl _, rfl, fun _ _ => rfl, fun _ _ h => h, rfl, rfl, fun _ _ h => h, fun _ h => h⟩⟩
 have hlive : ∀ t L, S.live { s with tk := q7q σ ++ s.tk } t = some L → look σ t = none ∧ s.live t = some L := by
  intro t L h
  unfold S.live q0n at h
  simp only [q8t] at h
  cases hs : look σ t with
  | some p => simp [hs] at h
  | none => rw [hs] at h; exact ⟨rfl, h⟩
 refine c.change (g9.home Γ k σ) rfl rfl rfl rfl c.hH (fun _ _ => rfl) (fun b o sz h => ?_) (fun j o h => ?_) (fun _ h _ => h) c.dom c.hσ c.inj (fun t L h => ?_) (fun t h => ?_) (Nat.le_refl _)
 ·simp only [G.home] at h
  cases hk : Γ.κ b with
  | none => simp [hk] at h
  | some y =>
   obtain ⟨o', sz'⟩ := y
   have : sz' = sz := by
    cases o' with
    | home => simp [hk] at h; exact h.2
    | tok t => simp only [hk] at h; split at h <;> simp at h <;> exact h.2
   subst this
   exact c.hκ b o' sz' hk
 ·refine .inl ⟨h, fun hd => ⟨fun b p sz hb => ⟨by simp [G.home, hb], rfl⟩, fun b τ hb => ?_⟩⟩
  obtain ⟨a1, _⟩ := c.q0R hb h hd
  exact ⟨rfl, a1⟩
 ·obtain ⟨h1, h2⟩ := hlive t L h
  obtain ⟨x, h3, h4⟩ := c.tok t L h2
  refine ⟨x, h3, fun b pos sz hx => ?_⟩
  obtain ⟨a1, a2⟩ := h4 b pos sz hx
  exact ⟨a1, by simp [G.home, a2, h1]⟩
 ·have := c.tdom t h
  unfold S.known at this ⊢
  rw [q8t]
  split
  ·rfl
  ·exact this
theorem x1W (c : y9 Γ w s) {n : Nat} (hn : s.obj (.l n) = none) {x : V} {cells : Array Value} {T : TypeId} (he : Ext w w') (hw : w'.heap[w.heap.size]? = some (.cells cells T (0, 0))) (hsz : x.ty.size ≤ cells.size)
  (hx : z6 Γ none [] x (chunk cells.toList 0 x.ty.size)) (hp : x.plain = true) (hok : x.okH = true) :
  j4 Γ w { s with loc := (.l n, .box (x.b6 (x.sites s.live []) s.live [])) :: s.loc, tk := q7q (x.sites s.live []) ++ s.tk } (.ptr (.l n) [] x.ty) (.pointer (some ⟨w.heap.size, 0, none⟩)) w' := by
 obtain ⟨c0, g0⟩ := c.home (.l n) (x.sites s.live [])
 have p0 := g9.home Γ (.l n) (x.sites s.live [])
 have hx' := hx.b6 c (.l n) (x.sites s.live [])
 obtain ⟨h1, h2, h3⟩ := c0.c6 (k := .l n) hn he (τ := x.ty) (o := .box (x.b6 (x.sites s.live []) s.live [])) fun Γ' hpr hkh hι hH hZ =>
  ⟨_, cells, T, by rw [V.z1f]; exact hι, hH, hZ, hw, by rw [V.z1f]; exact hsz, by rw [V.z1f]; exact hx'.b5 hpr hkh, by rw [V.z8G]; exact hp, V.z3U _ _ _ _ hok⟩
 exact ⟨_, g0.trans h3, p0.trans h2, h1, q5C (τ0 := x.ty) (by simp [G.c6, q1q]) rfl⟩
theorem x33 (c : y9 Γ w s) {o : Oper} {a : Act} {T : TypeId} {x : Operand} {n : Nat} {y : V} (ho : o.op = .box T x) (hn : s.obj (.l n) = none) (hr : z7 Γ y (a.eval x)) (hpl : y.plain = true) (hok : y.okH = true) :
  o8 P o a w (j4 Γ w { s with loc := (.l n, .box (y.b6 (y.sites s.live []) s.live [])) :: s.loc, tk := q7q (y.sites s.live []) ++ s.tk } (.ptr (.l n) [] y.ty)) := by
 obtain ⟨h1, _⟩ := (v5 hpl).1 hr
 have hlen := h1.length hpl
 have hb := x1W c hn (T := T) (x := y) (cells := (a.eval x).cells) (Ext.alloc w _) (heap_alloc_new w (.cells (a.eval x).cells T)) (by rw [← hlen]; simp) (by rw [← hlen, q6x]; exact h1) hpl hok
 refine o8.val (v := .pointer (some ⟨w.heap.size, 0, none⟩)) (w' := w.alloc (.cells (a.eval x).cells T)) ?_ hb
 unfold execOp
 simp only [ho, Instr.box]
 simp [newVar, newRow]
theorem z58 : ∀ {xs : List V} {i : Nat} {y : V}, V.X4 xs = true → y.k6 = true → V.X4 (xs.set i y) = true
 | [], _, _, _, _ => rfl
 | x :: xs, 0, y, h, hy => by simp [V.X4] at h ⊢; exact ⟨hy, h.2⟩
 | x :: xs, i + 1, y, h, hy => by simp [V.X4] at h ⊢; exact ⟨h.1, z58 h.2 hy⟩
theorem z59 (c : C) : ∀ (j : Nat) (fs : List Ty), V.X4 (J2 c j fs) = true
 | _, [] => rfl
 | j, f :: fs => by simp [J2, V.X4, V.k6, z59 c (j + 1) fs]
theorem V.x1U : ∀ (x : V) (i : Nat) (y : V), x.k6 = true → y.k6 = true → (x.set i y).k6 = true
 | .d τ c, i, y, _, hy => by
  cases y <;> simp only [V.set] <;> first | rfl | (simp only [V.k6]; exact z58 (z59 _ _ _) hy)
 | .agg τ vs, i, y, hx, hy => by simp only [V.set, V.k6]; exact z58 (by simpa [V.k6] using hx) hy
 | .sl _ _ _ _, _, _, h, _ => by simp [V.k6] at h
 | .ts _ _ _, _, _, _, _ | .emp _ _, _, _, _, _ | .nilc, _, _, _, _ | .ptr _ _ _, _, _, _, _ | .cptr _ _, _, _, _, _ | .sr _ _ _ _ _ _ _, _, _, _, _ | .mp _, _, _, _, _ | .fn _ _, _, _, _, _ | .tup _, _, _, _, _ | .top _, _, _, _, _ | .any, _, _, _, _ => by simp [V.set, V.k6]
theorem y2C : ∀ {xs : List V} {i : Nat} {x : V}, V.X4 xs = true → xs[i]? = some x → x.k6 = true
 | [], _, _, _, h => by simp at h
 | y :: ys, 0, x, h, hx => by simp [V.X4] at h; simp at hx; subst hx; exact h.1
 | y :: ys, i + 1, x, h, hx => by simp [V.X4] at h; exact y2C h.2 (by simpa using hx)
theorem V.x1V {x : V} (h : x.k6 = true) (i : Nat) : (x.get i).k6 = true := by
 cases x <;> simp only [V.get] <;> (try rfl)
 case agg τ vs =>
  cases hi : vs[i]? with
  | none => simp [List.getD, hi, V.k6]
  | some y => simp [List.getD, hi]; exact y2C (by simpa [V.k6] using h) hi
theorem V.q9Z : ∀ (q : List Nat) (x y : V), x.k6 = true → y.k6 = true → (x.setAt q y).k6 = true
 | [], _, _, _, hy => hy
 | i :: q, x, y, hx, hy => by simp only [V.setAt]; exact V.x1U x i _ hx (V.q9Z q _ y (V.x1V hx i) hy)
theorem y9.k6 (c : y9 Γ w s) {k : Key} {x : V} {y : Nat × Ty} (hι : Γ.ι k = some y) (h : s.obj k = some (.box x)) : x.k6 = true := by
 obtain ⟨_, _, _, _, _, _, _, _, _, _, h⟩ := c.own hι h
 exact h
theorem x0Z (hP : v9 P = true) (c : y9 Γ w s) {o : Oper} {a : Act} {T : TypeId} {p y : Operand} {k : Key} {q : List Nat} {τ : Ty} {x Y : V}
  (ho : o.op = .store T p y) (hr : z7 Γ (.ptr k q τ) (a.eval p)) (hy : z7 Γ Y (a.eval y)) (hobj : s.obj k = some (.box x))
  (ht : τ = ty P T) (hk : τ.known = true) (hY : (X1 τ Y).ty = τ) (hYp : (X1 τ Y).plain = true) (hne : x.at q ≠ .any) (hd : x.ty.W9 = true) (hok : (X1 τ Y).okH = true) :
  o8 P o a w (j4 Γ w { s with loc := (k, .box (x.setAt q ((X1 τ Y).b6 ((X1 τ Y).sites s.live q) s.live q))) :: s.loc, tk := q7q ((X1 τ Y).sites s.live q) ++ s.tk } .any) := by
 obtain ⟨c0, g0⟩ := c.home k ((X1 τ Y).sites s.live q)
 have p0 := g9.home Γ k ((X1 τ Y).sites s.live q)
 obtain ⟨b, τ0, off, h1, h2, hpv⟩ := q1t (hr.b5 p0)
 obtain ⟨b2, cells, E, e1, e2, e3, e4, e5, e6, e7, e8⟩ := c0.own h1 hobj
 rw [h1] at e1
 cases e1
 obtain ⟨g1, g2, _⟩ := e6.at_ h2 hne e7
 have hcl : (chunk cells.toList 0 x.ty.size).length = x.ty.size := g8 _ _ _ (by simpa using e5)
 rw [hcl] at g2
 have hy' := z9A (τ := τ) hy
 obtain ⟨q1, q2⟩ := (v5 hYp).1 hy'
 have hlen := q1.length hYp
 rw [hY] at hlen
 have q3 := (q1.Y6 (hm := none) (p' := q)).b6 c k ((X1 τ Y).sites s.live q)
 obtain ⟨r1, r2, r3⟩ := z6.setAt (q := q) (p := []) (y := (X1 τ Y).b6 ((X1 τ Y).sites s.live q) s.live q) e6 e7 hd (by rw [V.z1f, hY]; exact h2) hne q3 (by rw [V.z8G]; exact hYp)
 have hrun := y4K (w := w) (T := T) (τ := τ) (v := a.eval y) (off := off) hP ht.symm hk e4 (by omega) hlen (q1.one hYp)
 have hlc : off + (a.eval y).cells.toList.length ≤ cells.toList.length := by rw [hlen]; simp; omega
 have hs2 : (r8 cells.toList off (a.eval y).cells.toList).toArray.size = cells.size := by simp only [List.size_toArray, W0 hlc]; simp
 have c' := c0.write (x' := x.setAt q ((X1 τ Y).b6 ((X1 τ Y).sites s.live q) s.live q)) (cells' := (r8 cells.toList off (a.eval y).cells.toList).toArray) (w' := w.setRow b (r8 cells.toList off (a.eval y).cells.toList).toArray) hobj h1
  (setRow_heap w b cells _ E (0, 0) e4) (fun b' hb' => setRow_other w b b' _ hb') rfl (by rw [r2, hs2]; exact e5)
  (by rw [r2, List.toList_toArray, z4i _ _ (by rw [hlen]; exact g2) (by simpa using e5)]; exact r1) r2 r3 (V.q9Z q x _ (c0.k6 h1 hobj) (V.z3U _ _ _ _ hok)) (fun arr T fr h => by rw [e4] at h; cases h; exact hs2)
 refine o8.skip (w' := w.setRow b (r8 cells.toList off (a.eval y).cells.toList).toArray) ?_ ⟨_, g0, p0, c', by simp [z7]⟩
 unfold execOp
 simp [ho, Instr.storeAt, hpv, Instr.sureAddr, hrun]
def V.z1K : V → Bool
 | .ts _ _ _ => false
 | _ => true
mutual
theorem z6.z2X {Γ Γ' : G} (hp : g9 Γ Γ') {k : Key} {q : List Nat} (hk : ∀ b p sz, Γ.κ b = some (.home k p, sz) → p ≠ q → Γ'.κ b = Γ.κ b ∧ Γ'.H b = Γ.H b) :
  ∀ (x : V) {p : List Nat} {vs : List Value}, (∀ r, p ++ r = q → (x.at r).z1K = true) → z6 Γ (some k) p x vs → z6 Γ' (some k) p x vs
 | .ts eb e cs, p, _, hn, h => by
  simp only [z6] at h ⊢
  obtain ⟨a, n, cap, k', h0, h1, h2, h3⟩ := h
  cases h0
  refine ⟨a, n, cap, k, rfl, h1, h2.mono hp.H, ?_⟩
  have hpq : p ≠ q := by
   intro e
   have := hn [] (by simpa using e)
   simp [V.at, V.z1K] at this
  rcases h3 with h3 | ⟨b, l, sz, a1, a2, a3, a4, a5⟩
  ·exact .inl h3
  ·obtain ⟨e1, e2⟩ := hk b p sz a4 hpq
   exact .inr ⟨b, l, sz, a1, by rw [e2, a2], a3, by rw [e1, a4], a5⟩
 | .agg τ xs, p, vs, hn, h => by
  simp only [z6] at h ⊢
  refine ⟨h.1, h.2.1, h.2.2.1, h.2.2.2.1, w5.z2X hp hk xs (fun i r hr => ?_) h.2.2.2.2⟩
  have := hn (i :: r) (by simpa using hr)
  simp only [V.at, V.get] at this
  simpa using this
 | .d _ _, _, _, _, h => by simp only [z6] at h ⊢; exact h.mono hp.H
 | .sl eb e cs t, _, _, _, h => by
  simp only [z6] at h ⊢
  obtain ⟨a, n, cap, h1, h2, h3⟩ := h
  exact ⟨a, n, cap, h1, h2.mono hp.H, h3.b5 hp⟩
 | .emp _ _, _, _, _, h => by simpa only [z6] using h
 | .nilc, _, _, _, h => by simpa only [z6] using h
 | .ptr k q τ, _, _, _, h => by
  simp only [z6] at h ⊢
  obtain ⟨b, τ0, o, h1, h2⟩ := h
  exact ⟨b, τ0, o, hp.ι _ _ h1, h2⟩
 | .cptr τ c, _, _, _, h => by
  simp only [z6] at h ⊢
  obtain ⟨b, off, l, h1, h2, h3, h4⟩ := h
  obtain ⟨l', a1, a2, a3⟩ := z6V hp.H h2 h3 h4
  exact ⟨b, off, l', h1, a1, a2, a3⟩
 | .sr _ _ _ _ _ _ _, _, _, _, h => by
  simp only [z6] at h ⊢
  rcases h with h | ⟨b, τ0, o, m, cap, h1, h2, h3, h4, h5, h6, h7, h8, h9⟩
  ·exact .inl h
  exact .inr ⟨b, τ0, o, m, cap, hp.ι _ _ h1, h2, h3, h4, h5, h6, h7, h8, fun e => (h9 e).imp id fun ⟨sz, a1, a2⟩ => ⟨sz, hp.σ _ _ a1, a2⟩⟩
 | .mp _, _, _, _, h => by
  simp only [z6] at h ⊢
  obtain ⟨b, h1, h2⟩ := h
  exact ⟨b, hp.ι _ _ h1, h2⟩
 | .fn f caps, _, _, _, h => by
  simp only [z6] at h ⊢
  obtain ⟨cv, h1, h2⟩ := h
  exact ⟨cv, h1, v3.b5 hp caps h2⟩
 | .tup _, _, _, _, h => by simp only [z6] at h
 | .top _, _, _, _, h => by simpa only [z6] using h
 | .any, _, _, _, _ => by simp only [z6]
theorem w5.z2X {Γ Γ' : G} (hp : g9 Γ Γ') {k : Key} {q : List Nat} (hk : ∀ b p sz, Γ.κ b = some (.home k p, sz) → p ≠ q → Γ'.κ b = Γ.κ b ∧ Γ'.H b = Γ.H b) :
  ∀ (xs : List V) {p : List Nat} {i : Nat} {τ : Ty} {vs : List Value}, (∀ j r, p ++ [i + j] ++ r = q → ((xs.getD j .any).at r).z1K = true) → w5 Γ (some k) p i τ xs vs → w5 Γ' (some k) p i τ xs vs
 | [], _, _, _, _, _, _ => by simp only [w5]
 | x :: xs, p, i, τ, vs, hn, h => by
  simp only [w5] at h ⊢
  obtain ⟨⟨o, f, h1, h2, h3, h4⟩, h5⟩ := h
  refine ⟨⟨o, f, h1, h2, h3, z6.z2X hp hk x (fun r hr => ?_) h4⟩, w5.z2X hp hk xs (fun j r hr => ?_) h5⟩
  ·have := hn 0 r (by simpa using hr)
   simpa using this
  ·have := hn (j + 1) r (by rw [show i + (j + 1) = i + 1 + j by omega]; exact hr)
   simpa using this
end
theorem V.y1a : ∀ (q : List Nat) (x : V) {τ : Ty} {c : C}, (∃ eb e cs, x.at q = .ts eb e cs) → (x.setAt q (.d τ c)).at q = .d τ c
 | [], _, _, _, _ => rfl
 | i :: q, x, τ, c, hx => by
  obtain ⟨eb, e, cs, hx⟩ := hx
  simp only [V.at] at hx
  have ih := V.y1a q (x.get i) (τ := τ) (c := c) ⟨eb, e, cs, hx⟩
  cases x <;> (try (simp only [V.get, V.z63] at hx; cases hx; done))
  case d τ' c' =>
   exfalso
   have : ∀ (q : List Nat) (τ : Ty) (c : C), ∃ τ' c', (V.d τ c).at q = .d τ' c' := by
    intro q
    induction q with
    | nil => intro τ c; exact ⟨τ, c, rfl⟩
    | cons j q ih => intro τ c; simp only [V.at, V.get]; exact ih _ _
   obtain ⟨_, _, h⟩ := this q (τ'.get i) (c'.get i)
   simp only [V.get] at hx
   rw [h] at hx; cases hx
  case agg τ' vs =>
   have hlt : i < vs.length := by
    rcases Nat.lt_or_ge i vs.length with h | h
    ·exact h
    ·simp [V.get, List.getD, List.getElem?_eq_none h, V.z63] at hx
   simp only [V.setAt, V.set, V.at]
   have : (V.agg τ' (vs.set i ((V.agg τ' vs).get i |>.setAt q (.d τ c)))).get i = ((V.agg τ' vs).get i).setAt q (.d τ c) := by
    simp [V.get, List.getD, hlt]
   rw [this]; exact ih
theorem y9.take (c : y9 Γ w s) {k : Key} {q : List Nat} {x : V} {eb : Nat} {e : Ty} {cs : List C} {t b : Nat} {τ0 : Ty} {o0 : Nat} (ho : s.obj k = some (.box x)) (hx : x.at q = .ts eb e cs) (hd : x.ty.W9 = true) (ht : s.known t = false)
  (hι : Γ.ι k = some (b, τ0)) (hw : τ0.walk q = some (o0, .slice eb e)) {a : Option Addr} {n cap : Nat} (hcell : w.cell? ⟨b, o0, none⟩ = some (.slice a n cap)) :
  ∃ Γ', GLe Γ Γ' ∧ g9 Γ Γ' ∧ y9 Γ' w { s with loc := (k, .box (x.setAt q (.d (.slice eb e) (.slice cs)))) :: s.loc, tk := (t, some cs.length) :: s.tk } ∧ z7 Γ' (.sl eb e cs t) (.slice a n cap) := by
 obtain ⟨b2, cells, E, e1, e2, e3, e4, e5, e6, e7, e8⟩ := c.own hι ho
 rw [hι] at e1
 cases e1
 obtain ⟨g1, g2, g3⟩ := e6.at_ hw (by rw [hx]; simp) e7
 have hcl : (chunk cells.toList 0 x.ty.size).length = x.ty.size := g8 _ _ _ (by simpa using e5)
 rw [hcl] at g2
 simp only [Ty.size] at g2 g3
 have hch : chunk (chunk cells.toList 0 x.ty.size) o0 1 = chunk cells.toList o0 1 := by rw [Q8 _ _ _ _ _ (by omega), Nat.zero_add]
 have hce : chunk cells.toList o0 1 = [.slice a n cap] := by
  apply List.ext_getElem?
  intro j
  rw [p8]
  by_cases hj : j < 1
  ·have : j = 0 := by omega
   subst this
   simp [World.cell?, e4] at hcell
   simpa using hcell
  ·simp [hj]
 rw [hch, hce, hx] at g3
 simp only [z6] at g3
 obtain ⟨a', n', cap', k', hk', hv, hrc, htip⟩ := g3
 simp at hk' hv
 subst hk'
 obtain ⟨rfl, rfl, rfl⟩ := hv
 have hself : r8 (chunk cells.toList 0 x.ty.size) o0 [.slice a n cap] = chunk cells.toList 0 x.ty.size := by
  apply List.ext_getElem?
  intro j
  rw [X7 (by simp; omega)]
  split
  ·rename_i hj
   simp at hj
   have : j = o0 := by omega
   subst this
   have h0 : (chunk (chunk cells.toList 0 x.ty.size) j 1)[0]? = some (.slice a n cap) := by rw [hch, hce]; rfl
   rw [p8] at h0
   simp at h0 ⊢
   exact h0.symm
  ·rfl
 have hw' : x.ty.walk q = some (o0, (V.d (.slice eb e) (.slice cs)).ty) := hw
 obtain ⟨r1, r2, r3⟩ := z6.setAt (p := []) (ws := [.slice a n cap]) (y := .d (.slice eb e) (.slice cs)) e6 e7 hd hw' (by rw [hx]; simp) (by simpa only [z6] using hrc) rfl
 rw [hself] at r1
 have hns : (x.setAt q (.d (.slice eb e) (.slice cs))).k6 = true := V.q9Z q x _ e8 rfl
 -- the object as it is then, first under the old ghost
 have c1 : y9 Γ w { s with loc := (k, .box (x.setAt q (.d (.slice eb e) (.slice cs)))) :: s.loc } :=
  c.write ho hι e4 (fun _ _ => rfl) rfl (by rw [r2]; exact e5) (by rw [r2]; exact r1) r2 r3 hns (fun arr T fr h => by rw [e4] at h; cases h; rfl)
 obtain ⟨_, n1, cap1, f1, _, f2, f3, f4, f5, f6⟩ := q0j hrc
 simp at f1
 obtain ⟨rfl, rfl, rfl⟩ := f1
 simp only [C.elems] at f2
 rcases htip with htip | ⟨b1, l, sz, rfl, h1, h2, h3, h4⟩
 ·obtain ⟨c2, p2, g2'⟩ := c1.U0 (t := t) (x := none) (L := cs.length) ht (fun _ _ _ h => by cases h)
  refine ⟨_, g2', p2, c2, (s6 rfl rfl).2 ⟨?_, rfl⟩⟩
  simp only [z6]
  exact ⟨a, n, cap, rfl, hrc, none, cs.length, j5 _ _ _, Nat.le_refl _, fun _ => htip⟩
 ·have hτ : Γ.τ t = none := c.y9P ht
  obtain ⟨z1, z2, arr, T, z3, z4⟩ := c.hκ b1 _ _ h3
  have hp : g9 Γ { Γ with τ := Z1 Γ.τ t (some (b1, l.length, sz), cs.length), κ := Z1 Γ.κ b1 (.tok t, sz) } :=
   ⟨Hp.le_refl _, fun _ _ h => h, fun u y M h => by
    have : u ≠ t := by intro e; subst e; rw [hτ] at h; cases h
    exact ⟨y, M, (U8 _ _ this).trans h, Nat.le_refl _, fun _ => rfl⟩, fun _ _ h => h⟩
  have hne : ∀ b' o', Γ.κ b' = some o' → b' ≠ b1 → Z1 Γ.κ b1 (.tok t, sz) b' = some o' := fun b' o' h hb => (U8 _ _ hb).trans h
  refine ⟨{ Γ with τ := Z1 Γ.τ t (some (b1, l.length, sz), cs.length), κ := Z1 Γ.κ b1 (.tok t, sz) }, ⟨Hp.le_refl _, rfl, fun _ _ => rfl, fun _ _ h => h, rfl, rfl, fun _ _ h => h, fun _ h => h⟩, hp, ?_, (s6 rfl rfl).2 ⟨?_, rfl⟩⟩
  ·refine c1.change hp rfl rfl rfl rfl c.hH (fun _ _ => rfl) (fun b' o' sz' h => ?_) (fun j o' h => ?_) (fun _ h _ => h) c1.dom c.hσ c1.inj (fun u M h => ?_) (fun u h => ?_) (Nat.le_refl _)
   ·by_cases e : b' = b1
    ·subst e
     have h' : sz = sz' := by have := h; simp [Z1] at this; exact this.2
     subst h'
     exact ⟨z1, z2, arr, T, z3, z4⟩
    ·exact c.hκ b' o' sz' ((U8 _ _ e).symm.trans h)
   ·have h' : S.obj { s with loc := (k, .box (x.setAt q (.d (.slice eb e) (.slice cs)))) :: s.loc } j = some o' := h
    by_cases hj : k = j
    ·subst hj
     rw [Q9, if_pos rfl] at h'
     cases h'
     refine .inr ⟨b, cells, E, by rw [r2]; exact hι, e2, e3, e4, by rw [r2]; exact e5, ?_, r3, hns⟩
     rw [r2]
     refine z6.z2X (q := q) hp (fun b' p sz' hb hpq => ?_) _ (fun r hr => ?_) r1
     ·have : b' ≠ b1 := by
       intro e; subst e; rw [h3] at hb; simp at hb; exact hpq hb.1.symm
      exact ⟨(hne b' _ hb this).trans hb.symm, rfl⟩
     ·rw [List.nil_append] at hr
      subst hr
      have : (x.setAt r (.d (.slice eb e) (.slice cs))).at r = .d (.slice eb e) (.slice cs) := V.y1a r x ⟨_, _, _, hx⟩
      rw [this]; rfl
    ·refine .inl ⟨h', fun hd => ⟨fun b' p sz' hb => ?_, fun b' τ hb => ?_⟩⟩
     ·have : b' ≠ b1 := by
       intro e; subst e; rw [h3] at hb; simp at hb; exact hj hb.1.1
      exact ⟨(hne b' _ hb this).trans hb.symm, rfl⟩
     ·obtain ⟨a1, _⟩ := c1.q0R hb h' hd
      exact ⟨rfl, a1⟩
   ·have h9 : (if t = u then some cs.length else s.live u) = some M := (q4Q { s with loc := (k, .box (x.setAt q (.d (.slice eb e) (.slice cs)))) :: s.loc } t u (some cs.length)).symm.trans h
    clear h
    split at h9
    ·rename_i e
     subst e; cases h9
     refine ⟨_, j5 _ _ _, fun b' pos sz' e => ?_⟩
     cases e
     exact ⟨⟨l, h1, rfl⟩, j5 _ _ _⟩
    ·rename_i e
     have e' : u ≠ t := fun h' => e h'.symm
     obtain ⟨y, a1, a2⟩ := c.tok u M h9
     refine ⟨y, (U8 _ _ e').trans a1, fun b' pos sz' hy => ?_⟩
     obtain ⟨a3, a4⟩ := a2 b' pos sz' hy
     exact ⟨a3, hne b' _ a4 (fun e => by subst e; rw [h3] at a4; cases a4)⟩
   ·refine (q3r { s with loc := (k, .box (x.setAt q (.d (.slice eb e) (.slice cs)))) :: s.loc } t u (some cs.length)).trans ?_
    by_cases e : t = u
    ·simp [e]
    ·have e' : u ≠ t := fun h' => e h'.symm
     simp only [e, decide_false, Bool.false_or]
     refine c.tdom u ?_
     simpa [Z1, e'] using h
  ·simp only [z6]
   exact ⟨_, n, cap, rfl, hrc, _, _, j5 _ _ _, Nat.le_refl _, fun _ => ⟨rfl, h2, h4⟩⟩
end
end Go.E
namespace Go.E
open Go
mutual
def V.ren (ρ : Key → Key) (θ : Nat → Nat) : V → V
 | .sl eb e cs t => .sl eb e cs (θ t)
 | .ptr k q τ => .ptr (ρ k) q τ
 | .sr k q lo n cp eb e => .sr (ρ k) q lo n cp eb e
 | .mp k => .mp (ρ k)
 | .agg τ vs => .agg τ (V.q0B ρ θ vs)
 | .fn f vs => .fn f (V.q0B ρ θ vs)
 | .tup vs => .tup (V.q0B ρ θ vs)
 | .d τ c => .d τ c
 | .ts eb e cs => .ts eb e cs
 | .emp eb e => .emp eb e
 | .nilc => .nilc
 | .cptr τ c => .cptr τ c
 | .top τ => .top τ
 | .any => .any
def V.q0B (ρ : Key → Key) (θ : Nat → Nat) : List V → List V
 | [] => []
 | x :: xs => V.ren ρ θ x :: V.q0B ρ θ xs
end
def O.ren (ρ : Key → Key) : O → O
 | .box x => .box (x.ren ρ id)
 | .map kτ vτ es => .map kτ vτ (es.map fun c => (c.1, c.2.ren ρ id))
 | .it l pos => .it l pos
 | .dead τ => .dead τ
theorem O.q6J (ρ : Key → Key) (o : O) : (o.ren ρ).q0c = o.q0c := by cases o <;> rfl
theorem V.q4y (ρ : Key → Key) (θ : Nat → Nat) (x : V) : (x.ren ρ θ).ty = x.ty := by cases x <;> simp [V.ren, V.ty]
theorem V.z5G (ρ : Key → Key) (θ : Nat → Nat) (x : V) : (x.ren ρ θ).plain = x.plain := by cases x <;> simp [V.ren, V.plain]
theorem V.z8b (ρ : Key → Key) (θ : Nat → Nat) : ∀ xs : List V, (V.q0B ρ θ xs).length = xs.length
 | [] => rfl
 | x :: xs => by simp [V.q0B, V.z8b ρ θ xs]
mutual
theorem V.z3x (ρ : Key → Key) (θ : Nat → Nat) : ∀ x : V, (x.ren ρ θ).k6 = x.k6
 | .agg τ vs => by simp only [V.ren, V.k6]; exact V.z1E ρ θ vs
 | .fn f vs => by simp only [V.ren, V.k6]; exact V.z1E ρ θ vs
 | .tup vs => by simp only [V.ren, V.k6]; exact V.z1E ρ θ vs
 | .sl _ _ _ _ | .ptr _ _ _ | .sr _ _ _ _ _ _ _ | .mp _ | .d _ _ | .ts _ _ _ | .emp _ _ | .nilc | .cptr _ _ | .top _ | .any => by simp [V.ren, V.k6]
theorem V.z1E (ρ : Key → Key) (θ : Nat → Nat) : ∀ xs : List V, V.X4 (V.q0B ρ θ xs) = V.X4 xs
 | [] => rfl
 | x :: xs => by simp only [V.q0B, V.X4, V.z3x ρ θ x, V.z1E ρ θ xs]
end
mutual
theorem V.q41 (ρ ρ' : Key → Key) (h : ∀ k, ρ' (ρ k) = k) : ∀ x : V, (x.ren ρ id).ren ρ' id = x
 | .agg τ vs => by simp only [V.ren, V.z1D ρ ρ' h vs]
 | .fn f vs => by simp only [V.ren, V.z1D ρ ρ' h vs]
 | .tup vs => by simp only [V.ren, V.z1D ρ ρ' h vs]
 | .ptr _ _ _ | .sr _ _ _ _ _ _ _ | .mp _ => by simp [V.ren, h]
 | .sl _ _ _ _ | .d _ _ | .ts _ _ _ | .emp _ _ | .nilc | .cptr _ _ | .top _ | .any => by simp [V.ren]
theorem V.z1D (ρ ρ' : Key → Key) (h : ∀ k, ρ' (ρ k) = k) : ∀ xs : List V, V.q0B ρ' id (V.q0B ρ id xs) = xs
 | [] => rfl
 | x :: xs => by simp only [V.q0B, V.q41 ρ ρ' h x, V.z1D ρ ρ' h xs]
end
theorem O.q41 (ρ ρ' : Key → Key) (h : ∀ k, ρ' (ρ k) = k) (o : O) : (o.ren ρ).ren ρ' = o := by
 cases o with
 | box x => simp [O.ren, V.q41 ρ ρ' h]
 | map kτ vτ es =>
  simp only [O.ren, List.map_map]
  congr 1
  refine (List.map_congr_left (g := id) fun c _ => ?_).trans (List.map_id _)
  simp [V.q41 ρ ρ' h]
 | it => rfl
 | dead => rfl
structure q4t (Γ Γ' : G) (ρ : Key → Key) (hm : Option Key) : Prop where
 H : Γ.H.le Γ'.H
 ι : ∀ k x, Γ.ι k = some x → Γ'.ι (ρ k) = some x
 σ : ∀ b sz, Γ.σ b = some sz → Γ'.σ b = some sz
 κ : ∀ k b p sz, hm = some k → Γ.κ b = some (.home k p, sz) → Γ'.κ b = some (.home (ρ k) p, sz) ∧ Γ'.H b = Γ.H b
section
variable {Γ Γ' : G} {ρ : Key → Key} {θ : Nat → Nat}
mutual
theorem z6.ren {hm : Option Key} (hp : q4t Γ Γ' ρ hm) (hτ : ∀ t x, Γ.τ t = some x → Γ'.τ (θ t) = some x) : ∀ (x : V) {p : List Nat} {vs : List Value}, z6 Γ hm p x vs → z6 Γ' (hm.map ρ) p (x.ren ρ θ) vs
 | .d τ c, _, _, h => by simp only [z6, V.ren] at h ⊢; exact h.mono hp.H
 | .sl eb e cs t, _, _, h => by
  simp only [z6, V.ren] at h ⊢
  obtain ⟨a, n, cap, h1, h2, x, L, h3, h4⟩ := h
  exact ⟨a, n, cap, h1, h2.mono hp.H, x, L, hτ t _ h3, h4⟩
 | .ts eb e cs, _, _, h => by
  simp only [z6, V.ren] at h ⊢
  obtain ⟨a, n, cap, k, h0, h1, h2, h3⟩ := h
  refine ⟨a, n, cap, ρ k, by rw [h0]; rfl, h1, h2.mono hp.H, ?_⟩
  rcases h3 with h3 | ⟨b, l, sz, a1, a2, a3, a4, a5⟩
  ·exact .inl h3
  ·obtain ⟨e1, e2⟩ := hp.κ k b _ sz h0 a4
   exact .inr ⟨b, l, sz, a1, by rw [e2, a2], a3, e1, a5⟩
 | .emp _ _, _, _, h => by simpa only [z6, V.ren] using h
 | .nilc, _, _, h => by simpa only [z6, V.ren] using h
 | .ptr k q τ, _, _, h => by
  simp only [z6, V.ren] at h ⊢
  obtain ⟨b, τ0, o, h1, h2⟩ := h
  exact ⟨b, τ0, o, hp.ι _ _ h1, h2⟩
 | .cptr τ c, _, _, h => by
  simp only [z6, V.ren] at h ⊢
  obtain ⟨b, off, l, h1, h2, h3, h4⟩ := h
  obtain ⟨l', a1, a2, a3⟩ := z6V hp.H h2 h3 h4
  exact ⟨b, off, l', h1, a1, a2, a3⟩
 | .sr k q lo n cp eb e, _, _, h => by
  simp only [z6, V.ren] at h ⊢
  rcases h with h | ⟨b, τ0, o, m, cap, h1, h2, h3, h4, h5, h6, h7, h8, h9⟩
  ·exact .inl h
  exact .inr ⟨b, τ0, o, m, cap, hp.ι _ _ h1, h2, h3, h4, h5, h6, h7, h8, fun e => (h9 e).imp id fun ⟨sz, a1, a2⟩ => ⟨sz, hp.σ _ _ a1, a2⟩⟩
 | .mp k, _, _, h => by
  simp only [z6, V.ren] at h ⊢
  obtain ⟨b, h1, h2⟩ := h
  exact ⟨b, hp.ι _ _ h1, h2⟩
 | .agg τ xs, _, _, h => by
  simp only [z6, V.ren] at h ⊢
  exact ⟨h.1, h.2.1, by rw [V.z8b]; exact h.2.2.1, h.2.2.2.1, w5.ren hp hτ xs h.2.2.2.2⟩
 | .fn f caps, _, _, h => by
  simp only [z6, V.ren] at h ⊢
  obtain ⟨cv, h1, h2⟩ := h
  exact ⟨cv, h1, v3.ren ⟨hp.H, hp.ι, hp.σ, fun _ _ _ _ h => by cases h⟩ hτ caps h2⟩
 | .tup _, _, _, h => by simp only [z6] at h
 | .top _, _, _, h => by simpa only [z6, V.ren] using h
 | .any, _, _, _ => by simp only [z6, V.ren]
theorem w5.ren {hm : Option Key} (hp : q4t Γ Γ' ρ hm) (hτ : ∀ t x, Γ.τ t = some x → Γ'.τ (θ t) = some x) : ∀ (xs : List V) {p : List Nat} {i : Nat} {τ : Ty} {vs : List Value}, w5 Γ hm p i τ xs vs → w5 Γ' (hm.map ρ) p i τ (V.q0B ρ θ xs) vs
 | [], _, _, _, _, _ => by simp only [V.q0B, w5]
 | x :: xs, _, _, _, _, h => by
  simp only [w5, V.q0B, V.q4y] at h ⊢
  obtain ⟨⟨o, f, h1, h2, h3, h4⟩, h5⟩ := h
  exact ⟨⟨o, f, h1, h2, h3, z6.ren hp hτ x h4⟩, w5.ren hp hτ xs h5⟩
theorem v3.ren (hp : q4t Γ Γ' ρ none) (hτ : ∀ t x, Γ.τ t = some x → Γ'.τ (θ t) = some x) : ∀ (xs : List V) {vs : List Value}, v3 Γ xs vs → v3 Γ' (V.q0B ρ θ xs) vs
 | [], _, h => by simpa only [v3, V.q0B] using h
 | x :: xs, _, h => by
  simp only [v3, V.q0B, V.q4y] at h ⊢
  obtain ⟨v, vs', h1, h2, h3, h4⟩ := h
  exact ⟨v, vs', h1, by simpa using z6.ren hp hτ x h2, h3, v3.ren hp hτ xs h4⟩
end
mutual
theorem z6.q8l {hm : Option Key} : ∀ (x : V) {p : List Nat} {vs : List Value}, x.k6 = true → z6 Γ hm p x vs → z6 { Γ with τ := fun _ => none } hm p x vs
 | .sl _ _ _ _, _, _, h, _ => by simp [V.k6] at h
 | .agg τ xs, _, _, hn, h => by
  simp only [z6] at h ⊢
  exact ⟨h.1, h.2.1, h.2.2.1, h.2.2.2.1, w5.q8l xs (by simpa [V.k6] using hn) h.2.2.2.2⟩
 | .fn f caps, _, _, hn, h => by
  simp only [z6] at h ⊢
  obtain ⟨cv, h1, h2⟩ := h
  exact ⟨cv, h1, v3.q8l caps (by simpa [V.k6] using hn) h2⟩
 | .tup _, _, _, _, h => by simp only [z6] at h
 | .ts _ _ _, _, _, _, h => by simp only [z6] at h ⊢; exact h
 | .d _ _, _, _, _, h | .emp _ _, _, _, _, h | .nilc, _, _, _, h | .ptr _ _ _, _, _, _, h | .cptr _ _, _, _, _, h | .sr _ _ _ _ _ _ _, _, _, _, h | .mp _, _, _, _, h | .top _, _, _, _, h => by simpa only [z6] using h
 | .any, _, _, _, _ => by simp only [z6]
theorem w5.q8l {hm : Option Key} : ∀ (xs : List V) {p : List Nat} {i : Nat} {τ : Ty} {vs : List Value}, V.X4 xs = true → w5 Γ hm p i τ xs vs → w5 { Γ with τ := fun _ => none } hm p i τ xs vs
 | [], _, _, _, _, _, _ => by simp only [w5]
 | x :: xs, _, _, _, _, hn, h => by
  simp only [w5] at h ⊢
  simp only [V.X4, Bool.and_eq_true] at hn
  obtain ⟨⟨o, f, h1, h2, h3, h4⟩, h5⟩ := h
  exact ⟨⟨o, f, h1, h2, h3, z6.q8l x hn.1 h4⟩, w5.q8l xs hn.2 h5⟩
theorem v3.q8l : ∀ (xs : List V) {vs : List Value}, V.X4 xs = true → v3 Γ xs vs → v3 { Γ with τ := fun _ => none } xs vs
 | [], _, _, h => by simpa only [v3] using h
 | x :: xs, _, hn, h => by
  simp only [v3] at h ⊢
  simp only [V.X4, Bool.and_eq_true] at hn
  obtain ⟨v, vs', h1, h2, h3, h4⟩ := h
  exact ⟨v, vs', h1, z6.q8l x hn.1 h2, h3, v3.q8l xs hn.2 h4⟩
end
theorem z6.Z6 {hm : Option Key} (hp : q4t Γ Γ' ρ hm) {x : V} (hn : x.k6 = true) {p : List Nat} {vs : List Value} (h : z6 Γ hm p x vs) : z6 Γ' (hm.map ρ) p (x.ren ρ θ) vs := by
 have h1 := z6.q8l x hn h
 refine z6.ren (Γ := { Γ with τ := fun _ => none }) (θ := θ) ⟨hp.H, hp.ι, hp.σ, hp.κ⟩ (fun t x h => by cases h) x h1
theorem O.z3o {ρ : Key → Key} {o : O} (h : o.z15) : (o.ren ρ).z15 := by
 cases o <;> simp only [O.z15, O.ren] at h ⊢
 obtain ⟨e, rfl⟩ := h
 exact ⟨e, rfl⟩
theorem Own.ren {w w' : World} {k : Key} {o : O} (hp : q4t Γ Γ' ρ (some k)) (hb : o.q0c = false → ∀ b τ, Γ.ι k = some (b, τ) → w'.heap[b]? = w.heap[b]? ∧ Γ'.H b = none ∧ Γ'.Z b = none) (hsz : w.heap.size ≤ w'.heap.size)
  (h : Own Γ w k o) : Own Γ' w' (ρ k) (o.ren ρ) := by
 cases o with
 | box x =>
  obtain ⟨b, cells, T, h1, h2, h3, h4, h5, h6, h7, h8⟩ := h
  obtain ⟨e1, e2, e3⟩ := hb rfl _ _ h1
  exact ⟨b, cells, T, by rw [V.q4y]; exact hp.ι _ _ h1, e2, e3, by rw [e1, h4], by rw [V.q4y]; exact h5, by rw [V.q4y]; exact h6.Z6 hp h8, by rw [V.z5G]; exact h7, by rw [V.z3x]; exact h8⟩
 | map kτ vτ es =>
  obtain ⟨b, ms, clock, h1, h2, h3, h4, h5, h6, h7⟩ := h
  obtain ⟨e1, e2, e3⟩ := hb rfl _ _ h1
  refine ⟨b, ms, clock, hp.ι _ _ h1, e2, e3, by rw [e1, h4], by simpa using h5, fun i m c hm hc => ?_, h7⟩
  simp only [List.getElem?_map] at hc
  cases hi : es[i]? with
  | none => simp [hi] at hc
  | some c0 =>
   simp [hi] at hc
   subst hc
   obtain ⟨a1, a2, a3, a4, a5, a6, a7⟩ := h6 i m c0 hm hi
   exact ⟨a1.mono hp.H, a2, by simpa using z6.Z6 (hm := none) ⟨hp.H, hp.ι, hp.σ, fun _ _ _ _ h => by cases h⟩ a7 a3, a4, by simp only [V.q4y]; exact a5, by simp only [V.z5G]; exact a6, by simp only [V.z3x]; exact a7⟩
 | it l pos =>
  obtain ⟨b, h1, h2, h3, h4⟩ := h
  obtain ⟨e1, e2, e3⟩ := hb rfl _ _ h1
  exact ⟨b, hp.ι _ _ h1, e2, e3, by rw [e1, h4.1], h4.2⟩
 | dead τ =>
  obtain ⟨b, h1, h4⟩ := h
  exact ⟨b, hp.ι _ _ h1, by omega⟩
mutual
def V.b8 : V → V
 | .sl eb e cs _ => .d (.slice eb e) (.slice cs)
 | .agg τ vs => .agg τ (V.q1c vs)
 | .fn f vs => .fn f (V.q1c vs)
 | .tup vs => .tup (V.q1c vs)
 | x => x
def V.q1c : List V → List V
 | [] => []
 | x :: xs => V.b8 x :: V.q1c xs
end
theorem V.y6v (x : V) : x.b8.ty = x.ty := by cases x <;> simp [V.b8, V.ty]
theorem V.z42 : ∀ xs : List V, (V.q1c xs).length = xs.length
 | [] => rfl
 | x :: xs => by simp [V.q1c, V.z42 xs]
mutual
theorem V.y00 : ∀ x : V, x.b8.k6 = true
 | .agg τ vs => by simp only [V.b8, V.k6]; exact V.q8I vs
 | .fn f vs => by simp only [V.b8, V.k6]; exact V.q8I vs
 | .tup vs => by simp only [V.b8, V.k6]; exact V.q8I vs
 | .sl _ _ _ _ | .ptr _ _ _ | .sr _ _ _ _ _ _ _ | .mp _ | .d _ _ | .ts _ _ _ | .emp _ _ | .nilc | .cptr _ _ | .top _ | .any => by simp [V.b8, V.k6]
theorem V.q8I : ∀ xs : List V, V.X4 (V.q1c xs) = true
 | [] => rfl
 | x :: xs => by simp only [V.q1c, V.X4, V.y00 x, V.q8I xs, Bool.and_self]
end
mutual
theorem z6.b8 {hm : Option Key} : ∀ (x : V) {p : List Nat} {vs : List Value}, z6 Γ hm p x vs → z6 Γ hm p x.b8 vs
 | .sl _ _ _ _, _, _, h => by
  simp only [z6, V.b8] at h ⊢
  obtain ⟨a, n, cap, rfl, h2, _⟩ := h
  exact h2
 | .agg τ xs, _, _, h => by
  simp only [z6, V.b8] at h ⊢
  exact ⟨h.1, h.2.1, by rw [V.z42]; exact h.2.2.1, h.2.2.2.1, w5.b8 xs h.2.2.2.2⟩
 | .fn f caps, _, _, h => by
  simp only [z6, V.b8] at h ⊢
  obtain ⟨cv, h1, h2⟩ := h
  exact ⟨cv, h1, v3.b8 caps h2⟩
 | .tup _, _, _, h => by simp only [z6] at h
 | .d _ _, _, _, h | .ts _ _ _, _, _, h | .emp _ _, _, _, h | .nilc, _, _, h | .ptr _ _ _, _, _, h | .cptr _ _, _, _, h | .sr _ _ _ _ _ _ _, _, _, h | .mp _, _, _, h | .top _, _, _, h => by simpa only [z6, V.b8] using h
 | .any, _, _, _ => by simp only [z6, V.b8]
theorem w5.b8 {hm : Option Key} : ∀ (xs : List V) {p : List Nat} {i : Nat} {τ : Ty} {vs : List Value}, w5 Γ hm p i τ xs vs → w5 Γ hm p i τ (V.q1c xs) vs
 | [], _, _, _, _, _ => by simp only [V.q1c, w5]
 | x :: xs, _, _, _, _, h => by
  simp only [w5, V.q1c, V.y6v] at h ⊢
  obtain ⟨⟨o, f, h1, h2, h3, h4⟩, h5⟩ := h
  exact ⟨⟨o, f, h1, h2, h3, z6.b8 x h4⟩, w5.b8 xs h5⟩
theorem v3.b8 : ∀ (xs : List V) {vs : List Value}, v3 Γ xs vs → v3 Γ (V.q1c xs) vs
 | [], _, h => by simpa only [v3, V.q1c] using h
 | x :: xs, _, h => by
  simp only [v3, V.q1c, V.y6v] at h ⊢
  obtain ⟨v, vs', h1, h2, h3, h4⟩ := h
  exact ⟨v, vs', h1, z6.b8 x h2, h3, v3.b8 xs h4⟩
end
theorem z7.b8 {x : V} {v : Value} (h : z7 Γ x v) : z7 Γ x.b8 v := by
 cases x <;> (try exact h)
 case sl => obtain ⟨h1, h2⟩ := h; exact ⟨z6.b8 _ h1, h2⟩
 case agg => obtain ⟨h1, h2⟩ := h; exact ⟨z6.b8 _ h1, h2⟩
 case fn => obtain ⟨h1, h2⟩ := h; exact ⟨z6.b8 _ h1, h2⟩
 case tup => obtain ⟨vs, h1, h2⟩ := h; exact ⟨vs, h1, v3.b8 _ h2⟩
theorem z7.ren {x : V} {v : Value} (hp : q4t Γ Γ' ρ none) (hτ : ∀ t x, Γ.τ t = some x → Γ'.τ (θ t) = some x) (h : z7 Γ x v) : z7 Γ' (x.ren ρ θ) v := by
 cases x
 case any => trivial
 case tup vs => obtain ⟨us, h1, h2⟩ := h; exact ⟨us, h1, v3.ren hp hτ _ h2⟩
 all_goals
  obtain ⟨h1, h2⟩ := h
  have := z6.ren hp hτ _ h1
  exact (v5 (by simp [V.ren, V.plain])).2 ⟨this, by simpa [V.q4y] using h2⟩
theorem z7.Z6 {x : V} {v : Value} (hp : q4t Γ Γ' ρ none) (hn : x.k6 = true) (h : z7 Γ x v) : z7 Γ' (x.ren ρ θ) v := by
 cases x
 case any => trivial
 case tup vs =>
  obtain ⟨us, h1, h2⟩ := h
  refine ⟨us, h1, ?_⟩
  exact v3.ren (Γ := { Γ with τ := fun _ => none }) (θ := θ) ⟨hp.H, hp.ι, hp.σ, hp.κ⟩ (fun t x h => by cases h) _ (v3.q8l _ (by simpa [V.k6] using hn) h2)
 all_goals
  obtain ⟨h1, h2⟩ := h
  have := z6.Z6 (θ := θ) hp hn h1
  exact (v5 (by simp [V.ren, V.plain])).2 ⟨this, by simpa [V.q4y] using h2⟩
end
end Go.E
namespace Go.E
open Go
structure Cx where
 P : Program
 gl : Nat → Option (Ty × C)
def V.slot (n : Nat) : V → V
 | .ts eb e cs => .sl eb e cs n
 | x => x
def U1 : Nat → List V → List V
 | _, [] => []
 | n, x :: xs => x.slot n :: U1 (n + 1) xs
def V.q05 (n : Nat) : V → List (Nat × Option Nat)
 | .ts _ _ cs => [(n, some cs.length)]
 | _ => []
def q2z : Nat → List V → List (Nat × Option Nat)
 | _, [] => []
 | n, x :: xs => x.q05 n ++ q2z (n + 1) xs
def V.U5 (n : Nat) : V → V
 | .tup vs => .tup (U1 n vs)
 | x => x.slot n
def V.tkR (n : Nat) : V → List (Nat × Option Nat)
 | .tup vs => q2z n vs
 | x => x.q05 n
def q7T : Nat → List V → List (Nat × V)
 | _, [] => []
 | i, x :: xs => (i, x) :: q7T (i + 1) xs
def S.start (xs : List V) (A : Key → Option O) : S := ⟨q7T 0 (U1 1000 xs), [], A, q2z 1000 xs⟩
def S.fin (v : V) (L : List (Key × O)) (A : Key → Option O) : S := ⟨[], L, A, v.tkR 2000⟩
mutual
def V.ok (f g : Nat → Bool) : V → Bool
 | .ptr (.l k) _ _ | .mp (.l k) | .sr (.l k) _ _ _ _ _ _ => f k
 | .sl _ _ _ t => g t
 | .agg _ vs | .fn _ vs | .tup vs => V.oks f g vs
 | _ => true
def V.oks (f g : Nat → Bool) : List V → Bool
 | [] => true
 | x :: xs => x.ok f g && V.oks f g xs
end
def V.q1f (f g : Nat → Bool) : List (C × V) → Bool
 | [] => true
 | x :: xs => x.2.ok f g && V.q1f f g xs
def O.ok (f g : Nat → Bool) : O → Bool
 | .box x => x.ok f g
 | .map _ _ es => V.q1f f g es
 | .it _ _ | .dead _ => true
def c5 : Nat → Bool := fun _ => false
def AOk (A : Key → Option O) : Prop := ∀ k o, A k = some o → o.ok c5 c5 = true
def Q0 (X : Cx) (f : FuncId) (xs : List V) (A : Key → Option O) (v : V) (L : List (Key × O)) : Prop :=
 ∀ (A' : Key → Option O) (Γ : G) (w : World) (args : Array Value), (∀ k o, A k = some o → A' k = some o) → Γ.gl = X.gl → y9 Γ w (S.start xs A') ∧ AOk A' → xs.length = args.size → (∀ (i : Nat) x u, (U1 1000 xs)[i]? = some x → args[i]? = some u → z7 Γ x u) →
  Calls X.P f args w fun e w' => ∃ u Γ', e = .returned u ∧ GLe Γ Γ' ∧ y9 Γ' w' (S.fin v L A') ∧ z7 Γ' (v.U5 2000) u
theorem z0o : ∀ (n : Nat) (xs : List V), (U1 n xs).length = xs.length
 | _, [] => rfl
 | n, x :: xs => by simp [U1, z0o (n + 1) xs]
theorem q8Q : ∀ (n : Nat) (xs : List V) (i : Nat), (U1 n xs)[i]? = (xs[i]?).map (V.slot (n + i))
 | _, [], i => by simp [U1]
 | n, x :: xs, 0 => by simp [U1]
 | n, x :: xs, i + 1 => by simp only [U1, List.getElem?_cons_succ, q8Q (n + 1) xs i]; rw [show n + 1 + i = n + (i + 1) by omega]
theorem q2w {α : Type} : ∀ (l m : List (Nat × α)) (n : Nat), look (l ++ m) n = match look l n with | some x => some x | none => look m n
 | [], _, _ => rfl
 | (j, x) :: l, m, n => by
  simp only [List.cons_append, look]
  split
  ·rfl
  ·exact q2w l m n
theorem y2t (n : Nat) (x : V) (t : Nat) : look (x.q05 n) t = if n = t then (match x with | .ts _ _ cs => some (some cs.length) | _ => none) else none := by
 cases x <;> simp [V.q05, look]
theorem q6C : ∀ (n : Nat) (xs : List V) (t : Nat), look (q2z n xs) t = if n ≤ t then (match xs[t - n]? with | some (.ts _ _ cs) => some (some cs.length) | _ => none) else none
 | n, [], t => by simp [q2z, look]
 | n, x :: xs, t => by
  simp only [q2z, q2w, y2t, q6C (n + 1) xs t]
  by_cases h1 : n = t
  ·subst h1
   simp only [if_true, Nat.le_refl, Nat.sub_self, List.getElem?_cons_zero]
   cases x <;> simp
   all_goals (intro h; omega)
  ·rw [if_neg h1]
   by_cases h2 : n ≤ t
   ·rw [if_pos h2, if_pos (by omega), show t - n = (t - (n + 1)) + 1 by omega, List.getElem?_cons_succ]
   ·rw [if_neg h2, if_neg (by omega)]
def V.y1M : V → Bool
 | .ts _ _ _ => false
 | _ => true
def q0g (P : Program) (tip : Bool) (s : S) (T : TypeId) (x : V) : V :=
 match x with
 | .sl eb e cs t => if tip = true ∧ s.live t = some cs.length then .ts eb e cs else .d (.slice eb e) (.slice cs)
 | .emp eb e => if tip = true then .ts eb e [] else .d (.slice eb e) (.slice [])
 | .nilc => match ty P T with
  | .slice eb e => if tip = true then .ts eb e [] else .d (.slice eb e) (.slice [])
  | _ => if tip = true then .ts 0 (.opq 0) [] else .nilc
 | .agg τ vs => match Q3 (.agg τ vs) with
  | some c => .d τ c
  | none => (V.agg τ vs).b8.ren .g id
 | x => x.b8.ren .g id
def Z9 (P : Program) (tip : Bool) (s : S) : List TypeId → List V → List V
 | T :: Ts, x :: xs => q0g P tip s T x :: Z9 P tip s Ts xs
 | _, _ => []
def Y4 (tip : Bool) (s : S) (x : V) : Option (Option Nat) :=
 match x with
 | .sl _ _ cs t => if tip = true ∧ s.live t = some cs.length then some (some t) else none
 | .emp _ _ | .nilc => if tip = true then some none else none
 | _ => none
def Z2 (tip : Bool) (s : S) : List V → List Nat
 | [] => []
 | x :: xs => (match Y4 tip s x with | some (some t) => [t] | _ => []) ++ Z2 tip s xs
def q1D : List Nat → Bool
 | [] => true
 | x :: xs => !(xs.contains x) && q1D xs
theorem x2B {P : Program} {tip : Bool} {s : S} {T : TypeId} {x : V} {eb : Nat} {e : Ty} {cs : List C} (h : q0g P tip s T x = .ts eb e cs) (hx : x.y1M = true) :
  (∃ t, x = .sl eb e cs t ∧ Y4 tip s x = some (some t) ∧ s.live t = some cs.length) ∨ (cs = [] ∧ Y4 tip s x = some none) := by
 cases x <;> simp only [q0g] at h
 case sl eb' e' cs' t =>
  split at h
  ·rename_i hc; cases h; exact .inl ⟨t, rfl, by simp [Y4, hc], hc.2⟩
  ·cases h
 case emp eb' e' =>
  split at h
  ·rename_i hc; cases h; exact .inr ⟨rfl, by simp [Y4, hc]⟩
  ·cases h
 case nilc =>
  split at h
  ·split at h
   ·rename_i hc; cases h; exact .inr ⟨rfl, by simp [Y4, hc]⟩
   ·cases h
  ·split at h
   ·rename_i hc; cases h; exact .inr ⟨rfl, by simp [Y4, hc]⟩
   ·cases h
 case agg => split at h <;> simp [V.b8, V.ren] at h
 case ts => simp [V.y1M] at hx
 all_goals (simp [V.b8, V.ren] at h)
theorem q7i {tip : Bool} {s : S} : ∀ {xs : List V} {i : Nat} {x : V} {t : Nat}, xs[i]? = some x → Y4 tip s x = some (some t) → t ∈ Z2 tip s xs
 | [], _, _, _, h, _ => by simp at h
 | y :: ys, 0, x, t, h, hx => by simp at h; subst h; simp [Z2, hx]
 | y :: ys, i + 1, x, t, h, hx => by simp only [Z2, List.mem_append]; exact .inr (q7i (by simpa using h) hx)
theorem z98 {tip : Bool} {s : S} : ∀ {xs : List V} {i j : Nat} {x y : V} {t : Nat}, q1D (Z2 tip s xs) = true → xs[i]? = some x → xs[j]? = some y → Y4 tip s x = some (some t) → Y4 tip s y = some (some t) → i = j
 | [], _, _, _, _, _, _, h, _, _, _ => by simp at h
 | z :: zs, i, j, x, y, t, hn, hi, hj, hx, hy => by
  have key : ∀ {k : Nat} {u : V}, zs[k]? = some u → Y4 tip s u = some (some t) → Y4 tip s z = some (some t) → False := by
   intro k u hk hu hz
   have := q7i hk hu
   simp [Z2, hz, q1D] at hn
   exact hn.1 this
  cases i with
  | zero =>
   simp at hi; subst hi
   cases j with
   | zero => rfl
   | succ j => exact (key (by simpa using hj) hy hx).elim
  | succ i =>
   cases j with
   | zero => simp at hj; subst hj; exact (key (by simpa using hi) hx hy).elim
   | succ j =>
    have hn' : q1D (Z2 tip s zs) = true := by
     simp only [Z2] at hn
     split at hn
     ·simp [q1D] at hn; exact hn.2
     ·simpa using hn
    have := z98 (i := i) (j := j) hn' (by simpa using hi) (by simpa using hj) hx hy
    omega
theorem z0b {P : Program} {tip : Bool} {s : S} : ∀ {Ts : List TypeId} {xs : List V} {i : Nat} {z : V}, (Z9 P tip s Ts xs)[i]? = some z → ∃ (T : TypeId) (x : V), Ts[i]? = some T ∧ xs[i]? = some x ∧ z = q0g P tip s T x
 | [], _, _, _, h => by simp [Z9] at h
 | _ :: _, [], _, _, h => by simp [Z9] at h
 | T :: Ts, x :: xs, 0, z, h => by simp [Z9] at h; exact ⟨T, x, rfl, rfl, h.symm⟩
 | T :: Ts, x :: xs, i + 1, z, h => by
  simp only [Z9, List.getElem?_cons_succ] at h
  obtain ⟨T', x', h1, h2, h3⟩ := z0b h
  exact ⟨T', x', by simpa using h1, by simpa using h2, h3⟩
theorem q9C {P : Program} {tip : Bool} {s : S} : ∀ {Ts : List TypeId} {xs : List V}, Ts.length = xs.length → (Z9 P tip s Ts xs).length = xs.length
 | [], [], _ => rfl
 | T :: Ts, x :: xs, h => by simp [Z9, q9C (Ts := Ts) (xs := xs) (by simpa using h)]
 | [], _ :: _, h => by simp at h
 | _ :: _, [], h => by simp at h
def q0x (tip : Bool) (s : S) (t : Nat) : Nat → List V → Option Nat
 | _, [] => none
 | i, x :: xs => if Y4 tip s x = some (some t) then some i else q0x tip s t (i + 1) xs
theorem z0c {tip : Bool} {s : S} {t : Nat} : ∀ {xs : List V} {i j : Nat}, q0x tip s t i xs = some j → ∃ (k : Nat) (x : V), j = i + k ∧ xs[k]? = some x ∧ Y4 tip s x = some (some t)
 | [], _, _, h => by simp [q0x] at h
 | x :: xs, i, j, h => by
  simp only [q0x] at h
  split at h
  ·rename_i hx; cases h; exact ⟨0, x, rfl, rfl, hx⟩
  ·obtain ⟨k, y, h1, h2, h3⟩ := z0c h
   exact ⟨k + 1, y, by omega, by simpa using h2, h3⟩
theorem y1b {tip : Bool} {s : S} {t : Nat} : ∀ {xs : List V} {i : Nat}, q0x tip s t i xs = none → t ∉ Z2 tip s xs
 | [], _, _ => by simp [Z2]
 | x :: xs, i, h => by
  simp only [q0x] at h
  split at h
  ·cases h
  ·rename_i hx
   have := y1b h
   simp only [Z2, List.mem_append, not_or]
   refine ⟨?_, this⟩
   cases ha : Y4 tip s x with
   | none => simp
   | some o => cases o with
    | none => simp
    | some u => simp; intro e; subst e; exact hx ha
end Go.E
namespace Go.E
open Go
def G.call (Γ : G) (w : World) (tip : Bool) (s : S) (ys : List V) : G :=
 { H := Γ.H
   Z := fun b => match Γ.Z b with
    | some o => some o
    | none => match Γ.κ b with
     | some (.tok t, _) => match q0x tip s t 0 ys with
      | some _ => none
      | none => w.heap[b]?
     | _ => none
   ι := fun k => match k with
    | .l _ => none
    | .g k => Γ.ι k
   τ := fun m => if 1000 ≤ m then (match ys[m - 1000]? with
    | some y => (match Y4 tip s y with
     | some (some t) => Γ.τ t
     | some none => some (none, 0)
     | none => none)
    | none => none) else none
   κ := fun b => match Γ.κ b with
    | some (.home k p, sz) => some (.home (.g k) p, sz)
    | some (.tok t, sz) => match q0x tip s t 0 ys with
     | some i => some (.tok (1000 + i), sz)
     | none => none
    | none => none
   gl := Γ.gl
   oo := Γ.oo
   σ := Γ.σ }
def S.up (s : S) : Key → Option O := fun k => (s.obj k).map (O.ren .g)
section
variable {P : Program} {Γ : G} {w : World} {s : S} {tip : Bool} {ys : List V} {Ts : List TypeId}
theorem x06 (Γ : G) (w : World) (tip : Bool) (s : S) (ys : List V) {b : Nat} (hz : Γ.Z b = none) (h : ∀ t sz, Γ.κ b = some (.tok t, sz) → q0x tip s t 0 ys ≠ none) : (Γ.call w tip s ys).Z b = none := by
 simp only [G.call, hz]
 cases hk : Γ.κ b with
 | none => rfl
 | some x =>
  obtain ⟨o, sz⟩ := x
  cases o with
  | home => rfl
  | tok t =>
   simp only
   cases ha : q0x tip s t 0 ys with
   | some _ => rfl
   | none => exact absurd ha (h t sz hk)
theorem y08 (Γ : G) (w : World) (tip : Bool) (s : S) (ys : List V) (hm : Option Key) : q4t Γ (Γ.call w tip s ys) .g hm :=
 ⟨Hp.le_refl _, fun k x h => h, fun _ _ h => h, fun k b p sz _ h => ⟨by simp [G.call, h], rfl⟩⟩
theorem y9G {y : V} {u : Value} (c : y9 Γ w s) (hr : z7 Γ y u) {m : Option Nat} (h : Y4 tip s y = some m) :
  ∀ T, ∃ eb e cs, q0g P tip s T y = .ts eb e cs := by
 intro T
 cases y <;> simp only [Y4, reduceCtorEq] at h
 case sl eb e cs t =>
  split at h
  ·rename_i hc; exact ⟨eb, e, cs, by simp [q0g, hc]⟩
  ·cases h
 case emp eb e =>
  split at h
  ·rename_i hc; exact ⟨eb, e, [], by simp [q0g, hc]⟩
  ·cases h
 case nilc =>
  split at h
  ·rename_i hc
   simp only [q0g, hc, if_true]
   split
   ·exact ⟨_, _, _, rfl⟩
   ·exact ⟨_, _, _, rfl⟩
  ·cases h
structure y2m (P : Program) (Γ : G) (tip : Bool) (s : S) (Ts : List TypeId) (ys : List V) (us : List Value) : Prop where
 len : Ts.length = ys.length
 len2 : ys.length = us.length
 rep : ∀ (i : Nat) (y : V) (u : Value), ys[i]? = some y → us[i]? = some u → z7 Γ y u
 nd : q1D (Z2 tip s ys) = true
theorem y2m.ix {us : List Value} (a : y2m P Γ tip s Ts ys us) {t i : Nat} {y : V} (hy : ys[i]? = some y) (ht : Y4 tip s y = some (some t)) : q0x tip s t 0 ys = some i := by
 cases h : q0x tip s t 0 ys with
 | none => exact absurd (q7i hy ht) (y1b h)
 | some j =>
  obtain ⟨k, x, h1, h2, h3⟩ := z0c h
  have := z98 a.nd hy h2 ht h3
  rw [h1, this]; simp
theorem y9.call (c : y9 Γ w s) {us : List Value} (a : y2m P Γ tip s Ts ys us) : y9 (Γ.call w tip s ys) w (S.start (Z9 P tip s Ts ys) s.up) := by
 have hobj : ∀ k o, (S.start (Z9 P tip s Ts ys) s.up).obj k = some o → ∃ k' o', k = .g k' ∧ s.obj k' = some o' ∧ o = o'.ren .g := by
  intro k o h
  cases k with
  | l n => simp [S.start, S.obj, Z8, z8] at h
  | g k =>
   have h : s.up k = some o := by simpa [S.start, S.obj, Z8, z8] using h
   simp only [S.up] at h
   cases ho : s.obj k with
   | none => simp [ho] at h
   | some o' => simp [ho] at h; exact ⟨k, o', rfl, ho, h.symm⟩
 have hdead : ∀ k, s.c8 k = true → (S.start (Z9 P tip s Ts ys) s.up).c8 (.g k) = true := by
  intro k h
  cases ho : s.obj k with
  | none => simp [S.c8, z7F, ho] at h
  | some o =>
   have e : (S.start (Z9 P tip s Ts ys) s.up).obj (.g k) = some (o.ren .g) := by simp [S.start, S.obj, Z8, z8, S.up] at ho ⊢; exact ⟨o, ho, rfl⟩
   rw [Y9 e, O.q6J]; rw [Y9 ho] at h; exact h
 refine ⟨c.hH, fun b o h => ?_, fun b o sz h => ?_, fun k o h => ?_, fun k h => ?_, fun k k' b τ τ' h1 h2 => ?_, fun m L h => ?_, fun m h => ?_, c.hgl, c.hoo, c.hσ⟩
 ·simp only [G.call] at h
  cases hz : Γ.Z b with
  | some o' => simp [hz] at h; subst h; exact c.hZ b _ hz
  | none =>
   simp only [hz] at h
   cases hk : Γ.κ b with
   | none => simp [hk] at h
   | some x =>
    obtain ⟨t, sz⟩ := x
    cases t with
    | home => simp [hk] at h
    | tok t =>
     simp only [hk] at h
     split at h
     ·cases h
     ·exact h
 ·cases hk : Γ.κ b with
  | none => simp [G.call, hk] at h
  | some x =>
   obtain ⟨o', sz'⟩ := x
   obtain ⟨a1, a2, a3⟩ := c.hκ b o' sz' hk
   have hsz : sz' = sz ∧ ∀ t, o' = .tok t → q0x tip s t 0 ys ≠ none := by
    cases o' with
    | home => simp [G.call, hk] at h; exact ⟨h.2, fun t e => by cases e⟩
    | tok t =>
     simp only [G.call, hk] at h
     cases hi : q0x tip s t 0 ys with
     | none => simp [hi] at h
     | some i => simp [hi] at h; exact ⟨h.2, fun t' e => by cases e; rw [hi]; simp⟩
   obtain ⟨rfl, hix⟩ := hsz
   exact ⟨x06 Γ w tip s ys a1 (fun t sz h => by rw [hk] at h; cases h; exact hix t rfl), a2, a3⟩
 ·obtain ⟨k', o', rfl, ho, rfl⟩ := hobj k o h
  refine (c.obj k' o' ho).imp (fun h => ⟨h.1, O.z3o h.2⟩) fun hown => hown.ren (y08 Γ w tip s ys _) (fun hd b τ hb => ?_) (Nat.le_refl _)
  obtain ⟨a1, a2, _⟩ := c.q0R hb ho hd
  refine ⟨rfl, a1, x06 Γ w tip s ys a2 fun t sz hk => ?_⟩
  exact absurd a1 (c.hκ b _ _ hk).2.1
 ·cases k with
  | l n => simp [G.call] at h
  | g k =>
   have h' : Γ.ι k ≠ none := h
   have := c.dom k h'
   cases ho : s.obj k with
   | none => exact absurd ho this
   | some o =>
    have : (S.start (Z9 P tip s Ts ys) s.up).obj (.g k) = s.up k := by simp [S.start, S.obj, Z8, z8]
    rw [this, S.up, ho]; simp
 ·cases k with
  | l n => simp [G.call] at h1
  | g k => cases k' with
   | l n => simp [G.call] at h2
   | g k' => exact (c.inj k k' b τ τ' h1 h2).imp (congrArg Key.g) (And.imp (Or.imp (hdead k) (hdead k')) id)
 ·-- live tokens are those of arguments
  simp only [S.start, S.live, q0n, q6C] at h
  by_cases hm : 1000 ≤ m
  ·rw [if_pos hm] at h
   cases hx : (Z9 P tip s Ts ys)[m - 1000]? with
   | none => simp [hx] at h
   | some z =>
    obtain ⟨T, y, _, hy, hz⟩ := z0b hx
    have hlt : m - 1000 < us.length := by rw [← a.len2]; exact (List.getElem?_eq_some_iff.1 hy).1
    have hr := a.rep _ y _ hy (List.getElem?_eq_getElem hlt)
    have hnt : y.y1M = true := by
     cases y <;> (try rfl)
     obtain ⟨h1, _⟩ := hr
     simp only [z6] at h1
     obtain ⟨_, _, _, _, h0, _⟩ := h1
     cases h0
    cases z <;> simp [hx] at h
    rename_i eb e cs
    subst h
    rcases x2B hz.symm hnt with ⟨t, rfl, h2, h3⟩ | ⟨rfl, h2⟩
    ·obtain ⟨x, h4, h5⟩ := c.tok t _ h3
     refine ⟨x, by simp [G.call, hm, hy, h2, h4], fun b pos sz hxx => ?_⟩
     obtain ⟨a1, a2⟩ := h5 b pos sz hxx
     refine ⟨a1, ?_⟩
     simp only [G.call, a2, a.ix hy h2]
     rw [show 1000 + (m - 1000) = m by omega]
    ·exact ⟨none, by simp [G.call, hm, hy, h2], fun b pos sz h => by cases h⟩
  ·rw [if_neg hm] at h; cases h
 ·simp only [G.call] at h
  by_cases hm : 1000 ≤ m
  ·rw [if_pos hm] at h
   cases hy : ys[m - 1000]? with
   | none => simp [hy] at h
   | some y =>
    simp only [hy] at h
    cases ht : Y4 tip s y with
    | none => simp [ht] at h
    | some o =>
     have hlt : m - 1000 < us.length := by rw [← a.len2]; exact (List.getElem?_eq_some_iff.1 hy).1
     have hr := a.rep _ y _ hy (List.getElem?_eq_getElem hlt)
     have hlT : m - 1000 < Ts.length := by rw [a.len]; exact (List.getElem?_eq_some_iff.1 hy).1
     obtain ⟨eb, e, cs, hget⟩ : ∃ eb e cs, (Z9 P tip s Ts ys)[m - 1000]? = some (.ts eb e cs) := by
      have hl : m - 1000 < (Z9 P tip s Ts ys).length := by rw [q9C a.len]; exact (List.getElem?_eq_some_iff.1 hy).1
      cases hz : (Z9 P tip s Ts ys)[m - 1000]? with
      | none => rw [List.getElem?_eq_none_iff] at hz; omega
      | some z =>
       obtain ⟨T, y', _, hy', hz'⟩ := z0b hz
       rw [hy] at hy'; cases hy'
       obtain ⟨eb, e, cs, h2⟩ := y9G (P := P) c hr ht T
       exact ⟨eb, e, cs, by rw [hz', h2]⟩
     simp [S.start, S.known, q6C, hm, hget]
  ·rw [if_neg hm] at h; exact absurd rfl h
theorem x1b (c : y9 Γ w s) {us : List Value} (a : y2m P Γ tip s Ts ys us) {i : Nat} {T : TypeId} {y : V} {u : Value} (hy : ys[i]? = some y) (hr : z7 Γ y u) :
  z7 (Γ.call w tip s ys) ((q0g P tip s T y).slot (1000 + i)) u := by
 have pr := y08 Γ w tip s ys none
 have hd : ∀ {eb : Nat} {e : Ty} {cs : List C} {vs : List Value}, z9 Γ.H (.slice eb e) vs (.slice cs) → z9 (Γ.call w tip s ys).H (.slice eb e) vs (.slice cs) := fun h => h
 have gen : z7 (Γ.call w tip s ys) (y.b8.ren .g id) u := z7.Z6 pr (V.y00 y) hr.b8
 cases y
 case sl eb e cs t =>
  obtain ⟨h1, h2⟩ := (s6 rfl rfl).1 hr
  simp only [z6] at h1
  obtain ⟨aa, n, cap, hv, hrc, htk⟩ := h1
  simp at hv; subst hv
  by_cases hc : tip = true ∧ s.live t = some cs.length
  ·have ha : Y4 tip s (.sl eb e cs t) = some (some t) := by simp [Y4, hc]
   simp only [q0g, if_pos hc, V.slot]
   refine (s6 rfl rfl).2 ⟨?_, rfl⟩
   simp only [z6]
   obtain ⟨x, L, q1, q2, q3⟩ := htk
   exact ⟨aa, n, cap, rfl, hrc, x, L, by simp [G.call, hy, ha, q1], q2, q3⟩
  ·simp only [q0g, if_neg hc, V.slot]
   exact q13 hrc
 case emp eb e =>
  obtain ⟨h1, h2⟩ := (s6 rfl rfl).1 hr
  simp only [z6] at h1
  obtain ⟨aa, hv⟩ := h1
  simp at hv; subst hv
  have hrc : z9 (Γ.call w tip s ys).H (.slice eb e) [.slice aa 0 0] (.slice []) := o9 rfl (Nat.le_refl _) (Nat.zero_le _) (by rw [Nat.zero_mul]; exact Nat.zero_le _) (.inl rfl)
  by_cases hc : tip = true
  ·have ha : Y4 tip s (.emp eb e) = some none := by simp [Y4, hc]
   simp only [q0g, if_pos hc, V.slot]
   refine (s6 rfl rfl).2 ⟨?_, rfl⟩
   simp only [z6]
   exact ⟨aa, 0, 0, rfl, hrc, none, 0, by simp [G.call, hy, ha], Nat.le_refl _, fun _ => rfl⟩
  ·simp only [q0g, if_neg hc, V.slot]
   exact q13 hrc
 case nilc =>
  have hts : ∀ (eb : Nat) (e : Ty), tip = true → z7 (Γ.call w tip s ys) (V.slot (1000 + i) (.ts eb e [])) (.slice none 0 0) := by
   intro eb e hc
   have ha : Y4 tip s .nilc = some none := by simp [Y4, hc]
   simp only [V.slot]
   refine (s6 rfl rfl).2 ⟨?_, rfl⟩
   simp only [z6]
   exact ⟨none, 0, 0, rfl, o9 rfl (Nat.le_refl _) (Nat.zero_le _) (by rw [Nat.zero_mul]; exact Nat.zero_le _) (.inl rfl), none, 0, by simp [G.call, hy, ha], Nat.le_refl _, fun _ => rfl⟩
  rw [W6 hr]
  simp only [q0g]
  split
  ·split
   ·rename_i hc; exact hts _ _ hc
   ·simp only [V.slot]
    exact q13 (o9 rfl (Nat.le_refl _) (Nat.zero_le _) (by rw [Nat.zero_mul]; exact Nat.zero_le _) (.inl rfl))
  ·split
   ·rename_i hc; exact hts _ _ hc
   ·rw [← W6 hr]; exact gen
 case agg τ vs =>
  simp only [q0g]
  split
  ·rename_i cc hcc
   obtain ⟨h1, h2⟩ := hr
   simp only [V.slot]
   exact X6.2 ⟨q3u _ h1 hcc, h2⟩
  ·exact gen
 case ts =>
  obtain ⟨h1, _⟩ := hr
  simp only [z6] at h1
  obtain ⟨_, _, _, _, h0, _⟩ := h1
  cases h0
 all_goals exact gen
end
end Go.E
namespace Go.E
open Go
def rk (d : Nat) (j : Nat) : Nat := 1000 * (d + 1) + j
def q40 (d : Nat) (n : Nat) : Option Nat := if 1000 * (d + 1) ≤ n then some (n - 1000 * (d + 1)) else none
theorem q7Q (d j : Nat) : q40 d (rk d j) = some j := by simp [q40, rk]
theorem q4x {d n j : Nat} (h : q40 d n = some j) : rk d j = n := by
 unfold q40 at h
 split at h
 ·have := Option.some.inj h; unfold rk; omega
 ·cases h
def dn (d : Nat) : Key → Key
 | .g k => k
 | .l j => .l (rk d j)
def dnL (d : Nat) : List (Key × O) → List (Key × O)
 | [] => []
 | (k, o) :: l => (dn d k, o.ren (dn d)) :: dnL d l
def dnT (d : Nat) : List (Nat × Option Nat) → List (Nat × Option Nat)
 | [] => []
 | (m, x) :: l => (rk d m, x) :: dnT d l
def q5p : List Nat → List (Nat × Option Nat)
 | [] => []
 | t :: l => (t, none) :: q5p l
theorem z3H : ∀ (l : List Nat) (t : Nat), look (q5p l) t = if t ∈ l then some none else none
 | [], t => by simp [q5p, look]
 | u :: l, t => by
  simp only [q5p, look, z3H l t, List.mem_cons]
  by_cases h : u = t
  ·subst h; simp
  ·have h' : t ≠ u := fun e => h e.symm
   simp [h, h']
theorem z3G (d : Nat) : ∀ (l : List (Nat × Option Nat)) (t : Nat), look (dnT d l) t = match q40 d t with | some m => look l m | none => none
 | [], t => by simp only [dnT, look]; split <;> rfl
 | (m, x) :: l, t => by
  simp only [dnT, look, z3G d l t]
  cases h : q40 d t with
  | none =>
   have : rk d m ≠ t := by intro e; subst e; rw [q7Q] at h; cases h
   simp [this]
  | some j =>
   have ht := q4x h
   by_cases hm : m = j
   ·subst hm; simp [ht]
   ·have : rk d m ≠ t := by intro e; apply hm; have : q40 d (rk d m) = some j := by rw [e]; exact h
                            rw [q7Q] at this; exact Option.some.inj this
    simp [this, hm]
def upL (d : Nat) (L : List (Key × O)) (k : Key) : Option O :=
 match z8 L (.g k) with
 | some o => some o
 | none => match k with
  | .l n => match q40 d n with
   | some j => z8 L (.l j)
   | none => none
  | .g _ => none
def bk (d : Nat) : Option (Tip × Nat) → Option (Tip × Nat)
 | some (.home k p, sz) => some (.home (dn d k) p, sz)
 | some (.tok m, sz) => some (.tok (rk d m), sz)
 | none => none
def G.back (Γ Γ' : G) (tip : Bool) (s : S) (ys : List V) (d : Nat) (v : V) (L : List (Key × O)) : G :=
 { H := Γ'.H
   Z := Γ.Z
   ι := fun k => match k with
    | .l n => match q40 d n with
     | some j => match z8 L (.l j) with
      | some _ => Γ'.ι (.l j)
      | none => Γ.ι (.l n)
     | none => Γ.ι (.l n)
    | .g k => Γ.ι (.g k)
   τ := fun t => match q40 d t with
    | some m => match look (v.tkR 2000) m with
     | some _ => Γ'.τ m
     | none => Γ.τ t
    | none => Γ.τ t
   κ := fun b => match Γ.κ b with
    | some (.tok u, sz) => match q0x tip s u 0 ys with
     | some _ => bk d (Γ'.κ b)
     | none => some (.tok u, sz)
    | _ => bk d (Γ'.κ b)
   gl := Γ.gl
   oo := Γ.oo
   σ := Γ'.σ }
def S.back (s : S) (tip : Bool) (ys : List V) (d : Nat) (v : V) (L : List (Key × O)) : S :=
 { s with loc := dnL d L ++ s.loc, tk := dnT d (v.tkR 2000) ++ (q5p (Z2 tip s ys) ++ s.tk) }
theorem q1G {α : Type} : ∀ (l m : List (Key × α)) (n : Key), z8 (l ++ m) n = match z8 l n with | some x => some x | none => z8 m n
 | [], _, _ => rfl
 | (j, x) :: l, m, n => by
  simp only [List.cons_append, z8]
  split
  ·rfl
  ·exact q1G l m n
theorem q9v (d : Nat) : ∀ {L : List (Key × O)} {k : Key} {o : O}, z8 (dnL d L) k = some o → (∃ j o', dn d j = k ∧ z8 L j ≠ none ∧ o = O.ren (dn d) o')
 | [], _, _, h => by simp [dnL, z8] at h
 | (j, o') :: L, k, o, h => by
  simp only [dnL, z8] at h
  split at h
  ·rename_i e; cases h; exact ⟨j, o', e, by simp [z8], rfl⟩
  ·obtain ⟨j2, o2, a1, a2, a3⟩ := q9v d h
   refine ⟨j2, o2, a1, ?_, a3⟩
   simp only [z8]; split <;> simp [a2]
theorem z06 (d : Nat) {s : S} : ∀ {L : List (Key × O)} {k : Key}, (∀ k o, z8 L (.g k) = some o → s.obj k ≠ none) → (∀ j o, z8 L (.l j) = some o → s.obj (.l (rk d j)) = none) →
  (∀ j o, z8 L j = some o → dn d j = k → z8 (dnL d L) k = some (o.ren (dn d)))
 | [], k, _, _, j, o, h, _ => by simp [z8] at h
 | (i, oi) :: L, k, hg, hl, j, o, h, hj => by
  simp only [z8] at h
  simp only [dnL, z8]
  by_cases hij : i = j
  ·subst hij; simp at h; subst h; simp [hj]
  ·rw [if_neg hij] at h
   have hne : dn d i ≠ k := by
    intro e
    have hi0 : ∃ oi', z8 ((i, oi) :: L) i = some oi' := ⟨oi, by simp [z8]⟩
    obtain ⟨oi', hi1⟩ := hi0
    have hj1 : z8 ((i, oi) :: L) j = some o := by simp only [z8]; rw [if_neg hij]; exact h
    cases i with
    | g ki =>
     cases j with
     | g kj => simp only [dn] at e hj; subst e; subst hj; exact hij rfl
     | l nj =>
      simp only [dn] at e hj
      have h1 := hg ki _ hi1
      have h2 := hl nj _ hj1
      rw [← e] at hj; rw [hj] at h2; exact h1 h2
    | l ni =>
     cases j with
     | g kj =>
      simp only [dn] at e hj
      have h1 := hg kj _ hj1
      have h2 := hl ni _ hi1
      rw [← hj] at e; rw [e] at h2; exact h1 h2
     | l nj =>
      simp only [dn] at e hj
      rw [← hj] at e
      simp [rk] at e
      exact hij (by rw [e])
   rw [if_neg hne]
   exact z06 d (L := L) (fun k0 o0 h0 => by
    by_cases e : i = .g k0
    ·subst e; exact hg k0 oi (by simp [z8])
    ·exact hg k0 o0 (by simp [z8, e, h0])) (fun j0 o0 h0 => by
    by_cases e : i = .l j0
    ·subst e; exact hl j0 oi (by simp [z8])
    ·exact hl j0 o0 (by simp [z8, e, h0])) j o h hj
section
variable {P : Program} {Γ Γ' : G} {w w' : World} {s : S} {tip : Bool} {ys : List V} {Ts : List TypeId} {v : V} {L : List (Key × O)} {d : Nat}
theorem y9.back (c : y9 Γ w s) {us : List Value} (a : y2m P Γ tip s Ts ys us) (gle : GLe (Γ.call w tip s ys) Γ') (c' : y9 Γ' w' (S.fin v L s.up))
  (hg : ∀ k o, z8 L (.g k) = some o → s.obj k ≠ none) (hl : ∀ j o, z8 L (.l j) = some o → s.obj (.l (rk d j)) = none) (ht : ∀ m x, look (v.tkR 2000) m = some x → s.known (rk d m) = false)
  {u : Value} (hv : z7 Γ' (v.U5 2000) u) : j4 Γ w (s.back tip ys d v L) ((v.U5 2000).ren (dn d) (rk d)) u w' := by
 -- facts on the ghosts
 have hZu : ∀ b t sz, Γ.κ b = some (.tok t, sz) → q0x tip s t 0 ys = none → (Γ.call w tip s ys).Z b ≠ none := by
  intro b t sz hk hi
  obtain ⟨a1, _, arr, T, a3, _⟩ := c.hκ b _ _ hk
  simp only [G.call, a1, hk, hi, a3]; simp
 have hZ0 : ∀ b, Γ.Z b ≠ none → (Γ.call w tip s ys).Z b ≠ none := by
  intro b h
  cases hz : Γ.Z b with
  | none => exact absurd hz h
  | some o => simp [G.call, hz]
 have hιg : ∀ k x, Γ.ι k = some x → Γ'.ι (.g k) = some x := fun k x h => gle.g k x h
 have hιnew : ∀ j, z8 L (.l j) ≠ none → Γ.ι (.l (rk d j)) = none := by
  intro j h
  cases ho : z8 L (.l j) with
  | none => exact absurd ho h
  | some o => exact c.z5i (hl j o ho)
 have hfin : ∀ k, (S.fin v L s.up).obj k = match z8 L k with | some o => some o | none => match k with | .g k => s.up k | .l _ => none := fun k => rfl
 have hκn : ∀ b x, Γ'.κ b = some x → (Γ.back Γ' tip s ys d v L).κ b = bk d (some x) := by
  intro b x h
  have hz := (c'.hκ b x.1 x.2 (by rw [h])).1
  rw [gle.Z] at hz
  simp only [G.back]
  cases hk : Γ.κ b with
  | none => simp [h]
  | some y =>
   obtain ⟨o, sz⟩ := y
   cases o with
   | home => simp [h]
   | tok t =>
    simp only
    cases hi : q0x tip s t 0 ys with
    | some i => simp [h]
    | none => exact absurd hz (hZu b t sz hk hi)
 have hτn : ∀ m x, Γ'.τ m = some x → (Γ.back Γ' tip s ys d v L).τ (rk d m) = some x := by
  intro m x h
  have hk := c'.tdom m (by rw [h]; simp)
  have hk' : (look (v.tkR 2000) m).isSome = true := hk
  obtain ⟨y, hy⟩ := Option.isSome_iff_exists.1 hk'
  simp [G.back, q7Q, hy, h]
 have hιn : ∀ k x, Γ'.ι k = some x → (Γ.back Γ' tip s ys d v L).ι (dn d k) = some x := by
  intro k x h
  cases k with
  | l j =>
   have hd := c'.dom (.l j) (by rw [h]; simp)
   rw [hfin] at hd
   cases ho : z8 L (.l j) with
   | none => simp [ho] at hd
   | some o => simp [G.back, dn, q7Q, ho, h]
  | g k =>
   have hd := c'.dom (.g k) (by rw [h]; simp)
   rw [hfin] at hd
   have hsk : s.obj k ≠ none := by
    cases ho : z8 L (.g k) with
    | none =>
     simp only [ho, S.up] at hd
     intro e; rw [e] at hd; simp at hd
    | some o => exact hg k o ho
   cases hso : s.obj k with
   | none => exact absurd hso hsk
   | some o =>
    rcases c.obj k o hso with hn | hown
    ·rw [gle.gn k hn.1] at h; cases h
    obtain ⟨b, τ, e1, _⟩ := hown.block
    have e2 := hιg k _ e1
    rw [h] at e2; cases e2
    simp only [dn]
    cases k with
    | g k => exact e1
    | l n =>
     simp only [G.back]
     split
     ·rename_i j hj
      split
      ·rename_i o' ho'
       have := hl j o' ho'
       rw [q4x hj] at this
       exact absurd this hsk
      ·exact e1
     ·exact e1
 have pr : ∀ hm, q4t Γ' (Γ.back Γ' tip s ys d v L) (dn d) hm := fun hm =>
  ⟨Hp.le_refl _, hιn, fun _ _ h => h, fun k b p sz _ h => ⟨by rw [hκn b _ h]; rfl, rfl⟩⟩
 have hp : g9 Γ (Γ.back Γ' tip s ys d v L) := by
  refine ⟨gle.H, fun k x h => ?_, fun t x M h => ⟨x, M, ?_, Nat.le_refl _, fun _ => rfl⟩, fun b sz h => gle.σ b sz h⟩
  ·cases k with
   | g k => exact h
   | l n =>
    simp only [G.back]
    split
    ·rename_i j hj
     split
     ·rename_i o ho
      have := hιnew j (by rw [ho]; simp)
      rw [q4x hj, h] at this; cases this
     ·exact h
    ·exact h
  ·simp only [G.back]
   split
   ·rename_i m hm
    split
    ·rename_i y hy
     have := ht m y hy
     rw [q4x hm] at this
     have hk := c.tdom t (by rw [h]; simp)
     rw [this] at hk; cases hk
    ·exact h
   ·exact h
 have hobj' : ∀ k, (s.back tip ys d v L).obj k = match z8 (dnL d L) k with | some o => some o | none => s.obj k := by
  intro k
  unfold S.obj Z8 S.back
  simp only [q1G]
  cases z8 (dnL d L) k <;> rfl
 have hZn : ∀ b, Γ'.Z b = none → Γ.Z b = none := by
  intro b h
  rw [gle.Z] at h
  cases hz : Γ.Z b with
  | none => rfl
  | some o => have := hZ0 b (by rw [hz]; simp); rw [h] at this; exact absurd rfl this
 have hιback : ∀ k, (S.fin v L s.up).obj k ≠ none → Γ'.ι k = none → (Γ.back Γ' tip s ys d v L).ι (dn d k) = none := by
  intro k h hn
  have hι0 : ∀ k', k = .g k' → Γ.ι k' = none := by
   intro k' e
   subst e
   cases hx : Γ.ι k' with
   | none => rfl
   | some x => rw [hιg k' x hx] at hn; cases hn
  rw [hfin] at h
  cases k with
  | l j =>
   cases ho : z8 L (.l j) with
   | none => simp [ho] at h
   | some o => simp [G.back, dn, q7Q, ho, hn]
  | g k =>
   have hsk : s.obj k ≠ none := by
    cases ho : z8 L (.g k) with
    | none =>
     simp only [ho, S.up] at h
     intro e; rw [e] at h; simp at h
    | some o => exact hg k o ho
   have h0 := hι0 k rfl
   cases k with
   | g k => exact h0
   | l n =>
    show (match q40 d n with
     | some j => match z8 L (.l j) with
      | some _ => Γ'.ι (.l j)
      | none => Γ.ι (.l n)
     | none => Γ.ι (.l n)) = none
    split
    ·rename_i j hj
     split
     ·rename_i o' ho'
      exact absurd (q4x hj ▸ hl j o' ho') hsk
     ·exact h0
    ·exact h0
 have down : ∀ k o, (S.fin v L s.up).obj k = some o → ((Γ.back Γ' tip s ys d v L).ι (dn d k) = none ∧ (o.ren (dn d)).z15) ∨ Own (Γ.back Γ' tip s ys d v L) w' (dn d k) (o.ren (dn d)) := by
  intro k o h
  refine (c'.obj k o h).imp (fun h1 => ⟨hιback k (by rw [h]; simp) h1.1, O.z3o h1.2⟩) fun hown => hown.ren (pr _) (fun hd b τ hb => ?_) (Nat.le_refl _)
  obtain ⟨a1, a2, _⟩ := c'.q0R hb h hd
  exact ⟨rfl, a1, hZn b a2⟩
 have hdead : ∀ k, (S.fin v L s.up).c8 k = true → (s.back tip ys d v L).c8 (dn d k) = true := by
  intro k h
  unfold S.c8 at h ⊢
  rw [hfin] at h
  rw [hobj']
  cases ho : z8 L k with
  | some o =>
   rw [ho] at h
   rw [z06 d hg hl k o ho rfl]
   show (o.ren _).q0c = true
   rw [O.q6J]; exact h
  | none =>
   rw [ho] at h
   cases k with
   | l n => cases h
   | g k =>
    simp only [dn]
    cases hs : s.obj k with
    | none => simp [S.up, hs, z7F] at h
    | some o =>
     have : z8 (dnL d L) k = none := by
      cases hk : z8 (dnL d L) k with
      | none => rfl
      | some o1 =>
       obtain ⟨j, _, e1, e2, _⟩ := q9v d hk
       cases j with
       | g j => simp only [dn] at e1; subst e1; exact absurd ho e2
       | l j =>
        cases hj : z8 L (.l j) with
        | none => exact absurd hj e2
        | some oj =>
         have := hl j oj hj
         simp only [dn] at e1
         rw [e1, hs] at this; cases this
     rw [this]
     simp only [S.up, hs, Option.map_some, z7F] at h ⊢
     rw [O.q6J] at h; exact h
 refine ⟨Γ.back Γ' tip s ys d v L, ⟨gle.H, rfl, fun b h => gle.ZH b (hZ0 b h), fun _ _ h => h, rfl, rfl, fun b sz h => gle.σ b sz h, fun _ h => h⟩, hp, ?_, hv.ren (pr none) hτn⟩
 refine ⟨c'.hH, fun b o h => ?_, fun b o sz h => ?_, fun k o h => ?_, fun k h => ?_, fun k k' b τ τ' h1 h2 => ?_, fun t M h => ?_, fun t h => ?_, fun g τ cc h => ?_, by rw [c'.hoo, gle.oo]; rfl, c'.hσ⟩
 ·exact c'.hZ b o (by rw [gle.Z]; simp [G.call, show Γ.Z b = some o from h])
 ·-- rooms
  have other : ∀ x, Γ'.κ b = some x → x.2 = sz → Γ.Z b = none ∧ Γ'.H b ≠ none ∧ ∃ arr T, w'.heap[b]? = some (.cells arr T (0, 0)) ∧ arr.size = sz := by
   intro x hx e
   obtain ⟨a1, a2, a3⟩ := c'.hκ b x.1 x.2 hx
   rw [e] at a3
   exact ⟨hZn b a1, a2, a3⟩
  have bkc : ∀ {x}, bk d (Γ'.κ b) = some x → x.2 = sz → Γ.Z b = none ∧ Γ'.H b ≠ none ∧ ∃ arr T, w'.heap[b]? = some (.cells arr T (0, 0)) ∧ arr.size = sz := by
   intro x hx e
   cases hk' : Γ'.κ b with
   | none => rw [hk'] at hx; simp [bk] at hx
   | some y =>
    refine other y hk' ?_
    obtain ⟨o', sz'⟩ := y
    rw [hk'] at hx
    cases o' <;> simp [bk] at hx <;> subst hx <;> exact e
  simp only [G.back] at h
  cases hk : Γ.κ b with
  | none => simp only [hk] at h; exact bkc h rfl
  | some y =>
   obtain ⟨o0, sz0⟩ := y
   cases o0 with
   | home => simp only [hk] at h; exact bkc h rfl
   | tok t =>
    simp only [hk] at h
    cases hi : q0x tip s t 0 ys with
    | some i => simp only [hi] at h; exact bkc h rfl
    | none =>
     simp [hi] at h
     obtain ⟨rfl, rfl⟩ := h
     obtain ⟨a1, a2, arr, T, a3, a4⟩ := c.hκ b _ _ hk
     have hz := hZu b t sz0 hk hi
     have hH : Γ'.H b = Γ.H b := gle.ZH b hz
     have hw : w'.heap[b]? = w.heap[b]? := by
      have : Γ'.Z b = w.heap[b]? := by rw [gle.Z]; simp [G.call, a1, hk, hi]
      rw [a3] at this ⊢
      exact c'.hZ b _ this
     exact ⟨a1, by show Γ'.H b ≠ none; rw [hH]; exact a2, arr, T, by rw [hw]; exact a3, a4⟩
 ·-- objects
  rw [hobj'] at h
  cases hk : z8 (dnL d L) k with
  | some o1 =>
   rw [hk] at h; cases h
   obtain ⟨j, _, e1, e2, _⟩ := q9v d hk
   cases hj : z8 L j with
   | none => exact absurd hj e2
   | some oj =>
    have := z06 d hg hl j oj hj e1
    rw [hk] at this; cases this
    rw [← e1]
    exact down j oj (by rw [hfin, hj])
  | none =>
   rw [hk] at h
   have hLg : z8 L (.g k) = none := by
    cases ho : z8 L (.g k) with
    | none => rfl
    | some o0 =>
     have this : z8 (dnL d L) k = _ := z06 d hg hl (.g k) o0 ho rfl
     rw [hk] at this; cases this
   have := down (.g k) (o.ren .g) (by rw [hfin, hLg]; simp only [S.up, h]; rfl)
   rwa [O.q41 .g (dn d) (fun _ => rfl)] at this
 ·-- every handle's object is there
  rw [hobj']
  cases hk : z8 (dnL d L) k with
  | some o => simp
  | none =>
   simp only
   cases k with
   | g k => exact c.dom _ h
   | l n =>
    simp only [G.back] at h
    split at h
    ·rename_i j hj
     split at h
     ·rename_i o ho
      have := z06 d hg hl (.l j) o ho (by simp only [dn]; rw [q4x hj])
      rw [hk] at this; cases this
     ·exact c.dom _ h
    ·exact c.dom _ h
 ·-- blocks stay apart
  have key : ∀ k b τ, (Γ.back Γ' tip s ys d v L).ι k = some (b, τ) → (Γ.ι k = some (b, τ) ∧ Γ'.ι (.g k) = some (b, τ)) ∨ ∃ j, k = .l (rk d j) ∧ Γ'.ι (.l j) = some (b, τ) := by
   intro k b τ h
   cases k with
   | g k => exact .inl ⟨h, hιg _ _ h⟩
   | l n =>
    simp only [G.back] at h
    split at h
    ·rename_i j hj
     split at h
     ·exact .inr ⟨j, by rw [q4x hj], h⟩
     ·exact .inl ⟨h, hιg _ _ h⟩
    ·exact .inl ⟨h, hιg _ _ h⟩
  rcases key k b τ h1 with ⟨e1, e2⟩ | ⟨j, e1, e2⟩ <;> rcases key k' b τ' h2 with ⟨f1, f2⟩ | ⟨j', f1, f2⟩
  ·exact (c'.inj _ _ _ _ _ e2 f2).imp (fun e => by cases e; rfl) (And.imp (Or.imp (hdead _) (hdead _)) id)
  ·subst f1; exact (c'.inj _ _ _ _ _ e2 f2).imp (fun e => by cases e) (And.imp (Or.imp (hdead _) (hdead _)) id)
  ·subst e1; exact (c'.inj _ _ _ _ _ e2 f2).imp (fun e => by cases e) (And.imp (Or.imp (hdead _) (hdead _)) id)
  ·subst e1; subst f1; exact (c'.inj _ _ _ _ _ e2 f2).imp (fun e => by cases e; rfl) (And.imp (Or.imp (hdead _) (hdead _)) id)
 ·-- live tokens
  simp only [S.back, S.live, q0n, q2w, z3G] at h
  cases hr : q40 d t with
  | some m =>
   simp only [hr] at h
   cases hm : look (v.tkR 2000) m with
   | some y =>
    simp only [hm] at h
    cases y with
    | none => simp at h
    | some M' =>
     simp at h; subst h
     obtain ⟨x, a1, a2⟩ := c'.tok m M' (by unfold S.live q0n; rw [show (S.fin v L s.up).tk = v.tkR 2000 from rfl, hm])
     refine ⟨x, by simp [G.back, hr, hm, a1], fun b pos sz hx => ?_⟩
     obtain ⟨a3, a4⟩ := a2 b pos sz hx
     refine ⟨a3, ?_⟩
     rw [hκn b _ a4]
     simp only [bk, q4x hr]
   | none =>
    simp only [hm] at h
    rw [z3H] at h
    by_cases hp' : t ∈ Z2 tip s ys
    ·simp [hp'] at h
    ·simp only [hp', if_false] at h
     obtain ⟨x, a1, a2⟩ := c.tok t M h
     refine ⟨x, by simp [G.back, hr, hm, a1], fun b pos sz hx => ?_⟩
     obtain ⟨⟨l, a3, a5⟩, a4⟩ := a2 b pos sz hx
     have hi : q0x tip s t 0 ys = none := by
      cases hi : q0x tip s t 0 ys with
      | none => rfl
      | some i => obtain ⟨k, y, _, h2, h3⟩ := z0c hi; exact absurd (q7i h2 h3) hp'
     have hH : Γ'.H b = Γ.H b := gle.ZH b (hZu b t sz a4 hi)
     exact ⟨⟨l, by show Γ'.H b = some l; rw [hH]; exact a3, a5⟩, by simp [G.back, a4, hi]⟩
  | none =>
   simp only [hr] at h
   rw [z3H] at h
   by_cases hp' : t ∈ Z2 tip s ys
   ·simp [hp'] at h
   ·simp only [hp', if_false] at h
    obtain ⟨x, a1, a2⟩ := c.tok t M h
    refine ⟨x, by simp [G.back, hr, a1], fun b pos sz hx => ?_⟩
    obtain ⟨⟨l, a3, a5⟩, a4⟩ := a2 b pos sz hx
    have hi : q0x tip s t 0 ys = none := by
     cases hi : q0x tip s t 0 ys with
     | none => rfl
     | some i => obtain ⟨k, y, _, h2, h3⟩ := z0c hi; exact absurd (q7i h2 h3) hp'
    have hH : Γ'.H b = Γ.H b := gle.ZH b (hZu b t sz a4 hi)
    exact ⟨⟨l, by show Γ'.H b = some l; rw [hH]; exact a3, a5⟩, by simp [G.back, a4, hi]⟩
 ·-- known tokens
  simp only [S.back, S.known, q2w, z3G]
  have old : Γ.τ t ≠ none → (look s.tk t).isSome = true := fun h => c.tdom t h
  have oldk : Γ.τ t ≠ none → (match look (q5p (Z2 tip s ys)) t with | some x => some x | none => look s.tk t).isSome = true := by
   intro h
   cases hd : look (q5p (Z2 tip s ys)) t with
   | some y => rfl
   | none => exact old h
  simp only [G.back] at h
  cases hr : q40 d t with
  | some m =>
   simp only [hr] at h
   simp only
   cases hm : look (v.tkR 2000) m with
   | some y => rfl
   | none => simp only [hm] at h; have := oldk h; revert this; cases look (q5p (Z2 tip s ys)) t <;> simp
  | none => simp only [hr] at h; have := oldk h; revert this; cases look (q5p (Z2 tip s ys)) t <;> simp
 ·have h' : (Γ.call w tip s ys).gl g = some (τ, cc) := h
  rw [← gle.gl] at h'
  exact c'.hgl g τ cc h'
end
end Go.E
namespace Go.E
open Go
def q2y (P : Program) (f : FuncId) : Bool :=
 match P.funcs[f]? with
 | some fn => fn.name != "runtime.NumGoroutine" && fn.body.isSome
 | none => false
section
variable {P : Program} {Γ : G} {w : World} {s : S}
theorem z5B {f : FuncId} (h : q2y P f = true) (args : Array Value) (w : World) : (callFunc f args).run P w = .ok (.enter f args) w := by
 unfold q2y at h
 cases hf : P.funcs[f]? with
 | none => simp [hf] at h
 | some fn =>
  simp [hf] at h
  obtain ⟨h1, h2⟩ := h
  cases hb : fn.body with
  | none => simp [hb] at h2
  | some b => simp [callFunc, hf, h1, hb]
theorem y4N {x : V} {v : Value} (h1 : z6 Γ none [] x v.cells.toList) (h2 : u7 v = x.ty.isAgg) : z7 Γ x v := by
 cases x <;> first | exact ⟨h1, h2⟩ | trivial | (simp only [z6] at h1)
theorem y6I : ∀ {xs : List V} {vs : List Value}, v3 Γ xs vs → xs.length = vs.length ∧ ∀ (i : Nat) x v, xs[i]? = some x → vs[i]? = some v → z7 Γ x v
 | [], vs, h => by simp only [v3] at h; subst h; simp
 | x :: xs, vs, h => by
  simp only [v3] at h
  obtain ⟨v, vs', rfl, h2, h3, h4⟩ := h
  obtain ⟨e1, e2⟩ := y6I h4
  refine ⟨by simp [e1], fun i y u hy hu => ?_⟩
  cases i with
  | zero => simp at hy hu; subst hy; subst hu; exact y4N h2 h3
  | succ i => exact e2 i y u (by simpa using hy) (by simpa using hu)
theorem z7f {f : FuncId} {caps : List V} {v : Value} (h : z7 Γ (.fn f caps) v) : ∃ cv : Array Value, v = .func (.func f) #[] cv ∧ caps.length = cv.toList.length ∧ ∀ (i : Nat) x u, caps[i]? = some x → cv.toList[i]? = some u → z7 Γ x u := by
 obtain ⟨h1, _⟩ := (s6 rfl rfl).1 h
 simp only [z6] at h1
 obtain ⟨cv, hv, hc⟩ := h1
 simp at hv
 obtain ⟨e1, e2⟩ := y6I hc
 exact ⟨cv, hv, e1, e2⟩
def X2 (as : List V) (caps : List V) : List V := as ++ caps
def q7r (ts : List TypeId) (caps : List V) : List TypeId := ts ++ List.replicate caps.length 0
mutual
theorem V.y8X : ∀ (x : V), x.k6 = true → (x.ren .g id).ok c5 c5 = true
 | .sl _ _ _ _, h => by simp [V.k6] at h
 | .agg _ vs, h | .fn _ vs, h | .tup vs, h => by simp only [V.ren, V.ok]; exact V.x0k vs (by simpa [V.k6] using h)
 | .ptr _ _ _, _ | .mp _, _ | .sr _ _ _ _ _ _ _, _ | .d _ _, _ | .ts _ _ _, _ | .emp _ _, _ | .nilc, _ | .cptr _ _, _ | .top _, _ | .any, _ => by simp [V.ren, V.ok]
theorem V.x0k : ∀ (xs : List V), V.X4 xs = true → V.oks c5 c5 (V.q0B .g id xs) = true
 | [], _ => rfl
 | x :: xs, h => by
  simp only [V.X4, Bool.and_eq_true] at h
  simp only [V.q0B, V.oks, Bool.and_eq_true]
  exact ⟨V.y8X x h.1, V.x0k xs h.2⟩
end
theorem y71 : ∀ (es : List (C × V)), (∀ (i : Nat) (c : C × V), es[i]? = some c → c.2.k6 = true) → V.q1f c5 c5 (es.map fun c => (c.1, c.2.ren .g id)) = true
 | [], _ => rfl
 | x :: xs, h => by
  simp only [List.map_cons, V.q1f, Bool.and_eq_true]
  exact ⟨V.y8X _ (h 0 x rfl), y71 xs fun i c hc => h (i + 1) c (by simpa using hc)⟩
theorem y9.x5M (c : y9 Γ w s) : AOk s.up := by
 intro k o h
 unfold S.up at h
 cases ho : s.obj k with
 | none => simp [ho] at h
 | some o0 =>
  simp only [ho, Option.map_some, Option.some.injEq] at h
  subst h
  rcases c.obj k o0 ho with ⟨_, hv⟩ | hown
  ·cases o0 with
   | box x => obtain ⟨e, rfl⟩ := hv; rfl
   | dead => rfl
   | _ => exact hv.elim
  ·cases o0 with
   | box x =>
    obtain ⟨b, cells, T, _, _, _, _, _, _, _, h8⟩ := hown
    exact V.y8X x h8
   | map kτ vτ es =>
    obtain ⟨b, ms, clock, _, _, _, _, h5, h6, _⟩ := hown
    refine y71 es fun i cc hcc => ?_
    have hlt : i < ms.size := by rw [h5]; exact (List.getElem?_eq_some_iff.1 hcc).1
    exact (h6 i ms[i] cc (Array.getElem?_eq_getElem hlt) hcc).2.2.2.2.2.2
   | it => rfl
   | dead => rfl
theorem y8l {X : Cx} (hX : X.P = P) (hgl : Γ.gl = X.gl) (c : y9 Γ w s) {o : Oper} {a : Act} {fo : Operand} {f : FuncId} {caps : List V} {as : Array Operand} {ts : Array TypeId} {ρa : Operand → V} {tip : Bool} {A : Key → Option O} {v : V} {L : List (Key × O)} {d : Nat}
  (ho : o.op = .call { callee := .value fo, args := as, argTypes := ts }) (hcal : q2y P f = true) (hts : ts.toList.length = as.toList.length)
  (hf : z7 Γ (.fn f caps) (a.eval fo)) (hr : ∀ y ∈ as.toList, z7 Γ (ρa y) (a.eval y)) (hnd : q1D (Z2 tip s (X2 (as.toList.map ρa) caps)) = true)
  (D : Q0 X f (Z9 P tip s (q7r ts.toList caps) (X2 (as.toList.map ρa) caps)) A v L) (hA : ∀ k o, A k = some o → s.up k = some o)
  (hg : ∀ k o, z8 L (.g k) = some o → s.obj k ≠ none) (hl : ∀ j o, z8 L (.l j) = some o → s.obj (.l (rk d j)) = none) (ht : ∀ m x, look (v.tkR 2000) m = some x → s.known (rk d m) = false) :
  o8 P o a w (j4 Γ w (s.back tip (X2 (as.toList.map ρa) caps) d v L) ((v.U5 2000).ren (dn d) (rk d))) := by
 subst hX
 obtain ⟨cv, hfv, hcl, hcr⟩ := z7f hf
 have run : (execOp a.eval o).run X.P w = .ok (.enter f (as.map a.eval ++ cv)) w := by
  unfold execOp
  simp [ho, resolve, hfv, Deferred.ofValue, invoke, z5B hcal]
 have ha : y2m X.P Γ tip s (q7r ts.toList caps) (X2 (as.toList.map ρa) caps) (as.map a.eval ++ cv).toList := by
  refine ⟨by simp [q7r, X2] at hts ⊢; omega, by simp [X2] at hcl ⊢; omega, fun i y u hy hu => ?_, hnd⟩
  simp only [X2] at hy
  simp only [Array.toList_append, Array.toList_map] at hu
  by_cases hi : i < as.toList.length
  ·rw [List.getElem?_append_left (by simpa using hi)] at hy
   rw [List.getElem?_append_left (by simpa using hi)] at hu
   simp only [List.getElem?_map] at hy hu
   cases he : as.toList[i]? with
   | none => simp [he] at hy
   | some z =>
    simp [he] at hy hu
    subst hy; subst hu
    exact hr z (List.mem_of_getElem? he)
  ·rw [List.getElem?_append_right (by simpa using hi)] at hy
   rw [List.getElem?_append_right (by simpa using hi)] at hu
   simp only [List.length_map] at hy hu
   exact hcr _ y u hy hu
 refine o8.enter run ?_
 have cc := c.call ha
 refine (D s.up (Γ.call w tip s _) w (as.map a.eval ++ cv) hA hgl ⟨cc, c.x5M⟩ ?_ fun i x u hx hu => ?_).mono ?_
 ·rw [q9C ha.len, ha.len2]; simp
 ·rw [q8Q] at hx
  cases hz : (Z9 X.P tip s (q7r ts.toList caps) (X2 (as.toList.map ρa) caps))[i]? with
  | none => simp [hz] at hx
  | some z =>
   simp [hz] at hx
   subst hx
   obtain ⟨T, y, _, hy, rfl⟩ := z0b hz
   have hu' : (as.map a.eval ++ cv).toList[i]? = some u := by rw [Array.getElem?_toList]; exact hu
   exact x1b c ha hy (ha.rep i y u hy hu')
 ·rintro e w' ⟨u, Γ', rfl, gle, c', hv⟩
  exact ⟨u, rfl, c.back ha gle c' hg hl ht hv⟩
end
end Go.E
namespace Go.E
open Go
noncomputable def q1N {α : Type} : List (C × α) → C → Option α
 | [], _ => none
 | (k, v) :: es, c => if C.eqb c k = true then some v else q1N es c
noncomputable def q4g {α : Type} : List (C × α) → C → α → List (C × α)
 | [], c, v => [(c, v)]
 | (k, u) :: es, c, v => if C.eqb c k = true then (k, v) :: es else (k, u) :: q4g es c v
noncomputable def J4 {α : Type} : List (C × α) → C → Nat → Option Nat
 | [], _, _ => none
 | (k, _) :: es, c, i => if C.eqb c k = true then some i else J4 es c (i + 1)
def q7V (P : Program) (T : TypeId) : Option (TypeId × TypeId) := match P.underlying T with
 | some (.map k e) => some (k, e)
 | _ => none
section
variable {P : Program}
theorem q6c (hP : v9 P = true) (em : Bool) : ∀ (f d : Nat) (T : TypeId), q2H P f T = true → f ≤ d → ∀ (H : Hp) (a : Value) (c : C) (w : World), z9 H (tyF P f T) a.cells.toList c → u7 a = (tyF P f T).isAgg → (Instr.checkKey em d T a).run P w = .ok () w
 | 0, _, _, h, _ => by simp [q2H] at h
 | f + 1, 0, _, _, hd => by omega
 | f + 1, d + 1, T, h, hd => by
  intro H a c w ra ha
  simp only [q2H, Bool.and_eq_true, decide_eq_true_eq] at h
  obtain ⟨hT, h⟩ := h
  have ho := q4H hP hT
  unfold okT at ho
  unfold tyF at ra ha
  rw [if_pos hT] at ra ha
  cases hu : P.underlying T with
  | none => simp [hu] at h
  | some kd =>
   cases kd <;> simp only [hu, Bool.false_eq_true] at h ra ha ho
   case bool => simp [Instr.checkKey, run_underlying hu]
   case int k => simp [Instr.checkKey, run_underlying hu]
   case string => simp [Instr.checkKey, run_underlying hu]
   case array n E =>
    simp [Ty.isAgg] at ha
    cases a <;> simp [u7] at ha
    rename_i xs
    simp only [Value.cells] at ra
    simp at ho
    obtain ⟨i, hi⟩ : ∃ i, P.info? E = some i := by
     cases hi : P.info? E with
     | none => simp [Tables.info?, ho.2] at hi
     | some i => exact ⟨i, rfl⟩
    rw [Instr.checkKey]
    simp only [Sem.run_bind, run_underlying hu, Result.andThen_ok]
    simp only [Std.Legacy.Range.forIn_eq_forIn_range', Std.Legacy.Range.size, Nat.sub_zero, Nat.add_one_sub_one, Nat.div_one]
    have each : ∀ j ∈ List.range' 0 n, j < n := fun j hj => by simp [List.mem_range'] at hj; omega
    generalize List.range' 0 n = is at each
    induction is with
    | nil => simp
    | cons j is ih =>
     obtain ⟨g, rfl, hE, hk⟩ := q8G h
     have hin := each j (by simp)
     have hch : (Ty.arr n (tyF P (g + 1) E)).child j = some (j * (tyF P (g + 1) E).size, tyF P (g + 1) E) := by simp only [Ty.child]; rw [if_pos hin]
     obtain ⟨_, b1, r1⟩ := ra.get hch
     obtain ⟨u, p1, p2, p3⟩ := q4w (f := g) hP hE rfl hk (by simpa using b1) ra.one w
     have q := q6c hP em (g + 1) d E h (by omega) H u _ w (p2 ▸ r1) p3
     rw [Q1 hP] at p1
     have hsz : (sizeOf E).run P w = .ok (P.cellsOf E) w := by
      have := q0K (f := g + 1) hP (w := w) hE
      rwa [Q1 hP] at this
     simp only [List.forIn_cons, Sem.run_bind, hsz, Result.andThen_ok, p1, q, Sem.run_pure]
     exact ih (fun y hy => each y (by simp [hy]))
   case struct fs =>
    simp [Ty.isAgg] at ha
    cases a <;> simp [u7] at ha
    rename_i xs
    simp only [Value.cells] at ra
    simp only [z9] at ra
    obtain ⟨cs, rfl, _, o1, f1⟩ := ra
    simp only [Bool.and_eq_true, Bool.not_eq_true', List.all_eq_true, bne_iff_ne, ne_eq] at h
    rw [Instr.checkKey]
    simp only [Sem.run_bind, run_underlying hu, Result.andThen_ok]
    rw [← Array.forIn_toList]
    have hall := h.2
    generalize fs.toList = L at f1 hall
    induction L generalizing cs with
    | nil => simp
    | cons g L ih =>
     simp only [List.map_cons, j7] at f1
     obtain ⟨c, cs, rfl, b1, r1, f1⟩ := f1
     obtain ⟨hn, hok⟩ := hall g (by simp)
     obtain ⟨f', rfl, hE, hk⟩ := q8G hok
     obtain ⟨u, p1, p2, p3⟩ := q4w (f := f') hP hE rfl hk (by simpa using b1) o1 w
     have q := q6c hP em (f' + 1) d g.type hok (by omega) H u _ w (p2 ▸ r1) p3
     simp only [List.forIn_cons, Sem.run_bind, hn, ne_eq, not_false_eq_true, if_true, Result.andThen_ok, p1, q, Sem.run_pure]
     exact ih cs f1 (fun y hy => hall y (by simp [hy]))
def q7y (H : Hp) (kτ : Ty) {α : Type} : List MapEntry → List (C × α) → Prop
 | [], [] => True
 | m :: ms, c :: cs => z9 H kτ m.key.cells.toList c.1 ∧ u7 m.key = kτ.isAgg ∧ q7y H kτ ms cs
 | _, _ => False
theorem q8R (hP : v9 P = true) {kt : TypeId} (hok : W2 P kt = true) {H : Hp} {k : Value} {c : C} (rk : z9 H (ty P kt) k.cells.toList c) (hk : u7 k = (ty P kt).isAgg) (w : World) {α : Type} :
  ∀ (ms : List MapEntry) (cs : List (C × α)) (i : Nat), q7y H (ty P kt) ms cs → (Instr.findAsking kt k ms i).run P w = .ok ((J4 cs c i).bind fun j => (ms[j - i]?).map fun m => (j, m.val)) w
 | [], [], i, _ => by simp [Instr.findAsking, J4]
 | m :: ms, (c1, v1) :: cs, i, h => by
  simp only [q7y] at h
  have he := z4j hP hok w rk hk h.1 h.2.1
  have ih := q8R hP hok rk hk w ms cs (i + 1) h.2.2
  simp only [Instr.findAsking, Sem.run_bind, he, Result.andThen_ok, J4]
  cases hc : C.eqb c c1 with
  | true => simp
  | false =>
   simp only [Bool.false_eq_true, if_false, ih]
   cases hf : J4 cs c (i + 1) with
   | none => rfl
   | some j =>
    have hj : i + 1 ≤ j := by
     have : ∀ (cs : List (C × α)) (i j : Nat), J4 cs c i = some j → i ≤ j := by
      intro cs
      induction cs with
      | nil => intro i j h; simp [J4] at h
      | cons x cs ih =>
       intro i j h
       obtain ⟨a, b⟩ := x
       simp only [J4] at h
       split at h
       ·cases h; exact Nat.le_refl _
       ·have := ih _ _ h; omega
     exact this cs _ _ hf
    simp only [Option.bind_some]
    rw [show j - i = (j - (i + 1)) + 1 by omega, List.getElem?_cons_succ]
 | [], _ :: _, _, h => by simp [q7y] at h
 | _ :: _, [], _, h => by simp [q7y] at h
theorem y6X (hP : v9 P = true) {kt : TypeId} (hok : W2 P kt = true) {H : Hp} {d : TypeDesc} (hd : P.underlying kt = some d) {k k' : Value} {c c' : C} (rk : z9 H (ty P kt) k.cells.toList c) (hk : u7 k = (ty P kt).isAgg)
  (rk' : z9 H (ty P kt) k'.cells.toList c') (hk' : u7 k' = (ty P kt).isAgg) : Instr.sameNow d k k' = none ∨ Instr.sameNow d k k' = some (C.eqb c c') := by
 unfold W2 at hok
 simp only [Bool.and_eq_true] at hok
 have h := hok.1
 simp only [q2H, Bool.and_eq_true, decide_eq_true_eq] at h
 obtain ⟨hT, h⟩ := h
 unfold ty tyF at rk hk rk' hk'
 rw [if_pos hT] at rk hk rk' hk'
 cases d <;> simp only [hd, Bool.false_eq_true] at h rk hk rk' hk'
 case bool =>
  rw [v7 (by simpa [Ty.isAgg] using hk)] at rk
  rw [v7 (by simpa [Ty.isAgg] using hk')] at rk'
  simp only [z9] at rk rk'
  obtain ⟨x, rfl, e1⟩ := rk
  obtain ⟨y, rfl, e2⟩ := rk'
  simp at e1 e2; subst e1; subst e2
  right; simp [Instr.sameNow, C.y6h]
 case int kk =>
  rw [v7 (by simpa [Ty.isAgg] using hk)] at rk
  rw [v7 (by simpa [Ty.isAgg] using hk')] at rk'
  simp only [z9] at rk rk'
  obtain ⟨x, rfl, e1, _⟩ := rk
  obtain ⟨y, rfl, e2, _⟩ := rk'
  simp at e1 e2; subst e1; subst e2
  right; simp [Instr.sameNow, C.y8g]
 case string =>
  rw [v7 (by simpa [Ty.isAgg] using hk)] at rk
  rw [v7 (by simpa [Ty.isAgg] using hk')] at rk'
  simp only [z9] at rk rk'
  obtain ⟨x, rfl, e1, _⟩ := rk
  obtain ⟨y, rfl, e2, _⟩ := rk'
  simp at e1 e2; subst e1; subst e2
  right; simp [Instr.sameNow, C.y8f, beq_toListBytes, ByteArray.toList_eq]
 all_goals (left; rfl)
theorem z8K (hP : v9 P = true) {kt : TypeId} (hok : W2 P kt = true) {H : Hp} {d : TypeDesc} (hd : P.underlying kt = some d) {k : Value} {c : C} (rk : z9 H (ty P kt) k.cells.toList c) (hk : u7 k = (ty P kt).isAgg) {α : Type} :
  ∀ (ms : List MapEntry) (cs : List (C × α)) (i : Nat), q7y H (ty P kt) ms cs → Instr.findNow d k ms i = none ∨ Instr.findNow d k ms i = some ((J4 cs c i).bind fun j => (ms[j - i]?).map fun m => (j, m.val))
 | [], [], i, _ => by right; simp [Instr.findNow, J4]
 | m :: ms, (c1, v1) :: cs, i, h => by
  simp only [q7y] at h
  simp only [Instr.findNow]
  rcases y6X hP hok hd rk hk h.1 h.2.1 with he | he
  ·rw [he]; exact .inl rfl
  ·rw [he]
   simp only [J4]
   cases hc : C.eqb c c1 with
   | true => right; simp
   | false =>
    simp only [Bool.false_eq_true, if_false]
    rcases z8K hP hok hd rk hk ms cs (i + 1) h.2.2 with ih | ih
    ·exact .inl ih
    ·right
     rw [ih]
     cases hf : J4 cs c (i + 1) with
     | none => rfl
     | some j =>
      have hj : i + 1 ≤ j := by
       have : ∀ (cs : List (C × α)) (i j : Nat), J4 cs c i = some j → i ≤ j := by
        intro cs
        induction cs with
        | nil => intro i j h; simp [J4] at h
        | cons x cs ih =>
         intro i j h
         obtain ⟨a, b⟩ := x
         simp only [J4] at h
         split at h
         ·cases h; exact Nat.le_refl _
         ·have := ih _ _ h; omega
       exact this cs _ _ hf
      simp only [Option.bind_some]
      rw [show j - i = (j - (i + 1)) + 1 by omega, List.getElem?_cons_succ]
 | [], _ :: _, _, h => by simp [q7y] at h
 | _ :: _, [], _, h => by simp [q7y] at h
theorem z9P (hP : v9 P = true) {kt : TypeId} (hok : W2 P kt = true) {H : Hp} {k : Value} {c : C} (rk : z9 H (ty P kt) k.cells.toList c) (hk : u7 k = (ty P kt).isAgg) (w : World) {α : Type} {ms : List MapEntry} {cs : List (C × α)} (h : q7y H (ty P kt) ms cs) :
  (Instr.findKey kt k ms).run P w = .ok ((J4 cs c 0).bind fun j => (ms[j]?).map fun m => (j, m.val)) w := by
 obtain ⟨d, hd⟩ : ∃ d, P.underlying kt = some d := by
  cases hu : P.underlying kt with
  | some d => exact ⟨d, rfl⟩
  | none => unfold W2 at hok; simp [q2H, hu] at hok
 simp only [Instr.findKey, Sem.run_bind, run_underlying hd, Result.andThen_ok]
 rcases z8K hP hok hd rk hk ms cs 0 h with e | e
 ·rw [e]
  simp only
  exact q8R hP hok rk hk w ms cs 0 h
 ·rw [e]
  simp only [Sem.run_pure, Nat.sub_zero]
end
end Go.E
namespace Go.E
open Go
def Ty.flat : Ty → Bool
 | .int _ | .bool | .str => true
 | .arr _ e => e.flat
 | _ => false
def z2F : Value → Bool
 | .int _ _ | .bool _ | .string _ => true
 | _ => false
theorem y4O {H H' : Hp} : ∀ {τ : Ty} {vs vs' : List Value} {c : C}, τ.flat = true → z9 H τ vs c → z9 H' τ vs' c → vs = vs'
 | .int k, vs, vs', c, _, h, h' => by
  simp only [z9] at h h'
  obtain ⟨n, rfl, rfl, _⟩ := h
  obtain ⟨m, e, rfl, _⟩ := h'
  cases e; rfl
 | .bool, vs, vs', c, _, h, h' => by
  simp only [z9] at h h'
  obtain ⟨n, rfl, rfl⟩ := h
  obtain ⟨m, e, rfl⟩ := h'
  cases e; rfl
 | .str, vs, vs', c, _, h, h' => by
  simp only [z9] at h h'
  obtain ⟨n, rfl, rfl, _⟩ := h
  obtain ⟨m, e, rfl, _⟩ := h'
  cases e; rfl
 | .arr n e, vs, vs', c, hf, h, h' => by
  simp only [z9] at h h'
  obtain ⟨cs, rfl, h1, h2, _, h3⟩ := h
  obtain ⟨cs', e', h1', h2', _, h3'⟩ := h'
  cases e'
  refine List.ext_getElem? fun j => ?_
  by_cases hj : j < n * e.size
  ·have hs : 0 < e.size := by
    rcases Nat.eq_zero_or_pos e.size with h | h
    ·rw [h, Nat.mul_zero] at hj; omega
    ·exact h
   have hi : j / e.size < cs.length := by rw [h1]; exact (Nat.div_lt_iff_lt_mul hs).2 hj
   have hdm := Nat.div_add_mod j e.size
   have hmod := Nat.mod_lt j hs
   have heq := y4O (τ := e) hf (h3 _ _ (List.getElem?_eq_getElem hi)) (h3' _ _ (List.getElem?_eq_getElem hi))
   have := congrArg (fun l : List Value => l[j % e.size]?) heq
   simp only [p8, if_pos hmod] at this
   rw [Nat.mul_comm, hdm] at this
   exact this
  ·rw [List.getElem?_eq_none (by omega), List.getElem?_eq_none (by omega)]
 | .slice _ _, _, _, _, hf, _, _ | .struct _ _ _, _, _, _, hf, _, _ | .ptr, _, _, _, hf, _, _ | .map, _, _, _, hf, _, _ | .func, _, _, _, hf, _, _ | .iface, _, _, _, hf, _, _ | .opq _, _, _, _, hf, _, _ => by simp [Ty.flat] at hf
theorem z2a {H : Hp} : ∀ {τ : Ty} {vs : List Value} {c : C}, τ.flat = true → z9 H τ vs c → ∀ v ∈ vs, z2F v = true
 | .int k, vs, c, _, h => by
  simp only [z9] at h
  obtain ⟨n, rfl, rfl, _⟩ := h
  intro v hv; simp at hv; subst hv; rfl
 | .bool, vs, c, _, h => by
  simp only [z9] at h
  obtain ⟨n, rfl, rfl⟩ := h
  intro v hv; simp at hv; subst hv; rfl
 | .str, vs, c, _, h => by
  simp only [z9] at h
  obtain ⟨n, rfl, rfl, _⟩ := h
  intro v hv; simp at hv; subst hv; rfl
 | .arr n e, vs, c, hf, h => by
  simp only [z9] at h
  obtain ⟨cs, rfl, h1, h2, _, h3⟩ := h
  intro v hv
  obtain ⟨j, hj⟩ := List.getElem?_of_mem hv
  have hjl : j < n * e.size := by rw [← h2]; exact (List.getElem?_eq_some_iff.1 hj).1
  have hs : 0 < e.size := by
   rcases Nat.eq_zero_or_pos e.size with h | h
   ·rw [h, Nat.mul_zero] at hjl; omega
   ·exact h
  have hi : j / e.size < cs.length := by rw [h1]; exact (Nat.div_lt_iff_lt_mul hs).2 hjl
  have hdm := Nat.div_add_mod j e.size
  have hmod := Nat.mod_lt j hs
  refine z2a (τ := e) hf (h3 _ _ (List.getElem?_eq_getElem hi)) v (List.mem_of_getElem? (i := j % e.size) ?_)
  rw [p8, if_pos hmod, Nat.mul_comm, hdm]; exact hj
 | .slice _ _, _, _, hf, _ | .struct _ _ _, _, _, hf, _ | .ptr, _, _, hf, _ | .map, _, _, hf, _ | .func, _, _, hf, _ | .iface, _, _, hf, _ | .opq _, _, _, hf, _ => by simp [Ty.flat] at hf
theorem z1y {n : Nat} {v : Value} (h : z2F v = true) : Instr.sameBits n v v = true := by
 cases v <;> simp [z2F] at h <;> cases n <;> simp [Instr.sameBits, beq_toListBytes]
theorem x1h (l : List Value) : l.zip l = l.map fun x => (x, x) := by
 induction l with
 | nil => rfl
 | cons x l ih => simp [ih]
theorem sameBits_self {n : Nat} {v : Value} (h : ∀ u ∈ v.cells.toList, z2F u = true) (hv : u7 v = false → z2F v = true) : Instr.sameBits (n + 1) v v = true := by
 cases v
 case agg a =>
  simp only [Value.cells] at h
  simp only [Instr.sameBits, beq_self_eq_true, Bool.true_and, x1h, List.all_map, List.all_eq_true, Function.comp]
  exact fun u hu => z1y (h u hu)
 all_goals exact z1y (hv rfl)
theorem y4B {u v : Value} (h : u.cells.toList = v.cells.toList) (h' : u7 u = u7 v) : u = v := by
 cases hu : u7 u with
 | false =>
  rw [v7 hu, v7 (h' ▸ hu)] at h
  simpa using h
 | true =>
  rw [hu] at h'
  cases u <;> simp [u7] at hu
  cases v <;> simp [u7] at h'
  simp only [Value.cells] at h
  rw [Array.toList_inj.1 h]
section
variable {P : Program} {Γ : G} {w : World} {s : S}
theorem q7y.of {H : Hp} {kτ : Ty} {α : Type} : ∀ {ms : List MapEntry} {cs : List (C × α)}, ms.length = cs.length → (∀ (i : Nat) (m : MapEntry) (c : C × α), ms[i]? = some m → cs[i]? = some c → z9 H kτ m.key.cells.toList c.1 ∧ u7 m.key = kτ.isAgg) → q7y H kτ ms cs
 | [], [], _, _ => trivial
 | m :: ms, c :: cs, hl, h => by
  obtain ⟨h1, h2⟩ := h 0 m c rfl rfl
  exact ⟨h1, h2, q7y.of (by simpa using hl) fun i m c hm hc => h (i + 1) m c (by simpa using hm) (by simpa using hc)⟩
 | [], _ :: _, hl, _ => by simp at hl
 | _ :: _, [], hl, _ => by simp at hl
theorem z2q {α : Type} : ∀ (cs : List (C × α)) (c : C) (i : Nat), match J4 cs c i with
  | some j => i ≤ j ∧ ∃ v, cs[j - i]? = some (c, v) ∧ q1N cs c = some v ∧ ∀ v', q4g cs c v' = cs.set (j - i) (c, v')
  | none => q1N cs c = none ∧ ∀ v', q4g cs c v' = cs ++ [(c, v')]
 | [], _, _ => by simp [J4, q1N, q4g]
 | (k, v) :: cs, c, i => by
  simp only [J4, q1N, q4g]
  by_cases h : C.eqb c k = true
  ·rw [if_pos h]
   have := C.q0D.1 h
   subst this
   simp [h]
  ·rw [if_neg h]
   have ih := z2q cs c (i + 1)
   split at ih
   ·rename_i j hj
    obtain ⟨h1, v', h2, h3, h4⟩ := ih
    rw [if_neg h]
    refine ⟨by omega, v', ?_, h3, fun u => ?_⟩
    ·rw [show j - i = (j - (i + 1)) + 1 by omega, List.getElem?_cons_succ]; exact h2
    ·rw [if_neg h, h4 u, show j - i = (j - (i + 1)) + 1 by omega, List.set_cons_succ]
   ·rename_i hj
    rw [if_neg h]
    exact ⟨ih.1, fun u => by rw [if_neg h, ih.2 u]; rfl⟩
theorem q9a {T kt et : TypeId} (h : q7V P T = some (kt, et)) : P.underlying T = some (.map kt et) := by
 unfold q7V at h
 split at h
 ·rename_i hu; cases h; exact hu
 ·cases h
theorem z2I {k : Key} {v : Value} (h : z7 Γ (.mp k) v) : ∃ b, Γ.ι k = some (b, .map) ∧ v = .map (some b) := by
 obtain ⟨h1, h2⟩ := (v5 rfl).1 h
 rw [v7 (by simpa [V.ty, Ty.isAgg] using h2)] at h1
 simp only [z6] at h1
 obtain ⟨b, h1, h3⟩ := h1
 exact ⟨b, h1, by simpa using h3⟩
theorem y4L (hP : v9 P = true) (c : y9 Γ w s) {k : Key} {kt : TypeId} {vτ : Ty} {es : List (C × V)} {key : Value} {cc : C} (hobj : s.obj k = some (.map (ty P kt) vτ es)) (hok : W2 P kt = true)
  (hk : z7 Γ (.d (ty P kt) cc) key) {b : Nat} (hι : Γ.ι k = some (b, .map)) : ∃ ms clock, w.heap[b]? = some (.map ms clock) ∧ (∀ em, (Instr.checkKey em 10000 kt key).run P w = .ok () w) ∧
   (Instr.findKey kt key ms.toList).run P w = .ok ((J4 es cc 0).bind fun j => (ms.toList[j]?).map fun m => (j, m.val)) w := by
 obtain ⟨b', ms, clock, e1, _, _, e4, e5, e6, _⟩ := c.own (by assumption) hobj
 rw [hι] at e1; cases e1
 obtain ⟨r1, r2⟩ := X6.1 hk
 have hok' := hok
 unfold W2 at hok'
 simp only [Bool.and_eq_true] at hok'
 refine ⟨ms, clock, e4, fun em => q6c hP em 12 10000 kt hok'.1 (by decide) Γ.H key cc w r1 r2, ?_⟩
 exact z9P hP hok r1 r2 w (q7y.of (by simpa using e5) fun i m c hm hc => ⟨(e6 i m c (by simpa using hm) hc).1, (e6 i m c (by simpa using hm) hc).2.1⟩)
theorem y9w (c : y9 Γ w s) {o : Oper} {a : Act} {T : TypeId} {n : Nat} {kτ vτ : Ty} (ho : o.op = .makeMap T none) (hn : s.obj (.l n) = none) :
  o8 P o a w (j4 Γ w { s with loc := (.l n, .map kτ vτ []) :: s.loc } (.mp (.l n))) := by
 obtain ⟨h1, h2, h3⟩ := c.c6 hn (Ext.alloc w (.map #[] 0)) (τ := .map) (o := .map kτ vτ []) fun Γ' hpr _ hι hH hZ => ⟨w.heap.size, #[], 0, hι, hH, hZ, heap_alloc_new w _, rfl, fun i m c hm => by simp at hm, fun i m hm => by simp at hm, fun i j m m' hm => by simp at hm⟩
 refine o8.val (v := .map (some w.heap.size)) (w' := w.alloc (.map #[] 0)) ?_ ⟨_, h3, h2, h1, ?_⟩
 ·unfold execOp
  have hr : (Instr.makeMap T none).run P w = .ok (.map (some w.heap.size)) (w.alloc (.map #[] 0)) := rfl
  simp [ho, hr]
 ·refine (v5 rfl).2 ⟨?_, by simp [V.ty, Ty.isAgg, u7]⟩
  simp only [z6]
  exact ⟨w.heap.size, by simp [G.c6, q1q], by simp [Value.cells]⟩
noncomputable def q5f (P : Program) (et : TypeId) (es : List (C × V)) (c : C) : V := (q1N es c).getD (u2 (ty P et))
theorem x00 (hP : v9 P = true) (c : y9 Γ w s) {o : Oper} {a : Act} {T kt et : TypeId} {x i : Operand} {commaOk : Bool} {k : Key} {vτ : Ty} {es : List (C × V)} {cc : C}
  (ho : o.op = .lookup T x i commaOk) (hT : q7V P T = some (kt, et)) (hx : z7 Γ (.mp k) (a.eval x)) (hi : z7 Γ (.d (ty P kt) cc) (a.eval i)) (hobj : s.obj k = some (.map (ty P kt) vτ es)) (hok : W2 P kt = true) (hz : Y0 P et = true) :
  o8 P o a w (j4 Γ w s (if commaOk then .tup [q5f P et es cc, .d .bool (.bool (q1N es cc).isSome)] else q5f P et es cc)) := by
 obtain ⟨b, hι, hxv⟩ := z2I hx
 obtain ⟨ms, clock, hb, hck, hfk⟩ := y4L hP c hobj hok hi hι
 obtain ⟨z, hzr, hzo, hza⟩ := y4J hz
 have hfl := z2q es cc 0
 obtain ⟨b', ms', clock', e1, _, _, e4, e5, e6, _⟩ := c.own (by assumption) hobj
 rw [hι] at e1; cases e1
 rw [hb] at e4; cases e4
 obtain ⟨v, ok, hrv, hok2, hrun⟩ : ∃ v ok, (z7 Γ (q5f P et es cc) v ∧ (q5f P et es cc).plain = true) ∧ ok = (q1N es cc).isSome ∧ (Instr.lookup T (a.eval x) (a.eval i) commaOk).run P w = .ok (if commaOk then .tuple #[v, .bool ok] else v) w := by
  cases hf : J4 es cc 0 with
  | none =>
   rw [hf] at hfl hfk
   simp only at hfl
   refine ⟨z, false, ⟨?_, ?_⟩, by rw [hfl.1]; rfl, ?_⟩
   ·simp only [q5f, hfl.1, Option.getD_none]
    exact (v5 (q8e _)).2 ⟨z1t (ty P et) hzo, by rw [q6b]; exact hza⟩
   ·simp only [q5f, hfl.1, Option.getD_none]; exact q8e _
   ·simp [Instr.lookup, hxv, run_underlying (q9a hT), MapKept.run_getObj_map hb, hck, hfk, hzr]
  | some j =>
   rw [hf] at hfl hfk
   simp only [Nat.sub_zero] at hfl
   obtain ⟨_, v0, h2, h3, _⟩ := hfl
   obtain ⟨m, hm⟩ : ∃ m, ms[j]? = some m := by
    have : j < ms.size := by rw [e5]; exact (List.getElem?_eq_some_iff.1 h2).1
    exact ⟨_, Array.getElem?_eq_getElem this⟩
   obtain ⟨_, _, q3, q4, q5, q6, q7⟩ := e6 j m _ hm h2
   simp only at q3 q4 q5 q6
   refine ⟨m.val, true, ⟨?_, ?_⟩, by rw [h3]; rfl, ?_⟩
   ·simp only [q5f, h3, Option.getD_some]
    exact (v5 q6).2 ⟨q3, by rw [q4, q5]⟩
   ·simp only [q5f, h3, Option.getD_some]; exact q6
   ·have hm' : ms.toList[j]? = some m := by simpa using hm
    rw [Option.bind_some, hm'] at hfk
    simp [Instr.lookup, hxv, run_underlying (q9a hT), MapKept.run_getObj_map hb, hck, hfk]
 refine o8.val (v := if commaOk then .tuple #[v, .bool ok] else v) (w' := w) (by unfold execOp; simp [ho, hrun]) (j4.same c ?_)
 cases commaOk with
 | false => exact hrv.1
 | true =>
  refine ⟨#[v, .bool ok], rfl, ?_⟩
  refine q6I (by simp) fun i x u hx hu => ?_
  match i with
  | 0 => simp at hx hu; subst hx; subst hu; exact ⟨hrv.2, hrv.1⟩
  | 1 => simp at hx hu; subst hx; subst hu; subst hok2; exact ⟨rfl, s7⟩
  | i + 2 => simp at hx
theorem x3v {w w' : World} {b : Nat} (hlt : b < w'.heap.size) (oth : ∀ b', b' ≠ b → w'.heap[b']? = w.heap[b']?) : w.heap.size ≤ w'.heap.size :=
 z5w (o := w'.heap[b]) (by simp [hlt]) oth
theorem y9.y9R (c : y9 Γ w s) {w' : World} {k : Key} {o0 o1 : O} {b : Nat} {τk : Ty}
  (ho : s.obj k = some o0) (hd0 : o0.q0c = false) (hι : Γ.ι k = some (b, τk)) (hnc : ∀ arr T fr, w.heap[b]? ≠ some (.cells arr T fr)) (hlt' : b < w'.heap.size) (hsame : ∀ b', b' ≠ b → w'.heap[b']? = w.heap[b']?) (hoo : oof w' = oof w) (hown : Γ.H b = none → Γ.Z b = none → Own Γ w' k o1) :
  y9 Γ w' { s with loc := (k, o1) :: s.loc } := by
 obtain ⟨hH, hZ, hlt, e2⟩ := c.q0R hι ho hd0
 refine c.change (.refl Γ) rfl rfl rfl hoo (fun b' l h => ?_) (fun b' h => hsame b' (fun e => by subst e; exact h hZ)) (fun b' o sz h => ?_) (fun j o h => ?_) (fun _ h _ => h) (fun j h => ?_) (fun b' sz h => ?_) (c.z6F (z38 fun h => by rw [Y9 ho, hd0] at h; cases h)) c.tok c.tdom (x3v hlt' hsame)
 ·rw [hsame b' (fun e => by subst e; rw [hH] at h; cases h)]; exact c.hH b' l h
 ·obtain ⟨a1, a2, a3⟩ := c.hκ b' o sz h
  rw [hsame b' (fun e => by subst e; exact a2 hH)]; exact ⟨a1, a2, a3⟩
 ·rw [Q9] at h
  split at h
  ·rename_i e
   subst e; cases h
   exact .inr (hown hH hZ)
  ·rename_i e
   refine .inl ⟨h, fun hd => ⟨fun _ _ _ _ => ⟨rfl, rfl⟩, fun b' τ' hb => ?_⟩⟩
   obtain ⟨a1, a2, a3, _⟩ := c.q0R hb h hd
   refine ⟨hsame b' (fun e' => ?_), a1⟩
   subst e'
   exact e (c.x15 hι hb (by rw [Y9 ho]; exact hd0) (by rw [Y9 h]; exact hd))
 ·rw [Q9]
  split
  ·simp
  ·exact c.dom j h
 ·obtain ⟨arr, T1, fr, a1, a2⟩ := c.hσ b' sz h
  by_cases e : b' = b
  ·subst e; exact absurd a1 (hnc _ _ _)
  ·exact ⟨arr, T1, fr, by rw [hsame b' e]; exact a1, a2⟩
theorem z28 (w : World) (b b' : Nat) (o : Obj) (h : b' ≠ b) : ({ w with heap := w.heap.setIfInBounds b o } : World).heap[b']? = w.heap[b']? := by
 simp only [Array.getElem?_setIfInBounds_ne (fun e => h e.symm)]
theorem q59 (w : World) {b : Nat} {o o' : Obj} (h : w.heap[b]? = some o') : ({ w with heap := w.heap.setIfInBounds b o } : World).heap[b]? = some o := by
 have := (Array.getElem?_eq_some_iff.1 h).1
 simp [this]
theorem y6t (hP : v9 P = true) (c : y9 Γ w s) {o : Oper} {a : Act} {T kt et : TypeId} {x i y : Operand} {k : Key} {es : List (C × V)} {cc : C} {Y : V}
  (ho : o.op = .mapUpdate T x i y) (hT : q7V P T = some (kt, et)) (hx : z7 Γ (.mp k) (a.eval x)) (hi : z7 Γ (.d (ty P kt) cc) (a.eval i)) (hy : z7 Γ Y (a.eval y)) (hobj : s.obj k = some (.map (ty P kt) (ty P et) es)) (hok : W2 P kt = true) (hfl : (ty P kt).flat = true)
  (h1 : Y.ty = ty P et) (h2 : Y.plain = true) (h3 : Y.k6 = true) :
  o8 P o a w (j4 Γ w { s with loc := (k, .map (ty P kt) (ty P et) (q4g es cc Y)) :: s.loc } .any) := by
 obtain ⟨b, hι, hxv⟩ := z2I hx
 obtain ⟨ms, clock, hb, hck, hfk⟩ := y4L hP c hobj hok hi hι
 have hix := z2q es cc 0
 obtain ⟨b', ms', clock', e1, _, _, e4, e5, e6, e7, e8⟩ := c.own (by assumption) hobj
 rw [hι] at e1; cases e1
 rw [hb] at e4; cases e4
 obtain ⟨k1, k2⟩ := X6.1 hi
 obtain ⟨y1, y2⟩ := (v5 h2).1 hy
 cases hf : J4 es cc 0 with
 | none =>
  rw [hf] at hix hfk
  simp only at hix
  have hrun : (Instr.mapUpdate T (a.eval x) (a.eval i) (a.eval y)).run P w = .ok () { w with heap := w.heap.setIfInBounds b (.map (ms.push { key := a.eval i, val := a.eval y, born := clock }) (clock + 1)) } := by
   simp [Instr.mapUpdate, hxv, run_underlying (q9a hT), MapKept.run_getObj_map hb, hck, hfk, MapKept.run_setObj_map _ hb]
  refine o8.skip (w' := _) (by unfold execOp; simp [ho, hrun]; rfl) ⟨Γ, .refl Γ, .refl Γ, c.y9R (o1 := .map (ty P kt) (ty P et) (q4g es cc Y)) hobj rfl hι (fun arr T fr h => by rw [hb] at h; cases h) (H9 (q59 w hb)) (fun b' h => z28 w b b' _ h) rfl fun hH hZ => ?_, by simp [z7]⟩
  refine ⟨b, _, _, hι, hH, hZ, q59 w hb, by rw [hix.2]; simp [e5], fun j m c1 hm hc1 => ?_, fun j m hm => ?_, fun j j' m m' hm hm' hbb => ?_⟩
  ·rw [hix.2] at hc1
   rw [Array.getElem?_push] at hm
   by_cases hj : j = ms.size
   ·rw [if_pos hj] at hm; cases hm
    rw [List.getElem?_append_right (by omega), hj, e5] at hc1
    simp at hc1; subst hc1
    exact ⟨k1, k2, y1, by rw [y2, h1], h1, h2, h3⟩
   ·rw [if_neg hj] at hm
    have hjl : j < ms.size := (Array.getElem?_eq_some_iff.1 hm).1
    rw [List.getElem?_append_left (by omega)] at hc1
    exact e6 j m c1 hm hc1
  ·rw [Array.getElem?_push] at hm
   by_cases hj : j = ms.size
   ·rw [if_pos hj] at hm; cases hm; simp
   ·rw [if_neg hj] at hm; have := e7 j m hm; omega
  ·rw [Array.getElem?_push] at hm hm'
   by_cases hj : j = ms.size <;> by_cases hj' : j' = ms.size
   ·omega
   ·rw [if_pos hj] at hm; rw [if_neg hj'] at hm'; cases hm
    have := e7 j' m' hm'; simp at hbb; omega
   ·rw [if_neg hj] at hm; rw [if_pos hj'] at hm'; cases hm'
    have := e7 j m hm; simp at hbb; omega
   ·rw [if_neg hj] at hm; rw [if_neg hj'] at hm'
    exact e8 j j' m m' hm hm' hbb
 | some j =>
  rw [hf] at hix hfk
  simp only [Nat.sub_zero] at hix
  obtain ⟨_, v0, g2, g3, g4⟩ := hix
  obtain ⟨m, hm⟩ : ∃ m, ms[j]? = some m := by
   have : j < ms.size := by rw [e5]; exact (List.getElem?_eq_some_iff.1 g2).1
   exact ⟨_, Array.getElem?_eq_getElem this⟩
  obtain ⟨q1, q2, _⟩ := e6 j m _ hm g2
  simp only at q1
  have hkey : m.key = a.eval i := y4B (y4O hfl q1 k1) (by rw [q2, k2])
  have hsb : Instr.sameBits 10000 (((ms[j]?).map (·.key)).getD (a.eval i)) (a.eval i) = true := by
   rw [hm]; simp only [Option.map_some, Option.getD_some, hkey]
   refine sameBits_self (z2a hfl k1) fun hag => ?_
   have := z2a hfl k1
   rw [v7 hag] at this
   exact this _ (by simp)
  have hm' : ms.toList[j]? = some m := by simpa using hm
  rw [Option.bind_some, hm'] at hfk
  have hrun : (Instr.mapUpdate T (a.eval x) (a.eval i) (a.eval y)).run P w = .ok () { w with heap := w.heap.setIfInBounds b (.map (ms.modify j fun e => { e with key := a.eval i, val := a.eval y }) clock) } := by
   simp only [Option.map_some] at hfk
   simp [Instr.mapUpdate, hxv, run_underlying (q9a hT), MapKept.run_getObj_map hb, hck, hfk, Instr.keyThatStays, hsb, MapKept.run_setObj_map _ hb]
  refine o8.skip (w' := _) (by unfold execOp; simp [ho, hrun]; rfl) ⟨Γ, .refl Γ, .refl Γ, c.y9R (o1 := .map (ty P kt) (ty P et) (q4g es cc Y)) hobj rfl hι (fun arr T fr h => by rw [hb] at h; cases h) (H9 (q59 w hb)) (fun b' h => z28 w b b' _ h) rfl fun hH hZ => ?_, by simp [z7]⟩
  have born : ∀ (j' : Nat) (m' : MapEntry), (ms.modify j fun e => { e with key := a.eval i, val := a.eval y })[j']? = some m' → ∃ m0, ms[j']? = some m0 ∧ m'.born = m0.born ∧ (j' ≠ j → m' = m0) ∧ (j' = j → m' = { m0 with key := a.eval i, val := a.eval y }) := by
   intro j' m' h
   rw [Array.getElem?_modify] at h
   by_cases e : j = j'
   ·subst e
    rw [if_pos rfl, hm] at h
    simp at h; subst h
    exact ⟨m, hm, rfl, fun h => absurd rfl h, fun _ => rfl⟩
   ·rw [if_neg e] at h
    exact ⟨m', h, rfl, fun _ => rfl, fun h => absurd h.symm e⟩
  refine ⟨b, _, _, hι, hH, hZ, q59 w hb, by rw [g4]; simp [e5], fun j' m' c1 hm1 hc1 => ?_, fun j' m' hm1 => ?_, fun j1 j2 m1 m2 hm1 hm2 hbb => ?_⟩
  ·obtain ⟨m0, z1, _, z3, z4⟩ := born j' m' hm1
   rw [g4] at hc1
   by_cases e : j' = j
   ·rw [z4 e]
    subst e
    have hlt := (List.getElem?_eq_some_iff.1 g2).1
    simp [hlt] at hc1
    subst hc1
    exact ⟨k1, k2, y1, by rw [y2, h1], h1, h2, h3⟩
   ·rw [List.getElem?_set_ne (fun h => e h.symm)] at hc1
    rw [z3 e]
    exact e6 j' m0 c1 z1 hc1
  ·obtain ⟨m0, z1, z2, _⟩ := born j' m' hm1
   rw [z2]; exact e7 j' m0 z1
  ·obtain ⟨n1, z1, z2, _⟩ := born j1 m1 hm1
   obtain ⟨n2, z1', z2', _⟩ := born j2 m2 hm2
   exact e8 j1 j2 n1 n2 z1 z1' (by rw [← z2, ← z2', hbb])
end
end Go.E
namespace Go.E
open Go
section
variable {P : Program} {Γ : G} {w : World} {s : S}
theorem z41 (hP : v9 P = true) (c : y9 Γ w s) {o : Oper} {a : Act} {x y : Operand} {t t' : TypeId} {n : Nat} {X Y : V} {ys : List C} {eb : Nat} {e : Ty} (ho : q8b o x y t t')
  (ht : ty P t = .slice eb e) (hz : Y0 P (w8 P t) = true) (hn : s.obj (.l n) = none)
  (hx : z7 Γ X (a.eval x)) (hX : X = .nilc ∨ ∃ eb' e', X = .emp eb' e') (hy : z7 Γ Y (a.eval y)) (hel : q9V P s t' eb e Y ys) (hne : ys ≠ []) :
  o8 P o a w (j4 Γ w { s with loc := (.l n, .box (.d (.arr ys.length e) (.agg ys))) :: s.loc } (.sr (.l n) [] 0 ys.length none eb e)) := by
 obtain ⟨hu, he, heb, hE⟩ := q27 hP ht
 obtain ⟨a0, hx0⟩ : ∃ a0, a.eval x = .slice a0 0 0 := by
  rcases hX with rfl | ⟨eb', e', rfl⟩
  ·exact ⟨none, W6 hx⟩
  ·obtain ⟨h1, _⟩ := (s6 rfl rfl).1 hx
   simp only [z6] at h1
   obtain ⟨a0, h1⟩ := h1
   exact ⟨a0, by simpa using h1⟩
 obtain ⟨m, news, hs, r1, r2, r3, r4⟩ := z2B c hy hel
 obtain ⟨i, z, hi, hzz, hzo, hzo2⟩ := q6n hz
 have hcz := q04 hzo
 have hsz : i.size = e.size := by
  have := Q1 hP 11 (w8 P t)
  rw [he, this]; simp [Program.cellsOf, hi]
 have hby : i.bytes = eb := by rw [heb]; simp [Program.bytesOf, hi]
 rw [← hsz] at hs
 have hm : m ≠ 0 := by
  intro h; subst h; exact hne (List.eq_nil_of_length_eq_zero r1)
 have hmx' : ((0 + m : Nat) : Int) ≤ 9223372036854775807 := by unfold maxLen at r2; omega
 have hge := grownCap_ge w (0 + m) 0 (w8 P t)
 have hcm := grownCap_le_maxLen w (0 + m) 0 (w8 P t) (by omega)
 have hold : (Builtin.firstCells i.size 0 (.slice a0 0 0)).run P w.drew = .ok ([] : List Value).toArray w.drew := by
  cases a0 with
  | none => exact run_firstCells_none w.drew i.size 0 0 0
  | some ad => exact run_firstCells_some w.drew i.size 0 ad 0 0 [] (by simp) (by simp)
 have run := run_append_grow_src (P := P) w t t' o.type _ i z hu hi hzz a0 0 0 [] hold (a.eval y) m news hs (by omega) hmx' (by
  rw [hby]; exact growslice_fits (by omega) (by rw [Nat.zero_add]; exact r3))
 rw [← hx0] at run
 have hext : Ext w (w.drew.alloc (.cells ((([] : List Value) ++ news).toArray ++ Builtin.zeroCells z.cells (grownCap w (0 + m) 0 (w8 P t) - (0 + m))) (w8 P t))) := (Ext.drew w).trans (Ext.alloc _ _)
 have hnew := heap_alloc_new w.drew (.cells ((([] : List Value) ++ news).toArray ++ Builtin.zeroCells z.cells (grownCap w (0 + m) 0 (w8 P t) - (0 + m))) (w8 P t))
 have hnl : news.length = m * e.size := by rw [hs.newsLen, hsz]
 have hone : q1a news := q2Y r1 hnl r4
 have hrep : z6 Γ none [] (.d (.arr ys.length e) (.agg ys)) news := by
  simp only [z6, z9]
  exact ⟨ys, rfl, rfl, by rw [r1]; exact hnl, hone, r4⟩
 have hchunk : chunk ((([] : List Value) ++ news).toArray ++ Builtin.zeroCells z.cells (grownCap w (0 + m) 0 (w8 P t) - (0 + m))).toList 0 (ys.length * e.size) = news := by
  rw [r1, ← hnl]
  simp [chunk]
 obtain ⟨h1, h2, h3⟩ := c.c6 (k := .l n) hn hext (τ := .arr ys.length e) (o := .box (.d (.arr ys.length e) (.agg ys))) fun Γ' hpr _ hι hH hZ =>
  ⟨_, _, w8 P t, hι, hH, hZ, hnew, by simp only [V.ty, Ty.size, r1, ← hnl]; simp, by
   simp only [V.ty, Ty.size]
   rw [hchunk]
   exact (hrep.b5 hpr (by trivial)).Y6, rfl, rfl⟩
 obtain ⟨k1, k2, k3⟩ := h1.q9D (show _ = _ from hnew)
 refine o8.val (q19 ho run) ⟨_, h3.trans k3, h2.trans k2, k1, (s6 rfl rfl).2 ⟨?_, rfl⟩⟩
 simp only [z6]
 rw [show 0 + m = m by omega] at hge hcm ⊢
 refine .inr ⟨w.heap.size, .arr ys.length e, 0, ys.length, grownCap w m 0 (w8 P t), by simp [G.q9D, G.c6, q1q], rfl, by omega, ⟨some ⟨w.heap.size, 0, none⟩, by rw [r1], .inr (by simp)⟩, by rw [r1]; exact hge, hcm, by rw [r1]; exact r3, (fun c h => by cases h), fun _ => .inr ⟨_, j5 _ _ _, ?_⟩⟩
 have hzc : z.cells.size = e.size := by
  have h1 := Q1 hP 11 (w8 P t)
  have h2 := q7N hP (w8 P t)
  rw [he, h1, ← h2, ← hcz]; simp
 simp only [List.nil_append, Array.size_append, List.size_toArray, size_zeroCells, hzc, hnl, ← Nat.add_mul]
 rw [Nat.zero_add, Nat.zero_add]
 exact Nat.mul_le_mul_right _ (by omega)
theorem x01 (c : y9 Γ w s) {o : Oper} {a : Act} {x : Operand} {T : TypeId} {k : Key} {kτ vτ : Ty} {es : List (C × V)} (ho : o.op = .call { callee := .builtin .len, args := #[x], argTypes := #[T] })
  {kt et : TypeId} (hT : q7V P T = some (kt, et)) (hx : z7 Γ (.mp k) (a.eval x)) (hobj : s.obj k = some (.map kτ vτ es)) (hl : es.length ≤ 9223372036854775807) : o8 P o a w (j4 Γ w s (.d (.int .i64) (.int es.length))) := by
 obtain ⟨b, hι, hxv⟩ := z2I hx
 obtain ⟨b', ms, clock, e1, _, _, e4, e5, _⟩ := c.own (by assumption) hobj
 rw [hι] at e1; cases e1
 refine o8.val (v := .int .i64 es.length) (w' := w) ?_ (j4.same c (k7 ?_ ?_))
 ·unfold execOp
  have hw : IntKind.i64.wrap (es.length : Int) = es.length := IntWalk.i64_in _ (by omega)
  simp [ho, resolve, invoke, builtin, hxv, Builtin.len_, Builtin.lenOf, run_underlying (q9a hT), MapKept.run_getObj_map e4, e5, goInt, hw]
 ·have : IntKind.i64.min = -9223372036854775808 := by decide
  omega
 ·have : IntKind.i64.max = 9223372036854775807 := by decide
  omega
end
end Go.E
namespace Go.E
open Go
def z13 (c : C) : UInt8 := UInt8.ofNat c.toInt.toNat
def Ty.y52 : Ty → Bool
 | .int .u8 => true
 | _ => false
theorem Ty.y1Z : ∀ {τ : Ty}, τ.y52 = true → τ = .int .u8
 | .int .u8, _ => rfl
def strOf (P : Program) (s : S) (src dst : TypeId) (x : V) : Option (List C) :=
 match ty P src, ty P dst with
 | .slice eb e, .str => if e.y52 = true ∧ eb = 1 then (match x with
  | .nilc => some []
  | _ => (match X5 s x with
   | some (eb', e', ys) => if e'.y52 = true ∧ eb' = 1 then some ys else none
   | none => none)) else none
 | _, _ => none
section
variable {P : Program} {Γ : G} {w : World} {s : S}
theorem y2s {f : Nat} {T : TypeId} {k : IntKind} (h : tyF P (f + 1) T = .int k) : P.underlying T = some (.int k) := by
 unfold tyF at h
 split at h
 ·cases hu : P.underlying T with
  | none => simp [hu] at h
  | some d => cases d <;> simp [hu] at h ⊢ <;> exact h
 ·cases h
theorem z2C {Y : V} {v : Value} {r : Nat × Ty × List C} (hr : z7 Γ Y v) (he : X5 s Y = some r) : ∃ a n cap, v = .slice a n cap := by
 obtain ⟨eb, e, ys⟩ := r
 have frozen : Y.q3y = some (eb, e, ys) → ∃ a n cap, v = .slice a n cap := fun h => by
  obtain ⟨a, n, cap, hv, _⟩ := q1m hr h
  exact ⟨a, n, cap, hv⟩
 cases Y <;> (try exact frozen he)
 case sr k q lo n cp eb' e' =>
  obtain ⟨cap, a, rfl, _⟩ := z79 hr
  exact ⟨_, _, _, rfl⟩
theorem x07 {c : C} {H : Hp} {vs : List Value} (h : z9 H (.int .u8) vs c) : vs = [.int .u8 ((z13 c).toNat : Int)] := by
 simp only [z9] at h
 obtain ⟨n, rfl, rfl, h1, h2⟩ := h
 have m1 : IntKind.u8.min = 0 := by decide
 have m2 : IntKind.u8.max = 255 := by decide
 have : ((z13 (.int n)).toNat : Int) = n := by
  simp only [z13, C.toInt, UInt8.toNat_ofNat']
  omega
 rw [this]
theorem x2r (hP : v9 P = true) (c : y9 Γ w s) {o : Oper} {a : Act} {src dst : TypeId} {x : Operand} (ho : o.op = .convert src dst x) {Y : V} {ys : List C} (h : strOf P s src dst Y = some ys)
  (hr : z7 Γ Y (a.eval x)) : o8 P o a w (j4 Γ w s (.d .str (.str (ys.map z13)))) := by
 unfold strOf at h
 split at h
 ·rename_i eb e ht hd
  obtain ⟨E, hu, hE, _, _⟩ := q1r hP ht
  have hd' := q8N hd
  split at h
  ·rename_i hc0
   obtain ⟨h0, rfl⟩ := hc0
   obtain rfl := Ty.y1Z h0
   have hEu : P.underlying E = some (.int .u8) := y2s hE.symm
   split at h
   ·cases h
    have hv : a.eval x = .slice none 0 0 := W6 hr
    refine o8.val (v := .string ⟨#[]⟩) (w' := w) ?_ (j4.same c (q5B (by simp)))
    unfold execOp
    simp only [ho, hv, Sem.run_bind]
    rw [run_convert_bytes_string w src dst E none 0 0 hu hEu hd']
    simp [Conv.bytesToString, Sem.run_pure, Result.andThen]
    rfl
   ·split at h
    ·rename_i eb' e' ys' he
     split at h
     ·rename_i hc
      obtain ⟨h0', rfl⟩ := hc
      obtain rfl := Ty.y1Z h0'
      cases h
      obtain ⟨ad, n', cap, hv⟩ := z2C hr he
      obtain ⟨n, news, hs, h1, h2, h3, h4⟩ := z9M c hr he hu
      rw [hv] at hs
      have hn : n' = n := by
       have := hs.len w
       simp [Builtin.lenOf, Sem.run_pure] at this
       exact this
      subst hn
      have hsz : (Ty.int IntKind.u8).size = 1 := rfl
      have hnl := hs.newsLen
      rw [hsz, Nat.mul_one] at hnl
      have hnews : news = ((ys.map z13).map (fun b => (b.toNat : Int))).map (Value.int .u8) := by
       apply List.ext_getElem?
       intro i
       by_cases hi : i < ys.length
       ·have hy := h4 i _ (List.getElem?_eq_getElem hi)
        rw [hsz, Nat.mul_one] at hy
        have hb := x07 hy
        have hi' : i < news.length := by omega
        have hcell : (chunk news i 1)[0]? = news[i]? := by rw [p8]; simp
        rw [hb] at hcell
        rw [← hcell]
        simp [List.getElem?_eq_getElem hi]
       ·rw [List.getElem?_eq_none (by omega), List.getElem?_eq_none (by simp; omega)]
      refine o8.val (v := .string ⟨(ys.map z13).toArray⟩) (w' := w) ?_ (j4.same c (q5B (by simp; omega)))
      unfold execOp
      simp only [ho, hv, Sem.run_bind]
      rw [run_convert_bytes_string w src dst E ad n' cap hu hEu hd']
      cases ad with
      | none =>
       have hc := hs.cells
       simp [Builtin.firstCells, Sem.run_pure] at hc
       have hn0 : ys = [] := by
        rw [hc] at hnl
        simp at hnl
        exact List.eq_nil_of_length_eq_zero (by omega)
       subst hn0
       simp [Conv.bytesToString, Sem.run_pure, Result.andThen]
       rfl
      | some ad =>
       have hc := hs.cells
       simp only [Builtin.firstCells, hsz, Nat.mul_one] at hc
       rw [hnews] at hc
       rw [run_bytesToString w ad n' cap _ hc, foldl_push_byteCells]
       simp [Result.andThen, Sem.run_pure]
     ·cases h
    ·cases h
  ·cases h
 ·cases h
end
end Go.E
namespace Go.E
open Go
section
variable {P : Program} {Γ : G} {w w' : World} {s : S}
theorem y9.kill (c : y9 Γ w s) {k : Key} {o : O} (ho : s.obj k = some o) : y9 Γ w { s with loc := (k, .dead o.ty) :: s.loc } := by
 refine ⟨c.hH, c.hZ, c.hκ, fun j o' h => ?_, fun j h => ?_, c.z6F (z38 fun _ => rfl), c.tok, c.tdom, c.hgl, c.hoo, c.hσ⟩
 ·rw [Q9] at h
  split at h
  ·rename_i e
   subst e; cases h
   refine (c.obj _ _ ho).imp (fun h => ⟨h.1, trivial⟩) fun hown => ?_
   obtain ⟨b, τ, h1, _, h4, h5⟩ := hown.block
   exact ⟨b, by rw [← h5]; exact h1, h4⟩
  ·exact c.obj j o' h
 ·rw [Q9]
  split
  ·simp
  ·exact c.dom j h
theorem y9.x0b (c : y9 Γ w s) {k j : Key} {x x' : V} {b m m' : Nat} {e : Ty} {cells' : Array Value} {T : TypeId}
  (ho : s.obj k = some (.box x)) (hxt : x.ty = .arr m e) (hι : Γ.ι k = some (b, .arr m e)) (hj : s.obj j = none) (hnew : w'.heap[b]? = some (.cells cells' T (0, 0))) (hsame : ∀ b', b' ≠ b → w'.heap[b']? = w.heap[b']?) (hoo : oof w' = oof w)
  (ht : x'.ty = .arr m' e) (hsz : x'.ty.size ≤ cells'.size) (hx : z6 Γ none [] x' (chunk cells'.toList 0 x'.ty.size)) (hp : x'.plain = true) (hns : x'.k6 = true)
  (hcs : ∀ arr T fr, w.heap[b]? = some (.cells arr T fr) → cells'.size = arr.size) (hkl : ∀ i, j ≠ .g i := by intro i h; cases h) :
  y9 (Γ.c6 j b (.arr m' e)) w' { s with loc := (j, .box x') :: (k, .dead (.arr m e)) :: s.loc } ∧ g9 Γ (Γ.c6 j b (.arr m' e)) ∧ GLe Γ (Γ.c6 j b (.arr m' e)) := by
 obtain ⟨hH, hZ, hlt, _⟩ := c.q0R hι ho rfl
 have hkj : k ≠ j := fun e => by subst e; rw [ho] at hj; cases hj
 have hk0 := c.z5i hj
 have hιk : ∀ i y, Γ.ι i = some y → (Γ.c6 j b (.arr m' e)).ι i = some y := by
  intro i y hi
  have : i ≠ j := by intro e; subst e; rw [hk0] at hi; cases hi
  simp [G.c6, q1q, this, hi]
 have hpr : g9 Γ (Γ.c6 j b (.arr m' e)) := ⟨Hp.le_refl _, hιk, fun t x L h => ⟨x, L, h, Nat.le_refl _, fun _ => rfl⟩, fun _ _ h => h⟩
 have hmono : w.heap.size ≤ w'.heap.size := by
  cases Nat.lt_or_ge w'.heap.size w.heap.size with
  | inr h => exact h
  | inl hlt2 =>
   have h1 := H9 hnew
   have h3 := hsame w'.heap.size (by omega)
   rw [Array.getElem?_eq_none (Nat.le_refl _), Array.getElem?_eq_getElem hlt2] at h3
   cases h3
 have hdk : s.c8 k = false := by rw [Y9 ho]; rfl
 have hobj : ∀ i, S.obj { s with loc := (j, .box x') :: (k, .dead (.arr m e)) :: s.loc } i = if j = i then some (.box x') else if k = i then some (.dead (.arr m e)) else s.obj i := by
  intro i
  rw [show S.obj { s with loc := (j, .box x') :: (k, .dead (.arr m e)) :: s.loc } i = S.obj { ({ s with loc := (k, .dead (.arr m e)) :: s.loc } : S) with loc := (j, .box x') :: (k, .dead (.arr m e)) :: s.loc } i from rfl, Q9 ({ s with loc := (k, .dead (.arr m e)) :: s.loc } : S), Q9 s]
 have hdead : ∀ i, s.c8 i = true → S.c8 { s with loc := (j, .box x') :: (k, .dead (.arr m e)) :: s.loc } i = true := by
  intro i hi
  unfold S.c8
  rw [hobj]
  by_cases h1 : j = i
  ·subst h1; unfold S.c8 at hi; rw [hj] at hi; cases hi
  ·rw [if_neg h1]
   by_cases h2 : k = i
   ·rw [if_pos h2]; rfl
   ·rw [if_neg h2]; exact hi
 have hdk' : S.c8 { s with loc := (j, .box x') :: (k, .dead (.arr m e)) :: s.loc } k = true := by
  unfold S.c8; rw [hobj, if_neg (fun h => hkj h.symm), if_pos rfl]; rfl
 refine ⟨?_, hpr, ⟨Hp.le_refl _, rfl, fun _ _ => rfl, fun i y h => hιk _ _ h, rfl, rfl, fun _ _ h => h, fun i h => by
  have : Key.g i ≠ j := fun e => hkl i e.symm
  simpa [G.c6, q1q, this] using h⟩⟩
 refine c.change hpr rfl rfl rfl hoo (fun b' l h => ?_) (fun b' h => hsame b' (fun e => by subst e; exact h hZ)) (fun b' o sz h => ?_) (fun i o h => ?_) (fun i h h' => by
  have : i ≠ j := fun e => by subst e; exact h' hj
  simpa [G.c6, q1q, this] using h) (fun i h => ?_) (fun b' sz h => ?_) (fun i i' b' τ1 τ2 h1 h2 => ?_) c.tok c.tdom hmono
 ·have h' : Γ.H b' = some l := h
  rw [hsame b' (fun e => by subst e; rw [hH] at h'; cases h')]; exact c.hH b' l h'
 ·obtain ⟨a1, a2, a3⟩ := c.hκ b' o sz h
  rw [hsame b' (fun e => by subst e; exact a2 hH)]; exact ⟨a1, a2, a3⟩
 ·rw [hobj] at h
  by_cases e1 : j = i
  ·rw [if_pos e1] at h; subst e1; cases h
   exact .inr ⟨b, cells', T, by rw [ht]; simp [G.c6, q1q], hH, hZ, hnew, hsz, (z6.b5 (hm := none) hpr trivial _ hx).Y6, hp, hns⟩
  ·rw [if_neg e1] at h
   by_cases e2 : k = i
   ·rw [if_pos e2] at h; subst e2; cases h
    exact .inr ⟨b, hιk _ _ hι, by omega⟩
   ·rw [if_neg e2] at h
    refine .inl ⟨h, fun hd => ⟨fun _ _ _ _ => ⟨rfl, rfl⟩, fun b' τ' hb => ?_⟩⟩
    obtain ⟨a1, a2, a3, _⟩ := c.q0R hb h hd
    refine ⟨hsame b' (fun e' => ?_), a1⟩
    subst e'
    exact e2 (c.x15 hι hb hdk (by rw [Y9 h]; exact hd))
 ·rw [hobj]
  by_cases e1 : j = i
  ·rw [if_pos e1]; simp
  ·rw [if_neg e1]
   by_cases e2 : k = i
   ·rw [if_pos e2]; simp
   ·rw [if_neg e2]
    refine c.dom i ?_
    have : i ≠ j := fun h => e1 h.symm
    simpa [G.c6, q1q, this] using h
 ·obtain ⟨arr, T1, fr, a1, a2⟩ := c.hσ b' sz h
  by_cases e : b' = b
  ·subst e
   exact ⟨cells', T, (0, 0), hnew, by rw [hcs _ _ _ a1]; exact a2⟩
  ·exact ⟨arr, T1, fr, by rw [hsame b' e]; exact a1, a2⟩
 ·have key : ∀ i b' τ', (Γ.c6 j b (.arr m' e)).ι i = some (b', τ') → (i = j ∧ b' = b ∧ τ' = .arr m' e) ∨ (i ≠ j ∧ Γ.ι i = some (b', τ')) := by
   intro i b' τ' h
   by_cases hij : i = j
   ·left; simp [G.c6, q1q, hij] at h; exact ⟨hij, h.1.symm, h.2.symm⟩
   ·right; exact ⟨hij, by simpa [G.c6, q1q, hij] using h⟩
  have old : ∀ i τ', Γ.ι i = some (b, τ') → S.c8 { s with loc := (j, .box x') :: (k, .dead (.arr m e)) :: s.loc } i = true ∧ τ'.z3S = true := by
   intro i τ' h
   rcases c.inj i k b _ _ h hι with rfl | ⟨h1 | h1, h2, _⟩
   ·rw [hι] at h; cases h; exact ⟨hdk', rfl⟩
   ·exact ⟨hdead i h1, h2⟩
   ·rw [hdk] at h1; cases h1
  rcases key i b' τ1 h1 with ⟨e1, e2, e3⟩ | ⟨e1, e2⟩ <;> rcases key i' b' τ2 h2 with ⟨f1, f2, f3⟩ | ⟨f1, f2⟩
  ·exact .inl (by rw [e1, f1])
  ·subst e2; obtain ⟨g1, g2⟩ := old i' τ2 f2; exact .inr ⟨.inr g1, by rw [e3]; rfl, g2⟩
  ·subst f2; obtain ⟨g1, g2⟩ := old i τ1 e2; exact .inr ⟨.inl g1, g2, by rw [f3]; rfl⟩
  ·exact (c.inj _ _ _ _ _ e2 f2).imp id (And.imp (Or.imp (hdead _) (hdead _)) id)
end
end Go.E
namespace Go.E
open Go
section
variable {P : Program} {Γ : G} {w w' : World} {s : S}
theorem y4d (hP : v9 P = true) (c : y9 Γ w s) {o : Oper} {a : Act} {x y : Operand} {t t' : TypeId} {d : Nat} {k : Key} {n M : Nat} {cc : C} {Y : V} {ys : List C} {eb : Nat} {e : Ty} (ho : q8b o x y t t')
  (ht : ty P t = .slice eb e) (hz : Y0 P (w8 P t) = true) (hd : s.obj (.l d) = none) (hobj : s.obj k = some (.box (.d (.arr M e) cc)))
  (hx : z7 Γ (.sr k [] 0 n none eb e) (a.eval x)) (hy : z7 Γ Y (a.eval y)) (hel : q9V P s t' eb e Y ys) (hne : ys ≠ []) (hlen : (n + ys.length) * eb ≤ 140737488355328) (hlen2 : n + ys.length ≤ maxLen) :
  o8 P o a w (j4 Γ w { s with loc := (.l d, .box (.d (.arr (n + ys.length) e) (.agg (cc.elems.take n ++ ys)))) :: (k, .dead (.arr M e)) :: s.loc } (.sr (.l d) [] 0 (n + ys.length) none eb e)) := by
 obtain ⟨hu, he, heb, hE⟩ := q27 hP ht
 obtain ⟨m, news, hs, r1, r2, r3, r4⟩ := z2B c hy hel
 have hcs0 : X5 s (.sr k [] 0 n none eb e) = some (eb, e, cc.elems.take n) := by simp [X5, hobj, V.at]
 obtain ⟨n', olds, hso, o1, o2, o3, o4⟩ := z9M (P := P) (tx := t) c hx hcs0 hu
 have hlc : (cc.elems.take n).length = n := by
  rcases q1o hx with ⟨_, rfl, _⟩ | ⟨b, τ0, o0, M', cap, aa, a1, a2, a3, _⟩
  ·simp
  ·obtain ⟨b', cells, T, g1, g2, g3, g4, g5, g6, g7, _⟩ := c.own a1 hobj
   rw [a1] at g1; cases g1
   simp only [V.ty, Ty.walk, Option.some.injEq, Prod.mk.injEq, Ty.arr.injEq] at a2
   obtain ⟨rfl, rfl, _⟩ := a2
   simp only [V.ty, z6, z9] at g6
   obtain ⟨cs, rfl, q1, _⟩ := g6
   simp only [C.elems, List.length_take]; omega
 have hn : n' = n := by rw [← o1]; exact hlc
 subst hn
 obtain ⟨i, z, hi, hzz, hzo, hzo2⟩ := q6n hz
 have hcz := q04 hzo
 have hsz : i.size = e.size := by
  have := Q1 hP 11 (w8 P t)
  rw [he, this]; simp [Program.cellsOf, hi]
 have hby : i.bytes = eb := by rw [heb]; simp [Program.bytesOf, hi]
 have hzc : z.cells.size = e.size := by
  have h1 := Q1 hP 11 (w8 P t)
  have h2 := q7N hP (w8 P t)
  rw [he, h1, ← h2, ← hcz]; simp
 rw [← hsz] at hs hso
 have hnl : news.length = m * e.size := by rw [hs.newsLen, hsz]
 have hol : olds.length = n' * e.size := by rw [hso.newsLen, hsz]
 have hm0 : m ≠ 0 := by intro h; subst h; exact hne (List.eq_nil_of_length_eq_zero r1)
 have hmx' : ((n' + m : Nat) : Int) ≤ 9223372036854775807 := by unfold maxLen at hlen2; omega
 have hbb : (n' + m) * eb ≤ 140737488355328 := by rw [← r1]; exact hlen
 have hl12 : (cc.elems.take n' ++ ys).length = n' + ys.length := by simp [o1]
 have hrepOf : ∀ {Γ' : G}, g9 Γ Γ' → ∀ olds : List Value, olds.length = n' * e.size → (∀ i c', (cc.elems.take n')[i]? = some c' → z9 Γ.H e (chunk olds (i * e.size) e.size) c') → ∀ vs : List Value, vs.length = (n' + ys.length) * e.size → vs = olds ++ news → z6 Γ' none [] (.d (.arr (n' + ys.length) e) (.agg (cc.elems.take n' ++ ys))) vs := by
  intro Γ' hp olds hol o4 vs hvl hvs
  subst hvs
  have hall : ∀ j c', (cc.elems.take n' ++ ys)[j]? = some c' → z9 Γ'.H e (chunk (olds ++ news) (j * e.size) e.size) c' := by
   intro j c' hj
   have := z2o (H := Γ'.H) (rest := []) o1 r1 hol hnl (fun i c' hi => (o4 i c' hi).mono hp.H) (fun i c' hi => (r4 i c' hi).mono hp.H) j c' hj
   simpa using this
  simp only [z6, z9]
  exact ⟨_, rfl, hl12, hvl, q2Y hl12 hvl hall, hall⟩
 have hkd : k ≠ .l d := fun h => by rw [h, hd] at hobj; cases hobj
 have newb : ∀ (aa : Option Addr) (cap : Nat), a.eval x = .slice aa n' cap → cap ≤ maxLen → ¬ n' + m ≤ cap → o8 P o a w (j4 Γ w { s with loc := (.l d, .box (.d (.arr (n' + ys.length) e) (.agg (cc.elems.take n' ++ ys)))) :: (k, .dead (.arr M e)) :: s.loc } (.sr (.l d) [] 0 (n' + ys.length) none eb e)) := by
  intro aa cap hv a6 hroom
  have hge := grownCap_ge w (n' + m) cap (w8 P t)
  have hcm := grownCap_le_maxLen w (n' + m) cap (w8 P t) (by omega)
  have hold' : (Builtin.firstCells i.size n' (.slice aa n' cap)).run P w.drew = .ok olds.toArray w.drew := by rw [← hv]; exact hso.cellsD
  have run := run_append_grow_src (P := P) w t t' o.type _ i z hu hi hzz aa n' cap olds hold' (a.eval y) m news hs (by omega) hmx' (by
   rw [hby]; exact growslice_fits (by omega) hbb)
  rw [← hv] at run
  have hext : Ext w (w.drew.alloc (.cells ((olds ++ news).toArray ++ Builtin.zeroCells z.cells (grownCap w (n' + m) cap (w8 P t) - (n' + m))) (w8 P t))) := (Ext.drew w).trans (Ext.alloc _ _)
  have hnew := heap_alloc_new w.drew (.cells ((olds ++ news).toArray ++ Builtin.zeroCells z.cells (grownCap w (n' + m) cap (w8 P t) - (n' + m))) (w8 P t))
  have hsize : ((olds ++ news).toArray ++ Builtin.zeroCells z.cells (grownCap w (n' + m) cap (w8 P t) - (n' + m))).size = grownCap w (n' + m) cap (w8 P t) * e.size := by
   simp only [Array.size_append, List.size_toArray, List.length_append, size_zeroCells, hzc, hnl, hol, ← Nat.add_mul]
   congr 1; omega
  have hll : (olds ++ news).length = (n' + ys.length) * e.size := by rw [List.length_append, hol, hnl, Nat.add_mul, r1]
  have hchunk : chunk ((olds ++ news).toArray ++ Builtin.zeroCells z.cells (grownCap w (n' + m) cap (w8 P t) - (n' + m))).toList 0 ((n' + ys.length) * e.size) = olds ++ news := by
   unfold chunk
   rw [List.drop_zero, Array.toList_append, List.toList_toArray]
   exact List.take_left' hll
  have ck := c.kill hobj
  obtain ⟨h1, h2, h3⟩ := ck.c6 (k := .l d) (by rw [Q9, if_neg hkd]; exact hd) hext (τ := .arr (n' + ys.length) e) (o := .box (.d (.arr (n' + ys.length) e) (.agg (cc.elems.take n' ++ ys)))) fun Γ' hpr _ hι hH hZ =>
   ⟨_, _, w8 P t, hι, hH, hZ, hnew, by simp only [V.ty, Ty.size]; rw [hsize, r1]; exact Nat.mul_le_mul_right _ hge, by
    simp only [V.ty, Ty.size]
    rw [hchunk]
    exact (hrepOf hpr _ hol o4 _ hll rfl).Y6, rfl, rfl⟩
  obtain ⟨k1, k2, k3⟩ := h1.q9D (show _ = _ from hnew)
  refine o8.val (q19 ho run) ⟨_, h3.trans k3, h2.trans k2, k1, (s6 rfl rfl).2 ⟨?_, rfl⟩⟩
  simp only [z6]
  refine .inr ⟨w.heap.size, .arr (n' + ys.length) e, 0, n' + ys.length, grownCap w (n' + m) cap (w8 P t), by simp [G.q9D, G.c6, q1q], rfl, by omega, ⟨some ⟨w.heap.size, 0, none⟩, by rw [r1], .inr (by simp)⟩, by rw [r1]; exact hge, hcm, hlen, (fun c h => by cases h), fun _ => .inr ⟨_, j5 _ _ _, ?_⟩⟩
  rw [hsize, Nat.zero_add, Nat.zero_add]; exact Nat.le_refl _
 rcases q1o hx with ⟨_, h0, aa, hv⟩ | ⟨b, τ0, o0, M', cap, aa, a1, a2, a3, hv, a4, a5, a6, a7, _, a9⟩
 ·subst h0; exact newb aa 0 hv (Nat.zero_le _) (by omega)
 obtain ⟨b', cells, T, g1, g2, g3, g4, g5, g6, g7, _⟩ := c.own a1 hobj
 rw [a1] at g1; cases g1
 simp only [V.ty, Ty.walk, Option.some.injEq, Prod.mk.injEq, Ty.arr.injEq] at a2
 obtain ⟨rfl, rfl, _⟩ := a2
 simp only [V.ty, z6, z9] at g6
 obtain ⟨cs, rfl, q1, q2, q3, q4⟩ := g6
 simp only [C.elems] at *
 by_cases hroom : n' + m ≤ cap
 ·-- in the room behind
  have haa : aa = some ⟨b, 0, none⟩ := by
   rcases a4 with a4 | a4
   ·omega
   ·rw [a4]; simp
  subst haa
  obtain ⟨sz, s1, s2⟩ : ∃ sz, Γ.σ b = some sz ∧ 0 + (0 + cap) * e.size ≤ sz := by
   rcases a9 trivial with a9 | a9
   ·omega
   ·exact a9
  obtain ⟨arr, T', fr, s3, s4⟩ := c.hσ b sz s1
  rw [g4] at s3; cases s3
  have hfit : n' * e.size + m * e.size ≤ cells.size := by
   rw [s4, ← Nat.add_mul]
   rw [Nat.zero_add, Nat.zero_add] at s2
   exact Nat.le_trans (Nat.mul_le_mul_right _ hroom) s2
  have run := run_append_room_src (P := P) w t t' o.type _ i hu hi b 0 n' cap (a.eval y) m news hs hroom
   (fun j hj => by
    rw [hnl] at hj
    simp [World.cell?, g4]
    rw [hsz]; omega)
   (fun j hj => by simp [World.frozen?, g4])
  rw [← hv] at run
  rw [Nat.zero_add, hsz] at run
  obtain ⟨arr', hw', harr'⟩ := q9o b news (n' * e.size) w cells T (0, 0) g4 (by rw [hnl]; exact hfit)
  have hsz' : arr'.size = cells.size := by rw [← Array.length_toList, ← Array.length_toList, harr', W0 (by rw [hnl]; simpa using hfit)]
  have hMl : n' * e.size ≤ M * e.size := Nat.mul_le_mul_right _ (by omega)
  have hMc : M * e.size ≤ cells.size := g5
  have hol2 : (chunk cells.toList 0 (n' * e.size)).length = n' * e.size := g8 _ _ _ (by simp; omega)
  have o42 : ∀ i c', (cs.take n')[i]? = some c' → z9 Γ.H e (chunk (chunk cells.toList 0 (n' * e.size)) (i * e.size) e.size) c' := by
   intro i c' hi
   rw [List.getElem?_take] at hi
   split at hi
   ·rename_i hin
    have := q4 i c' hi
    have hle : (i + 1) * e.size ≤ n' * e.size := Nat.mul_le_mul_right _ hin
    rw [Nat.add_mul] at hle
    simp only [Ty.size] at this
    rw [Q8 _ _ _ _ _ (by omega)] at this
    rw [Q8 _ _ _ _ _ (by omega)]
    exact this
   ·cases hi
  have hll : (chunk cells.toList 0 (n' * e.size) ++ news).length = (n' + ys.length) * e.size := by rw [List.length_append, hol2, hnl, Nat.add_mul, r1]
  have hchunk : chunk arr'.toList 0 ((n' + ys.length) * e.size) = chunk cells.toList 0 (n' * e.size) ++ news := by
   rw [harr']
   unfold chunk r8
   rw [List.drop_zero, List.drop_zero]
   refine List.take_left' ?_
   rw [List.length_append, hnl, List.length_take, Nat.add_mul, r1]
   simp; omega
  obtain ⟨h1, h2, h3⟩ := c.x0b (w' := w.setCells b (n' * e.size) news) (j := .l d) (x' := .d (.arr (n' + ys.length) e) (.agg (cs.take n' ++ ys))) hobj rfl a1 hd hw'
   (fun b' hb' => q7P b news _ w b' hb') (by unfold oof; rw [World.os_setCells, World.output_setCells]) rfl
   (by simp only [V.ty, Ty.size]; rw [hsz', Nat.add_mul, r1]; exact hfit) (by
    simp only [V.ty, Ty.size]; rw [hchunk]; exact hrepOf (g9.refl Γ) _ hol2 o42 _ hll rfl) rfl rfl (fun arr T fr h => by rw [g4] at h; cases h; exact hsz')
  refine o8.val (q19 ho run) ⟨_, h3, h2, h1, (s6 rfl rfl).2 ⟨?_, rfl⟩⟩
  simp only [z6]
  refine .inr ⟨b, .arr (n' + ys.length) e, 0, n' + ys.length, cap, by simp [G.c6, q1q], rfl, by omega, ⟨some ⟨b, 0, none⟩, by rw [r1], .inr (by simp)⟩, by rw [r1]; exact hroom, a6, hlen, (fun c h => by cases h), fun _ => .inr ⟨sz, s1, ?_⟩⟩
  exact s2
 ·exact newb aa cap hv a6 hroom
end
end Go.E
namespace Go.E
open Go
section
variable {P : Program} {Γ : G} {w w' : World} {s : S}
theorem q4P (a : Addr) : ∀ (n i : Nat) (acc arr : Array Value) (w' : World), (loadCellsFrom a i n acc).run P w = .ok arr w' → ∀ k, k ≤ n →
  ∃ l r : List Value, arr = acc ++ (l ++ r).toArray ∧ l.length = k ∧ (loadCellsFrom a i k acc).run P w = .ok (acc ++ l.toArray) w
 | 0, i, acc, arr, w', h, k, hk => by
  have : k = 0 := by omega
  subst this
  simp [loadCellsFrom] at h
  exact ⟨[], [], by simp [h.1], rfl, by simp [loadCellsFrom]⟩
 | n + 1, i, acc, arr, w', h, k, hk => by
  have step : ∀ (m : Nat), (loadCellsFrom a i (m + 1) acc).run P w = ((load (a.add i)).run P w).andThen fun v w1 => (loadCellsFrom a (i + 1) m (acc.push v)).run P w1 := by
   intro m
   conv => lhs; unfold loadCellsFrom
   rw [Sem.run_bind]
  rw [step] at h
  have hl : ∃ v, (load (a.add i)).run P w = .ok v w := by
   rw [run_load] at h ⊢
   cases hc : w.cell? (a.add i) with
   | some v => exact ⟨v, rfl⟩
   | none =>
    rw [hc] at h
    dsimp only at h ⊢
    cases hf : w.farLoad P (a.add i) (Mode.plain == .atomic) with
    | ok x => obtain ⟨v, y⟩ := x; exact ⟨v, rfl⟩
    | error e => rw [hf] at h; cases h
  obtain ⟨v, hv⟩ := hl
  rw [hv] at h
  simp only [Result.andThen_ok] at h
  cases k with
  | zero =>
   obtain ⟨l, r, h1, h2, _⟩ := q4P a n (i + 1) (acc.push v) arr w' h 0 (Nat.zero_le _)
   have : l = [] := List.eq_nil_of_length_eq_zero h2
   subst this
   exact ⟨[], v :: r, by simp [h1], rfl, by simp [loadCellsFrom]⟩
  | succ k =>
   obtain ⟨l, r, h1, h2, h3⟩ := q4P a n (i + 1) (acc.push v) arr w' h k (by omega)
   refine ⟨v :: l, r, by simp [h1], by simp [h2], ?_⟩
   rw [step, hv]
   simp only [Result.andThen_ok, h3]
   simp
theorem y0H {sz n k : Nat} {x : Value} {news : List Value} (h : (Builtin.firstCells sz n x).run P w = .ok news.toArray w) (hl : news.length = n * sz) (hk : k ≤ n) (hlen : ∀ s, x = .string s → n ≤ s.size ∧ sz = 1) : (Builtin.firstCells sz k x).run P w = .ok (news.take (k * sz)).toArray w := by
 cases x <;> (try (simp [Builtin.firstCells] at h; done))
 case slice a len cap =>
  cases a with
  | none =>
   simp only [Builtin.firstCells, Sem.run_pure, Result.ok.injEq] at h ⊢
   have : news = [] := by have := h.1; cases news <;> simp at this ⊢
   subst this
   simp
  | some ad =>
   simp only [Builtin.firstCells, loadCells] at h ⊢
   obtain ⟨l, r, h1, h2, h3⟩ := q4P ad (n * sz) 0 #[] _ _ h (k * sz) (Nat.mul_le_mul_right _ hk)
   rw [h3]
   have h1' : news = l ++ r := by simpa using h1
   simp [h1', ← h2]
 case string s =>
  obtain ⟨h1, rfl⟩ := hlen s rfl
  simp only [Builtin.firstCells, Sem.run_pure, Result.ok.injEq, and_true] at h ⊢
  have e : news = (s.extract 0 n).data.toList.map fun b => Value.int .u8 b.toNat := by
   have := congrArg Array.toList h
   simpa using this.symm
  subst e
  apply Array.toList_inj.1
  simp only [Array.toList_map, List.toList_toArray, Nat.mul_one, ← List.map_take]
  congr 1
  rw [ByteArray.data_extract, ByteArray.data_extract]
  simp [Array.toList_extract, List.extract_eq_take_drop, List.take_take, Nat.min_eq_left hk]
def q1h (cs : List C) (lo n : Nat) (ys : List C) : List C := cs.take lo ++ ys.take n ++ cs.drop (lo + min ys.length n)
theorem z1o {cs : List C} {lo n : Nat} {ys : List C} (h : lo + n ≤ cs.length) : (q1h cs lo n ys).length = cs.length := by
 simp [q1h]; omega
theorem x31 (hP : v9 P = true) (c : y9 Γ w s) {o : Oper} {a : Act} {x y : Operand} {t t' : TypeId} {k : Key} {q : List Nat} {lo n cp m : Nat} {X Y : V} {cc : C} {ys : List C} {eb : Nat} {e : Ty}
  (ho : o.op = .call { callee := .builtin .copy, args := #[x, y], argTypes := #[t, t'] }) (ht : ty P t = .slice eb e)
  (hobj : s.obj k = some (.box X)) (hX : X.at q = .d (.arr m e) cc) (hd : X.ty.W9 = true) (h0 : 0 < n) (hz : Y0 P (w8 P t) = true) 
  (hx : z7 Γ (.sr k q lo n (some cp) eb e) (a.eval x)) (hy : z7 Γ Y (a.eval y)) (hel : q9V P s t' eb e Y ys) :
  o8 P o a w (j4 Γ w { s with loc := (k, .box (X.setAt q (.d (.arr m e) (.agg (q1h cc.elems lo n ys))))) :: s.loc } (.d (.int .i64) (.int (min ys.length n : Nat)))) := by
 obtain ⟨hu, he, heb, hE⟩ := q27 hP ht
 obtain ⟨m', news, hs, r1, r2, r3, r4⟩ := z2B c hy hel
 rcases q1o hx with ⟨h1, _⟩ | ⟨b, τ0, o0, M, cap, aa, a1, a2, a3, hv, a4, a5, a6, a7, a8, _⟩
 ·cases h1
 obtain ⟨b2, cells, E, e1, e2, e3, e4, e5, e6, e7, e8⟩ := c.own a1 hobj
 rw [a1] at e1
 cases e1
 obtain ⟨g1, g2, g3⟩ := e6.at_ a2 (by rw [hX]; simp) e7
 have hcl : (chunk cells.toList 0 X.ty.size).length = X.ty.size := g8 _ _ _ (by simpa using e5)
 rw [hcl] at g2
 rw [hX] at g1 g3
 simp only [V.ty, Ty.arr.injEq] at g1
 obtain ⟨rfl, _⟩ := g1
 rw [Q8 _ _ _ _ _ g2, Nat.zero_add] at g3
 simp only [z6, z9] at g3
 obtain ⟨cs, rfl, q1, q2, q3, q4⟩ := g3
 simp only [C.elems, Ty.size] at *
 obtain ⟨i, z, hi, hzz, hzo, hzo2⟩ := q6n hz
 have hsz : i.size = e.size := by
  have := Q1 hP 11 (w8 P t)
  rw [he, this]; simp [Program.cellsOf, hi]
 have haa : aa = some ⟨b, o0 + lo * e.size, none⟩ := by
  rcases a4 with a4 | a4
  ·omega
  ·exact a4
 subst haa
 have hnl : news.length = m' * e.size := hs.newsLen
 have hk1 : min m' n ≤ m' := Nat.min_le_left _ _
 have hk2 : min m' n ≤ n := Nat.min_le_right _ _
 have hft := y0H (k := min m' n) hs.cells hnl hk1 (fun st hst => by
  rcases hel with ⟨_, h2 | ⟨rfl, _⟩⟩ | ⟨_, hYs, h3, h4, h5⟩
  ·-- a slice is no string
   exfalso
   obtain ⟨_, _, _, h6⟩ := z2C hy h2
   rw [hst] at h6; cases h6
  ·rw [W6 hy] at hst; cases hst
  ·obtain ⟨c0, rfl⟩ := V.q6j hYs
   obtain ⟨h6, _, h7⟩ := q1s hy
   rw [h6] at hst; cases hst
   have : m' = c0.toStr.length := by rw [← r1, h5]; simp [V.toStr]
   refine ⟨by rw [this]; simp [ByteArray.size], by rw [h3]; rfl⟩)
 have htl : (news.take (min m' n * e.size)).length = min m' n * e.size := by
  have := Nat.mul_le_mul_right e.size hk1
  simp; omega
 have hMs : (lo + n) * e.size ≤ m * e.size := Nat.mul_le_mul_right _ a3
 have hks : min m' n * e.size ≤ n * e.size := Nat.mul_le_mul_right _ hk2
 rw [Nat.add_mul] at hMs
 have hfit : o0 + lo * e.size + 0 + (news.take (min m' n * e.size)).length ≤ cells.size := by rw [htl]; omega
 have hst := run_storeCells_at (P := P) b (o0 + lo * e.size) E (news.take (min m' n * e.size)) 0 cells w e4 hfit (fun v hv => hs.one v (List.mem_of_mem_take hv))
 have hrun : (Builtin.copy_ #[t, t'] o.type #[.slice (some ⟨b, o0 + lo * e.size, none⟩) n cap, a.eval y]).run P w = .ok (goInt ((min m' n : Nat) : Int)) (w.setRow b (r8 cells.toList (o0 + lo * e.size) (news.take (min m' n * e.size))).toArray) := by
  simp only [Nat.add_zero] at hst
  simp [Builtin.copy_, run_underlying hu, hs.len, sizeOf, typeInfo, hi, hsz, hft, hst, r8]
  try (exact congrArg goInt (by rw [show m'.min n = min m' n from rfl]; omega))
 -- the array anew
 have hl0 : o0 + lo * e.size + (news.take (min m' n * e.size)).length ≤ cells.toList.length := by rw [htl]; simp; omega
 have hs2 : (r8 cells.toList (o0 + lo * e.size) (news.take (min m' n * e.size))).toArray.size = cells.size := by simp only [List.size_toArray, W0 hl0]; simp
 have hnew : chunk (r8 cells.toList (o0 + lo * e.size) (news.take (min m' n * e.size))) o0 (m * e.size) = r8 (chunk cells.toList o0 (m * e.size)) (lo * e.size) (news.take (min m' n * e.size)) :=
  y07 (by simp; omega) (by rw [htl]; omega) rfl
 have hsl : (r8 (chunk cells.toList o0 (m * e.size)) (lo * e.size) (news.take (min m' n * e.size))).length = m * e.size := by
  rw [W0 (by rw [q2, htl]; omega), q2]
 have hcs : (q1h cs lo n ys).length = m := by rw [z1o (by omega), q1]
 have helem : ∀ j c', (q1h cs lo n ys)[j]? = some c' → z9 Γ.H e (chunk (r8 (chunk cells.toList o0 (m * e.size)) (lo * e.size) (news.take (min m' n * e.size))) (j * e.size) e.size) c' := by
  intro j c' hj
  have hjl : j < m := by rw [← hcs]; exact (List.getElem?_eq_some_iff.1 hj).1
  have hjm : (j + 1) * e.size ≤ m * e.size := Nat.mul_le_mul_right _ hjl
  rw [Nat.add_mul] at hjm
  have hlo : lo ≤ cs.length := by omega
  unfold q1h at hj
  by_cases h1 : j < lo
  ·rw [List.append_assoc, List.getElem?_append_left (by simp; omega), List.getElem?_take, if_pos h1] at hj
   have hjlo : (j + 1) * e.size ≤ lo * e.size := Nat.mul_le_mul_right _ h1
   rw [Nat.add_mul] at hjlo
   rw [q0Q (by rw [q2, htl]; omega) (.inl (by omega))]
   exact q4 j c' hj
  ·by_cases h2 : j < lo + min ys.length n
   ·rw [List.append_assoc, List.getElem?_append_right (by simp; omega), List.getElem?_append_left (by simp; omega)] at hj
    simp only [List.length_take, Nat.min_eq_left hlo] at hj
    rw [List.getElem?_take] at hj
    split at hj
    ·rename_i hjn
     have h3 := r4 _ _ hj
     have hjk : j - lo < min m' n := by rw [r1] at h2; omega
     have hjk2 : (j - lo + 1) * e.size ≤ min m' n * e.size := Nat.mul_le_mul_right _ hjk
     rw [Nat.add_mul] at hjk2
     have e9 : j * e.size = lo * e.size + (j - lo) * e.size := by rw [← Nat.add_mul]; congr 1; omega
     have e10 : chunk (r8 (chunk cells.toList o0 (m * e.size)) (lo * e.size) (news.take (min m' n * e.size))) (j * e.size) e.size = chunk news ((j - lo) * e.size) e.size := by
      apply List.ext_getElem?
      intro u
      rw [p8, p8]
      split
      ·rename_i hu2
       rw [X7 (by rw [q2, htl]; omega), if_pos (by rw [htl]; omega), List.getElem?_take, if_pos (by omega)]
       congr 1; omega
      ·rfl
     rw [e10]; exact h3
    ·cases hj
   ·rw [List.getElem?_append_right (by simp; omega), List.getElem?_drop] at hj
    simp only [List.length_append, List.length_take, Nat.min_eq_left hlo] at hj
    have hj2 : cs[j]? = some c' := by
     rw [← hj]; congr 1
     have : min n ys.length = min ys.length n := Nat.min_comm _ _
     omega
    have h5 : min m' n * e.size + lo * e.size ≤ j * e.size := by
     rw [← Nat.add_mul]
     refine Nat.mul_le_mul_right _ ?_
     rw [r1] at h2; omega
    rw [q0Q (by rw [q2, htl]; omega) (.inr (by rw [htl]; omega))]
    exact q4 j c' hj2
 have hY : z6 Γ (some k) q (.d (.arr m e) (.agg (q1h cs lo n ys))) (r8 (chunk cells.toList o0 (m * e.size)) (lo * e.size) (news.take (min m' n * e.size))) := by
  simp only [z6, z9]
  exact ⟨_, rfl, hcs, hsl, q2Y hcs hsl helem, helem⟩
 obtain ⟨s1, s2, s3⟩ := z6.setAt (q := q) (p := []) (y := .d (.arr m e) (.agg (q1h cs lo n ys))) e6 e7 hd a2 (by rw [hX]; simp) (by simpa using hY) rfl
 have hsp : r8 cells.toList (o0 + lo * e.size) (news.take (min m' n * e.size)) = r8 cells.toList o0 (r8 (chunk cells.toList o0 (m * e.size)) (lo * e.size) (news.take (min m' n * e.size))) := by
  apply List.ext_getElem?
  intro u
  rw [X7 hl0, X7 (by rw [hsl]; simp; omega), hsl, htl]
  by_cases hu1 : o0 ≤ u ∧ u < o0 + m * e.size
  ·rw [if_pos hu1, X7 (by rw [q2, htl]; omega), htl]
   by_cases hu2 : o0 + lo * e.size ≤ u ∧ u < o0 + lo * e.size + min m' n * e.size
   ·rw [if_pos hu2, if_pos (by omega)]; congr 1; omega
   ·rw [if_neg hu2, if_neg (by omega), p8, if_pos (by omega)]; congr 1; omega
  ·rw [if_neg hu1, if_neg (by omega)]
 have c' := c.write (x' := X.setAt q (.d (.arr m e) (.agg (q1h cs lo n ys)))) (cells' := (r8 cells.toList (o0 + lo * e.size) (news.take (min m' n * e.size))).toArray) (w' := w.setRow b (r8 cells.toList (o0 + lo * e.size) (news.take (min m' n * e.size))).toArray) hobj a1
  (setRow_heap w b cells _ E (0, 0) e4) (fun b' hb' => setRow_other w b b' _ hb') rfl (by rw [s2, hs2]; exact e5)
  (by rw [s2, List.toList_toArray, hsp, z4i _ _ (by rw [hsl]; exact g2) (by simpa using e5)]; exact s1) s2 s3 (V.q9Z q X _ e8 rfl) (fun arr T fr h => by rw [e4] at h; cases h; exact hs2)
 refine o8.val (v := goInt ((min m' n : Nat) : Int)) (w' := w.setRow b (r8 cells.toList (o0 + lo * e.size) (news.take (min m' n * e.size))).toArray) ?_ ⟨_, GLe.refl _, g9.refl _, c', ?_⟩
 ·unfold execOp
  simp [ho, resolve, invoke, builtin, hv, hrun]
 ·rw [r1]
  show z7 _ _ (.int .i64 ((min m' n : Nat) : Int))
  exact k7 (by have e1 : IntKind.i64.min = -9223372036854775808 := by decide
               omega) (by have e1 : IntKind.i64.max = 9223372036854775807 := by decide
                          unfold maxLen at r2; omega)
end
end Go.E
namespace Go.E
open Go
section
variable {Γ : G} {w : World} {s : S}
theorem y9.freeze (c : y9 Γ w s) {b : Nat} {cells : Array Value} {T : TypeId} {fr : Nat × Nat} (hw : w.heap[b]? = some (.cells cells T fr)) (hH : Γ.H b = none) (hι : ∀ k τ o, Γ.ι k = some (b, τ) → s.obj k = some o → o.q0c = true) :
  y9 (Γ.q12 b cells.toList) w s ∧ g9 Γ (Γ.q12 b cells.toList) ∧ Γ.H.le (Γ.q12 b cells.toList).H := by
 have oH : ∀ b', b' ≠ b → (Γ.q12 b cells.toList).H b' = Γ.H b' := fun b' hb => U8 _ _ hb
 have nb : ∀ b', Γ.H b' ≠ none → b' ≠ b := fun b' h e => h (e ▸ hH)
 have hle : Γ.H.le (Γ.q12 b cells.toList).H := fun b' l' h => ⟨[], by rw [oH b' (nb b' (by rw [h]; simp)), h]; simp⟩
 have hp : g9 Γ (Γ.q12 b cells.toList) := ⟨hle, fun _ _ h => h, fun t x L h => ⟨x, L, h, Nat.le_refl _, fun _ => rfl⟩, fun _ _ h => h⟩
 refine ⟨?_, hp, hle⟩
 refine c.change hp rfl rfl rfl rfl (fun b' l' h => ?_) (fun _ _ => rfl) (fun b' o sz h => ?_) (fun k o h => ?_) (fun _ h _ => h) c.dom c.hσ c.inj (fun t L h => ?_) c.tdom (Nat.le_refl _)
 ·by_cases hb : b' = b
  ·subst hb
   simp [G.q12, Z1] at h; subst h
   exact ⟨cells, T, fr, [], hw, by simp⟩
  ·rw [oH b' hb] at h
   exact c.hH b' l' h
 ·have h' : Γ.κ b' = some (o, sz) := h
  obtain ⟨a1, a2, a3⟩ := c.hκ b' o sz h'
  exact ⟨a1, by rw [oH b' (nb b' a2)]; exact a2, a3⟩
 ·refine .inl ⟨h, fun hd => ⟨fun b' p sz hb => ⟨rfl, ?_⟩, fun b' τ hb => ⟨rfl, ?_⟩⟩⟩
  ·exact oH b' (nb b' (c.hκ b' _ sz hb).2.1)
  ·obtain ⟨a1, _⟩ := c.q0R hb h hd
   rw [oH b' (fun e => by have := hι k τ o (e ▸ hb) h; rw [this] at hd; cases hd)]; exact a1
 ·obtain ⟨x, h1, h2⟩ := c.tok t L h
  refine ⟨x, h1, fun b' pos sz hx => ?_⟩
  obtain ⟨⟨l, a1, a2⟩, a3⟩ := h2 b' pos sz hx
  exact ⟨⟨l, by rw [oH b' (nb b' (by rw [a1]; simp))]; exact a1, a2⟩, a3⟩
theorem y9.x5C (c : y9 Γ w s) {k : Key} {M : Nat} {e : Ty} {cc : C} (ho : s.obj k = some (.box (.d (.arr M e) cc))) :
  ∃ Γ', GLe Γ Γ' ∧ g9 Γ Γ' ∧ y9 Γ' w { s with loc := (k, .dead (.arr M e)) :: s.loc } ∧
   ∀ {lo n : Nat} {cp : Option Nat} {eb : Nat} {v : Value}, z7 Γ (.sr k [] lo n cp eb e) v → z7 Γ' (.d (.slice eb e) (.slice ((cc.elems.drop lo).take n))) v := by
 have ck := c.kill ho
 have nul : ∀ {Γ' : G} {lo n : Nat} {cp : Option Nat} {eb : Nat} {v : Value}, (cp = none ∧ n = 0 ∧ ∃ a, v = .slice a 0 0) → z7 Γ' (.d (.slice eb e) (.slice ((cc.elems.drop lo).take n))) v := by
  intro Γ' lo n cp eb v h
  obtain ⟨_, rfl, a, rfl⟩ := h
  refine (s6 rfl rfl).2 ⟨?_, rfl⟩
  simp only [z6]
  exact o9 (by simp) (Nat.le_refl _) (Nat.zero_le _) (by rw [Nat.zero_mul]; exact Nat.zero_le _) (.inl rfl)
 rcases c.obj k _ ho with ⟨hn, _⟩ | hown
 ·refine ⟨Γ, .refl Γ, .refl Γ, ck, fun hr => ?_⟩
  rcases q1o hr with h | ⟨b, τ0, o, m, cap, a, h1, _⟩
  ·exact nul h
  ·rw [hn] at h1; cases h1
 ·obtain ⟨b, cells, T, h1, h2, h3, h4, h5, h6, h7, h8⟩ := hown
  have hdk : s.c8 k = false := by rw [Y9 ho]; rfl
  obtain ⟨q1, q2, q3⟩ := ck.freeze h4 h2 (fun k' τ o hk' ho' => by
   rcases c.inj k' k b _ _ hk' h1 with e1 | ⟨e1 | e1, _⟩
   ·subst e1
    rw [Q9, if_pos rfl] at ho'; cases ho'; rfl
   ·rw [Q9] at ho'
    split at ho'
    ·cases ho'; rfl
    ·rw [Y9 ho'] at e1; exact e1
   ·rw [hdk] at e1; cases e1)
  refine ⟨_, ⟨q3, rfl, fun b' hb' => U8 _ _ fun e => (by subst e; exact hb' h3), fun _ _ h => h, rfl, rfl, fun _ _ h => h, fun _ h => h⟩, q2, q1, fun {lo n cp eb v} hr => ?_⟩
  rcases q1o hr with h | ⟨b', τ0, o, m, cap, a, a1, a2, a3, hv, a4, a5, a6, a7, _, _⟩
  ·exact nul h
  rw [h1] at a1; cases a1
  simp only [V.ty, Ty.walk, Option.some.injEq, Prod.mk.injEq, Ty.arr.injEq] at a2
  obtain ⟨rfl, rfl, _⟩ := a2
  simp only [V.ty, z6, z9] at h6
  obtain ⟨cs, rfl, r1, r2, r3, r4⟩ := h6
  simp only [C.elems, Ty.size] at *
  have hl : ((cs.drop lo).take n).length = n := by simp; omega
  have hmul : (lo + n) * e.size ≤ M * e.size := Nat.mul_le_mul_right _ a3
  rw [Nat.add_mul] at hmul
  subst hv
  refine (s6 rfl rfl).2 ⟨?_, rfl⟩
  simp only [z6]
  refine o9 hl a5 a6 a7 ?_
  by_cases hn : n = 0
  ·exact .inl hn
  ·refine .inr ⟨b, lo * e.size, cells.toList, ?_, j5 _ _ _, by simp; simp [V.ty, Ty.size] at h5; omega, fun i c' hi => ?_⟩
   ·rcases a4 with a4 | a4
    ·omega
    ·rw [a4, Nat.zero_add]
   ·rw [List.getElem?_take] at hi
    split at hi
    ·rename_i hin
     rw [List.getElem?_drop] at hi
     have h9 := r4 _ _ hi
     have hle : (lo + i + 1) * e.size ≤ M * e.size := Nat.mul_le_mul_right _ (by omega)
     rw [Nat.add_mul, Nat.add_mul] at hle
     rw [Nat.add_mul] at h9
     rw [Q8 _ _ _ _ _ (by omega), Nat.zero_add] at h9
     exact h9.mono q3
    ·cases hi
def U4 (s : S) (x : V) : V :=
 match x with
 | .sr (.l j) q lo n cp eb e => (match q with
  | [] => (match s.obj (.l j) with
   | some (.box (.d τ cc)) => (match τ with
    | .arr M e' => if e' = e then .d (.slice eb e) (.slice ((cc.elems.drop lo).take n)) else x
    | _ => x)
   | _ => x)
  | _ => x)
 | x => x
def q2E : V → List Nat
 | .sr (.l j) [] _ _ _ _ _ => [j]
 | _ => []
def q1H : List V → List Nat
 | [] => []
 | x :: xs => q2E x ++ q1H xs
def q0o : List Nat → S → S
 | [], s => s
 | j :: l, s => q0o l (match s.obj (.l j) with
  | some (.box (.d τ _)) => (match τ with
   | .arr M e => { s with loc := (.l j, .dead (.arr M e)) :: s.loc }
   | _ => s)
  | _ => s)
theorem y0u {s : S} {x : V} (h : ∀ j, j ∈ q2E x → False) : U4 s x = x := by
 unfold U4
 split
 ·split
  ·rename_i j _ _ _ _ _ _
   exact (h j (List.mem_singleton.2 rfl)).elim
  ·rfl
 ·rfl
theorem z3J : ∀ (js : List Nat) (s : S) {Γ : G}, y9 Γ w s → ∃ Γ', GLe Γ Γ' ∧ g9 Γ Γ' ∧ y9 Γ' w (q0o js s) ∧ ∀ (x : V) (v : Value), z7 Γ x v → (∀ j ∈ q2E x, j ∈ js) → z7 Γ' (U4 s x) v
 | [], s, Γ, c => ⟨Γ, .refl Γ, .refl Γ, c, fun x v hr hx => by rw [y0u (fun j hj => by simpa using hx j hj)]; exact hr⟩
 | j :: l, s, Γ, c => by
  have skip : (∀ x : V, q2E x = [j] → U4 s x = x) → ∃ Γ', GLe Γ Γ' ∧ g9 Γ Γ' ∧ y9 Γ' w (q0o l s) ∧ ∀ (x : V) (v : Value), z7 Γ x v → (∀ i ∈ q2E x, i ∈ j :: l) → z7 Γ' (U4 s x) v := by
   intro hs
   obtain ⟨Γ', g, p, c', h⟩ := z3J l s c
   refine ⟨Γ', g, p, c', fun x v hr hx => ?_⟩
   by_cases hj : q2E x = [j]
   ·rw [hs x hj]; exact hr.b5 p
   ·refine h x v hr fun i hi => ?_
    have := hx i hi
    simp only [List.mem_cons] at this
    rcases this with rfl | h2
    ·exfalso
     apply hj
     unfold q2E at hi ⊢
     split at hi
     ·simp at hi; subst hi; rfl
     ·simp at hi
    ·exact h2
  have inv : ∀ x : V, q2E x = [j] → ∃ lo n cp eb e, x = .sr (.l j) [] lo n cp eb e := by
   intro x hx
   unfold q2E at hx
   split at hx
   ·simp at hx; subst hx; exact ⟨_, _, _, _, _, rfl⟩
   ·cases hx
  simp only [q0o]
  split
  ·rename_i τ cc ho
   split
   ·rename_i M e
    obtain ⟨Γ1, g1, p1, c1, h1⟩ := c.x5C ho
    obtain ⟨Γ', g, p, c', h⟩ := z3J l _ c1
    refine ⟨Γ', g1.trans g, p1.trans p, c', fun x v hr hx => ?_⟩
    by_cases hj : q2E x = [j]
    ·obtain ⟨lo, n, cp, eb, e', rfl⟩ := inv x hj
     simp only [U4, ho]
     by_cases he : e = e'
     ·rw [if_pos he]; subst he
      exact (h1 hr).b5 p
     ·rw [if_neg he]
      exact hr.b5 (p1.trans p)
    ·have h2 := h x v (hr.b5 p1) fun i hi => by
      have := hx i hi
      simp only [List.mem_cons] at this
      rcases this with rfl | h2
      ·exfalso
       apply hj
       unfold q2E at hi ⊢
       split at hi
       ·simp at hi; subst hi; rfl
       ·simp at hi
      ·exact h2
     have : U4 { s with loc := (Key.l j, O.dead (.arr M e)) :: s.loc } x = U4 s x := by
      cases x <;> (try rfl)
      rename_i k q lo n cp eb e2
      cases k with
      | g k => rfl
      | l i =>
       cases q with
       | cons a q => rfl
       | nil =>
        have hij : j ≠ i := fun e => hj (by subst e; rfl)
        simp only [U4]
        rw [Q9, if_neg (by intro e; cases e; exact hij rfl)]
     rw [← this]; exact h2
   ·exact skip fun x hx => by
     obtain ⟨lo, n, cp, eb, e, rfl⟩ := inv x hx
     simp only [U4, ho]
  ·exact skip fun x hx => by
    obtain ⟨lo, n, cp, eb, e, rfl⟩ := inv x hx
    simp only [U4]
end
end Go.E
namespace Go.E
open Go
mutual
def Ty.q0e : Ty → Bool
 | .int _ | .bool | .str => true
 | .arr _ e => e.q0e
 | .struct _ _ fs => Ty.y0i fs
 | _ => false
def Ty.y0i : List Ty → Bool
 | [] => true
 | t :: ts => t.q0e && Ty.y0i ts
end
mutual
theorem z9.q0e {H H' : Hp} : ∀ {τ : Ty} {vs : List Value} {c : C}, τ.q0e = true → z9 H τ vs c → z9 H' τ vs c
 | .int _, _, _, _, r => by simpa [z9] using r
 | .bool, _, _, _, r => by simpa [z9] using r
 | .str, _, _, _, r => by simpa [z9] using r
 | .arr n e, vs, c, h, r => by
  simp only [z9] at r ⊢
  obtain ⟨cs, rfl, h1, h2, h4, h3⟩ := r
  exact ⟨cs, rfl, h1, h2, h4, fun i c hi => z9.q0e (by simpa [Ty.q0e] using h) (h3 i c hi)⟩
 | .struct sz os fs, vs, c, h, r => by
  simp only [z9] at r ⊢
  obtain ⟨cs, rfl, h1, h4, h2⟩ := r
  exact ⟨cs, rfl, h1, h4, j7.q0e (by simpa [Ty.q0e] using h) h2⟩
 | .slice _ _, _, _, h, _ | .ptr, _, _, h, _ | .map, _, _, h, _ | .func, _, _, h, _ | .iface, _, _, h, _ | .opq _, _, _, h, _ => by simp [Ty.q0e] at h
theorem j7.q0e {H H' : Hp} : ∀ {fs : List Ty} {os : List Nat} {vs : List Value} {cs : List C}, Ty.y0i fs = true → j7 H fs os vs cs → j7 H' fs os vs cs
 | [], _, _, _, _, r => by simpa [j7] using r
 | f :: fs, o :: os, vs, cs, h, r => by
  simp only [Ty.y0i, Bool.and_eq_true] at h
  simp only [j7] at r ⊢
  obtain ⟨c, cs', rfl, h1, h2, h3⟩ := r
  exact ⟨c, cs', rfl, h1, z9.q0e h.1 h2, j7.q0e h.2 h3⟩
 | _ :: _, [], _, _, _, r => by simp [j7] at r
end
def V.z22 : List V → Bool
 | [] => true
 | x :: xs => (match x with | .d τ _ => τ.q0e | _ => false) && V.z22 xs
def V.q0e : V → Bool
 | .d τ _ => τ.q0e
 | .tup vs => V.z22 vs
 | _ => false
theorem z4m {Γ Γ' : G} : ∀ {xs : List V} {vs : List Value}, V.z22 xs = true → v3 Γ xs vs → v3 Γ' xs vs
 | [], vs, _, h => by simpa [v3] using h
 | x :: xs, vs, hx, h => by
  simp only [V.z22, Bool.and_eq_true] at hx
  simp only [v3] at h ⊢
  obtain ⟨v, vs', rfl, h1, h2, h3⟩ := h
  refine ⟨v, vs', rfl, ?_, h2, z4m hx.2 h3⟩
  cases x <;> simp at hx
  simp only [z6] at h1 ⊢
  exact h1.q0e hx.1
theorem y8H {Γ Γ' : G} {x : V} {v : Value} (hx : x.q0e = true) (h : z7 Γ x v) : z7 Γ' x v := by
 cases x <;> simp [V.q0e] at hx
 ·rw [X6] at h ⊢
  exact ⟨h.1.q0e hx, h.2⟩
 ·simp only [z7] at h ⊢
  obtain ⟨vs, rfl, h⟩ := h
  exact ⟨vs, rfl, z4m hx h⟩
theorem y6W {x : V} (hx : x.q0e = true) (n : Nat) : x.U5 n = x := by
 cases x <;> simp [V.q0e] at hx
 ·rfl
 ·rename_i vs
  simp only [V.U5]
  congr 1
  have : ∀ (l : List V) (n : Nat), V.z22 l = true → U1 n l = l := by
   intro l
   induction l with
   | nil => intros; rfl
   | cons x xs ih =>
    intro n h
    simp only [V.z22, Bool.and_eq_true] at h
    simp only [U1]
    rw [ih _ h.2]
    cases x <;> simp at h <;> rfl
  exact this vs n hx
def G.q72 (w : World) (gl : Nat → Option (Ty × C)) : G where
 H b := match w.heap[b]? with
  | some (.cells arr _ _) => some arr.toList
  | _ => none
 Z b := w.heap[b]?
 ι _ := none
 τ _ := none
 κ _ := none
 gl := gl
 oo := oof w
 σ _ := none
def q1e (s : S) : V → V
 | .sr k q lo n cp eb e => (match X5 s (.sr k q lo n cp eb e) with
  | some (eb', e', cs) => .d (.slice eb' e') (.slice cs)
  | none => .any)
 | x => bif x.plain then (match Q3 x with
  | some c => .d x.ty c
  | none => .any) else .any
def q3z : List V → Bool
 | [] => true
 | x :: xs => (match x with | .d _ _ => true | _ => false) && q3z xs
section
variable {P : Program} {Γ : G} {w : World} {s : S}
theorem z7s (c : y9 Γ w s) (gl : Nat → Option (Ty × C)) : Γ.H.le (G.q72 w gl).H := by
 intro b l h
 obtain ⟨arr, T, fr, r, h1, h2⟩ := c.hH b l h
 exact ⟨r, by simp only [G.q72, h1, h2]⟩
theorem y0R (c : y9 Γ w s) (gl : Nat → Option (Ty × C)) {Y : V} {v : Value} {eb : Nat} {e : Ty} {ys : List C} (hr : z7 Γ Y v) (he : X5 s Y = some (eb, e, ys)) :
  z7 (G.q72 w gl) (.d (.slice eb e) (.slice ys)) v := by
 have hle := z7s c gl
 have frozen : ∀ {eb : Nat} {e : Ty} {ys : List C}, Y.q3y = some (eb, e, ys) → z7 (G.q72 w gl) (.d (.slice eb e) (.slice ys)) v := by
  intro eb e ys he
  obtain ⟨a, n, cap, rfl, h1, h2, h3, h4, h5⟩ := q1m hr he
  exact X6.2 ⟨h5.mono hle, rfl⟩
 cases Y <;> (try exact frozen he)
 case sr k q lo n cp eb' e' =>
  simp only [X5] at he
  cases ho : s.obj k with
  | none => simp [ho] at he
  | some o =>
   cases o with
   | map => simp [ho] at he
   | it => simp [ho] at he
   | dead => simp [ho] at he
   | box x =>
    simp only [ho] at he
    cases hx : x.at q with
    | d τ cc =>
     simp only [hx, Option.some.injEq, Prod.mk.injEq] at he
     obtain ⟨rfl, rfl, rfl⟩ := he
     rcases q1o hr with ⟨_, rfl, a, rfl⟩ | ⟨b, τ0, o0, m, cap, a, a1, a2, a3, rfl, a4, a5, a6, a7, _⟩
     ·exact X6.2 ⟨o9 (by simp) (Nat.le_refl _) (Nat.zero_le _) (by rw [Nat.zero_mul]; exact Nat.zero_le _) (.inl rfl), rfl⟩
     obtain ⟨b', cells, T, g1, g2, g3, g4, g5, g6, g7, _⟩ := c.own a1 ho
     rw [a1] at g1; cases g1
     obtain ⟨q1, q2, q3⟩ := g6.at_ a2 (by rw [hx]; simp) g7
     rw [hx] at q1 q3
     simp only [V.ty] at q1
     subst q1
     simp only [z6, z9] at q3
     obtain ⟨cs, rfl, r1, r2, r3, r4⟩ := q3
     simp only [C.elems]
     rw [g8 _ _ _ (by simpa using g5)] at q2
     have hlen : ((cs.drop lo).take n).length = n := by simp; omega
     have hmul : (lo + n) * e'.size ≤ m * e'.size := Nat.mul_le_mul_right _ a3
     rw [Nat.add_mul] at hmul
     simp only [Ty.size] at q2 r2 r4
     have hall : o0 + lo * e'.size + n * e'.size ≤ cells.toList.length := by simp; omega
     refine X6.2 ⟨o9 hlen a5 a6 a7 ?_, rfl⟩
     rcases Nat.eq_zero_or_pos n with h0 | h0
     ·exact .inl h0
     ·have ha : a = some ⟨b, o0 + lo * e'.size, none⟩ := by rcases a4 with h | h; · omega
                                                            ·exact h
      refine .inr ⟨b, o0 + lo * e'.size, cells.toList, ha, by simp only [G.q72, g4], hall, fun i c' hi => ?_⟩
      rw [List.getElem?_take] at hi
      split at hi
      ·rename_i hin
       rw [List.getElem?_drop] at hi
       have := r4 _ _ hi
       have hle2 : (lo + i + 1) * e'.size ≤ m * e'.size := Nat.mul_le_mul_right _ (by omega)
       rw [Nat.add_mul, Nat.add_mul] at hle2
       rw [Nat.add_mul] at this
       rw [Q8 _ _ _ _ _ (by omega), Q8 _ _ _ _ _ (by omega)] at this
       rw [show 0 + (o0 + (lo * e'.size + i * e'.size)) = o0 + lo * e'.size + i * e'.size by omega] at this
       exact this.mono hle
      ·cases hi
    | _ => simp [hx] at he
theorem x1B (c : y9 Γ w s) (gl : Nat → Option (Ty × C)) {x : V} {v : Value} {τ : Ty} {cc : C} (hr : z7 Γ x v) (h : q1e s x = .d τ cc) : z7 (G.q72 w gl) (.d τ cc) v := by
 have other : ∀ {τ : Ty} {cc : C}, (bif x.plain then (match Q3 x with
  | some c => V.d x.ty c
  | none => .any) else .any) = .d τ cc → z7 (G.q72 w gl) (.d τ cc) v := by
  intro τ cc h
  cases hp : x.plain with
  | false => rw [hp] at h; cases h
  | true =>
   rw [hp] at h
   simp only [cond_true] at h
   split at h
   ·rename_i c0 hc0
    cases h
    obtain ⟨h1, h2⟩ := (v5 hp).1 hr
    exact X6.2 ⟨(q3u x h1 hc0).mono (z7s c gl), h2⟩
   ·cases h
 cases x <;> first
  | exact other h
  | (simp only [q1e] at h
     split at h
     ·rename_i he
      cases h
      exact y0R c gl hr he
     ·cases h)
theorem x0N (hgl : ∃ gl0, Γ.gl = gl0) (c : y9 Γ w s) {xs : List V} (hx : q3z xs = true) : y9 (G.q72 w Γ.gl) w (S.start xs fun _ => none) := by
 have htk : ∀ (l : List V) (n : Nat), q3z l = true → q2z n l = [] := by
  intro l
  induction l with
  | nil => intros; rfl
  | cons x xs ih =>
   intro n h
   simp only [q3z, Bool.and_eq_true] at h
   simp only [q2z]
   rw [ih _ h.2]
   cases x <;> simp at h <;> rfl
 refine ⟨fun b l h => ?_, fun b o h => h, fun b o sz h => (by cases h), fun k o h => ?_, fun k h => absurd rfl h, fun k k' b τ τ' h _ => (by cases h), fun t L h => ?_, fun t h => absurd rfl h, fun g τ cc h => ?_, rfl, fun b sz h => (by cases h)⟩
 ·simp only [G.q72] at h
  split at h
  ·rename_i arr T fr hw
   cases h
   exact ⟨arr, T, fr, [], hw, by simp⟩
  ·cases h
 ·exfalso
  cases k <;> simp [S.start, S.obj, Z8, z8] at h
 ·exfalso
  simp [S.start, S.live, q0n, htk xs 1000 hx, look] at h
 ·obtain ⟨l, h1, h2, h3⟩ := c.hgl g τ cc h
  obtain ⟨r, hr⟩ := z7s c Γ.gl g l h1
  refine ⟨l ++ r, hr, by simp; omega, ?_⟩
  rw [q26 _ _ _ _ (by omega)]
  exact h3.mono (z7s c Γ.gl)
theorem x2D : AOk fun _ => none := fun _ _ h => by cases h
theorem x2c {w' : World} {gl : Nat → Option (Ty × C)} {Γ' : G} {s' : S} (gle : GLe (G.q72 w gl) Γ') (c' : y9 Γ' w' s') : Ext w w' := by
 have old : ∀ b, b < w.heap.size → w'.heap[b]? = w.heap[b]? := fun b hb => by
  have h1 : w.heap[b]? = some w.heap[b] := Array.getElem?_eq_getElem hb
  rw [h1]
  exact c'.hZ b _ (by rw [gle.Z]; exact h1)
 refine ⟨?_, old, ?_⟩
 ·rcases Nat.eq_zero_or_pos w.heap.size with h | h
  ·omega
  ·have h1 := old (w.heap.size - 1) (by omega)
   rw [Array.getElem?_eq_getElem (show w.heap.size - 1 < w.heap.size by omega)] at h1
   have := H9 h1
   omega
 ·rw [c'.hoo, gle.oo]; rfl
theorem x30 {X : Cx} (hgl : Γ.gl = X.gl) (c : y9 Γ w s) {o : Oper} {a : Act} {fo : Operand} {f : FuncId} {as : Array Operand} {ts : Array TypeId} {xs : List V} {v : V}
  (ho : o.op = .call { callee := .value fo, args := as, argTypes := ts }) (hcal : q2y X.P f = true) (hf : z7 Γ (.fn f []) (a.eval fo))
  (hlen : xs.length = as.toList.length) (hr : ∀ (i : Nat) x y, xs[i]? = some x → as.toList[i]? = some y → z7 (G.q72 w Γ.gl) x (a.eval y)) (hx : q3z xs = true) (D : Q0 X f xs (fun _ => none) v []) (hv : v.q0e = true) :
  o8 X.P o a w (j4 Γ w s v) := by
 obtain ⟨cv, hfv, hcl, _⟩ := z7f hf
 have hcv : cv = #[] := by
  apply Array.eq_empty_of_size_eq_zero
  simpa using hcl.symm
 subst hcv
 have run : (execOp a.eval o).run X.P w = .ok (.enter f (as.map a.eval)) w := by
  unfold execOp
  simp [ho, resolve, hfv, Deferred.ofValue, invoke, z5B hcal]
 have hsl : ∀ (l : List V) (n : Nat), q3z l = true → U1 n l = l := by
  intro l
  induction l with
  | nil => intros; rfl
  | cons x xs ih =>
   intro n h
   simp only [q3z, Bool.and_eq_true] at h
   simp only [U1]
   rw [ih _ h.2]
   cases x <;> simp at h <;> rfl
 refine o8.enter run ?_
 refine (D (fun _ => none) (G.q72 w Γ.gl) w (as.map a.eval) (fun _ _ h => h) hgl ⟨x0N ⟨_, rfl⟩ c hx, x2D⟩ (by simpa using hlen) fun i x u hx' hu => ?_).mono ?_
 ·rw [hsl xs 1000 hx] at hx'
  rw [Array.getElem?_map] at hu
  cases hy : as[i]? with
  | none => rw [hy] at hu; cases hu
  | some y =>
   rw [hy] at hu
   cases hu
   exact hr i x y hx' (by simpa using hy)
 ·rintro e w' ⟨u, Γ', rfl, gle, c', hv'⟩
  rw [y6W hv] at hv'
  exact ⟨u, rfl, j4.ext c (x2c gle c') (y8H hv hv')⟩
end
end Go.E
namespace Go.E
open Go
def y6G : Value → V
 | .int k n => .d (.int k) (.int n)
 | .bool b => .d .bool (.bool b)
 | .string s => .d .str (.str s.data.toList)
 | .pointer none => .d .ptr .nil
 | .slice none 0 0 => .nilc
 | .map none => .d .map .nil
 | .nilFunc => .d .func .nil
 | .nilIface => .d .iface .nil
 | _ => .any
def y2f : Value → Bool
 | .int k n => decide (k.min ≤ n ∧ n ≤ k.max)
 | .string s => decide (s.data.toList.length ≤ 140737488355328)
 | _ => true
def z1J : Operand → Bool
 | .const v => y2f v
 | _ => true
def z0F (n : Nat) (o : Oper) : Bool :=
 o.op.operands.all z1J && (match o.dst with | some d => decide (d < n) | none => true)
def v8 (gl : Nat → Option (Ty × C)) (s : S) : Operand → V
 | .tmp t => s.get t
 | .const v => y6G v
 | .global g => match gl g with
  | some (τ, c) => .cptr τ c
  | none => .any
 | .func f => .fn f []
def Q6 (md : List (Nat × Nat)) (d : Nat) : Nat := (look md d).getD 0
def S.add (s : S) (lo : List (Key × O)) (tn : List (Nat × Option Nat)) : S := { s with loc := lo ++ s.loc, tk := tn ++ s.tk }
def q52 : List (Key × O) → Bool
 | [] => true
 | (.l _, _) :: l => q52 l
 | (.g _, _) :: _ => false
def q9n (P : Program) (s : S) (t' : TypeId) (eb : Nat) (e : Ty) (Y : V) (K : List C → Prop) : Prop :=
 match ty P t' with
 | .slice _ _ => (match Y with
  | .nilc => K []
  | Y => match X5 s Y with
   | some (eb', e', ys) => eb' = eb ∧ e' = e ∧ K ys
   | none => False)
 | .str => e = .int .u8 ∧ eb = 1 ∧ Y.isStr ∧ K (Y.toStr.map fun b => C.int b.toNat)
 | _ => False
theorem q8P {P : Program} (hP : v9 P = true) {s : S} {t' : TypeId} {eb : Nat} {e : Ty} {Y : V} {K : List C → Prop} (h : q9n P s t' eb e Y K) : ∃ ys, K ys ∧ q9V P s t' eb e Y ys := by
 unfold q9n at h
 split at h
 ·rename_i eb0 e0 ht
  obtain ⟨E, hu, _⟩ := q1r hP ht
  split at h
  ·exact ⟨[], h, .inl ⟨⟨E, hu⟩, .inr ⟨rfl, rfl⟩⟩⟩
  ·split at h
   ·rename_i eb' e' ys he
    obtain ⟨rfl, rfl, hK⟩ := h
    exact ⟨ys, hK, .inl ⟨⟨E, hu⟩, .inl he⟩⟩
   ·exact h.elim
 ·rename_i ht
  obtain ⟨h1, h2, h3, hK⟩ := h
  exact ⟨_, hK, .inr ⟨q8N ht, h3, h1, h2, rfl⟩⟩
 ·exact h.elim
def z7L (X : Cx) (f : FuncId) (xs : List V) (v : V) : Prop :=
 ∀ (Γ : G) (w : World) (args : Array Value), xs.length = args.size → (∀ (i : Nat) x u, xs[i]? = some x → args[i]? = some u → z7 Γ x u) → ∃ u, (callFunc f args).run X.P w = .ok (.value u) w ∧ z7 Γ v u
mutual
def V.pks : V → List Key
 | .ptr k _ _ | .mp k => [k]
 | .sr k _ _ _ (some _) _ _ => [k]
 | .agg _ vs => V.q6P vs
 | _ => []
def V.q6P : List V → List Key
 | [] => []
 | x :: xs => x.pks ++ V.q6P xs
end
def q5E : Nat → List (Key × O) → List Key → List (Key × O)
 | 0, _, _ => []
 | n + 1, loc, ks => ks.flatMap fun k => match z8 loc k with
  | some o => (k, o) :: (match o with | .box x => q5E n loc x.pks | _ => [])
  | none => []
def S.see (base s : S) (xs : List V) : S := { base with loc := q5E 3 s.loc (V.q6P xs) ++ base.loc }
noncomputable def iop (X : Cx) (md : List (Nat × Nat)) (base : S) (dst : Nat) (o : Oper) (ρ : Operand → V) (s : S) (K : V → List (Key × O) → List (Nat × Option Nat) → Prop) : Prop :=
 match o.op with
 | .load T x => (match ρ x with
   | .ptr k q τ => (match s.obj k with
     | some (.box y) => y.at q ≠ .any ∧ τ = ty X.P T ∧ τ.known = true ∧ K (view (y.at q)) [] []
     | _ => False)
   | .cptr τ c => τ = ty X.P T ∧ τ.known = true ∧ K (.d τ c) [] []
   | _ => False)
 | .alloc T => Y0 X.P T = true ∧ K (.ptr (.l dst) [] (ty X.P T)) [(.l dst, .box (u2 (ty X.P T)))] []
 | .box _ x => if Q6 md dst = 5 then (ρ x).plain = true ∧ (match Q3 (ρ x) with
    | some cc => K (.cptr (ρ x).ty cc) [] []
    | none => False)
   else (ρ x).plain = true ∧ (ρ x).k6 = true ∧ K (.ptr (.l dst) [] (ρ x).ty) [(.l dst, .box (ρ x))] []
 | .buildSlice t len parts => (match ty X.P t with
   | .slice eb e => (match len with
    | 0 => parts.toList.length = 0 ∧ K (.emp eb e) [] []
    | len + 1 => Y0 X.P (w8 X.P t) = true ∧ e.size ≠ 0 ∧ (len + 1) * e.size ≤ 16777216 ∧ (len + 1) * eb ≤ 140737488355328 ∧ parts.toList.map (·.1) = List.range (len + 1) ∧
      (match q03 (parts.toList.map fun x => ρ x.2) with
       | some cs => (∀ x ∈ parts.toList.map (fun x => ρ x.2), x.ty = e ∧ x.plain = true) ∧ (if Q6 md dst = 4 then K (.sl eb e cs dst) [] [(dst, some cs.length)] else K (.d (.slice eb e) (.slice cs)) [] [])
       | none => False))
   | _ => False)
 | .build T parts => Y0 X.P T = true ∧ (ty X.P T).W9 = true ∧ (ty X.P T).isAgg = true ∧ q79 (ty X.P T) (u2 (ty X.P T)) (parts.toList.map fun p => (p.1, ρ p.2)) ∧
   K (q7s (ty X.P T) (u2 (ty X.P T)) (parts.toList.map fun p => (p.1, ρ p.2))) [] []
 | .makeSlice t l c => (match ty X.P t with
   | .slice eb e => Y0 X.P (w8 X.P t) = true ∧ (ρ l).U2 ∧ (ρ c).U2 ∧ 0 ≤ (ρ l).toInt ∧ (ρ l).toInt ≤ (ρ c).toInt ∧ (ρ c).toInt ≤ 9223372036854775807 ∧ (ρ c).toInt.toNat * eb ≤ 140737488355328 ∧ e.size ≠ 0 ∧
     K (.sr (.l dst) [] 0 (ρ l).toInt.toNat (if Q6 md dst = 9 then none else some (ρ c).toInt.toNat) eb e) [(.l dst, .box (.d (.arr (ρ l).toInt.toNat e) (.agg (List.replicate (ρ l).toInt.toNat (z0 e)))))] []
   | _ => False)
 | .makeMap T r => (match r, q7V X.P T with
   | none, some (kt, et) => K (.mp (.l dst)) [(.l dst, .map (ty X.P kt) (ty X.P et) [])] []
   | _, _ => False)
 | .lookup T x i ok => (match q7V X.P T, ρ x with
   | some (kt, et), .mp k => (match s.obj k with
     | some (.map kτ _ es) => kτ = ty X.P kt ∧ W2 X.P kt = true ∧ Y0 X.P et = true ∧ (ρ i).W1 kτ ∧
       K (if ok then .tup [q5f X.P et es (ρ i).toC, .d .bool (.bool (q1N es (ρ i).toC).isSome)] else q5f X.P et es (ρ i).toC) [] []
     | _ => False)
   | _, _ => False)
 | .call c => (match c.callee with
   | .value fo => (match ρ fo with
     | .fn f caps => (q2y X.P f = true ∧ c.argTypes.toList.length = c.args.toList.length ∧
      ∃ b v L, (b = base ∨ b = base.see s (X2 (c.args.toList.map ρ) caps)) ∧ Q0 X f (Z9 X.P false s (q7r c.argTypes.toList caps) (X2 (c.args.toList.map ρ) caps)) b.up v L ∧ q52 L = true ∧
       K ((v.U5 2000).ren (dn dst) (rk dst)) (dnL dst L) (dnT dst (v.tkR 2000))) ∨
      (caps = [] ∧ ∃ v, z7L X f (c.args.toList.map ρ) v ∧ K v [] []) ∨
      (caps = [] ∧ q2y X.P f = true ∧ ∃ v, q3z (c.args.toList.map fun y => q1e s (ρ y)) = true ∧ Q0 X f (c.args.toList.map fun y => q1e s (ρ y)) (fun _ => none) v [] ∧ v.q0e = true ∧ K v [] [])
     | _ => False)
   | .builtin .append => (match c.args.toList, c.argTypes.toList with
     | [x, y], [t, t'] => Y0 X.P (w8 X.P t) = true ∧ (match ty X.P t, ρ x with
       | .slice eb e, .emp _ _ => q9n X.P s t' eb e (ρ y) fun ys => if Q6 md dst = 3 then ys ≠ [] ∧ K (.sr (.l dst) [] 0 ys.length none eb e) [(.l dst, .box (.d (.arr ys.length e) (.agg ys)))] [] else K (.sl eb e ys dst) [] [(dst, some ys.length)]
       | .slice eb e, .nilc => q9n X.P s t' eb e (ρ y) fun ys => if Q6 md dst = 3 then ys ≠ [] ∧ K (.sr (.l dst) [] 0 ys.length none eb e) [(.l dst, .box (.d (.arr ys.length e) (.agg ys)))] [] else K (.sl eb e ys dst) [] [(dst, some ys.length)]
       | _, _ => False)
     | _, _ => False)
   | .builtin .len => (match c.args.toList, c.argTypes.toList with
     | [x], [T] => (match ρ x with
       | .mp k => (match q7V X.P T, s.obj k with
         | some _, some (.map _ _ es) => es.length ≤ 9223372036854775807 ∧ K (.d (.int .i64) (.int es.length)) [] []
         | _, _ => False)
       | _ => pv X.P o.op ρ fun y => K y [] [])
     | _, _ => pv X.P o.op ρ fun y => K y [] [])
   | _ => pv X.P o.op ρ fun y => K y [] [])
 | .convert src dst' x => (match strOf X.P s src dst' (ρ x) with
   | some ys => K (.d .str (.str (ys.map z13))) [] []
   | none => pv X.P o.op ρ fun y => K y [] [])
 | _ => pv X.P o.op ρ fun y => K y [] []
structure Compat (s' s base : S) : Prop where
 obj : ∀ k o, s.obj k = some o → s'.obj k ≠ none → s'.obj k = some o
 base : ∀ k o, base.obj k = some o → s'.obj k = some o
structure y4y (s : S) (lo : List (Key × O)) (tn : List (Nat × Option Nat)) : Prop where
 l : ∀ k o, z8 lo k = some o → s.obj k = none
 t : ∀ t x, look tn t = some x → s.known t = false
section
variable {X : Cx} {Γ : G} {w : World} {s : S}
theorem Compat.getObj {s' base : S} (h : Compat s' s base) (c : y9 Γ w s') {k : Key} {o : O} (hι : Γ.ι k ≠ none) (ho : s.obj k = some o) : s'.obj k = some o := h.obj k o ho (c.dom k hι)
theorem q74 {s' base : S} (h : Compat s' s base) (c : y9 Γ w s') {x : V} {v : Value} {r : Nat × Ty × List C} (hr : z7 Γ x v) (he : X5 s x = some r) : ∃ x', z7 Γ x' v ∧ (x' = .nilc → x = .nilc) ∧ X5 s' x' = some r := by
 cases x <;> (try exact ⟨_, hr, id, he⟩)
 case sr k q lo n cp eb e =>
  rcases q1o hr with ⟨_, rfl, a, rfl⟩ | ⟨b, τ0, o, m, cap, a, hι, _⟩
  ·refine ⟨.emp eb e, q3W, (fun h => by cases h), ?_⟩
   simp only [X5] at he
   split at he
   ·split at he
    ·rw [← he]; simp [X5, V.q3y]
    ·cases he
   ·cases he
  ·refine ⟨_, hr, id, ?_⟩
   simp only [X5] at he ⊢
   cases ho : s.obj k with
   | none => simp [ho] at he
   | some o =>
    rw [h.getObj c (by rw [hι]; simp) ho]
    rw [ho] at he; exact he
theorem y4E {P : Program} {s' base : S} (h : Compat s' s base) (c : y9 Γ w s') {src dst : TypeId} {Y : V} {v : Value} {ys : List C} (hr : z7 Γ Y v) (he : strOf P s src dst Y = some ys) : ∃ Y', z7 Γ Y' v ∧ strOf P s' src dst Y' = some ys := by
 cases hel : X5 s Y with
 | some r =>
  obtain ⟨Y', h1, h2, h3⟩ := q74 h c hr hel
  by_cases hY : Y = .nilc
  ·subst hY; exact ⟨_, hr, he⟩
  refine ⟨Y', h1, ?_⟩
  rw [← he]
  unfold strOf
  have hY' : Y' ≠ .nilc := fun e => hY (h2 e)
  rw [hel, h3]
  cases Y <;> first | exact absurd rfl hY | (cases Y' <;> first | exact absurd rfl hY' | rfl)
 | none =>
  refine ⟨_, hr, ?_⟩
  unfold strOf at he ⊢
  rw [hel] at he
  split at he
  ·split at he
   ·rename_i h0
    rw [if_pos h0]
    split at he
    ·exact he
    ·cases he
   ·cases he
  ·cases he
theorem q6E {P : Program} {s' base : S} (h : Compat s' s base) (c : y9 Γ w s') {t' : TypeId} {eb : Nat} {e : Ty} {Y : V} {v : Value} {ys : List C} (hr : z7 Γ Y v) (he : q9V P s t' eb e Y ys) : ∃ Y', z7 Γ Y' v ∧ q9V P s' t' eb e Y' ys := by
 rcases he with ⟨h1, h2 | h2⟩ | h1
 ·obtain ⟨Y', a, _, b⟩ := q74 h c hr h2
  exact ⟨Y', a, .inl ⟨h1, .inl b⟩⟩
 ·exact ⟨_, hr, .inl ⟨h1, .inr h2⟩⟩
 ·exact ⟨_, hr, .inr h1⟩
theorem y7M {P : Program} (s s' : S) (T : TypeId) (x : V) : q0g P false s T x = q0g P false s' T x := by
 cases x <;> simp [q0g]
theorem q7w {P : Program} (s s' : S) : ∀ (Ts : List TypeId) (xs : List V), Z9 P false s Ts xs = Z9 P false s' Ts xs
 | [], _ => rfl
 | _ :: _, [] => rfl
 | T :: Ts, x :: xs => by simp only [Z9, y7M s s', q7w s s' Ts xs]
theorem q6Q (s : S) : ∀ (xs : List V), Z2 false s xs = []
 | [] => rfl
 | x :: xs => by
  have : Y4 false s x = none := by cases x <;> simp [Y4]
  simp [Z2, this, q6Q s xs]
theorem y0e : ∀ {L : List (Key × O)} {k : Key} {o : O}, q52 L = true → z8 L (.g k) = some o → False
 | [], _, _, _, h => by simp [z8] at h
 | (.l n, _) :: L, k, o, hl, h => by simp [z8] at h; exact y0e (L := L) (by simpa [q52] using hl) h
 | (.g _, _) :: _, _, _, hl, _ => by simp [q52] at hl
theorem y5h (d : Nat) : ∀ {L : List (Key × O)} {j : Nat} {o : O}, q52 L = true → z8 L (.l j) = some o → z8 (dnL d L) (.l (rk d j)) = some (o.ren (dn d))
 | [], _, _, _, h => by simp [z8] at h
 | (.l n, o') :: L, j, o, hl, h => by
  simp only [z8] at h
  simp only [dnL, z8, dn]
  by_cases e : n = j
  ·subst e; simp at h; subst h; simp
  ·have e1 : Key.l n ≠ .l j := by intro h; cases h; exact e rfl
   have e2 : Key.l (rk d n) ≠ .l (rk d j) := by intro h; simp [rk] at h; exact e h
   rw [if_neg e1] at h
   rw [if_neg e2]
   exact y5h d (L := L) (by simpa [q52] using hl) h
 | (.g _, _) :: _, _, _, hl, _ => by simp [q52] at hl
theorem y7g (d : Nat) (l : List (Nat × Option Nat)) (m : Nat) : look (dnT d l) (rk d m) = look l m := by rw [z3G, q7Q]
def y9M (X : Cx) (base : S) (o : Oper) (ρ : Operand → V) (s : S) (v : V) (lo : List (Key × O)) (tn : List (Nat × Option Nat)) : Prop :=
 ∀ (Γ : G) (w : World) (a : Act) (s' : S), Γ.gl = X.gl → y9 Γ w s' → Compat s' s base → y4y s' lo tn → (∀ y ∈ o.op.operands, z7 Γ (ρ y) (a.eval y)) → o8 X.P o a w (j4 Γ w (s'.add lo tn) v)
theorem x3Z (hP : v9 X.P = true) {o : Oper} {ρa : Operand → V} {K : V → Prop} (h : pv X.P o.op ρa K) :
  ∃ v, K v ∧ ∀ (Γ : G) (w : World) (a : Act) (s' : S), y9 Γ w s' → (∀ y ∈ o.op.operands, z7 Γ (ρa y) (a.eval y)) → o8 X.P o a w (j4 Γ w s' v) := by
 obtain ⟨v, hK, hs⟩ := x1N hP h
 refine ⟨v, hK, fun Γ w a s' c hr => ?_⟩
 obtain ⟨u, h1, h2⟩ := hs Γ w a.eval hr
 exact o8.val h1 (j4.same c h2)
mutual
theorem y1I {Γ : G} : ∀ {x : V} {hm : Option Key} {p : List Nat} {vs : List Value}, z6 Γ hm p x vs → ∀ k ∈ x.pks, Γ.ι k ≠ none
 | .ptr k0 q τ, _, _, _, h, k, hk => by
  simp only [V.pks, List.mem_singleton] at hk; subst hk
  simp only [z6] at h
  obtain ⟨b, τ0, o, h1, _⟩ := h
  rw [h1]; simp
 | .mp k0, _, _, _, h, k, hk => by
  simp only [V.pks, List.mem_singleton] at hk; subst hk
  simp only [z6] at h
  obtain ⟨b, h1, _⟩ := h
  rw [h1]; simp
 | .sr k0 q lo n (some c) eb e, _, _, _, h, k, hk => by
  simp only [V.pks, List.mem_singleton] at hk; subst hk
  simp only [z6] at h
  rcases h with ⟨h, _⟩ | ⟨b, τ0, o, m, cap, h1, _⟩
  ·cases h
  ·rw [h1]; simp
 | .agg τ xs, _, _, _, h, k, hk => by
  simp only [V.pks] at hk
  simp only [z6] at h
  exact y43 h.2.2.2.2 k hk
 | .sr _ _ _ _ none _ _, _, _, _, _, k, hk | .d _ _, _, _, _, _, k, hk | .sl _ _ _ _, _, _, _, _, k, hk | .ts _ _ _, _, _, _, _, k, hk | .emp _ _, _, _, _, _, k, hk | .nilc, _, _, _, _, k, hk | .cptr _ _, _, _, _, _, k, hk | .fn _ _, _, _, _, _, k, hk | .tup _, _, _, _, _, k, hk | .top _, _, _, _, _, k, hk | .any, _, _, _, _, k, hk => by simp [V.pks] at hk
theorem y43 {Γ : G} : ∀ {xs : List V} {hm : Option Key} {p : List Nat} {i : Nat} {τ : Ty} {vs : List Value}, w5 Γ hm p i τ xs vs → ∀ k ∈ V.q6P xs, Γ.ι k ≠ none
 | [], _, _, _, _, _, _, k, hk => by simp [V.q6P] at hk
 | x :: xs, _, _, _, _, _, h, k, hk => by
  simp only [V.q6P, List.mem_append] at hk
  simp only [w5] at h
  obtain ⟨⟨o, f, _, _, _, h1⟩, h2⟩ := h
  rcases hk with hk | hk
  ·exact y1I h1 k hk
  ·exact y43 h2 k hk
end
theorem x1Q {Γ : G} {x : V} {v : Value} (h : z7 Γ x v) : ∀ k ∈ x.pks, Γ.ι k ≠ none := by
 cases x with
 | any => intro k hk; simp [V.pks] at hk
 | tup => intro k hk; simp [V.pks] at hk
 | _ => exact y1I h.1
theorem y44 : ∀ {xs : List V} {k : Key}, k ∈ V.q6P xs → ∃ x ∈ xs, k ∈ x.pks
 | [], _, h => by simp [V.q6P] at h
 | x :: xs, k, h => by
  simp only [V.q6P, List.mem_append] at h
  rcases h with h | h
  ·exact ⟨x, by simp, h⟩
  ·obtain ⟨y, h1, h2⟩ := y44 h
   exact ⟨y, by simp [h1], h2⟩
theorem y2H {s : S} {k : Key} {o : O} (h : z8 s.loc k = some o) : s.obj k = some o := by
 unfold S.obj Z8; rw [h]
theorem z3I : ∀ {l : List (Key × O)} {k : Key} {o : O}, z8 l k = some o → (k, o) ∈ l
 | [], _, _, h => by simp [z8] at h
 | (j, x) :: l, k, o, h => by
  simp only [z8] at h
  split at h
  ·rename_i e; subst e; cases h; exact List.mem_cons_self ..
  ·exact List.mem_cons_of_mem _ (z3I h)
theorem y2x {s' base : S} (hc : Compat s' s base) (c : y9 Γ w s') : ∀ (n : Nat) (ks : List Key), (∀ k ∈ ks, Γ.ι k ≠ none) → ∀ p ∈ q5E n s.loc ks, s'.obj p.1 = some p.2
 | 0, _, _, p, hp => by simp [q5E] at hp
 | n + 1, ks, hk, p, hp => by
  simp only [q5E, List.mem_flatMap] at hp
  obtain ⟨k, h1, hp⟩ := hp
  split at hp
  ·rename_i o ho
   have hs : s'.obj k = some o := hc.getObj c (hk k h1) (y2H ho)
   rcases List.mem_cons.1 hp with rfl | hp
   ·exact hs
   ·cases o with
    | box x =>
     have hks : ∀ k ∈ x.pks, Γ.ι k ≠ none := by
      rcases c.obj k _ hs with ⟨_, e, hv⟩ | ⟨b, cells, T, _, _, _, _, _, hr, _⟩
      ·subst hv; intro k hk; simp [V.pks] at hk
      ·exact y1I hr
     exact y2x hc c n x.pks hks p hp
    | _ => simp at hp
  ·simp at hp
theorem x5u {s' base : S} (hc : Compat s' s base) (c : y9 Γ w s') {xs : List V} (hx : ∀ x ∈ xs, ∃ v, z7 Γ x v) {k : Key} {o : O} (h : (base.see s xs).obj k = some o) : s'.obj k = some o := by
 unfold S.obj S.see Z8 at h
 simp only [q1G] at h
 cases hl : z8 (q5E 3 s.loc (V.q6P xs)) k with
 | some o' =>
  rw [hl] at h
  cases h
  refine y2x hc c 3 (V.q6P xs) (fun k hk => ?_) (k, o) (z3I hl)
  obtain ⟨x, h1, h2⟩ := y44 hk
  obtain ⟨v, hv⟩ := hx x h1
  exact x1Q hv k h2
 | none =>
  rw [hl] at h
  exact hc.base k o h
theorem y29 : ∀ {l : List V} {i : Nat} {x : V}, q3z l = true → l[i]? = some x → ∃ τ c, x = .d τ c
 | [], i, x, _, h => by simp at h
 | y :: l, 0, x, hl, h => by
  simp only [q3z, Bool.and_eq_true] at hl
  simp at h; subst h
  cases y <;> simp at hl
  exact ⟨_, _, rfl⟩
 | y :: l, i + 1, x, hl, h => by
  simp only [q3z, Bool.and_eq_true] at hl
  exact y29 hl.2 (by simpa using h)
theorem x3t {s' base : S} (hc : Compat s' s base) (c : y9 Γ w s') {gl : Nat → Option (Ty × C)} {x : V} {v : Value} (hr : z7 Γ x v) (hd : ∃ τ cc, q1e s x = .d τ cc) : z7 (G.q72 w gl) (q1e s x) v := by
 obtain ⟨τ, cc, hd⟩ := hd
 rw [hd]
 cases x <;> first
  | exact x1B (s := s') c gl hr hd
  | (simp only [q1e] at hd
     split at hd
     ·rename_i he
      cases hd
      obtain ⟨x', h1, _, h2⟩ := q74 hc c hr he
      exact y0R c gl h1 h2
     ·cases hd)
theorem z1U (hP : v9 X.P = true) {md : List (Nat × Nat)} {base : S} {dst : Nat} {o : Oper} {ρa : Operand → V} {K : V → List (Key × O) → List (Nat × Option Nat) → Prop} (h : iop X md base dst o ρa s K) :
  ∃ v lo tn, K v lo tn ∧ y9M X base o ρa s v lo tn := by
 have viaPv : (pv X.P o.op ρa fun y => K y [] []) → ∃ v lo tn, K v lo tn ∧ y9M X base o ρa s v lo tn := by
  intro h
  obtain ⟨v, hK, hd⟩ := x3Z hP h
  exact ⟨v, [], [], hK, fun Γ w a s' _ c _ _ hr => hd Γ w a s' c hr⟩
 unfold iop at h
 split at h
 ·-- load
  rename_i T x ho
  split at h
  ·rename_i k q τ hx
   split at h
   ·rename_i y hobj
    obtain ⟨h1, h2, h3, hK⟩ := h
    refine ⟨_, _, _, hK, fun Γ w a s' _ c hc _ hr => ?_⟩
    have hxr := hr x (by rw [ho]; simp [Op.operands])
    rw [hx] at hxr
    obtain ⟨b, τ0, o0, hι, _⟩ := q1t hxr
    obtain ⟨u, r1, r2⟩ := z9k (T := T) hP c hxr (hc.getObj c (by rw [hι]; simp) hobj) h1 h2 h3
    exact o8.val (by unfold execOp; simp [ho, r1]) (j4.same c r2)
   ·exact h.elim
  ·rename_i τ cc hx
   obtain ⟨h2, h3, hK⟩ := h
   refine ⟨_, _, _, hK, fun Γ w a s' _ c hc _ hr => ?_⟩
   have hxr := hr x (by rw [ho]; simp [Op.operands])
   rw [hx] at hxr
   obtain ⟨u, r1, r2⟩ := x0p (T := T) hP c hxr h2 h3
   exact o8.val (by unfold execOp; simp [ho, r1]) (j4.same c r2)
  ·exact h.elim
 ·rename_i T ho
  obtain ⟨h1, hK⟩ := h
  exact ⟨_, _, _, hK, fun Γ w a s' _ c _ hf _ => x2t c ho (hf.l _ _ (q0Y _ _ _)) h1⟩
 ·rename_i T x ho
  split at h
  ·obtain ⟨h1, h⟩ := h
   split at h
   ·rename_i cc hcc
    exact ⟨_, _, _, h, fun Γ w a s' _ c _ hf hr => x34 c ho (hr x (by rw [ho]; simp [Op.operands])) h1 hcc⟩
   ·exact h.elim
  ·obtain ⟨h1, h2, hK⟩ := h
   exact ⟨_, _, _, hK, fun Γ w a s' _ c _ hf hr => x5J c ho (hf.l _ _ (q0Y _ _ _)) (hr x (by rw [ho]; simp [Op.operands])) h1 h2⟩
 ·-- buildSlice
  rename_i t len parts ho
  split at h
  ·rename_i eb e ht
   split at h
   ·obtain ⟨h1, hK⟩ := h
    have hp0 : parts = #[] := by apply Array.eq_empty_of_size_eq_zero; simpa using h1
    subst hp0
    exact ⟨_, _, _, hK, fun Γ w a s' _ c _ _ _ => y2d hP c ho ht⟩
   ·rename_i len
    obtain ⟨h1, h2, h3, h4, h5, h⟩ := h
    split at h
    ·rename_i cs hcs
     obtain ⟨h6, hK⟩ := h
     obtain ⟨l1, l2⟩ := z2x hcs
     have hl : cs.length = len + 1 := by rw [l1]; have := congrArg List.length h5; simpa using this
     have key : ∀ (Γ : G) (w : World) (a : Act) (s' : S), Γ.gl = X.gl → y9 Γ w s' → (∀ y ∈ o.op.operands, z7 Γ (ρa y) (a.eval y)) → ∀ (i : Nat) (x : Nat × Operand) (cc : C), parts.toList[i]? = some x → cs[i]? = some cc → z7 Γ (.d e cc) (a.eval x.2) := by
      intro Γ w a s' _ c hr i x cc hx hcc
      have hxm : (parts.toList.map fun x => ρa x.2)[i]? = some (ρa x.2) := by simp only [List.getElem?_map, hx]; rfl
      obtain ⟨t1, t2⟩ := h6 _ (List.mem_of_getElem? hxm)
      have hmem : x ∈ parts.toList := List.mem_of_getElem? hx
      have hrx := hr x.2 (by rw [ho]; simp only [Op.operands]; exact List.mem_toArray.2 (List.mem_map.2 ⟨x, hmem, rfl⟩))
      obtain ⟨q1, q2⟩ := (v5 t2).1 hrx
      have := q3u _ q1 (l2 i _ cc hxm hcc)
      rw [t1] at this q2
      exact X6.2 ⟨this, q2⟩
     split at hK
     ·exact ⟨_, _, _, hK, fun Γ w a s' hg c _ hf hr => y2c hP c (hf.t _ _ (q5e _ _ _)) ho ht h1 (by omega) h2 h3 h4 h5 hl (key Γ w a s' hg c hr)⟩
     ·exact ⟨_, _, _, hK, fun Γ w a s' hg c _ _ hr => y4c hP c ho ht h1 (by omega) h2 h3 h4 h5 hl (key Γ w a s' hg c hr)⟩
    ·exact h.elim
  ·exact h.elim
 ·-- build
  rename_i T parts ho
  obtain ⟨h1, h2, h3, h4, hK⟩ := h
  refine ⟨_, _, _, hK, fun Γ w a s' _ c _ _ hr => ?_⟩
  obtain ⟨u, r1, r2⟩ := x2s (Γ := Γ) (w := w) (ev := a.eval) hP h1 h2 h3 (fun p hp => hr p.2 (by rw [ho]; simp only [Op.operands]; exact List.mem_toArray.2 (List.mem_map.2 ⟨p, hp, rfl⟩))) h4
  refine o8.val (v := u) (w' := w) ?_ (j4.same c r2)
  unfold execOp
  simp only [ho, Sem.run_bind, r1, Result.andThen_ok, Sem.run_pure]
 ·-- makeSlice
  rename_i t l cp ho
  split at h
  ·rename_i eb e ht
   obtain ⟨h1, h2, h3, h4, h5, h6, h7, h8, hK⟩ := h
   refine ⟨_, _, _, hK, fun Γ w a s' _ c _ hf hr => ?_⟩
   obtain ⟨k1, e1⟩ := z65 h2 (hr l (by rw [ho]; simp [Op.operands]))
   obtain ⟨k2, e2⟩ := z65 h3 (hr cp (by rw [ho]; simp [Op.operands]))
   exact y6u (L := ρa l) (Cp := ρa cp) (k1 := k1) (k2 := k2) (nl := (ρa l).toInt.toNat) (nc := (ρa cp).toInt.toNat) hP c ho ht h1 (hf.l _ _ (q0Y _ _ _)) (by rw [e1, Int.toNat_of_nonneg h4]) (by rw [e2, Int.toNat_of_nonneg (by omega)]) (by omega) (by unfold maxLen; omega) h7 h8 (fun c h => by split at h <;> cases h; rfl)
  ·exact h.elim
 ·-- makeMap
  rename_i T r ho
  split at h
  ·rename_i kt et hT
   exact ⟨_, _, _, h, fun Γ w a s' _ c _ hf _ => y9w c ho (hf.l _ _ (q0Y _ _ _))⟩
  ·exact h.elim
 ·-- lookup
  rename_i T x i ok ho
  split at h
  ·rename_i kt et k hT hx
   split at h
   ·rename_i kτ vτ es hobj
    obtain ⟨rfl, h1, h2, h3, hK⟩ := h
    refine ⟨_, _, _, hK, fun Γ w a s' _ c hc _ hr => ?_⟩
    have hxr := hr x (by rw [ho]; simp [Op.operands])
    rw [hx] at hxr
    obtain ⟨b, hι, _⟩ := z2I hxr
    have hir := hr i (by rw [ho]; simp [Op.operands])
    have hd : ρa i = .d (ty X.P kt) (ρa i).toC := by
     cases hi : ρa i <;> simp [hi, V.W1] at h3
     subst h3; rfl
    rw [hd] at hir
    have := x00 hP c ho hT hxr hir (hc.getObj c (by rw [hι]; simp) hobj) h1 h2
    exact this
   ·exact h.elim
  ·exact h.elim
 ·-- calls
  rename_i cl ho
  obtain ⟨callee, args, ts⟩ := cl
  split at h
  ·rename_i fo hfo
   simp only at hfo h
   subst hfo
   split at h
   ·rename_i f caps hf
    rcases h with ⟨h1, h2, b, v, L, hB, D, hL, hK⟩ | ⟨rfl, v, E, hK⟩ | ⟨rfl, h1, v, hx, D, hv, hK⟩
    rotate_left
    ·refine ⟨_, _, _, hK, fun Γ w a s' hgl c hc hfr hr => ?_⟩
     have hrf := hr fo (by rw [ho]; simp [Op.operands, Call.operands])
     rw [hf] at hrf
     obtain ⟨cv, hfv, hcl, _⟩ := z7f hrf
     have hcv : cv = #[] := by apply Array.eq_empty_of_size_eq_zero; simpa using hcl.symm
     subst hcv
     obtain ⟨u, e1, e2⟩ := E Γ w (args.map a.eval) (by simp) fun i x u hx hu => by
      simp only [List.getElem?_map, Array.getElem?_map] at hx hu
      cases hy : args[i]? with
      | none => rw [hy] at hu; cases hu
      | some y =>
       have hy' : args.toList[i]? = some y := by simpa using hy
       rw [hy] at hu; rw [hy'] at hx
       cases hu; cases hx
       exact hr y (by rw [ho]; simp only [Op.operands, Call.operands]; exact Array.mem_append_right _ (Array.mem_of_getElem? hy))
     refine o8.val (v := u) (w' := w) ?_ (j4.same c e2)
     unfold execOp
     simp [ho, resolve, hfv, Deferred.ofValue, invoke, e1]
    ·refine ⟨_, _, _, hK, fun Γ w a s' hgl c hc hfr hr => ?_⟩
     have hrf := hr fo (by rw [ho]; simp [Op.operands, Call.operands])
     rw [hf] at hrf
     refine x30 hgl c ho h1 hrf (by simp) (fun i x y hx' hy => ?_) hx D hv
     simp only [List.getElem?_map] at hx'
     have hx2 := hx'
     rw [hy] at hx'
     cases hx'
     refine x3t hc c (hr y (by rw [ho]; simp only [Op.operands, Call.operands]; exact Array.mem_append_right _ (Array.mem_toList_iff.1 (List.mem_of_getElem? hy)))) (y29 hx (i := i) ?_)
     simp only [List.getElem?_map]
     exact hx2
    refine ⟨_, _, _, hK, fun Γ w a s' hgl c hc hfr hr => ?_⟩
    have hrf := hr fo (by rw [ho]; simp [Op.operands, Call.operands])
    rw [hf] at hrf
    rw [q7w s s'] at D
    have hbb : ∀ k o, b.obj k = some o → s'.obj k = some o := by
     intro k ob hk
     rcases hB with rfl | rfl
     ·exact hc.base k ob hk
     ·refine x5u hc c (fun x hx => ?_) hk
      simp only [X2, List.mem_append, List.mem_map] at hx
      rcases hx with ⟨y, hy, rfl⟩ | hx
      ·exact ⟨_, hr y (by rw [ho]; simp only [Op.operands, Call.operands]; exact Array.mem_append_right _ (Array.mem_toList_iff.1 hy))⟩
      ·obtain ⟨cv, _, q1, q2⟩ := z7f hrf
       obtain ⟨i, hi⟩ := List.mem_iff_getElem?.1 hx
       have hlt : i < cv.toList.length := by rw [← q1]; exact (List.getElem?_eq_some_iff.1 hi).1
       exact ⟨_, q2 i x _ hi (List.getElem?_eq_getElem hlt)⟩
    have := y8l (tip := false) (A := b.up) (d := dst) rfl hgl c ho h1 h2 hrf (fun y hy => hr y (by rw [ho]; simp only [Op.operands, Call.operands]; exact Array.mem_append_right _ (Array.mem_toList_iff.1 hy))) (by rw [q6Q]; rfl) D
     (fun k o hk => by
      simp only [S.up] at hk ⊢
      cases hb : b.obj k with
      | none => simp [hb] at hk
      | some ob => rw [hbb k ob hb]; rw [hb] at hk; exact hk)
     (fun k o hk => (y0e hL hk).elim) (fun j o hj => hfr.l _ _ (y5h dst hL hj)) (fun m x hm => hfr.t _ x (by rw [y7g]; exact hm))
    have e : S.back s' false (X2 (args.toList.map ρa) caps) dst v L = s'.add (dnL dst L) (dnT dst (v.tkR 2000)) := by
     simp [S.back, S.add, q6Q, q5p]
    rw [← e]
    exact this
   ·exact h.elim
  ·rename_i hb
   simp only at hb h
   subst hb
   split at h
   ·rename_i x y t t' hargs hts
    have hargs' : args = #[x, y] := by cases args; simpa using hargs
    have hts' : ts = #[t, t'] := by cases ts; simpa using hts
    subst hargs'; subst hts'
    obtain ⟨h1, h⟩ := h
    split at h
    ·rename_i eb e eb0 e0 ht hx
     obtain ⟨ys, hK, hs⟩ := q8P hP h
     split at hK
     ·obtain ⟨hne, hK⟩ := hK
      refine ⟨_, _, _, hK, fun Γ w a s' _ c hc hf hr => ?_⟩
      have hyr := hr y (by rw [ho]; simp [Op.operands, Call.operands])
      have hxr := hr x (by rw [ho]; simp [Op.operands, Call.operands])
      obtain ⟨Y', hyr', hs'⟩ := q6E hc c hyr hs
      exact z41 hP c ho ht h1 (hf.l _ _ (q0Y _ _ _)) hxr (.inr ⟨_, _, hx⟩) hyr' hs' hne
     ·refine ⟨_, _, _, hK, fun Γ w a s' _ c hc hf hr => ?_⟩
      have hyr := hr y (by rw [ho]; simp [Op.operands, Call.operands])
      have hxr := hr x (by rw [ho]; simp [Op.operands, Call.operands])
      obtain ⟨Y', hyr', hs'⟩ := q6E hc c hyr hs
      exact z1W hP c ho ht h1 (hf.t dst _ (q5e _ _ _)) hxr (.inr ⟨_, _, hx⟩) hyr' hs'
    ·rename_i eb e ht hx
     obtain ⟨ys, hK, hs⟩ := q8P hP h
     split at hK
     ·obtain ⟨hne, hK⟩ := hK
      refine ⟨_, _, _, hK, fun Γ w a s' _ c hc hf hr => ?_⟩
      have hyr := hr y (by rw [ho]; simp [Op.operands, Call.operands])
      have hxr := hr x (by rw [ho]; simp [Op.operands, Call.operands])
      obtain ⟨Y', hyr', hs'⟩ := q6E hc c hyr hs
      exact z41 hP c ho ht h1 (hf.l _ _ (q0Y _ _ _)) hxr (.inl hx) hyr' hs' hne
     ·refine ⟨_, _, _, hK, fun Γ w a s' _ c hc hf hr => ?_⟩
      have hyr := hr y (by rw [ho]; simp [Op.operands, Call.operands])
      have hxr := hr x (by rw [ho]; simp [Op.operands, Call.operands])
      obtain ⟨Y', hyr', hs'⟩ := q6E hc c hyr hs
      exact z1W hP c ho ht h1 (hf.t dst _ (q5e _ _ _)) hxr (.inl hx) hyr' hs'
    ·exact h.elim
   ·exact h.elim
  ·rename_i hb
   simp only at hb h
   subst hb
   split at h
   ·rename_i x T hargs hts
    have hargs' : args = #[x] := by cases args; simpa using hargs
    have hts' : ts = #[T] := by cases ts; simpa using hts
    subst hargs'; subst hts'
    split at h
    ·rename_i k hx
     split at h
     ·rename_i pr kτ vτ es hT hobj
      obtain ⟨h1, hK⟩ := h
      refine ⟨_, _, _, hK, fun Γ w a s' _ c hc _ hr => ?_⟩
      have hxr := hr x (by rw [ho]; simp [Op.operands, Call.operands])
      rw [hx] at hxr
      obtain ⟨b, hι, _⟩ := z2I hxr
      exact x01 c ho (kt := pr.1) (et := pr.2) hT hxr (hc.getObj c (by rw [hι]; simp) hobj) h1
     ·exact h.elim
    ·exact viaPv h
   ·exact viaPv h
  ·exact viaPv h
 ·-- a string of bytes
  rename_i src dst' x ho
  split at h
  ·rename_i ys hys
   refine ⟨_, _, _, h, fun Γ w a s' _ c hc _ hr => ?_⟩
   have hxr := hr x (by rw [ho]; simp [Op.operands])
   obtain ⟨Y', hxr', hys'⟩ := y4E hc c hxr hys
   exact x2r hP c ho hys' hxr'
  ·exact viaPv h
 ·exact viaPv h
end
end Go.E
namespace Go.E
open Go
def C.isNil : C → Bool
 | .nil => true
 | _ => false
def q9e : Operand → Bool
 | .const .nilIface => true
 | _ => false
def y6K (P : Program) (src dst : TypeId) (x : V) : Option (List C) :=
 match ty P src, ty P dst with
 | .str, .slice eb e => if e.y52 = true ∧ eb = 1 then (match x with
  | .d .str c => some (c.toStr.map fun b => C.int b.toNat)
  | _ => none) else none
 | _, _ => none
def y04 (P : Program) (T : TypeId) : Bool :=
 match ty P T with
 | .iface | .opq _ => false
 | _ => true
noncomputable def fop (X : Cx) (o : Oper) (ρ : Operand → V) (K : V → Prop) : Prop :=
 match o.op with
 | .convert src dst x => (match y6K X.P src dst (ρ x) with
  | some ys => K (.d (.slice 1 (.int .u8)) (.slice ys))
  | none => False)
 | .makeInterface T _ => y04 X.P T = true ∧ K (.d .iface (.bool true))
 | .binOp op T x y _ => q9e y = true ∧ ty X.P T = .iface ∧ (match op, ρ x with
  | .eql, .d .iface c => K (.d .bool (.bool c.isNil))
  | .neq, .d .iface c => K (.d .bool (.bool (!c.isNil)))
  | _, _ => False)
 | _ => False
noncomputable def sl3 (X : Cx) (md : List (Nat × Nat)) (dst : Nat) (o : Oper) (ρ : Operand → V) (s : S) (K : V → S → Prop) : Prop :=
 match o.op with
 | .slice T x lo hi mx => Q6 md dst = 4 ∧ s.known dst = false ∧ hi.isSome = true ∧ mx.isSome = true ∧ (match ty X.P T with
  | .slice eb e => (match (ρ x).q3y with
   | some (eb', e', cs) => eb' = eb ∧ e' = e ∧ (match Q4 (lo.map ρ) 0, Q4 (hi.map ρ) 0, Q4 (mx.map ρ) 0 with
    | some l, some h, some m => l = 0 ∧ 0 ≤ h ∧ h = m ∧ m ≤ cs.length ∧ K (.sl eb e (cs.take h.toNat) dst) { s with tk := (dst, some (cs.take h.toNat).length) :: s.tk }
    | _, _, _ => False)
   | none => False)
  | _ => False)
 | _ => False
section
variable {X : Cx} {Γ : G} {w : World} {s : S}
theorem y6V {P : Program} {f : Nat} {T : TypeId} (h : tyF P (f + 1) T = .iface) : ∃ ms, P.underlying T = some (.interface ms) := by
 unfold tyF at h
 split at h
 ·cases hu : P.underlying T with
  | none => simp [hu] at h
  | some d => cases d <;> simp [hu] at h ⊢
 ·cases h
theorem y8v {P : Program} {T : TypeId} (h : y04 P T = true) : ∃ d, P.underlying T = some d ∧ ∀ ms, d ≠ .interface ms := by
 unfold y04 ty tyF at h
 split at h
 ·cases h
 ·cases h
 ·rename_i h1 h2
  split at h1
  ·cases hu : P.underlying T with
   | none => simp [hu] at h2
   | some d => exact ⟨d, rfl, fun ms e => by subst e; simp [hu] at h1⟩
  ·rename_i hn
   simp [hn] at h2
theorem z9U {c : C} {v : Value} (h : z7 Γ (.d .iface c) v) : (c = .nil ∧ v = .nilIface) ∨ (c = .bool true ∧ ∃ t u, v = .iface t u) := by
 obtain ⟨h1, h2⟩ := X6.1 h
 rw [v7 (by simpa [Ty.isAgg] using h2)] at h1
 simp only [z9] at h1
 rcases h1 with ⟨rfl, h1⟩ | ⟨rfl, t, u, h1⟩
 ·simp at h1; exact .inl ⟨rfl, h1⟩
 ·simp at h1; exact .inr ⟨rfl, t, u, h1⟩
theorem z9Q {P : Program} {T : TypeId} {ms : Array (String × TypeId)} (hu : P.underlying T = some (.interface ms)) {v : Value} (hv : v = .nilIface ∨ ∃ t u, v = .iface t u) (w : World) :
  (Op.equal T v .nilIface).run P w = .ok (match v with | .nilIface => true | _ => false) w := by
 unfold Op.equal Op.maxDepth
 rw [show (10000 : Nat) = 9999 + 1 from rfl, Op.equalIn, Sem.run_bind, run_underlying hu]
 rcases hv with rfl | ⟨t, u, rfl⟩ <;> rfl
theorem q8g {P : Program} {T : TypeId} {ms : Array (String × TypeId)} (hu : P.underlying T = some (.interface ms)) {x y : Operand} (hy : q9e y = true) {v : Value} (hv : v = .nilIface ∨ ∃ t u, v = .iface t u) (w : World) :
  ((do eqGuard .eql T x y v .nilIface; binOp .eql T v .nilIface) : Sem Value).run P w = .ok (.bool (match v with | .nilIface => true | _ => false)) w ∧
  ((do eqGuard .neq T x y v .nilIface; binOp .neq T v .nilIface) : Sem Value).run P w = .ok (.bool (!(match v with | .nilIface => true | _ => false))) w := by
 obtain ⟨z, rfl⟩ : ∃ z, y = .const z := by
  cases y with
  | const z => exact ⟨z, rfl⟩
  | _ => simp [q9e] at hy
 have he := z9Q hu hv w
 rcases hv with rfl | ⟨t, u, rfl⟩
 ·constructor
  ·rw [eqGuard_nil_constR]
   show (do pure (.bool (← Op.equal T .nilIface .nilIface)) : Sem Value).run P w = _
   rw [Sem.run_bind, he]; rfl
  ·rw [eqGuard_nil_constR]
   show (do pure (.bool (!(← Op.equal T .nilIface .nilIface))) : Sem Value).run P w = _
   rw [Sem.run_bind, he]; rfl
 ·constructor
  ·show (do pure (.bool (← Op.equal T (.iface t u) .nilIface)) : Sem Value).run P w = _
   rw [Sem.run_bind, he]; rfl
  ·show (do pure (.bool (!(← Op.equal T (.iface t u) .nilIface))) : Sem Value).run P w = _
   rw [Sem.run_bind, he]; rfl
theorem x32 {P : Program} (hP : v9 P = true) (c : y9 Γ w s) {o : Oper} {a : Act} {src dst : TypeId} {x : Operand} (ho : o.op = .convert src dst x) {Y : V} {ys : List C} (h : y6K P src dst Y = some ys)
  (hr : z7 Γ Y (a.eval x)) : o8 P o a w (j4 Γ w s (.d (.slice 1 (.int .u8)) (.slice ys))) := by
 unfold y6K at h
 split at h
 ·rename_i eb e hs ht
  obtain ⟨E, hu, hE, _, _⟩ := q1r hP ht
  have hs' := q8N hs
  split at h
  ·rename_i hc0
   obtain ⟨h0, rfl⟩ := hc0
   obtain rfl := Ty.y1Z h0
   have hEu : P.underlying E = some (.int .u8) := y2s hE.symm
   split at h
   ·rename_i cc
    cases h
    obtain ⟨hv, _, hl⟩ := q1s hr
    have run := run_bytes_of_string (P := P) w src dst E ⟨cc.toStr.toArray⟩ hs' hu hEu
    have hsz : (⟨cc.toStr.toArray⟩ : ByteArray).size = cc.toStr.length := by simp [ByteArray.size]
    rw [hsz] at run
    have hge := grownCap_ge w cc.toStr.length 0 E
    have hcm := grownCap_le_maxLen w cc.toStr.length 0 E (by unfold maxLen; omega)
    generalize grownCap w cc.toStr.length 0 E = cap at run hge hcm
    have hrow : (bytesRow ⟨cc.toStr.toArray⟩ cap).toList = cc.toStr.map (fun b => Value.int .u8 b.toNat) ++ (List.replicate (cap - cc.toStr.length) (Value.int .u8 0)) := by
     simp [bytesRow, hsz]
    have hext : Ext w (w.drew.alloc (.cells (bytesRow ⟨cc.toStr.toArray⟩ cap) E ((bytesRow ⟨cc.toStr.toArray⟩ cap).size, (bytesRow ⟨cc.toStr.toArray⟩ cap).size + 1))) := (Ext.drew w).trans (Ext.alloc _ _)
    have hnew := heap_alloc_new w.drew (.cells (bytesRow ⟨cc.toStr.toArray⟩ cap) E ((bytesRow ⟨cc.toStr.toArray⟩ cap).size, (bytesRow ⟨cc.toStr.toArray⟩ cap).size + 1))
    obtain ⟨c1, p1, g1⟩ := c.q12 hext hnew hrow
    refine o8.val (v := .slice (some ⟨w.heap.size, 0, none⟩) cc.toStr.length cap) (w' := w.drew.alloc (.cells (bytesRow ⟨cc.toStr.toArray⟩ cap) E ((bytesRow ⟨cc.toStr.toArray⟩ cap).size, (bytesRow ⟨cc.toStr.toArray⟩ cap).size + 1))) ?_ ⟨_, g1, p1, c1, ?_⟩
    ·unfold execOp
     simp only [ho, hv, Sem.run_bind, run, Result.andThen_ok, Sem.run_pure]
    ·refine X6.2 ⟨o9 (by simp) hge hcm (by omega) (.inr ⟨w.heap.size, 0, _, rfl, j5 _ _ _, by simp [Ty.size], fun i c' hi => ?_⟩), rfl⟩
     simp only [List.getElem?_map] at hi
     cases hb : cc.toStr[i]? with
     | none => rw [hb] at hi; cases hi
     | some b =>
      rw [hb] at hi
      cases hi
      have : chunk (cc.toStr.map (fun b => Value.int .u8 b.toNat)) (0 + i * (Ty.int IntKind.u8).size) (Ty.int IntKind.u8).size = [.int .u8 b.toNat] := by
       apply List.ext_getElem?
       intro j
       rw [p8]
       by_cases hj : j < 1
       ·have : j = 0 := by omega
        subst this
        simp [Ty.size, hb]
       ·simp [Ty.size, hj]
      rw [this]
      simp only [z9]
      refine ⟨_, rfl, rfl, ?_, ?_⟩
      ·have : IntKind.u8.min = 0 := by decide
       omega
      ·have : IntKind.u8.max = 255 := by decide
       have := b.toNat_lt
       omega
   ·cases h
  ·cases h
 ·cases h
theorem y2U (hP : v9 X.P = true) {o : Oper} {ρ : Operand → V} {K : V → Prop} (h : fop X o ρ K) :
  ∃ v, K v ∧ ∀ (Γ : G) (w : World) (a : Act) (s : S), y9 Γ w s → (∀ y ∈ o.op.operands, z7 Γ (ρ y) (a.eval y)) → o8 X.P o a w (j4 Γ w s v) := by
 unfold fop at h
 split at h
 ·rename_i src dst x ho
  split at h
  ·rename_i ys hys
   exact ⟨_, h, fun Γ w a s c hr => x32 hP c ho hys (hr x (by rw [ho]; simp [Op.operands]))⟩
  ·exact h.elim
 ·rename_i T x ho
  obtain ⟨h1, hK⟩ := h
  obtain ⟨d, hd, hni⟩ := y8v h1
  refine ⟨_, hK, fun Γ w a s c hr => o8.val (v := .iface T (a.eval x)) (w' := w) ?_ (j4.same c (X6.2 ⟨?_, rfl⟩))⟩
  ·unfold execOp
   simp only [ho, Sem.run_bind, Instr.makeInterface, run_underlying hd]
   cases d <;> first
    | exact absurd rfl (hni _)
    | simp [Sem.run_pure, Result.andThen]
  ·simp only [Value.cells, z9]
   exact .inr ⟨trivial, _, _, rfl⟩
 ·rename_i op T x y yT ho
  obtain ⟨hy, hT, h⟩ := h
  obtain ⟨ms, hu⟩ := y6V (f := 11) hT
  have hyv : ∀ a : Act, a.eval y = .nilIface := fun a => by
   cases y with
   | const z => cases z <;> simp [q9e] at hy; rfl
   | _ => simp [q9e] at hy
  split at h
  ·rename_i cc hx
   refine ⟨_, h, fun Γ w a s c hr => ?_⟩
   have hxr := hr x (by rw [ho]; simp [Op.operands])
   rw [hx] at hxr
   rcases z9U hxr with ⟨rfl, hv⟩ | ⟨rfl, t, u, hv⟩
   ·refine o8.val (v := .bool true) (w' := w) ?_ (j4.same c (s7))
    unfold execOp
    simp only [ho, hyv, hv]
    have := (q8g (P := X.P) hu (x := x) hy (v := .nilIface) (.inl rfl) w).1
    simp only [Sem.run_bind] at this ⊢
    rw [this]
    rfl
   ·refine o8.val (v := .bool false) (w' := w) ?_ (j4.same c (s7))
    unfold execOp
    simp only [ho, hyv, hv]
    have := (q8g (P := X.P) hu (x := x) hy (v := .iface t u) (.inr ⟨_, _, rfl⟩) w).1
    simp only [Sem.run_bind] at this ⊢
    rw [this]
    rfl
  ·rename_i cc hx
   refine ⟨_, h, fun Γ w a s c hr => ?_⟩
   have hxr := hr x (by rw [ho]; simp [Op.operands])
   rw [hx] at hxr
   rcases z9U hxr with ⟨rfl, hv⟩ | ⟨rfl, t, u, hv⟩
   ·refine o8.val (v := .bool false) (w' := w) ?_ (j4.same c (s7))
    unfold execOp
    simp only [ho, hyv, hv]
    have := (q8g (P := X.P) hu (x := x) hy (v := .nilIface) (.inl rfl) w).2
    simp only [Sem.run_bind] at this ⊢
    rw [this]
    rfl
   ·refine o8.val (v := .bool true) (w' := w) ?_ (j4.same c (s7))
    unfold execOp
    simp only [ho, hyv, hv]
    have := (q8g (P := X.P) hu (x := x) hy (v := .iface t u) (.inr ⟨_, _, rfl⟩) w).2
    simp only [Sem.run_bind] at this ⊢
    rw [this]
    rfl
  ·exact h.elim
 ·exact h.elim
theorem y91 (hP : v9 X.P = true) {md : List (Nat × Nat)} {dst : Nat} {o : Oper} {ρa : Operand → V} {K : V → S → Prop} (h : sl3 X md dst o ρa s K) :
  ∃ v s1, K v s1 ∧ s1.A = s.A ∧ s1.env = s.env ∧ ∀ (Γ : G) (w : World) (a : Act), y9 Γ w s → (∀ y ∈ o.op.operands, z7 Γ (ρa y) (a.eval y)) → o8 X.P o a w (j4 Γ w s1 v) := by
 unfold sl3 at h
 split at h
 ·rename_i T x lo hi mx ho
  obtain ⟨_, hn, hhs, hms, h⟩ := h
  split at h
  ·rename_i eb e ht
   obtain ⟨E, hu, rfl, _, hE⟩ := q1r hP ht
   split at h
   ·rename_i eb' e' cs hx
    obtain ⟨rfl, rfl, h⟩ := h
    split at h
    ·rename_i l hh m hl hhi hm
     obtain ⟨rfl, h0, rfl, h2, hK⟩ := h
     refine ⟨_, _, hK, rfl, rfl, fun Γ w a c hr => ?_⟩
     rw [ho] at hr
     have r1 := hr x (by simp [Op.operands])
     have r2 : ∀ y, lo = some y → z7 Γ (ρa y) (a.eval y) := fun y e => hr y (by subst e; simp [Op.operands])
     have r3 : ∀ y, hi = some y → z7 Γ (ρa y) (a.eval y) := fun y e => hr y (by subst e; simp [Op.operands])
     have r4 : ∀ y, mx = some y → z7 Γ (ρa y) (a.eval y) := fun y e => hr y (by subst e; simp [Op.operands])
     obtain ⟨ad, n, cap, hv, hcs, hnc, hcap, hb, hrep⟩ := q1m r1 hx
     have hhn : hh.toNat ≤ n := by omega
     have b1 : lo.map a.eval = none ∧ (0 : Nat) = 0 ∨ ∃ k, lo.map a.eval = some (.int k ((0 : Nat) : Int)) := by
      rcases q4f hl r2 with ⟨rfl, _⟩ | ⟨k, y, rfl, hy⟩
      ·exact .inl ⟨rfl, rfl⟩
      ·exact .inr ⟨k, hy⟩
     have b2 : ∃ k, hi.map a.eval = some (.int k (hh.toNat : Int)) := by
      rcases q4f hhi r3 with ⟨rfl, _⟩ | ⟨k, y, rfl, hy⟩
      ·cases hhs
      ·exact ⟨k, by rw [hy, Int.toNat_of_nonneg h0]⟩
     have b3 : ∃ k, mx.map a.eval = some (.int k (hh.toNat : Int)) := by
      rcases q4f hm r4 with ⟨rfl, _⟩ | ⟨k, y, rfl, hy⟩
      ·cases hms
      ·exact ⟨k, by rw [hy, Int.toNat_of_nonneg h0]⟩
     obtain ⟨km, b3⟩ := b3
     obtain ⟨c1, p1, g1⟩ := c.U0 hn (x := none) (L := (cs.take hh.toNat).length) (fun _ _ _ h => by cases h)
     have hlen : (cs.take hh.toNat).length = hh.toNat := by simp; omega
     have hcut := z81 hrep (Nat.zero_le hh.toNat) hhn
     have hrep' : z9 Γ.H (.slice eb' (tyF X.P 11 E)) [.slice (if hh.toNat = 0 then ad else ad.map (·.add (0 * (tyF X.P 11 E).size))) hh.toNat hh.toNat] (.slice (cs.take hh.toNat)) := by
      obtain ⟨a', n', cap', e1, _, e2, e3, e4, e5, e6⟩ := q0j hrep
      simp at e1
      obtain ⟨rfl, rfl, rfl⟩ := e1
      simp only [C.elems] at e2 e6
      refine o9 hlen (Nat.le_refl _) (by omega) (Nat.le_trans (Nat.mul_le_mul_right _ hhn) hb) ?_
      by_cases hz : hh.toNat = 0
      ·exact .inl hz
      ·rcases e6 with e6 | ⟨b, off, ll, rfl, hb', hs', hc⟩
       ·omega
       ·refine .inr ⟨b, off, ll, ?_, hb', ?_, fun i c' hi => ?_⟩
        ·rw [if_neg hz]
         simp [Addr.add]
        ·have : hh.toNat * (tyF X.P 11 E).size ≤ n * (tyF X.P 11 E).size := Nat.mul_le_mul_right _ hhn
         omega
        ·rw [List.getElem?_take] at hi
         split at hi
         ·exact hc _ _ hi
         ·cases hi
     refine o8.val (v := .slice (if hh.toNat = 0 then ad else ad.map (·.add (0 * (tyF X.P 11 E).size))) hh.toNat hh.toNat) (w' := w) ?_ ⟨_, g1, p1, c1, (s6 rfl rfl).2 ⟨?_, rfl⟩⟩
     ·unfold execOp
      simp only [ho, hv, Instr.sliceAt, Sem.run_bind, run_underlying hu, Result.andThen_ok, Instr.slice, b3]
      rw [z0p (n := n) (l := 0) (h := hh.toNat) (m := hh.toNat) b1 b2 (Nat.zero_le _) (Nat.le_refl _) (by omega)]
      simp [q0K (f := 11) hP (w := w) hE]
     ·simp only [z6]
      refine ⟨_, hh.toNat, hh.toNat, rfl, hrep'.mono p1.1, none, _, by simp [G.U0, Z1], Nat.le_refl _, fun _ => rfl⟩
    ·exact h.elim
   ·exact h.elim
  ·exact h.elim
 ·exact h.elim
end
end Go.E
namespace Go.E
open Go
def z6J {α : Type} : List (Key × α) → Key → Bool
 | [], _ => false
 | (j, _) :: l, k => decide (j = k) || z6J l k
def z9S {α : Type} : List (Key × α) → Key → α → List (Key × α)
 | [], _, _ => []
 | (j, x) :: l, k, y => if j = k then (j, y) :: l else (j, x) :: z9S l k y
def y42 {α : Type} (l : List (Key × α)) (k : Key) (y : α) : List (Key × α) := bif z6J l k then z9S l k y else (k, y) :: l
def z6I {α : Type} : List (Nat × α) → Nat → Bool
 | [], _ => false
 | (j, _) :: l, k => decide (j = k) || z6I l k
def z1C {α : Type} : List (Nat × α) → Nat → α → List (Nat × α)
 | [], _, _ => []
 | (j, x) :: l, k, y => if j = k then (j, y) :: l else (j, x) :: z1C l k y
def z84 {α : Type} (l : List (Nat × α)) (k : Nat) (y : α) : List (Nat × α) := bif z6I l k then z1C l k y else (k, y) :: l
theorem y0s {α : Type} : ∀ (l : List (Key × α)) (k : Key) (y : α) (j : Key), z6J l k = true → z8 (z9S l k y) j = if k = j then some y else z8 l j
 | [], _, _, _, h => by simp [z6J] at h
 | (i, x) :: l, k, y, j, h => by
  simp only [z9S]
  by_cases e : i = k
  ·subst e; simp only [if_true, z8]; by_cases e2 : i = j <;> simp [e2]
  ·rw [if_neg e]
   simp only [z8]
   have h' : z6J l k = true := by simpa [z6J, e] using h
   rw [y0s l k y j h']
   by_cases e2 : i = j
   ·subst e2; simp [fun h : k = i => e h.symm]; intro h; exact absurd h.symm e
   ·simp [e2]
theorem x0o {α : Type} (l : List (Key × α)) (k : Key) (y : α) (j : Key) : z8 (y42 l k y) j = if k = j then some y else z8 l j := by
 unfold y42
 cases h : z6J l k with
 | true => exact y0s l k y j h
 | false => rfl
theorem y2D {α : Type} : ∀ (l : List (Nat × α)) (k : Nat) (y : α) (j : Nat), z6I l k = true → look (z1C l k y) j = if k = j then some y else look l j
 | [], _, _, _, h => by simp [z6I] at h
 | (i, x) :: l, k, y, j, h => by
  simp only [z1C]
  by_cases e : i = k
  ·subst e; simp only [if_true, look]; by_cases e2 : i = j <;> simp [e2]
  ·rw [if_neg e]
   simp only [look]
   have h' : z6I l k = true := by simpa [z6I, e] using h
   rw [y2D l k y j h']
   by_cases e2 : i = j
   ·subst e2; simp; intro h; exact absurd h.symm e
   ·simp [e2]
theorem z04 {α : Type} (l : List (Nat × α)) (k : Nat) (y : α) (j : Nat) : look (z84 l k y) j = if k = j then some y else look l j := by
 unfold z84
 cases h : z6I l k with
 | true => exact y2D l k y j h
 | false => rfl
def S.put (s : S) (k : Key) (o : O) : S := { s with loc := y42 s.loc k o }
def S.tok (s : S) (t : Nat) (L : Option Nat) : S := { s with tk := z84 s.tk t L }
def q0I : List (Nat × List Nat) → S → S
 | [], s => s
 | (t, _) :: σ, s => q0I σ (s.tok t none)
theorem X3 (s : S) (k j : Key) (o : O) : (s.put k o).obj j = if k = j then some o else s.obj j := by
 simp only [S.put, S.obj, Z8, x0o]
 by_cases h : k = j
 ·simp only [h, if_true]
 ·simp only [if_neg h]
theorem z9l (s : S) (t u : Nat) (L : Option Nat) : (s.tok t L).live u = if t = u then L else s.live u := by
 simp only [S.tok, S.live, q0n, z04]
 by_cases h : t = u
 ·subst h; simp only [if_true]; cases L <;> rfl
 ·simp [h]
theorem z1R (s : S) (t u : Nat) (L : Option Nat) : (s.tok t L).known u = (decide (t = u) || s.known u) := by
 simp only [S.tok, S.known, z04]
 by_cases h : t = u
 ·subst h; simp
 ·simp [h]
theorem y5r : ∀ (σ : List (Nat × List Nat)) (s : S) (k : Key), (q0I σ s).obj k = s.obj k
 | [], _, _ => rfl
 | (t, _) :: σ, s, k => by simp only [q0I, y5r σ]; rfl
theorem y2J : ∀ (σ : List (Nat × List Nat)) (s : S) (u : Nat), (q0I σ s).live u = match look σ u with | some _ => none | none => s.live u
 | [], _, _ => rfl
 | (t, p) :: σ, s, u => by
  simp only [q0I, y2J σ, z9l, look]
  by_cases h : t = u
  ·subst h; simp; cases look σ t <;> rfl
  ·simp [h]
theorem z3R : ∀ (σ : List (Nat × List Nat)) (s : S) (u : Nat), s.known u = true → (q0I σ s).known u = true
 | [], _, _, h => h
 | (t, p) :: σ, s, u, h => by
  simp only [q0I]
  exact z3R σ _ u (by rw [z1R, h]; simp)
theorem z8C : ∀ (σ : List (Nat × List Nat)) (s : S) (u : Nat), look σ u ≠ none → (q0I σ s).known u = true
 | [], _, _, h => by simp [look] at h
 | (t, p) :: σ, s, u, h => by
  simp only [q0I]
  by_cases e : t = u
  ·subst e; exact z3R σ _ t (by rw [z1R]; simp)
  ·exact z8C σ _ u (by simpa [look, e] using h)
def q5r (d : Nat) : List (Key × O) → S → S
 | [], s => s
 | (k, o) :: L, s => (q5r d L s).put (dn d k) (o.ren (dn d))
def q2s (d : Nat) : List (Nat × Option Nat) → S → S
 | [], s => s
 | (m, x) :: l, s => (q2s d l s).tok (rk d m) x
def q6k : List Nat → S → S
 | [], s => s
 | t :: l, s => (q6k l s).tok t none
theorem y5p (d : Nat) : ∀ (L : List (Key × O)) (s : S) (k : Key), (q5r d L s).obj k = match z8 (dnL d L) k with | some o => some o | none => s.obj k
 | [], _, _ => rfl
 | (j, o) :: L, s, k => by
  simp only [q5r, X3, dnL, z8, y5p d L s k]
  split <;> rfl
theorem y7R (d : Nat) : ∀ (L : List (Key × O)) (s : S), (q5r d L s).tk = s.tk
 | [], _ => rfl
 | (j, o) :: L, s => by simp only [q5r, S.put, y7R d L s]
theorem y2E (d : Nat) : ∀ (l : List (Nat × Option Nat)) (s : S) (t : Nat), look (q2s d l s).tk t = match look (dnT d l) t with | some x => some x | none => look s.tk t
 | [], _, _ => rfl
 | (m, x) :: l, s, t => by
  simp only [q2s, S.tok, z04, dnT, look, y2E d l s t]
  split <;> rfl
theorem z9i (d : Nat) : ∀ (l : List (Nat × Option Nat)) (s : S), (q2s d l s).loc = s.loc ∧ (q2s d l s).A = s.A
 | [], _ => ⟨rfl, rfl⟩
 | (m, x) :: l, s => by simp only [q2s, S.tok]; exact z9i d l s
theorem y2F : ∀ (l : List Nat) (s : S) (t : Nat), look (q6k l s).tk t = match look (q5p l) t with | some x => some x | none => look s.tk t
 | [], _, _ => rfl
 | m :: l, s, t => by
  simp only [q6k, S.tok, z04, q5p, look, y2F l s t]
  split <;> rfl
theorem z9j : ∀ (l : List Nat) (s : S), (q6k l s).loc = s.loc ∧ (q6k l s).A = s.A
 | [], _ => ⟨rfl, rfl⟩
 | m :: l, s => by simp only [q6k, S.tok]; exact z9j l s
def S.ret (s : S) (tip : Bool) (ys : List V) (d : Nat) (v : V) (L : List (Key × O)) : S := q2s d (v.tkR 2000) (q6k (Z2 tip s ys) (q5r d L s))
theorem x3x (s : S) (tip : Bool) (ys : List V) (d : Nat) (v : V) (L : List (Key × O)) (k : Key) : (s.ret tip ys d v L).obj k = (s.back tip ys d v L).obj k := by
 have h1 := z9i d (v.tkR 2000) (q6k (Z2 tip s ys) (q5r d L s))
 have h2 := z9j (Z2 tip s ys) (q5r d L s)
 have h3 := y5p d L s k
 unfold S.obj at h3 ⊢
 simp only [S.ret, h1.1, h1.2, h2.1, h2.2, h3]
 unfold Z8 S.back
 simp only [q1G]
 cases z8 (dnL d L) k <;> rfl
theorem y96 (s : S) (tip : Bool) (ys : List V) (d : Nat) (v : V) (L : List (Key × O)) (t : Nat) : look (s.ret tip ys d v L).tk t = look (s.back tip ys d v L).tk t := by
 simp only [S.ret, y2E, y2F, y7R, S.back, q2w]
 cases look (dnT d (v.tkR 2000)) t <;> cases look (q5p (Z2 tip s ys)) t <;> rfl
def gOk (s : S) (d : Nat) : List (Key × O) → Prop
 | [] => True
 | (.g k, _) :: L => (s.obj k).isSome = true ∧ gOk s d L
 | (.l j, _) :: L => s.obj (.l (rk d j)) = none ∧ gOk s d L
def tOk (s : S) (d : Nat) : List (Nat × Option Nat) → Prop
 | [] => True
 | (m, _) :: l => s.known (rk d m) = false ∧ tOk s d l
theorem y9l {s : S} {d : Nat} : ∀ {L : List (Key × O)} {k : Key} {o : O}, gOk s d L → z8 L (.g k) = some o → s.obj k ≠ none
 | [], _, _, _, h => by simp [z8] at h
 | (.g j, o') :: L, k, o, hg, h => by
  simp only [z8] at h
  split at h
  ·rename_i e; cases e; have := hg.1; intro h'; rw [h'] at this; cases this
  ·exact y9l hg.2 h
 | (.l j, o') :: L, k, o, hg, h => by simp [z8] at h; exact y9l hg.2 h
theorem y9k {s : S} {d : Nat} : ∀ {L : List (Key × O)} {j : Nat} {o : O}, gOk s d L → z8 L (.l j) = some o → s.obj (.l (rk d j)) = none
 | [], _, _, _, h => by simp [z8] at h
 | (.l i, o') :: L, j, o, hg, h => by
  simp only [z8] at h
  split at h
  ·rename_i e; cases e; exact hg.1
  ·exact y9k hg.2 h
 | (.g i, o') :: L, j, o, hg, h => by simp [z8] at h; exact y9k hg.2 h
theorem x2Q {s : S} {d : Nat} : ∀ {l : List (Nat × Option Nat)} {m : Nat} {x : Option Nat}, tOk s d l → look l m = some x → s.known (rk d m) = false
 | [], _, _, _, h => by simp [look] at h
 | (i, y) :: l, m, x, hg, h => by
  simp only [look] at h
  split at h
  ·rename_i e; subst e; exact hg.1
  ·exact x2Q hg.2 h
def top (X : Cx) (md : List (Nat × Nat)) (dst : Nat) (o : Oper) (ρ : Operand → V) (s : S) (K : V → S → Prop) : Prop :=
 match o.op with
 | .store T p y => (match ρ p with
   | .ptr k q τ => (match s.obj k with
     | some (.box x) => τ = ty X.P T ∧ τ.known = true ∧ (X1 τ (ρ y)).ty = τ ∧ (X1 τ (ρ y)).plain = true ∧ x.at q ≠ .any ∧ x.ty.W9 = true ∧ (X1 τ (ρ y)).okH = true ∧
       K .any (q0I ((X1 τ (ρ y)).sites s.live q) (s.put k (.box (x.setAt q ((X1 τ (ρ y)).b6 ((X1 τ (ρ y)).sites s.live q) s.live q)))))
     | _ => False)
   | _ => False)
 | .box _ x => (ρ x).plain = true ∧ (ρ x).okH = true ∧ s.obj (.l dst) = none ∧
   K (.ptr (.l dst) [] (ρ x).ty) (q0I ((ρ x).sites s.live []) (s.put (.l dst) (.box ((ρ x).b6 ((ρ x).sites s.live []) s.live []))))
 | .load T x => (match ρ x with
   | .ptr k q τ => (match s.obj k with
     | some (.box y) => (match y.at q with
      | .ts eb e cs => Q6 md dst = 1 ∧ τ = ty X.P T ∧ τ = .slice eb e ∧ y.ty.W9 = true ∧ s.known dst = false ∧ K (.sl eb e cs dst) ((s.put k (.box (y.setAt q (.d (.slice eb e) (.slice cs))))).tok dst (some cs.length))
      | _ => False)
     | _ => False)
   | _ => False)
 | .mapUpdate T x i y => (match q7V X.P T, ρ x with
   | some (kt, et), .mp k => (match s.obj k with
     | some (.map kτ vτ es) => kτ = ty X.P kt ∧ vτ = ty X.P et ∧ W2 X.P kt = true ∧ kτ.flat = true ∧ (ρ i).W1 kτ ∧ (X1 vτ (ρ y).b8).ty = vτ ∧ (X1 vτ (ρ y).b8).plain = true ∧ (X1 vτ (ρ y).b8).k6 = true ∧
       K .any (s.put k (.map kτ vτ (q4g es (ρ i).toC (X1 vτ (ρ y).b8))))
     | _ => False)
   | _, _ => False)
 | .call c => (match c.callee with
   | .value fo => (match ρ fo with
     | .fn f caps => q2y X.P f = true ∧ c.argTypes.toList.length = c.args.toList.length ∧ q1D (Z2 (Q6 md dst == 1) s (X2 (c.args.toList.map ρ) caps)) = true ∧
      ∃ v L, Q0 X f (Z9 X.P (Q6 md dst == 1) s (q7r c.argTypes.toList caps) (X2 (c.args.toList.map ρ) caps)) s.up v L ∧ gOk s dst L ∧ tOk s dst (v.tkR 2000) ∧
       K ((v.U5 2000).ren (dn dst) (rk dst)) (s.ret (Q6 md dst == 1) (X2 (c.args.toList.map ρ) caps) dst v L)
     | _ => False)
   | .builtin .append => (match c.args.toList, c.argTypes.toList with
     | [x, y], [t, t'] => Y0 X.P (w8 X.P t) = true ∧ (match ty X.P t, ρ x with
       | .slice eb e, .sl eb' e' cs tk => eb' = eb ∧ e' = e ∧ s.live tk = some cs.length ∧
         q9n X.P s t' eb e (ρ y) fun ys => (cs.length + ys.length) * eb ≤ 140737488355328 ∧ cs.length + ys.length ≤ maxLen ∧ K (.sl eb e (cs ++ ys) tk) (s.tok tk (some (cs.length + ys.length)))
       | .slice eb e, .sr k [] 0 n none eb' e' => (match s.obj k with
         | some (.box (.d (.arr M e2) cc)) => eb' = eb ∧ e' = e ∧ e2 = e ∧ ∃ d, s.obj (.l d) = none ∧
           q9n X.P s t' eb e (ρ y) fun ys => ys ≠ [] ∧ (n + ys.length) * eb ≤ 140737488355328 ∧ n + ys.length ≤ maxLen ∧
            K (.sr (.l d) [] 0 (n + ys.length) none eb e) ((s.put k (.dead (.arr M e))).put (.l d) (.box (.d (.arr (n + ys.length) e) (.agg (cc.elems.take n ++ ys)))))
         | _ => False)
       | _, _ => False)
     | _, _ => False)
   | .builtin .copy => (match c.args.toList, c.argTypes.toList with
     | [x, y], [t, t'] => Y0 X.P (w8 X.P t) = true ∧ (match ty X.P t, ρ x with
       | .slice eb e, .sr k q lo n (some _) eb' e' => (match s.obj k with
         | some (.box Z) => (match Z.at q with
          | .d (.arr m e2) cc => eb' = eb ∧ e' = e ∧ e2 = e ∧ Z.ty.W9 = true ∧ 0 < n ∧
            q9n X.P s t' eb e (ρ y) fun ys => K (.d (.int .i64) (.int (min ys.length n : Nat))) (s.put k (.box (Z.setAt q (.d (.arr m e) (.agg (q1h cc.elems lo n ys))))))
          | _ => False)
         | _ => False)
       | _, _ => False)
     | _, _ => False)
   | _ => False)
 | _ => False
def x28 (X : Cx) (o : Oper) (ρ : Operand → V) (s : S) (v : V) (s1 : S) : Prop :=
 s1.A = s.A ∧ s1.env = s.env ∧ ∀ (Γ : G) (w : World) (a : Act), Γ.gl = X.gl → y9 Γ w s → (∀ y ∈ o.op.operands, z7 Γ (ρ y) (a.eval y)) → o8 X.P o a w (j4 Γ w s1 v)
section
variable {X : Cx} {Γ : G} {w : World} {s : S}
theorem j4.congr {s1 s2 : S} {x : V} {v : Value} {w' : World} (h : j4 Γ w s1 x v w') (h1 : ∀ k, s2.obj k = s1.obj k) (h2 : ∀ t, s2.live t = s1.live t) (h3 : ∀ t, s1.known t = true → s2.known t = true) : j4 Γ w s2 x v w' := by
 obtain ⟨Γ', a, b, c, d⟩ := h
 exact ⟨Γ', a, b, c.congr h1 h2 h3, d⟩
theorem z1j : ∀ (σ : List (Nat × List Nat)) (s : S), (q0I σ s).env = s.env ∧ (q0I σ s).A = s.A
 | [], _ => ⟨rfl, rfl⟩
 | (t, _) :: σ, s => by simp only [q0I]; exact z1j σ _
theorem z9x (d : Nat) : ∀ (L : List (Key × O)) (s : S), (q5r d L s).env = s.env ∧ (q5r d L s).A = s.A
 | [], _ => ⟨rfl, rfl⟩
 | _ :: L, s => by simp only [q5r, S.put]; exact z9x d L s
theorem y6k (d : Nat) : ∀ (l : List (Nat × Option Nat)) (s : S), (q2s d l s).env = s.env
 | [], _ => rfl
 | _ :: l, s => by simp only [q2s, S.tok]; exact y6k d l s
theorem y6l : ∀ (l : List Nat) (s : S), (q6k l s).env = s.env
 | [], _ => rfl
 | _ :: l, s => by simp only [q6k, S.tok]; exact y6l l s
theorem y7U (tip : Bool) (ys : List V) (d : Nat) (v : V) (L : List (Key × O)) : (s.ret tip ys d v L).env = s.env ∧ (s.ret tip ys d v L).A = s.A := by
 unfold S.ret
 exact ⟨by rw [y6k, y6l, (z9x d L s).1], by rw [(z9i _ _ _).2, (z9j _ _).2, (z9x d L s).2]⟩
theorem z6x {s s' : S} (h : ∀ t, look s.tk t = look s'.tk t) (t : Nat) : s.live t = s'.live t := by unfold S.live q0n; rw [h]
theorem z4Y {s s' : S} (h : ∀ t, look s.tk t = look s'.tk t) (t : Nat) : s.known t = s'.known t := by unfold S.known; rw [h]
theorem y0y {σ : List (Nat × List Nat)} {k : Key} {o : O} {x : V} {v : Value} {w' : World} (h : j4 Γ w { s with loc := (k, o) :: s.loc, tk := q7q σ ++ s.tk } x v w') : j4 Γ w (q0I σ (s.put k o)) x v w' := by
 refine h.congr (fun j => ?_) (fun t => ?_) (fun t ht => ?_)
 ·rw [y5r, X3]
  exact (Q9 { s with tk := q7q σ ++ s.tk } k j o).symm
 ·rw [y2J]
  unfold S.live q0n
  simp only [q8t]
  cases look σ t <;> rfl
 ·unfold S.known at ht
  simp only [q8t] at ht
  cases hs : look σ t with
  | none => rw [hs] at ht; exact z3R σ _ t ht
  | some p => exact z8C σ _ t (by rw [hs]; simp)
theorem z5s (hP : v9 X.P = true) {md : List (Nat × Nat)} {dst : Nat} {o : Oper} {ρ : Operand → V} {K : V → S → Prop} (h : top X md dst o ρ s K) : ∃ v s1, K v s1 ∧ x28 X o ρ s v s1 := by
 unfold top at h
 split at h
 ·rename_i T p y ho
  split at h
  ·rename_i k q τ hp
   split at h
   ·rename_i x hobj
    obtain ⟨h1, h2, h3, h4, h5, h6, h7, hK⟩ := h
    refine ⟨_, _, hK, by rw [(z1j _ _).2]; rfl, by rw [(z1j _ _).1]; rfl, fun Γ w a _ c hr => ?_⟩
    have hpr := hr p (by rw [ho]; simp [Op.operands])
    rw [hp] at hpr
    have := x0Z (Y := ρ y) hP c ho hpr (hr y (by rw [ho]; simp [Op.operands])) hobj h1 h2 h3 h4 h5 h6 h7
    exact this.mono fun v w' hpost => y0y hpost
   ·exact h.elim
  ·exact h.elim
 ·rename_i T x ho
  obtain ⟨h1, h2, h3, hK⟩ := h
  refine ⟨_, _, hK, by rw [(z1j _ _).2]; rfl, by rw [(z1j _ _).1]; rfl, fun Γ w a _ c hr => ?_⟩
  exact (x33 c ho h3 (hr x (by rw [ho]; simp [Op.operands])) h1 h2).mono fun v w' hpost => y0y hpost
 ·rename_i T x ho
  split at h
  ·rename_i k q τ hx
   split at h
   ·rename_i y hobj
    split at h
    ·rename_i eb e cs hat
     obtain ⟨_, h2, h3, h4, h5, hK⟩ := h
     refine ⟨_, _, hK, rfl, rfl, fun Γ w a _ c hr => ?_⟩
     have hxr := hr x (by rw [ho]; simp [Op.operands])
     rw [hx] at hxr
     obtain ⟨b, τ0, o0, hι, hw, hv⟩ := q1t hxr
     obtain ⟨u, r1, r2⟩ := z9k (T := T) hP c hxr hobj (by rw [hat]; simp) h2 (by rw [h3]; rfl)
     rw [hat] at r2
     simp only [view] at r2
     obtain ⟨aa, n, cap, e1, _⟩ := q1m (eb := eb) (e := e) (cs := cs) r2 (by simp [V.q3y, C.elems])
     subst e1
     rw [h3] at hw
     have hcell : w.cell? ⟨b, o0, none⟩ = some (.slice aa n cap) := by
      have r1' := r1
      rw [hv] at r1'
      simp only [Instr.loadAt, Instr.sureAddr, Sem.run_bind, Sem.run_pure, Result.andThen_ok] at r1'
      obtain ⟨b2, cells, E, e1, _, _, e4, e5, e6, e7, _⟩ := c.own hι hobj
      rw [hι] at e1; cases e1
      obtain ⟨g1, g2, g3⟩ := e6.at_ hw (by rw [hat]; simp) e7
      have hcl : (chunk cells.toList 0 y.ty.size).length = y.ty.size := g8 _ _ _ (by simpa using e5)
      rw [hcl] at g2
      simp only [Ty.size] at g2
      obtain ⟨u', q1, q2, q3⟩ := z18 (T := T) (E := E) (fr := (0, 0)) (off := o0) hP (h2.symm.trans h3) rfl e4 (by simp only [Ty.size]; omega) (by
       have := g3.one (by rw [hat]; rfl)
       simp only [Ty.size] at this ⊢
       rwa [Q8 _ _ _ _ _ (by omega), Nat.zero_add] at this)
      rw [r1'] at q1
      cases q1
      simp only [Value.cells, Ty.size] at q2
      have : (chunk cells.toList o0 1)[0]? = some (.slice aa n cap) := by rw [← q2]; rfl
      rw [p8] at this
      simp at this
      simp [World.cell?, e4, this]
     obtain ⟨Γ', t1, t2, t3, t4⟩ := c.take (t := dst) hobj hat h4 h5 hι hw hcell
     refine o8.val (v := .slice aa n cap) (w' := w) (by unfold execOp; simp [ho, r1]) ⟨Γ', t1, t2, t3.congr (fun j => ?_) (fun t => ?_) (fun t ht => ?_), t4⟩
     ·refine (X3 s k j _).trans ?_
      exact (Q9 { s with tk := (dst, some cs.length) :: s.tk } k j _).symm
     ·refine (z9l _ dst t _).trans ?_
      exact (q4Q { s with loc := (k, .box (y.setAt q (.d (.slice eb e) (.slice cs)))) :: s.loc } dst t (some cs.length)).symm
     ·rw [z1R]
      exact (q3r { s with loc := (k, .box (y.setAt q (.d (.slice eb e) (.slice cs)))) :: s.loc } dst t (some cs.length)).symm.trans ht
    ·exact h.elim
   ·exact h.elim
  ·exact h.elim
 ·rename_i T x i y ho
  split at h
  ·rename_i kt et k hT hx
   split at h
   ·rename_i kτ vτ es hobj
    obtain ⟨rfl, rfl, h1, h2, h3, h4, h5, h6, hK⟩ := h
    refine ⟨_, _, hK, rfl, rfl, fun Γ w a _ c hr => ?_⟩
    have hxr := hr x (by rw [ho]; simp [Op.operands])
    rw [hx] at hxr
    have hir := hr i (by rw [ho]; simp [Op.operands])
    have hd : ρ i = .d (ty X.P kt) (ρ i).toC := by
     cases hi : ρ i <;> simp [hi, V.W1] at h3
     subst h3; rfl
    rw [hd] at hir
    exact (y6t hP c ho hT hxr hir (z9A (hr y (by rw [ho]; simp [Op.operands])).b8) hobj h1 h2 h4 h5 h6).mono fun v w' hpost => hpost.congr (fun j => (X3 s k j _).trans (Q9 s k j _).symm) (fun _ => rfl) (fun _ h => h)
   ·exact h.elim
  ·exact h.elim
 ·rename_i cl ho
  obtain ⟨callee, args, ts⟩ := cl
  split at h
  ·rename_i fo hfo
   simp only at hfo h
   subst hfo
   split at h
   ·rename_i f caps hf
    obtain ⟨h1, h2, h3, v, L, D, hg, ht, hK⟩ := h
    refine ⟨_, _, hK, (y7U ..).2, (y7U ..).1, fun Γ w a hgl c hr => ?_⟩
    have hrf := hr fo (by rw [ho]; simp [Op.operands, Call.operands])
    rw [hf] at hrf
    have := y8l (A := s.up) (d := dst) rfl hgl c ho h1 h2 hrf (fun y hy => hr y (by rw [ho]; simp only [Op.operands, Call.operands]; exact Array.mem_append_right _ (Array.mem_toList_iff.1 hy))) h3 D (fun _ _ h => h)
     (fun k o hk => y9l hg hk) (fun j o hj => y9k hg hj) (fun m x hm => x2Q ht hm)
    exact this.mono fun v' w' hpost => hpost.congr (fun k => x3x ..) (fun t => z6x (fun t => y96 ..) t) (fun t hk => by rw [z4Y (fun t => y96 ..)]; exact hk)
   ·exact h.elim
  ·rename_i hb
   simp only at hb h
   subst hb
   split at h
   ·rename_i x y t t' hargs hts
    have hargs' : args = #[x, y] := by cases args; simpa using hargs
    have hts' : ts = #[t, t'] := by cases ts; simpa using hts
    subst hargs'; subst hts'
    obtain ⟨h1, h⟩ := h
    split at h
    ·rename_i eb e eb' e' cs tk htt hx
     obtain ⟨rfl, rfl, hl, h⟩ := h
     obtain ⟨ys, ⟨b1, b2, hK⟩, hs⟩ := q8P hP h
     refine ⟨_, _, hK, rfl, rfl, fun Γ w a _ c hr => ?_⟩
     have hyr := hr y (by rw [ho]; simp [Op.operands, Call.operands])
     have hxr := hr x (by rw [ho]; simp [Op.operands, Call.operands])
     rw [hx] at hxr
     exact (y4e hP c ho htt h1 hl hxr hyr hs b1 b2).mono fun v w' hpost => hpost.congr (fun _ => rfl) (fun u => (z9l s tk u _).trans (q4Q s tk u _).symm) (fun u hu => by rw [z1R]; exact (q3r s tk u _).symm.trans hu)
    ·rename_i eb e k n eb' e' htt hx
     split at h
     ·rename_i M e2 cc hobj
      obtain ⟨rfl, rfl, rfl, d, hd, h⟩ := h
      obtain ⟨ys, ⟨b0, b1, b2, hK⟩, hs⟩ := q8P hP h
      refine ⟨_, _, hK, rfl, rfl, fun Γ w a _ c hr => ?_⟩
      have hyr := hr y (by rw [ho]; simp [Op.operands, Call.operands])
      have hxr := hr x (by rw [ho]; simp [Op.operands, Call.operands])
      rw [hx] at hxr
      exact (y4d hP c ho htt h1 hd hobj hxr hyr hs b0 b1 b2).mono fun v w' hpost => hpost.congr (fun j => by rw [X3, X3]; rw [show S.obj { s with loc := (Key.l d, O.box (.d (.arr (n + ys.length) _) (.agg (cc.elems.take n ++ ys)))) :: (k, O.dead _) :: s.loc } j = S.obj { ({ s with loc := (k, O.dead _) :: s.loc } : S) with loc := (Key.l d, _) :: ({ s with loc := (k, O.dead _) :: s.loc } : S).loc } j from rfl, Q9, Q9]) (fun u => rfl) (fun u hu => hu)
     ·exact h.elim
    ·exact h.elim
   ·exact h.elim
  ·rename_i hb
   simp only at hb h
   subst hb
   split at h
   ·rename_i x y t t' hargs hts
    have hargs' : args = #[x, y] := by cases args; simpa using hargs
    have hts' : ts = #[t, t'] := by cases ts; simpa using hts
    subst hargs'; subst hts'
    obtain ⟨h1, h⟩ := h
    split at h
    ·rename_i eb e k q lo n cp eb' e' htt hx
     split at h
     ·rename_i Z hobj
      split at h
      ·rename_i m e2 cc hZ
       obtain ⟨rfl, rfl, rfl, hd, h0, h⟩ := h
       obtain ⟨ys, hK, hs⟩ := q8P hP h
       refine ⟨_, _, hK, rfl, rfl, fun Γ w a _ c hr => ?_⟩
       have hyr := hr y (by rw [ho]; simp [Op.operands, Call.operands])
       have hxr := hr x (by rw [ho]; simp [Op.operands, Call.operands])
       rw [hx] at hxr
       exact (x31 hP c ho htt hobj hZ hd h0 h1 hxr hyr hs).mono fun v w' hpost => hpost.congr (fun j => by rw [X3, Q9]) (fun u => rfl) (fun u hu => hu)
      ·exact h.elim
     ·exact h.elim
    ·exact h.elim
   ·exact h.elim
  ·exact h.elim
 ·exact h.elim
end
end Go.E
